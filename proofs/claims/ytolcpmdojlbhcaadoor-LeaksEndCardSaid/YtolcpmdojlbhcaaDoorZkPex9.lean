/- Part of the proof that the law leaksEnd is true for every input. No conditions. Laid by a program of this session over the kit's print and words; declarations that nothing names are left out. -/
import Derived.Test.YtolcpmdojlbhcaaDoorZkPex0
import Derived.Test.YtolcpmdojlbhcaaDoorZkPex5
import Derived.Test.YtolcpmdojlbhcaaDoorZkPex7
import Derived.Test.YtolcpmdojlbhcaaDoorZkPex8
namespace Go.Proofs.YtolcpmdojlbhcaaDoor.Pe
open Go.RowKit Go.Proofs.YtolcpmdojlbhcaaDoor.GBase Go.Proofs.YtolcpmdojlbhcaaDoorW.PrintWords Go.Proofs.YtolcpmdojlbhcaaDoorW.PrintLast Go.Proofs.YtolcpmdojlbhcaaDoorW.PrintMore
attribute [local go_sem] str_leq max2_int min2_int max_two min_two max_three min_three max_four min_four
set_option linter.unusedVariables false
set_option linter.unusedSimpArgs false
mutual
def privilege_Widen.l0 : Nat → ByteArray → List (S46) → List (S46) → Int → Int → Option ((List (S46)) × Int)
  | 0, _, _, _, _, _ => none
  | k + 1, x0, x7, x16, x17, x18 => if x18 < x17 then (if 0 ≤ x18 then (if x18 < (x16.length : Int) then (privilege_Widen.l1 k x0 x7 x16 x17 x18 ((rd_T46 x16 x18).f0) ((rd_T46 x16 x18).f1)) else (none)) else (none)) else ((privilege_put.f k x7).bind fun t270 => (some (t270, 0)))
def privilege_Widen.j2 : Nat → ByteArray → List (S46) → List (S46) → Int → Int → Int → Int → Option ((List (S46)) × Int)
  | 0, _, _, _, _, _, _, _ => none
  | k + 1, x0, x7, x16, x17, x18, x275000, x275001 => privilege_Widen.l2 k x0 x7 x16 x17 x18 x275000 x275001
def privilege_Widen.l2 : Nat → ByteArray → List (S46) → List (S46) → Int → Int → Int → Int → Option ((List (S46)) × Int)
  | 0, _, _, _, _, _, _, _ => none
  | k + 1, x0, x7, x16, x17, x18, x275000, x275001 => if x275001 < (x0.size : Int) then (if 0 ≤ x275001 then ((privilege_letter.f (bt x0 x275001)).bind fun t279 => (if t279 = true then (if 0 ≤ (wrap64 (x275001 - 1)) then (if (wrap64 (x275001 - 1)) < (x0.size : Int) then ((privilege_letter.f (bt x0 (wrap64 (x275001 - 1)))).bind fun t280 => (if t280 = true then (privilege_Widen.l2 k x0 x7 x16 x17 x18 x275000 (wrap64 (x275001 + 1))) else ((privilege_inside.f x0 x275001).bind fun t281 => (if t281 = true then (privilege_Widen.l2 k x0 x7 x16 x17 x18 x275000 (wrap64 (x275001 + 1))) else (if x7.length < 8796093022208 then (privilege_Widen.l0 k x0 (x7 ++ [(⟨x275000, x275001⟩ : S46)]) x16 x17 (wrap64 (x18 + 1))) else (none)))))) else (none)) else (none)) else ((privilege_inside.f x0 x275001).bind fun t285 => (if t285 = true then (privilege_Widen.l2 k x0 x7 x16 x17 x18 x275000 (wrap64 (x275001 + 1))) else (if x7.length < 8796093022208 then (privilege_Widen.l0 k x0 (x7 ++ [(⟨x275000, x275001⟩ : S46)]) x16 x17 (wrap64 (x18 + 1))) else (none)))))) else (none)) else (if x7.length < 8796093022208 then (privilege_Widen.l0 k x0 (x7 ++ [(⟨x275000, x275001⟩ : S46)]) x16 x17 (wrap64 (x18 + 1))) else (none))
def privilege_Widen.l1 : Nat → ByteArray → List (S46) → List (S46) → Int → Int → Int → Int → Option ((List (S46)) × Int)
  | 0, _, _, _, _, _, _, _ => none
  | k + 1, x0, x7, x16, x17, x18, x275000, x275001 => if x275000 > 0 then (if 0 ≤ (wrap64 (x275000 - 1)) then (if (wrap64 (x275000 - 1)) < (x0.size : Int) then ((privilege_letter.f (bt x0 (wrap64 (x275000 - 1)))).bind fun t275 => (if t275 = true then (if 0 ≤ x275000 then (if x275000 < (x0.size : Int) then ((privilege_letter.f (bt x0 x275000)).bind fun t276 => (if t276 = true then (privilege_Widen.l1 k x0 x7 x16 x17 x18 (wrap64 (x275000 - 1)) x275001) else ((privilege_inside.f x0 x275000).bind fun t277 => (if t277 = true then (privilege_Widen.l1 k x0 x7 x16 x17 x18 (wrap64 (x275000 - 1)) x275001) else (privilege_Widen.j2 k x0 x7 x16 x17 x18 x275000 x275001))))) else (none)) else (none)) else ((privilege_inside.f x0 x275000).bind fun t278 => (if t278 = true then (privilege_Widen.l1 k x0 x7 x16 x17 x18 (wrap64 (x275000 - 1)) x275001) else (privilege_Widen.j2 k x0 x7 x16 x17 x18 x275000 x275001))))) else (none)) else (none)) else (privilege_Widen.j2 k x0 x7 x16 x17 x18 x275000 x275001)
end
def privilege_Widen.f (k : Nat) (a0 : ByteArray) (l1 : List (S46)) : Option ((List (S46)) × Int) := (privilege_textError.f k a0 l1).bind fun t269 => (if t269 = 0 then (privilege_Widen.l0 k a0 ([] : List (S46)) l1 (l1.length : Int) 0) else (some (([] : List (S46)), t269)))
theorem privilege_Widen.mono_l : ∀ k, (∀ y0 y1 y2 y3 y4, LeO (privilege_Widen.l0 k y0 y1 y2 y3 y4) (privilege_Widen.l0 (k + 1) y0 y1 y2 y3 y4)) ∧ (∀ y0 y1 y2 y3 y4 y5 y6, LeO (privilege_Widen.j2 k y0 y1 y2 y3 y4 y5 y6) (privilege_Widen.j2 (k + 1) y0 y1 y2 y3 y4 y5 y6)) ∧ (∀ y0 y1 y2 y3 y4 y5 y6, LeO (privilege_Widen.l2 k y0 y1 y2 y3 y4 y5 y6) (privilege_Widen.l2 (k + 1) y0 y1 y2 y3 y4 y5 y6)) ∧ (∀ y0 y1 y2 y3 y4 y5 y6, LeO (privilege_Widen.l1 k y0 y1 y2 y3 y4 y5 y6) (privilege_Widen.l1 (k + 1) y0 y1 y2 y3 y4 y5 y6))
  | 0 => ⟨fun _ _ _ _ _ r h => by simp [privilege_Widen.l0] at h, fun _ _ _ _ _ _ _ r h => by simp [privilege_Widen.j2] at h, fun _ _ _ _ _ _ _ r h => by simp [privilege_Widen.l2] at h, fun _ _ _ _ _ _ _ r h => by simp [privilege_Widen.l1] at h⟩
  | k + 1 => by
    obtain ⟨ih0, ih1, ih2, ih3⟩ := privilege_Widen.mono_l k
    refine ⟨?_, ?_, ?_, ?_⟩
    · intro y0 y1 y2 y3 y4
      unfold privilege_Widen.l0
      repeat' first
      | (with_reducible exact ih0 _ _ _ _ _)
      | (with_reducible exact ih1 _ _ _ _ _ _ _)
      | (with_reducible exact ih2 _ _ _ _ _ _ _)
      | (with_reducible exact ih3 _ _ _ _ _ _ _)
      | (with_reducible exact privilege_put.mono _ _)
      | (with_reducible exact privilege_textError.mono _ _ _)
      | (with_reducible exact LeO.refl _)
      | (with_reducible exact LeO.none _)
      | (with_reducible refine LeO.ite ?_ ?_)
      | (with_reducible refine LeO.bind ?_ (fun _ => ?_))
      | exact ih0 _ _ _ _ _
      | exact ih1 _ _ _ _ _ _ _
      | exact ih2 _ _ _ _ _ _ _
      | exact ih3 _ _ _ _ _ _ _
      | exact privilege_put.mono _ _
      | exact privilege_textError.mono _ _ _
      | exact LeO.none _
      | refine LeO.ite ?_ ?_
      | refine LeO.bind ?_ (fun _ => ?_)
    · intro y0 y1 y2 y3 y4 y5 y6
      unfold privilege_Widen.j2
      repeat' first
      | (with_reducible exact ih0 _ _ _ _ _)
      | (with_reducible exact ih1 _ _ _ _ _ _ _)
      | (with_reducible exact ih2 _ _ _ _ _ _ _)
      | (with_reducible exact ih3 _ _ _ _ _ _ _)
      | (with_reducible exact privilege_put.mono _ _)
      | (with_reducible exact privilege_textError.mono _ _ _)
      | (with_reducible exact LeO.refl _)
      | (with_reducible exact LeO.none _)
      | (with_reducible refine LeO.ite ?_ ?_)
      | (with_reducible refine LeO.bind ?_ (fun _ => ?_))
      | exact ih0 _ _ _ _ _
      | exact ih1 _ _ _ _ _ _ _
      | exact ih2 _ _ _ _ _ _ _
      | exact ih3 _ _ _ _ _ _ _
      | exact privilege_put.mono _ _
      | exact privilege_textError.mono _ _ _
      | exact LeO.none _
      | refine LeO.ite ?_ ?_
      | refine LeO.bind ?_ (fun _ => ?_)
    · intro y0 y1 y2 y3 y4 y5 y6
      unfold privilege_Widen.l2
      repeat' first
      | (with_reducible exact ih0 _ _ _ _ _)
      | (with_reducible exact ih1 _ _ _ _ _ _ _)
      | (with_reducible exact ih2 _ _ _ _ _ _ _)
      | (with_reducible exact ih3 _ _ _ _ _ _ _)
      | (with_reducible exact privilege_put.mono _ _)
      | (with_reducible exact privilege_textError.mono _ _ _)
      | (with_reducible exact LeO.refl _)
      | (with_reducible exact LeO.none _)
      | (with_reducible refine LeO.ite ?_ ?_)
      | (with_reducible refine LeO.bind ?_ (fun _ => ?_))
      | exact ih0 _ _ _ _ _
      | exact ih1 _ _ _ _ _ _ _
      | exact ih2 _ _ _ _ _ _ _
      | exact ih3 _ _ _ _ _ _ _
      | exact privilege_put.mono _ _
      | exact privilege_textError.mono _ _ _
      | exact LeO.none _
      | refine LeO.ite ?_ ?_
      | refine LeO.bind ?_ (fun _ => ?_)
    · intro y0 y1 y2 y3 y4 y5 y6
      unfold privilege_Widen.l1
      repeat' first
      | (with_reducible exact ih0 _ _ _ _ _)
      | (with_reducible exact ih1 _ _ _ _ _ _ _)
      | (with_reducible exact ih2 _ _ _ _ _ _ _)
      | (with_reducible exact ih3 _ _ _ _ _ _ _)
      | (with_reducible exact privilege_put.mono _ _)
      | (with_reducible exact privilege_textError.mono _ _ _)
      | (with_reducible exact LeO.refl _)
      | (with_reducible exact LeO.none _)
      | (with_reducible refine LeO.ite ?_ ?_)
      | (with_reducible refine LeO.bind ?_ (fun _ => ?_))
      | exact ih0 _ _ _ _ _
      | exact ih1 _ _ _ _ _ _ _
      | exact ih2 _ _ _ _ _ _ _
      | exact ih3 _ _ _ _ _ _ _
      | exact privilege_put.mono _ _
      | exact privilege_textError.mono _ _ _
      | exact LeO.none _
      | refine LeO.ite ?_ ?_
      | refine LeO.bind ?_ (fun _ => ?_)
theorem privilege_Widen.mono : ∀ a0 a1 k, LeO (privilege_Widen.f k a0 a1) (privilege_Widen.f (k + 1) a0 a1) := by
  intro a0 a1 k
  obtain ⟨ih0, ih1, ih2, ih3⟩ := privilege_Widen.mono_l k
  unfold privilege_Widen.f
  repeat' first
      | (with_reducible exact ih0 _ _ _ _ _)
      | (with_reducible exact ih1 _ _ _ _ _ _ _)
      | (with_reducible exact ih2 _ _ _ _ _ _ _)
      | (with_reducible exact ih3 _ _ _ _ _ _ _)
      | (with_reducible exact privilege_put.mono _ _)
      | (with_reducible exact privilege_textError.mono _ _ _)
      | (with_reducible exact LeO.refl _)
      | (with_reducible exact LeO.none _)
      | (with_reducible refine LeO.ite ?_ ?_)
      | (with_reducible refine LeO.bind ?_ (fun _ => ?_))
      | exact ih0 _ _ _ _ _
      | exact ih1 _ _ _ _ _ _ _
      | exact ih2 _ _ _ _ _ _ _
      | exact ih3 _ _ _ _ _ _ _
      | exact privilege_put.mono _ _
      | exact privilege_textError.mono _ _ _
      | exact LeO.none _
      | refine LeO.ite ?_ ?_
      | refine LeO.bind ?_ (fun _ => ?_)
set_option maxHeartbeats 8000000 in
set_option maxRecDepth 100000 in
theorem privilege_Widen.calls (k : Nat) (a0 : ByteArray) (A1 : Option Addr) (c1 : Nat) (l1 : List (S46)) (r1 : List (S46)) (r2 : Int) (w : World) (hr1 : Kd.C k46 w A1 l1.length l1) (hc1 : l1.length ≤ c1) (hGl : Wd w) (h : privilege_Widen.f k a0 l1 = some (r1, r2)) :
    Calls Tryd.prog 25 #[.string a0, .slice A1 l1.length c1] w fun e w' => ∃ v0_ : Value, e = .returned (.tuple #[v0_, .int .i64 r2]) ∧ Kd.R k46 46 w' w.heap.size (fun _ => True) v0_ r1 ∧ Below w.heap.size w w' := by
  have hu46 := Tryd.underlying46
  have HGl := Aside0.mk hGl
  clear hGl
  have HR1 := Aside0.mk hr1
  have HC1 := Aside0.mk hc1
  clear hr1 hc1
  have HB := Aside0.mk (Below.refl w.heap.size w)
  have H : ((privilege_textError.f k a0 l1).bind fun t269 => (if t269 = 0 then (privilege_Widen.l0 k a0 ([] : List (S46)) l1 (l1.length : Int) 0) else (some (([] : List (S46)), t269)))) = some (r1, r2) := h
  clear h
  replace H := Option.bind_eq_some_iff.mp H
  obtain ⟨t269, A30, H⟩ := H
  replace H : (if t269 = 0 then (privilege_Widen.l0 k a0 ([] : List (S46)) l1 (l1.length : Int) 0) else (some (([] : List (S46)), t269))) = some (r1, r2) := H
  have A3 := Aside0.mk A30
  clear A30
  by_cases c4 : t269 = 0
  · rw [if_pos c4] at H
    have c4b0 : (t269 == 0) = true := beq_iff_eq.mpr c4
    have c4b1 : (t269 != 0) = false := bne_eq_false_iff_eq.mpr c4
    clear c4
    have H' := Aside0.mk H
    clear H
    go_enter Tryd.func25, Tryd.ntmps25
    go_wp2_with (first | ((with_reducible refine gate_callee (f := 53) rfl ?_); refine goesL_ (some 12) rfl rfl Tryd.func53 (by kernel_rfl) rfl #[.string a0, .slice A1 l1.length c1] rfl (by (try simp only [List.map_toArray, List.map_cons, List.map_nil]); first | done | rfl | (simp only [List.length_drop, List.length_take]; rfl)) ?_; (with_reducible refine (privilege_textError.calls k a0 _ _ l1 t269 _ ?side1 ?side2 ?side3 A3.out).mono ?_); (case side1 => repeat (first | exact HR1.out | (with_reducible refine Kd.C_alloc ?_ _) | (with_reducible refine Kd.C_drewN ?_ _) | (with_reducible refine Kd.C_drew ?_))); (case side2 => exact HC1.out); (case side3 => exact Wd.below HGl.out (by repeat (first | (with_reducible first | exact HB.out | apply below_alloc | apply pw_below_drewN | apply below_drew1) | exact HB.out))); rintro e w5 ⟨rfl, hb⟩; refine ⟨_, rfl, ?_⟩; have n0_ := Aside0.mk (below_step (by repeat (first | (with_reducible first | exact HB.out | apply below_alloc | apply pw_below_drewN | apply below_drew1) | exact HB.out)) hb); clear HB; have HB := n0_; clear n0_; (try clear hb); (try clear hb2); (try clear hk); (try clear hi)))
    go_loopg [7, 18] k (fun kq v7 v18 w' => ∃ (x7_1 : List (S46)) (x18_1 : Int), v18 = .int .i64 x18_1 ∧ Aside0 (privilege_Widen.l0 kq a0 x7_1 l1 (l1.length : Int) x18_1 = some (r1, r2)) ∧ Aside0 (kq ≤ k) ∧ Aside0 (Kd.R k46 46 w' w.heap.size (fun _ => True) v7 x7_1) ∧ Aside0 (Below w.heap.size w w'))
    case atStart => exact ⟨(([] : List (S46))), (0), (by first | rfl | (simp; done) | (simp [*]; done)), H', ⟨Nat.le_refl _⟩, ⟨by first | exact Kd.R_nil _ _ _ _ _ | exact Kd.N_nil _ _ _ _ _ | exact Kd.V_nil _ _ _ _ _ | exact Kd.Q_nil _ _ _ _ _ | exact Kd.S_nil _ _ _ _ _⟩, ⟨by repeat (first | (with_reducible first | exact HB.out | apply below_alloc | apply pw_below_drewN | apply below_drew1) | exact HB.out)⟩⟩
    case round =>
      clear H'
      try clear c1
      try clear c2
      try clear p2
      try clear c4
      try clear c4b0
      try clear c4b1
      try clear c5
      obtain ⟨x7_1, x18_1, rfl, HA, HK1, HO_7, HB⟩ := hrel
      cases gk with
      | zero => exact absurd HA.out (by simp [privilege_Widen.l0])
      | succ k1 =>
        have H := HA.out
        clear HA
        simp only [privilege_Widen.l0] at H
        by_cases c6 : x18_1 < (l1.length : Int)
        · rw [if_pos c6] at H
          have c6b0 : decide (x18_1 < (l1.length : Int)) = true := decide_eq_true c6
          clear c6
          by_cases c7 : 0 ≤ x18_1
          · rw [if_pos c7] at H
            have c7b0 : decide (0 ≤ x18_1) = true := decide_eq_true c7
            clear c7
            by_cases c8 : x18_1 < (l1.length : Int)
            · rw [if_pos c8] at H
              have c8b0 : decide (x18_1 < (l1.length : Int)) = true := decide_eq_true c8
              clear c8
              have HC9 := Aside0.mk H
              clear H
              have p273 : 0 ≤ (x18_1 : Int) := of_decide_eq_true (by first | (with_reducible assumption) | assumption)
              have q273 : x18_1 < (l1.length : Int) := of_decide_eq_true (by first | (with_reducible assumption) | assumption)
              obtain ⟨ad273, e273, hx273_0, hx273_1⟩ := at_T46 HR1.out x18_1 p273 q273
              cases e273
              first | replace hx273_0 := (HB.out.cell (World.block_lt_of_cell? w _ hx273_0)).trans hx273_0 | skip
              first | replace hx273_1 := (HB.out.cell (World.block_lt_of_cell? w _ hx273_1)).trans hx273_1 | skip
              replace p273 := eq_true p273
              replace q273 := eq_true q273
              go_upto_block 2 with (first | ((with_reducible refine gate_dst (N := 9) rfl ?_); refine box_event ?hg (N := 9) ?hd (cs := #[.int .i64 0, .int .i64 0]) (t := 46) ?hr ?_; (case hd => rfl); (case hg => rfl); (case hr => first | (go_simp; done) | (go_simp; rfl)); intro gb274 hg w10 hbox hb; have n0_ := Aside0.mk (Kd.R_below (Kd.R_elderB (by (with_reducible repeat (first | apply Kd.R_alloc | apply Kd.R_drewN | apply Kd.R_drew)); exact HO_7.out) gb274 (Nat.le_of_eq hg.symm)) hb); have n1_ := Aside0.mk (below_step (by repeat (first | (with_reducible first | exact HB.out | apply below_alloc | apply pw_below_drewN | apply below_drew1) | exact HB.out)) hb); have n2_ := Aside0.mk (hbox); have n3_ := Aside0.mk ((by rw [hg]; exact (below_size (by repeat (first | (with_reducible first | exact HB.out | apply below_alloc | apply pw_below_drewN | apply below_drew1) | exact HB.out))) : w.heap.size ≤ gb274)); have n4_ := Aside0.mk ((by rw [hg]; exact (below_size (by repeat (first | (with_reducible first | exact HB.out | apply below_alloc | apply pw_below_drewN | apply below_drew1) | exact HB.out))) : w.heap.size ≤ gb274)); clear HO_7; clear HB; have HO_7 := n0_; have HB := n1_; have BK274 := n2_; have GW274 := n3_; have GE274 := n4_; clear n0_ n1_ n2_ n3_ n4_; clear hb hbox hg; have hcz11_0 : w10.cell? ⟨gb274, 0, none⟩ = some (.int .i64 0) := (blk_cell BK274.out 0).trans rfl; have hcz11_1 : w10.cell? ⟨gb274, 1, none⟩ = some (.int .i64 0) := (blk_cell BK274.out 1).trans rfl; have hfz11_0 := blk_frozen BK274.out 0; have hfz11_1 := blk_frozen BK274.out 1))
              (try simp only [Act.put, List.setIfInBounds_toArray, List.set_cons_zero, List.set_cons_succ])
              go_cut [] (fun wc => ∃ (kq : Nat) (x275000_8 : Int), Aside0 (privilege_Widen.j2 kq a0 x7_1 l1 (l1.length : Int) x18_1 x275000_8 ((rd_T46 l1 x18_1).f1) = some (r1, r2)) ∧ Aside0 (kq ≤ k1) ∧ Aside0 (Kd.R k46 46 wc w.heap.size (fun k_ => k_ ≠ gb274) u7 x7_1) ∧ Aside0 (wc.heap[gb274]? = some (.cells #[.int .i64 x275000_8, .int .i64 ((rd_T46 l1 x18_1).f1)] 46 (0, 0))) ∧ Aside0 (Below w.heap.size w wc))
              case first =>
                have H := HC9.out
                clear HC9
                have H' := Aside0.mk H
                clear H
                go_wp2
                go_loopg [] k1 (fun kq w' => ∃ (x275000_2 : Int), Aside0 (privilege_Widen.l1 kq a0 x7_1 l1 (l1.length : Int) x18_1 x275000_2 ((rd_T46 l1 x18_1).f1) = some (r1, r2)) ∧ Aside0 (kq ≤ k1) ∧ Aside0 (Kd.R k46 46 w' w.heap.size (fun k_ => k_ ≠ gb274) u7 x7_1) ∧ Aside0 (w'.heap[gb274]? = some (.cells #[.int .i64 x275000_2, .int .i64 ((rd_T46 l1 x18_1).f1)] 46 (0, 0))) ∧ Aside0 (Below w.heap.size w w'))
                case atStart => exact ⟨((rd_T46 l1 x18_1).f0), H', ⟨Nat.le_refl _⟩, ⟨by (with_reducible repeat (first | apply Kd.R_alloc | apply Kd.R_drewN | apply Kd.R_drew)); exact Kd.R_mono (Kd.R_far (p := ⟨gb274, 1, none⟩) (Kd.R_far (p := ⟨gb274, 0, none⟩) (Kd.R_mono HO_7.out (fun k_ hk => (⟨hk, hk.2⟩ : _ ∧ k_ ≠ gb274))) (fun _ hk => hk.2) (.int .i64 ((rd_T46 l1 x18_1).f0))) (fun _ hk => hk.2) (.int .i64 ((rd_T46 l1 x18_1).f1))) (fun _ hk => hk.1.2)⟩, ⟨by (with_reducible repeat (first | refine blk_drewN ?_ _ | refine blk_drew ?_ | refine blk_alloc ?_ _)); refine blk_put (cs := #[.int .i64 ((rd_T46 l1 x18_1).f0), .int .i64 0]) ?_ 1 _ rfl; (with_reducible repeat (first | refine blk_drewN ?_ _ | refine blk_drew ?_ | refine blk_alloc ?_ _)); refine blk_put (cs := #[.int .i64 0, .int .i64 0]) ?_ 0 _ rfl; (with_reducible repeat (first | refine blk_drewN ?_ _ | refine blk_drew ?_ | refine blk_alloc ?_ _)); exact BK274.out⟩, ⟨by repeat (first | (with_reducible first | exact HB.out | apply below_alloc | apply pw_below_drewN | apply below_drew1 | refine below_set ?_ GE274.out) | exact HB.out)⟩⟩
                case round =>
                  clear H'
                  try clear c1
                  try clear c2
                  try clear p2
                  try clear q2
                  try clear hx2
                  try clear c4
                  try clear c4b0
                  try clear c4b1
                  try clear c5
                  try clear c6
                  try clear c6b0
                  try clear c7
                  try clear c7b0
                  try clear c8
                  try clear c8b0
                  try clear hcz11_0
                  try clear hcz11_1
                  try clear hfz11_0
                  try clear hfz11_1
                  try clear hx273_0
                  try clear hx273_1
                  try clear p2
                  try clear p273
                  try clear q273
                  obtain ⟨x275000_2, HA, HK2, HO_7, BK274, HB⟩ := hrel
                  cases gk with
                  | zero => exact absurd HA.out (by simp [privilege_Widen.l1])
                  | succ k2 =>
                    have H := HA.out
                    clear HA
                    simp only [privilege_Widen.l1] at H
                    by_cases c12 : x275000_2 > 0
                    · rw [if_pos c12] at H
                      have c12b0 : decide (0 < x275000_2) = true := decide_eq_true c12
                      clear c12
                      (first | rw [c12b0] | (simp only [i64_w, i32_w]; rw [c12b0]) | skip)
                      obtain ⟨ji13, hji13⟩ : ∃ j_ : Int, (wrap64 (x275000_2 - 1)) = j_ := ⟨_, rfl⟩
                      replace H : (if 0 ≤ (ji13) then (if (ji13) < (a0.size : Int) then ((privilege_letter.f (bt a0 (ji13))).bind fun t275 => (if t275 = true then (if 0 ≤ x275000_2 then (if x275000_2 < (a0.size : Int) then ((privilege_letter.f (bt a0 x275000_2)).bind fun t276 => (if t276 = true then (privilege_Widen.l1 k2 a0 x7_1 l1 (l1.length : Int) x18_1 ji13 ((rd_T46 l1 x18_1).f1)) else ((privilege_inside.f a0 x275000_2).bind fun t277 => (if t277 = true then (privilege_Widen.l1 k2 a0 x7_1 l1 (l1.length : Int) x18_1 ji13 ((rd_T46 l1 x18_1).f1)) else (privilege_Widen.j2 k2 a0 x7_1 l1 (l1.length : Int) x18_1 x275000_2 ((rd_T46 l1 x18_1).f1)))))) else (none)) else (none)) else ((privilege_inside.f a0 x275000_2).bind fun t278 => (if t278 = true then (privilege_Widen.l1 k2 a0 x7_1 l1 (l1.length : Int) x18_1 ji13 ((rd_T46 l1 x18_1).f1)) else (privilege_Widen.j2 k2 a0 x7_1 l1 (l1.length : Int) x18_1 x275000_2 ((rd_T46 l1 x18_1).f1)))))) else (none)) else (none)) = some (r1, r2) := by first | (rw [hji13] at H; exact H) | (simp only [hji13] at H ⊢; exact H)
                      have hji13w : (IntKind.i64.wrap (x275000_2 - 1)) = ji13 := (i64_w _).trans hji13
                      by_cases c14 : 0 ≤ (ji13)
                      · rw [if_pos c14] at H
                        have c14b0 : decide (0 ≤ (ji13)) = true := decide_eq_true c14
                        clear c14
                        by_cases c15 : (ji13) < (a0.size : Int)
                        · rw [if_pos c15] at H
                          have c15b0 : decide ((ji13) < (a0.size : Int)) = true := decide_eq_true c15
                          clear c15
                          replace H := Option.bind_eq_some_iff.mp H
                          obtain ⟨t275, A170, H⟩ := H
                          replace H : (if t275 = true then (if 0 ≤ x275000_2 then (if x275000_2 < (a0.size : Int) then ((privilege_letter.f (bt a0 x275000_2)).bind fun t276 => (if t276 = true then (privilege_Widen.l1 k2 a0 x7_1 l1 (l1.length : Int) x18_1 ji13 ((rd_T46 l1 x18_1).f1)) else ((privilege_inside.f a0 x275000_2).bind fun t277 => (if t277 = true then (privilege_Widen.l1 k2 a0 x7_1 l1 (l1.length : Int) x18_1 ji13 ((rd_T46 l1 x18_1).f1)) else (privilege_Widen.j2 k2 a0 x7_1 l1 (l1.length : Int) x18_1 x275000_2 ((rd_T46 l1 x18_1).f1)))))) else (none)) else (none)) else ((privilege_inside.f a0 x275000_2).bind fun t278 => (if t278 = true then (privilege_Widen.l1 k2 a0 x7_1 l1 (l1.length : Int) x18_1 ji13 ((rd_T46 l1 x18_1).f1)) else (privilege_Widen.j2 k2 a0 x7_1 l1 (l1.length : Int) x18_1 x275000_2 ((rd_T46 l1 x18_1).f1))))) = some (r1, r2) := H
                          have A17 := Aside0.mk A170
                          clear A170
                          by_cases c18 : t275 = true
                          · subst c18
                            have H1 : (if 0 ≤ x275000_2 then (if x275000_2 < (a0.size : Int) then ((privilege_letter.f (bt a0 x275000_2)).bind fun t276 => (if t276 = true then (privilege_Widen.l1 k2 a0 x7_1 l1 (l1.length : Int) x18_1 ji13 ((rd_T46 l1 x18_1).f1)) else ((privilege_inside.f a0 x275000_2).bind fun t277 => (if t277 = true then (privilege_Widen.l1 k2 a0 x7_1 l1 (l1.length : Int) x18_1 ji13 ((rd_T46 l1 x18_1).f1)) else (privilege_Widen.j2 k2 a0 x7_1 l1 (l1.length : Int) x18_1 x275000_2 ((rd_T46 l1 x18_1).f1)))))) else (none)) else (none)) = some (r1, r2) := by rw [if_pos rfl] at H; exact H
                            clear H
                            have H := H1
                            clear H1
                            by_cases c19 : 0 ≤ x275000_2
                            · rw [if_pos c19] at H
                              have c19b0 : decide (0 ≤ x275000_2) = true := decide_eq_true c19
                              clear c19
                              by_cases c20 : x275000_2 < (a0.size : Int)
                              · rw [if_pos c20] at H
                                have c20b0 : decide (x275000_2 < (a0.size : Int)) = true := decide_eq_true c20
                                clear c20
                                replace H := Option.bind_eq_some_iff.mp H
                                obtain ⟨t276, A220, H⟩ := H
                                replace H : (if t276 = true then (privilege_Widen.l1 k2 a0 x7_1 l1 (l1.length : Int) x18_1 ji13 ((rd_T46 l1 x18_1).f1)) else ((privilege_inside.f a0 x275000_2).bind fun t277 => (if t277 = true then (privilege_Widen.l1 k2 a0 x7_1 l1 (l1.length : Int) x18_1 ji13 ((rd_T46 l1 x18_1).f1)) else (privilege_Widen.j2 k2 a0 x7_1 l1 (l1.length : Int) x18_1 x275000_2 ((rd_T46 l1 x18_1).f1))))) = some (r1, r2) := H
                                have A22 := Aside0.mk A220
                                clear A220
                                by_cases c23 : t276 = true
                                · subst c23
                                  have H1 : (privilege_Widen.l1 k2 a0 x7_1 l1 (l1.length : Int) x18_1 ji13 ((rd_T46 l1 x18_1).f1)) = some (r1, r2) := by rw [if_pos rfl] at H; exact H
                                  clear H
                                  have H := H1
                                  clear H1
                                  have H' := Aside0.mk H
                                  clear H
                                  have hcz24_0 : wr.cell? ⟨gb274, 0, none⟩ = some (.int .i64 x275000_2) := (blk_cell BK274.out 0).trans rfl
                                  have hcz24_1 : wr.cell? ⟨gb274, 1, none⟩ = some (.int .i64 ((rd_T46 l1 x18_1).f1)) := (blk_cell BK274.out 1).trans rfl
                                  have hfz24_0 := blk_frozen BK274.out 0
                                  have hfz24_1 := blk_frozen BK274.out 1
                                  have p16 : 0 ≤ ((ji13) : Int) := of_decide_eq_true (by first | (with_reducible assumption) | assumption)
                                  have q16 : (ji13) < (a0.size : Int) := of_decide_eq_true (by first | (with_reducible assumption) | assumption)
                                  have hx16 := bt_at a0 (ji13)
                                  replace p16 := eq_true p16
                                  replace q16 := eq_true q16
                                  go_wp2_with (first | (go_at_call 60; (with_reducible refine (privilege_letter.calls (bt a0 (ji13)) true _ A17.out).mono ?_); rintro e w' ⟨rfl, ⟨nd, rfl⟩⟩; (try (rw [drewN_self wr]; generalize hq_ : World.drewN wr _ = wr; have n0_ : Aside0 (Kd.R k46 46 wr w.heap.size (fun k_ => k_ ≠ gb274) u7 x7_1) := ⟨by rw [← hq_]; exact (by (with_reducible repeat (first | apply Kd.R_alloc | apply Kd.R_drewN | apply Kd.R_drew)); exact HO_7.out)⟩; have n1_ : Aside0 (wr.heap[gb274]? = some (.cells #[.int .i64 x275000_2, .int .i64 ((rd_T46 l1 x18_1).f1)] 46 (0, 0))) := ⟨by rw [← hq_]; exact (by (with_reducible repeat (first | refine blk_drewN ?_ _ | refine blk_drew ?_ | refine blk_alloc ?_ _)); exact BK274.out)⟩; have n2_ : Aside0 (Below w.heap.size w wr) := ⟨by rw [← hq_]; exact (by repeat (first | (with_reducible first | exact HB.out | apply below_alloc | apply pw_below_drewN | apply below_drew1 | refine below_set ?_ GE274.out) | exact HB.out))⟩; clear HO_7 BK274 HB hq_; have HO_7 := n0_; have BK274 := n1_; have HB := n2_; clear n0_ n1_ n2_; clear hcz24_0 hcz24_1 hfz24_0 hfz24_1; have hcz24_0 : wr.cell? ⟨gb274, 0, none⟩ = some (.int .i64 x275000_2) := (blk_cell BK274.out 0).trans rfl; have hcz24_1 : wr.cell? ⟨gb274, 1, none⟩ = some (.int .i64 ((rd_T46 l1 x18_1).f1)) := (blk_cell BK274.out 1).trans rfl; have hfz24_0 := blk_frozen BK274.out 0; have hfz24_1 := blk_frozen BK274.out 1)); have p21 : 0 ≤ (x275000_2 : Int) := of_decide_eq_true (by first | (with_reducible assumption) | assumption); have q21 : x275000_2 < (a0.size : Int) := of_decide_eq_true (by first | (with_reducible assumption) | assumption); have hx21 := bt_at a0 x275000_2; replace p21 := eq_true p21; replace q21 := eq_true q21) | (go_at_call 60; (with_reducible refine (privilege_letter.calls (bt a0 x275000_2) true _ A22.out).mono ?_); rintro e w' ⟨rfl, ⟨nd, rfl⟩⟩; (try (rw [drewN_self wr]; generalize hq_ : World.drewN wr _ = wr; have n0_ : Aside0 (Kd.R k46 46 wr w.heap.size (fun k_ => k_ ≠ gb274) u7 x7_1) := ⟨by rw [← hq_]; exact (by (with_reducible repeat (first | apply Kd.R_alloc | apply Kd.R_drewN | apply Kd.R_drew)); exact HO_7.out)⟩; have n1_ : Aside0 (wr.heap[gb274]? = some (.cells #[.int .i64 x275000_2, .int .i64 ((rd_T46 l1 x18_1).f1)] 46 (0, 0))) := ⟨by rw [← hq_]; exact (by (with_reducible repeat (first | refine blk_drewN ?_ _ | refine blk_drew ?_ | refine blk_alloc ?_ _)); exact BK274.out)⟩; have n2_ : Aside0 (Below w.heap.size w wr) := ⟨by rw [← hq_]; exact (by repeat (first | (with_reducible first | exact HB.out | apply below_alloc | apply pw_below_drewN | apply below_drew1 | refine below_set ?_ GE274.out) | exact HB.out))⟩; clear HO_7 BK274 HB hq_; have HO_7 := n0_; have BK274 := n1_; have HB := n2_; clear n0_ n1_ n2_; clear hcz24_0 hcz24_1 hfz24_0 hfz24_1; have hcz24_0 : wr.cell? ⟨gb274, 0, none⟩ = some (.int .i64 x275000_2) := (blk_cell BK274.out 0).trans rfl; have hcz24_1 : wr.cell? ⟨gb274, 1, none⟩ = some (.int .i64 ((rd_T46 l1 x18_1).f1)) := (blk_cell BK274.out 1).trans rfl; have hfz24_0 := blk_frozen BK274.out 0; have hfz24_1 := blk_frozen BK274.out 1))))
                                  go_roundg k2
                                  case measure => have := HK1.out; have := HK2.out; omega
                                  case rel => exact ⟨(ji13), H', ⟨by have := HK1.out; have := HK2.out; omega⟩, ⟨by (with_reducible repeat (first | apply Kd.R_alloc | apply Kd.R_drewN | apply Kd.R_drew)); exact Kd.R_mono (Kd.R_far (p := ⟨gb274, 0, none⟩) (Kd.R_mono HO_7.out (fun k_ hk => (⟨hk, hk⟩ : _ ∧ k_ ≠ gb274))) (fun _ hk => hk.2) (.int .i64 ji13)) (fun _ hk => hk.1)⟩, ⟨by (with_reducible repeat (first | refine blk_drewN ?_ _ | refine blk_drew ?_ | refine blk_alloc ?_ _)); refine blk_put (cs := #[.int .i64 x275000_2, .int .i64 ((rd_T46 l1 x18_1).f1)]) ?_ 0 _ rfl; (with_reducible repeat (first | refine blk_drewN ?_ _ | refine blk_drew ?_ | refine blk_alloc ?_ _)); exact BK274.out⟩, ⟨by repeat (first | (with_reducible first | exact HB.out | apply below_alloc | apply pw_below_drewN | apply below_drew1 | refine below_set ?_ GE274.out) | exact HB.out)⟩⟩
                                · replace c23 := Bool.eq_false_iff.mpr c23
                                  subst c23
                                  have H1 : ((privilege_inside.f a0 x275000_2).bind fun t277 => (if t277 = true then (privilege_Widen.l1 k2 a0 x7_1 l1 (l1.length : Int) x18_1 ji13 ((rd_T46 l1 x18_1).f1)) else (privilege_Widen.j2 k2 a0 x7_1 l1 (l1.length : Int) x18_1 x275000_2 ((rd_T46 l1 x18_1).f1)))) = some (r1, r2) := by rw [if_neg (show ¬ (false = true) by decide)] at H; exact H
                                  clear H
                                  have H := H1
                                  clear H1
                                  replace H := Option.bind_eq_some_iff.mp H
                                  obtain ⟨t277, A250, H⟩ := H
                                  replace H : (if t277 = true then (privilege_Widen.l1 k2 a0 x7_1 l1 (l1.length : Int) x18_1 ji13 ((rd_T46 l1 x18_1).f1)) else (privilege_Widen.j2 k2 a0 x7_1 l1 (l1.length : Int) x18_1 x275000_2 ((rd_T46 l1 x18_1).f1))) = some (r1, r2) := H
                                  have A25 := Aside0.mk A250
                                  clear A250
                                  by_cases c26 : t277 = true
                                  · subst c26
                                    have H1 : (privilege_Widen.l1 k2 a0 x7_1 l1 (l1.length : Int) x18_1 ji13 ((rd_T46 l1 x18_1).f1)) = some (r1, r2) := by rw [if_pos rfl] at H; exact H
                                    clear H
                                    have H := H1
                                    clear H1
                                    have H' := Aside0.mk H
                                    clear H
                                    have hcz27_0 : wr.cell? ⟨gb274, 0, none⟩ = some (.int .i64 x275000_2) := (blk_cell BK274.out 0).trans rfl
                                    have hcz27_1 : wr.cell? ⟨gb274, 1, none⟩ = some (.int .i64 ((rd_T46 l1 x18_1).f1)) := (blk_cell BK274.out 1).trans rfl
                                    have hfz27_0 := blk_frozen BK274.out 0
                                    have hfz27_1 := blk_frozen BK274.out 1
                                    have p16 : 0 ≤ ((ji13) : Int) := of_decide_eq_true (by first | (with_reducible assumption) | assumption)
                                    have q16 : (ji13) < (a0.size : Int) := of_decide_eq_true (by first | (with_reducible assumption) | assumption)
                                    have hx16 := bt_at a0 (ji13)
                                    replace p16 := eq_true p16
                                    replace q16 := eq_true q16
                                    go_wp2_with (first | (go_at_call 60; (with_reducible refine (privilege_letter.calls (bt a0 (ji13)) true _ A17.out).mono ?_); rintro e w' ⟨rfl, ⟨nd, rfl⟩⟩; (try (rw [drewN_self wr]; generalize hq_ : World.drewN wr _ = wr; have n0_ : Aside0 (Kd.R k46 46 wr w.heap.size (fun k_ => k_ ≠ gb274) u7 x7_1) := ⟨by rw [← hq_]; exact (by (with_reducible repeat (first | apply Kd.R_alloc | apply Kd.R_drewN | apply Kd.R_drew)); exact HO_7.out)⟩; have n1_ : Aside0 (wr.heap[gb274]? = some (.cells #[.int .i64 x275000_2, .int .i64 ((rd_T46 l1 x18_1).f1)] 46 (0, 0))) := ⟨by rw [← hq_]; exact (by (with_reducible repeat (first | refine blk_drewN ?_ _ | refine blk_drew ?_ | refine blk_alloc ?_ _)); exact BK274.out)⟩; have n2_ : Aside0 (Below w.heap.size w wr) := ⟨by rw [← hq_]; exact (by repeat (first | (with_reducible first | exact HB.out | apply below_alloc | apply pw_below_drewN | apply below_drew1 | refine below_set ?_ GE274.out) | exact HB.out))⟩; clear HO_7 BK274 HB hq_; have HO_7 := n0_; have BK274 := n1_; have HB := n2_; clear n0_ n1_ n2_; clear hcz27_0 hcz27_1 hfz27_0 hfz27_1; have hcz27_0 : wr.cell? ⟨gb274, 0, none⟩ = some (.int .i64 x275000_2) := (blk_cell BK274.out 0).trans rfl; have hcz27_1 : wr.cell? ⟨gb274, 1, none⟩ = some (.int .i64 ((rd_T46 l1 x18_1).f1)) := (blk_cell BK274.out 1).trans rfl; have hfz27_0 := blk_frozen BK274.out 0; have hfz27_1 := blk_frozen BK274.out 1)); have p21 : 0 ≤ (x275000_2 : Int) := of_decide_eq_true (by first | (with_reducible assumption) | assumption); have q21 : x275000_2 < (a0.size : Int) := of_decide_eq_true (by first | (with_reducible assumption) | assumption); have hx21 := bt_at a0 x275000_2; replace p21 := eq_true p21; replace q21 := eq_true q21) | (go_at_call 60; (with_reducible refine (privilege_letter.calls (bt a0 x275000_2) false _ A22.out).mono ?_); rintro e w' ⟨rfl, ⟨nd, rfl⟩⟩; (try (rw [drewN_self wr]; generalize hq_ : World.drewN wr _ = wr; have n0_ : Aside0 (Kd.R k46 46 wr w.heap.size (fun k_ => k_ ≠ gb274) u7 x7_1) := ⟨by rw [← hq_]; exact (by (with_reducible repeat (first | apply Kd.R_alloc | apply Kd.R_drewN | apply Kd.R_drew)); exact HO_7.out)⟩; have n1_ : Aside0 (wr.heap[gb274]? = some (.cells #[.int .i64 x275000_2, .int .i64 ((rd_T46 l1 x18_1).f1)] 46 (0, 0))) := ⟨by rw [← hq_]; exact (by (with_reducible repeat (first | refine blk_drewN ?_ _ | refine blk_drew ?_ | refine blk_alloc ?_ _)); exact BK274.out)⟩; have n2_ : Aside0 (Below w.heap.size w wr) := ⟨by rw [← hq_]; exact (by repeat (first | (with_reducible first | exact HB.out | apply below_alloc | apply pw_below_drewN | apply below_drew1 | refine below_set ?_ GE274.out) | exact HB.out))⟩; clear HO_7 BK274 HB hq_; have HO_7 := n0_; have BK274 := n1_; have HB := n2_; clear n0_ n1_ n2_; clear hcz27_0 hcz27_1 hfz27_0 hfz27_1; have hcz27_0 : wr.cell? ⟨gb274, 0, none⟩ = some (.int .i64 x275000_2) := (blk_cell BK274.out 0).trans rfl; have hcz27_1 : wr.cell? ⟨gb274, 1, none⟩ = some (.int .i64 ((rd_T46 l1 x18_1).f1)) := (blk_cell BK274.out 1).trans rfl; have hfz27_0 := blk_frozen BK274.out 0; have hfz27_1 := blk_frozen BK274.out 1))) | (go_at_call 61; (with_reducible refine (privilege_inside.calls a0 x275000_2 true _ A25.out).mono ?_); rintro e w' ⟨rfl, ⟨nd, rfl⟩⟩; (try (rw [drewN_self wr]; generalize hq_ : World.drewN wr _ = wr; have n0_ : Aside0 (Kd.R k46 46 wr w.heap.size (fun k_ => k_ ≠ gb274) u7 x7_1) := ⟨by rw [← hq_]; exact (by (with_reducible repeat (first | apply Kd.R_alloc | apply Kd.R_drewN | apply Kd.R_drew)); exact HO_7.out)⟩; have n1_ : Aside0 (wr.heap[gb274]? = some (.cells #[.int .i64 x275000_2, .int .i64 ((rd_T46 l1 x18_1).f1)] 46 (0, 0))) := ⟨by rw [← hq_]; exact (by (with_reducible repeat (first | refine blk_drewN ?_ _ | refine blk_drew ?_ | refine blk_alloc ?_ _)); exact BK274.out)⟩; have n2_ : Aside0 (Below w.heap.size w wr) := ⟨by rw [← hq_]; exact (by repeat (first | (with_reducible first | exact HB.out | apply below_alloc | apply pw_below_drewN | apply below_drew1 | refine below_set ?_ GE274.out) | exact HB.out))⟩; clear HO_7 BK274 HB hq_; have HO_7 := n0_; have BK274 := n1_; have HB := n2_; clear n0_ n1_ n2_; clear hcz27_0 hcz27_1 hfz27_0 hfz27_1; have hcz27_0 : wr.cell? ⟨gb274, 0, none⟩ = some (.int .i64 x275000_2) := (blk_cell BK274.out 0).trans rfl; have hcz27_1 : wr.cell? ⟨gb274, 1, none⟩ = some (.int .i64 ((rd_T46 l1 x18_1).f1)) := (blk_cell BK274.out 1).trans rfl; have hfz27_0 := blk_frozen BK274.out 0; have hfz27_1 := blk_frozen BK274.out 1))))
                                    go_roundg k2
                                    case measure => have := HK1.out; have := HK2.out; omega
                                    case rel => exact ⟨(ji13), H', ⟨by have := HK1.out; have := HK2.out; omega⟩, ⟨by (with_reducible repeat (first | apply Kd.R_alloc | apply Kd.R_drewN | apply Kd.R_drew)); exact Kd.R_mono (Kd.R_far (p := ⟨gb274, 0, none⟩) (Kd.R_mono HO_7.out (fun k_ hk => (⟨hk, hk⟩ : _ ∧ k_ ≠ gb274))) (fun _ hk => hk.2) (.int .i64 ji13)) (fun _ hk => hk.1)⟩, ⟨by (with_reducible repeat (first | refine blk_drewN ?_ _ | refine blk_drew ?_ | refine blk_alloc ?_ _)); refine blk_put (cs := #[.int .i64 x275000_2, .int .i64 ((rd_T46 l1 x18_1).f1)]) ?_ 0 _ rfl; (with_reducible repeat (first | refine blk_drewN ?_ _ | refine blk_drew ?_ | refine blk_alloc ?_ _)); exact BK274.out⟩, ⟨by repeat (first | (with_reducible first | exact HB.out | apply below_alloc | apply pw_below_drewN | apply below_drew1 | refine below_set ?_ GE274.out) | exact HB.out)⟩⟩
                                  · replace c26 := Bool.eq_false_iff.mpr c26
                                    subst c26
                                    have H1 : (privilege_Widen.j2 k2 a0 x7_1 l1 (l1.length : Int) x18_1 x275000_2 ((rd_T46 l1 x18_1).f1)) = some (r1, r2) := by rw [if_neg (show ¬ (false = true) by decide)] at H; exact H
                                    clear H
                                    have H := H1
                                    clear H1
                                    have H' := Aside0.mk H
                                    clear H
                                    have hcz28_0 : wr.cell? ⟨gb274, 0, none⟩ = some (.int .i64 x275000_2) := (blk_cell BK274.out 0).trans rfl
                                    have hcz28_1 : wr.cell? ⟨gb274, 1, none⟩ = some (.int .i64 ((rd_T46 l1 x18_1).f1)) := (blk_cell BK274.out 1).trans rfl
                                    have hfz28_0 := blk_frozen BK274.out 0
                                    have hfz28_1 := blk_frozen BK274.out 1
                                    have p16 : 0 ≤ ((ji13) : Int) := of_decide_eq_true (by first | (with_reducible assumption) | assumption)
                                    have q16 : (ji13) < (a0.size : Int) := of_decide_eq_true (by first | (with_reducible assumption) | assumption)
                                    have hx16 := bt_at a0 (ji13)
                                    replace p16 := eq_true p16
                                    replace q16 := eq_true q16
                                    go_wp2_with (first | (go_at_call 60; (with_reducible refine (privilege_letter.calls (bt a0 (ji13)) true _ A17.out).mono ?_); rintro e w' ⟨rfl, ⟨nd, rfl⟩⟩; have p21 : 0 ≤ (x275000_2 : Int) := of_decide_eq_true (by first | (with_reducible assumption) | assumption); have q21 : x275000_2 < (a0.size : Int) := of_decide_eq_true (by first | (with_reducible assumption) | assumption); have hx21 := bt_at a0 x275000_2; replace p21 := eq_true p21; replace q21 := eq_true q21) | (go_at_call 60; (with_reducible refine (privilege_letter.calls (bt a0 x275000_2) false _ A22.out).mono ?_); rintro e w' ⟨rfl, ⟨nd, rfl⟩⟩) | (go_at_call 61; (with_reducible refine (privilege_inside.calls a0 x275000_2 false _ A25.out).mono ?_); rintro e w' ⟨rfl, ⟨nd, rfl⟩⟩))
                                    go_meet
                                    case rel => exact ⟨_, (x275000_2), H', ⟨by have := HK1.out; have := HK2.out; first | omega | exact Nat.le_refl _⟩, ⟨by (with_reducible repeat (first | apply Kd.R_alloc | apply Kd.R_drewN | apply Kd.R_drew)); exact HO_7.out⟩, ⟨by (with_reducible repeat (first | refine blk_drewN ?_ _ | refine blk_drew ?_ | refine blk_alloc ?_ _)); exact BK274.out⟩, ⟨by repeat (first | (with_reducible first | exact HB.out | apply below_alloc | apply pw_below_drewN | apply below_drew1 | refine below_set ?_ GE274.out) | exact HB.out)⟩⟩
                              · rw [if_neg c20] at H
                                exact absurd H (by simp)
                            · rw [if_neg c19] at H
                              exact absurd H (by simp)
                          · replace c18 := Bool.eq_false_iff.mpr c18
                            subst c18
                            have H1 : ((privilege_inside.f a0 x275000_2).bind fun t278 => (if t278 = true then (privilege_Widen.l1 k2 a0 x7_1 l1 (l1.length : Int) x18_1 ji13 ((rd_T46 l1 x18_1).f1)) else (privilege_Widen.j2 k2 a0 x7_1 l1 (l1.length : Int) x18_1 x275000_2 ((rd_T46 l1 x18_1).f1)))) = some (r1, r2) := by rw [if_neg (show ¬ (false = true) by decide)] at H; exact H
                            clear H
                            have H := H1
                            clear H1
                            replace H := Option.bind_eq_some_iff.mp H
                            obtain ⟨t278, A290, H⟩ := H
                            replace H : (if t278 = true then (privilege_Widen.l1 k2 a0 x7_1 l1 (l1.length : Int) x18_1 ji13 ((rd_T46 l1 x18_1).f1)) else (privilege_Widen.j2 k2 a0 x7_1 l1 (l1.length : Int) x18_1 x275000_2 ((rd_T46 l1 x18_1).f1))) = some (r1, r2) := H
                            have A29 := Aside0.mk A290
                            clear A290
                            by_cases c30 : t278 = true
                            · subst c30
                              have H1 : (privilege_Widen.l1 k2 a0 x7_1 l1 (l1.length : Int) x18_1 ji13 ((rd_T46 l1 x18_1).f1)) = some (r1, r2) := by rw [if_pos rfl] at H; exact H
                              clear H
                              have H := H1
                              clear H1
                              have H' := Aside0.mk H
                              clear H
                              have hcz31_0 : wr.cell? ⟨gb274, 0, none⟩ = some (.int .i64 x275000_2) := (blk_cell BK274.out 0).trans rfl
                              have hcz31_1 : wr.cell? ⟨gb274, 1, none⟩ = some (.int .i64 ((rd_T46 l1 x18_1).f1)) := (blk_cell BK274.out 1).trans rfl
                              have hfz31_0 := blk_frozen BK274.out 0
                              have hfz31_1 := blk_frozen BK274.out 1
                              have p16 : 0 ≤ ((ji13) : Int) := of_decide_eq_true (by first | (with_reducible assumption) | assumption)
                              have q16 : (ji13) < (a0.size : Int) := of_decide_eq_true (by first | (with_reducible assumption) | assumption)
                              have hx16 := bt_at a0 (ji13)
                              replace p16 := eq_true p16
                              replace q16 := eq_true q16
                              go_wp2_with (first | (go_at_call 60; (with_reducible refine (privilege_letter.calls (bt a0 (ji13)) false _ A17.out).mono ?_); rintro e w' ⟨rfl, ⟨nd, rfl⟩⟩; (try (rw [drewN_self wr]; generalize hq_ : World.drewN wr _ = wr; have n0_ : Aside0 (Kd.R k46 46 wr w.heap.size (fun k_ => k_ ≠ gb274) u7 x7_1) := ⟨by rw [← hq_]; exact (by (with_reducible repeat (first | apply Kd.R_alloc | apply Kd.R_drewN | apply Kd.R_drew)); exact HO_7.out)⟩; have n1_ : Aside0 (wr.heap[gb274]? = some (.cells #[.int .i64 x275000_2, .int .i64 ((rd_T46 l1 x18_1).f1)] 46 (0, 0))) := ⟨by rw [← hq_]; exact (by (with_reducible repeat (first | refine blk_drewN ?_ _ | refine blk_drew ?_ | refine blk_alloc ?_ _)); exact BK274.out)⟩; have n2_ : Aside0 (Below w.heap.size w wr) := ⟨by rw [← hq_]; exact (by repeat (first | (with_reducible first | exact HB.out | apply below_alloc | apply pw_below_drewN | apply below_drew1 | refine below_set ?_ GE274.out) | exact HB.out))⟩; clear HO_7 BK274 HB hq_; have HO_7 := n0_; have BK274 := n1_; have HB := n2_; clear n0_ n1_ n2_; clear hcz31_0 hcz31_1 hfz31_0 hfz31_1; have hcz31_0 : wr.cell? ⟨gb274, 0, none⟩ = some (.int .i64 x275000_2) := (blk_cell BK274.out 0).trans rfl; have hcz31_1 : wr.cell? ⟨gb274, 1, none⟩ = some (.int .i64 ((rd_T46 l1 x18_1).f1)) := (blk_cell BK274.out 1).trans rfl; have hfz31_0 := blk_frozen BK274.out 0; have hfz31_1 := blk_frozen BK274.out 1))) | (go_at_call 61; (with_reducible refine (privilege_inside.calls a0 x275000_2 true _ A29.out).mono ?_); rintro e w' ⟨rfl, ⟨nd, rfl⟩⟩; (try (rw [drewN_self wr]; generalize hq_ : World.drewN wr _ = wr; have n0_ : Aside0 (Kd.R k46 46 wr w.heap.size (fun k_ => k_ ≠ gb274) u7 x7_1) := ⟨by rw [← hq_]; exact (by (with_reducible repeat (first | apply Kd.R_alloc | apply Kd.R_drewN | apply Kd.R_drew)); exact HO_7.out)⟩; have n1_ : Aside0 (wr.heap[gb274]? = some (.cells #[.int .i64 x275000_2, .int .i64 ((rd_T46 l1 x18_1).f1)] 46 (0, 0))) := ⟨by rw [← hq_]; exact (by (with_reducible repeat (first | refine blk_drewN ?_ _ | refine blk_drew ?_ | refine blk_alloc ?_ _)); exact BK274.out)⟩; have n2_ : Aside0 (Below w.heap.size w wr) := ⟨by rw [← hq_]; exact (by repeat (first | (with_reducible first | exact HB.out | apply below_alloc | apply pw_below_drewN | apply below_drew1 | refine below_set ?_ GE274.out) | exact HB.out))⟩; clear HO_7 BK274 HB hq_; have HO_7 := n0_; have BK274 := n1_; have HB := n2_; clear n0_ n1_ n2_; clear hcz31_0 hcz31_1 hfz31_0 hfz31_1; have hcz31_0 : wr.cell? ⟨gb274, 0, none⟩ = some (.int .i64 x275000_2) := (blk_cell BK274.out 0).trans rfl; have hcz31_1 : wr.cell? ⟨gb274, 1, none⟩ = some (.int .i64 ((rd_T46 l1 x18_1).f1)) := (blk_cell BK274.out 1).trans rfl; have hfz31_0 := blk_frozen BK274.out 0; have hfz31_1 := blk_frozen BK274.out 1))))
                              go_roundg k2
                              case measure => have := HK1.out; have := HK2.out; omega
                              case rel => exact ⟨(ji13), H', ⟨by have := HK1.out; have := HK2.out; omega⟩, ⟨by (with_reducible repeat (first | apply Kd.R_alloc | apply Kd.R_drewN | apply Kd.R_drew)); exact Kd.R_mono (Kd.R_far (p := ⟨gb274, 0, none⟩) (Kd.R_mono HO_7.out (fun k_ hk => (⟨hk, hk⟩ : _ ∧ k_ ≠ gb274))) (fun _ hk => hk.2) (.int .i64 ji13)) (fun _ hk => hk.1)⟩, ⟨by (with_reducible repeat (first | refine blk_drewN ?_ _ | refine blk_drew ?_ | refine blk_alloc ?_ _)); refine blk_put (cs := #[.int .i64 x275000_2, .int .i64 ((rd_T46 l1 x18_1).f1)]) ?_ 0 _ rfl; (with_reducible repeat (first | refine blk_drewN ?_ _ | refine blk_drew ?_ | refine blk_alloc ?_ _)); exact BK274.out⟩, ⟨by repeat (first | (with_reducible first | exact HB.out | apply below_alloc | apply pw_below_drewN | apply below_drew1 | refine below_set ?_ GE274.out) | exact HB.out)⟩⟩
                            · replace c30 := Bool.eq_false_iff.mpr c30
                              subst c30
                              have H1 : (privilege_Widen.j2 k2 a0 x7_1 l1 (l1.length : Int) x18_1 x275000_2 ((rd_T46 l1 x18_1).f1)) = some (r1, r2) := by rw [if_neg (show ¬ (false = true) by decide)] at H; exact H
                              clear H
                              have H := H1
                              clear H1
                              have H' := Aside0.mk H
                              clear H
                              have hcz32_0 : wr.cell? ⟨gb274, 0, none⟩ = some (.int .i64 x275000_2) := (blk_cell BK274.out 0).trans rfl
                              have hcz32_1 : wr.cell? ⟨gb274, 1, none⟩ = some (.int .i64 ((rd_T46 l1 x18_1).f1)) := (blk_cell BK274.out 1).trans rfl
                              have hfz32_0 := blk_frozen BK274.out 0
                              have hfz32_1 := blk_frozen BK274.out 1
                              have p16 : 0 ≤ ((ji13) : Int) := of_decide_eq_true (by first | (with_reducible assumption) | assumption)
                              have q16 : (ji13) < (a0.size : Int) := of_decide_eq_true (by first | (with_reducible assumption) | assumption)
                              have hx16 := bt_at a0 (ji13)
                              replace p16 := eq_true p16
                              replace q16 := eq_true q16
                              go_wp2_with (first | (go_at_call 60; (with_reducible refine (privilege_letter.calls (bt a0 (ji13)) false _ A17.out).mono ?_); rintro e w' ⟨rfl, ⟨nd, rfl⟩⟩) | (go_at_call 61; (with_reducible refine (privilege_inside.calls a0 x275000_2 false _ A29.out).mono ?_); rintro e w' ⟨rfl, ⟨nd, rfl⟩⟩))
                              go_meet
                              case rel => exact ⟨_, (x275000_2), H', ⟨by have := HK1.out; have := HK2.out; first | omega | exact Nat.le_refl _⟩, ⟨by (with_reducible repeat (first | apply Kd.R_alloc | apply Kd.R_drewN | apply Kd.R_drew)); exact HO_7.out⟩, ⟨by (with_reducible repeat (first | refine blk_drewN ?_ _ | refine blk_drew ?_ | refine blk_alloc ?_ _)); exact BK274.out⟩, ⟨by repeat (first | (with_reducible first | exact HB.out | apply below_alloc | apply pw_below_drewN | apply below_drew1 | refine below_set ?_ GE274.out) | exact HB.out)⟩⟩
                        · rw [if_neg c15] at H
                          exact absurd H (by simp)
                      · rw [if_neg c14] at H
                        exact absurd H (by simp)
                    · rw [if_neg c12] at H
                      have c12b0 : decide (0 < x275000_2) = false := decide_eq_false c12
                      clear c12
                      (first | rw [c12b0] | (simp only [i64_w, i32_w]; rw [c12b0]) | skip)
                      have H' := Aside0.mk H
                      clear H
                      have hcz33_0 : wr.cell? ⟨gb274, 0, none⟩ = some (.int .i64 x275000_2) := (blk_cell BK274.out 0).trans rfl
                      have hcz33_1 : wr.cell? ⟨gb274, 1, none⟩ = some (.int .i64 ((rd_T46 l1 x18_1).f1)) := (blk_cell BK274.out 1).trans rfl
                      have hfz33_0 := blk_frozen BK274.out 0
                      have hfz33_1 := blk_frozen BK274.out 1
                      go_wp2
                      go_meet
                      case rel => exact ⟨_, (x275000_2), H', ⟨by have := HK1.out; have := HK2.out; first | omega | exact Nat.le_refl _⟩, ⟨by (with_reducible repeat (first | apply Kd.R_alloc | apply Kd.R_drewN | apply Kd.R_drew)); exact HO_7.out⟩, ⟨by (with_reducible repeat (first | refine blk_drewN ?_ _ | refine blk_drew ?_ | refine blk_alloc ?_ _)); exact BK274.out⟩, ⟨by repeat (first | (with_reducible first | exact HB.out | apply below_alloc | apply pw_below_drewN | apply below_drew1 | refine below_set ?_ GE274.out) | exact HB.out)⟩⟩
              case rest =>
                clear HC9
                try clear c1
                try clear p1
                try clear q1
                try clear hx1
                try clear c2
                try clear p2
                try clear q2
                try clear hx2
                try clear c3
                try clear c4
                try clear c4b0
                try clear c4b1
                try clear c5
                try clear c6
                try clear c6b0
                try clear p6
                try clear c7
                try clear c7b0
                try clear c8
                try clear c8b0
                try clear c12
                try clear c12b0
                try clear c14
                try clear c14b0
                try clear c15
                try clear c15b0
                try clear p16
                try clear q16
                try clear hx16
                try clear c18
                try clear c19
                try clear c19b0
                try clear c20
                try clear c20b0
                try clear p21
                try clear q21
                try clear hx21
                try clear c23
                try clear c25
                try clear c26
                try clear p27
                try clear q27
                try clear hx27
                try clear c30
                try clear hcz11_0
                try clear hcz11_1
                try clear hcz24_0
                try clear hcz24_1
                try clear hcz27_0
                try clear hcz27_1
                try clear hcz28_0
                try clear hcz28_1
                try clear hcz31_0
                try clear hcz31_1
                try clear hcz32_0
                try clear hcz32_1
                try clear hcz33_0
                try clear hcz33_1
                try clear hfz11_0
                try clear hfz11_1
                try clear hfz24_0
                try clear hfz24_1
                try clear hfz27_0
                try clear hfz27_1
                try clear hfz28_0
                try clear hfz28_1
                try clear hfz31_0
                try clear hfz31_1
                try clear hfz32_0
                try clear hfz32_1
                try clear hfz33_0
                try clear hfz33_1
                try clear hx273_0
                try clear hx273_1
                try clear p16
                try clear p2
                try clear p21
                try clear p273
                try clear q16
                try clear q2
                try clear q21
                try clear q273
                obtain ⟨kq, x275000_8, HA, HJ8, HO_7, BK274, HB⟩ := hcut
                cases kq with
                | zero => exact absurd HA.out (by simp [privilege_Widen.j2])
                | succ kj8 =>
                  have H := HA.out
                  clear HA
                  simp only [privilege_Widen.j2] at H
                  have H' := Aside0.mk H
                  clear H
                  go_wp2
                  go_loopg [] kj8 (fun kq w' => ∃ (x275001_3 : Int), Aside0 (privilege_Widen.l2 kq a0 x7_1 l1 (l1.length : Int) x18_1 x275000_8 x275001_3 = some (r1, r2)) ∧ Aside0 (kq ≤ kj8) ∧ Aside0 (Kd.R k46 46 w' w.heap.size (fun k_ => k_ ≠ gb274) u7 x7_1) ∧ Aside0 (w'.heap[gb274]? = some (.cells #[.int .i64 x275000_8, .int .i64 x275001_3] 46 (0, 0))) ∧ Aside0 (Below w.heap.size w w'))
                  case atStart => exact ⟨(((rd_T46 l1 x18_1).f1)), H', ⟨Nat.le_refl _⟩, ⟨by (with_reducible repeat (first | apply Kd.R_alloc | apply Kd.R_drewN | apply Kd.R_drew)); exact HO_7.out⟩, ⟨by (with_reducible repeat (first | refine blk_drewN ?_ _ | refine blk_drew ?_ | refine blk_alloc ?_ _)); exact BK274.out⟩, ⟨by repeat (first | (with_reducible first | exact HB.out | apply below_alloc | apply pw_below_drewN | apply below_drew1 | refine below_set ?_ GE274.out) | exact HB.out)⟩⟩
                  case round =>
                    clear H'
                    try clear c1
                    try clear p1
                    try clear q1
                    try clear hx1
                    try clear c2
                    try clear p2
                    try clear q2
                    try clear hx2
                    try clear c3
                    try clear c4
                    try clear c4b0
                    try clear c4b1
                    try clear c5
                    try clear c6
                    try clear c6b0
                    try clear p6
                    try clear c7
                    try clear c7b0
                    try clear c8
                    try clear c8b0
                    try clear c12
                    try clear c12b0
                    try clear c14
                    try clear c14b0
                    try clear c15
                    try clear c15b0
                    try clear p16
                    try clear q16
                    try clear hx16
                    try clear c18
                    try clear c19
                    try clear c19b0
                    try clear c20
                    try clear c20b0
                    try clear p21
                    try clear q21
                    try clear hx21
                    try clear c23
                    try clear c25
                    try clear c26
                    try clear p27
                    try clear q27
                    try clear hx27
                    try clear c30
                    try clear hcz11_0
                    try clear hcz11_1
                    try clear hcz24_0
                    try clear hcz24_1
                    try clear hcz27_0
                    try clear hcz27_1
                    try clear hcz28_0
                    try clear hcz28_1
                    try clear hcz31_0
                    try clear hcz31_1
                    try clear hcz32_0
                    try clear hcz32_1
                    try clear hcz33_0
                    try clear hcz33_1
                    try clear hfz11_0
                    try clear hfz11_1
                    try clear hfz24_0
                    try clear hfz24_1
                    try clear hfz27_0
                    try clear hfz27_1
                    try clear hfz28_0
                    try clear hfz28_1
                    try clear hfz31_0
                    try clear hfz31_1
                    try clear hfz32_0
                    try clear hfz32_1
                    try clear hfz33_0
                    try clear hfz33_1
                    try clear hx273_0
                    try clear hx273_1
                    try clear p1
                    try clear p16
                    try clear p2
                    try clear p21
                    try clear p27
                    try clear p273
                    try clear p6
                    try clear q1
                    try clear q16
                    try clear q2
                    try clear q21
                    try clear q27
                    try clear q273
                    obtain ⟨x275001_3, HA, HK3, HO_7, BK274, HB⟩ := hrel
                    cases gk with
                    | zero => exact absurd HA.out (by simp [privilege_Widen.l2])
                    | succ k3 =>
                      have H := HA.out
                      clear HA
                      simp only [privilege_Widen.l2] at H
                      by_cases c34 : x275001_3 < (a0.size : Int)
                      · rw [if_pos c34] at H
                        have c34b0 : decide (x275001_3 < (a0.size : Int)) = true := decide_eq_true c34
                        clear c34
                        by_cases c35 : 0 ≤ x275001_3
                        · rw [if_pos c35] at H
                          have c35b0 : decide (0 ≤ x275001_3) = true := decide_eq_true c35
                          clear c35
                          replace H := Option.bind_eq_some_iff.mp H
                          obtain ⟨t279, A370, H⟩ := H
                          replace H : (if t279 = true then (if 0 ≤ (wrap64 (x275001_3 - 1)) then (if (wrap64 (x275001_3 - 1)) < (a0.size : Int) then ((privilege_letter.f (bt a0 (wrap64 (x275001_3 - 1)))).bind fun t280 => (if t280 = true then (privilege_Widen.l2 k3 a0 x7_1 l1 (l1.length : Int) x18_1 x275000_8 (wrap64 (x275001_3 + 1))) else ((privilege_inside.f a0 x275001_3).bind fun t281 => (if t281 = true then (privilege_Widen.l2 k3 a0 x7_1 l1 (l1.length : Int) x18_1 x275000_8 (wrap64 (x275001_3 + 1))) else (if x7_1.length < 8796093022208 then (privilege_Widen.l0 k3 a0 (x7_1 ++ [(⟨x275000_8, x275001_3⟩ : S46)]) l1 (l1.length : Int) (wrap64 (x18_1 + 1))) else (none)))))) else (none)) else (none)) else ((privilege_inside.f a0 x275001_3).bind fun t285 => (if t285 = true then (privilege_Widen.l2 k3 a0 x7_1 l1 (l1.length : Int) x18_1 x275000_8 (wrap64 (x275001_3 + 1))) else (if x7_1.length < 8796093022208 then (privilege_Widen.l0 k3 a0 (x7_1 ++ [(⟨x275000_8, x275001_3⟩ : S46)]) l1 (l1.length : Int) (wrap64 (x18_1 + 1))) else (none))))) = some (r1, r2) := H
                          have A37 := Aside0.mk A370
                          clear A370
                          by_cases c38 : t279 = true
                          · subst c38
                            have H1 : (if 0 ≤ (wrap64 (x275001_3 - 1)) then (if (wrap64 (x275001_3 - 1)) < (a0.size : Int) then ((privilege_letter.f (bt a0 (wrap64 (x275001_3 - 1)))).bind fun t280 => (if t280 = true then (privilege_Widen.l2 k3 a0 x7_1 l1 (l1.length : Int) x18_1 x275000_8 (wrap64 (x275001_3 + 1))) else ((privilege_inside.f a0 x275001_3).bind fun t281 => (if t281 = true then (privilege_Widen.l2 k3 a0 x7_1 l1 (l1.length : Int) x18_1 x275000_8 (wrap64 (x275001_3 + 1))) else (if x7_1.length < 8796093022208 then (privilege_Widen.l0 k3 a0 (x7_1 ++ [(⟨x275000_8, x275001_3⟩ : S46)]) l1 (l1.length : Int) (wrap64 (x18_1 + 1))) else (none)))))) else (none)) else (none)) = some (r1, r2) := by rw [if_pos rfl] at H; exact H
                            clear H
                            have H := H1
                            clear H1
                            obtain ⟨ji39, hji39⟩ : ∃ j_ : Int, (wrap64 (x275001_3 - 1)) = j_ := ⟨_, rfl⟩
                            replace H : (if 0 ≤ (ji39) then (if (ji39) < (a0.size : Int) then ((privilege_letter.f (bt a0 (ji39))).bind fun t280 => (if t280 = true then (privilege_Widen.l2 k3 a0 x7_1 l1 (l1.length : Int) x18_1 x275000_8 (wrap64 (x275001_3 + 1))) else ((privilege_inside.f a0 x275001_3).bind fun t281 => (if t281 = true then (privilege_Widen.l2 k3 a0 x7_1 l1 (l1.length : Int) x18_1 x275000_8 (wrap64 (x275001_3 + 1))) else (if x7_1.length < 8796093022208 then (privilege_Widen.l0 k3 a0 (x7_1 ++ [(⟨x275000_8, x275001_3⟩ : S46)]) l1 (l1.length : Int) (wrap64 (x18_1 + 1))) else (none)))))) else (none)) else (none)) = some (r1, r2) := by first | (rw [hji39] at H; exact H) | (simp only [hji39] at H ⊢; exact H)
                            (try rw [hji39] at A37)
                            have hji39w : (IntKind.i64.wrap (x275001_3 - 1)) = ji39 := (i64_w _).trans hji39
                            by_cases c40 : 0 ≤ (ji39)
                            · rw [if_pos c40] at H
                              have c40b0 : decide (0 ≤ (ji39)) = true := decide_eq_true c40
                              clear c40
                              by_cases c41 : (ji39) < (a0.size : Int)
                              · rw [if_pos c41] at H
                                have c41b0 : decide ((ji39) < (a0.size : Int)) = true := decide_eq_true c41
                                clear c41
                                replace H := Option.bind_eq_some_iff.mp H
                                obtain ⟨t280, A430, H⟩ := H
                                replace H : (if t280 = true then (privilege_Widen.l2 k3 a0 x7_1 l1 (l1.length : Int) x18_1 x275000_8 (wrap64 (x275001_3 + 1))) else ((privilege_inside.f a0 x275001_3).bind fun t281 => (if t281 = true then (privilege_Widen.l2 k3 a0 x7_1 l1 (l1.length : Int) x18_1 x275000_8 (wrap64 (x275001_3 + 1))) else (if x7_1.length < 8796093022208 then (privilege_Widen.l0 k3 a0 (x7_1 ++ [(⟨x275000_8, x275001_3⟩ : S46)]) l1 (l1.length : Int) (wrap64 (x18_1 + 1))) else (none))))) = some (r1, r2) := H
                                have A43 := Aside0.mk A430
                                clear A430
                                by_cases c44 : t280 = true
                                · subst c44
                                  have H1 : (privilege_Widen.l2 k3 a0 x7_1 l1 (l1.length : Int) x18_1 x275000_8 (wrap64 (x275001_3 + 1))) = some (r1, r2) := by rw [if_pos rfl] at H; exact H
                                  clear H
                                  have H := H1
                                  clear H1
                                  have H' := Aside0.mk H
                                  clear H
                                  have hcz45_0 : wr.cell? ⟨gb274, 0, none⟩ = some (.int .i64 x275000_8) := (blk_cell BK274.out 0).trans rfl
                                  have hcz45_1 : wr.cell? ⟨gb274, 1, none⟩ = some (.int .i64 x275001_3) := (blk_cell BK274.out 1).trans rfl
                                  have hfz45_0 := blk_frozen BK274.out 0
                                  have hfz45_1 := blk_frozen BK274.out 1
                                  have p36 : 0 ≤ (x275001_3 : Int) := of_decide_eq_true (by first | (with_reducible assumption) | assumption)
                                  have q36 : x275001_3 < (a0.size : Int) := of_decide_eq_true (by first | (with_reducible assumption) | assumption)
                                  have hx36 := bt_at a0 x275001_3
                                  replace p36 := eq_true p36
                                  replace q36 := eq_true q36
                                  go_wp2_with (first | (go_at_call 60; (with_reducible refine (privilege_letter.calls (bt a0 x275001_3) true _ A37.out).mono ?_); rintro e w' ⟨rfl, ⟨nd, rfl⟩⟩; (try (rw [drewN_self wr]; generalize hq_ : World.drewN wr _ = wr; have n0_ : Aside0 (Kd.R k46 46 wr w.heap.size (fun k_ => k_ ≠ gb274) u7 x7_1) := ⟨by rw [← hq_]; exact (by (with_reducible repeat (first | apply Kd.R_alloc | apply Kd.R_drewN | apply Kd.R_drew)); exact HO_7.out)⟩; have n1_ : Aside0 (wr.heap[gb274]? = some (.cells #[.int .i64 x275000_8, .int .i64 x275001_3] 46 (0, 0))) := ⟨by rw [← hq_]; exact (by (with_reducible repeat (first | refine blk_drewN ?_ _ | refine blk_drew ?_ | refine blk_alloc ?_ _)); exact BK274.out)⟩; have n2_ : Aside0 (Below w.heap.size w wr) := ⟨by rw [← hq_]; exact (by repeat (first | (with_reducible first | exact HB.out | apply below_alloc | apply pw_below_drewN | apply below_drew1 | refine below_set ?_ GE274.out) | exact HB.out))⟩; clear HO_7 BK274 HB hq_; have HO_7 := n0_; have BK274 := n1_; have HB := n2_; clear n0_ n1_ n2_; clear hcz45_0 hcz45_1 hfz45_0 hfz45_1; have hcz45_0 : wr.cell? ⟨gb274, 0, none⟩ = some (.int .i64 x275000_8) := (blk_cell BK274.out 0).trans rfl; have hcz45_1 : wr.cell? ⟨gb274, 1, none⟩ = some (.int .i64 x275001_3) := (blk_cell BK274.out 1).trans rfl; have hfz45_0 := blk_frozen BK274.out 0; have hfz45_1 := blk_frozen BK274.out 1)); have p42 : 0 ≤ ((ji39) : Int) := of_decide_eq_true (by first | (with_reducible assumption) | assumption); have q42 : (ji39) < (a0.size : Int) := of_decide_eq_true (by first | (with_reducible assumption) | assumption); have hx42 := bt_at a0 (ji39); replace p42 := eq_true p42; replace q42 := eq_true q42) | (go_at_call 60; (with_reducible refine (privilege_letter.calls (bt a0 (ji39)) true _ A43.out).mono ?_); rintro e w' ⟨rfl, ⟨nd, rfl⟩⟩; (try (rw [drewN_self wr]; generalize hq_ : World.drewN wr _ = wr; have n0_ : Aside0 (Kd.R k46 46 wr w.heap.size (fun k_ => k_ ≠ gb274) u7 x7_1) := ⟨by rw [← hq_]; exact (by (with_reducible repeat (first | apply Kd.R_alloc | apply Kd.R_drewN | apply Kd.R_drew)); exact HO_7.out)⟩; have n1_ : Aside0 (wr.heap[gb274]? = some (.cells #[.int .i64 x275000_8, .int .i64 x275001_3] 46 (0, 0))) := ⟨by rw [← hq_]; exact (by (with_reducible repeat (first | refine blk_drewN ?_ _ | refine blk_drew ?_ | refine blk_alloc ?_ _)); exact BK274.out)⟩; have n2_ : Aside0 (Below w.heap.size w wr) := ⟨by rw [← hq_]; exact (by repeat (first | (with_reducible first | exact HB.out | apply below_alloc | apply pw_below_drewN | apply below_drew1 | refine below_set ?_ GE274.out) | exact HB.out))⟩; clear HO_7 BK274 HB hq_; have HO_7 := n0_; have BK274 := n1_; have HB := n2_; clear n0_ n1_ n2_; clear hcz45_0 hcz45_1 hfz45_0 hfz45_1; have hcz45_0 : wr.cell? ⟨gb274, 0, none⟩ = some (.int .i64 x275000_8) := (blk_cell BK274.out 0).trans rfl; have hcz45_1 : wr.cell? ⟨gb274, 1, none⟩ = some (.int .i64 x275001_3) := (blk_cell BK274.out 1).trans rfl; have hfz45_0 := blk_frozen BK274.out 0; have hfz45_1 := blk_frozen BK274.out 1))))
                                  go_roundg k3
                                  case measure => have := HK1.out; have := HJ8.out; have := HK3.out; omega
                                  case rel => exact ⟨(wrap64 (x275001_3 + 1)), H', ⟨by have := HK1.out; have := HJ8.out; have := HK3.out; omega⟩, ⟨by (with_reducible repeat (first | apply Kd.R_alloc | apply Kd.R_drewN | apply Kd.R_drew)); exact Kd.R_mono (Kd.R_far (p := ⟨gb274, 1, none⟩) (Kd.R_mono HO_7.out (fun k_ hk => (⟨hk, hk⟩ : _ ∧ k_ ≠ gb274))) (fun _ hk => hk.2) (.int .i64 (wrap64 (x275001_3 + 1)))) (fun _ hk => hk.1)⟩, ⟨by (with_reducible repeat (first | refine blk_drewN ?_ _ | refine blk_drew ?_ | refine blk_alloc ?_ _)); refine blk_put (cs := #[.int .i64 x275000_8, .int .i64 x275001_3]) ?_ 1 _ rfl; (with_reducible repeat (first | refine blk_drewN ?_ _ | refine blk_drew ?_ | refine blk_alloc ?_ _)); exact BK274.out⟩, ⟨by repeat (first | (with_reducible first | exact HB.out | apply below_alloc | apply pw_below_drewN | apply below_drew1 | refine below_set ?_ GE274.out) | exact HB.out)⟩⟩
                                · replace c44 := Bool.eq_false_iff.mpr c44
                                  subst c44
                                  have H1 : ((privilege_inside.f a0 x275001_3).bind fun t281 => (if t281 = true then (privilege_Widen.l2 k3 a0 x7_1 l1 (l1.length : Int) x18_1 x275000_8 (wrap64 (x275001_3 + 1))) else (if x7_1.length < 8796093022208 then (privilege_Widen.l0 k3 a0 (x7_1 ++ [(⟨x275000_8, x275001_3⟩ : S46)]) l1 (l1.length : Int) (wrap64 (x18_1 + 1))) else (none)))) = some (r1, r2) := by rw [if_neg (show ¬ (false = true) by decide)] at H; exact H
                                  clear H
                                  have H := H1
                                  clear H1
                                  replace H := Option.bind_eq_some_iff.mp H
                                  obtain ⟨t281, A460, H⟩ := H
                                  replace H : (if t281 = true then (privilege_Widen.l2 k3 a0 x7_1 l1 (l1.length : Int) x18_1 x275000_8 (wrap64 (x275001_3 + 1))) else (if x7_1.length < 8796093022208 then (privilege_Widen.l0 k3 a0 (x7_1 ++ [(⟨x275000_8, x275001_3⟩ : S46)]) l1 (l1.length : Int) (wrap64 (x18_1 + 1))) else (none))) = some (r1, r2) := H
                                  have A46 := Aside0.mk A460
                                  clear A460
                                  by_cases c47 : t281 = true
                                  · subst c47
                                    have H1 : (privilege_Widen.l2 k3 a0 x7_1 l1 (l1.length : Int) x18_1 x275000_8 (wrap64 (x275001_3 + 1))) = some (r1, r2) := by rw [if_pos rfl] at H; exact H
                                    clear H
                                    have H := H1
                                    clear H1
                                    have H' := Aside0.mk H
                                    clear H
                                    have hcz48_0 : wr.cell? ⟨gb274, 0, none⟩ = some (.int .i64 x275000_8) := (blk_cell BK274.out 0).trans rfl
                                    have hcz48_1 : wr.cell? ⟨gb274, 1, none⟩ = some (.int .i64 x275001_3) := (blk_cell BK274.out 1).trans rfl
                                    have hfz48_0 := blk_frozen BK274.out 0
                                    have hfz48_1 := blk_frozen BK274.out 1
                                    have p36 : 0 ≤ (x275001_3 : Int) := of_decide_eq_true (by first | (with_reducible assumption) | assumption)
                                    have q36 : x275001_3 < (a0.size : Int) := of_decide_eq_true (by first | (with_reducible assumption) | assumption)
                                    have hx36 := bt_at a0 x275001_3
                                    replace p36 := eq_true p36
                                    replace q36 := eq_true q36
                                    go_wp2_with (first | (go_at_call 60; (with_reducible refine (privilege_letter.calls (bt a0 x275001_3) true _ A37.out).mono ?_); rintro e w' ⟨rfl, ⟨nd, rfl⟩⟩; (try (rw [drewN_self wr]; generalize hq_ : World.drewN wr _ = wr; have n0_ : Aside0 (Kd.R k46 46 wr w.heap.size (fun k_ => k_ ≠ gb274) u7 x7_1) := ⟨by rw [← hq_]; exact (by (with_reducible repeat (first | apply Kd.R_alloc | apply Kd.R_drewN | apply Kd.R_drew)); exact HO_7.out)⟩; have n1_ : Aside0 (wr.heap[gb274]? = some (.cells #[.int .i64 x275000_8, .int .i64 x275001_3] 46 (0, 0))) := ⟨by rw [← hq_]; exact (by (with_reducible repeat (first | refine blk_drewN ?_ _ | refine blk_drew ?_ | refine blk_alloc ?_ _)); exact BK274.out)⟩; have n2_ : Aside0 (Below w.heap.size w wr) := ⟨by rw [← hq_]; exact (by repeat (first | (with_reducible first | exact HB.out | apply below_alloc | apply pw_below_drewN | apply below_drew1 | refine below_set ?_ GE274.out) | exact HB.out))⟩; clear HO_7 BK274 HB hq_; have HO_7 := n0_; have BK274 := n1_; have HB := n2_; clear n0_ n1_ n2_; clear hcz48_0 hcz48_1 hfz48_0 hfz48_1; have hcz48_0 : wr.cell? ⟨gb274, 0, none⟩ = some (.int .i64 x275000_8) := (blk_cell BK274.out 0).trans rfl; have hcz48_1 : wr.cell? ⟨gb274, 1, none⟩ = some (.int .i64 x275001_3) := (blk_cell BK274.out 1).trans rfl; have hfz48_0 := blk_frozen BK274.out 0; have hfz48_1 := blk_frozen BK274.out 1)); have p42 : 0 ≤ ((ji39) : Int) := of_decide_eq_true (by first | (with_reducible assumption) | assumption); have q42 : (ji39) < (a0.size : Int) := of_decide_eq_true (by first | (with_reducible assumption) | assumption); have hx42 := bt_at a0 (ji39); replace p42 := eq_true p42; replace q42 := eq_true q42) | (go_at_call 60; (with_reducible refine (privilege_letter.calls (bt a0 (ji39)) false _ A43.out).mono ?_); rintro e w' ⟨rfl, ⟨nd, rfl⟩⟩; (try (rw [drewN_self wr]; generalize hq_ : World.drewN wr _ = wr; have n0_ : Aside0 (Kd.R k46 46 wr w.heap.size (fun k_ => k_ ≠ gb274) u7 x7_1) := ⟨by rw [← hq_]; exact (by (with_reducible repeat (first | apply Kd.R_alloc | apply Kd.R_drewN | apply Kd.R_drew)); exact HO_7.out)⟩; have n1_ : Aside0 (wr.heap[gb274]? = some (.cells #[.int .i64 x275000_8, .int .i64 x275001_3] 46 (0, 0))) := ⟨by rw [← hq_]; exact (by (with_reducible repeat (first | refine blk_drewN ?_ _ | refine blk_drew ?_ | refine blk_alloc ?_ _)); exact BK274.out)⟩; have n2_ : Aside0 (Below w.heap.size w wr) := ⟨by rw [← hq_]; exact (by repeat (first | (with_reducible first | exact HB.out | apply below_alloc | apply pw_below_drewN | apply below_drew1 | refine below_set ?_ GE274.out) | exact HB.out))⟩; clear HO_7 BK274 HB hq_; have HO_7 := n0_; have BK274 := n1_; have HB := n2_; clear n0_ n1_ n2_; clear hcz48_0 hcz48_1 hfz48_0 hfz48_1; have hcz48_0 : wr.cell? ⟨gb274, 0, none⟩ = some (.int .i64 x275000_8) := (blk_cell BK274.out 0).trans rfl; have hcz48_1 : wr.cell? ⟨gb274, 1, none⟩ = some (.int .i64 x275001_3) := (blk_cell BK274.out 1).trans rfl; have hfz48_0 := blk_frozen BK274.out 0; have hfz48_1 := blk_frozen BK274.out 1))) | (go_at_call 61; (with_reducible refine (privilege_inside.calls a0 x275001_3 true _ A46.out).mono ?_); rintro e w' ⟨rfl, ⟨nd, rfl⟩⟩; (try (rw [drewN_self wr]; generalize hq_ : World.drewN wr _ = wr; have n0_ : Aside0 (Kd.R k46 46 wr w.heap.size (fun k_ => k_ ≠ gb274) u7 x7_1) := ⟨by rw [← hq_]; exact (by (with_reducible repeat (first | apply Kd.R_alloc | apply Kd.R_drewN | apply Kd.R_drew)); exact HO_7.out)⟩; have n1_ : Aside0 (wr.heap[gb274]? = some (.cells #[.int .i64 x275000_8, .int .i64 x275001_3] 46 (0, 0))) := ⟨by rw [← hq_]; exact (by (with_reducible repeat (first | refine blk_drewN ?_ _ | refine blk_drew ?_ | refine blk_alloc ?_ _)); exact BK274.out)⟩; have n2_ : Aside0 (Below w.heap.size w wr) := ⟨by rw [← hq_]; exact (by repeat (first | (with_reducible first | exact HB.out | apply below_alloc | apply pw_below_drewN | apply below_drew1 | refine below_set ?_ GE274.out) | exact HB.out))⟩; clear HO_7 BK274 HB hq_; have HO_7 := n0_; have BK274 := n1_; have HB := n2_; clear n0_ n1_ n2_; clear hcz48_0 hcz48_1 hfz48_0 hfz48_1; have hcz48_0 : wr.cell? ⟨gb274, 0, none⟩ = some (.int .i64 x275000_8) := (blk_cell BK274.out 0).trans rfl; have hcz48_1 : wr.cell? ⟨gb274, 1, none⟩ = some (.int .i64 x275001_3) := (blk_cell BK274.out 1).trans rfl; have hfz48_0 := blk_frozen BK274.out 0; have hfz48_1 := blk_frozen BK274.out 1))))
                                    go_roundg k3
                                    case measure => have := HK1.out; have := HJ8.out; have := HK3.out; omega
                                    case rel => exact ⟨(wrap64 (x275001_3 + 1)), H', ⟨by have := HK1.out; have := HJ8.out; have := HK3.out; omega⟩, ⟨by (with_reducible repeat (first | apply Kd.R_alloc | apply Kd.R_drewN | apply Kd.R_drew)); exact Kd.R_mono (Kd.R_far (p := ⟨gb274, 1, none⟩) (Kd.R_mono HO_7.out (fun k_ hk => (⟨hk, hk⟩ : _ ∧ k_ ≠ gb274))) (fun _ hk => hk.2) (.int .i64 (wrap64 (x275001_3 + 1)))) (fun _ hk => hk.1)⟩, ⟨by (with_reducible repeat (first | refine blk_drewN ?_ _ | refine blk_drew ?_ | refine blk_alloc ?_ _)); refine blk_put (cs := #[.int .i64 x275000_8, .int .i64 x275001_3]) ?_ 1 _ rfl; (with_reducible repeat (first | refine blk_drewN ?_ _ | refine blk_drew ?_ | refine blk_alloc ?_ _)); exact BK274.out⟩, ⟨by repeat (first | (with_reducible first | exact HB.out | apply below_alloc | apply pw_below_drewN | apply below_drew1 | refine below_set ?_ GE274.out) | exact HB.out)⟩⟩
                                  · replace c47 := Bool.eq_false_iff.mpr c47
                                    subst c47
                                    have H1 : (if x7_1.length < 8796093022208 then (privilege_Widen.l0 k3 a0 (x7_1 ++ [(⟨x275000_8, x275001_3⟩ : S46)]) l1 (l1.length : Int) (wrap64 (x18_1 + 1))) else (none)) = some (r1, r2) := by rw [if_neg (show ¬ (false = true) by decide)] at H; exact H
                                    clear H
                                    have H := H1
                                    clear H1
                                    by_cases c49 : x7_1.length < 8796093022208
                                    · rw [if_pos c49] at H
                                      have LMc49 := Aside0.mk c49
                                      clear c49
                                      obtain ⟨y282, hy282⟩ : ∃ y_ : List (S46), y_ = (x7_1 ++ [(⟨x275000_8, x275001_3⟩ : S46)]) := ⟨_, rfl⟩
                                      replace H : (privilege_Widen.l0 k3 a0 y282 l1 (l1.length : Int) (wrap64 (x18_1 + 1))) = some (r1, r2) := by first | (rw [hy282]; with_reducible exact H) | (have H2_ := (Option.bind_some _ _).symm.trans H; rw [hy282]; with_reducible exact H2_) | (have H2_ := (Option.bind_some _ _).symm.trans H; with_reducible exact H2_) | with_reducible exact H | (rw [hy282]; exact H) | exact H
                                      have Ny282 := Aside0.mk hy282
                                      clear hy282
                                      have H' := Aside0.mk H
                                      clear H
                                      have hcz50_0 : wr.cell? ⟨gb274, 0, none⟩ = some (.int .i64 x275000_8) := (blk_cell BK274.out 0).trans rfl
                                      have hcz50_1 : wr.cell? ⟨gb274, 1, none⟩ = some (.int .i64 x275001_3) := (blk_cell BK274.out 1).trans rfl
                                      have hfz50_0 := blk_frozen BK274.out 0
                                      have hfz50_1 := blk_frozen BK274.out 1
                                      have p36 : 0 ≤ (x275001_3 : Int) := of_decide_eq_true (by first | (with_reducible assumption) | assumption)
                                      have q36 : x275001_3 < (a0.size : Int) := of_decide_eq_true (by first | (with_reducible assumption) | assumption)
                                      have hx36 := bt_at a0 x275001_3
                                      replace p36 := eq_true p36
                                      replace q36 := eq_true q36
                                      go_wp2_with (first | (go_at_call 60; (with_reducible refine (privilege_letter.calls (bt a0 x275001_3) true _ A37.out).mono ?_); rintro e w' ⟨rfl, ⟨nd, rfl⟩⟩; have p42 : 0 ≤ ((ji39) : Int) := of_decide_eq_true (by first | (with_reducible assumption) | assumption); have q42 : (ji39) < (a0.size : Int) := of_decide_eq_true (by first | (with_reducible assumption) | assumption); have hx42 := bt_at a0 (ji39); replace p42 := eq_true p42; replace q42 := eq_true q42) | (go_at_call 60; (with_reducible refine (privilege_letter.calls (bt a0 (ji39)) false _ A43.out).mono ?_); rintro e w' ⟨rfl, ⟨nd, rfl⟩⟩) | (go_at_call 61; (with_reducible refine (privilege_inside.calls a0 x275001_3 false _ A46.out).mono ?_); rintro e w' ⟨rfl, ⟨nd, rfl⟩⟩) | ((with_reducible refine gate_builtin (b := .append) (xs := #[.tmp 80, .tmp 82]) rfl ?_); at_builtin; refine Kd.R_append k46 (w0 := w) w.heap.size rfl (.tmp 80) (.tmp 82) 38 46 (.agg #[(.int .i64 0), (.int .i64 0)]) 16 rfl Tryd.underlying38 info46 rfl (by decide) (by omega) u7 x7_1 (⟨x275000_8, x275001_3⟩ : S46) [.int .i64 x275000_8, .int .i64 x275001_3] (fun k_ => k_ ≠ gb274) (fun _ => False) rfl rfl ?aP (fun _ hk => hk.elim) ?aF ?aO ?aB ?aS ?aL ?_; (case aP => exact k46_mkM _ _ _ (⟨x275000_8, x275001_3⟩ : S46)); (case aB => exact (by repeat (first | (with_reducible first | exact HB.out | apply below_alloc | apply pw_below_drewN | apply below_drew1 | refine below_set ?_ GE274.out) | exact HB.out))); (case aF => exact (fun k_ hk => Kd.freshB (g := gb274) (o := .cells #[.int .i64 x275000_8, .int .i64 x275001_3] 46 (0, 0)) (by (with_reducible repeat (first | refine blk_drewN ?_ _ | refine blk_drew ?_ | refine blk_alloc ?_ _)); exact BK274.out) k_ hk)); (case aO => exact (by (with_reducible repeat (first | apply Kd.R_alloc | apply Kd.R_drewN | apply Kd.R_drew)); exact HO_7.out)); (case aS => exact (below_size (by repeat (first | (with_reducible first | exact HB.out | apply below_alloc | apply pw_below_drewN | apply below_drew1 | refine below_set ?_ GE274.out) | exact HB.out)))); (case aL => have := LMc49.out; omega); intro v283 w51 ho hb hg hat; rw [← Ny282.out] at ho; have n0_ := Aside0.mk (blk_grown (g := gb274) (o := .cells #[.int .i64 x275000_8, .int .i64 x275001_3] 46 (0, 0)) (by (with_reducible repeat (first | refine blk_drewN ?_ _ | refine blk_drew ?_ | refine blk_alloc ?_ _)); exact BK274.out) hg (Kd.R_away HO_7.out (fun _ hk => hk))); have n1_ := Aside0.mk (hb); have n2_ := Aside0.mk (ho); clear BK274; clear HB; clear HO_7; have BK274 := n0_; have HB := n1_; have HO284 := n2_; clear n0_ n1_ n2_; clear ho hb hg hat))
                                      go_roundg k3
                                      case measure => have := HK1.out; have := HJ8.out; have := HK3.out; omega
                                      case rel => exact ⟨(y282), (wrap64 (x18_1 + 1)), (by first | rfl | (simp; done) | (simp [*]; done)), H', ⟨by have := HK1.out; have := HJ8.out; have := HK3.out; omega⟩, ⟨by (with_reducible repeat (first | apply Kd.R_alloc | apply Kd.R_drewN | apply Kd.R_drew)); exact Kd.R_mono HO284.out (fun _ hk => trivial)⟩, ⟨by repeat (first | (with_reducible first | exact HB.out | apply below_alloc | apply pw_below_drewN | apply below_drew1 | refine below_set ?_ GE274.out) | exact HB.out)⟩⟩
                                    · rw [if_neg c49] at H
                                      exact absurd H (by simp)
                              · rw [if_neg c41] at H
                                exact absurd H (by simp)
                            · rw [if_neg c40] at H
                              exact absurd H (by simp)
                          · replace c38 := Bool.eq_false_iff.mpr c38
                            subst c38
                            have H1 : ((privilege_inside.f a0 x275001_3).bind fun t285 => (if t285 = true then (privilege_Widen.l2 k3 a0 x7_1 l1 (l1.length : Int) x18_1 x275000_8 (wrap64 (x275001_3 + 1))) else (if x7_1.length < 8796093022208 then (privilege_Widen.l0 k3 a0 (x7_1 ++ [(⟨x275000_8, x275001_3⟩ : S46)]) l1 (l1.length : Int) (wrap64 (x18_1 + 1))) else (none)))) = some (r1, r2) := by rw [if_neg (show ¬ (false = true) by decide)] at H; exact H
                            clear H
                            have H := H1
                            clear H1
                            replace H := Option.bind_eq_some_iff.mp H
                            obtain ⟨t285, A520, H⟩ := H
                            replace H : (if t285 = true then (privilege_Widen.l2 k3 a0 x7_1 l1 (l1.length : Int) x18_1 x275000_8 (wrap64 (x275001_3 + 1))) else (if x7_1.length < 8796093022208 then (privilege_Widen.l0 k3 a0 (x7_1 ++ [(⟨x275000_8, x275001_3⟩ : S46)]) l1 (l1.length : Int) (wrap64 (x18_1 + 1))) else (none))) = some (r1, r2) := H
                            have A52 := Aside0.mk A520
                            clear A520
                            by_cases c53 : t285 = true
                            · subst c53
                              have H1 : (privilege_Widen.l2 k3 a0 x7_1 l1 (l1.length : Int) x18_1 x275000_8 (wrap64 (x275001_3 + 1))) = some (r1, r2) := by rw [if_pos rfl] at H; exact H
                              clear H
                              have H := H1
                              clear H1
                              have H' := Aside0.mk H
                              clear H
                              have hcz54_0 : wr.cell? ⟨gb274, 0, none⟩ = some (.int .i64 x275000_8) := (blk_cell BK274.out 0).trans rfl
                              have hcz54_1 : wr.cell? ⟨gb274, 1, none⟩ = some (.int .i64 x275001_3) := (blk_cell BK274.out 1).trans rfl
                              have hfz54_0 := blk_frozen BK274.out 0
                              have hfz54_1 := blk_frozen BK274.out 1
                              have p36 : 0 ≤ (x275001_3 : Int) := of_decide_eq_true (by first | (with_reducible assumption) | assumption)
                              have q36 : x275001_3 < (a0.size : Int) := of_decide_eq_true (by first | (with_reducible assumption) | assumption)
                              have hx36 := bt_at a0 x275001_3
                              replace p36 := eq_true p36
                              replace q36 := eq_true q36
                              go_wp2_with (first | (go_at_call 60; (with_reducible refine (privilege_letter.calls (bt a0 x275001_3) false _ A37.out).mono ?_); rintro e w' ⟨rfl, ⟨nd, rfl⟩⟩; (try (rw [drewN_self wr]; generalize hq_ : World.drewN wr _ = wr; have n0_ : Aside0 (Kd.R k46 46 wr w.heap.size (fun k_ => k_ ≠ gb274) u7 x7_1) := ⟨by rw [← hq_]; exact (by (with_reducible repeat (first | apply Kd.R_alloc | apply Kd.R_drewN | apply Kd.R_drew)); exact HO_7.out)⟩; have n1_ : Aside0 (wr.heap[gb274]? = some (.cells #[.int .i64 x275000_8, .int .i64 x275001_3] 46 (0, 0))) := ⟨by rw [← hq_]; exact (by (with_reducible repeat (first | refine blk_drewN ?_ _ | refine blk_drew ?_ | refine blk_alloc ?_ _)); exact BK274.out)⟩; have n2_ : Aside0 (Below w.heap.size w wr) := ⟨by rw [← hq_]; exact (by repeat (first | (with_reducible first | exact HB.out | apply below_alloc | apply pw_below_drewN | apply below_drew1 | refine below_set ?_ GE274.out) | exact HB.out))⟩; clear HO_7 BK274 HB hq_; have HO_7 := n0_; have BK274 := n1_; have HB := n2_; clear n0_ n1_ n2_; clear hcz54_0 hcz54_1 hfz54_0 hfz54_1; have hcz54_0 : wr.cell? ⟨gb274, 0, none⟩ = some (.int .i64 x275000_8) := (blk_cell BK274.out 0).trans rfl; have hcz54_1 : wr.cell? ⟨gb274, 1, none⟩ = some (.int .i64 x275001_3) := (blk_cell BK274.out 1).trans rfl; have hfz54_0 := blk_frozen BK274.out 0; have hfz54_1 := blk_frozen BK274.out 1))) | (go_at_call 61; (with_reducible refine (privilege_inside.calls a0 x275001_3 true _ A52.out).mono ?_); rintro e w' ⟨rfl, ⟨nd, rfl⟩⟩; (try (rw [drewN_self wr]; generalize hq_ : World.drewN wr _ = wr; have n0_ : Aside0 (Kd.R k46 46 wr w.heap.size (fun k_ => k_ ≠ gb274) u7 x7_1) := ⟨by rw [← hq_]; exact (by (with_reducible repeat (first | apply Kd.R_alloc | apply Kd.R_drewN | apply Kd.R_drew)); exact HO_7.out)⟩; have n1_ : Aside0 (wr.heap[gb274]? = some (.cells #[.int .i64 x275000_8, .int .i64 x275001_3] 46 (0, 0))) := ⟨by rw [← hq_]; exact (by (with_reducible repeat (first | refine blk_drewN ?_ _ | refine blk_drew ?_ | refine blk_alloc ?_ _)); exact BK274.out)⟩; have n2_ : Aside0 (Below w.heap.size w wr) := ⟨by rw [← hq_]; exact (by repeat (first | (with_reducible first | exact HB.out | apply below_alloc | apply pw_below_drewN | apply below_drew1 | refine below_set ?_ GE274.out) | exact HB.out))⟩; clear HO_7 BK274 HB hq_; have HO_7 := n0_; have BK274 := n1_; have HB := n2_; clear n0_ n1_ n2_; clear hcz54_0 hcz54_1 hfz54_0 hfz54_1; have hcz54_0 : wr.cell? ⟨gb274, 0, none⟩ = some (.int .i64 x275000_8) := (blk_cell BK274.out 0).trans rfl; have hcz54_1 : wr.cell? ⟨gb274, 1, none⟩ = some (.int .i64 x275001_3) := (blk_cell BK274.out 1).trans rfl; have hfz54_0 := blk_frozen BK274.out 0; have hfz54_1 := blk_frozen BK274.out 1))))
                              go_roundg k3
                              case measure => have := HK1.out; have := HJ8.out; have := HK3.out; omega
                              case rel => exact ⟨(wrap64 (x275001_3 + 1)), H', ⟨by have := HK1.out; have := HJ8.out; have := HK3.out; omega⟩, ⟨by (with_reducible repeat (first | apply Kd.R_alloc | apply Kd.R_drewN | apply Kd.R_drew)); exact Kd.R_mono (Kd.R_far (p := ⟨gb274, 1, none⟩) (Kd.R_mono HO_7.out (fun k_ hk => (⟨hk, hk⟩ : _ ∧ k_ ≠ gb274))) (fun _ hk => hk.2) (.int .i64 (wrap64 (x275001_3 + 1)))) (fun _ hk => hk.1)⟩, ⟨by (with_reducible repeat (first | refine blk_drewN ?_ _ | refine blk_drew ?_ | refine blk_alloc ?_ _)); refine blk_put (cs := #[.int .i64 x275000_8, .int .i64 x275001_3]) ?_ 1 _ rfl; (with_reducible repeat (first | refine blk_drewN ?_ _ | refine blk_drew ?_ | refine blk_alloc ?_ _)); exact BK274.out⟩, ⟨by repeat (first | (with_reducible first | exact HB.out | apply below_alloc | apply pw_below_drewN | apply below_drew1 | refine below_set ?_ GE274.out) | exact HB.out)⟩⟩
                            · replace c53 := Bool.eq_false_iff.mpr c53
                              subst c53
                              have H1 : (if x7_1.length < 8796093022208 then (privilege_Widen.l0 k3 a0 (x7_1 ++ [(⟨x275000_8, x275001_3⟩ : S46)]) l1 (l1.length : Int) (wrap64 (x18_1 + 1))) else (none)) = some (r1, r2) := by rw [if_neg (show ¬ (false = true) by decide)] at H; exact H
                              clear H
                              have H := H1
                              clear H1
                              by_cases c55 : x7_1.length < 8796093022208
                              · rw [if_pos c55] at H
                                have LMc55 := Aside0.mk c55
                                clear c55
                                obtain ⟨y286, hy286⟩ : ∃ y_ : List (S46), y_ = (x7_1 ++ [(⟨x275000_8, x275001_3⟩ : S46)]) := ⟨_, rfl⟩
                                replace H : (privilege_Widen.l0 k3 a0 y286 l1 (l1.length : Int) (wrap64 (x18_1 + 1))) = some (r1, r2) := by first | (rw [hy286]; with_reducible exact H) | (have H2_ := (Option.bind_some _ _).symm.trans H; rw [hy286]; with_reducible exact H2_) | (have H2_ := (Option.bind_some _ _).symm.trans H; with_reducible exact H2_) | with_reducible exact H | (rw [hy286]; exact H) | exact H
                                have Ny286 := Aside0.mk hy286
                                clear hy286
                                have H' := Aside0.mk H
                                clear H
                                have hcz56_0 : wr.cell? ⟨gb274, 0, none⟩ = some (.int .i64 x275000_8) := (blk_cell BK274.out 0).trans rfl
                                have hcz56_1 : wr.cell? ⟨gb274, 1, none⟩ = some (.int .i64 x275001_3) := (blk_cell BK274.out 1).trans rfl
                                have hfz56_0 := blk_frozen BK274.out 0
                                have hfz56_1 := blk_frozen BK274.out 1
                                have p36 : 0 ≤ (x275001_3 : Int) := of_decide_eq_true (by first | (with_reducible assumption) | assumption)
                                have q36 : x275001_3 < (a0.size : Int) := of_decide_eq_true (by first | (with_reducible assumption) | assumption)
                                have hx36 := bt_at a0 x275001_3
                                replace p36 := eq_true p36
                                replace q36 := eq_true q36
                                go_wp2_with (first | (go_at_call 60; (with_reducible refine (privilege_letter.calls (bt a0 x275001_3) false _ A37.out).mono ?_); rintro e w' ⟨rfl, ⟨nd, rfl⟩⟩) | (go_at_call 61; (with_reducible refine (privilege_inside.calls a0 x275001_3 false _ A52.out).mono ?_); rintro e w' ⟨rfl, ⟨nd, rfl⟩⟩) | ((with_reducible refine gate_builtin (b := .append) (xs := #[.tmp 80, .tmp 82]) rfl ?_); at_builtin; refine Kd.R_append k46 (w0 := w) w.heap.size rfl (.tmp 80) (.tmp 82) 38 46 (.agg #[(.int .i64 0), (.int .i64 0)]) 16 rfl Tryd.underlying38 info46 rfl (by decide) (by omega) u7 x7_1 (⟨x275000_8, x275001_3⟩ : S46) [.int .i64 x275000_8, .int .i64 x275001_3] (fun k_ => k_ ≠ gb274) (fun _ => False) rfl rfl ?aP (fun _ hk => hk.elim) ?aF ?aO ?aB ?aS ?aL ?_; (case aP => exact k46_mkM _ _ _ (⟨x275000_8, x275001_3⟩ : S46)); (case aB => exact (by repeat (first | (with_reducible first | exact HB.out | apply below_alloc | apply pw_below_drewN | apply below_drew1 | refine below_set ?_ GE274.out) | exact HB.out))); (case aF => exact (fun k_ hk => Kd.freshB (g := gb274) (o := .cells #[.int .i64 x275000_8, .int .i64 x275001_3] 46 (0, 0)) (by (with_reducible repeat (first | refine blk_drewN ?_ _ | refine blk_drew ?_ | refine blk_alloc ?_ _)); exact BK274.out) k_ hk)); (case aO => exact (by (with_reducible repeat (first | apply Kd.R_alloc | apply Kd.R_drewN | apply Kd.R_drew)); exact HO_7.out)); (case aS => exact (below_size (by repeat (first | (with_reducible first | exact HB.out | apply below_alloc | apply pw_below_drewN | apply below_drew1 | refine below_set ?_ GE274.out) | exact HB.out)))); (case aL => have := LMc55.out; omega); intro v287 w57 ho hb hg hat; rw [← Ny286.out] at ho; have n0_ := Aside0.mk (blk_grown (g := gb274) (o := .cells #[.int .i64 x275000_8, .int .i64 x275001_3] 46 (0, 0)) (by (with_reducible repeat (first | refine blk_drewN ?_ _ | refine blk_drew ?_ | refine blk_alloc ?_ _)); exact BK274.out) hg (Kd.R_away HO_7.out (fun _ hk => hk))); have n1_ := Aside0.mk (hb); have n2_ := Aside0.mk (ho); clear BK274; clear HB; clear HO_7; have BK274 := n0_; have HB := n1_; have HO288 := n2_; clear n0_ n1_ n2_; clear ho hb hg hat))
                                go_roundg k3
                                case measure => have := HK1.out; have := HJ8.out; have := HK3.out; omega
                                case rel => exact ⟨(y286), (wrap64 (x18_1 + 1)), (by first | rfl | (simp; done) | (simp [*]; done)), H', ⟨by have := HK1.out; have := HJ8.out; have := HK3.out; omega⟩, ⟨by (with_reducible repeat (first | apply Kd.R_alloc | apply Kd.R_drewN | apply Kd.R_drew)); exact Kd.R_mono HO288.out (fun _ hk => trivial)⟩, ⟨by repeat (first | (with_reducible first | exact HB.out | apply below_alloc | apply pw_below_drewN | apply below_drew1 | refine below_set ?_ GE274.out) | exact HB.out)⟩⟩
                              · rw [if_neg c55] at H
                                exact absurd H (by simp)
                        · rw [if_neg c35] at H
                          exact absurd H (by simp)
                      · rw [if_neg c34] at H
                        have c34b0 : decide (x275001_3 < (a0.size : Int)) = false := decide_eq_false c34
                        clear c34
                        by_cases c58 : x7_1.length < 8796093022208
                        · rw [if_pos c58] at H
                          have LMc58 := Aside0.mk c58
                          clear c58
                          obtain ⟨y289, hy289⟩ : ∃ y_ : List (S46), y_ = (x7_1 ++ [(⟨x275000_8, x275001_3⟩ : S46)]) := ⟨_, rfl⟩
                          replace H : (privilege_Widen.l0 k3 a0 y289 l1 (l1.length : Int) (wrap64 (x18_1 + 1))) = some (r1, r2) := by first | (rw [hy289]; with_reducible exact H) | (have H2_ := (Option.bind_some _ _).symm.trans H; rw [hy289]; with_reducible exact H2_) | (have H2_ := (Option.bind_some _ _).symm.trans H; with_reducible exact H2_) | with_reducible exact H | (rw [hy289]; exact H) | exact H
                          have Ny289 := Aside0.mk hy289
                          clear hy289
                          have H' := Aside0.mk H
                          clear H
                          have hcz59_0 : wr.cell? ⟨gb274, 0, none⟩ = some (.int .i64 x275000_8) := (blk_cell BK274.out 0).trans rfl
                          have hcz59_1 : wr.cell? ⟨gb274, 1, none⟩ = some (.int .i64 x275001_3) := (blk_cell BK274.out 1).trans rfl
                          have hfz59_0 := blk_frozen BK274.out 0
                          have hfz59_1 := blk_frozen BK274.out 1
                          go_wp2_with (first | ((with_reducible refine gate_builtin (b := .append) (xs := #[.tmp 80, .tmp 82]) rfl ?_); at_builtin; refine Kd.R_append k46 (w0 := w) w.heap.size rfl (.tmp 80) (.tmp 82) 38 46 (.agg #[(.int .i64 0), (.int .i64 0)]) 16 rfl Tryd.underlying38 info46 rfl (by decide) (by omega) u7 x7_1 (⟨x275000_8, x275001_3⟩ : S46) [.int .i64 x275000_8, .int .i64 x275001_3] (fun k_ => k_ ≠ gb274) (fun _ => False) rfl rfl ?aP (fun _ hk => hk.elim) ?aF ?aO ?aB ?aS ?aL ?_; (case aP => exact k46_mkM _ _ _ (⟨x275000_8, x275001_3⟩ : S46)); (case aB => exact (by repeat (first | (with_reducible first | exact HB.out | apply below_alloc | apply pw_below_drewN | apply below_drew1 | refine below_set ?_ GE274.out) | exact HB.out))); (case aF => exact (fun k_ hk => Kd.freshB (g := gb274) (o := .cells #[.int .i64 x275000_8, .int .i64 x275001_3] 46 (0, 0)) (by (with_reducible repeat (first | refine blk_drewN ?_ _ | refine blk_drew ?_ | refine blk_alloc ?_ _)); exact BK274.out) k_ hk)); (case aO => exact (by (with_reducible repeat (first | apply Kd.R_alloc | apply Kd.R_drewN | apply Kd.R_drew)); exact HO_7.out)); (case aS => exact (below_size (by repeat (first | (with_reducible first | exact HB.out | apply below_alloc | apply pw_below_drewN | apply below_drew1 | refine below_set ?_ GE274.out) | exact HB.out)))); (case aL => have := LMc58.out; omega); intro v290 w60 ho hb hg hat; rw [← Ny289.out] at ho; have n0_ := Aside0.mk (blk_grown (g := gb274) (o := .cells #[.int .i64 x275000_8, .int .i64 x275001_3] 46 (0, 0)) (by (with_reducible repeat (first | refine blk_drewN ?_ _ | refine blk_drew ?_ | refine blk_alloc ?_ _)); exact BK274.out) hg (Kd.R_away HO_7.out (fun _ hk => hk))); have n1_ := Aside0.mk (hb); have n2_ := Aside0.mk (ho); clear BK274; clear HB; clear HO_7; have BK274 := n0_; have HB := n1_; have HO291 := n2_; clear n0_ n1_ n2_; clear ho hb hg hat))
                          go_roundg k3
                          case measure => have := HK1.out; have := HJ8.out; have := HK3.out; omega
                          case rel => exact ⟨(y289), (wrap64 (x18_1 + 1)), (by first | rfl | (simp; done) | (simp [*]; done)), H', ⟨by have := HK1.out; have := HJ8.out; have := HK3.out; omega⟩, ⟨by (with_reducible repeat (first | apply Kd.R_alloc | apply Kd.R_drewN | apply Kd.R_drew)); exact Kd.R_mono HO291.out (fun _ hk => trivial)⟩, ⟨by repeat (first | (with_reducible first | exact HB.out | apply below_alloc | apply pw_below_drewN | apply below_drew1 | refine below_set ?_ GE274.out) | exact HB.out)⟩⟩
                        · rw [if_neg c58] at H
                          exact absurd H (by simp)
            · rw [if_neg c8] at H
              exact absurd H (by simp)
          · rw [if_neg c7] at H
            exact absurd H (by simp)
        · rw [if_neg c6] at H
          have c6b0 : decide (x18_1 < (l1.length : Int)) = false := decide_eq_false c6
          clear c6
          replace H := Option.bind_eq_some_iff.mp H
          obtain ⟨t270, A610, H⟩ := H
          replace H : (some (t270, 0)) = some (r1, r2) := H
          have A61 := Aside0.mk A610
          clear A610
          simp only [Option.some.injEq, Prod.mk.injEq] at H
          obtain ⟨rfl, rfl⟩ := H
          obtain ⟨Ao62, co62, eo62⟩ := Kd.R_slice HO_7.out
          subst eo62
          go_wp2_with (first | ((with_reducible refine gate_callee (f := 57) rfl ?_); refine goesL_ (some 86) rfl rfl Tryd.func57 (by kernel_rfl) rfl #[.slice Ao62 x7_1.length co62] rfl (by (try simp only [List.map_toArray, List.map_cons, List.map_nil]); first | done | rfl | (simp only [List.length_drop, List.length_take]; rfl)) ?_; (with_reducible refine (privilege_put.calls k1 (fun k_ => some k_ = (.slice Ao62 x7_1.length co62 : Value).ownBlock) (.slice Ao62 x7_1.length co62) x7_1 t270 w _ ?side1 ?side2 A61.out).mono ?_); (case side1 => repeat (first | (with_reducible first | exact HB.out | apply below_alloc | apply pw_below_drewN | apply below_drew1) | exact HB.out)); (case side2 => exact Kd.R_tight rfl HO_7.out); rintro e w63 ⟨v271, rfl, ho0, hb, hkp⟩; refine ⟨_, rfl, ?_⟩; have n0_ := Aside0.mk (Kd.R_mono (ok' := fun k_ => True) ho0 (fun k_ hk_ => trivial)); have n1_ := Aside0.mk (hb); clear HB; clear HO_7; have HO272 := n0_; have HB := n1_; clear n0_ n1_; (try clear hb); (try clear hkp); (try clear ho0)))
          go_ret2
          exact ⟨_, by first | rfl | (simp [errW_none, errW_some] <;> rfl) | (simp [*, errW_none, errW_some] <;> rfl), by (with_reducible repeat (first | apply Kd.R_alloc | apply Kd.R_drewN | apply Kd.R_drew)); exact HO272.out, by repeat (first | (with_reducible first | exact HB.out | apply below_alloc | apply pw_below_drewN | apply below_drew1) | exact HB.out)⟩
  · rw [if_neg c4] at H
    have c4b0 : (t269 == 0) = false := beq_eq_false_iff_ne.mpr c4
    have c4b1 : (t269 != 0) = true := bne_iff_ne.mpr c4
    simp only [Option.some.injEq, Prod.mk.injEq] at H
    obtain ⟨rfl, rfl⟩ := H
    go_enter Tryd.func25, Tryd.ntmps25
    go_wp2_with (first | ((with_reducible refine gate_callee (f := 53) rfl ?_); refine goesL_ (some 12) rfl rfl Tryd.func53 (by kernel_rfl) rfl #[.string a0, .slice A1 l1.length c1] rfl (by (try simp only [List.map_toArray, List.map_cons, List.map_nil]); first | done | rfl | (simp only [List.length_drop, List.length_take]; rfl)) ?_; (with_reducible refine (privilege_textError.calls k a0 _ _ l1 t269 _ ?side1 ?side2 ?side3 A3.out).mono ?_); (case side1 => repeat (first | exact HR1.out | (with_reducible refine Kd.C_alloc ?_ _) | (with_reducible refine Kd.C_drewN ?_ _) | (with_reducible refine Kd.C_drew ?_))); (case side2 => exact HC1.out); (case side3 => exact Wd.below HGl.out (by repeat (first | (with_reducible first | exact HB.out | apply below_alloc | apply pw_below_drewN | apply below_drew1) | exact HB.out))); rintro e w64 ⟨rfl, hb⟩; refine ⟨_, rfl, ?_⟩; have n0_ := Aside0.mk (below_step (by repeat (first | (with_reducible first | exact HB.out | apply below_alloc | apply pw_below_drewN | apply below_drew1) | exact HB.out)) hb); clear HB; have HB := n0_; clear n0_; (try clear hb); (try clear hb2); (try clear hk); (try clear hi)))
    go_ret2
    exact ⟨_, by first | rfl | (simp [errW_none, errW_some] <;> rfl) | (simp [*, errW_none, errW_some] <;> rfl), by first | exact Kd.R_nil _ _ _ _ _ | exact Kd.N_nil _ _ _ _ _ | exact Kd.V_nil _ _ _ _ _ | exact Kd.Q_nil _ _ _ _ _ | exact Kd.S_nil _ _ _ _ _, by repeat (first | (with_reducible first | exact HB.out | apply below_alloc | apply pw_below_drewN | apply below_drew1) | exact HB.out)⟩
end Go.Proofs.YtolcpmdojlbhcaaDoor.Pe
