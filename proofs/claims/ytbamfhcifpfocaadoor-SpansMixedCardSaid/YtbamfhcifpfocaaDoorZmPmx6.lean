/- Part of the proof that the law spansMixed is true for every input. No conditions. Laid by a program of this session over the kit's print and words; declarations that nothing names are left out. -/
import Derived.Test.YtbamfhcifpfocaaDoorZmPmx0
namespace Go.Proofs.YtbamfhcifpfocaaDoor.Pm
open Go.RowKit Go.Proofs.YtbamfhcifpfocaaDoor.GBase Go.Proofs.YtbamfhcifpfocaaDoorW.PrintWords Go.Proofs.YtbamfhcifpfocaaDoorW.PrintLast Go.Proofs.YtbamfhcifpfocaaDoorW.PrintMore
attribute [local go_sem] str_leq max2_int min2_int max_two min_two max_three min_three max_four min_four
set_option linter.unusedVariables false
set_option linter.unusedSimpArgs false
mutual
def chaseref1_SpansFault.j0 : Nat → List (S46) → Int → Bool → Option (Int)
  | 0, _, _, _ => none
  | k + 1, x0, x1, x12 => if x12 = true then (some 1) else (if (x0.length : Int) > 1000 then (some 2) else (chaseref1_SpansFault.l0 k x0 x1 x0 (x0.length : Int) 0))
def chaseref1_SpansFault.l0 : Nat → List (S46) → Int → List (S46) → Int → Int → Option (Int)
  | 0, _, _, _, _, _ => none
  | k + 1, x0, x1, x16, x17, x18 => if x18 < x17 then (if 0 ≤ x18 then (if x18 < (x16.length : Int) then (if ((rd_T46 x16 x18).f0) < 0 then (chaseref1_SpansFault.j2 k x0 x1 x18 x16 x17 x18 true ((rd_T46 x16 x18).f0) ((rd_T46 x16 x18).f1)) else (if ((rd_T46 x16 x18).f0) ≥ ((rd_T46 x16 x18).f1) then (chaseref1_SpansFault.j2 k x0 x1 x18 x16 x17 x18 true ((rd_T46 x16 x18).f0) ((rd_T46 x16 x18).f1)) else (chaseref1_SpansFault.j2 k x0 x1 x18 x16 x17 x18 (decide (((rd_T46 x16 x18).f1) > x1)) ((rd_T46 x16 x18).f0) ((rd_T46 x16 x18).f1)))) else (none)) else (none)) else (some 0)
def chaseref1_SpansFault.j2 : Nat → List (S46) → Int → Int → List (S46) → Int → Int → Bool → Int → Int → Option (Int)
  | 0, _, _, _, _, _, _, _, _, _ => none
  | k + 1, x0, x1, x5, x16, x17, x18, x38, x217000, x217001 => if x38 = true then (some 1) else (if x5 > 0 then (if 0 ≤ (wrap64 (x5 - 1)) then (if (wrap64 (x5 - 1)) < (x0.length : Int) then (if x217000 ≤ ((rd_T46 x0 (wrap64 (x5 - 1))).f1) then (some 7) else (chaseref1_SpansFault.l0 k x0 x1 x16 x17 (wrap64 (x18 + 1)))) else (none)) else (none)) else (chaseref1_SpansFault.l0 k x0 x1 x16 x17 (wrap64 (x18 + 1))))
end
def chaseref1_SpansFault.f (k : Nat) (l0 : List (S46)) (a1 : Int) : Option (Int) := if a1 < 0 then (chaseref1_SpansFault.j0 k l0 a1 true) else (chaseref1_SpansFault.j0 k l0 a1 (decide (a1 > 200000)))
theorem chaseref1_SpansFault.mono_l : ∀ k, (∀ y0 y1 y2, LeO (chaseref1_SpansFault.j0 k y0 y1 y2) (chaseref1_SpansFault.j0 (k + 1) y0 y1 y2)) ∧ (∀ y0 y1 y2 y3 y4, LeO (chaseref1_SpansFault.l0 k y0 y1 y2 y3 y4) (chaseref1_SpansFault.l0 (k + 1) y0 y1 y2 y3 y4)) ∧ (∀ y0 y1 y2 y3 y4 y5 y6 y7 y8, LeO (chaseref1_SpansFault.j2 k y0 y1 y2 y3 y4 y5 y6 y7 y8) (chaseref1_SpansFault.j2 (k + 1) y0 y1 y2 y3 y4 y5 y6 y7 y8))
  | 0 => ⟨fun _ _ _ r h => by simp [chaseref1_SpansFault.j0] at h, fun _ _ _ _ _ r h => by simp [chaseref1_SpansFault.l0] at h, fun _ _ _ _ _ _ _ _ _ r h => by simp [chaseref1_SpansFault.j2] at h⟩
  | k + 1 => by
    obtain ⟨ih0, ih1, ih2⟩ := chaseref1_SpansFault.mono_l k
    refine ⟨?_, ?_, ?_⟩
    · intro y0 y1 y2
      unfold chaseref1_SpansFault.j0
      repeat' first
      | (with_reducible exact ih0 _ _ _)
      | (with_reducible exact ih1 _ _ _ _ _)
      | (with_reducible exact ih2 _ _ _ _ _ _ _ _ _)
      | (with_reducible exact LeO.refl _)
      | (with_reducible exact LeO.none _)
      | (with_reducible refine LeO.ite ?_ ?_)
      | (with_reducible refine LeO.bind ?_ (fun _ => ?_))
      | exact ih0 _ _ _
      | exact ih1 _ _ _ _ _
      | exact ih2 _ _ _ _ _ _ _ _ _
      | exact LeO.none _
      | refine LeO.ite ?_ ?_
      | refine LeO.bind ?_ (fun _ => ?_)
    · intro y0 y1 y2 y3 y4
      unfold chaseref1_SpansFault.l0
      repeat' first
      | (with_reducible exact ih0 _ _ _)
      | (with_reducible exact ih1 _ _ _ _ _)
      | (with_reducible exact ih2 _ _ _ _ _ _ _ _ _)
      | (with_reducible exact LeO.refl _)
      | (with_reducible exact LeO.none _)
      | (with_reducible refine LeO.ite ?_ ?_)
      | (with_reducible refine LeO.bind ?_ (fun _ => ?_))
      | exact ih0 _ _ _
      | exact ih1 _ _ _ _ _
      | exact ih2 _ _ _ _ _ _ _ _ _
      | exact LeO.none _
      | refine LeO.ite ?_ ?_
      | refine LeO.bind ?_ (fun _ => ?_)
    · intro y0 y1 y2 y3 y4 y5 y6 y7 y8
      unfold chaseref1_SpansFault.j2
      repeat' first
      | (with_reducible exact ih0 _ _ _)
      | (with_reducible exact ih1 _ _ _ _ _)
      | (with_reducible exact ih2 _ _ _ _ _ _ _ _ _)
      | (with_reducible exact LeO.refl _)
      | (with_reducible exact LeO.none _)
      | (with_reducible refine LeO.ite ?_ ?_)
      | (with_reducible refine LeO.bind ?_ (fun _ => ?_))
      | exact ih0 _ _ _
      | exact ih1 _ _ _ _ _
      | exact ih2 _ _ _ _ _ _ _ _ _
      | exact LeO.none _
      | refine LeO.ite ?_ ?_
      | refine LeO.bind ?_ (fun _ => ?_)
theorem chaseref1_SpansFault.mono : ∀ a0 a1 k, LeO (chaseref1_SpansFault.f k a0 a1) (chaseref1_SpansFault.f (k + 1) a0 a1) := by
  intro a0 a1 k
  obtain ⟨ih0, ih1, ih2⟩ := chaseref1_SpansFault.mono_l k
  unfold chaseref1_SpansFault.f
  repeat' first
      | (with_reducible exact ih0 _ _ _)
      | (with_reducible exact ih1 _ _ _ _ _)
      | (with_reducible exact ih2 _ _ _ _ _ _ _ _ _)
      | (with_reducible exact LeO.refl _)
      | (with_reducible exact LeO.none _)
      | (with_reducible refine LeO.ite ?_ ?_)
      | (with_reducible refine LeO.bind ?_ (fun _ => ?_))
      | exact ih0 _ _ _
      | exact ih1 _ _ _ _ _
      | exact ih2 _ _ _ _ _ _ _ _ _
      | exact LeO.none _
      | refine LeO.ite ?_ ?_
      | refine LeO.bind ?_ (fun _ => ?_)
set_option maxHeartbeats 8000000 in
set_option maxRecDepth 100000 in
theorem chaseref1_SpansFault.calls (k : Nat) (A0 : Option Addr) (c0 : Nat) (l0 : List (S46)) (a1 : Int) (r : Int) (w : World) (hr0 : Kd.C k46 w A0 l0.length l0) (hc0 : l0.length ≤ c0) (h : chaseref1_SpansFault.f k l0 a1 = some r) :
    Calls Tryd.prog 23 #[.slice A0 l0.length c0, .int .i64 a1] w fun e w' => e = .returned (.int .i64 r) ∧ Below w.heap.size w w' := by
  have hu46 := Tryd.underlying46
  have HR0 := Aside0.mk hr0
  have HC0 := Aside0.mk hc0
  clear hr0 hc0
  have HB := Aside0.mk (Below.refl w.heap.size w)
  have H : (if a1 < 0 then (chaseref1_SpansFault.j0 k l0 a1 true) else (chaseref1_SpansFault.j0 k l0 a1 (decide (a1 > 200000)))) = some r := h
  clear h
  have HC3 := Aside0.mk H
  clear H
  go_enter Tryd.func23, Tryd.ntmps23
  go_upto_region 1 with (fail)
  repeat (go_quiet (fail); go_upto_region 1 with (fail))
  go_cut [12] (fun v12 wc => ∃ (kq : Nat) (x12_2 : Bool), v12 = .bool x12_2 ∧ Aside0 (chaseref1_SpansFault.j0 kq l0 a1 x12_2 = some r) ∧ Aside0 (kq ≤ k) ∧ Aside0 (Below w.heap.size w wc))
  case first =>
    have H := HC3.out
    clear HC3
    by_cases c4 : a1 < 0
    · rw [if_pos c4] at H
      have c4b0 : decide (a1 < 0) = true := decide_eq_true c4
      clear c4
      (first | rw [c4b0] | (simp only [i64_w, i32_w]; rw [c4b0]) | skip)
      have H' := Aside0.mk H
      clear H
      go_wp2
      repeat (go_quiet (fail); try go_wp2)
      go_meet
      case rel => exact ⟨_, (true), (by first | rfl | (simp; done) | (simp [*]; done)), H', ⟨by first | omega | exact Nat.le_refl _⟩, ⟨by repeat (first | (with_reducible first | exact HB.out | apply below_alloc | apply pw_below_drewN | apply below_drew1) | exact HB.out)⟩⟩
    · rw [if_neg c4] at H
      have c4b0 : decide (a1 < 0) = false := decide_eq_false c4
      clear c4
      (first | rw [c4b0] | (simp only [i64_w, i32_w]; rw [c4b0]) | skip)
      have H' := Aside0.mk H
      clear H
      go_wp2
      repeat (go_quiet (fail); try go_wp2)
      go_meet
      case rel => exact ⟨_, (decide (a1 > 200000)), (by first | rfl | (simp; done) | (simp [*]; done)), H', ⟨by first | omega | exact Nat.le_refl _⟩, ⟨by repeat (first | (with_reducible first | exact HB.out | apply below_alloc | apply pw_below_drewN | apply below_drew1) | exact HB.out)⟩⟩
  case rest =>
    clear HC3
    try clear c2
    try clear p2
    try clear c4
    try clear c4b0
    obtain ⟨kq, x12_2, rfl, HA, HJ2, HB⟩ := hcut
    cases kq with
    | zero => exact absurd HA.out (by simp [chaseref1_SpansFault.j0])
    | succ kj2 =>
      have H := HA.out
      clear HA
      simp only [chaseref1_SpansFault.j0] at H
      by_cases c5 : x12_2 = true
      · subst c5
        have H1 : (some 1) = some r := by rw [if_pos rfl] at H; exact H
        clear H
        have H := H1
        clear H1
        obtain rfl := Option.some.inj H
        go_wp2
        repeat (go_quiet (fail); try go_wp2)
        go_ret
        exact ⟨by first | rfl | (simp [errW_none, errW_some] <;> rfl) | (simp [*, errW_none, errW_some] <;> rfl), by repeat (first | (with_reducible first | exact HB.out | apply below_alloc | apply pw_below_drewN | apply below_drew1) | exact HB.out)⟩
      · replace c5 := Bool.eq_false_iff.mpr c5
        subst c5
        have H1 : (if (l0.length : Int) > 1000 then (some 2) else (chaseref1_SpansFault.l0 kj2 l0 a1 l0 (l0.length : Int) 0)) = some r := by rw [if_neg (show ¬ (false = true) by decide)] at H; exact H
        clear H
        have H := H1
        clear H1
        by_cases c6 : (l0.length : Int) > 1000
        · rw [if_pos c6] at H
          have c6b0 : decide (1000 < (l0.length : Int)) = true := decide_eq_true c6
          have c6b1 : decide (1000 < l0.length) = true := decide_eq_true (by omega)
          clear c6
          obtain rfl := Option.some.inj H
          go_wp2
          repeat (go_quiet (fail); try go_wp2)
          go_ret
          exact ⟨by first | rfl | (simp [errW_none, errW_some] <;> rfl) | (simp [*, errW_none, errW_some] <;> rfl), by repeat (first | (with_reducible first | exact HB.out | apply below_alloc | apply pw_below_drewN | apply below_drew1) | exact HB.out)⟩
        · rw [if_neg c6] at H
          have c6b0 : decide (1000 < (l0.length : Int)) = false := decide_eq_false c6
          have c6b1 : decide (1000 < l0.length) = false := decide_eq_false (by omega)
          clear c6
          have H' := Aside0.mk H
          clear H
          go_wp2
          repeat (go_quiet (fail); try go_wp2)
          go_loopg [18] kj2 (fun kq v18 w' => ∃ (x18_2 : Int), v18 = .int .i64 x18_2 ∧ Aside0 (chaseref1_SpansFault.l0 kq l0 a1 l0 (l0.length : Int) x18_2 = some r) ∧ Aside0 (kq ≤ kj2) ∧ Aside0 (Below w.heap.size w w'))
          case atStart => exact ⟨(0), (by first | rfl | (simp; done) | (simp [*]; done)), H', ⟨Nat.le_refl _⟩, ⟨by repeat (first | (with_reducible first | exact HB.out | apply below_alloc | apply pw_below_drewN | apply below_drew1) | exact HB.out)⟩⟩
          case round =>
            clear H'
            try clear c2
            try clear p2
            try clear c4
            try clear c4b0
            try clear c5
            try clear c6
            try clear c6b0
            try clear c6b1
            try clear p2
            obtain ⟨x18_2, rfl, HA, HK2, HB⟩ := hrel
            cases gk with
            | zero => exact absurd HA.out (by simp [chaseref1_SpansFault.l0])
            | succ k2 =>
              have H := HA.out
              clear HA
              simp only [chaseref1_SpansFault.l0] at H
              by_cases c7 : x18_2 < (l0.length : Int)
              · rw [if_pos c7] at H
                have c7b0 : decide (x18_2 < (l0.length : Int)) = true := decide_eq_true c7
                clear c7
                by_cases c8 : 0 ≤ x18_2
                · rw [if_pos c8] at H
                  have c8b0 : decide (0 ≤ x18_2) = true := decide_eq_true c8
                  clear c8
                  by_cases c9 : x18_2 < (l0.length : Int)
                  · rw [if_pos c9] at H
                    have c9b0 : decide (x18_2 < (l0.length : Int)) = true := decide_eq_true c9
                    clear c9
                    have HC10 := Aside0.mk H
                    clear H
                    have p215 : 0 ≤ (x18_2 : Int) := of_decide_eq_true (by first | (with_reducible assumption) | assumption)
                    have q215 : x18_2 < (l0.length : Int) := of_decide_eq_true (by first | (with_reducible assumption) | assumption)
                    obtain ⟨ad215, e215, hx215_0, hx215_1⟩ := at_T46 HR0.out x18_2 p215 q215
                    cases e215
                    first | replace hx215_0 := (HB.out.cell (World.block_lt_of_cell? w _ hx215_0)).trans hx215_0 | skip
                    first | replace hx215_1 := (HB.out.cell (World.block_lt_of_cell? w _ hx215_1)).trans hx215_1 | skip
                    replace p215 := eq_true p215
                    replace q215 := eq_true q215
                    go_upto_region 8 with (first | ((with_reducible refine gate_dst (N := 6) rfl ?_); refine box_event ?hg (N := 6) ?hd (cs := #[.int .i64 0, .int .i64 0]) (t := 46) ?hr ?_; (case hd => rfl); (case hg => rfl); (case hr => first | (go_simp; done) | (go_simp; rfl)); intro gb216 hg w11 hbox hb; have n0_ := Aside0.mk (below_step (by repeat (first | (with_reducible first | exact HB.out | apply below_alloc | apply pw_below_drewN | apply below_drew1) | exact HB.out)) hb); have n1_ := Aside0.mk (hbox); have n2_ := Aside0.mk ((by rw [hg]; exact (below_size (by repeat (first | (with_reducible first | exact HB.out | apply below_alloc | apply pw_below_drewN | apply below_drew1) | exact HB.out))) : w.heap.size ≤ gb216)); have n3_ := Aside0.mk ((by rw [hg]; exact (below_size (by repeat (first | (with_reducible first | exact HB.out | apply below_alloc | apply pw_below_drewN | apply below_drew1) | exact HB.out))) : w.heap.size ≤ gb216)); clear HB; have HB := n0_; have BK216 := n1_; have GW216 := n2_; have GE216 := n3_; clear n0_ n1_ n2_ n3_; clear hb hbox hg; have hcz12_0 : w11.cell? ⟨gb216, 0, none⟩ = some (.int .i64 0) := (blk_cell BK216.out 0).trans rfl; have hcz12_1 : w11.cell? ⟨gb216, 1, none⟩ = some (.int .i64 0) := (blk_cell BK216.out 1).trans rfl; have hfz12_0 := blk_frozen BK216.out 0; have hfz12_1 := blk_frozen BK216.out 1))
                    repeat (go_quiet (first | ((with_reducible refine gate_dst (N := 6) rfl ?_); refine box_event ?hg (N := 6) ?hd (cs := #[.int .i64 0, .int .i64 0]) (t := 46) ?hr ?_; (case hd => rfl); (case hg => rfl); (case hr => first | (go_simp; done) | (go_simp; rfl)); intro gb216 hg w11 hbox hb; have n0_ := Aside0.mk (below_step (by repeat (first | (with_reducible first | exact HB.out | apply below_alloc | apply pw_below_drewN | apply below_drew1) | exact HB.out)) hb); have n1_ := Aside0.mk (hbox); have n2_ := Aside0.mk ((by rw [hg]; exact (below_size (by repeat (first | (with_reducible first | exact HB.out | apply below_alloc | apply pw_below_drewN | apply below_drew1) | exact HB.out))) : w.heap.size ≤ gb216)); have n3_ := Aside0.mk ((by rw [hg]; exact (below_size (by repeat (first | (with_reducible first | exact HB.out | apply below_alloc | apply pw_below_drewN | apply below_drew1) | exact HB.out))) : w.heap.size ≤ gb216)); clear HB; have HB := n0_; have BK216 := n1_; have GW216 := n2_; have GE216 := n3_; clear n0_ n1_ n2_ n3_; clear hb hbox hg; have hcz12_0 : w11.cell? ⟨gb216, 0, none⟩ = some (.int .i64 0) := (blk_cell BK216.out 0).trans rfl; have hcz12_1 : w11.cell? ⟨gb216, 1, none⟩ = some (.int .i64 0) := (blk_cell BK216.out 1).trans rfl; have hfz12_0 := blk_frozen BK216.out 0; have hfz12_1 := blk_frozen BK216.out 1)); go_upto_region 8 with (first | ((with_reducible refine gate_dst (N := 6) rfl ?_); refine box_event ?hg (N := 6) ?hd (cs := #[.int .i64 0, .int .i64 0]) (t := 46) ?hr ?_; (case hd => rfl); (case hg => rfl); (case hr => first | (go_simp; done) | (go_simp; rfl)); intro gb216 hg w11 hbox hb; have n0_ := Aside0.mk (below_step (by repeat (first | (with_reducible first | exact HB.out | apply below_alloc | apply pw_below_drewN | apply below_drew1) | exact HB.out)) hb); have n1_ := Aside0.mk (hbox); have n2_ := Aside0.mk ((by rw [hg]; exact (below_size (by repeat (first | (with_reducible first | exact HB.out | apply below_alloc | apply pw_below_drewN | apply below_drew1) | exact HB.out))) : w.heap.size ≤ gb216)); have n3_ := Aside0.mk ((by rw [hg]; exact (below_size (by repeat (first | (with_reducible first | exact HB.out | apply below_alloc | apply pw_below_drewN | apply below_drew1) | exact HB.out))) : w.heap.size ≤ gb216)); clear HB; have HB := n0_; have BK216 := n1_; have GW216 := n2_; have GE216 := n3_; clear n0_ n1_ n2_ n3_; clear hb hbox hg; have hcz12_0 : w11.cell? ⟨gb216, 0, none⟩ = some (.int .i64 0) := (blk_cell BK216.out 0).trans rfl; have hcz12_1 : w11.cell? ⟨gb216, 1, none⟩ = some (.int .i64 0) := (blk_cell BK216.out 1).trans rfl; have hfz12_0 := blk_frozen BK216.out 0; have hfz12_1 := blk_frozen BK216.out 1)))
                    (try simp only [Act.put, List.setIfInBounds_toArray, List.set_cons_zero, List.set_cons_succ])
                    go_cut [38] (fun v38 wc => ∃ (kq : Nat) (x38_9 : Bool), v38 = .bool x38_9 ∧ Aside0 (chaseref1_SpansFault.j2 kq l0 a1 x18_2 l0 (l0.length : Int) x18_2 x38_9 ((rd_T46 l0 x18_2).f0) ((rd_T46 l0 x18_2).f1) = some r) ∧ Aside0 (kq ≤ k2) ∧ Aside0 (wc.heap[gb216]? = some (.cells #[.int .i64 ((rd_T46 l0 x18_2).f0), .int .i64 ((rd_T46 l0 x18_2).f1)] 46 (0, 0))) ∧ Aside0 (Below w.heap.size w wc))
                    case first =>
                      have H := HC10.out
                      clear HC10
                      by_cases c13 : ((rd_T46 l0 x18_2).f0) < 0
                      · rw [if_pos c13] at H
                        have c13b0 : decide (((rd_T46 l0 x18_2).f0) < 0) = true := decide_eq_true c13
                        clear c13
                        (first | rw [c13b0] | (simp only [i64_w, i32_w]; rw [c13b0]) | skip)
                        have H' := Aside0.mk H
                        clear H
                        have hcz14_0 : w11.cell? ⟨gb216, 0, none⟩ = some (.int .i64 0) := (blk_cell BK216.out 0).trans rfl
                        have hcz14_1 : w11.cell? ⟨gb216, 1, none⟩ = some (.int .i64 0) := (blk_cell BK216.out 1).trans rfl
                        have hfz14_0 := blk_frozen BK216.out 0
                        have hfz14_1 := blk_frozen BK216.out 1
                        go_wp2
                        repeat (go_quiet (fail); try go_wp2)
                        go_meet
                        case rel => exact ⟨_, (true), (by first | rfl | (simp; done) | (simp [*]; done)), H', ⟨by have := HJ2.out; have := HK2.out; first | omega | exact Nat.le_refl _⟩, ⟨by (with_reducible repeat (first | refine blk_drewN ?_ _ | refine blk_drew ?_ | refine blk_alloc ?_ _)); refine blk_put (cs := #[.int .i64 ((rd_T46 l0 x18_2).f0), .int .i64 0]) ?_ 1 _ rfl; (with_reducible repeat (first | refine blk_drewN ?_ _ | refine blk_drew ?_ | refine blk_alloc ?_ _)); refine blk_put (cs := #[.int .i64 0, .int .i64 0]) ?_ 0 _ rfl; (with_reducible repeat (first | refine blk_drewN ?_ _ | refine blk_drew ?_ | refine blk_alloc ?_ _)); exact BK216.out⟩, ⟨by repeat (first | (with_reducible first | exact HB.out | apply below_alloc | apply pw_below_drewN | apply below_drew1 | refine below_set ?_ GE216.out) | exact HB.out)⟩⟩
                      · rw [if_neg c13] at H
                        have c13b0 : decide (((rd_T46 l0 x18_2).f0) < 0) = false := decide_eq_false c13
                        clear c13
                        (first | rw [c13b0] | (simp only [i64_w, i32_w]; rw [c13b0]) | skip)
                        by_cases c15 : ((rd_T46 l0 x18_2).f0) ≥ ((rd_T46 l0 x18_2).f1)
                        · rw [if_pos c15] at H
                          have c15b0 : decide (((rd_T46 l0 x18_2).f1) ≤ ((rd_T46 l0 x18_2).f0)) = true := decide_eq_true c15
                          clear c15
                          have H' := Aside0.mk H
                          clear H
                          have hcz16_0 : w11.cell? ⟨gb216, 0, none⟩ = some (.int .i64 0) := (blk_cell BK216.out 0).trans rfl
                          have hcz16_1 : w11.cell? ⟨gb216, 1, none⟩ = some (.int .i64 0) := (blk_cell BK216.out 1).trans rfl
                          have hfz16_0 := blk_frozen BK216.out 0
                          have hfz16_1 := blk_frozen BK216.out 1
                          go_wp2
                          repeat (go_quiet (fail); try go_wp2)
                          go_meet
                          case rel => exact ⟨_, (true), (by first | rfl | (simp; done) | (simp [*]; done)), H', ⟨by have := HJ2.out; have := HK2.out; first | omega | exact Nat.le_refl _⟩, ⟨by (with_reducible repeat (first | refine blk_drewN ?_ _ | refine blk_drew ?_ | refine blk_alloc ?_ _)); refine blk_put (cs := #[.int .i64 ((rd_T46 l0 x18_2).f0), .int .i64 0]) ?_ 1 _ rfl; (with_reducible repeat (first | refine blk_drewN ?_ _ | refine blk_drew ?_ | refine blk_alloc ?_ _)); refine blk_put (cs := #[.int .i64 0, .int .i64 0]) ?_ 0 _ rfl; (with_reducible repeat (first | refine blk_drewN ?_ _ | refine blk_drew ?_ | refine blk_alloc ?_ _)); exact BK216.out⟩, ⟨by repeat (first | (with_reducible first | exact HB.out | apply below_alloc | apply pw_below_drewN | apply below_drew1 | refine below_set ?_ GE216.out) | exact HB.out)⟩⟩
                        · rw [if_neg c15] at H
                          have c15b0 : decide (((rd_T46 l0 x18_2).f1) ≤ ((rd_T46 l0 x18_2).f0)) = false := decide_eq_false c15
                          clear c15
                          have H' := Aside0.mk H
                          clear H
                          have hcz17_0 : w11.cell? ⟨gb216, 0, none⟩ = some (.int .i64 0) := (blk_cell BK216.out 0).trans rfl
                          have hcz17_1 : w11.cell? ⟨gb216, 1, none⟩ = some (.int .i64 0) := (blk_cell BK216.out 1).trans rfl
                          have hfz17_0 := blk_frozen BK216.out 0
                          have hfz17_1 := blk_frozen BK216.out 1
                          go_wp2
                          repeat (go_quiet (fail); try go_wp2)
                          go_meet
                          case rel => exact ⟨_, (decide (((rd_T46 l0 x18_2).f1) > a1)), (by first | rfl | (simp; done) | (simp [*]; done)), H', ⟨by have := HJ2.out; have := HK2.out; first | omega | exact Nat.le_refl _⟩, ⟨by (with_reducible repeat (first | refine blk_drewN ?_ _ | refine blk_drew ?_ | refine blk_alloc ?_ _)); refine blk_put (cs := #[.int .i64 ((rd_T46 l0 x18_2).f0), .int .i64 0]) ?_ 1 _ rfl; (with_reducible repeat (first | refine blk_drewN ?_ _ | refine blk_drew ?_ | refine blk_alloc ?_ _)); refine blk_put (cs := #[.int .i64 0, .int .i64 0]) ?_ 0 _ rfl; (with_reducible repeat (first | refine blk_drewN ?_ _ | refine blk_drew ?_ | refine blk_alloc ?_ _)); exact BK216.out⟩, ⟨by repeat (first | (with_reducible first | exact HB.out | apply below_alloc | apply pw_below_drewN | apply below_drew1 | refine below_set ?_ GE216.out) | exact HB.out)⟩⟩
                    case rest =>
                      clear HC10
                      try clear c1
                      try clear c2
                      try clear p2
                      try clear q2
                      try clear hx2
                      try clear c4
                      try clear c4b0
                      try clear c5
                      try clear c6
                      try clear c6b0
                      try clear c6b1
                      try clear c7
                      try clear c7b0
                      try clear c8
                      try clear c8b0
                      try clear c9
                      try clear c9b0
                      try clear c13
                      try clear c13b0
                      try clear c15
                      try clear c15b0
                      try clear hcz12_0
                      try clear hcz12_1
                      try clear hcz14_0
                      try clear hcz14_1
                      try clear hcz16_0
                      try clear hcz16_1
                      try clear hcz17_0
                      try clear hcz17_1
                      try clear hfz12_0
                      try clear hfz12_1
                      try clear hfz14_0
                      try clear hfz14_1
                      try clear hfz16_0
                      try clear hfz16_1
                      try clear hfz17_0
                      try clear hfz17_1
                      try clear hx215_0
                      try clear hx215_1
                      try clear p2
                      try clear p215
                      try clear q215
                      obtain ⟨kq, x38_9, rfl, HA, HJ9, BK216, HB⟩ := hcut
                      cases kq with
                      | zero => exact absurd HA.out (by simp [chaseref1_SpansFault.j2])
                      | succ kj9 =>
                        have H := HA.out
                        clear HA
                        simp only [chaseref1_SpansFault.j2] at H
                        by_cases c18 : x38_9 = true
                        · subst c18
                          have H1 : (some 1) = some r := by rw [if_pos rfl] at H; exact H
                          clear H
                          have H := H1
                          clear H1
                          obtain rfl := Option.some.inj H
                          go_wp2
                          repeat (go_quiet (fail); try go_wp2)
                          go_ret
                          exact ⟨by first | rfl | (simp [errW_none, errW_some] <;> rfl) | (simp [*, errW_none, errW_some] <;> rfl), by repeat (first | (with_reducible first | exact HB.out | apply below_alloc | apply pw_below_drewN | apply below_drew1 | refine below_set ?_ GE216.out) | exact HB.out)⟩
                        · replace c18 := Bool.eq_false_iff.mpr c18
                          subst c18
                          have H1 : (if x18_2 > 0 then (if 0 ≤ (wrap64 (x18_2 - 1)) then (if (wrap64 (x18_2 - 1)) < (l0.length : Int) then (if ((rd_T46 l0 x18_2).f0) ≤ ((rd_T46 l0 (wrap64 (x18_2 - 1))).f1) then (some 7) else (chaseref1_SpansFault.l0 kj9 l0 a1 l0 (l0.length : Int) (wrap64 (x18_2 + 1)))) else (none)) else (none)) else (chaseref1_SpansFault.l0 kj9 l0 a1 l0 (l0.length : Int) (wrap64 (x18_2 + 1)))) = some r := by rw [if_neg (show ¬ (false = true) by decide)] at H; exact H
                          clear H
                          have H := H1
                          clear H1
                          by_cases c19 : x18_2 > 0
                          · rw [if_pos c19] at H
                            have c19b0 : decide (0 < x18_2) = true := decide_eq_true c19
                            clear c19
                            obtain ⟨ji20, hji20⟩ : ∃ j_ : Int, (wrap64 (x18_2 - 1)) = j_ := ⟨_, rfl⟩
                            replace H : (if 0 ≤ (ji20) then (if (ji20) < (l0.length : Int) then (if ((rd_T46 l0 x18_2).f0) ≤ ((rd_T46 l0 (ji20)).f1) then (some 7) else (chaseref1_SpansFault.l0 kj9 l0 a1 l0 (l0.length : Int) (wrap64 (x18_2 + 1)))) else (none)) else (none)) = some r := by first | (rw [hji20] at H; exact H) | (simp only [hji20] at H ⊢; exact H)
                            have hji20w : (IntKind.i64.wrap (x18_2 - 1)) = ji20 := (i64_w _).trans hji20
                            by_cases c21 : 0 ≤ (ji20)
                            · rw [if_pos c21] at H
                              have c21b0 : decide (0 ≤ (ji20)) = true := decide_eq_true c21
                              clear c21
                              by_cases c22 : (ji20) < (l0.length : Int)
                              · rw [if_pos c22] at H
                                have c22b0 : decide ((ji20) < (l0.length : Int)) = true := decide_eq_true c22
                                clear c22
                                by_cases c23 : ((rd_T46 l0 x18_2).f0) ≤ ((rd_T46 l0 (ji20)).f1)
                                · rw [if_pos c23] at H
                                  have c23b0 : decide (((rd_T46 l0 x18_2).f0) ≤ ((rd_T46 l0 (ji20)).f1)) = true := decide_eq_true c23
                                  clear c23
                                  obtain rfl := Option.some.inj H
                                  have hcz24_0 : wc.cell? ⟨gb216, 0, none⟩ = some (.int .i64 ((rd_T46 l0 x18_2).f0)) := (blk_cell BK216.out 0).trans rfl
                                  have hcz24_1 : wc.cell? ⟨gb216, 1, none⟩ = some (.int .i64 ((rd_T46 l0 x18_2).f1)) := (blk_cell BK216.out 1).trans rfl
                                  have hfz24_0 := blk_frozen BK216.out 0
                                  have hfz24_1 := blk_frozen BK216.out 1
                                  have p217 : 0 ≤ ((ji20) : Int) := of_decide_eq_true (by first | (with_reducible assumption) | assumption)
                                  have q217 : (ji20) < (l0.length : Int) := of_decide_eq_true (by first | (with_reducible assumption) | assumption)
                                  obtain ⟨ad217, e217, hx217_0, hx217_1⟩ := at_T46 HR0.out (ji20) p217 q217
                                  obtain rfl : ad215 = ad217 := (by injection e217)
                                  first | replace hx217_0 := (HB.out.cell (World.block_lt_of_cell? w _ hx217_0)).trans hx217_0 | skip
                                  first | replace hx217_1 := (HB.out.cell (World.block_lt_of_cell? w _ hx217_1)).trans hx217_1 | skip
                                  replace p217 := eq_true p217
                                  replace q217 := eq_true q217
                                  go_wp2
                                  repeat (go_quiet (fail); try go_wp2)
                                  go_ret
                                  exact ⟨by first | rfl | (simp [errW_none, errW_some] <;> rfl) | (simp only [← hji20]; first | rfl | (simp [errW_none, errW_some] <;> rfl)) | (simp [*, errW_none, errW_some] <;> rfl), by repeat (first | (with_reducible first | exact HB.out | apply below_alloc | apply pw_below_drewN | apply below_drew1 | refine below_set ?_ GE216.out) | exact HB.out)⟩
                                · rw [if_neg c23] at H
                                  have c23b0 : decide (((rd_T46 l0 x18_2).f0) ≤ ((rd_T46 l0 (ji20)).f1)) = false := decide_eq_false c23
                                  clear c23
                                  have H' := Aside0.mk H
                                  clear H
                                  have hcz25_0 : wc.cell? ⟨gb216, 0, none⟩ = some (.int .i64 ((rd_T46 l0 x18_2).f0)) := (blk_cell BK216.out 0).trans rfl
                                  have hcz25_1 : wc.cell? ⟨gb216, 1, none⟩ = some (.int .i64 ((rd_T46 l0 x18_2).f1)) := (blk_cell BK216.out 1).trans rfl
                                  have hfz25_0 := blk_frozen BK216.out 0
                                  have hfz25_1 := blk_frozen BK216.out 1
                                  have p217 : 0 ≤ ((ji20) : Int) := of_decide_eq_true (by first | (with_reducible assumption) | assumption)
                                  have q217 : (ji20) < (l0.length : Int) := of_decide_eq_true (by first | (with_reducible assumption) | assumption)
                                  obtain ⟨ad217, e217, hx217_0, hx217_1⟩ := at_T46 HR0.out (ji20) p217 q217
                                  obtain rfl : ad215 = ad217 := (by injection e217)
                                  first | replace hx217_0 := (HB.out.cell (World.block_lt_of_cell? w _ hx217_0)).trans hx217_0 | skip
                                  first | replace hx217_1 := (HB.out.cell (World.block_lt_of_cell? w _ hx217_1)).trans hx217_1 | skip
                                  replace p217 := eq_true p217
                                  replace q217 := eq_true q217
                                  go_wp2
                                  repeat (go_quiet (fail); try go_wp2)
                                  go_roundg kj9
                                  case measure => have := HJ2.out; have := HK2.out; have := HJ9.out; omega
                                  case rel => exact ⟨(wrap64 (x18_2 + 1)), (by first | rfl | (simp; done) | (simp [*]; done)), H', ⟨by have := HJ2.out; have := HK2.out; have := HJ9.out; omega⟩, ⟨by repeat (first | (with_reducible first | exact HB.out | apply below_alloc | apply pw_below_drewN | apply below_drew1 | refine below_set ?_ GE216.out) | exact HB.out)⟩⟩
                              · rw [if_neg c22] at H
                                exact absurd H (by simp)
                            · rw [if_neg c21] at H
                              exact absurd H (by simp)
                          · rw [if_neg c19] at H
                            have c19b0 : decide (0 < x18_2) = false := decide_eq_false c19
                            clear c19
                            have H' := Aside0.mk H
                            clear H
                            go_wp2
                            repeat (go_quiet (fail); try go_wp2)
                            go_roundg kj9
                            case measure => have := HJ2.out; have := HK2.out; have := HJ9.out; omega
                            case rel => exact ⟨(wrap64 (x18_2 + 1)), (by first | rfl | (simp; done) | (simp [*]; done)), H', ⟨by have := HJ2.out; have := HK2.out; have := HJ9.out; omega⟩, ⟨by repeat (first | (with_reducible first | exact HB.out | apply below_alloc | apply pw_below_drewN | apply below_drew1 | refine below_set ?_ GE216.out) | exact HB.out)⟩⟩
                  · rw [if_neg c9] at H
                    exact absurd H (by simp)
                · rw [if_neg c8] at H
                  exact absurd H (by simp)
              · rw [if_neg c7] at H
                have c7b0 : decide (x18_2 < (l0.length : Int)) = false := decide_eq_false c7
                clear c7
                obtain rfl := Option.some.inj H
                go_wp2
                repeat (go_quiet (fail); try go_wp2)
                go_ret
                exact ⟨by first | rfl | (simp [errW_none, errW_some] <;> rfl) | (simp [*, errW_none, errW_some] <;> rfl), by repeat (first | (with_reducible first | exact HB.out | apply below_alloc | apply pw_below_drewN | apply below_drew1) | exact HB.out)⟩
def privilege_few.f (l0 : List (S46)) : Option ((List (S46)) × Int) := if (l0.length : Int) > 1000 then (some (([] : List (S46)), 2)) else (some (l0, 0))
set_option maxHeartbeats 8000000 in
set_option maxRecDepth 100000 in
theorem privilege_few.calls (P0_ : Nat → Prop) (u9000_ : Value) (l0 : List (S46)) (r1 : List (S46)) (r2 : Int) (w0 w : World) (hB : Below w0.heap.size w0 w) (ho0 : Kd.R k46 46 w w0.heap.size P0_ u9000_ l0) (h : privilege_few.f l0 = some (r1, r2)) :
    Calls Tryd.prog 85 #[u9000_] w fun e w' => ∃ v0_ : Value, e = .returned (.tuple #[v0_, .int .i64 r2]) ∧ Kd.R k46 46 w' w0.heap.size (fun k_ => (P0_ k_ ∨ w.heap.size ≤ k_)) v0_ r1 ∧ Below w0.heap.size w0 w' ∧ Kept w w' (fun k_ => P0_ k_) := by
  have HO0 := Aside0.mk (show Kd.R k46 46 w w0.heap.size (fun k_ => (P0_ k_ ∨ w.heap.size ≤ k_)) u9000_ l0 from Kd.R_mono ho0 (fun k_ hk => (.inl hk)))
  have HK := Aside0.mk (Kept.refl w (fun k_ => P0_ k_))
  have HW0 := Aside0.mk hB.size
  have HB := Aside0.mk hB
  clear hB
  have H : (if (l0.length : Int) > 1000 then (some (([] : List (S46)), 2)) else (some (l0, 0))) = some (r1, r2) := h
  clear h
  by_cases c2 : (l0.length : Int) > 1000
  · rw [if_pos c2] at H
    have c2b0 : decide (1000 < (l0.length : Int)) = true := decide_eq_true c2
    have c2b1 : decide (1000 < l0.length) = true := decide_eq_true (by omega)
    clear c2
    simp only [Option.some.injEq, Prod.mk.injEq] at H
    obtain ⟨rfl, rfl⟩ := H
    obtain ⟨Ao3, co3, eo3⟩ := Kd.R_slice HO0.out
    subst eo3
    go_enter Tryd.func85, Tryd.ntmps85
    go_wp2
    go_ret2
    exact ⟨_, by first | rfl | (simp [errW_none, errW_some] <;> rfl) | (simp [*, errW_none, errW_some] <;> rfl), by first | exact Kd.R_nil _ _ _ _ _ | exact Kd.N_nil _ _ _ _ _ | exact Kd.V_nil _ _ _ _ _ | exact Kd.Q_nil _ _ _ _ _ | exact Kd.S_nil _ _ _ _ _, by repeat (first | (with_reducible first | exact HB.out | apply below_alloc | apply pw_below_drewN | apply below_drew1) | exact HB.out), by repeat (first | (with_reducible first | exact HK.out | apply Kept.alloc | apply Kept.drewN | apply Kept.drew) | exact HK.out)⟩
  · rw [if_neg c2] at H
    have c2b0 : decide (1000 < (l0.length : Int)) = false := decide_eq_false c2
    have c2b1 : decide (1000 < l0.length) = false := decide_eq_false (by omega)
    clear c2
    simp only [Option.some.injEq, Prod.mk.injEq] at H
    obtain ⟨rfl, rfl⟩ := H
    obtain ⟨Ao4, co4, eo4⟩ := Kd.R_slice HO0.out
    subst eo4
    go_enter Tryd.func85, Tryd.ntmps85
    go_wp2
    go_ret2
    exact ⟨_, by first | rfl | (simp [errW_none, errW_some] <;> rfl) | (simp [*, errW_none, errW_some] <;> rfl), by (with_reducible repeat (first | apply Kd.R_alloc | apply Kd.R_drewN | apply Kd.R_drew)); exact HO0.out, by repeat (first | (with_reducible first | exact HB.out | apply below_alloc | apply pw_below_drewN | apply below_drew1) | exact HB.out), by repeat (first | (with_reducible first | exact HK.out | apply Kept.alloc | apply Kept.drewN | apply Kept.drew) | exact HK.out)⟩
def api_Span_141.ok (x : S46) : Prop := 0 ≤ x.f0 ∧ x.f0 ≤ 1099511627776
instance api_Span_141.dec (x : S46) : Decidable (api_Span_141.ok x) := inferInstanceAs (Decidable (_ ∧ _))
abbrev api_Span_141.Sp := {x : S46 // api_Span_141.ok x}
instance api_Span_141.inh : Inhabited api_Span_141.Sp := ⟨⟨z46, by decide⟩⟩
def api_Span_141.enc (x : api_Span_141.Sp) : List Value := [.int .i64 x.1.f0, .int .i64 x.1.f1]
def api_Span_141.enc0 (x : S46) : List Value := [.int .i64 x.f0, .int .i64 x.f1]
def api_Span_141.kd : Kd api_Span_141.Sp := Kd.iso k46 (fun x => x.1)
theorem api_Span_141.flat0 : Flat k46 api_Span_141.enc0 := ⟨fun h => k46_open h, fun w base ok x => k46_mkM w base ok x, fun x u hu => by
    simp only [api_Span_141.enc0, List.mem_cons, List.not_mem_nil, or_false] at hu
    rcases hu with rfl | rfl <;> rfl, fun _ => rfl, by decide⟩
theorem api_Span_141.flat : Flat api_Span_141.kd api_Span_141.enc := ⟨fun {w x cs} h => k46_open (w := w) (x := x.1) h, fun w base ok x => k46_mkM w base ok x.1, fun x u hu => by
    simp only [api_Span_141.enc, List.mem_cons, List.not_mem_nil, or_false] at hu
    rcases hu with rfl | rfl <;> rfl, fun _ => rfl, by decide⟩
def api_Span_141.cf (x y : api_Span_141.Sp) : Int := x.1.f0 - y.1.f0
theorem api_Span_141.swo : Go.Sort.SWO (ltOf api_Span_141.cf) where
  irrefl x := by simp [ltOf, api_Span_141.cf]
  trans x y z h1 h2 := by
    have a : x.1.f0 - y.1.f0 < 0 := of_decide_eq_true h1
    have b : y.1.f0 - z.1.f0 < 0 := of_decide_eq_true h2
    exact decide_eq_true (show x.1.f0 - z.1.f0 < 0 by omega)
  ntrans x y z h1 h2 := by
    have a : ¬ x.1.f0 - y.1.f0 < 0 := of_decide_eq_false h1
    have b : ¬ y.1.f0 - z.1.f0 < 0 := of_decide_eq_false h2
    exact decide_eq_false (show ¬ x.1.f0 - z.1.f0 < 0 by omega)
theorem api_Span_141.flat_map (l : List api_Span_141.Sp) : (l.map (fun x => x.1)).flatMap api_Span_141.enc0 = l.flatMap api_Span_141.enc := by
  rw [List.flatMap_map]
  rfl
set_option maxHeartbeats 1000000 in
theorem api_Span_141.closure (x y : api_Span_141.Sp) (W : World) : Calls Tryd.prog 142 #[.agg #[.int .i64 x.1.f0, .int .i64 x.1.f1], .agg #[.int .i64 y.1.f0, .int .i64 y.1.f1]] W fun e w' => e = .returned (.int .i64 (api_Span_141.cf x y)) ∧ ∃ q os', w' = Go.Sort.grow (W.drewN q) os' := by
  unfold api_Span_141.cf
  have h1 := x.2.1
  have h2 := x.2.2
  have h3 := y.2.1
  have h4 := y.2.2
  generalize x.1.f0 = a at *
  generalize y.1.f0 = b at *
  generalize x.1.f1 = c at *
  generalize y.1.f1 = d at *
  clear x y
  go_enter Tryd.func142, Tryd.ntmps142
  go_wp2
  go_ret
  exact ⟨rfl, 0, _, by rw [Go.Sort.alloc_eq_grow, Go.Sort.alloc_eq_grow, Go.Sort.grow_grow]; rfl⟩
def api_Span_141.f (l0 : List S46) (a1 : Nat) : Option (List S46) := if h : a1 = 142 ∧ (∀ x ∈ l0, api_Span_141.ok x) ∧ l0.length < 4611686018427387904 then (some ((Go.Sort.pdq (ltOf api_Span_141.cf) (l0.attachWith api_Span_141.ok h.2.1).toArray 0 (l0.attachWith api_Span_141.ok h.2.1).toArray.size (Lib.bitLen (l0.attachWith api_Span_141.ok h.2.1).toArray.size) true true).toList.map (fun x => x.1))) else (none)
set_option maxHeartbeats 8000000 in
set_option maxRecDepth 100000 in
theorem api_Span_141.calls (P0_ : Nat → Prop) (u9000_ : Value) (l0 : List (S46)) (a1 : Nat) (r : List (S46)) (w0 w : World) (hB : Below w0.heap.size w0 w) (ho0 : Kd.R k46 46 w w0.heap.size P0_ u9000_ l0) (h : api_Span_141.f l0 a1 = some r) :
    Calls Tryd.prog 141 #[u9000_, .func (.func a1) #[] #[]] w fun e w' => e = .returned (.tuple #[]) ∧ Kd.R k46 46 w' w0.heap.size (fun k_ => (P0_ k_ ∨ w.heap.size ≤ k_)) u9000_ r ∧ Below w0.heap.size w0 w' ∧ Kept w w' (fun k_ => P0_ k_) := by
  unfold api_Span_141.f at h
  by_cases hc : a1 = 142 ∧ (∀ x ∈ l0, api_Span_141.ok x) ∧ l0.length < 4611686018427387904
  · rw [dif_pos hc] at h
    obtain rfl := Option.some.inj h
    clear h
    obtain ⟨rfl, hok, hlen⟩ := hc
    obtain ⟨L, hL⟩ : ∃ L : List api_Span_141.Sp, l0.attachWith api_Span_141.ok hok = L := ⟨_, rfl⟩
    have hl : l0 = L.map (fun x => x.1) := by rw [← hL]; simp
    rw [hL]
    clear hL
    subst hl
    clear hok
    have hP2 := Go.Sort.pdq_sorts (ltOf api_Span_141.cf) api_Span_141.swo L.toArray 0 L.toArray.size (Lib.bitLen L.toArray.size) true true (Nat.zero_le _) (Nat.le_refl _) (Or.inl rfl)
    obtain ⟨d', hd'⟩ : ∃ d', Go.Sort.pdq (ltOf api_Span_141.cf) L.toArray 0 L.toArray.size (Lib.bitLen L.toArray.size) true true = d' := ⟨_, rfl⟩
    rw [hd'] at hP2 ⊢
    have hsz : d'.size = L.length := by simpa using hP2.1.1
    obtain ⟨hP, ho⟩ := R_flat api_Span_141.flat0 ho0
    rw [List.length_map] at ho hlen
    rcases ho.2 with ⟨rfl, hz⟩ | ⟨g, cap, cur, rfl, hg, hb, hn, hcap, hs, ht⟩
    · obtain rfl := List.eq_nil_of_length_eq_zero hz
      have hd0 : d' = #[] := Array.eq_empty_of_size_eq_zero (by simpa using hsz)
      subst hd0
      refine (AnyF.slices_SortFunc_none { Tryd.sortf141 with } none 0 _ w).mono ?_
      rintro e w' ⟨rfl, rfl⟩
      exact ⟨rfl, Kd.R_nil _ _ _ _ _, hB, Kept.refl _ _⟩
    · have hH := holdsK_of_row (xs := L) api_Span_141.flat hb (by rw [← api_Span_141.flat_map]; exact ht)
      have hg1 : g < w.heap.size := (Array.getElem?_eq_some_iff.1 hb).1
      have hcall := AnyQ.slices_SortFunc_eq Tryd.sortf141 api_Span_141.kd.sz Tryd.isAgg46 Tryd.sizeOf46 api_Span_141.enc api_Span_141.flat.len api_Span_141.flat.one api_Span_141.cf api_Span_141.swo 142 #[] g 0 cap L.toArray w (enters_of Tryd.func142 (by kernel_rfl) rfl) (fun _ _ _ _ x y => api_Span_141.closure x y _) hH hg1 (by simpa using hlen)
      rw [hd'] at hcall
      refine hcall.mono ?_
      rintro e w' ⟨rfl, q, os, rfl⟩
      obtain ⟨o1, o2, o3⟩ := putK_out (n := q) (os := os) (ts := d'.toList) api_Span_141.flat hB (hP g rfl) hg hb (by rw [Array.length_toList, hsz]; exact hn) hcap hs
      rw [Array.length_toList, hsz] at o1
      obtain ⟨p1, p2⟩ := R_flat api_Span_141.flat o1
      refine ⟨rfl, R_of_flat api_Span_141.flat0 p1 ?_, o2, o3⟩
      rw [api_Span_141.flat_map, List.length_map]
      exact p2
  · rw [dif_neg hc] at h
    exact absurd h (by simp)
end Go.Proofs.YtbamfhcifpfocaaDoor.Pm
