/- Part of the proof that the law phrasesFound is true for every input. No conditions. Laid by a program of this session over the kit's print and words; declarations that nothing names are left out. -/
import Derived.Test.YtbamfhcifpfocaaDoorZpPpx0
namespace Go.Proofs.YtbamfhcifpfocaaDoor.Pp
open Go.RowKit Go.Proofs.YtbamfhcifpfocaaDoor.GBase Go.Proofs.YtbamfhcifpfocaaDoorW.PrintWords Go.Proofs.YtbamfhcifpfocaaDoorW.PrintLast Go.Proofs.YtbamfhcifpfocaaDoorW.PrintMore
attribute [local go_sem] str_leq max2_int min2_int max_two min_two max_three min_three max_four min_four
set_option linter.unusedVariables false
set_option linter.unusedSimpArgs false
mutual
def chaseref1_spansFrom.l0 : Nat → List Bool → List (S46) → List Bool → Int → Int → Option ((List (S46)))
  | 0, _, _, _, _, _ => none
  | k + 1, x0, x3, x6, x7, x8 => if x8 < x7 then (if 0 ≤ x8 then (if x8 < (x6.length : Int) then (if rdOf false x6 x8 = true then (if x8 = 0 then (chaseref1_spansFrom.j1 k x0 x3 x8 true x6 x7 x8 true) else (if 0 ≤ (wrap64 (x8 - 1)) then (if (wrap64 (x8 - 1)) < (x0.length : Int) then (chaseref1_spansFrom.j1 k x0 x3 x8 true x6 x7 x8 (!(rdOf false x0 (wrap64 (x8 - 1))))) else (none)) else (none))) else (chaseref1_spansFrom.j1 k x0 x3 x8 false x6 x7 x8 false)) else (none)) else (none)) else (some x3)
def chaseref1_spansFrom.j1 : Nat → List Bool → List (S46) → Int → Bool → List Bool → Int → Int → Bool → Option ((List (S46)))
  | 0, _, _, _, _, _, _, _, _ => none
  | k + 1, x0, x3, x4, x5, x6, x7, x8, x25 => if x25 = true then (if x3.length < 8796093022208 then ((some (x3 ++ [(⟨x4, 0⟩ : S46)] : List (S46))).bind fun y250 => (if x5 = true then (if 0 ≤ (wrap64 ((y250.length : Int) - 1)) then (if (wrap64 ((y250.length : Int) - 1)) < (y250.length : Int) then (chaseref1_spansFrom.l0 k x0 (y250.set ((wrap64 ((y250.length : Int) - 1)) : Int).toNat (⟨(rd_T46 y250 (wrap64 ((y250.length : Int) - 1))).f0, wrap64 (x4 + 1)⟩ : S46)) x6 x7 (wrap64 (x8 + 1))) else (none)) else (none)) else (chaseref1_spansFrom.l0 k x0 y250 x6 x7 (wrap64 (x8 + 1))))) else (none)) else (if x5 = true then (if 0 ≤ (wrap64 ((x3.length : Int) - 1)) then (if (wrap64 ((x3.length : Int) - 1)) < (x3.length : Int) then (chaseref1_spansFrom.l0 k x0 (x3.set ((wrap64 ((x3.length : Int) - 1)) : Int).toNat (⟨(rd_T46 x3 (wrap64 ((x3.length : Int) - 1))).f0, wrap64 (x4 + 1)⟩ : S46)) x6 x7 (wrap64 (x8 + 1))) else (none)) else (none)) else (chaseref1_spansFrom.l0 k x0 x3 x6 x7 (wrap64 (x8 + 1))))
end
def chaseref1_spansFrom.f (k : Nat) (l0 : List Bool) : Option ((List (S46))) := chaseref1_spansFrom.l0 k l0 ([] : List (S46)) l0 (l0.length : Int) 0
theorem chaseref1_spansFrom.mono_l : ∀ k, (∀ y0 y1 y2 y3 y4, LeO (chaseref1_spansFrom.l0 k y0 y1 y2 y3 y4) (chaseref1_spansFrom.l0 (k + 1) y0 y1 y2 y3 y4)) ∧ (∀ y0 y1 y2 y3 y4 y5 y6 y7, LeO (chaseref1_spansFrom.j1 k y0 y1 y2 y3 y4 y5 y6 y7) (chaseref1_spansFrom.j1 (k + 1) y0 y1 y2 y3 y4 y5 y6 y7))
  | 0 => ⟨fun _ _ _ _ _ r h => by simp [chaseref1_spansFrom.l0] at h, fun _ _ _ _ _ _ _ _ r h => by simp [chaseref1_spansFrom.j1] at h⟩
  | k + 1 => by
    obtain ⟨ih0, ih1⟩ := chaseref1_spansFrom.mono_l k
    refine ⟨?_, ?_⟩
    · intro y0 y1 y2 y3 y4
      unfold chaseref1_spansFrom.l0
      repeat' first
      | (with_reducible exact ih0 _ _ _ _ _)
      | (with_reducible exact ih1 _ _ _ _ _ _ _ _)
      | (with_reducible exact LeO.refl _)
      | (with_reducible exact LeO.none _)
      | (with_reducible refine LeO.ite ?_ ?_)
      | (with_reducible refine LeO.bind ?_ (fun _ => ?_))
      | exact ih0 _ _ _ _ _
      | exact ih1 _ _ _ _ _ _ _ _
      | exact LeO.none _
      | refine LeO.ite ?_ ?_
      | refine LeO.bind ?_ (fun _ => ?_)
    · intro y0 y1 y2 y3 y4 y5 y6 y7
      unfold chaseref1_spansFrom.j1
      repeat' first
      | (with_reducible exact ih0 _ _ _ _ _)
      | (with_reducible exact ih1 _ _ _ _ _ _ _ _)
      | (with_reducible exact LeO.refl _)
      | (with_reducible exact LeO.none _)
      | (with_reducible refine LeO.ite ?_ ?_)
      | (with_reducible refine LeO.bind ?_ (fun _ => ?_))
      | exact ih0 _ _ _ _ _
      | exact ih1 _ _ _ _ _ _ _ _
      | exact LeO.none _
      | refine LeO.ite ?_ ?_
      | refine LeO.bind ?_ (fun _ => ?_)
theorem chaseref1_spansFrom.mono : ∀ a0 k, LeO (chaseref1_spansFrom.f k a0) (chaseref1_spansFrom.f (k + 1) a0) := by
  intro a0 k
  obtain ⟨ih0, ih1⟩ := chaseref1_spansFrom.mono_l k
  unfold chaseref1_spansFrom.f
  repeat' first
      | (with_reducible exact ih0 _ _ _ _ _)
      | (with_reducible exact ih1 _ _ _ _ _ _ _ _)
      | (with_reducible exact LeO.refl _)
      | (with_reducible exact LeO.none _)
      | (with_reducible refine LeO.ite ?_ ?_)
      | (with_reducible refine LeO.bind ?_ (fun _ => ?_))
      | exact ih0 _ _ _ _ _
      | exact ih1 _ _ _ _ _ _ _ _
      | exact LeO.none _
      | refine LeO.ite ?_ ?_
      | refine LeO.bind ?_ (fun _ => ?_)
set_option maxHeartbeats 8000000 in
set_option maxRecDepth 100000 in
theorem chaseref1_spansFrom.calls (k : Nat) (A0 : Option Addr) (c0 : Nat) (l0 : List Bool) (r : List (S46)) (w : World) (hr0 : Kd.C Kd.bool w A0 l0.length l0) (hc0 : l0.length ≤ c0) (h : chaseref1_spansFrom.f k l0 = some r) :
    Calls Tryd.prog 91 #[.slice A0 l0.length c0] w fun e w' => ∃ v0_ : Value, e = .returned (v0_) ∧ Kd.R k46 46 w' w.heap.size (fun _ => True) v0_ r ∧ Below w.heap.size w w' := by
  have hu46 := Tryd.underlying46
  have HR0 := Aside0.mk hr0
  have HC0 := Aside0.mk hc0
  clear hr0 hc0
  have HB := Aside0.mk (Below.refl w.heap.size w)
  have H : (chaseref1_spansFrom.l0 k l0 ([] : List (S46)) l0 (l0.length : Int) 0) = some r := h
  clear h
  have H' := Aside0.mk H
  clear H
  go_enter Tryd.func91, Tryd.ntmps91
  go_wp2
  go_loopg [3, 8] k (fun kq v3 v8 w' => ∃ (x3_1 : List (S46)) (x8_1 : Int), v8 = .int .i64 x8_1 ∧ Aside0 (chaseref1_spansFrom.l0 kq l0 x3_1 l0 (l0.length : Int) x8_1 = some r) ∧ Aside0 (kq ≤ k) ∧ Aside0 (Kd.R k46 46 w' w.heap.size (fun _ => True) v3 x3_1) ∧ Aside0 (Below w.heap.size w w'))
  case atStart => exact ⟨(([] : List (S46))), (0), (by first | rfl | (simp; done) | (simp [*]; done)), H', ⟨Nat.le_refl _⟩, ⟨by first | exact Kd.R_nil _ _ _ _ _ | exact Kd.N_nil _ _ _ _ _ | exact Kd.V_nil _ _ _ _ _ | exact Kd.Q_nil _ _ _ _ _ | exact Kd.S_nil _ _ _ _ _⟩, ⟨by repeat (first | (with_reducible first | exact HB.out | apply below_alloc | apply pw_below_drewN | apply below_drew1) | exact HB.out)⟩⟩
  case round =>
    clear H'
    obtain ⟨x3_1, x8_1, rfl, HA, HK1, HO_3, HB⟩ := hrel
    cases gk with
    | zero => exact absurd HA.out (by simp [chaseref1_spansFrom.l0])
    | succ k1 =>
      have H := HA.out
      clear HA
      simp only [chaseref1_spansFrom.l0] at H
      by_cases c2 : x8_1 < (l0.length : Int)
      · rw [if_pos c2] at H
        have c2b0 : decide (x8_1 < (l0.length : Int)) = true := decide_eq_true c2
        clear c2
        by_cases c3 : 0 ≤ x8_1
        · rw [if_pos c3] at H
          have c3b0 : decide (0 ≤ x8_1) = true := decide_eq_true c3
          clear c3
          by_cases c4 : x8_1 < (l0.length : Int)
          · rw [if_pos c4] at H
            have c4b0 : decide (x8_1 < (l0.length : Int)) = true := decide_eq_true c4
            clear c4
            have HC5 := Aside0.mk H
            clear H
            have p248 : 0 ≤ (x8_1 : Int) := of_decide_eq_true (by first | (with_reducible assumption) | assumption)
            have q248 : x8_1 < (l0.length : Int) := of_decide_eq_true (by first | (with_reducible assumption) | assumption)
            obtain ⟨ad248, e248, hx248_0⟩ := Kd.at_bool HR0.out x8_1 p248 q248
            cases e248
            first | replace hx248_0 := (HB.out.cell (World.block_lt_of_cell? w _ hx248_0)).trans hx248_0 | skip
            replace p248 := eq_true p248
            replace q248 := eq_true q248
            obtain ⟨bq6, hbq6⟩ : ∃ b_ : Bool, b_ = (rdOf false l0 x8_1) := ⟨_, rfl⟩
            have Nbq6 := Aside0.mk hbq6
            clear hbq6
            have HCX := HC5.out
            rw [← Nbq6.out] at HCX
            clear HC5
            have HC5 := Aside0.mk HCX
            clear HCX
            (try rw [← Nbq6.out] at hx248_0)
            (try rw [← Nbq6.out])
            go_upto_region 5 with (fail)
            go_cut [25] (fun v25 wc => ∃ (kq : Nat) (x25_4 : Bool), v25 = .bool x25_4 ∧ Aside0 (chaseref1_spansFrom.j1 kq l0 x3_1 x8_1 bq6 l0 (l0.length : Int) x8_1 x25_4 = some r) ∧ Aside0 (kq ≤ k1) ∧ Aside0 (Kd.R k46 46 wc w.heap.size (fun _ => True) u3 x3_1) ∧ Aside0 (Below w.heap.size w wc))
            case first =>
              have H := HC5.out
              clear HC5
              replace H : (if bq6 = true then (if x8_1 = 0 then (chaseref1_spansFrom.j1 k1 l0 x3_1 x8_1 true l0 (l0.length : Int) x8_1 true) else (if 0 ≤ (wrap64 (x8_1 - 1)) then (if (wrap64 (x8_1 - 1)) < (l0.length : Int) then (chaseref1_spansFrom.j1 k1 l0 x3_1 x8_1 true l0 (l0.length : Int) x8_1 (!(rdOf false l0 (wrap64 (x8_1 - 1))))) else (none)) else (none))) else (chaseref1_spansFrom.j1 k1 l0 x3_1 x8_1 false l0 (l0.length : Int) x8_1 false)) = some r := H
              by_cases c7 : bq6 = true
              · subst c7
                have H1 : (if x8_1 = 0 then (chaseref1_spansFrom.j1 k1 l0 x3_1 x8_1 true l0 (l0.length : Int) x8_1 true) else (if 0 ≤ (wrap64 (x8_1 - 1)) then (if (wrap64 (x8_1 - 1)) < (l0.length : Int) then (chaseref1_spansFrom.j1 k1 l0 x3_1 x8_1 true l0 (l0.length : Int) x8_1 (!(rdOf false l0 (wrap64 (x8_1 - 1))))) else (none)) else (none))) = some r := by rw [if_pos rfl] at H; exact H
                clear H
                have H := H1
                clear H1
                by_cases c8 : x8_1 = 0
                · rw [if_pos c8] at H
                  have c8b0 : (x8_1 == 0) = true := beq_iff_eq.mpr c8
                  have c8b1 : (x8_1 != 0) = false := bne_eq_false_iff_eq.mpr c8
                  clear c8
                  have H' := Aside0.mk H
                  clear H
                  go_wp2
                  go_meet
                  case rel => exact ⟨_, (true), (by first | rfl | (simp; done) | (simp [*]; done)), H', ⟨by have := HK1.out; first | omega | exact Nat.le_refl _⟩, ⟨by (with_reducible repeat (first | apply Kd.R_alloc | apply Kd.R_drewN | apply Kd.R_drew)); exact HO_3.out⟩, ⟨by repeat (first | (with_reducible first | exact HB.out | apply below_alloc | apply pw_below_drewN | apply below_drew1) | exact HB.out)⟩⟩
                · rw [if_neg c8] at H
                  have c8b0 : (x8_1 == 0) = false := beq_eq_false_iff_ne.mpr c8
                  have c8b1 : (x8_1 != 0) = true := bne_iff_ne.mpr c8
                  obtain ⟨ji9, hji9⟩ : ∃ j_ : Int, (wrap64 (x8_1 - 1)) = j_ := ⟨_, rfl⟩
                  replace H : (if 0 ≤ (ji9) then (if (ji9) < (l0.length : Int) then (chaseref1_spansFrom.j1 k1 l0 x3_1 x8_1 true l0 (l0.length : Int) x8_1 (!(rdOf false l0 (ji9)))) else (none)) else (none)) = some r := by first | (rw [hji9] at H; exact H) | (simp only [hji9] at H ⊢; exact H)
                  have hji9w : (IntKind.i64.wrap (x8_1 - 1)) = ji9 := (i64_w _).trans hji9
                  by_cases c10 : 0 ≤ (ji9)
                  · rw [if_pos c10] at H
                    have c10b0 : decide (0 ≤ (ji9)) = true := decide_eq_true c10
                    clear c10
                    by_cases c11 : (ji9) < (l0.length : Int)
                    · rw [if_pos c11] at H
                      have c11b0 : decide ((ji9) < (l0.length : Int)) = true := decide_eq_true c11
                      clear c11
                      have H' := Aside0.mk H
                      clear H
                      have p249 : 0 ≤ ((ji9) : Int) := of_decide_eq_true (by first | (with_reducible assumption) | assumption)
                      have q249 : (ji9) < (l0.length : Int) := of_decide_eq_true (by first | (with_reducible assumption) | assumption)
                      obtain ⟨ad249, e249, hx249_0⟩ := Kd.at_bool HR0.out (ji9) p249 q249
                      (try rw [← Nbq6.out] at hx249_0)
                      obtain rfl : ad248 = ad249 := (by injection e249)
                      first | replace hx249_0 := (HB.out.cell (World.block_lt_of_cell? w _ hx249_0)).trans hx249_0 | skip
                      replace p249 := eq_true p249
                      replace q249 := eq_true q249
                      go_wp2
                      go_meet
                      case rel => exact ⟨_, (!(rdOf false l0 (ji9))), (by first | rfl | (simp; done) | (simp only [← hji9] <;> (first | rfl | simp)) | (simp [*]; done)), H', ⟨by have := HK1.out; first | omega | exact Nat.le_refl _⟩, ⟨by (with_reducible repeat (first | apply Kd.R_alloc | apply Kd.R_drewN | apply Kd.R_drew)); exact HO_3.out⟩, ⟨by repeat (first | (with_reducible first | exact HB.out | apply below_alloc | apply pw_below_drewN | apply below_drew1) | exact HB.out)⟩⟩
                    · rw [if_neg c11] at H
                      exact absurd H (by simp)
                  · rw [if_neg c10] at H
                    exact absurd H (by simp)
              · replace c7 := Bool.eq_false_iff.mpr c7
                subst c7
                have H1 : (chaseref1_spansFrom.j1 k1 l0 x3_1 x8_1 false l0 (l0.length : Int) x8_1 false) = some r := by rw [if_neg (show ¬ (false = true) by decide)] at H; exact H
                clear H
                have H := H1
                clear H1
                have H' := Aside0.mk H
                clear H
                go_wp2
                go_meet
                case rel => exact ⟨_, (false), (by first | rfl | (simp; done) | (simp [*]; done)), H', ⟨by have := HK1.out; first | omega | exact Nat.le_refl _⟩, ⟨by (with_reducible repeat (first | apply Kd.R_alloc | apply Kd.R_drewN | apply Kd.R_drew)); exact HO_3.out⟩, ⟨by repeat (first | (with_reducible first | exact HB.out | apply below_alloc | apply pw_below_drewN | apply below_drew1) | exact HB.out)⟩⟩
            case rest =>
              clear HC5
              try clear c1
              try clear c2
              try clear c2b0
              try clear p2
              try clear q2
              try clear hx2
              try clear c3
              try clear c3b0
              try clear c4
              try clear c4b0
              try clear p6
              try clear q6
              try clear c7
              try clear c8
              try clear c8b0
              try clear c8b1
              try clear c9
              try clear c10
              try clear c10b0
              try clear c11
              try clear c11b0
              try clear hx248_0
              try clear hx249_0
              try clear p248
              try clear p249
              try clear q248
              try clear q249
              obtain ⟨kq, x25_4, rfl, HA, HJ4, HO_3, HB⟩ := hcut
              cases kq with
              | zero => exact absurd HA.out (by simp [chaseref1_spansFrom.j1])
              | succ kj4 =>
                have H := HA.out
                clear HA
                simp only [chaseref1_spansFrom.j1] at H
                by_cases c12 : x25_4 = true
                · subst c12
                  have H1 : (if x3_1.length < 8796093022208 then ((some (x3_1 ++ [(⟨x8_1, 0⟩ : S46)] : List (S46))).bind fun y250 => (if bq6 = true then (if 0 ≤ (wrap64 ((y250.length : Int) - 1)) then (if (wrap64 ((y250.length : Int) - 1)) < (y250.length : Int) then (chaseref1_spansFrom.l0 kj4 l0 (y250.set ((wrap64 ((y250.length : Int) - 1)) : Int).toNat (⟨(rd_T46 y250 (wrap64 ((y250.length : Int) - 1))).f0, wrap64 (x8_1 + 1)⟩ : S46)) l0 (l0.length : Int) (wrap64 (x8_1 + 1))) else (none)) else (none)) else (chaseref1_spansFrom.l0 kj4 l0 y250 l0 (l0.length : Int) (wrap64 (x8_1 + 1))))) else (none)) = some r := by rw [if_pos rfl] at H; exact H
                  clear H
                  have H := H1
                  clear H1
                  by_cases c13 : x3_1.length < 8796093022208
                  · rw [if_pos c13] at H
                    have LMc13 := Aside0.mk c13
                    clear c13
                    obtain ⟨y250, hy250⟩ : ∃ y_ : List (S46), y_ = (x3_1 ++ [(⟨x8_1, 0⟩ : S46)]) := ⟨_, rfl⟩
                    replace H : (if bq6 = true then (if 0 ≤ (wrap64 ((y250.length : Int) - 1)) then (if (wrap64 ((y250.length : Int) - 1)) < (y250.length : Int) then (chaseref1_spansFrom.l0 kj4 l0 (y250.set ((wrap64 ((y250.length : Int) - 1)) : Int).toNat (⟨(rd_T46 y250 (wrap64 ((y250.length : Int) - 1))).f0, wrap64 (x8_1 + 1)⟩ : S46)) l0 (l0.length : Int) (wrap64 (x8_1 + 1))) else (none)) else (none)) else (chaseref1_spansFrom.l0 kj4 l0 y250 l0 (l0.length : Int) (wrap64 (x8_1 + 1)))) = some r := by first | (rw [hy250]; with_reducible exact H) | (have H2_ := (Option.bind_some _ _).symm.trans H; rw [hy250]; with_reducible exact H2_) | (have H2_ := (Option.bind_some _ _).symm.trans H; with_reducible exact H2_) | with_reducible exact H | (rw [hy250]; exact H) | exact H
                    have Ny250 := Aside0.mk hy250
                    clear hy250
                    by_cases c15 : (bq6) = true
                    · rw [if_pos c15] at H
                      have c15b0 : (bq6) = true := c15
                      clear c15
                      subst c15b0
                      obtain ⟨ji16, hji16⟩ : ∃ j_ : Int, (wrap64 ((y250.length : Int) - 1)) = j_ := ⟨_, rfl⟩
                      replace H : (if 0 ≤ (ji16) then (if (ji16) < (y250.length : Int) then (chaseref1_spansFrom.l0 kj4 l0 (y250.set ((ji16) : Int).toNat (⟨(rd_T46 y250 (ji16)).f0, wrap64 (x8_1 + 1)⟩ : S46)) l0 (l0.length : Int) (wrap64 (x8_1 + 1))) else (none)) else (none)) = some r := by first | (rw [hji16] at H; exact H) | (simp only [hji16] at H ⊢; exact H)
                      have hji16w : (IntKind.i64.wrap ((y250.length : Int) - 1)) = ji16 := (i64_w _).trans hji16
                      by_cases c17 : 0 ≤ (ji16)
                      · rw [if_pos c17] at H
                        have c17b0 : decide (0 ≤ (ji16)) = true := decide_eq_true c17
                        clear c17
                        by_cases c18 : (ji16) < (y250.length : Int)
                        · rw [if_pos c18] at H
                          have c18b0 : decide ((ji16) < (y250.length : Int)) = true := decide_eq_true c18
                          clear c18
                          obtain ⟨y253, hy253⟩ : ∃ y_ : List (S46), y_ = (y250.set ((ji16) : Int).toNat (⟨(rd_T46 y250 (ji16)).f0, wrap64 (x8_1 + 1)⟩ : S46)) := ⟨_, rfl⟩
                          replace H : (chaseref1_spansFrom.l0 kj4 l0 y253 l0 (l0.length : Int) (wrap64 (x8_1 + 1))) = some r := by first | (rw [hy253]; with_reducible exact H) | (have H2_ := (Option.bind_some _ _).symm.trans H; rw [hy253]; with_reducible exact H2_) | (have H2_ := (Option.bind_some _ _).symm.trans H; with_reducible exact H2_) | with_reducible exact H | (rw [hy253]; exact H) | exact H
                          have Ny253 := Aside0.mk hy253
                          clear hy253
                          have H' := Aside0.mk H
                          clear H
                          go_wp2_with (first | ((with_reducible refine gate_builtin (b := .append) (xs := #[.tmp 26, .tmp 29]) rfl ?_); at_builtin; refine Kd.R_append k46 (w0 := w) w.heap.size rfl (.tmp 26) (.tmp 29) 38 46 (.agg #[(.int .i64 0), (.int .i64 0)]) 16 rfl Tryd.underlying38 info46 rfl (by decide) (by omega) u3 x3_1 (⟨x8_1, 0⟩ : S46) [.int .i64 x8_1, .int .i64 0] (fun _ => True) (fun _ => False) rfl rfl ?aP (fun _ hk => hk.elim) ?aF ?aO ?aB ?aS ?aL ?_; (case aP => exact k46_mkM _ _ _ (⟨x8_1, 0⟩ : S46)); (case aB => exact (by repeat (first | (with_reducible first | exact HB.out | apply below_alloc | apply pw_below_drewN | apply below_drew1) | exact HB.out))); (case aF => exact (fun _ _ => trivial)); (case aO => exact (by (with_reducible repeat (first | apply Kd.R_alloc | apply Kd.R_drewN | apply Kd.R_drew)); exact HO_3.out)); (case aS => exact (below_size (by repeat (first | (with_reducible first | exact HB.out | apply below_alloc | apply pw_below_drewN | apply below_drew1) | exact HB.out)))); (case aL => have := LMc13.out; omega); intro v251 w20 ho hb hg hat; rw [← Ny250.out] at ho; have n0_ := Aside0.mk (hb); have n1_ := Aside0.mk (ho); clear HB; clear HO_3; have HB := n0_; have HO252 := n1_; clear n0_ n1_; clear ho hb hg hat; obtain ⟨Ao21, co21, eo21⟩ := Kd.R_slice HO252.out; subst eo21; have p19 : 0 ≤ ((ji16) : Int) := of_decide_eq_true (by first | (with_reducible assumption) | assumption); have q19 : ((ji16) : Int) < ((y250.length : Int) : Int) := of_decide_eq_true (by first | (with_reducible assumption) | assumption); obtain ⟨go19, co19, eo19, gb19, gl19, cl19, HG19⟩ := Kd.R_form HO252.out (by omega); (first | cases eo19 | (injection eo19 with ea_ en_ ec_; (first | subst ea_ | (injection ea_ with ea_; subst ea_)); subst ec_; clear en_)); have GB19 := Aside0.mk gb19; have GG19 := Aside0.mk HG19; clear gb19 gl19 HG19; obtain ⟨ce19, hcl19, hM19, hcc19, hfr19⟩ := Kd.R_elem HO252.out z46 ((ji16) : Int) p19 q19; obtain rfl := k46_openM hM19; have hx19_0 : w20.cell? ⟨go19, ((ji16) : Int).toNat * 2, none⟩ = some (.int .i64 ((rd_T46 y250 (ji16)).f0)) := hcc19 0 _ rfl; have hx19_1 : w20.cell? ⟨go19, ((ji16) : Int).toNat * 2 + 1, none⟩ = some (.int .i64 ((rd_T46 y250 (ji16)).f1)) := hcc19 1 _ rfl; have hf19_0 : w20.frozen? ⟨go19, ((ji16) : Int).toNat * 2, none⟩ = false := hfr19 0; have hf19_1 : w20.frozen? ⟨go19, ((ji16) : Int).toNat * 2 + 1, none⟩ = false := hfr19 1; clear hcl19 hcc19 hfr19 hM19; replace p19 := eq_true p19; replace q19 := eq_true q19; have HX22 := Aside0.mk (show Kd.R k46 46 w20 w.heap.size (fun _ => True) (.slice (some ⟨go19, 0, none⟩) y250.length co21) y250 from (by (with_reducible repeat (first | apply Kd.R_alloc | apply Kd.R_drewN | apply Kd.R_drew)); exact HO252.out)); obtain ⟨ce22, hcl22, hM22, hcc22, hfr22⟩ := Kd.R_elem HX22.out z46 ((ji16) : Int) (of_decide_eq_true (by first | (with_reducible assumption) | assumption)) (by have h_ : ((ji16) : Int) < ((y250.length : Int) : Int) := of_decide_eq_true (by first | (with_reducible assumption) | assumption); first | exact h_ | (have e_ := (Kd.R_reads' HO252.out).1; omega) | simpa using h_); obtain rfl := k46_openM hM22; have HP22 := Kd.R_seg HX22.out ((ji16) : Int) (of_decide_eq_true (by first | (with_reducible assumption) | assumption)) (by have h_ : ((ji16) : Int) < ((y250.length : Int) : Int) := of_decide_eq_true (by first | (with_reducible assumption) | assumption); first | exact h_ | (have e_ := (Kd.R_reads' HO252.out).1; omega) | simpa using h_) (seg := [.int .i64 (wrap64 (x8_1 + 1))]) (j := 1) hcl22 hcc22 (show 2 ≤ 2 from by decide) (x' := (⟨(rd_T46 y250 (ji16)).f0, wrap64 (x8_1 + 1)⟩ : S46)) (k46_mkM _ _ _ (⟨(rd_T46 y250 (ji16)).f0, wrap64 (x8_1 + 1)⟩ : S46) ) (fun _ hk => hk); have hx22_1 := hcc22 1 _ rfl; (try simp only [show (k46).sz = 2 from rfl, Nat.mul_one, Nat.add_zero] at hx22_1); have hf22_1 := hfr22 1; (try simp only [show (k46).sz = 2 from rfl, Nat.mul_one, Nat.add_zero] at hf22_1); clear hcl22 hcc22 hfr22 hM22) | ((with_reducible refine gate_store (t := 3) (p := 39) rfl ?_); refine store_event (t := 3) (p := 39) (v := ?vo_w23) (w1 := (w20.setCell ⟨go19, ((ji16) : Int).toNat * 2 + 1, none⟩ (.int .i64 (wrap64 (x8_1 + 1))))) ?hg ?ho ?hn ?hr ?_; (case ho => rfl); (case hg => rfl); (case hn => rfl); (case hr => first | (go_simp; done) | (go_simp; rfl)); intro w23 hw; have hg : w20.grownBy w23 (some go19) := (by rw [hw]; exact HP22.2); have hp_ : Kd.R k46 46 w23 w.heap.size (fun _ => True) (.slice (some ⟨go19, 0, none⟩) y250.length co21) y253 := (by rw [hw, Ny253.out]; exact HP22.1); clear HP22; have n0_ := Aside0.mk (hp_); have n1_ := Aside0.mk ((by rw [hw]; exact below_set (HB.out) GB19.out : Below w.heap.size w w23)); clear HO252; clear HB; have HO252 := n0_; have HB := n1_; clear n0_ n1_; clear hg hw hp_))
                          go_roundg kj4
                          case measure => have := HK1.out; have := HJ4.out; omega
                          case rel => exact ⟨(y253), (wrap64 (x8_1 + 1)), (by first | rfl | (simp; done) | (simp [*]; done)), H', ⟨by have := HK1.out; have := HJ4.out; omega⟩, ⟨by (with_reducible repeat (first | apply Kd.R_alloc | apply Kd.R_drewN | apply Kd.R_drew)); exact HO252.out⟩, ⟨by repeat (first | (with_reducible first | exact HB.out | apply below_alloc | apply pw_below_drewN | apply below_drew1) | exact HB.out)⟩⟩
                        · rw [if_neg c18] at H
                          exact absurd H (by simp)
                      · rw [if_neg c17] at H
                        exact absurd H (by simp)
                    · rw [if_neg c15] at H
                      have c15b0 : (bq6) = false := by simpa using c15
                      clear c15
                      subst c15b0
                      have H' := Aside0.mk H
                      clear H
                      go_wp2_with (first | ((with_reducible refine gate_builtin (b := .append) (xs := #[.tmp 26, .tmp 29]) rfl ?_); at_builtin; refine Kd.R_append k46 (w0 := w) w.heap.size rfl (.tmp 26) (.tmp 29) 38 46 (.agg #[(.int .i64 0), (.int .i64 0)]) 16 rfl Tryd.underlying38 info46 rfl (by decide) (by omega) u3 x3_1 (⟨x8_1, 0⟩ : S46) [.int .i64 x8_1, .int .i64 0] (fun _ => True) (fun _ => False) rfl rfl ?aP (fun _ hk => hk.elim) ?aF ?aO ?aB ?aS ?aL ?_; (case aP => exact k46_mkM _ _ _ (⟨x8_1, 0⟩ : S46)); (case aB => exact (by repeat (first | (with_reducible first | exact HB.out | apply below_alloc | apply pw_below_drewN | apply below_drew1) | exact HB.out))); (case aF => exact (fun _ _ => trivial)); (case aO => exact (by (with_reducible repeat (first | apply Kd.R_alloc | apply Kd.R_drewN | apply Kd.R_drew)); exact HO_3.out)); (case aS => exact (below_size (by repeat (first | (with_reducible first | exact HB.out | apply below_alloc | apply pw_below_drewN | apply below_drew1) | exact HB.out)))); (case aL => have := LMc13.out; omega); intro v251 w24 ho hb hg hat; rw [← Ny250.out] at ho; have n0_ := Aside0.mk (hb); have n1_ := Aside0.mk (ho); clear HB; clear HO_3; have HB := n0_; have HO252 := n1_; clear n0_ n1_; clear ho hb hg hat))
                      go_roundg kj4
                      case measure => have := HK1.out; have := HJ4.out; omega
                      case rel => exact ⟨(y250), (wrap64 (x8_1 + 1)), (by first | rfl | (simp; done) | (simp [*]; done)), H', ⟨by have := HK1.out; have := HJ4.out; omega⟩, ⟨by (with_reducible repeat (first | apply Kd.R_alloc | apply Kd.R_drewN | apply Kd.R_drew)); exact HO252.out⟩, ⟨by repeat (first | (with_reducible first | exact HB.out | apply below_alloc | apply pw_below_drewN | apply below_drew1) | exact HB.out)⟩⟩
                  · rw [if_neg c13] at H
                    exact absurd H (by simp)
                · replace c12 := Bool.eq_false_iff.mpr c12
                  subst c12
                  have H1 : (if bq6 = true then (if 0 ≤ (wrap64 ((x3_1.length : Int) - 1)) then (if (wrap64 ((x3_1.length : Int) - 1)) < (x3_1.length : Int) then (chaseref1_spansFrom.l0 kj4 l0 (x3_1.set ((wrap64 ((x3_1.length : Int) - 1)) : Int).toNat (⟨(rd_T46 x3_1 (wrap64 ((x3_1.length : Int) - 1))).f0, wrap64 (x8_1 + 1)⟩ : S46)) l0 (l0.length : Int) (wrap64 (x8_1 + 1))) else (none)) else (none)) else (chaseref1_spansFrom.l0 kj4 l0 x3_1 l0 (l0.length : Int) (wrap64 (x8_1 + 1)))) = some r := by rw [if_neg (show ¬ (false = true) by decide)] at H; exact H
                  clear H
                  have H := H1
                  clear H1
                  by_cases c26 : (bq6) = true
                  · rw [if_pos c26] at H
                    have c26b0 : (bq6) = true := c26
                    clear c26
                    subst c26b0
                    obtain ⟨ji27, hji27⟩ : ∃ j_ : Int, (wrap64 ((x3_1.length : Int) - 1)) = j_ := ⟨_, rfl⟩
                    replace H : (if 0 ≤ (ji27) then (if (ji27) < (x3_1.length : Int) then (chaseref1_spansFrom.l0 kj4 l0 (x3_1.set ((ji27) : Int).toNat (⟨(rd_T46 x3_1 (ji27)).f0, wrap64 (x8_1 + 1)⟩ : S46)) l0 (l0.length : Int) (wrap64 (x8_1 + 1))) else (none)) else (none)) = some r := by first | (rw [hji27] at H; exact H) | (simp only [hji27] at H ⊢; exact H)
                    have hji27w : (IntKind.i64.wrap ((x3_1.length : Int) - 1)) = ji27 := (i64_w _).trans hji27
                    by_cases c28 : 0 ≤ (ji27)
                    · rw [if_pos c28] at H
                      have c28b0 : decide (0 ≤ (ji27)) = true := decide_eq_true c28
                      clear c28
                      by_cases c29 : (ji27) < (x3_1.length : Int)
                      · rw [if_pos c29] at H
                        have c29b0 : decide ((ji27) < (x3_1.length : Int)) = true := decide_eq_true c29
                        clear c29
                        obtain ⟨y254, hy254⟩ : ∃ y_ : List (S46), y_ = (x3_1.set ((ji27) : Int).toNat (⟨(rd_T46 x3_1 (ji27)).f0, wrap64 (x8_1 + 1)⟩ : S46)) := ⟨_, rfl⟩
                        replace H : (chaseref1_spansFrom.l0 kj4 l0 y254 l0 (l0.length : Int) (wrap64 (x8_1 + 1))) = some r := by first | (rw [hy254]; with_reducible exact H) | (have H2_ := (Option.bind_some _ _).symm.trans H; rw [hy254]; with_reducible exact H2_) | (have H2_ := (Option.bind_some _ _).symm.trans H; with_reducible exact H2_) | with_reducible exact H | (rw [hy254]; exact H) | exact H
                        have Ny254 := Aside0.mk hy254
                        clear hy254
                        have H' := Aside0.mk H
                        clear H
                        obtain ⟨Ao31, co31, eo31⟩ := Kd.R_slice HO_3.out
                        subst eo31
                        have p30 : 0 ≤ ((ji27) : Int) := of_decide_eq_true (by first | (with_reducible assumption) | assumption)
                        have q30 : ((ji27) : Int) < ((x3_1.length : Int) : Int) := of_decide_eq_true (by first | (with_reducible assumption) | assumption)
                        obtain ⟨go30, co30, eo30, gb30, gl30, cl30, HG30⟩ := Kd.R_form HO_3.out (by omega)
                        (first | cases eo30 | (injection eo30 with ea_ en_ ec_; (first | subst ea_ | (injection ea_ with ea_; subst ea_)); subst ec_; clear en_))
                        have GB30 := Aside0.mk gb30
                        have GG30 := Aside0.mk HG30
                        clear gb30 gl30 HG30
                        obtain ⟨ce30, hcl30, hM30, hcc30, hfr30⟩ := Kd.R_elem HO_3.out z46 ((ji27) : Int) p30 q30
                        obtain rfl := k46_openM hM30
                        have hx30_0 : wc.cell? ⟨go30, ((ji27) : Int).toNat * 2, none⟩ = some (.int .i64 ((rd_T46 x3_1 (ji27)).f0)) := hcc30 0 _ rfl
                        have hx30_1 : wc.cell? ⟨go30, ((ji27) : Int).toNat * 2 + 1, none⟩ = some (.int .i64 ((rd_T46 x3_1 (ji27)).f1)) := hcc30 1 _ rfl
                        have hf30_0 : wc.frozen? ⟨go30, ((ji27) : Int).toNat * 2, none⟩ = false := hfr30 0
                        have hf30_1 : wc.frozen? ⟨go30, ((ji27) : Int).toNat * 2 + 1, none⟩ = false := hfr30 1
                        clear hcl30 hcc30 hfr30 hM30
                        replace p30 := eq_true p30
                        replace q30 := eq_true q30
                        have HX32 := Aside0.mk (show Kd.R k46 46 wc w.heap.size (fun _ => True) (.slice (some ⟨go30, 0, none⟩) x3_1.length co31) x3_1 from (by (with_reducible repeat (first | apply Kd.R_alloc | apply Kd.R_drewN | apply Kd.R_drew)); exact HO_3.out))
                        obtain ⟨ce32, hcl32, hM32, hcc32, hfr32⟩ := Kd.R_elem HX32.out z46 ((ji27) : Int) (of_decide_eq_true (by first | (with_reducible assumption) | assumption)) (by have h_ : ((ji27) : Int) < ((x3_1.length : Int) : Int) := of_decide_eq_true (by first | (with_reducible assumption) | assumption); first | exact h_ | (have e_ := (Kd.R_reads' HO_3.out).1; omega) | simpa using h_)
                        obtain rfl := k46_openM hM32
                        have HP32 := Kd.R_seg HX32.out ((ji27) : Int) (of_decide_eq_true (by first | (with_reducible assumption) | assumption)) (by have h_ : ((ji27) : Int) < ((x3_1.length : Int) : Int) := of_decide_eq_true (by first | (with_reducible assumption) | assumption); first | exact h_ | (have e_ := (Kd.R_reads' HO_3.out).1; omega) | simpa using h_) (seg := [.int .i64 (wrap64 (x8_1 + 1))]) (j := 1) hcl32 hcc32 (show 2 ≤ 2 from by decide) (x' := (⟨(rd_T46 x3_1 (ji27)).f0, wrap64 (x8_1 + 1)⟩ : S46)) (k46_mkM _ _ _ (⟨(rd_T46 x3_1 (ji27)).f0, wrap64 (x8_1 + 1)⟩ : S46) ) (fun _ hk => hk)
                        have hx32_1 := hcc32 1 _ rfl
                        (try simp only [show (k46).sz = 2 from rfl, Nat.mul_one, Nat.add_zero] at hx32_1)
                        have hf32_1 := hfr32 1
                        (try simp only [show (k46).sz = 2 from rfl, Nat.mul_one, Nat.add_zero] at hf32_1)
                        clear hcl32 hcc32 hfr32 hM32
                        go_wp2_with (first | ((with_reducible refine gate_store (t := 3) (p := 39) rfl ?_); refine store_event (t := 3) (p := 39) (v := ?vo_w33) (w1 := (wc.setCell ⟨go30, ((ji27) : Int).toNat * 2 + 1, none⟩ (.int .i64 (wrap64 (x8_1 + 1))))) ?hg ?ho ?hn ?hr ?_; (case ho => rfl); (case hg => rfl); (case hn => rfl); (case hr => first | (go_simp; done) | (go_simp; rfl)); intro w33 hw; have hg : wc.grownBy w33 (some go30) := (by rw [hw]; exact HP32.2); have hp_ : Kd.R k46 46 w33 w.heap.size (fun _ => True) (.slice (some ⟨go30, 0, none⟩) x3_1.length co31) y254 := (by rw [hw, Ny254.out]; exact HP32.1); clear HP32; have n0_ := Aside0.mk (hp_); have n1_ := Aside0.mk ((by rw [hw]; exact below_set (HB.out) GB30.out : Below w.heap.size w w33)); clear HO_3; clear HB; have HO_3 := n0_; have HB := n1_; clear n0_ n1_; clear hg hw hp_))
                        go_roundg kj4
                        case measure => have := HK1.out; have := HJ4.out; omega
                        case rel => exact ⟨(y254), (wrap64 (x8_1 + 1)), (by first | rfl | (simp; done) | (simp [*]; done)), H', ⟨by have := HK1.out; have := HJ4.out; omega⟩, ⟨by (with_reducible repeat (first | apply Kd.R_alloc | apply Kd.R_drewN | apply Kd.R_drew)); exact HO_3.out⟩, ⟨by repeat (first | (with_reducible first | exact HB.out | apply below_alloc | apply pw_below_drewN | apply below_drew1) | exact HB.out)⟩⟩
                      · rw [if_neg c29] at H
                        exact absurd H (by simp)
                    · rw [if_neg c28] at H
                      exact absurd H (by simp)
                  · rw [if_neg c26] at H
                    have c26b0 : (bq6) = false := by simpa using c26
                    clear c26
                    subst c26b0
                    have H' := Aside0.mk H
                    clear H
                    go_wp2
                    go_roundg kj4
                    case measure => have := HK1.out; have := HJ4.out; omega
                    case rel => exact ⟨(x3_1), (wrap64 (x8_1 + 1)), (by first | rfl | (simp; done) | (simp [*]; done)), H', ⟨by have := HK1.out; have := HJ4.out; omega⟩, ⟨by (with_reducible repeat (first | apply Kd.R_alloc | apply Kd.R_drewN | apply Kd.R_drew)); exact HO_3.out⟩, ⟨by repeat (first | (with_reducible first | exact HB.out | apply below_alloc | apply pw_below_drewN | apply below_drew1) | exact HB.out)⟩⟩
          · rw [if_neg c4] at H
            exact absurd H (by simp)
        · rw [if_neg c3] at H
          exact absurd H (by simp)
      · rw [if_neg c2] at H
        have c2b0 : decide (x8_1 < (l0.length : Int)) = false := decide_eq_false c2
        clear c2
        obtain rfl := Option.some.inj H
        go_wp2
        go_ret
        exact ⟨_, by first | rfl | (simp [errW_none, errW_some] <;> rfl) | (simp [*, errW_none, errW_some] <;> rfl), by (with_reducible repeat (first | apply Kd.R_alloc | apply Kd.R_drewN | apply Kd.R_drew)); exact HO_3.out, by repeat (first | (with_reducible first | exact HB.out | apply below_alloc | apply pw_below_drewN | apply below_drew1) | exact HB.out)⟩
theorem chaseref1_lower.idx (c : UInt8) (w : World) : Calls Tryd.prog 148 #[.string ⟨#[65, 66, 67, 68, 69, 70, 71, 72, 73, 74, 75, 76, 77, 78, 79, 80, 81, 82, 83, 84, 85, 86, 87, 88, 89, 90]⟩, .int .u8 c.toNat] w fun e w' => e = .returned (.int .i64 (if 65 ≤ (c.toNat : Int) ∧ (c.toNat : Int) ≤ 90 then (c.toNat : Int) - 65 else -1)) ∧ w = w' := by
  refine (Tryd.strings_IndexByte _ _ _).mono ?_
  rintro e w' ⟨rfl, rfl⟩
  refine ⟨?_, rfl⟩
  have h := idx_cap c
  have h2 : ((c.toNat : Int).toNat.toUInt8) = c := by simp
  rw [h2, h]
def chaseref1_lower.f (a0 : ByteArray) : Option (ByteArray) := if a0.size ≤ 140737488355328 then (some (lowA a0)) else (none)
set_option maxHeartbeats 8000000 in
set_option maxRecDepth 100000 in
theorem chaseref1_lower.calls (a0 : ByteArray) (r : ByteArray) (w : World) (h : chaseref1_lower.f a0 = some r) :
    Calls Tryd.prog 100 #[.string a0] w fun e w' => e = .returned (.string r) ∧ Below w.heap.size w w' := by
  unfold chaseref1_lower.f at h
  by_cases hs : a0.size ≤ 140737488355328
  · rw [if_pos hs] at h
    obtain rfl := Option.some.inj h
    have hconv := fun (w : World) => Lib.run_convert_string_bytes (P := Tryd.prog) w 9 102 5 a0 Tryd.underlying9 Tryd.underlying102 Tryd.underlying5
    clear h
    go_enter Tryd.func100, Tryd.ntmps100
    go_wp2
    have hst := LowAt.start 5 w a0
    have Hst : Hid (LowAt 5 w (Lib.bytesWorld w 5 a0) a0 0) := hst
    have hs2 : a0.size ≤ 9223372036854775807 := by omega
    clear hst hconv
    go_loopw [11] (fun i wr => ∃ k : Nat, k ≤ a0.size ∧ i = .int .i64 k ∧ Hid (LowAt 5 w wr a0 k)) (fun i _ => a0.size - (intOf i).toNat)
    case atStart => exact ⟨0, Nat.zero_le _, rfl, Hst⟩
    case round =>
      obtain ⟨k, hk, rfl, HL⟩ := hrel
      by_cases hlt : k < a0.size
      · have hcell := HL.out.cell hlt
        have hfree := HL.out.free hlt
        have hidx := chaseref1_lower.idx a0[k]
        by_cases hc : 65 ≤ (a0[k].toNat : Int) ∧ (a0[k].toNat : Int) ≤ 90
        · have h1 := hc.1
          have h2 := hc.2
          simp only [if_pos hc] at hidx
          have HX : Hid _ := hidx
          have HP : Hid (LowAt 5 w (wr.setCell ⟨w.heap.size, k, none⟩ (.int .u8 ((a0[k].toNat : Int) + 32))) a0 (k + 1)) := HL.out.put hlt h1 h2
          clear hc HL hidx
          go_wp2_with (go_at_call 148; refine (HX.out _).mono ?_; rintro e w' ⟨rfl, rfl⟩)
          go_roundw
          case rel => exact ⟨k + 1, by omega, by go_num, by rw [small_at a0[k] h1 h2]; exact HP⟩
          case measure => simp [intOf]; omega
        · have HP : Hid (LowAt 5 w wr a0 (k + 1)) := HL.out.keep hlt hc
          simp only [if_neg hc] at hidx
          have HX : Hid _ := hidx
          clear HL hc hidx
          go_wp2_with (go_at_call 148; refine (HX.out _).mono ?_; rintro e w' ⟨rfl, rfl⟩)
          go_roundw
          case rel => exact ⟨k + 1, by omega, by go_num, HP⟩
          case measure => simp [intOf]; omega
      · obtain rfl : k = a0.size := by omega
        have hB := HL.out.1
        have hd := HL.out.done Tryd.prog 102 9 (grownCap w a0.size 0 5) Tryd.underlying102 Tryd.underlying5 Tryd.underlying9
        clear HL
        go_wp2
        go_ret
        exact ⟨rfl, hB⟩
  · rw [if_neg hs] at h
    exact absurd h (by simp)
def stringslite_HasPrefix.f (a0 : ByteArray) (a1 : ByteArray) : Option (Bool) := if (a0.size : Int) ≥ (a1.size : Int) then (if 0 ≤ (a1.size : Int) then (if (a1.size : Int) ≤ (a0.size : Int) then (some ((a0.extract 0 ((a1.size : Int) : Int).toNat).toList == a1.toList)) else (none)) else (none)) else (some false)
set_option maxHeartbeats 8000000 in
set_option maxRecDepth 100000 in
theorem stringslite_HasPrefix.calls (a0 : ByteArray) (a1 : ByteArray) (r : Bool) (w : World) (h : stringslite_HasPrefix.f a0 a1 = some r) :
    Calls Tryd.prog 157 #[.string a0, .string a1] w fun e w' => e = .returned (.bool r) ∧ Drawn0 w w' := by
  have H : (if (a0.size : Int) ≥ (a1.size : Int) then (if 0 ≤ (a1.size : Int) then (if (a1.size : Int) ≤ (a0.size : Int) then (some ((a0.extract 0 ((a1.size : Int) : Int).toNat).toList == a1.toList)) else (none)) else (none)) else (some false)) = some r := h
  clear h
  by_cases c3 : (a0.size : Int) ≥ (a1.size : Int)
  · rw [if_pos c3] at H
    have c3b0 : decide ((a1.size : Int) ≤ (a0.size : Int)) = true := decide_eq_true c3
    have c3b1 : decide (a1.size ≤ a0.size) = true := decide_eq_true (Int.ofNat_le.mp c3)
    clear c3
    by_cases c4 : 0 ≤ (a1.size : Int)
    · rw [if_pos c4] at H
      have c4b0 := eq_true c4
      have c4b1 : decide (0 ≤ (a1.size : Int)) = true := decide_eq_true c4
      clear c4
      by_cases c5 : (a1.size : Int) ≤ (a0.size : Int)
      · rw [if_pos c5] at H
        have c5b0 := eq_true c5
        have c5b1 : decide ((a1.size : Int) ≤ (a0.size : Int)) = true := decide_eq_true c5
        clear c5
        obtain rfl := Option.some.inj H
        go_enter Tryd.func157, Tryd.ntmps157
        go_wp2
        go_ret
        exact ⟨by first | rfl | (simp; done) | (simp [*]; done), by repeat (first | exact Drawn0.refl _ | apply Drawn0.step)⟩
      · rw [if_neg c5] at H
        exact absurd H (by simp)
    · rw [if_neg c4] at H
      exact absurd H (by simp)
  · rw [if_neg c3] at H
    have c3b0 : decide ((a1.size : Int) ≤ (a0.size : Int)) = false := decide_eq_false c3
    have c3b1 : decide (a1.size ≤ a0.size) = false := decide_eq_false (fun h => c3 (Int.ofNat_le.mpr h))
    clear c3
    obtain rfl := Option.some.inj H
    go_enter Tryd.func157, Tryd.ntmps157
    go_wp2
    go_ret
    exact ⟨by first | rfl | (simp; done) | (simp [*]; done), by repeat (first | exact Drawn0.refl _ | apply Drawn0.step)⟩
def strings_HasPrefix.f (a0 : ByteArray) (a1 : ByteArray) : Option (Bool) := (stringslite_HasPrefix.f a0 a1).bind fun t255 => (some t255)
set_option maxHeartbeats 8000000 in
set_option maxRecDepth 100000 in
theorem strings_HasPrefix.calls (a0 : ByteArray) (a1 : ByteArray) (r : Bool) (w : World) (h : strings_HasPrefix.f a0 a1 = some r) :
    Calls Tryd.prog 114 #[.string a0, .string a1] w fun e w' => e = .returned (.bool r) ∧ Drawn0 w w' := by
  have H : ((stringslite_HasPrefix.f a0 a1).bind fun t255 => (some t255)) = some r := h
  clear h
  replace H := Option.bind_eq_some_iff.mp H
  obtain ⟨t255, A30, H⟩ := H
  replace H : (some t255) = some r := H
  have A3 := Aside0.mk A30
  clear A30
  obtain rfl := Option.some.inj H
  go_enter Tryd.func114, Tryd.ntmps114
  go_wp2_with (first | ((with_reducible refine gate_callee (f := 157) rfl ?_); refine goesL_ (some 7) rfl rfl Tryd.func157 (by kernel_rfl) rfl #[.string a0, .string a1] rfl (by (try simp only [List.map_toArray, List.map_cons, List.map_nil]); first | done | rfl | (simp only [List.length_drop, List.length_take]; rfl)) ?_; (with_reducible refine (stringslite_HasPrefix.calls a0 a1 t255 _ A3.out).mono ?_); rintro e w' ⟨rfl, ⟨nd, rfl⟩⟩; refine ⟨_, rfl, ?_⟩))
  go_ret
  exact ⟨by first | rfl | (simp; done) | (simp [*]; done), by repeat (first | exact Drawn0.refl _ | apply Drawn0.step)⟩
end Go.Proofs.YtbamfhcifpfocaaDoor.Pp
