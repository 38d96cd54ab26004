/- Part of the proof that the law coveredIsHidden is true for every input. No conditions. Laid by a program of this session over the kit's print and words; declarations that nothing names are left out. -/
import Derived.Test.YtolcpmdojlbhcaaDoorZvPcx0
import Derived.Test.YtolcpmdojlbhcaaDoorZvPcx1
import Derived.Test.YtolcpmdojlbhcaaDoorZvPcx2
import Derived.Test.YtolcpmdojlbhcaaDoorZvPcx6
import Derived.Test.YtolcpmdojlbhcaaDoorZvPcx8
namespace Go.Proofs.YtolcpmdojlbhcaaDoor.Pc
open Go.RowKit Go.Proofs.YtolcpmdojlbhcaaDoor.GBase Go.Proofs.YtolcpmdojlbhcaaDoorW.PrintWords Go.Proofs.YtolcpmdojlbhcaaDoorW.PrintLast Go.Proofs.YtolcpmdojlbhcaaDoorW.PrintMore
attribute [local go_sem] str_leq max2_int min2_int max_two min_two max_three min_three max_four min_four
set_option linter.unusedVariables false
set_option linter.unusedSimpArgs false
attribute [local go_sem high] eqA46
def api_Span_24.l0 : Nat → List (S46) → List (S46) → Int → Int → Option (Bool)
  | 0, _, _, _, _ => none
  | k + 1, x0, x1, x12, x13 => if x13 < x12 then (if 0 ≤ x13 then (if x13 < (x0.length : Int) then (if x13 < (x1.length : Int) then (if (!(((rd_T46 x0 x13).f0) == ((rd_T46 x1 x13).f0)) || (!(((rd_T46 x0 x13).f1) == ((rd_T46 x1 x13).f1)))) = true then (some false) else (api_Span_24.l0 k x0 x1 x12 (wrap64 (x13 + 1)))) else (none)) else (none)) else (none)) else (some true)
def api_Span_24.f (k : Nat) (l0 : List (S46)) (l1 : List (S46)) : Option (Bool) := if (l0.length : Int) = (l1.length : Int) then (api_Span_24.l0 k l0 l1 (l0.length : Int) 0) else (some false)
theorem api_Span_24.mono_l : ∀ k, (∀ y0 y1 y2 y3, LeO (api_Span_24.l0 k y0 y1 y2 y3) (api_Span_24.l0 (k + 1) y0 y1 y2 y3))
  | 0 => fun _ _ _ _ r h => by simp [api_Span_24.l0] at h
  | k + 1 => by
    have ih0 := api_Span_24.mono_l k
    · intro y0 y1 y2 y3
      unfold api_Span_24.l0
      repeat' first
      | (with_reducible exact ih0 _ _ _ _)
      | (with_reducible exact LeO.refl _)
      | (with_reducible exact LeO.none _)
      | (with_reducible refine LeO.ite ?_ ?_)
      | (with_reducible refine LeO.bind ?_ (fun _ => ?_))
      | exact ih0 _ _ _ _
      | exact LeO.none _
      | refine LeO.ite ?_ ?_
      | refine LeO.bind ?_ (fun _ => ?_)
theorem api_Span_24.mono : ∀ a0 a1 k, LeO (api_Span_24.f k a0 a1) (api_Span_24.f (k + 1) a0 a1) := by
  intro a0 a1 k
  have ih0 := api_Span_24.mono_l k
  unfold api_Span_24.f
  repeat' first
      | (with_reducible exact ih0 _ _ _ _)
      | (with_reducible exact LeO.refl _)
      | (with_reducible exact LeO.none _)
      | (with_reducible refine LeO.ite ?_ ?_)
      | (with_reducible refine LeO.bind ?_ (fun _ => ?_))
      | exact ih0 _ _ _ _
      | exact LeO.none _
      | refine LeO.ite ?_ ?_
      | refine LeO.bind ?_ (fun _ => ?_)
set_option maxHeartbeats 8000000 in
set_option maxRecDepth 100000 in
theorem api_Span_24.calls (k : Nat) (A0 : Option Addr) (c0 : Nat) (l0 : List (S46)) (A1 : Option Addr) (c1 : Nat) (l1 : List (S46)) (r : Bool) (w : World) (hr0 : Kd.C k46 w A0 l0.length l0) (hc0 : l0.length ≤ c0) (hr1 : Kd.C k46 w A1 l1.length l1) (hc1 : l1.length ≤ c1) (h : api_Span_24.f k l0 l1 = some r) :
    Calls Tryd.prog 24 #[.slice A0 l0.length c0, .slice A1 l1.length c1] w fun e w' => e = .returned (.bool r) ∧ Drawn0 w w' := by
  have hu46 := Tryd.underlying46
  have HR0 := Aside0.mk hr0
  have HC0 := Aside0.mk hc0
  clear hr0 hc0
  have HR1 := Aside0.mk hr1
  have HC1 := Aside0.mk hc1
  clear hr1 hc1
  have H : (if (l0.length : Int) = (l1.length : Int) then (api_Span_24.l0 k l0 l1 (l0.length : Int) 0) else (some false)) = some r := h
  clear h
  by_cases c3 : (l0.length : Int) = (l1.length : Int)
  · rw [if_pos c3] at H
    have c3b0 : ((l0.length : Int) == (l1.length : Int)) = true := beq_iff_eq.mpr c3
    have c3b1 : ((l0.length : Int) != (l1.length : Int)) = false := bne_eq_false_iff_eq.mpr c3
    have c3b2 : (l0.length == l1.length) = true := by first | simpa using c3 | (simp at c3 ⊢; omega)
    clear c3
    have H' := Aside0.mk H
    clear H
    go_enter Tryd.func24, Tryd.ntmps24
    go_wp2
    repeat (go_quiet (fail); try go_wp2)
    go_loopg [13] k (fun kq v13 w' => ∃ (x13_1 : Int), v13 = .int .i64 x13_1 ∧ Aside0 (api_Span_24.l0 kq l0 l1 (l0.length : Int) x13_1 = some r) ∧ Aside0 (kq ≤ k) ∧ Drawn0 w w')
    case atStart => exact ⟨(0), (by first | rfl | (simp; done) | (simp [*]; done)), H', ⟨Nat.le_refl _⟩, by repeat (first | exact Drawn0.refl _ | apply Drawn0.step)⟩
    case round =>
      clear H'
      try clear c1
      try clear c2
      try clear p2
      try clear c3
      try clear c3b0
      try clear c3b1
      try clear c3b2
      obtain ⟨x13_1, rfl, HA, HK1, ⟨m1, rfl⟩⟩ := hrel
      cases gk with
      | zero => exact absurd HA.out (by simp [api_Span_24.l0])
      | succ k1 =>
        have H := HA.out
        clear HA
        simp only [api_Span_24.l0] at H
        by_cases c4 : x13_1 < (l0.length : Int)
        · rw [if_pos c4] at H
          have c4b0 : decide (x13_1 < (l0.length : Int)) = true := decide_eq_true c4
          clear c4
          by_cases c5 : 0 ≤ x13_1
          · rw [if_pos c5] at H
            have c5b0 : decide (0 ≤ x13_1) = true := decide_eq_true c5
            clear c5
            by_cases c6 : x13_1 < (l0.length : Int)
            · rw [if_pos c6] at H
              have c6b0 : decide (x13_1 < (l0.length : Int)) = true := decide_eq_true c6
              clear c6
              by_cases c7 : x13_1 < (l1.length : Int)
              · rw [if_pos c7] at H
                have c7b0 : decide (x13_1 < (l1.length : Int)) = true := decide_eq_true c7
                clear c7
                by_cases c8 : (!(((rd_T46 l0 x13_1).f0) == ((rd_T46 l1 x13_1).f0)) || (!(((rd_T46 l0 x13_1).f1) == ((rd_T46 l1 x13_1).f1)))) = true
                · rw [if_pos c8] at H
                  have c8b0 : (!(((rd_T46 l0 x13_1).f0) == ((rd_T46 l1 x13_1).f0)) || (!(((rd_T46 l0 x13_1).f1) == ((rd_T46 l1 x13_1).f1)))) = true := c8
                  clear c8
                  obtain rfl := Option.some.inj H
                  have p283 : 0 ≤ (x13_1 : Int) := of_decide_eq_true (by first | (with_reducible assumption) | assumption)
                  have q283 : x13_1 < (l0.length : Int) := of_decide_eq_true (by first | (with_reducible assumption) | assumption)
                  obtain ⟨ad283, e283, hx283_0, hx283_1⟩ := at_T46 HR0.out x13_1 p283 q283
                  cases e283
                  replace p283 := eq_true p283
                  replace q283 := eq_true q283
                  have p284 : 0 ≤ (x13_1 : Int) := of_decide_eq_true (by first | (with_reducible assumption) | assumption)
                  have q284 : x13_1 < (l1.length : Int) := of_decide_eq_true (by first | (with_reducible assumption) | assumption)
                  obtain ⟨ad284, e284, hx284_0, hx284_1⟩ := at_T46 HR1.out x13_1 p284 q284
                  cases e284
                  replace p284 := eq_true p284
                  replace q284 := eq_true q284
                  go_wp2
                  repeat (go_quiet (fail); try go_wp2)
                  go_ret
                  exact ⟨by first | rfl | (simp; done) | (simp [*]; done), by repeat (first | exact Drawn0.refl _ | apply Drawn0.step)⟩
                · rw [if_neg c8] at H
                  have c8b0 : (!(((rd_T46 l0 x13_1).f0) == ((rd_T46 l1 x13_1).f0)) || (!(((rd_T46 l0 x13_1).f1) == ((rd_T46 l1 x13_1).f1)))) = false := by simpa using c8
                  clear c8
                  have H' := Aside0.mk H
                  clear H
                  have p283 : 0 ≤ (x13_1 : Int) := of_decide_eq_true (by first | (with_reducible assumption) | assumption)
                  have q283 : x13_1 < (l0.length : Int) := of_decide_eq_true (by first | (with_reducible assumption) | assumption)
                  obtain ⟨ad283, e283, hx283_0, hx283_1⟩ := at_T46 HR0.out x13_1 p283 q283
                  cases e283
                  replace p283 := eq_true p283
                  replace q283 := eq_true q283
                  have p284 : 0 ≤ (x13_1 : Int) := of_decide_eq_true (by first | (with_reducible assumption) | assumption)
                  have q284 : x13_1 < (l1.length : Int) := of_decide_eq_true (by first | (with_reducible assumption) | assumption)
                  obtain ⟨ad284, e284, hx284_0, hx284_1⟩ := at_T46 HR1.out x13_1 p284 q284
                  cases e284
                  replace p284 := eq_true p284
                  replace q284 := eq_true q284
                  go_wp2
                  repeat (go_quiet (fail); try go_wp2)
                  go_roundg k1
                  case measure => have := HK1.out; omega
                  case rel => exact ⟨(wrap64 (x13_1 + 1)), (by first | rfl | (simp; done) | (simp [*]; done)), H', ⟨by have := HK1.out; omega⟩, by repeat (first | exact Drawn0.refl _ | apply Drawn0.step)⟩
              · rw [if_neg c7] at H
                exact absurd H (by simp)
            · rw [if_neg c6] at H
              exact absurd H (by simp)
          · rw [if_neg c5] at H
            exact absurd H (by simp)
        · rw [if_neg c4] at H
          have c4b0 : decide (x13_1 < (l0.length : Int)) = false := decide_eq_false c4
          clear c4
          obtain rfl := Option.some.inj H
          go_wp2
          repeat (go_quiet (fail); try go_wp2)
          go_ret
          exact ⟨by first | rfl | (simp; done) | (simp [*]; done), by repeat (first | exact Drawn0.refl _ | apply Drawn0.step)⟩
  · rw [if_neg c3] at H
    have c3b0 : ((l0.length : Int) == (l1.length : Int)) = false := beq_eq_false_iff_ne.mpr c3
    have c3b1 : ((l0.length : Int) != (l1.length : Int)) = true := bne_iff_ne.mpr c3
    have c3b2 : (l0.length == l1.length) = false := by first | simpa using c3 | (simp at c3 ⊢; omega)
    obtain rfl := Option.some.inj H
    go_enter Tryd.func24, Tryd.ntmps24
    go_wp2
    repeat (go_quiet (fail); try go_wp2)
    go_ret
    exact ⟨by first | rfl | (simp; done) | (simp [*]; done), by repeat (first | exact Drawn0.refl _ | apply Drawn0.step)⟩
mutual
def chasekeep1_CoveredIsHidden.j0 : Nat → ByteArray → Int → List (S46) → List (S46) → ByteArray → Bool → Option (Bool)
  | 0, _, _, _, _, _, _ => none
  | k + 1, x4, x5, x7, x12, x14, x90 => if x90 = true then (some false) else (chasekeep1_CoveredIsHidden.l0 k x4 x5 x7 x12 x14 x5 0)
def chasekeep1_CoveredIsHidden.l0 : Nat → ByteArray → Int → List (S46) → List (S46) → ByteArray → Int → Int → Option (Bool)
  | 0, _, _, _, _, _, _, _ => none
  | k + 1, x4, x5, x7, x12, x14, x91, x92 => if x92 < x91 then ((api_Span_21.f x12 x92).bind fun t308 => (if t308 = true then (if 0 ≤ x92 then (if x92 < (x14.size : Int) then (if (bt x14 x92) = 35 then (chasekeep1_CoveredIsHidden.j2 k x4 x5 x7 x12 x14 x91 x92 false) else (if (bt x14 x92) = 32 then (chasekeep1_CoveredIsHidden.j2 k x4 x5 x7 x12 x14 x91 x92 false) else (if (bt x14 x92) = 10 then (chasekeep1_CoveredIsHidden.j2 k x4 x5 x7 x12 x14 x91 x92 false) else (chasekeep1_CoveredIsHidden.j2 k x4 x5 x7 x12 x14 x91 x92 true)))) else (none)) else (none)) else (if 0 ≤ x92 then (if x92 < (x4.size : Int) then (if (bt x4 x92) < 128 then (if x92 < (x14.size : Int) then (chasekeep1_CoveredIsHidden.j2 k x4 x5 x7 x12 x14 x91 x92 ((bt x14 x92) != (bt x4 x92))) else (none)) else (chasekeep1_CoveredIsHidden.j2 k x4 x5 x7 x12 x14 x91 x92 false)) else (none)) else (none)))) else ((privilege_Without.f k x12 x7 x5).bind fun bt309 => ((privilege_Union.f k bt309.1 x7 x5).bind fun bt313 => ((chasekeep1_privileges.f k).bind fun t317 => (if t317 = true then (if bt309.2 = 0 then (if bt313.2 = 0 then ((api_Span_24.f k bt313.1 x12).bind fun t318 => (chasekeep1_CoveredIsHidden.j3 k t318)) else (chasekeep1_CoveredIsHidden.j3 k false)) else (chasekeep1_CoveredIsHidden.j3 k false)) else (chasekeep1_CoveredIsHidden.j3 k false)))))
def chasekeep1_CoveredIsHidden.j2 : Nat → ByteArray → Int → List (S46) → List (S46) → ByteArray → Int → Int → Bool → Option (Bool)
  | 0, _, _, _, _, _, _, _, _ => none
  | k + 1, x4, x5, x7, x12, x14, x91, x92, x135 => if x135 = true then (some false) else (chasekeep1_CoveredIsHidden.l0 k x4 x5 x7 x12 x14 x91 (wrap64 (x92 + 1)))
def chasekeep1_CoveredIsHidden.j3 : Nat → Bool → Option (Bool)
  | 0, _ => none
  | k + 1, x2 => some x2
end
def chasekeep1_CoveredIsHidden.f (k : Nat) (l0 : List Int) : Option (Bool) := (chasemake_Stream_Memo.f k l0 0).bind fun bt286 => ((chaseref1_BodyFault.f bt286.1).bind fun t288 => (if t288 = 0 then ((chasemake_Stream_SpanList.f k l0 bt286.2 (mn (bt286.1.size : Int) 50)).bind fun bt290 => ((chasemake_Stream_SpanList.f k l0 bt290.2 (mn (bt286.1.size : Int) 50)).bind fun bt294 => ((privilege_Redact.f k bt286.1 bt290.1).bind fun bt298 => ((privilege_Redact.f k bt298.1 bt294.1).bind fun bt300 => ((privilege_Union.f k bt290.1 bt294.1 (bt286.1.size : Int)).bind fun bt302 => ((privilege_Redact.f k bt286.1 bt302.1).bind fun bt306 => (if bt298.2 = 0 then (if bt300.2 = 0 then (if bt302.2 = 0 then (if bt306.2 = 0 then (if bt300.1.toList = bt306.1.toList then (chasekeep1_CoveredIsHidden.j0 k bt286.1 (bt286.1.size : Int) bt294.1 bt302.1 bt306.1 ((bt306.1.size : Int) != (bt286.1.size : Int))) else (chasekeep1_CoveredIsHidden.j0 k bt286.1 (bt286.1.size : Int) bt294.1 bt302.1 bt306.1 true)) else (chasekeep1_CoveredIsHidden.j0 k bt286.1 (bt286.1.size : Int) bt294.1 bt302.1 bt306.1 true)) else (chasekeep1_CoveredIsHidden.j0 k bt286.1 (bt286.1.size : Int) bt294.1 bt302.1 bt306.1 true)) else (chasekeep1_CoveredIsHidden.j0 k bt286.1 (bt286.1.size : Int) bt294.1 bt302.1 bt306.1 true)) else (chasekeep1_CoveredIsHidden.j0 k bt286.1 (bt286.1.size : Int) bt294.1 bt302.1 bt306.1 true)))))))) else ((chasekeep1_privileges.f k).bind fun t289 => (some t289))))
theorem chasekeep1_CoveredIsHidden.mono_l : ∀ k, (∀ y0 y1 y2 y3 y4 y5, LeO (chasekeep1_CoveredIsHidden.j0 k y0 y1 y2 y3 y4 y5) (chasekeep1_CoveredIsHidden.j0 (k + 1) y0 y1 y2 y3 y4 y5)) ∧ (∀ y0 y1 y2 y3 y4 y5 y6, LeO (chasekeep1_CoveredIsHidden.l0 k y0 y1 y2 y3 y4 y5 y6) (chasekeep1_CoveredIsHidden.l0 (k + 1) y0 y1 y2 y3 y4 y5 y6)) ∧ (∀ y0 y1 y2 y3 y4 y5 y6 y7, LeO (chasekeep1_CoveredIsHidden.j2 k y0 y1 y2 y3 y4 y5 y6 y7) (chasekeep1_CoveredIsHidden.j2 (k + 1) y0 y1 y2 y3 y4 y5 y6 y7)) ∧ (∀ y0, LeO (chasekeep1_CoveredIsHidden.j3 k y0) (chasekeep1_CoveredIsHidden.j3 (k + 1) y0))
  | 0 => ⟨fun _ _ _ _ _ _ r h => by simp [chasekeep1_CoveredIsHidden.j0] at h, fun _ _ _ _ _ _ _ r h => by simp [chasekeep1_CoveredIsHidden.l0] at h, fun _ _ _ _ _ _ _ _ r h => by simp [chasekeep1_CoveredIsHidden.j2] at h, fun _ r h => by simp [chasekeep1_CoveredIsHidden.j3] at h⟩
  | k + 1 => by
    obtain ⟨ih0, ih1, ih2, ih3⟩ := chasekeep1_CoveredIsHidden.mono_l k
    refine ⟨?_, ?_, ?_, ?_⟩
    · intro y0 y1 y2 y3 y4 y5
      unfold chasekeep1_CoveredIsHidden.j0
      repeat' first
      | (with_reducible exact ih0 _ _ _ _ _ _)
      | (with_reducible exact ih1 _ _ _ _ _ _ _)
      | (with_reducible exact ih2 _ _ _ _ _ _ _ _)
      | (with_reducible exact ih3 _)
      | (with_reducible exact api_Span_24.mono _ _ _)
      | (with_reducible exact chasekeep1_privileges.mono _)
      | (with_reducible exact chasemake_Stream_Memo.mono _ _ _)
      | (with_reducible exact chasemake_Stream_SpanList.mono _ _ _ _)
      | (with_reducible exact privilege_Redact.mono _ _ _)
      | (with_reducible exact privilege_Union.mono _ _ _ _)
      | (with_reducible exact privilege_Without.mono _ _ _ _)
      | (with_reducible exact LeO.refl _)
      | (with_reducible exact LeO.none _)
      | (with_reducible refine LeO.ite ?_ ?_)
      | (with_reducible refine LeO.bind ?_ (fun _ => ?_))
      | exact ih0 _ _ _ _ _ _
      | exact ih1 _ _ _ _ _ _ _
      | exact ih2 _ _ _ _ _ _ _ _
      | exact ih3 _
      | exact api_Span_24.mono _ _ _
      | exact chasekeep1_privileges.mono _
      | exact chasemake_Stream_Memo.mono _ _ _
      | exact chasemake_Stream_SpanList.mono _ _ _ _
      | exact privilege_Redact.mono _ _ _
      | exact privilege_Union.mono _ _ _ _
      | exact privilege_Without.mono _ _ _ _
      | exact LeO.none _
      | refine LeO.ite ?_ ?_
      | refine LeO.bind ?_ (fun _ => ?_)
    · intro y0 y1 y2 y3 y4 y5 y6
      unfold chasekeep1_CoveredIsHidden.l0
      repeat' first
      | (with_reducible exact ih0 _ _ _ _ _ _)
      | (with_reducible exact ih1 _ _ _ _ _ _ _)
      | (with_reducible exact ih2 _ _ _ _ _ _ _ _)
      | (with_reducible exact ih3 _)
      | (with_reducible exact api_Span_24.mono _ _ _)
      | (with_reducible exact chasekeep1_privileges.mono _)
      | (with_reducible exact chasemake_Stream_Memo.mono _ _ _)
      | (with_reducible exact chasemake_Stream_SpanList.mono _ _ _ _)
      | (with_reducible exact privilege_Redact.mono _ _ _)
      | (with_reducible exact privilege_Union.mono _ _ _ _)
      | (with_reducible exact privilege_Without.mono _ _ _ _)
      | (with_reducible exact LeO.refl _)
      | (with_reducible exact LeO.none _)
      | (with_reducible refine LeO.ite ?_ ?_)
      | (with_reducible refine LeO.bind ?_ (fun _ => ?_))
      | exact ih0 _ _ _ _ _ _
      | exact ih1 _ _ _ _ _ _ _
      | exact ih2 _ _ _ _ _ _ _ _
      | exact ih3 _
      | exact api_Span_24.mono _ _ _
      | exact chasekeep1_privileges.mono _
      | exact chasemake_Stream_Memo.mono _ _ _
      | exact chasemake_Stream_SpanList.mono _ _ _ _
      | exact privilege_Redact.mono _ _ _
      | exact privilege_Union.mono _ _ _ _
      | exact privilege_Without.mono _ _ _ _
      | exact LeO.none _
      | refine LeO.ite ?_ ?_
      | refine LeO.bind ?_ (fun _ => ?_)
    · intro y0 y1 y2 y3 y4 y5 y6 y7
      unfold chasekeep1_CoveredIsHidden.j2
      repeat' first
      | (with_reducible exact ih0 _ _ _ _ _ _)
      | (with_reducible exact ih1 _ _ _ _ _ _ _)
      | (with_reducible exact ih2 _ _ _ _ _ _ _ _)
      | (with_reducible exact ih3 _)
      | (with_reducible exact api_Span_24.mono _ _ _)
      | (with_reducible exact chasekeep1_privileges.mono _)
      | (with_reducible exact chasemake_Stream_Memo.mono _ _ _)
      | (with_reducible exact chasemake_Stream_SpanList.mono _ _ _ _)
      | (with_reducible exact privilege_Redact.mono _ _ _)
      | (with_reducible exact privilege_Union.mono _ _ _ _)
      | (with_reducible exact privilege_Without.mono _ _ _ _)
      | (with_reducible exact LeO.refl _)
      | (with_reducible exact LeO.none _)
      | (with_reducible refine LeO.ite ?_ ?_)
      | (with_reducible refine LeO.bind ?_ (fun _ => ?_))
      | exact ih0 _ _ _ _ _ _
      | exact ih1 _ _ _ _ _ _ _
      | exact ih2 _ _ _ _ _ _ _ _
      | exact ih3 _
      | exact api_Span_24.mono _ _ _
      | exact chasekeep1_privileges.mono _
      | exact chasemake_Stream_Memo.mono _ _ _
      | exact chasemake_Stream_SpanList.mono _ _ _ _
      | exact privilege_Redact.mono _ _ _
      | exact privilege_Union.mono _ _ _ _
      | exact privilege_Without.mono _ _ _ _
      | exact LeO.none _
      | refine LeO.ite ?_ ?_
      | refine LeO.bind ?_ (fun _ => ?_)
    · intro y0
      unfold chasekeep1_CoveredIsHidden.j3
      repeat' first
      | (with_reducible exact ih0 _ _ _ _ _ _)
      | (with_reducible exact ih1 _ _ _ _ _ _ _)
      | (with_reducible exact ih2 _ _ _ _ _ _ _ _)
      | (with_reducible exact ih3 _)
      | (with_reducible exact api_Span_24.mono _ _ _)
      | (with_reducible exact chasekeep1_privileges.mono _)
      | (with_reducible exact chasemake_Stream_Memo.mono _ _ _)
      | (with_reducible exact chasemake_Stream_SpanList.mono _ _ _ _)
      | (with_reducible exact privilege_Redact.mono _ _ _)
      | (with_reducible exact privilege_Union.mono _ _ _ _)
      | (with_reducible exact privilege_Without.mono _ _ _ _)
      | (with_reducible exact LeO.refl _)
      | (with_reducible exact LeO.none _)
      | (with_reducible refine LeO.ite ?_ ?_)
      | (with_reducible refine LeO.bind ?_ (fun _ => ?_))
      | exact ih0 _ _ _ _ _ _
      | exact ih1 _ _ _ _ _ _ _
      | exact ih2 _ _ _ _ _ _ _ _
      | exact ih3 _
      | exact api_Span_24.mono _ _ _
      | exact chasekeep1_privileges.mono _
      | exact chasemake_Stream_Memo.mono _ _ _
      | exact chasemake_Stream_SpanList.mono _ _ _ _
      | exact privilege_Redact.mono _ _ _
      | exact privilege_Union.mono _ _ _ _
      | exact privilege_Without.mono _ _ _ _
      | exact LeO.none _
      | refine LeO.ite ?_ ?_
      | refine LeO.bind ?_ (fun _ => ?_)
theorem chasekeep1_CoveredIsHidden.mono : ∀ a0 k, LeO (chasekeep1_CoveredIsHidden.f k a0) (chasekeep1_CoveredIsHidden.f (k + 1) a0) := by
  intro a0 k
  obtain ⟨ih0, ih1, ih2, ih3⟩ := chasekeep1_CoveredIsHidden.mono_l k
  unfold chasekeep1_CoveredIsHidden.f
  repeat' first
      | (with_reducible exact ih0 _ _ _ _ _ _)
      | (with_reducible exact ih1 _ _ _ _ _ _ _)
      | (with_reducible exact ih2 _ _ _ _ _ _ _ _)
      | (with_reducible exact ih3 _)
      | (with_reducible exact api_Span_24.mono _ _ _)
      | (with_reducible exact chasekeep1_privileges.mono _)
      | (with_reducible exact chasemake_Stream_Memo.mono _ _ _)
      | (with_reducible exact chasemake_Stream_SpanList.mono _ _ _ _)
      | (with_reducible exact privilege_Redact.mono _ _ _)
      | (with_reducible exact privilege_Union.mono _ _ _ _)
      | (with_reducible exact privilege_Without.mono _ _ _ _)
      | (with_reducible exact LeO.refl _)
      | (with_reducible exact LeO.none _)
      | (with_reducible refine LeO.ite ?_ ?_)
      | (with_reducible refine LeO.bind ?_ (fun _ => ?_))
      | exact ih0 _ _ _ _ _ _
      | exact ih1 _ _ _ _ _ _ _
      | exact ih2 _ _ _ _ _ _ _ _
      | exact ih3 _
      | exact api_Span_24.mono _ _ _
      | exact chasekeep1_privileges.mono _
      | exact chasemake_Stream_Memo.mono _ _ _
      | exact chasemake_Stream_SpanList.mono _ _ _ _
      | exact privilege_Redact.mono _ _ _
      | exact privilege_Union.mono _ _ _ _
      | exact privilege_Without.mono _ _ _ _
      | exact LeO.none _
      | refine LeO.ite ?_ ?_
      | refine LeO.bind ?_ (fun _ => ?_)
end Go.Proofs.YtolcpmdojlbhcaaDoor.Pc
