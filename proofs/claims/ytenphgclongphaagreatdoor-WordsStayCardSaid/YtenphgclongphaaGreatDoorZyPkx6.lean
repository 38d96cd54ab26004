/- A part of the proof of wordsStay. No conditions. Laid by program over the kit's print and words. -/
import Derived.Test.YtenphgclongphaaGreatDoorZyPkx0
import Derived.Test.YtenphgclongphaaGreatDoorZyPkx1
import Derived.Test.YtenphgclongphaaGreatDoorZyPkx5
namespace Go.Proofs.YtenphgclongphaaGreatDoor.Pk
open Go.RowKit Go.Proofs.YtenphgclongphaaGreatDoor.GBase Go.Proofs.YtenphgclongphaaGreatDoorW.PrintWords Go.Proofs.YtenphgclongphaaGreatDoorW.PrintLast Go.Proofs.YtenphgclongphaaGreatDoorW.PrintMore
attribute [local go_sem] str_leq max2_int min2_int max_two min_two max_three min_three max_four min_four
set_option linter.unusedVariables false
set_option linter.unusedSimpArgs false
set_option maxHeartbeats 8000000 in
set_option maxRecDepth 100000 in
theorem slices_Equal_string_string.calls (k : Nat) (A0 : Option Addr) (c0 : Nat) (l0 : List ByteArray) (A1 : Option Addr) (c1 : Nat) (l1 : List ByteArray) (r : Bool) (w : World) (hr0 : Kd.C Kd.string w A0 l0.length l0) (hc0 : l0.length ≤ c0) (hr1 : Kd.C Kd.string w A1 l1.length l1) (hc1 : l1.length ≤ c1) (h : slices_Equal_string_string.f k l0 l1 = some r) :
  Calls Tryz.prog 12 #[.slice A0 l0.length c0, .slice A1 l1.length c1] w fun e w' => e = .returned (.bool r) ∧ Drawn0 w w' := by
 have HR0 := am_ hr0; have HC0 := am_ hc0; clear hr0 hc0; have HR1 := am_ hr1; have HC1 := am_ hc1; clear hr1 hc1
 have H : (if (l0.length : Int) = (l1.length : Int) then (slices_Equal_string_string.l0 k l0 l1 (l0.length : Int) 0) else (some false)) = some r := h
 clear h
 by_cases c3 : (l0.length : Int) = (l1.length : Int)
 ·rw [if_pos c3] at H
  have c3b0 : ((l0.length : Int) == (l1.length : Int)) = true := beq_iff_eq.mpr c3
  have c3b1 : ((l0.length : Int) != (l1.length : Int)) = false := bne_eq_false_iff_eq.mpr c3
  have c3b2 : (l0.length == l1.length) = true := by first | simpa using c3 | (simp at c3 ⊢; omega)
  clear c3
  have H' := am_ H
  clear H
  go_enter Tryz.func12, Tryz.ntmps12
  go_wp2
  repeat (go_quiet (fail); try go_wp2)
  go_loopg [13] k (fun kq v13 w' => ∃ (x13_1 : Int), v13 = .int .i64 x13_1 ∧ Aside0 (slices_Equal_string_string.l0 kq l0 l1 (l0.length : Int) x13_1 = some r) ∧ Aside0 (kq ≤ k) ∧ Drawn0 w w')
  case atStart => exact ⟨(0), (by first | rfl | (simp; done) | (simp [*]; done)), H', ⟨Nat.le_refl _⟩, by repeat (first | exact Drawn0.refl _ | apply Drawn0.step)⟩
  case round =>
   clear H'; (try clear c1); (try clear p2); (try clear c3); (try clear c3b0); (try clear c3b1); (try clear c3b2)
   obtain ⟨x13_1, rfl, HA, HK1, ⟨m1, rfl⟩⟩ := hrel
   cases gk with
   | zero => exact absurd HA.out (by simp [slices_Equal_string_string.l0])
   | succ k1 =>
    have H := HA.out
    clear HA
    simp only [slices_Equal_string_string.l0] at H
    by_cases c4 : x13_1 < (l0.length : Int)
    ·rw [if_pos c4] at H
     have c4b0 := decide_eq_true c4; clear c4
     by_cases c5 : 0 ≤ x13_1
     case neg => exact (nn_ c5 H).elim
     rw [if_pos c5] at H; have c5b0 := decide_eq_true c5; clear c5
     by_cases c6 : x13_1 < (l0.length : Int)
     case neg => exact (nn_ c6 H).elim
     rw [if_pos c6] at H; have c6b0 := decide_eq_true c6; clear c6
     by_cases c7 : x13_1 < (l1.length : Int)
     case neg => exact (nn_ c7 H).elim
     rw [if_pos c7] at H; have c7b0 := decide_eq_true c7; clear c7
     by_cases c8 : (rdOf ByteArray.empty l0 x13_1).toList = (rdOf ByteArray.empty l1 x13_1).toList
     ·rw [if_pos c8] at H
      have c8b0 : ((rdOf ByteArray.empty l0 x13_1).toList == (rdOf ByteArray.empty l1 x13_1).toList) = true := beq_iff_eq.mpr c8
      have c8b1 : ((rdOf ByteArray.empty l0 x13_1).toList != (rdOf ByteArray.empty l1 x13_1).toList) = false := bne_eq_false_iff_eq.mpr c8
      clear c8
      have H' := am_ H
      clear H; have p260 : 0 ≤ (x13_1 : Int) := ode_; have q260 : x13_1 < (l0.length : Int) := ode_
      obtain ⟨ad260, e260, hx260_0⟩ := Kd.at_string HR0.out x13_1 p260 q260
      cases e260; replace p260 := eq_true p260; replace q260 := eq_true q260; have p261 : 0 ≤ (x13_1 : Int) := ode_; have q261 : x13_1 < (l1.length : Int) := ode_
      obtain ⟨ad261, e261, hx261_0⟩ := Kd.at_string HR1.out x13_1 p261 q261
      cases e261; replace p261 := eq_true p261; replace q261 := eq_true q261
      go_wp2
      repeat (go_quiet (fail); try go_wp2)
      go_roundg k1
      case measure => have := HK1.out; omega
      case rel => exact ⟨(wrap64 (x13_1 + 1)), (by first | rfl | (simp; done) | (simp [*]; done)), H', ⟨by have := HK1.out; omega⟩, by repeat (first | exact Drawn0.refl _ | apply Drawn0.step)⟩
     ·rw [if_neg c8] at H
      have c8b0 : ((rdOf ByteArray.empty l0 x13_1).toList == (rdOf ByteArray.empty l1 x13_1).toList) = false := beq_eq_false_iff_ne.mpr c8
      have c8b1 : ((rdOf ByteArray.empty l0 x13_1).toList != (rdOf ByteArray.empty l1 x13_1).toList) = true := bne_iff_ne.mpr c8
      obtain rfl := Option.some.inj H
      have p260 : 0 ≤ (x13_1 : Int) := ode_; have q260 : x13_1 < (l0.length : Int) := ode_
      obtain ⟨ad260, e260, hx260_0⟩ := Kd.at_string HR0.out x13_1 p260 q260
      cases e260; replace p260 := eq_true p260; replace q260 := eq_true q260; have p261 : 0 ≤ (x13_1 : Int) := ode_; have q261 : x13_1 < (l1.length : Int) := ode_
      obtain ⟨ad261, e261, hx261_0⟩ := Kd.at_string HR1.out x13_1 p261 q261
      cases e261; replace p261 := eq_true p261; replace q261 := eq_true q261
      go_wp2
      repeat (go_quiet (fail); try go_wp2)
      go_ret
      exact ⟨by first | rfl | (simp; done) | (simp [*]; done), by repeat (first | exact Drawn0.refl _ | apply Drawn0.step)⟩
    ·rw [if_neg c4] at H
     have c4b0 : decide (x13_1 < (l0.length : Int)) = false := decide_eq_false c4
     clear c4
     obtain rfl := Option.some.inj H
     go_wp2
     repeat (go_quiet (fail); try go_wp2)
     go_ret
     exact ⟨by first | rfl | (simp; done) | (simp [*]; done), by repeat (first | exact Drawn0.refl _ | apply Drawn0.step)⟩
 ·rw [if_neg c3] at H
  have c3b0 : ((l0.length : Int) == (l1.length : Int)) = false := beq_eq_false_iff_ne.mpr c3
  have c3b1 : ((l0.length : Int) != (l1.length : Int)) = true := bne_iff_ne.mpr c3
  have c3b2 : (l0.length == l1.length) = false := by first | simpa using c3 | (simp at c3 ⊢; omega)
  obtain rfl := Option.some.inj H
  go_enter Tryz.func12, Tryz.ntmps12
  go_wp2
  repeat (go_quiet (fail); try go_wp2)
  go_ret
  exact ⟨by first | rfl | (simp; done) | (simp [*]; done), by repeat (first | exact Drawn0.refl _ | apply Drawn0.step)⟩
def base_When.f (a0 : Bool) (a1 : Int) : Option (Int) := if a0 = true then (some a1) else (some 0)
set_option maxHeartbeats 8000000 in
set_option maxRecDepth 100000 in
theorem base_When.calls (a0 : Bool) (a1 : Int) (r : Int) (w : World) (h : base_When.f a0 a1 = some r) :
    Calls Tryz.prog 24 #[.bool a0, .int .i64 a1] w fun e w' => e = .returned (.int .i64 r) ∧ Drawn0 w w' := by
  have H : (if a0 = true then (some a1) else (some 0)) = some r := h
  clear h
  by_cases c3 : a0 = true
  · subst c3
    have H1 : (some a1) = some r := by rw [if_pos rfl] at H; exact H
    clear H
    have H := H1
    clear H1
    obtain rfl := Option.some.inj H
    go_enter Tryz.func24, Tryz.ntmps24
    go_wp2
    go_ret
    exact ⟨by first | rfl | (simp; done) | (simp [*]; done), by repeat (first | exact Drawn0.refl _ | apply Drawn0.step)⟩
  · replace c3 := Bool.eq_false_iff.mpr c3
    subst c3
    have H1 : (some 0) = some r := by rw [if_neg (show ¬ (false = true) by decide)] at H; exact H
    clear H
    have H := H1
    clear H1
    obtain rfl := Option.some.inj H
    go_enter Tryz.func24, Tryz.ntmps24
    go_wp2
    go_ret
    exact ⟨by first | rfl | (simp; done) | (simp [*]; done), by repeat (first | exact Drawn0.refl _ | apply Drawn0.step)⟩
def near_large.f (a0 : ByteArray) : Option (Int) := (base_When.f (decide ((a0.size : Int) > 20000)) 2).bind fun t262 => (some t262)
set_option maxHeartbeats 8000000 in
set_option maxRecDepth 100000 in
theorem near_large.calls (a0 : ByteArray) (r : Int) (w : World) (h : near_large.f a0 = some r) :
    Calls Tryz.prog 26 #[.string a0] w fun e w' => e = .returned (.int .i64 r) ∧ Drawn0 w w' := by
  have H : ((base_When.f (decide ((a0.size : Int) > 20000)) 2).bind fun t262 => (some t262)) = some r := h
  clear h; replace H := Option.bind_eq_some_iff.mp H; obtain ⟨t262, A20, H⟩ := H
  replace H : (some t262) = some r := H
  have A2 := am_ A20; clear A20
  obtain rfl := Option.some.inj H
  go_enter Tryz.func26, Tryz.ntmps26
  go_wp2_with (first | ((with_reducible refine gate_callee (f := 24) rfl ?_); refine goesL_ (some 6) rfl rfl Tryz.func24 (by kernel_rfl) rfl #[.bool (decide ((a0.size : Int) > 20000)), .int .i64 2] rfl (by (try simp only [m1_, m2_, m3_]); first | done | rfl | (simp only [List.length_drop, List.length_take]; rfl)) ?_; (with_reducible refine (base_When.calls (decide ((a0.size : Int) > 20000)) 2 t262 _ A2.out).mono ?_); rintro e w' ⟨rfl, ⟨nd, rfl⟩⟩; refine ⟨_, rfl, ?_⟩))
  go_ret
  exact ⟨by first | rfl | (simp; done) | (simp [*]; done), by repeat (first | exact Drawn0.refl _ | apply Drawn0.step)⟩
mutual
def near_Tokens.l0 : Nat → List ByteArray → List ByteArray → Int → Int → Option (List ByteArray)
  | 0, _, _, _, _ => none
  | k + 1, x3, x9, x10, x11 => if x11 < x10 then (if 0 ≤ x11 then (if x11 < (x9.length : Int) then (if x11 > 0 then (if x3.length < 8796093022208 then (near_Tokens.j1 k (x3 ++ [(⟨#[10]⟩ : ByteArray)]) (rdOf ByteArray.empty x9 x11) x9 x10 x11) else (none)) else (near_Tokens.j1 k x3 (rdOf ByteArray.empty x9 x11) x9 x10 x11)) else (none)) else (none)) else (some x3)
def near_Tokens.j1 : Nat → List ByteArray → ByteArray → List ByteArray → Int → Int → Option (List ByteArray)
  | 0, _, _, _, _, _ => none
  | k + 1, x3, x5, x9, x10, x11 => (strings_Split.f x5 (⟨#[32]⟩ : ByteArray)).bind fun t270 => (near_Tokens.l1 k x3 x9 x10 x11 t270 (t270.length : Int) 0)
def near_Tokens.l1 : Nat → List ByteArray → List ByteArray → Int → Int → List ByteArray → Int → Int → Option (List ByteArray)
  | 0, _, _, _, _, _, _, _ => none
  | k + 1, x3, x9, x10, x11, x22, x23, x24 => if x24 < x23 then (if 0 ≤ x24 then (if x24 < (x22.length : Int) then (if (rdOf ByteArray.empty x22 x24).toList = ([] : List UInt8) then (near_Tokens.l1 k x3 x9 x10 x11 x22 x23 (wrap64 (x24 + 1))) else (if x3.length < 8796093022208 then (near_Tokens.l1 k (x3 ++ [rdOf ByteArray.empty x22 x24]) x9 x10 x11 x22 x23 (wrap64 (x24 + 1))) else (none))) else (none)) else (none)) else (near_Tokens.l0 k x3 x9 x10 (wrap64 (x11 + 1)))
end
def near_Tokens.f (k : Nat) (a0 : ByteArray) : Option (List ByteArray) := (strings_Split.f a0 (⟨#[10]⟩ : ByteArray)).bind fun t263 => (near_Tokens.l0 k ([] : List ByteArray) t263 (t263.length : Int) 0)
theorem near_Tokens.mono_l : ∀ k, (∀ y0 y1 y2 y3, LeO (near_Tokens.l0 k y0 y1 y2 y3) (near_Tokens.l0 (k + 1) y0 y1 y2 y3)) ∧ (∀ y0 y1 y2 y3 y4, LeO (near_Tokens.j1 k y0 y1 y2 y3 y4) (near_Tokens.j1 (k + 1) y0 y1 y2 y3 y4)) ∧ (∀ y0 y1 y2 y3 y4 y5 y6, LeO (near_Tokens.l1 k y0 y1 y2 y3 y4 y5 y6) (near_Tokens.l1 (k + 1) y0 y1 y2 y3 y4 y5 y6))
  | 0 => ⟨fun _ _ _ _ r h => by simp [near_Tokens.l0] at h, fun _ _ _ _ _ r h => by simp [near_Tokens.j1] at h, fun _ _ _ _ _ _ _ r h => by simp [near_Tokens.l1] at h⟩
  | k + 1 => by
    obtain ⟨ih0, ih1, ih2⟩ := near_Tokens.mono_l k
    refine ⟨?_, ?_, ?_⟩
    · intro y0 y1 y2 y3
      unfold near_Tokens.l0
      repeat' first
      | (with_reducible exact ih0 _ _ _ _)
      | (with_reducible exact ih1 _ _ _ _ _)
      | (with_reducible exact ih2 _ _ _ _ _ _ _)
      | (with_reducible exact LeO.refl _)
      | (with_reducible exact LeO.none _)
      | (with_reducible refine LeO.ite ?_ ?_)
      | (with_reducible refine LeO.bind ?_ (fun _ => ?_))
      | exact ih0 _ _ _ _
      | exact ih1 _ _ _ _ _
      | exact ih2 _ _ _ _ _ _ _
      | exact LeO.none _
      | refine LeO.ite ?_ ?_
      | refine LeO.bind ?_ (fun _ => ?_)
    · intro y0 y1 y2 y3 y4
      unfold near_Tokens.j1
      repeat' first
      | (with_reducible exact ih0 _ _ _ _)
      | (with_reducible exact ih1 _ _ _ _ _)
      | (with_reducible exact ih2 _ _ _ _ _ _ _)
      | (with_reducible exact LeO.refl _)
      | (with_reducible exact LeO.none _)
      | (with_reducible refine LeO.ite ?_ ?_)
      | (with_reducible refine LeO.bind ?_ (fun _ => ?_))
      | exact ih0 _ _ _ _
      | exact ih1 _ _ _ _ _
      | exact ih2 _ _ _ _ _ _ _
      | exact LeO.none _
      | refine LeO.ite ?_ ?_
      | refine LeO.bind ?_ (fun _ => ?_)
    · intro y0 y1 y2 y3 y4 y5 y6
      unfold near_Tokens.l1
      repeat' first
      | (with_reducible exact ih0 _ _ _ _)
      | (with_reducible exact ih1 _ _ _ _ _)
      | (with_reducible exact ih2 _ _ _ _ _ _ _)
      | (with_reducible exact LeO.refl _)
      | (with_reducible exact LeO.none _)
      | (with_reducible refine LeO.ite ?_ ?_)
      | (with_reducible refine LeO.bind ?_ (fun _ => ?_))
      | exact ih0 _ _ _ _
      | exact ih1 _ _ _ _ _
      | exact ih2 _ _ _ _ _ _ _
      | exact LeO.none _
      | refine LeO.ite ?_ ?_
      | refine LeO.bind ?_ (fun _ => ?_)
theorem near_Tokens.mono : ∀ a0 k, LeO (near_Tokens.f k a0) (near_Tokens.f (k + 1) a0) := by
  intro a0 k
  obtain ⟨ih0, ih1, ih2⟩ := near_Tokens.mono_l k
  unfold near_Tokens.f
  repeat' first
      | (with_reducible exact ih0 _ _ _ _)
      | (with_reducible exact ih1 _ _ _ _ _)
      | (with_reducible exact ih2 _ _ _ _ _ _ _)
      | (with_reducible exact LeO.refl _)
      | (with_reducible exact LeO.none _)
      | (with_reducible refine LeO.ite ?_ ?_)
      | (with_reducible refine LeO.bind ?_ (fun _ => ?_))
      | exact ih0 _ _ _ _
      | exact ih1 _ _ _ _ _
      | exact ih2 _ _ _ _ _ _ _
      | exact LeO.none _
      | refine LeO.ite ?_ ?_
      | refine LeO.bind ?_ (fun _ => ?_)
set_option maxHeartbeats 8000000 in
set_option maxRecDepth 100000 in
theorem near_Tokens.calls (k : Nat) (a0 : ByteArray) (r : List ByteArray) (w : World) (hGl : Wd w) (h : near_Tokens.f k a0 = some r) :
  Calls Tryz.prog 59 #[.string a0] w fun e w' => ∃ v0_ : Value, e = .returned (v0_) ∧ Kd.R Kd.string 9 w' w.heap.size (fun _ => True) v0_ r ∧ Below w.heap.size w w' := by
 have HGl := am_ hGl; clear hGl
 have HB := am_ (Below.refl w.heap.size w)
 have H : ((strings_Split.f a0 (⟨#[10]⟩ : ByteArray)).bind fun t263 => (near_Tokens.l0 k ([] : List ByteArray) t263 (t263.length : Int) 0)) = some r := h
 clear h; replace H := Option.bind_eq_some_iff.mp H; obtain ⟨t263, A20, H⟩ := H; have A2 := am_ A20; clear A20
 have H' := am_ H
 clear H
 go_enter Tryz.func59, Tryz.ntmps59
 go_wp2_with (first | ((with_reducible refine gate_callee (f := 53) rfl ?_); refine goesL_ (some 9) rfl rfl Tryz.func53 (by kernel_rfl) rfl #[.string a0, .string (⟨#[10]⟩ : ByteArray)] rfl (by (try simp only [m1_, m2_, m3_]); first | done | rfl | (simp only [List.length_drop, List.length_take]; rfl)) ?_; (with_reducible refine (strings_Split.calls a0 (⟨#[10]⟩ : ByteArray) t263 _ ?side1 A2.out).mono ?_); (case side1 => exact Wd.below HGl.out (by repeat (first | (with_reducible first | exact HB.out | apply b3_ | apply b1_ | apply b2_) | exact HB.out))); rintro e w3 ⟨v264, rfl, ho0, hb⟩; refine ⟨_, rfl, ?_⟩; have n0_ := am_ (Kd.R_lower ho0 (below_size (by repeat (first | (with_reducible first | exact HB.out | apply b3_ | apply b1_ | apply b2_) | exact HB.out)))); have n1_ := am_ (below_step (by repeat (first | (with_reducible first | exact HB.out | apply b3_ | apply b1_ | apply b2_) | exact HB.out)) hb); clear HB; have HO265 := n0_; have HB := n1_; clear n0_ n1_; (try clear hb); (try clear hb2); (try clear hk); (try clear hi); (try clear ho0); obtain ⟨Ao4, co4, eo4⟩ := Kd.R_slice HO265.out; subst eo4))
 go_loopg [3, 11] k (fun kq v3 v11 w' => ∃ (x3_1 : List ByteArray) (x11_1 : Int), v11 = .int .i64 x11_1 ∧ Aside0 (near_Tokens.l0 kq x3_1 t263 (t263.length : Int) x11_1 = some r) ∧ Aside0 (kq ≤ k) ∧ Aside0 (Kd.R Kd.string 9 w' w.heap.size (fun k_ => some k_ ≠ ((.slice Ao4 t263.length co4) : Value).ownBlock) v3 x3_1) ∧ Aside0 (Kd.R Kd.string 9 w' w.heap.size (fun k_ => some k_ ≠ (v3 : Value).ownBlock) (.slice Ao4 t263.length co4) t263) ∧ Aside0 (Below w.heap.size w w'))
 case atStart => exact ⟨(([] : List ByteArray)), (0), (by first | rfl | (simp; done) | (simp [*]; done)), H', ⟨Nat.le_refl _⟩, ⟨by first | exact Kd.R_nil _ _ _ _ _ | exact Kd.N_nil _ _ _ _ _ | exact Kd.V_nil _ _ _ _ _ | exact Kd.Q_nil _ _ _ _ _ | exact Kd.S_nil _ _ _ _ _⟩, ⟨by (with_reducible repeat (first | apply r1_ | apply r2_ | apply r3_)); exact Kd.R_mono HO265.out (fun _ hk => (by simp [Value.ownBlock]))⟩, ⟨by repeat (first | (with_reducible first | exact HB.out | apply b3_ | apply b1_ | apply b2_) | exact HB.out)⟩⟩
 case round =>
  clear H'; (try clear p2); obtain ⟨x3_1, x11_1, rfl, HA, HK1, HO_3, HO_9, HB⟩ := hrel
  cases gk with
  | zero => exact absurd HA.out (by simp [near_Tokens.l0])
  | succ k1 =>
   have H := HA.out
   clear HA
   simp only [near_Tokens.l0] at H
   by_cases c5 : x11_1 < (t263.length : Int)
   ·rw [if_pos c5] at H
    have c5b0 := decide_eq_true c5; clear c5
    by_cases c6 : 0 ≤ x11_1
    case neg => exact (nn_ c6 H).elim
    rw [if_pos c6] at H; have c6b0 := decide_eq_true c6; clear c6
    by_cases c7 : x11_1 < (t263.length : Int)
    case neg => exact (nn_ c7 H).elim
    rw [if_pos c7] at H; have c7b0 := decide_eq_true c7; clear c7; have HC8 := am_ H; clear H; have p266 : 0 ≤ (x11_1 : Int) := ode_; have q266 : x11_1 < (t263.length : Int) := ode_
    obtain ⟨ad266, e266, hx266_0⟩ := Kd.at_string (Kd.R_reads' HO_9.out).2.2 x11_1 p266 q266
    cases e266; replace p266 := eq_true p266; replace q266 := eq_true q266
    go_upto_if 17 with (fail)
    go_cut [3] (fun v3 wc => ∃ (kq : Nat) (x3_7 : List ByteArray), Aside0 (near_Tokens.j1 kq x3_7 (rdOf ByteArray.empty t263 x11_1) t263 (t263.length : Int) x11_1 = some r) ∧ Aside0 (kq ≤ k1) ∧ Aside0 (Kd.R Kd.string 9 wc w.heap.size (fun k_ => some k_ ≠ ((.slice (some ad266) t263.length co4) : Value).ownBlock) v3 x3_7) ∧ Aside0 (Kd.R Kd.string 9 wc w.heap.size (fun k_ => some k_ ≠ (v3 : Value).ownBlock) (.slice (some ad266) t263.length co4) t263) ∧ Aside0 (Below w.heap.size w wc))
    case first =>
     have H := HC8.out
     clear HC8
     by_cases c9 : x11_1 > 0
     ·rw [if_pos c9] at H
      have c9b0 : decide (0 < x11_1) = true := decide_eq_true c9
      clear c9
      (first | rw [c9b0] | (simp only [i64_w, i32_w]; rw [c9b0]) | skip)
      by_cases c10 : x3_1.length < 8796093022208
      case neg => exact (nn_ c10 H).elim
      rw [if_pos c10] at H; have LMc10 := am_ c10; clear c10
      obtain ⟨y267, hy267⟩ : ∃ y_ : List ByteArray, y_ = (x3_1 ++ [(⟨#[10]⟩ : ByteArray)]) := ⟨_, rfl⟩
      replace H : (near_Tokens.j1 k1 y267 (rdOf ByteArray.empty t263 x11_1) t263 (t263.length : Int) x11_1) = some r := by first | (rw [hy267]; with_reducible exact H) | (have H2_ := (Option.bind_some _ _).symm.trans H; rw [hy267]; with_reducible exact H2_) | (have H2_ := (Option.bind_some _ _).symm.trans H; with_reducible exact H2_) | with_reducible exact H | (rw [hy267]; exact H) | exact H
      have Ny267 := am_ hy267; clear hy267
      have H' := am_ H
      clear H
      go_wp2_with (first | ((with_reducible refine gate_builtin (b := .append) (xs := #[.tmp 18, .tmp 19]) rfl ?_); at_builtin; refine Kd.R_append Kd.string (w0 := w) w.heap.size rfl (.tmp 18) (.tmp 19) 32 9 (.string ⟨#[]⟩) 16 rfl Tryz.underlying32 info9 rfl (by decide) (by omega) u3 x3_1 (⟨#[10]⟩ : ByteArray) [.string (⟨#[10]⟩ : ByteArray)] (fun k_ => some k_ ≠ (.slice (some ad266) t263.length co4 : Value).ownBlock) (fun _ => False) rfl rfl ?aP (fun _ hk => hk.elim) ?aF ?aO ?aB ?aS ?aL ?_; (case aP => exact rfl); (case aB => exact (by repeat (first | (with_reducible first | exact HB.out | apply b3_ | apply b1_ | apply b2_) | exact HB.out))); (case aF => exact (fun k_ hk => Kd.fresh' (Kd.R_lt (by (with_reducible repeat (first | apply r1_ | apply r2_ | apply r3_)); exact HO_9.out)) k_ hk)); (case aO => exact (by (with_reducible repeat (first | apply r1_ | apply r2_ | apply r3_)); exact HO_3.out)); (case aS => exact (below_size (by repeat (first | (with_reducible first | exact HB.out | apply b3_ | apply b1_ | apply b2_) | exact HB.out)))); (case aL => have := LMc10.out; omega); intro v268 w11 ho hb hg hat; rw [← Ny267.out] at ho; have n0_ := am_ (Kd.R_after (ok := (fun _ => True)) (by (with_reducible repeat (first | apply r1_ | apply r2_ | apply r3_)); exact Kd.R_mono HO_9.out (fun _ hk => ⟨trivial, hk⟩)) hg hat); have n1_ := am_ (hb); have n2_ := am_ (ho); clear HO_9; clear HB; clear HO_3; have HO_9 := n0_; have HB := n1_; have HO269 := n2_; clear n0_ n1_ n2_; clear ho hb hg hat))
      go_meet
      case rel => exact ⟨_, (y267), H', ⟨by have := HK1.out; first | omega | exact Nat.le_refl _⟩, ⟨by (with_reducible repeat (first | apply r1_ | apply r2_ | apply r3_)); exact HO269.out⟩, ⟨by (with_reducible repeat (first | apply r1_ | apply r2_ | apply r3_)); exact Kd.R_mono HO_9.out (fun _ hk => hk.2)⟩, ⟨by repeat (first | (with_reducible first | exact HB.out | apply b3_ | apply b1_ | apply b2_) | exact HB.out)⟩⟩
     ·rw [if_neg c9] at H
      have c9b0 : decide (0 < x11_1) = false := decide_eq_false c9
      clear c9
      (first | rw [c9b0] | (simp only [i64_w, i32_w]; rw [c9b0]) | skip)
      have H' := am_ H
      clear H
      go_wp2
      go_meet
      case rel => exact ⟨_, (x3_1), H', ⟨by have := HK1.out; first | omega | exact Nat.le_refl _⟩, ⟨by (with_reducible repeat (first | apply r1_ | apply r2_ | apply r3_)); exact HO_3.out⟩, ⟨by (with_reducible repeat (first | apply r1_ | apply r2_ | apply r3_)); exact HO_9.out⟩, ⟨by repeat (first | (with_reducible first | exact HB.out | apply b3_ | apply b1_ | apply b2_) | exact HB.out)⟩⟩
    case rest =>
     clear HC8; (try clear c1); (try clear p2); (try clear q2); (try clear hx2); (try clear c5); (try clear c5b0); (try clear c6); (try clear c6b0); (try clear c7); (try clear c7b0); (try clear c9); (try clear c9b0); (try clear c10); (try clear hx266_0); (try clear p2); (try clear p266); (try clear q266); obtain ⟨kq, x3_7, HA, HJ7, HO_3, HO_9, HB⟩ := hcut
     cases kq with
     | zero => exact absurd HA.out (by simp [near_Tokens.j1])
     | succ kj7 =>
      have H := HA.out
      clear HA
      simp only [near_Tokens.j1] at H
      replace H := Option.bind_eq_some_iff.mp H; obtain ⟨t270, A120, H⟩ := H; have A12 := am_ A120; clear A120
      have H' := am_ H
      clear H
      go_wp2_with (first | ((with_reducible refine gate_callee (f := 53) rfl ?_); refine goesL_ (some 22) rfl rfl Tryz.func53 (by kernel_rfl) rfl #[.string (rdOf ByteArray.empty t263 x11_1), .string (⟨#[32]⟩ : ByteArray)] rfl (by (try simp only [m1_, m2_, m3_]); first | done | rfl | (simp only [List.length_drop, List.length_take]; rfl)) ?_; (with_reducible refine (strings_Split.calls (rdOf ByteArray.empty t263 x11_1) (⟨#[32]⟩ : ByteArray) t270 _ ?side1 A12.out).mono ?_); (case side1 => exact Wd.below HGl.out (by repeat (first | (with_reducible first | exact HB.out | apply b3_ | apply b1_ | apply b2_) | exact HB.out))); rintro e w13 ⟨v271, rfl, ho0, hb⟩; refine ⟨_, rfl, ?_⟩; have n0_ := am_ (Kd.R_elder' (by (with_reducible repeat (first | apply r1_ | apply r2_ | apply r3_)); exact HO_3.out) (Kd.R_base ho0) hb); have n1_ := am_ (Kd.R_elder' (by (with_reducible repeat (first | apply r1_ | apply r2_ | apply r3_)); exact HO_9.out) (Kd.R_base ho0) hb); have n2_ := am_ (Kd.R_lower (Kd.R_new' (Kd.R_new' ho0 (Kd.R_lt (by (with_reducible repeat (first | apply r1_ | apply r2_ | apply r3_)); exact HO_3.out))) (Kd.R_lt (by (with_reducible repeat (first | apply r1_ | apply r2_ | apply r3_)); exact HO_9.out))) (below_size (by repeat (first | (with_reducible first | exact HB.out | apply b3_ | apply b1_ | apply b2_) | exact HB.out)))); have n3_ := am_ (below_step (by repeat (first | (with_reducible first | exact HB.out | apply b3_ | apply b1_ | apply b2_) | exact HB.out)) hb); clear HO_3; clear HO_9; clear HB; have HO_3 := n0_; have HO_9 := n1_; have HO272 := n2_; have HB := n3_; clear n0_ n1_ n2_ n3_; (try clear hb); (try clear hb2); (try clear hk); (try clear hi); (try clear ho0); obtain ⟨Ao14, co14, eo14⟩ := Kd.R_slice HO272.out; subst eo14))
      go_loopg [3, 24] kj7 (fun kq v3 v24 w' => ∃ (x3_3 : List ByteArray) (x24_3 : Int), v24 = .int .i64 x24_3 ∧ Aside0 (near_Tokens.l1 kq x3_3 t263 (t263.length : Int) x11_1 t270 (t270.length : Int) x24_3 = some r) ∧ Aside0 (kq ≤ kj7) ∧ Aside0 (Kd.R Kd.string 9 w' w.heap.size (fun k_ => some k_ ≠ ((.slice (some ad266) t263.length co4) : Value).ownBlock ∧ some k_ ≠ ((.slice Ao14 t270.length co14) : Value).ownBlock) v3 x3_3) ∧ Aside0 (Kd.R Kd.string 9 w' w.heap.size (fun k_ => some k_ ≠ (v3 : Value).ownBlock ∧ some k_ ≠ ((.slice Ao14 t270.length co14) : Value).ownBlock) (.slice (some ad266) t263.length co4) t263) ∧ Aside0 (Kd.R Kd.string 9 w' w.heap.size (fun k_ => some k_ ≠ (v3 : Value).ownBlock ∧ some k_ ≠ ((.slice (some ad266) t263.length co4) : Value).ownBlock) (.slice Ao14 t270.length co14) t270) ∧ Aside0 (Below w.heap.size w w'))
      case atStart => exact ⟨(x3_7), (0), (by first | rfl | (simp; done) | (simp [*]; done)), H', ⟨Nat.le_refl _⟩, ⟨by (with_reducible repeat (first | apply r1_ | apply r2_ | apply r3_)); exact HO_3.out⟩, ⟨by (with_reducible repeat (first | apply r1_ | apply r2_ | apply r3_)); exact HO_9.out⟩, ⟨by (with_reducible repeat (first | apply r1_ | apply r2_ | apply r3_)); exact Kd.R_mono HO272.out (fun _ hk => ⟨hk.1.2, hk.2⟩)⟩, ⟨by repeat (first | (with_reducible first | exact HB.out | apply b3_ | apply b1_ | apply b2_) | exact HB.out)⟩⟩
      case round =>
       clear H'; (try clear c1); (try clear p2); (try clear q2); (try clear hx2); (try clear c5); (try clear c5b0); (try clear c6); (try clear c6b0); (try clear c7); (try clear c7b0); (try clear c9); (try clear c9b0); (try clear c10); (try clear hx266_0); (try clear p2); (try clear p266); (try clear q2); (try clear q266); obtain ⟨x3_3, x24_3, rfl, HA, HK3, HO_3, HO_9, HO_22, HB⟩ := hrel
       cases gk with
       | zero => exact absurd HA.out (by simp [near_Tokens.l1])
       | succ k3 =>
        have H := HA.out
        clear HA
        simp only [near_Tokens.l1] at H
        by_cases c15 : x24_3 < (t270.length : Int)
        ·rw [if_pos c15] at H
         have c15b0 := decide_eq_true c15; clear c15
         by_cases c16 : 0 ≤ x24_3
         case neg => exact (nn_ c16 H).elim
         rw [if_pos c16] at H; have c16b0 := decide_eq_true c16; clear c16
         by_cases c17 : x24_3 < (t270.length : Int)
         case neg => exact (nn_ c17 H).elim
         rw [if_pos c17] at H; have c17b0 := decide_eq_true c17; clear c17
         by_cases c18 : (rdOf ByteArray.empty t270 x24_3).toList = ([] : List UInt8)
         ·rw [if_pos c18] at H
          have c18b0 : ((rdOf ByteArray.empty t270 x24_3).toList == ([] : List UInt8)) = true := beq_iff_eq.mpr c18
          have c18b1 : ((rdOf ByteArray.empty t270 x24_3).toList != ([] : List UInt8)) = false := bne_eq_false_iff_eq.mpr c18
          clear c18
          have H' := am_ H
          clear H; have p273 : 0 ≤ (x24_3 : Int) := ode_; have q273 : x24_3 < (t270.length : Int) := ode_
          obtain ⟨ad273, e273, hx273_0⟩ := Kd.at_string (Kd.R_reads' HO_22.out).2.2 x24_3 p273 q273
          cases e273; replace p273 := eq_true p273; replace q273 := eq_true q273
          go_wp2
          go_roundg k3
          case measure => have := HK1.out; have := HJ7.out; have := HK3.out; omega
          case rel => exact ⟨(x3_3), (wrap64 (x24_3 + 1)), (by first | rfl | (simp; done) | (simp [*]; done)), H', ⟨by have := HK1.out; have := HJ7.out; have := HK3.out; omega⟩, ⟨by (with_reducible repeat (first | apply r1_ | apply r2_ | apply r3_)); exact HO_3.out⟩, ⟨by (with_reducible repeat (first | apply r1_ | apply r2_ | apply r3_)); exact HO_9.out⟩, ⟨by (with_reducible repeat (first | apply r1_ | apply r2_ | apply r3_)); exact HO_22.out⟩, ⟨by repeat (first | (with_reducible first | exact HB.out | apply b3_ | apply b1_ | apply b2_) | exact HB.out)⟩⟩
         ·rw [if_neg c18] at H
          have c18b0 : ((rdOf ByteArray.empty t270 x24_3).toList == ([] : List UInt8)) = false := beq_eq_false_iff_ne.mpr c18
          have c18b1 : ((rdOf ByteArray.empty t270 x24_3).toList != ([] : List UInt8)) = true := bne_iff_ne.mpr c18
          by_cases c19 : x3_3.length < 8796093022208
          case neg => exact (nn_ c19 H).elim
          rw [if_pos c19] at H; have LMc19 := am_ c19; clear c19
          obtain ⟨y274, hy274⟩ : ∃ y_ : List ByteArray, y_ = (x3_3 ++ [rdOf ByteArray.empty t270 x24_3]) := ⟨_, rfl⟩
          replace H : (near_Tokens.l1 k3 y274 t263 (t263.length : Int) x11_1 t270 (t270.length : Int) (wrap64 (x24_3 + 1))) = some r := by first | (rw [hy274]; with_reducible exact H) | (have H2_ := (Option.bind_some _ _).symm.trans H; rw [hy274]; with_reducible exact H2_) | (have H2_ := (Option.bind_some _ _).symm.trans H; with_reducible exact H2_) | with_reducible exact H | (rw [hy274]; exact H) | exact H
          have Ny274 := am_ hy274; clear hy274
          have H' := am_ H
          clear H; have p273 : 0 ≤ (x24_3 : Int) := ode_; have q273 : x24_3 < (t270.length : Int) := ode_
          obtain ⟨ad273, e273, hx273_0⟩ := Kd.at_string (Kd.R_reads' HO_22.out).2.2 x24_3 p273 q273
          cases e273; replace p273 := eq_true p273; replace q273 := eq_true q273
          go_wp2_with (first | ((with_reducible refine gate_builtin (b := .append) (xs := #[.tmp 30, .tmp 32]) rfl ?_); at_builtin; refine Kd.R_append Kd.string (w0 := w) w.heap.size rfl (.tmp 30) (.tmp 32) 32 9 (.string ⟨#[]⟩) 16 rfl Tryz.underlying32 info9 rfl (by decide) (by omega) u3 x3_3 (rdOf ByteArray.empty t270 x24_3) [.string (rdOf ByteArray.empty t270 x24_3)] (fun k_ => some k_ ≠ (.slice (some ad266) t263.length co4 : Value).ownBlock ∧ some k_ ≠ (.slice (some ad273) t270.length co14 : Value).ownBlock) (fun _ => False) rfl rfl ?aP (fun _ hk => hk.elim) ?aF ?aO ?aB ?aS ?aL ?_; (case aP => exact rfl); (case aB => exact (by repeat (first | (with_reducible first | exact HB.out | apply b3_ | apply b1_ | apply b2_) | exact HB.out))); (case aF => exact (fun k_ hk => ⟨Kd.fresh' (Kd.R_lt (by (with_reducible repeat (first | apply r1_ | apply r2_ | apply r3_)); exact HO_9.out)) k_ hk, Kd.fresh' (Kd.R_lt (by (with_reducible repeat (first | apply r1_ | apply r2_ | apply r3_)); exact HO_22.out)) k_ hk⟩)); (case aO => exact (by (with_reducible repeat (first | apply r1_ | apply r2_ | apply r3_)); exact HO_3.out)); (case aS => exact (below_size (by repeat (first | (with_reducible first | exact HB.out | apply b3_ | apply b1_ | apply b2_) | exact HB.out)))); (case aL => have := LMc19.out; omega); intro v275 w20 ho hb hg hat; rw [← Ny274.out] at ho; have n0_ := am_ (Kd.R_after (ok := (fun k_ => some k_ ≠ (.slice (some ad273) t270.length co14 : Value).ownBlock)) (by (with_reducible repeat (first | apply r1_ | apply r2_ | apply r3_)); exact Kd.R_mono HO_9.out (fun _ hk => ⟨hk.2, hk.1⟩)) hg hat); have n1_ := am_ (Kd.R_after (ok := (fun k_ => some k_ ≠ (.slice (some ad266) t263.length co4 : Value).ownBlock)) (by (with_reducible repeat (first | apply r1_ | apply r2_ | apply r3_)); exact Kd.R_mono HO_22.out (fun _ hk => ⟨hk.2, hk.1⟩)) hg hat); have n2_ := am_ (hb); have n3_ := am_ (ho); clear HO_9; clear HO_22; clear HB; clear HO_3; have HO_9 := n0_; have HO_22 := n1_; have HB := n2_; have HO276 := n3_; clear n0_ n1_ n2_ n3_; clear ho hb hg hat))
          go_roundg k3
          case measure => have := HK1.out; have := HJ7.out; have := HK3.out; omega
          case rel => exact ⟨(y274), (wrap64 (x24_3 + 1)), (by first | rfl | (simp; done) | (simp [*]; done)), H', ⟨by have := HK1.out; have := HJ7.out; have := HK3.out; omega⟩, ⟨by (with_reducible repeat (first | apply r1_ | apply r2_ | apply r3_)); exact HO276.out⟩, ⟨by (with_reducible repeat (first | apply r1_ | apply r2_ | apply r3_)); exact Kd.R_mono HO_9.out (fun _ hk => ⟨hk.2, hk.1⟩)⟩, ⟨by (with_reducible repeat (first | apply r1_ | apply r2_ | apply r3_)); exact Kd.R_mono HO_22.out (fun _ hk => ⟨hk.2, hk.1⟩)⟩, ⟨by repeat (first | (with_reducible first | exact HB.out | apply b3_ | apply b1_ | apply b2_) | exact HB.out)⟩⟩
        ·rw [if_neg c15] at H
         have c15b0 : decide (x24_3 < (t270.length : Int)) = false := decide_eq_false c15
         clear c15
         have H' := am_ H
         clear H
         go_wp2
         go_roundg k3
         case measure => have := HK1.out; have := HJ7.out; have := HK3.out; omega
         case rel => exact ⟨(x3_3), (wrap64 (x11_1 + 1)), (by first | rfl | (simp; done) | (simp [*]; done)), H', ⟨by have := HK1.out; have := HJ7.out; have := HK3.out; omega⟩, ⟨by (with_reducible repeat (first | apply r1_ | apply r2_ | apply r3_)); exact Kd.R_mono HO_3.out (fun _ hk => hk.1)⟩, ⟨by (with_reducible repeat (first | apply r1_ | apply r2_ | apply r3_)); exact Kd.R_mono HO_9.out (fun _ hk => hk.1)⟩, ⟨by repeat (first | (with_reducible first | exact HB.out | apply b3_ | apply b1_ | apply b2_) | exact HB.out)⟩⟩
   ·rw [if_neg c5] at H
    have c5b0 : decide (x11_1 < (t263.length : Int)) = false := decide_eq_false c5
    clear c5
    obtain rfl := Option.some.inj H
    go_wp2
    go_ret
    exact ⟨_, by first | rfl | (simp [errW_none, errW_some] <;> rfl) | (simp [*, errW_none, errW_some] <;> rfl), by (with_reducible repeat (first | apply r1_ | apply r2_ | apply r3_)); exact Kd.R_mono HO_3.out (fun _ hk => trivial), by repeat (first | (with_reducible first | exact HB.out | apply b3_ | apply b1_ | apply b2_) | exact HB.out)⟩
def near_tokens.f (k : Nat) (a0 : ByteArray) : Option (List ByteArray × Int) := (near_large.f a0).bind fun t277 => (if t277 = 0 then ((near_Tokens.f k a0).bind fun t278 => ((base_When.f (decide ((t278.length : Int) > 2000)) 2).bind fun t281 => (some (t278, t281)))) else (some (([] : List ByteArray), t277)))
theorem near_tokens.mono : ∀ a0 k, LeO (near_tokens.f k a0) (near_tokens.f (k + 1) a0) := by
  intro a0 k
  unfold near_tokens.f
  repeat' first
      | (with_reducible exact near_Tokens.mono _ _)
      | (with_reducible exact LeO.refl _)
      | (with_reducible exact LeO.none _)
      | (with_reducible refine LeO.ite ?_ ?_)
      | (with_reducible refine LeO.bind ?_ (fun _ => ?_))
      | exact LeO.none _
      | refine LeO.ite ?_ ?_
      | refine LeO.bind ?_ (fun _ => ?_)
set_option maxHeartbeats 8000000 in
set_option maxRecDepth 100000 in
theorem near_tokens.calls (k : Nat) (a0 : ByteArray) (r1 : List ByteArray) (r2 : Int) (w : World) (hGl : Wd w) (h : near_tokens.f k a0 = some (r1, r2)) :
  Calls Tryz.prog 41 #[.string a0] w fun e w' => ∃ v0_ : Value, e = .returned (.tuple #[v0_, .int .i64 r2]) ∧ Kd.R Kd.string 9 w' w.heap.size (fun _ => True) v0_ r1 ∧ Below w.heap.size w w' := by
 have HGl := am_ hGl; clear hGl
 have HB := am_ (Below.refl w.heap.size w)
 have H : ((near_large.f a0).bind fun t277 => (if t277 = 0 then ((near_Tokens.f k a0).bind fun t278 => ((base_When.f (decide ((t278.length : Int) > 2000)) 2).bind fun t281 => (some (t278, t281)))) else (some (([] : List ByteArray), t277)))) = some (r1, r2) := h
 clear h; replace H := Option.bind_eq_some_iff.mp H; obtain ⟨t277, A20, H⟩ := H; have A2 := am_ A20; clear A20
 by_cases c3 : t277 = 0
 ·rw [if_pos c3] at H
  have c3b0 : (t277 == 0) = true := beq_iff_eq.mpr c3
  have c3b1 : (t277 != 0) = false := bne_eq_false_iff_eq.mpr c3
  clear c3; replace H := Option.bind_eq_some_iff.mp H; obtain ⟨t278, A40, H⟩ := H; have A4 := am_ A40; clear A40; replace H := Option.bind_eq_some_iff.mp H; obtain ⟨t281, A50, H⟩ := H
  replace H : (some (t278, t281)) = some (r1, r2) := H
  have A5 := am_ A50; clear A50
  simp only [Option.some.injEq, Prod.mk.injEq] at H
  obtain ⟨rfl, rfl⟩ := H
  go_enter Tryz.func41, Tryz.ntmps41
  go_wp2_with (first | ((with_reducible refine gate_callee (f := 26) rfl ?_); refine goesL_ (some 7) rfl rfl Tryz.func26 (by kernel_rfl) rfl #[.string a0] rfl (by (try simp only [m1_, m2_, m3_]); first | done | rfl | (simp only [List.length_drop, List.length_take]; rfl)) ?_; (with_reducible refine (near_large.calls a0 t277 _ A2.out).mono ?_); rintro e w' ⟨rfl, ⟨nd, rfl⟩⟩; refine ⟨_, rfl, ?_⟩) | ((with_reducible refine gate_callee (f := 59) rfl ?_); refine goesL_ (some 12) rfl rfl Tryz.func59 (by kernel_rfl) rfl #[.string a0] rfl (by (try simp only [m1_, m2_, m3_]); first | done | rfl | (simp only [List.length_drop, List.length_take]; rfl)) ?_; (with_reducible refine (near_Tokens.calls k a0 t278 _ ?side1 A4.out).mono ?_); (case side1 => exact Wd.below HGl.out (by repeat (first | (with_reducible first | exact HB.out | apply b3_ | apply b1_ | apply b2_) | exact HB.out))); rintro e w6 ⟨v279, rfl, ho0, hb⟩; refine ⟨_, rfl, ?_⟩; have n0_ := am_ (Kd.R_lower ho0 (below_size (by repeat (first | (with_reducible first | exact HB.out | apply b3_ | apply b1_ | apply b2_) | exact HB.out)))); have n1_ := am_ (below_step (by repeat (first | (with_reducible first | exact HB.out | apply b3_ | apply b1_ | apply b2_) | exact HB.out)) hb); clear HB; have HO280 := n0_; have HB := n1_; clear n0_ n1_; (try clear hb); (try clear hb2); (try clear hk); (try clear hi); (try clear ho0); obtain ⟨Ao7, co7, eo7⟩ := Kd.R_slice HO280.out; subst eo7) | ((with_reducible refine gate_callee (f := 24) rfl ?_); refine goesL_ (some 17) rfl rfl Tryz.func24 (by kernel_rfl) rfl #[.bool (decide ((t278.length : Int) > 2000)), .int .i64 2] rfl (by (try simp only [m1_, m2_, m3_]); first | done | rfl | (simp only [List.length_drop, List.length_take]; rfl)) ?_; (with_reducible refine (base_When.calls (decide ((t278.length : Int) > 2000)) 2 t281 _ A5.out).mono ?_); rintro e w' ⟨rfl, ⟨nd, rfl⟩⟩; refine ⟨_, rfl, ?_⟩))
  go_ret2
  exact ⟨_, by first | rfl | (simp [errW_none, errW_some] <;> rfl) | (simp [*, errW_none, errW_some] <;> rfl), by (with_reducible repeat (first | apply r1_ | apply r2_ | apply r3_)); exact HO280.out, by repeat (first | (with_reducible first | exact HB.out | apply b3_ | apply b1_ | apply b2_) | exact HB.out)⟩
 ·rw [if_neg c3] at H
  have c3b0 : (t277 == 0) = false := beq_eq_false_iff_ne.mpr c3
  have c3b1 : (t277 != 0) = true := bne_iff_ne.mpr c3
  simp only [Option.some.injEq, Prod.mk.injEq] at H
  obtain ⟨rfl, rfl⟩ := H
  go_enter Tryz.func41, Tryz.ntmps41
  go_wp2_with (first | ((with_reducible refine gate_callee (f := 26) rfl ?_); refine goesL_ (some 7) rfl rfl Tryz.func26 (by kernel_rfl) rfl #[.string a0] rfl (by (try simp only [m1_, m2_, m3_]); first | done | rfl | (simp only [List.length_drop, List.length_take]; rfl)) ?_; (with_reducible refine (near_large.calls a0 t277 _ A2.out).mono ?_); rintro e w' ⟨rfl, ⟨nd, rfl⟩⟩; refine ⟨_, rfl, ?_⟩))
  go_ret2
  exact ⟨_, by first | rfl | (simp [errW_none, errW_some] <;> rfl) | (simp [*, errW_none, errW_some] <;> rfl), by first | exact Kd.R_nil _ _ _ _ _ | exact Kd.N_nil _ _ _ _ _ | exact Kd.V_nil _ _ _ _ _ | exact Kd.Q_nil _ _ _ _ _ | exact Kd.S_nil _ _ _ _ _, by repeat (first | (with_reducible first | exact HB.out | apply b3_ | apply b1_ | apply b2_) | exact HB.out)⟩
def base_In.f (a0 : Int) (a1 : Int) (a2 : Int) : Option (Bool) := if a0 ≥ a1 then (some (decide (a0 ≤ a2))) else (some false)
set_option maxHeartbeats 8000000 in
set_option maxRecDepth 100000 in
theorem base_In.calls (a0 : Int) (a1 : Int) (a2 : Int) (r : Bool) (w : World) (h : base_In.f a0 a1 a2 = some r) :
    Calls Tryz.prog 44 #[.int .i64 a0, .int .i64 a1, .int .i64 a2] w fun e w' => e = .returned (.bool r) ∧ Drawn0 w w' := by
  have H : (if a0 ≥ a1 then (some (decide (a0 ≤ a2))) else (some false)) = some r := h
  clear h
  by_cases c4 : a0 ≥ a1
  · rw [if_pos c4] at H
    have c4b0 : decide (a1 ≤ a0) = true := decide_eq_true c4
    clear c4
    obtain rfl := Option.some.inj H
    go_enter Tryz.func44, Tryz.ntmps44
    go_wp2
    go_ret
    exact ⟨by first | rfl | (simp; done) | (simp [*]; done), by repeat (first | exact Drawn0.refl _ | apply Drawn0.step)⟩
  · rw [if_neg c4] at H
    have c4b0 : decide (a1 ≤ a0) = false := decide_eq_false c4
    clear c4
    obtain rfl := Option.some.inj H
    go_enter Tryz.func44, Tryz.ntmps44
    go_wp2
    go_ret
    exact ⟨by first | rfl | (simp; done) | (simp [*]; done), by repeat (first | exact Drawn0.refl _ | apply Drawn0.step)⟩
def strings_ContainsAny.f (a0 : ByteArray) (a1 : ByteArray) : Option (Bool) := if a0.size < 4294967281 ∧ a1.data.toList = [32, 10] then (some (Lib.containsAny a0.data.toList [32, 10])) else (none)
set_option maxHeartbeats 8000000 in
set_option maxRecDepth 100000 in
theorem strings_ContainsAny.calls (a0 : ByteArray) (a1 : ByteArray) (r : Bool) (w : World) (h : strings_ContainsAny.f a0 a1 = some r) :
    Calls Tryz.prog 60 #[.string a0, .string a1] w fun e w' => e = .returned (.bool r) ∧ Below w.heap.size w w' := by
  unfold strings_ContainsAny.f at h
  by_cases hs : a0.size < 4294967281 ∧ a1.data.toList = [32, 10]
  · rw [if_pos hs] at h
    obtain rfl := Option.some.inj h
    have hs1 := hs.1
    obtain rfl : a1 = (⟨#[32, 10]⟩ : ByteArray) := by
      have h2 := hs.2
      obtain ⟨⟨l⟩⟩ := a1
      cases h2
      rfl
    refine (Tryz.ContainsAny2 a0 w hs1).mono ?_
    rintro e w' ⟨rfl, hb⟩
    exact ⟨rfl, hb⟩
  · rw [if_neg hs] at h
    exact absurd h (by simp)
def near_isToken.f (a0 : ByteArray) : Option (Bool) := if a0.toList = ([10] : List UInt8) then (some true) else (if a0.toList = ([] : List UInt8) then (some false) else ((strings_ContainsAny.f a0 (⟨#[32, 10]⟩ : ByteArray)).bind fun t282 => (some (!t282))))
set_option maxHeartbeats 8000000 in
set_option maxRecDepth 100000 in
theorem near_isToken.calls (a0 : ByteArray) (r : Bool) (w : World) (h : near_isToken.f a0 = some r) :
  Calls Tryz.prog 43 #[.string a0] w fun e w' => e = .returned (.bool r) ∧ Below w.heap.size w w' := by
 have HB := am_ (Below.refl w.heap.size w)
 have H : (if a0.toList = ([10] : List UInt8) then (some true) else (if a0.toList = ([] : List UInt8) then (some false) else ((strings_ContainsAny.f a0 (⟨#[32, 10]⟩ : ByteArray)).bind fun t282 => (some (!t282))))) = some r := h
 clear h
 by_cases c2 : a0.toList = ([10] : List UInt8)
 ·rw [if_pos c2] at H
  have c2b0 : (a0.toList == ([10] : List UInt8)) = true := beq_iff_eq.mpr c2
  have c2b1 : (a0.toList != ([10] : List UInt8)) = false := bne_eq_false_iff_eq.mpr c2
  clear c2
  obtain rfl := Option.some.inj H
  go_enter Tryz.func43, Tryz.ntmps43
  go_wp2
  go_ret
  exact ⟨by first | rfl | (simp [errW_none, errW_some] <;> rfl) | (simp [*, errW_none, errW_some] <;> rfl), by repeat (first | (with_reducible first | exact HB.out | apply b3_ | apply b1_ | apply b2_) | exact HB.out)⟩
 ·rw [if_neg c2] at H
  have c2b0 : (a0.toList == ([10] : List UInt8)) = false := beq_eq_false_iff_ne.mpr c2
  have c2b1 : (a0.toList != ([10] : List UInt8)) = true := bne_iff_ne.mpr c2
  by_cases c3 : a0.toList = ([] : List UInt8)
  ·rw [if_pos c3] at H
   have c3b0 : (a0.toList == ([] : List UInt8)) = true := beq_iff_eq.mpr c3
   have c3b1 : (a0.toList != ([] : List UInt8)) = false := bne_eq_false_iff_eq.mpr c3
   clear c3
   obtain rfl := Option.some.inj H
   go_enter Tryz.func43, Tryz.ntmps43
   go_wp2
   go_ret
   exact ⟨by first | rfl | (simp [errW_none, errW_some] <;> rfl) | (simp [*, errW_none, errW_some] <;> rfl), by repeat (first | (with_reducible first | exact HB.out | apply b3_ | apply b1_ | apply b2_) | exact HB.out)⟩
  ·rw [if_neg c3] at H
   have c3b0 : (a0.toList == ([] : List UInt8)) = false := beq_eq_false_iff_ne.mpr c3
   have c3b1 : (a0.toList != ([] : List UInt8)) = true := bne_iff_ne.mpr c3
   replace H := Option.bind_eq_some_iff.mp H; obtain ⟨t282, A40, H⟩ := H
   replace H : (some (!t282)) = some r := H
   have A4 := am_ A40; clear A40
   obtain rfl := Option.some.inj H
   go_enter Tryz.func43, Tryz.ntmps43
   go_wp2_with (first | (go_at_call 60; (with_reducible refine (strings_ContainsAny.calls a0 (⟨#[32, 10]⟩ : ByteArray) t282 _ A4.out).mono ?_); rintro e w5 ⟨rfl, hb⟩; have n0_ := am_ (below_step (by repeat (first | (with_reducible first | exact HB.out | apply b3_ | apply b1_ | apply b2_) | exact HB.out)) hb); clear HB; have HB := n0_; clear n0_; (try clear hb); (try clear hb2); (try clear hk); (try clear hi)))
   go_ret
   exact ⟨by first | rfl | (simp [errW_none, errW_some] <;> rfl) | (simp [*, errW_none, errW_some] <;> rfl), by repeat (first | (with_reducible first | exact HB.out | apply b3_ | apply b1_ | apply b2_) | exact HB.out)⟩
def near_patched_1.f (a0 : ByteArray) : Option (Bool) := (near_isToken.f a0).bind fun t283 => (some (!t283))
set_option maxHeartbeats 8000000 in
set_option maxRecDepth 100000 in
theorem near_patched_1.calls (a0 : ByteArray) (r : Bool) (w : World) (h : near_patched_1.f a0 = some r) :
    Calls Tryz.prog 42 #[.string a0] w fun e w' => e = .returned (.bool r) ∧ Below w.heap.size w w' := by
  have HB := am_ (Below.refl w.heap.size w)
  have H : ((near_isToken.f a0).bind fun t283 => (some (!t283))) = some r := h
  clear h; replace H := Option.bind_eq_some_iff.mp H; obtain ⟨t283, A20, H⟩ := H
  replace H : (some (!t283)) = some r := H
  have A2 := am_ A20; clear A20
  obtain rfl := Option.some.inj H
  go_enter Tryz.func42, Tryz.ntmps42
  go_wp2_with (first | ((with_reducible refine gate_callee (f := 43) rfl ?_); refine goesL_ (some 4) rfl rfl Tryz.func43 (by kernel_rfl) rfl #[.string a0] rfl (by (try simp only [m1_, m2_, m3_]); first | done | rfl | (simp only [List.length_drop, List.length_take]; rfl)) ?_; (with_reducible refine (near_isToken.calls a0 t283 _ A2.out).mono ?_); rintro e w3 ⟨rfl, hb⟩; refine ⟨_, rfl, ?_⟩; have n0_ := am_ (below_step (by repeat (first | (with_reducible first | exact HB.out | apply b3_ | apply b1_ | apply b2_) | exact HB.out)) hb); clear HB; have HB := n0_; clear n0_; (try clear hb); (try clear hb2); (try clear hk); (try clear hi)))
  go_ret
  exact ⟨by first | rfl | (simp [errW_none, errW_some] <;> rfl) | (simp [*, errW_none, errW_some] <;> rfl), by repeat (first | (with_reducible first | exact HB.out | apply b3_ | apply b1_ | apply b2_) | exact HB.out)⟩
theorem slices_IndexFunc_string_string.t1 (x : ByteArray) (hx : x.size < 4294967281) : ∃ b, near_patched_1.f x = some b := by
  unfold near_patched_1.f near_isToken.f strings_ContainsAny.f
  by_cases h1 : x.toList = ([10] : List UInt8)
  · rw [if_pos h1]; exact ⟨_, rfl⟩
  · rw [if_neg h1]
    by_cases h2 : x.toList = ([] : List UInt8)
    · rw [if_pos h2]; exact ⟨_, rfl⟩
    · rw [if_neg h2, if_pos ⟨hx, rfl⟩]; exact ⟨_, rfl⟩
def slices_IndexFunc_string_string.f (l0 : List ByteArray) (a1 : Nat) : Option (Int) := if a1 = 42 ∧ (l0.all fun x => decide (x.size < 4294967281)) = true then (some (Lib.idxBy (fun _ y => (near_patched_1.f y).getD false) l0 default)) else (none)
set_option maxHeartbeats 8000000 in
set_option maxRecDepth 100000 in
theorem slices_IndexFunc_string_string.calls (A0 : Option Addr) (c0 : Nat) (l0 : List ByteArray) (a1 : Nat) (r : Int) (w : World) (hr0 : Kd.C Kd.string w A0 l0.length l0) (hc0 : l0.length ≤ c0) (h : slices_IndexFunc_string_string.f l0 a1 = some r) :
    Calls Tryz.prog 61 #[.slice A0 l0.length c0, .func (.func a1) #[] #[]] w fun e w' => e = .returned (.int .i64 r) ∧ Below w.heap.size w w' := by
  unfold slices_IndexFunc_string_string.f at h
  by_cases hs : a1 = 42 ∧ (l0.all fun x => decide (x.size < 4294967281)) = true
  · rw [if_pos hs] at h
    obtain rfl := Option.some.inj h
    obtain ⟨rfl, hall⟩ := hs
    have hm := Kd.C_max hr0
    have hsz : Aside0 (∀ x ∈ l0, x.size < 4294967281) := ⟨fun x hx => of_decide_eq_true (List.all_eq_true.1 hall x hx)⟩
    have hcall : Aside0 (∀ (x : ByteArray) (W : World), x ∈ l0 → Calls Tryz.prog 42 #[.string x] W fun e w' => e = .returned (.bool ((near_patched_1.f x).getD false)) ∧ Below W.heap.size W w') := ⟨fun x W hx => by
      obtain ⟨b, hb⟩ := slices_IndexFunc_string_string.t1 x (hsz.out x hx)
      rw [hb]
      exact near_patched_1.calls x b W hb⟩
    generalize hp : (fun y => (near_patched_1.f y).getD false) = p
    have hp2 : ∀ y, (near_patched_1.f y).getD false = p y := fun y => congrFun hp y
    simp only [hp2] at hcall ⊢
    have HR : Aside0 (Kd.C Kd.string w A0 l0.length l0) := ⟨hr0⟩
    have HB0 := am_ (Below.refl w.heap.size w)
    have eg : ∀ args w, (callFunc 42 args).run Tryz.prog w = .ok (.enter 42 args) w := enters_of Tryz.func42 (by kernel_rfl) rfl
    clear h hp hp2 hall hsz hr0
    go_enter Tryz.func61, Tryz.ntmps61
    go_wp2
    go_loopg [5, 8] l0.length (fun gg _ s8 wr => ∃ (W : World) (kk : Nat), W = wr ∧ kk ≤ l0.length ∧ l0.length - kk ≤ gg ∧ s8 = .int .i64 kk ∧ Aside0 (Below w.heap.size w W) ∧ Aside0 (∀ j, j < kk → p l0[j]! = false))
    case atStart => exact ⟨_, 0, rfl, Nat.zero_le _, by omega, rfl, HB0, ⟨fun j hj => absurd hj (Nat.not_lt_zero _)⟩⟩
    case round =>
      obtain ⟨W, kk, rfl, hkk, hg, rfl, HB, HN⟩ := hrel; clear HB0
      by_cases hlt : kk < l0.length
      · have hltz : (kk : Int) < (l0.length : Int) := by omega
        obtain ⟨g, rfl⟩ : ∃ g, gk = g + 1 := ⟨gk - 1, by omega⟩
        obtain ⟨b, o, rfl, hbk, hcell⟩ := C_cells HR.out (Nat.lt_of_le_of_lt (Nat.zero_le _) hlt)
        have hx : W.cell? ⟨b, o + kk, none⟩ = some (.string l0[kk]!) := (HB.out.cell hbk).trans (by rw [hcell kk _ (List.getElem?_eq_getElem hlt), getElem!_pos l0 kk hlt])
        have hmem : l0[kk]! ∈ l0 := by rw [getElem!_pos l0 kk hlt]; exact List.getElem_mem hlt
        clear hcell
        generalize hy : l0[kk]! = y at hx hmem
        have HY := am_ hy
        have HC := am_ (hcall.out y W hmem)
        clear hy hmem
        cases hq : p y with
        | true =>
          rw [hq] at HC
          go_wp2_with (go_at_fn 42; refine (HC.out).mono ?_; rintro e w' ⟨rfl, hb⟩)
          go_ret
          refine ⟨?_, below_step HB.out hb⟩
          have e := Lib.idxBy_hit (fun _ y => p y) l0 l0.length kk default hlt (Nat.le_refl _) (by show p l0[kk]! = true; rw [HY.out]; exact hq) HN.out
          rw [List.take_length] at e
          rw [e]
          rfl
        | false =>
          rw [hq] at HC
          go_wp2_with (go_at_fn 42; refine (HC.out).mono ?_; rintro e w' ⟨rfl, hb⟩)
          go_roundg g
          case measure => omega
          case rel =>
            refine ⟨_, kk + 1, rfl, by omega, by omega, by go_num, ⟨below_step HB.out hb⟩, ⟨fun j hj => ?_⟩⟩
            by_cases e : j = kk
            · subst e
              rw [HY.out]; exact hq
            · exact HN.out j (by omega)
      · have hltz : ¬ (kk : Int) < (l0.length : Int) := by omega
        obtain rfl : kk = l0.length := by omega
        go_wp2
        go_ret
        refine ⟨?_, HB.out⟩
        have e := Lib.idxBy_miss (fun _ y => p y) l0 l0.length default HN.out
        rw [List.take_length] at e
        rw [e]
        rfl
  · rw [if_neg hs] at h
    exact absurd h (by simp)
def slices_ContainsFunc_string_string.f (l0 : List ByteArray) (a1 : Nat) : Option (Bool) := (slices_IndexFunc_string_string.f l0 a1).bind fun t284 => (some (decide (t284 ≥ 0)))
set_option maxHeartbeats 8000000 in
set_option maxRecDepth 100000 in
theorem slices_ContainsFunc_string_string.calls (A0 : Option Addr) (c0 : Nat) (l0 : List ByteArray) (a1 : Nat) (r : Bool) (w : World) (hr0 : Kd.C Kd.string w A0 l0.length l0) (hc0 : l0.length ≤ c0) (h : slices_ContainsFunc_string_string.f l0 a1 = some r) :
    Calls Tryz.prog 45 #[.slice A0 l0.length c0, .func (.func a1) #[] #[]] w fun e w' => e = .returned (.bool r) ∧ Below w.heap.size w w' := by
  have HR0 := am_ hr0; have HC0 := am_ hc0; clear hr0 hc0
  have HB := am_ (Below.refl w.heap.size w)
  have H : ((slices_IndexFunc_string_string.f l0 a1).bind fun t284 => (some (decide (t284 ≥ 0)))) = some r := h
  clear h; replace H := Option.bind_eq_some_iff.mp H; obtain ⟨t284, A30, H⟩ := H
  replace H : (some (decide (t284 ≥ 0))) = some r := H
  have A3 := am_ A30; clear A30
  obtain rfl := Option.some.inj H
  go_enter Tryz.func45, Tryz.ntmps45
  go_wp2_with (first | ((with_reducible refine gate_callee (f := 61) rfl ?_); refine goesL_ (some 7) rfl rfl Tryz.func61 (by kernel_rfl) rfl #[.slice A0 l0.length c0, .func (.func a1) #[] #[]] rfl (by (try simp only [m1_, m2_, m3_]); first | done | rfl | (simp only [List.length_drop, List.length_take]; rfl)) ?_; (with_reducible refine (slices_IndexFunc_string_string.calls _ _ l0 a1 t284 _ ?side1 ?side2 A3.out).mono ?_); (case side1 => repeat (first | exact HR0.out | (with_reducible refine Kd.C_alloc ?_ _) | (with_reducible refine Kd.C_drewN ?_ _) | (with_reducible refine Kd.C_drew ?_))); (case side2 => exact HC0.out); rintro e w4 ⟨rfl, hb⟩; refine ⟨_, rfl, ?_⟩; have n0_ := am_ (below_step (by repeat (first | (with_reducible first | exact HB.out | apply b3_ | apply b1_ | apply b2_) | exact HB.out)) hb); clear HB; have HB := n0_; clear n0_; (try clear hb); (try clear hb2); (try clear hk); (try clear hi)))
  go_ret
  exact ⟨by first | rfl | (simp [errW_none, errW_some] <;> rfl) | (simp [*, errW_none, errW_some] <;> rfl), by repeat (first | (with_reducible first | exact HB.out | apply b3_ | apply b1_ | apply b2_) | exact HB.out)⟩
def near_Join.f (l0 : List ByteArray) : Option (ByteArray) := if l0.length ≤ 140737488355328 ∧ (jt l0 l0.length).length ≤ 140737488355328 then (some (⟨(jt l0 l0.length).toArray⟩ : ByteArray)) else (none)
set_option maxHeartbeats 8000000 in
set_option maxRecDepth 100000 in
theorem near_Join.calls (A0 : Option Addr) (c0 : Nat) (l0 : List ByteArray) (r : ByteArray) (w : World) (hr0 : Kd.C Kd.string w A0 l0.length l0) (hc0 : l0.length ≤ c0) (h : near_Join.f l0 = some r) :
    Calls Tryz.prog 46 #[.slice A0 l0.length c0] w fun e w' => e = .returned (.string r) ∧ Below w.heap.size w w' := by
  unfold near_Join.f at h
  by_cases hs : l0.length ≤ 140737488355328 ∧ (jt l0 l0.length).length ≤ 140737488355328
  · rw [if_pos hs] at h
    obtain rfl := Option.some.inj h
    clear h
    have h0 : Lib.IsBuilderF 84 5 w.heap.size w.heap.size (Lib.byteCells (jt l0 0)) (w.alloc (.cells #[.pointer none, .slice none 0 0] 84)) := Lib.IsBuilderF.of (Lib.fresh_isBuilder 84 5 w)
    have b0 : Below w.heap.size w (w.alloc (.cells #[.pointer none, .slice none 0 0] 84)) := (Below.refl _ w).alloc (Nat.le_refl _) _
    have H0 : Hid (Lib.IsBuilderF 84 5 w.heap.size w.heap.size (Lib.byteCells (jt l0 0)) (w.alloc (.cells #[.pointer none, .slice none 0 0] 84)) ∧ Below w.heap.size w (w.alloc (.cells #[.pointer none, .slice none 0 0] 84))) := ⟨h0, b0⟩
    clear h0 b0
    have hs1 := hs.1
    have HS : Hid ((jt l0 l0.length).length ≤ 140737488355328) := hs.2
    clear hs
    have HR : Hid (Kd.C Kd.string w A0 l0.length l0) := hr0
    clear hr0
    go_enter Tryz.func46, Tryz.ntmps46
    go_wp2
    go_loopw [8] (fun i wr => ∃ k : Nat, k ≤ l0.length ∧ i = .int .i64 k ∧ Hid (Lib.IsBuilderF 84 5 w.heap.size w.heap.size (Lib.byteCells (jt l0 k)) wr ∧ Below w.heap.size w wr)) (fun i _ => l0.length - (intOf i).toNat)
    case atStart => exact ⟨0, Nat.zero_le _, rfl, H0⟩
    case round =>
        obtain ⟨k, hk, rfl, HL⟩ := hrel; clear H0
        by_cases hlt : k < l0.length
        · obtain ⟨b, o, rfl, hbk, hcell⟩ := C_cells HR.out (Nat.lt_of_le_of_lt (Nat.zero_le _) hlt)
          obtain ⟨x, ex⟩ : ∃ x, l0.getD k ByteArray.empty = x := ⟨_, rfl⟩
          obtain ⟨y, ey⟩ : ∃ y, l0.getD (k - 1) ByteArray.empty = y := ⟨_, rfl⟩
          have hx : wr.cell? ⟨b, o + k, none⟩ = some (.string x) := (HL.out.2.cell hbk).trans (by rw [hcell k _ (List.getElem?_eq_getElem hlt), ← ex]; simp [List.getD, hlt])
          have hz1 : (k : Int) < (l0.length : Int) := by omega
          have HN : Hid ((jt l0 (k + 1)).length ≤ 140737488355328) := Nat.le_trans (jt_le l0 (by omega)) HS.out
          by_cases c0 : 0 < k
          · have hz2 : (0 : Int) < (k : Int) := by omega
            have hy : wr.cell? ⟨b, o + (k - 1), none⟩ = some (.string y) := (HL.out.2.cell hbk).trans (by rw [hcell (k - 1) _ (List.getElem?_eq_getElem (by omega)), ← ey]; simp [List.getD, show k - 1 < l0.length by omega])
            clear hcell HR
            by_cases c1 : x.toList = [10]
            · clear hy
              have c1b : (x.toList == [10]) = true := by rw [c1]; rfl
              have e_ : jt l0 (k + 1) = jt l0 k ++ x.data.toList := jt_no ex ey (by intro h_; exact h_.2.1 c1)
              go_wp2_with (go_at_call 38; refine (Tryz.WriteString w.heap.size w.heap.size _ x _ HL.out.1 (by have z_ := HN.out; rw [e_, List.length_append, ← Lib.size_eq] at z_; rw [Lib.byteCells_length]; exact z_) HL.out.2.size).mono ?_; rintro e W1 ⟨rfl, h1, hb, _⟩; have HP : Hid (Lib.IsBuilderF 84 5 w.heap.size w.heap.size (Lib.byteCells (jt l0 (k + 1))) W1 ∧ Below w.heap.size w W1) := ⟨Or.inr (by rw [e_, Lib.byteCells_append, ← Lib.strCells_eq]; exact h1), HL.out.2.trans hb⟩; clear HL HN h1 hb)
              go_roundw
              case rel => exact ⟨k + 1, by omega, by go_num, HP⟩
              case measure => simp [intOf]; omega
            · have c1b : (x.toList == [10]) = false := by simpa using c1
              by_cases c2 : y.toList = [10]
              · have c2b : (y.toList == [10]) = true := by rw [c2]; rfl
                have e_ : jt l0 (k + 1) = jt l0 k ++ x.data.toList := jt_no ex ey (by intro h_; exact h_.2.2 c2)
                go_wp2_with (go_at_call 38; refine (Tryz.WriteString w.heap.size w.heap.size _ x _ HL.out.1 (by have z_ := HN.out; rw [e_, List.length_append, ← Lib.size_eq] at z_; rw [Lib.byteCells_length]; exact z_) HL.out.2.size).mono ?_; rintro e W1 ⟨rfl, h1, hb, _⟩; have HP : Hid (Lib.IsBuilderF 84 5 w.heap.size w.heap.size (Lib.byteCells (jt l0 (k + 1))) W1 ∧ Below w.heap.size w W1) := ⟨Or.inr (by rw [e_, Lib.byteCells_append, ← Lib.strCells_eq]; exact h1), HL.out.2.trans hb⟩; clear HL HN h1 hb)
                go_roundw
                case rel => exact ⟨k + 1, by omega, by go_num, HP⟩
                case measure => simp [intOf]; omega
              · have e_ : jt l0 (k + 1) = jt l0 k ++ [32] ++ x.data.toList := jt_sp ex ey c0 c1 c2
                have c2b : (y.toList == [10]) = false := by simpa using c2
                go_wp2_with (first | (go_at_call 62; refine (Tryz.WriteByte w.heap.size w.heap.size _ 32 _ HL.out.1 (by have z_ := HN.out; rw [e_, List.length_append, List.length_append] at z_; rw [Lib.byteCells_length]; have z1 : (⟨#[32]⟩ : ByteArray).size = 1 := rfl; have z2 : ([32] : List UInt8).length = 1 := rfl; omega) HL.out.2.size).mono ?_; rintro e W0 ⟨rfl, h3, hb0, _⟩; have HQ : Hid (Lib.IsBuilderF 84 5 w.heap.size w.heap.size (Lib.byteCells (jt l0 k ++ [32])) W0 ∧ Below w.heap.size w W0) := ⟨Or.inr (by rw [Lib.byteCells_append]; first | exact h3 | (rw [show Lib.byteCells [32] = Lib.strCells ⟨#[32]⟩ from rfl]; exact h3)), HL.out.2.trans hb0⟩; clear h3 hb0 HL) | (go_at_call 38; refine (Tryz.WriteString w.heap.size w.heap.size _ x _ HQ.out.1 (by have z_ := HN.out; rw [e_, List.length_append, ← Lib.size_eq] at z_; rw [Lib.byteCells_length]; exact z_) HQ.out.2.size).mono ?_; rintro e W1 ⟨rfl, h1, hb, _⟩; have HP : Hid (Lib.IsBuilderF 84 5 w.heap.size w.heap.size (Lib.byteCells (jt l0 (k + 1))) W1 ∧ Below w.heap.size w W1) := ⟨Or.inr (by rw [e_, Lib.byteCells_append, ← Lib.strCells_eq]; exact h1), HQ.out.2.trans hb⟩; clear HQ HN h1 hb))
                go_roundw
                case rel => exact ⟨k + 1, by omega, by go_num, HP⟩
                case measure => simp [intOf]; omega
          · have hz2 : ¬ (0 : Int) < (k : Int) := by omega
            have e_ : jt l0 (k + 1) = jt l0 k ++ x.data.toList := jt_no ex ey (by intro h_; exact c0 h_.1)
            go_wp2_with (go_at_call 38; refine (Tryz.WriteString w.heap.size w.heap.size _ x _ HL.out.1 (by have z_ := HN.out; rw [e_, List.length_append, ← Lib.size_eq] at z_; rw [Lib.byteCells_length]; exact z_) HL.out.2.size).mono ?_; rintro e W1 ⟨rfl, h1, hb, _⟩; have HP : Hid (Lib.IsBuilderF 84 5 w.heap.size w.heap.size (Lib.byteCells (jt l0 (k + 1))) W1 ∧ Below w.heap.size w W1) := ⟨Or.inr (by rw [e_, Lib.byteCells_append, ← Lib.strCells_eq]; exact h1), HL.out.2.trans hb⟩; clear HL HN h1 hb)
            go_roundw
            case rel => exact ⟨k + 1, by omega, by go_num, HP⟩
            case measure => simp [intOf]; omega
        · obtain rfl : k = l0.length := by omega
          have hz1 : ¬ (l0.length : Int) < (l0.length : Int) := by omega
          go_wp2_with (go_at_call 40; refine (Tryz.BString w.heap.size w.heap.size _ _ HL.out.1 HL.out.2.size).mono ?_; rintro e w' ⟨rfl, _, hb, _⟩; have hB := HL.out.2.trans hb; clear HL hb)
          go_ret
          exact ⟨rfl, hB⟩
  · rw [if_neg hs] at h
    exact absurd h (by simp)
end Go.Proofs.YtenphgclongphaaGreatDoor.Pk
