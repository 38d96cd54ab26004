/- Part of the proof that the law textsPaged is true for every input. No conditions. Laid by a program of this session over the kit's print and words; declarations that nothing names are left out. -/
import Derived.Test.YtffaggbephnmkaaGreatDoorZgPgx0
import Derived.Test.YtffaggbephnmkaaGreatDoorZgPgx1
import Derived.Test.YtffaggbephnmkaaGreatDoorZgPgx3
import Derived.Test.YtffaggbephnmkaaGreatDoorZgPgx5
import Derived.Test.YtffaggbephnmkaaGreatDoorZgPgx6
import Derived.Test.YtffaggbephnmkaaGreatDoorZgPgx7
namespace Go.Proofs.YtffaggbephnmkaaGreatDoor.Pg
open Go.RowKit Go.Proofs.YtffaggbephnmkaaGreatDoor.GBase Go.Proofs.YtffaggbephnmkaaGreatDoorW.PrintWords Go.Proofs.YtffaggbephnmkaaGreatDoorW.PrintLast Go.Proofs.YtffaggbephnmkaaGreatDoorW.PrintMore
attribute [local go_sem] str_leq max2_int min2_int max_two min_two max_three min_three max_four min_four
set_option linter.unusedVariables false
set_option linter.unusedSimpArgs false
def slices_EqualFunc_string_string_string_string.eqL : List ByteArray → List ByteArray → Bool
  | [], [] => true
  | x :: a, y :: b => decide (x.toList = y.toList) && slices_EqualFunc_string_string_string_string.eqL a b
  | _, _ => false
theorem slices_EqualFunc_string_string_string_string.eqL_ne : ∀ a b : List ByteArray, ¬ a.length = b.length → slices_EqualFunc_string_string_string_string.eqL a b = false
  | [], [], h => absurd rfl h
  | [], _ :: _, _ => rfl
  | _ :: _, [], _ => rfl
  | x :: a, y :: b, h => by
    simp only [slices_EqualFunc_string_string_string_string.eqL, slices_EqualFunc_string_string_string_string.eqL_ne a b (fun e => h (by rw [List.length_cons, List.length_cons, e])), Bool.and_false]
theorem slices_EqualFunc_string_string_string_string.eqL_loop (a b : List ByteArray) (hl : a.length = b.length) (hm : a.length ≤ 9223372036854775807) (d : Nat) : ∀ j : Nat, a.length - j ≤ d → j ≤ a.length → Ev (fun k => slices_Equal_string_string.l0 k a b (a.length : Int) (j : Int)) (slices_EqualFunc_string_string_string_string.eqL (a.drop j) (b.drop j)) := by
  have stop : ∀ j : Nat, ¬ j < a.length → Ev (fun k => slices_Equal_string_string.l0 k a b (a.length : Int) (j : Int)) (slices_EqualFunc_string_string_string_string.eqL (a.drop j) (b.drop j)) := fun j hj => by
    rw [List.drop_eq_nil_of_le (by omega), List.drop_eq_nil_of_le (by omega)]
    exact Ev.step (fun _ => slices_Equal_string_string.l0.eq_2 ..) (ev_neg (by omega) (Ev.now _))
  induction d with
  | zero => exact fun j h1 h2 => stop j (by omega)
  | succ d ih =>
    intro j h1 h2
    by_cases hj : j < a.length
    · have hw : wrap64 ((j : Int) + 1) = ((j + 1 : Nat) : Int) := by rw [wr64 (by omega) (by omega)]; omega
      have e1 : rdOf ByteArray.empty a (j : Int) = a[j] := by simp [rdOf, List.getD, hj]
      have e2 : rdOf ByteArray.empty b (j : Int) = b[j] := by simp [rdOf, List.getD, show j < b.length from hl ▸ hj]
      refine Ev.step (fun _ => slices_Equal_string_string.l0.eq_2 ..) (ev_pos (by omega) (ev_pos (by omega) (ev_pos (by omega) (ev_pos (by omega) ?_))))
      rw [e1, e2, hw, List.drop_eq_getElem_cons hj, List.drop_eq_getElem_cons (show j < b.length from hl ▸ hj)]
      simp only [slices_EqualFunc_string_string_string_string.eqL]
      by_cases e : a[j].toList = b[j].toList
      · rw [decide_eq_true e, Bool.true_and]
        exact ev_pos e (ih (j + 1) (by omega) (by omega))
      · rw [decide_eq_false e, Bool.false_and]
        exact ev_neg e (Ev.now _)
    · exact stop j hj
theorem slices_EqualFunc_string_string_string_string.eqL_ev (a b : List ByteArray) (hm : a.length ≤ 9223372036854775807) : Ev (fun k => slices_Equal_string_string.f k a b) (slices_EqualFunc_string_string_string_string.eqL a b) := by
  refine Ev.congr (fun _ => slices_Equal_string_string.f.eq_1 ..) ?_
  by_cases hl : a.length = b.length
  · refine ev_pos (by omega) ?_
    have := slices_EqualFunc_string_string_string_string.eqL_loop a b hl hm _ 0 (Nat.le_refl _) (Nat.zero_le _)
    rw [List.drop_zero, List.drop_zero] at this
    exact this
  · rw [slices_EqualFunc_string_string_string_string.eqL_ne a b hl]
    exact ev_neg (by omega) (Ev.now _)
theorem slices_EqualFunc_string_string_string_string.at_row {e : Nat} {w : World} {A : Option Addr} {n : Nat} {xs : List (List ByteArray)} (h : Kd.C (Kd.slice e Kd.string) w A n xs) (j : Nat) (h1 : j < n) :
    ∃ ad A' c', A = some ad ∧ w.cell? (ad.add j) = some (.slice A' (xs.getD j []).length c') ∧ (xs.getD j []).length ≤ c' ∧ Kd.C Kd.string w A' (xs.getD j []).length (xs.getD j []) := by
  obtain ⟨ad, c, hA, _, ⟨A', c', hc, hle, hC⟩, hcell⟩ := Kd.C_get h [] (j : Int) (by omega) (by omega)
  subst hc
  have := hcell 0 _ rfl
  rw [Int.toNat_natCast, show j * (Kd.slice e Kd.string).sz + 0 = j from Nat.mul_one j] at this
  rw [Int.toNat_natCast] at hle hC
  exact ⟨ad, A', c', hA, this, hle, hC⟩
def slices_EqualFunc_string_string_string_string.eqC : List (List ByteArray) → List (List ByteArray) → Bool
  | [], [] => true
  | x :: a, y :: b => slices_EqualFunc_string_string_string_string.eqL x y && slices_EqualFunc_string_string_string_string.eqC a b
  | _, _ => false
theorem slices_EqualFunc_string_string_string_string.eqC_ne : ∀ a b : List (List ByteArray), ¬ a.length = b.length → slices_EqualFunc_string_string_string_string.eqC a b = false
  | [], [], h => absurd rfl h
  | [], _ :: _, _ => rfl
  | _ :: _, [], _ => rfl
  | x :: a, y :: b, h => by
    simp only [slices_EqualFunc_string_string_string_string.eqC, slices_EqualFunc_string_string_string_string.eqC_ne a b (fun e => h (by rw [List.length_cons, List.length_cons, e])), Bool.and_false]
def slices_EqualFunc_string_string_string_string.f (l0 : List (List ByteArray)) (l1 : List (List ByteArray)) (a2 : Nat) : Option (Bool) := if a2 = 10 then (some (slices_EqualFunc_string_string_string_string.eqC l0 l1)) else (none)
set_option maxHeartbeats 8000000 in
set_option maxRecDepth 100000 in
theorem slices_EqualFunc_string_string_string_string.calls (A0 : Option Addr) (c0 : Nat) (l0 : List (List ByteArray)) (A1 : Option Addr) (c1 : Nat) (l1 : List (List ByteArray)) (a2 : Nat) (r : Bool) (w : World) (hr0 : Kd.C (Kd.slice 9 Kd.string) w A0 l0.length l0) (hc0 : l0.length ≤ c0) (hr1 : Kd.C (Kd.slice 9 Kd.string) w A1 l1.length l1) (hc1 : l1.length ≤ c1) (h : slices_EqualFunc_string_string_string_string.f l0 l1 a2 = some r) :
    Calls Tryz.prog 36 #[.slice A0 l0.length c0, .slice A1 l1.length c1, .func (.func a2) #[] #[]] w fun e w' => e = .returned (.bool r) ∧ Below w.heap.size w w' := by
  unfold slices_EqualFunc_string_string_string_string.f at h
  by_cases h1 : a2 = 10
  · rw [if_pos h1] at h
    subst h1
    have hm0 := Kd.C_max hr0
    have hm1 := Kd.C_max hr1
    have HR0 := Aside0.mk hr0
    have HR1 := Aside0.mk hr1
    obtain rfl := Option.some.inj h
    clear hr0 hr1 hc0 hc1 h
    by_cases hl : l0.length = l1.length
    · have H : Aside0 (slices_EqualFunc_string_string_string_string.eqC (l0.drop 0) (l1.drop 0) = slices_EqualFunc_string_string_string_string.eqC l0 l1) := ⟨by rw [List.drop_zero, List.drop_zero]⟩
      have HB := Aside0.mk (Below.refl w.heap.size w)
      have hne : ((l0.length : Int) != (l1.length : Int)) = false := by rw [hl]; exact bne_self_eq_false _
      have HL := Aside0.mk hl
      clear hl
      generalize slices_EqualFunc_string_string_string_string.eqC l0 l1 = r at *
      go_enter Tryz.func36, Tryz.ntmps36
      go_wp2
      go_loopw [17] (fun i wr => ∃ j : Nat, i = .int .i64 j ∧ Aside0 (j ≤ l0.length) ∧ Aside0 (Kd.C (Kd.slice 9 Kd.string) wr A0 l0.length l0) ∧ Aside0 (Kd.C (Kd.slice 9 Kd.string) wr A1 l1.length l1) ∧ Aside0 (Below w.heap.size w wr) ∧ Aside0 (slices_EqualFunc_string_string_string_string.eqC (l0.drop j) (l1.drop j) = r)) (fun i _ => l0.length - (intOf i).toNat)
      case atStart => exact ⟨0, rfl, ⟨Nat.zero_le _⟩, HR0, HR1, HB, H⟩
      case round =>
        obtain ⟨j, rfl, HJ, HC0, HC1, HBw, HE⟩ := hrel
        clear HR0 HR1 HB H
        by_cases hlt : j < l0.length
        · obtain ⟨ad, A01, c01, eA, hx0, hk1, hg1⟩ := slices_EqualFunc_string_string_string_string.at_row HC0.out j hlt
          cases eA
          obtain ⟨ad1, A11, c11, eA, hy0, hk3, hg3⟩ := slices_EqualFunc_string_string_string_string.at_row HC1.out j (by have := HL.out; omega)
          cases eA
          have hd0 : l0.drop j = l0.getD j [] :: l0.drop (j + 1) := by
            rw [List.drop_eq_getElem_cons hlt]
            simp [List.getD_eq_getElem?_getD, List.getElem?_eq_getElem hlt]
          have hlt1 : j < l1.length := by have := HL.out; omega
          have hd1 : l1.drop j = l1.getD j [] :: l1.drop (j + 1) := by
            rw [List.drop_eq_getElem_cons hlt1]
            simp [List.getD_eq_getElem?_getD, List.getElem?_eq_getElem hlt1]
          have h4 := HE.out
          rw [hd0, hd1] at h4
          simp only [slices_EqualFunc_string_string_string_string.eqC] at h4
          clear hd0 hd1 HE
          generalize l0.getD j [] = x at *
          generalize l1.getD j [] = y at *
          obtain ⟨K, hK⟩ := (slices_EqualFunc_string_string_string_string.eqL_ev x y (Kd.C_max hg1)).rounds
          have H4 := Aside0.mk h4
          have HK := Aside0.mk (slices_Equal_string_string.calls K A01 c01 x A11 c11 y (slices_EqualFunc_string_string_string_string.eqL x y) wr hg1 hk1 hg3 hk3 hK)
          clear h4 hK hg1 hg3 hk1 hk3
          have hw : wrap64 ((j : Int) + 1) = ((j + 1 : Nat) : Int) := by unfold wrap64; omega
          cases hq : slices_EqualFunc_string_string_string_string.eqL x y with
          | true =>
            have H6 := H4.out
            rw [hq, Bool.true_and] at H6
            have H7 := Aside0.mk H6
            rw [hq] at HK
            clear H6 hq H4
            go_wp2_with (go_at_call 10; refine HK.out.mono ?_; rintro e w1 ⟨rfl, hb1⟩)
            go_roundw
            case rel => exact ⟨j + 1, by go_num, ⟨by omega⟩, ⟨Kd.C_below HC0.out hb1.below⟩, ⟨Kd.C_below HC1.out hb1.below⟩, ⟨below_step HBw.out hb1.below⟩, H7⟩
            case measure => simp [intOf]; omega
          | false =>
            have H6 := H4.out
            rw [hq, Bool.false_and] at H6
            subst H6
            rw [hq] at HK
            clear hq H4
            go_wp2_with (go_at_call 10; refine HK.out.mono ?_; rintro e w1 ⟨rfl, hb1⟩)
            go_ret
            exact ⟨rfl, below_step HBw.out hb1.below⟩
        · obtain rfl : j = l0.length := by have := HJ.out; omega
          have h4 := HE.out
          rw [List.drop_eq_nil_of_le (Nat.le_refl _), List.drop_eq_nil_of_le (by have := HL.out; omega)] at h4
          simp only [slices_EqualFunc_string_string_string_string.eqC] at h4
          subst h4
          clear HC0 HC1 HE
          go_wp2
          go_ret
          exact ⟨rfl, HBw.out⟩
    · rw [slices_EqualFunc_string_string_string_string.eqC_ne _ _ hl]
      have hne : ((l0.length : Int) != (l1.length : Int)) = true := bne_iff_ne.mpr (by omega)
      have HB := Below.refl w.heap.size w
      clear hl HR0 HR1
      go_enter Tryz.func36, Tryz.ntmps36
      go_wp2
      go_ret
      exact ⟨rfl, HB⟩
  · rw [if_neg h1] at h
    exact absurd h (by simp)
def chaseref1_SameTable.f (l0 : List (List ByteArray)) (l1 : List (List ByteArray)) : Option (Bool) := (slices_EqualFunc_string_string_string_string.f l0 l1 10).bind fun t290 => (some t290)
set_option maxHeartbeats 8000000 in
set_option maxRecDepth 100000 in
theorem chaseref1_SameTable.calls (A0 : Option Addr) (c0 : Nat) (l0 : List (List ByteArray)) (A1 : Option Addr) (c1 : Nat) (l1 : List (List ByteArray)) (r : Bool) (w : World) (hr0 : Kd.C (Kd.slice 9 Kd.string) w A0 l0.length l0) (hc0 : l0.length ≤ c0) (hr1 : Kd.C (Kd.slice 9 Kd.string) w A1 l1.length l1) (hc1 : l1.length ≤ c1) (h : chaseref1_SameTable.f l0 l1 = some r) :
    Calls Tryz.prog 12 #[.slice A0 l0.length c0, .slice A1 l1.length c1] w fun e w' => e = .returned (.bool r) ∧ Below w.heap.size w w' := by
  have HR0 := Aside0.mk hr0
  have HC0 := Aside0.mk hc0
  clear hr0 hc0
  have HR1 := Aside0.mk hr1
  have HC1 := Aside0.mk hc1
  clear hr1 hc1
  have HB := Aside0.mk (Below.refl w.heap.size w)
  have H : ((slices_EqualFunc_string_string_string_string.f l0 l1 10).bind fun t290 => (some t290)) = some r := h
  clear h
  replace H := Option.bind_eq_some_iff.mp H
  obtain ⟨t290, A30, H⟩ := H
  replace H : (some t290) = some r := H
  have A3 := Aside0.mk A30
  clear A30
  obtain rfl := Option.some.inj H
  go_enter Tryz.func12, Tryz.ntmps12
  go_wp2_with (first | ((with_reducible refine gate_callee (f := 36) rfl ?_); refine goesL_ (some 7) rfl rfl Tryz.func36 (by kernel_rfl) rfl #[.slice A0 l0.length c0, .slice A1 l1.length c1, .func (.func 10) #[] #[]] rfl (by (try simp only [List.map_toArray, List.map_cons, List.map_nil]); first | done | rfl | (simp only [List.length_drop, List.length_take]; rfl)) ?_; (with_reducible refine (slices_EqualFunc_string_string_string_string.calls _ _ l0 _ _ l1 10 t290 _ ?side1 ?side2 ?side3 ?side4 A3.out).mono ?_); (case side1 => repeat (first | exact HR0.out | (with_reducible refine Kd.C_alloc ?_ _) | (with_reducible refine Kd.C_drewN ?_ _) | (with_reducible refine Kd.C_drew ?_))); (case side2 => exact HC0.out); (case side3 => repeat (first | exact HR1.out | (with_reducible refine Kd.C_alloc ?_ _) | (with_reducible refine Kd.C_drewN ?_ _) | (with_reducible refine Kd.C_drew ?_))); (case side4 => exact HC1.out); rintro e w4 ⟨rfl, hb⟩; refine ⟨_, rfl, ?_⟩; have n0_ := Aside0.mk (below_step (by repeat (first | (with_reducible first | exact HB.out | apply below_alloc | apply pw_below_drewN | apply below_drew1) | exact HB.out)) hb); clear HB; have HB := n0_; clear n0_; (try clear hb); (try clear hb2); (try clear hk); (try clear hi)))
  go_ret
  exact ⟨by first | rfl | (simp [errW_none, errW_some] <;> rfl) | (simp [*, errW_none, errW_some] <;> rfl), by repeat (first | (with_reducible first | exact HB.out | apply below_alloc | apply pw_below_drewN | apply below_drew1) | exact HB.out)⟩
def chaseref1_PagesOf.l0 : Nat → List (List ByteArray) → List ByteArray → Int → Int → Option ((List (List ByteArray)))
  | 0, _, _, _, _ => none
  | k + 1, x3, x8, x9, x10 => if x10 < x9 then (if 0 ≤ x10 then (if x10 < (x8.length : Int) then (if 0 ≤ (wrap64 ((x3.length : Int) - 1)) then (if (wrap64 ((x3.length : Int) - 1)) < (x3.length : Int) then (if ((rd_L3 x3 (wrap64 ((x3.length : Int) - 1))).length : Int) = 50 then (if x3.length < 5864062014805 then ((some (x3 ++ [[]] : List (List ByteArray))).bind fun y299 => (if 0 ≤ (wrap64 ((y299.length : Int) - 1)) then (if (wrap64 ((y299.length : Int) - 1)) < (y299.length : Int) then (if (rd_L3 y299 (wrap64 ((y299.length : Int) - 1))).length < 8796093022208 then (chaseref1_PagesOf.l0 k (y299.set ((wrap64 ((y299.length : Int) - 1)) : Int).toNat ((rd_L3 y299 (wrap64 ((y299.length : Int) - 1))) ++ [rdOf ByteArray.empty x8 x10])) x8 x9 (wrap64 (x10 + 1))) else (none)) else (none)) else (none))) else (none)) else (if (rd_L3 x3 (wrap64 ((x3.length : Int) - 1))).length < 8796093022208 then (chaseref1_PagesOf.l0 k (x3.set ((wrap64 ((x3.length : Int) - 1)) : Int).toNat ((rd_L3 x3 (wrap64 ((x3.length : Int) - 1))) ++ [rdOf ByteArray.empty x8 x10])) x8 x9 (wrap64 (x10 + 1))) else (none))) else (none)) else (none)) else (none)) else (none)) else (some x3)
def chaseref1_PagesOf.f (k : Nat) (a0 : ByteArray) : Option ((List (List ByteArray))) := (chaseref1_WrapOf.f k a0).bind fun t294 => (chaseref1_PagesOf.l0 k (([[]] : List (List ByteArray))) t294 (t294.length : Int) 0)
theorem chaseref1_PagesOf.mono_l : ∀ k, (∀ y0 y1 y2 y3, LeO (chaseref1_PagesOf.l0 k y0 y1 y2 y3) (chaseref1_PagesOf.l0 (k + 1) y0 y1 y2 y3))
  | 0 => fun _ _ _ _ r h => by simp [chaseref1_PagesOf.l0] at h
  | k + 1 => by
    have ih0 := chaseref1_PagesOf.mono_l k
    · intro y0 y1 y2 y3
      unfold chaseref1_PagesOf.l0
      repeat' first
      | (with_reducible exact ih0 _ _ _ _)
      | (with_reducible exact chaseref1_WrapOf.mono _ _)
      | (with_reducible exact LeO.refl _)
      | (with_reducible exact LeO.none _)
      | (with_reducible refine LeO.ite ?_ ?_)
      | (with_reducible refine LeO.bind ?_ (fun _ => ?_))
      | exact ih0 _ _ _ _
      | exact chaseref1_WrapOf.mono _ _
      | exact LeO.none _
      | refine LeO.ite ?_ ?_
      | refine LeO.bind ?_ (fun _ => ?_)
theorem chaseref1_PagesOf.mono : ∀ a0 k, LeO (chaseref1_PagesOf.f k a0) (chaseref1_PagesOf.f (k + 1) a0) := by
  intro a0 k
  have ih0 := chaseref1_PagesOf.mono_l k
  unfold chaseref1_PagesOf.f
  repeat' first
      | (with_reducible exact ih0 _ _ _ _)
      | (with_reducible exact chaseref1_WrapOf.mono _ _)
      | (with_reducible exact LeO.refl _)
      | (with_reducible exact LeO.none _)
      | (with_reducible refine LeO.ite ?_ ?_)
      | (with_reducible refine LeO.bind ?_ (fun _ => ?_))
      | exact ih0 _ _ _ _
      | exact chaseref1_WrapOf.mono _ _
      | exact LeO.none _
      | refine LeO.ite ?_ ?_
      | refine LeO.bind ?_ (fun _ => ?_)
set_option maxHeartbeats 8000000 in
set_option maxRecDepth 100000 in
theorem chaseref1_PagesOf.calls (k : Nat) (a0 : ByteArray) (r : List (List ByteArray)) (w : World) (hGl : Wd w) (h : chaseref1_PagesOf.f k a0 = some r) :
    Calls Tryz.prog 13 #[.string a0] w fun e w' => ∃ v0_ : Value, e = .returned (v0_) ∧ Kd.S (Kd.slice 9 Kd.string) 27 w' w.heap.size (fun _ => True) v0_ r ∧ Below w.heap.size w w' := by
  have HGl := Aside0.mk hGl
  clear hGl
  have HB := Aside0.mk (Below.refl w.heap.size w)
  have H : ((chaseref1_WrapOf.f k a0).bind fun t294 => (chaseref1_PagesOf.l0 k (([[]] : List (List ByteArray))) t294 (t294.length : Int) 0)) = some r := h
  clear h
  obtain ⟨y291, hy291⟩ : ∃ y_ : List (List ByteArray), y_ = (([[]] : List (List ByteArray))) := ⟨_, rfl⟩
  replace H : ((chaseref1_WrapOf.f k a0).bind fun t294 => (chaseref1_PagesOf.l0 k y291 t294 (t294.length : Int) 0)) = some r := by first | (rw [hy291]; with_reducible exact H) | (have H2_ := (Option.bind_some _ _).symm.trans H; rw [hy291]; with_reducible exact H2_) | (have H2_ := (Option.bind_some _ _).symm.trans H; with_reducible exact H2_) | with_reducible exact H | (rw [hy291]; exact H) | exact H
  have Ny291 := Aside0.mk hy291
  clear hy291
  replace H := Option.bind_eq_some_iff.mp H
  obtain ⟨t294, A20, H⟩ := H
  replace H : (chaseref1_PagesOf.l0 k y291 t294 (t294.length : Int) 0) = some r := H
  have A2 := Aside0.mk A20
  clear A20
  have H' := Aside0.mk H
  clear H
  go_enter Tryz.func13, Tryz.ntmps13
  go_wp2_with (first | ((with_reducible refine gate_dst (N := 6) rfl ?_); refine Kd.S_lit (Kd.slice 9 Kd.string) _ 27 ?hg (N := 6) ?hd (xs := ([[]] : List (List ByteArray))) (inner := [.slice none 0 0]) (ok := fun _ => True) (okp := fun _ => True) ?hr ?hp (fun _ hk => hk) trivial (Below.refl _ _) (Nat.le_refl _) (by simp) ?_; (case hd => rfl); (case hg => rfl); (case hr => first | (go_simp; done) | (go_simp; rfl)); (case hp => exact (Reps.one (show Kd.M (Kd.slice 9 Kd.string) _ _ _ [] [.slice none 0 0] from ⟨_, rfl, Kd.R_nil _ _ _ _ _⟩) (Reps.none _ _))); intro v292 w3 ho4 hb hg_ hnew_; clear hg_ hnew_; (first | rw [← Ny291.out] at ho4 | (simp only [Int.reduceToNat] at ho4; rw [← Ny291.out] at ho4)); have n0_ := Aside0.mk (Kd.S_lower ho4 (below_size (by repeat (first | (with_reducible first | exact HB.out | apply below_alloc | apply pw_below_drewN | apply below_drew1) | exact HB.out)))); have n1_ := Aside0.mk (below_step (by repeat (first | (with_reducible first | exact HB.out | apply below_alloc | apply pw_below_drewN | apply below_drew1) | exact HB.out)) hb); clear HB; have HO293 := n0_; have HB := n1_; clear n0_ n1_; clear hb ho4) | ((with_reducible refine gate_callee (f := 11) rfl ?_); refine goesL_ (some 8) rfl rfl Tryz.func11 (by kernel_rfl) rfl #[.string a0] rfl (by (try simp only [List.map_toArray, List.map_cons, List.map_nil]); first | done | rfl | (simp only [List.length_drop, List.length_take]; rfl)) ?_; (with_reducible refine (chaseref1_WrapOf.calls k a0 t294 _ ?side1 A2.out).mono ?_); (case side1 => exact Wd.below HGl.out (by repeat (first | (with_reducible first | exact HB.out | apply below_alloc | apply pw_below_drewN | apply below_drew1) | exact HB.out))); rintro e w5 ⟨v295, rfl, ho0, hb⟩; refine ⟨_, rfl, ?_⟩; have n0_ := Aside0.mk (Kd.S_elder' (by (with_reducible repeat (first | apply Kd.S_alloc | apply Kd.S_drewN | apply Kd.S_drew)); exact HO293.out) (Kd.R_base ho0) hb); have n1_ := Aside0.mk (Kd.R_lower ho0 (below_size (by repeat (first | (with_reducible first | exact HB.out | apply below_alloc | apply pw_below_drewN | apply below_drew1) | exact HB.out)))); have n2_ := Aside0.mk (below_step (by repeat (first | (with_reducible first | exact HB.out | apply below_alloc | apply pw_below_drewN | apply below_drew1) | exact HB.out)) hb); clear HO293; clear HB; have HO293 := n0_; have HO296 := n1_; have HB := n2_; clear n0_ n1_ n2_; (try clear hb); (try clear hb2); (try clear hk); (try clear hi); (try clear ho0); obtain ⟨Ao6, co6, eo6⟩ := Kd.R_slice HO296.out; subst eo6))
  go_loopg [3, 10] k (fun kq v3 v10 w' => ∃ (x3_1 : List (List ByteArray)) (x10_1 : Int), v10 = .int .i64 x10_1 ∧ Aside0 (chaseref1_PagesOf.l0 kq x3_1 t294 (t294.length : Int) x10_1 = some r) ∧ Aside0 (kq ≤ k) ∧ Aside0 (Kd.S (Kd.slice 9 Kd.string) 27 w' w.heap.size (fun k_ => some k_ ≠ ((.slice Ao6 t294.length co6) : Value).ownBlock) v3 x3_1) ∧ Aside0 (Kd.R Kd.string 9 w' w.heap.size (fun _ => True) (.slice Ao6 t294.length co6) t294) ∧ Aside0 (Below w.heap.size w w'))
  case atStart => exact ⟨(y291), (0), (by first | rfl | (simp; done) | (simp [*]; done)), H', ⟨Nat.le_refl _⟩, ⟨by (with_reducible repeat (first | apply Kd.S_alloc | apply Kd.S_drewN | apply Kd.S_drew)); exact Kd.S_mono HO293.out (fun _ hk => hk.2)⟩, ⟨by (with_reducible repeat (first | apply Kd.R_alloc | apply Kd.R_drewN | apply Kd.R_drew)); exact HO296.out⟩, ⟨by repeat (first | (with_reducible first | exact HB.out | apply below_alloc | apply pw_below_drewN | apply below_drew1) | exact HB.out)⟩⟩
  case round =>
    clear H'
    try clear c1
    try clear p2
    obtain ⟨x3_1, x10_1, rfl, HA, HK1, HO_3, HO_8, HB⟩ := hrel
    cases gk with
    | zero => exact absurd HA.out (by simp [chaseref1_PagesOf.l0])
    | succ k1 =>
      have H := HA.out
      clear HA
      simp only [chaseref1_PagesOf.l0] at H
      by_cases c7 : x10_1 < (t294.length : Int)
      · rw [if_pos c7] at H
        have c7b0 : decide (x10_1 < (t294.length : Int)) = true := decide_eq_true c7
        clear c7
        by_cases c8 : 0 ≤ x10_1
        · rw [if_pos c8] at H
          have c8b0 : decide (0 ≤ x10_1) = true := decide_eq_true c8
          clear c8
          by_cases c9 : x10_1 < (t294.length : Int)
          · rw [if_pos c9] at H
            have c9b0 : decide (x10_1 < (t294.length : Int)) = true := decide_eq_true c9
            clear c9
            obtain ⟨ji10, hji10⟩ : ∃ j_ : Int, (wrap64 ((x3_1.length : Int) - 1)) = j_ := ⟨_, rfl⟩
            replace H : (if 0 ≤ (ji10) then (if (ji10) < (x3_1.length : Int) then (if ((rd_L3 x3_1 (ji10)).length : Int) = 50 then (if x3_1.length < 5864062014805 then ((some (x3_1 ++ [[]] : List (List ByteArray))).bind fun y299 => (if 0 ≤ (wrap64 ((y299.length : Int) - 1)) then (if (wrap64 ((y299.length : Int) - 1)) < (y299.length : Int) then (if (rd_L3 y299 (wrap64 ((y299.length : Int) - 1))).length < 8796093022208 then (chaseref1_PagesOf.l0 k1 (y299.set ((wrap64 ((y299.length : Int) - 1)) : Int).toNat ((rd_L3 y299 (wrap64 ((y299.length : Int) - 1))) ++ [rdOf ByteArray.empty t294 x10_1])) t294 (t294.length : Int) (wrap64 (x10_1 + 1))) else (none)) else (none)) else (none))) else (none)) else (if (rd_L3 x3_1 (ji10)).length < 8796093022208 then (chaseref1_PagesOf.l0 k1 (x3_1.set ((ji10) : Int).toNat ((rd_L3 x3_1 (ji10)) ++ [rdOf ByteArray.empty t294 x10_1])) t294 (t294.length : Int) (wrap64 (x10_1 + 1))) else (none))) else (none)) else (none)) = some r := by first | (rw [hji10] at H; exact H) | (simp only [hji10] at H ⊢; exact H)
            have hji10w : (IntKind.i64.wrap ((x3_1.length : Int) - 1)) = ji10 := (i64_w _).trans hji10
            by_cases c11 : 0 ≤ (ji10)
            · rw [if_pos c11] at H
              have c11b0 : decide (0 ≤ (ji10)) = true := decide_eq_true c11
              clear c11
              by_cases c12 : (ji10) < (x3_1.length : Int)
              · rw [if_pos c12] at H
                have c12b0 : decide ((ji10) < (x3_1.length : Int)) = true := decide_eq_true c12
                clear c12
                by_cases c13 : ((rd_L3 x3_1 (ji10)).length : Int) = 50
                · rw [if_pos c13] at H
                  have c13b0 : (((rd_L3 x3_1 (ji10)).length : Int) == 50) = true := beq_iff_eq.mpr c13
                  have c13b1 : (((rd_L3 x3_1 (ji10)).length : Int) != 50) = false := bne_eq_false_iff_eq.mpr c13
                  clear c13
                  by_cases c14 : x3_1.length < 5864062014805
                  · rw [if_pos c14] at H
                    have LMc14 := Aside0.mk c14
                    clear c14
                    obtain ⟨y299, hy299⟩ : ∃ y_ : List (List ByteArray), y_ = (x3_1 ++ [[]]) := ⟨_, rfl⟩
                    replace H : (if 0 ≤ (wrap64 ((y299.length : Int) - 1)) then (if (wrap64 ((y299.length : Int) - 1)) < (y299.length : Int) then (if (rd_L3 y299 (wrap64 ((y299.length : Int) - 1))).length < 8796093022208 then (chaseref1_PagesOf.l0 k1 (y299.set ((wrap64 ((y299.length : Int) - 1)) : Int).toNat ((rd_L3 y299 (wrap64 ((y299.length : Int) - 1))) ++ [rdOf ByteArray.empty t294 x10_1])) t294 (t294.length : Int) (wrap64 (x10_1 + 1))) else (none)) else (none)) else (none)) = some r := by first | (rw [hy299]; with_reducible exact H) | (have H2_ := (Option.bind_some _ _).symm.trans H; rw [hy299]; with_reducible exact H2_) | (have H2_ := (Option.bind_some _ _).symm.trans H; with_reducible exact H2_) | with_reducible exact H | (rw [hy299]; exact H) | exact H
                    have Ny299 := Aside0.mk hy299
                    clear hy299
                    obtain ⟨ji15, hji15⟩ : ∃ j_ : Int, (wrap64 ((y299.length : Int) - 1)) = j_ := ⟨_, rfl⟩
                    replace H : (if 0 ≤ (ji15) then (if (ji15) < (y299.length : Int) then (if (rd_L3 y299 (ji15)).length < 8796093022208 then (chaseref1_PagesOf.l0 k1 (y299.set ((ji15) : Int).toNat ((rd_L3 y299 (ji15)) ++ [rdOf ByteArray.empty t294 x10_1])) t294 (t294.length : Int) (wrap64 (x10_1 + 1))) else (none)) else (none)) else (none)) = some r := by first | (rw [hji15] at H; exact H) | (simp only [hji15] at H ⊢; exact H)
                    have hji15w : (IntKind.i64.wrap ((y299.length : Int) - 1)) = ji15 := (i64_w _).trans hji15
                    by_cases c16 : 0 ≤ (ji15)
                    · rw [if_pos c16] at H
                      have c16b0 : decide (0 ≤ (ji15)) = true := decide_eq_true c16
                      clear c16
                      by_cases c17 : (ji15) < (y299.length : Int)
                      · rw [if_pos c17] at H
                        have c17b0 : decide ((ji15) < (y299.length : Int)) = true := decide_eq_true c17
                        clear c17
                        by_cases c18 : (rd_L3 y299 (ji15)).length < 8796093022208
                        · rw [if_pos c18] at H
                          have LMc18 := Aside0.mk c18
                          clear c18
                          obtain ⟨y303, hy303⟩ : ∃ y_ : List ByteArray, y_ = ((rd_L3 y299 (ji15)) ++ [rdOf ByteArray.empty t294 x10_1]) := ⟨_, rfl⟩
                          replace H : (chaseref1_PagesOf.l0 k1 (y299.set ((ji15) : Int).toNat y303) t294 (t294.length : Int) (wrap64 (x10_1 + 1))) = some r := by first | (rw [hy303]; with_reducible exact H) | (have H2_ := (Option.bind_some _ _).symm.trans H; rw [hy303]; with_reducible exact H2_) | (have H2_ := (Option.bind_some _ _).symm.trans H; with_reducible exact H2_) | with_reducible exact H | (rw [hy303]; exact H) | exact H
                          have Ny303 := Aside0.mk hy303
                          clear hy303
                          obtain ⟨y306, hy306⟩ : ∃ y_ : List (List ByteArray), y_ = (y299.set ((ji15) : Int).toNat y303) := ⟨_, rfl⟩
                          replace H : (chaseref1_PagesOf.l0 k1 y306 t294 (t294.length : Int) (wrap64 (x10_1 + 1))) = some r := by first | (rw [hy306]; with_reducible exact H) | (have H2_ := (Option.bind_some _ _).symm.trans H; rw [hy306]; with_reducible exact H2_) | (have H2_ := (Option.bind_some _ _).symm.trans H; with_reducible exact H2_) | with_reducible exact H | (rw [hy306]; exact H) | exact H
                          have Ny306 := Aside0.mk hy306
                          clear hy306
                          have H' := Aside0.mk H
                          clear H
                          have p297 : 0 ≤ (x10_1 : Int) := of_decide_eq_true (by first | (with_reducible assumption) | assumption)
                          have q297 : x10_1 < (t294.length : Int) := of_decide_eq_true (by first | (with_reducible assumption) | assumption)
                          obtain ⟨ad297, e297, hx297_0⟩ := Kd.at_string (Kd.R_reads' HO_8.out).2.2 x10_1 p297 q297
                          cases e297
                          replace p297 := eq_true p297
                          replace q297 := eq_true q297
                          obtain ⟨Ao20, co20, eo20⟩ := Kd.S_slice HO_3.out
                          subst eo20
                          have p298 : 0 ≤ ((ji10) : Int) := of_decide_eq_true (by first | (with_reducible assumption) | assumption)
                          have q298 : (ji10) < (x3_1.length : Int) := of_decide_eq_true (by first | (with_reducible assumption) | assumption)
                          obtain ⟨ad298, A298_0, c298_0, e298, hx298_0, hl298_0, hi298_0⟩ := at_L3 (Kd.S_reads' HO_3.out).2.2 (ji10) p298 q298
                          cases e298
                          obtain ⟨ce298, hce298, hMe298, hcc298⟩ := Kd.S_get HO_3.out [] (ji10) p298 (by first | exact q298 | exact of_decide_eq_true (by first | (with_reducible assumption) | assumption) | (have e_ := (Kd.S_reads' HO_3.out).1; omega))
                          obtain ⟨ve298_0, rfl, ge298_0⟩ := hMe298
                          have hv298_0 := hcc298 0 _ rfl
                          rw [Nat.add_zero, show ((Kd.slice 9 Kd.string)).sz = 1 from rfl, Nat.mul_one] at hv298_0
                          replace hv298_0 := Option.some.inj (hv298_0.symm.trans hx298_0)
                          rw [hv298_0] at ge298_0
                          have HL298_0 := Aside0.mk (show Kd.R Kd.string 9 _ _ _ _ (rd_L3 x3_1 (ji10)) from ge298_0)
                          clear hv298_0 ge298_0
                          have HX298_0 := Aside0.mk hx298_0
                          clear hcc298 hce298
                          have HR298_0 := Aside0.mk hi298_0
                          have HC298_0 := Aside0.mk hl298_0
                          clear hi298_0 hl298_0
                          replace p298 := eq_true p298
                          replace q298 := eq_true q298
                          go_wp2_with (first | ((with_reducible refine gate_builtin (b := .append) (xs := #[.tmp 22, .tmp 23]) rfl ?_); at_builtin; refine Kd.S_append (Kd.slice 9 Kd.string) (w0 := w) w.heap.size rfl (.tmp 22) (.tmp 23) 31 27 (.slice none 0 0) 24 rfl Tryz.underlying31 info27 rfl (by decide) (by omega) (.slice (some ad298) x3_1.length co20) x3_1 [] [.slice none 0 0] (fun k_ => some k_ ≠ (.slice (some ad297) t294.length co6 : Value).ownBlock) (fun _ => False) rfl rfl ?aP (fun _ hk => hk.elim) ?aF ?aO ?aB ?aS ?aL ?_; (case aP => exact ⟨.slice none 0 0, rfl, Kd.R_nil _ _ _ _ _⟩); (case aB => exact (by repeat (first | (with_reducible first | exact HB.out | apply below_alloc | apply pw_below_drewN | apply below_drew1) | exact HB.out))); (case aF => exact (fun k_ hk => Kd.fresh' (Kd.R_lt (by (with_reducible repeat (first | apply Kd.R_alloc | apply Kd.R_drewN | apply Kd.R_drew)); exact HO_8.out)) k_ hk)); (case aO => exact (by (with_reducible repeat (first | apply Kd.S_alloc | apply Kd.S_drewN | apply Kd.S_drew)); exact Kd.S_mono HO_3.out (fun k_ hk => ⟨hk, fun e_ => e_⟩))); (case aS => exact (below_size (by repeat (first | (with_reducible first | exact HB.out | apply below_alloc | apply pw_below_drewN | apply below_drew1) | exact HB.out)))); (case aL => have := LMc14.out; omega); intro v300 w21 ho hb hg hat; rw [← Ny299.out] at ho; have n0_ := Aside0.mk (Kd.R_over' (by (with_reducible repeat (first | apply Kd.R_alloc | apply Kd.R_drewN | apply Kd.R_drew)); exact HO_8.out) (Kd.S_typed (by (with_reducible repeat (first | apply Kd.S_alloc | apply Kd.S_drewN | apply Kd.S_drew)); exact HO_3.out)) (by decide) hg); have n1_ := Aside0.mk (Kd.R_after (ok := (fun k_ => some k_ ≠ (.slice (some ad297) t294.length co6 : Value).ownBlock)) (by (with_reducible repeat (first | apply Kd.R_alloc | apply Kd.R_drewN | apply Kd.R_drew)); exact HL298_0.out) hg hat); have n2_ := Aside0.mk (hb); have n3_ := Aside0.mk (ho); clear HO_8; clear HL298_0; clear HB; clear HO_3; have HO_8 := n0_; have HL298_0 := n1_; have HB := n2_; have HO301 := n3_; clear n0_ n1_ n2_ n3_; clear ho hb hg hat; obtain ⟨Ao22, co22, eo22⟩ := Kd.S_slice HO301.out; subst eo22; have p302 : 0 ≤ ((ji15) : Int) := of_decide_eq_true (by first | (with_reducible assumption) | assumption); have q302 : (ji15) < (y299.length : Int) := of_decide_eq_true (by first | (with_reducible assumption) | assumption); obtain ⟨ad302, A302_0, c302_0, e302, hx302_0, hl302_0, hi302_0⟩ := at_L3 (Kd.S_reads' HO301.out).2.2 (ji15) p302 q302; cases e302; obtain ⟨ce302, hce302, hMe302, hcc302⟩ := Kd.S_get HO301.out [] (ji15) p302 (by first | exact q302 | exact of_decide_eq_true (by first | (with_reducible assumption) | assumption) | (have e_ := (Kd.S_reads' HO301.out).1; omega)); obtain ⟨ve302_0, rfl, ge302_0⟩ := hMe302; have hv302_0 := hcc302 0 _ rfl; rw [Nat.add_zero, show ((Kd.slice 9 Kd.string)).sz = 1 from rfl, Nat.mul_one] at hv302_0; replace hv302_0 := Option.some.inj (hv302_0.symm.trans hx302_0); rw [hv302_0] at ge302_0; have HL302_0 := Aside0.mk (show Kd.R Kd.string 9 _ _ _ _ (rd_L3 y299 (ji15)) from ge302_0); clear hv302_0 ge302_0; have HX302_0 := Aside0.mk hx302_0; clear hcc302 hce302; have HR302_0 := Aside0.mk hi302_0; have HC302_0 := Aside0.mk hl302_0; clear hi302_0 hl302_0; replace p302 := eq_true p302; replace q302 := eq_true q302; obtain ⟨go23, co23, eo23, gb23, gl23, cl23, HG23⟩ := Kd.S_form HO301.out (by have h_ : ((ji15) : Int) < ((y299.length : Int) : Int) := of_decide_eq_true (by first | (with_reducible assumption) | assumption); have h2_ : 0 ≤ ((ji15) : Int) := (of_decide_eq_true (by first | (with_reducible assumption) | assumption)); omega); (first | cases eo23 | (injection eo23 with ea_ en_ ec_; (first | subst ea_ | (injection ea_ with ea_; subst ea_)); subst ec_; clear en_)); have GB23 := Aside0.mk gb23; have GG23 := Aside0.mk HG23; clear gb23 gl23 HG23; (first | simp only [add_plain] at hx302_0 | skip); obtain ⟨oki23, ce23, hcl23, hM23, hcc23, _, _, hH23⟩ := Kd.S_elem HO301.out [] ((ji15) : Int) (of_decide_eq_true (by first | (with_reducible assumption) | assumption)) (by have h_ : ((ji15) : Int) < ((y299.length : Int) : Int) := of_decide_eq_true (by first | (with_reducible assumption) | assumption); first | exact h_ | (have e_ := (Kd.S_reads' HO301.out).1; omega) | simpa using h_); obtain ⟨ve23_0, rfl, ge23_0⟩ := hM23; have hv23 := hcc23 0 _ rfl; have hX23 := HX302_0.out; (try simp only [add_plain] at hX23); (try simp only [Nat.add_zero] at hv23); (try rw [show ((Kd.slice 9 Kd.string)).sz = 1 from rfl, Nat.mul_one] at hv23); replace hv23 := Option.some.inj (hv23.symm.trans hX23); subst hv23; clear hX23 hcc23 hcl23; have UU23 := Aside0.mk (show Kd.R Kd.string 9 _ w.heap.size oki23 (.slice A302_0 (rd_L3 y299 (ji15)).length c302_0) (rd_L3 y299 (ji15)) from ge23_0); have HH23 := Aside0.mk hH23; have HN23 := Aside0.mk (Kd.S_reads' HO301.out).1; clear hH23 ge23_0) | ((with_reducible refine gate_builtin (b := .append) (xs := #[.tmp 34, .tmp 36]) rfl ?_); at_builtin; refine Kd.R_append Kd.string (w0 := w) w.heap.size rfl (.tmp 34) (.tmp 36) 27 9 (.string ⟨#[]⟩) 16 rfl Tryz.underlying27 info9 rfl (by decide) (by omega) (.slice A302_0 (rd_L3 y299 (ji15)).length c302_0) (rd_L3 y299 (ji15)) (rdOf ByteArray.empty t294 x10_1) [.string (rdOf ByteArray.empty t294 x10_1)] (fun k_ => oki23 k_ ∨ ((fun k_ => some k_ ≠ (.slice (some ad297) t294.length co6 : Value).ownBlock)) k_ ∧ w21.heap.size ≤ k_) (fun _ => False) rfl rfl ?aP (fun _ hk => hk.elim) ?aF ?aO ?aB ?aS ?aL ?_; (case aP => exact rfl); (case aB => exact (by repeat (first | (with_reducible first | exact HB.out | apply below_alloc | apply pw_below_drewN | apply below_drew1) | exact HB.out))); (case aF => exact (fun k_ hk => .inr ⟨Kd.fresh' (Kd.R_lt (by (with_reducible repeat (first | apply Kd.R_alloc | apply Kd.R_drewN | apply Kd.R_drew)); exact HO_8.out)) k_ hk, hk⟩)); (case aO => exact (by (with_reducible repeat (first | apply Kd.R_alloc | apply Kd.R_drewN | apply Kd.R_drew)); exact Kd.R_mono UU23.out (fun _ hk => .inl hk))); (case aS => exact (below_size (by repeat (first | (with_reducible first | exact HB.out | apply below_alloc | apply pw_below_drewN | apply below_drew1) | exact HB.out)))); (case aL => have := LMc18.out; omega); intro v304 w24 ho hb hg hat; rw [← Ny303.out] at ho; have n0_ := Aside0.mk (Kd.R_grown2 (by (with_reducible repeat (first | apply Kd.R_alloc | apply Kd.R_drewN | apply Kd.R_drew)); exact HO_8.out) rfl hg (fun k_ e_ => (HL302_0.out.1 k_ e_).1)); have n1_ := Aside0.mk (hb); have n2_ := Aside0.mk (Kd.H_grown (Kd.H_widen (by repeat (first | exact HH23.out | refine Kd.H_alloc ?_ _ | refine Kd.H_drewN ?_ _ | refine Kd.H_drew ?_))) hg (fun k_ e_ => .inl (UU23.out.1 k_ e_))); have n3_ := Aside0.mk (ho); clear HO_8; clear HB; clear HH23; clear HO301; clear UU23; clear HL298_0; clear HL302_0; have HO_8 := n0_; have HB := n1_; have HH23 := n2_; have HO305 := n3_; clear n0_ n1_ n2_ n3_; clear ho hb hg hat; have p19 : 0 ≤ ((ji15) : Int) := of_decide_eq_true (by first | (with_reducible assumption) | assumption); have q19 : ((ji15) : Int) < ((y299.length : Int) : Int) := of_decide_eq_true (by first | (with_reducible assumption) | assumption); replace p19 := eq_true p19; replace q19 := eq_true q19; obtain ⟨Ao27, co27, eo27⟩ := Kd.R_slice HO305.out; subst eo27; obtain ⟨_, _, hraw25, _, _, hcc25, _⟩ := Kd.H_raw HH23.out (of_decide_eq_true (by first | (with_reducible assumption) | assumption)) (by have h_ : ((ji15) : Int) < ((y299.length : Int) : Int) := of_decide_eq_true (by first | (with_reducible assumption) | assumption); first | exact h_ | (have e_ := (HN23.out); omega) | simpa using h_); obtain ⟨_, hfr25⟩ := Kd.H_at HH23.out (of_decide_eq_true (by first | (with_reducible assumption) | assumption)) (by have h_ : ((ji15) : Int) < ((y299.length : Int) : Int) := of_decide_eq_true (by first | (with_reducible assumption) | assumption); first | exact h_ | (have e_ := (HN23.out); omega) | simpa using h_); have hx25_0 := hcc25 0 _ rfl; have hf25_0 := hfr25 0; (try simp only [Nat.add_zero] at hx25_0 hf25_0); (try rw [show ((Kd.slice 9 Kd.string)).sz = 1 from rfl, Nat.mul_one] at hx25_0); (try rw [show ((Kd.slice 9 Kd.string)).sz = 1 from rfl, Nat.mul_one] at hf25_0); have HP25 := Kd.S_seg0 HH23.out (of_decide_eq_true (by first | (with_reducible assumption) | assumption)) (by have h_ : ((ji15) : Int) < ((y299.length : Int) : Int) := of_decide_eq_true (by first | (with_reducible assumption) | assumption); first | exact h_ | (have e_ := (HN23.out); omega) | simpa using h_) (seg := [.slice Ao27 y303.length co27]) (j := 0) (show 1 ≤ 1 from by decide) (x' := y303) (Kd.M_row HO305.out) (fun _ hk => hk); (try simp only [show ((Kd.slice 9 Kd.string)).sz = 1 from rfl, Nat.mul_one, Nat.add_zero] at HP25); clear hcc25 hfr25) | ((with_reducible refine gate_store (t := 27) (p := 38) rfl ?_); refine store_event (t := 27) (p := 38) (v := ?vo_w26) (w1 := (w24.setCell ⟨go23, ((ji15) : Int).toNat, none⟩ (.slice Ao27 y303.length co27))) ?hg ?ho ?hn ?hr ?_; (case ho => rfl); (case hg => rfl); (case hn => rfl); (case hr => first | (go_simp; done) | (go_simp; rfl)); intro w26 hw; have hg : w24.grownBy w26 (some go23) := (by rw [hw]; exact HP25.2); have hp_ : Kd.S (Kd.slice 9 Kd.string) 27 w26 w.heap.size (fun k_ => some k_ ≠ (.slice (some ad297) t294.length co6 : Value).ownBlock) (.slice (some ⟨go23, 0, none⟩) y299.length co22) y306 := (by rw [hw, Ny306.out]; exact HP25.1); clear HP25; have n0_ := Aside0.mk (Kd.R_over' (v := (.slice (some ⟨go23, 0, none⟩) y299.length co22)) (by (with_reducible repeat (first | apply Kd.R_alloc | apply Kd.R_drewN | apply Kd.R_drew)); exact HO_8.out) (Kd.R_typed hraw25) (by decide) hg); have n1_ := Aside0.mk ((by rw [hw]; exact below_set HB.out GB23.out : Below w.heap.size w w26)); have n2_ := Aside0.mk (hp_); clear HO_8; clear HB; clear HO305; clear HH23; have HO_8 := n0_; have HB := n1_; have HO301 := n2_; clear n0_ n1_ n2_; clear hg hw hp_ hraw25))
                          go_roundg k1
                          case measure => have := HK1.out; omega
                          case rel => exact ⟨(y306), (wrap64 (x10_1 + 1)), (by first | rfl | (simp; done) | (simp [*]; done)), H', ⟨by have := HK1.out; omega⟩, ⟨by (with_reducible repeat (first | apply Kd.S_alloc | apply Kd.S_drewN | apply Kd.S_drew)); exact HO301.out⟩, ⟨by (with_reducible repeat (first | apply Kd.R_alloc | apply Kd.R_drewN | apply Kd.R_drew)); exact HO_8.out⟩, ⟨by repeat (first | (with_reducible first | exact HB.out | apply below_alloc | apply pw_below_drewN | apply below_drew1) | exact HB.out)⟩⟩
                        · rw [if_neg c18] at H
                          exact absurd H (by simp)
                      · rw [if_neg c17] at H
                        exact absurd H (by simp)
                    · rw [if_neg c16] at H
                      exact absurd H (by simp)
                  · rw [if_neg c14] at H
                    exact absurd H (by simp)
                · rw [if_neg c13] at H
                  have c13b0 : (((rd_L3 x3_1 (ji10)).length : Int) == 50) = false := beq_eq_false_iff_ne.mpr c13
                  have c13b1 : (((rd_L3 x3_1 (ji10)).length : Int) != 50) = true := bne_iff_ne.mpr c13
                  by_cases c28 : (rd_L3 x3_1 (ji10)).length < 8796093022208
                  · rw [if_pos c28] at H
                    have LMc28 := Aside0.mk c28
                    clear c28
                    obtain ⟨y308, hy308⟩ : ∃ y_ : List ByteArray, y_ = ((rd_L3 x3_1 (ji10)) ++ [rdOf ByteArray.empty t294 x10_1]) := ⟨_, rfl⟩
                    replace H : (chaseref1_PagesOf.l0 k1 (x3_1.set ((ji10) : Int).toNat y308) t294 (t294.length : Int) (wrap64 (x10_1 + 1))) = some r := by first | (rw [hy308]; with_reducible exact H) | (have H2_ := (Option.bind_some _ _).symm.trans H; rw [hy308]; with_reducible exact H2_) | (have H2_ := (Option.bind_some _ _).symm.trans H; with_reducible exact H2_) | with_reducible exact H | (rw [hy308]; exact H) | exact H
                    have Ny308 := Aside0.mk hy308
                    clear hy308
                    obtain ⟨y311, hy311⟩ : ∃ y_ : List (List ByteArray), y_ = (x3_1.set ((ji10) : Int).toNat y308) := ⟨_, rfl⟩
                    replace H : (chaseref1_PagesOf.l0 k1 y311 t294 (t294.length : Int) (wrap64 (x10_1 + 1))) = some r := by first | (rw [hy311]; with_reducible exact H) | (have H2_ := (Option.bind_some _ _).symm.trans H; rw [hy311]; with_reducible exact H2_) | (have H2_ := (Option.bind_some _ _).symm.trans H; with_reducible exact H2_) | with_reducible exact H | (rw [hy311]; exact H) | exact H
                    have Ny311 := Aside0.mk hy311
                    clear hy311
                    have H' := Aside0.mk H
                    clear H
                    have p297 : 0 ≤ (x10_1 : Int) := of_decide_eq_true (by first | (with_reducible assumption) | assumption)
                    have q297 : x10_1 < (t294.length : Int) := of_decide_eq_true (by first | (with_reducible assumption) | assumption)
                    obtain ⟨ad297, e297, hx297_0⟩ := Kd.at_string (Kd.R_reads' HO_8.out).2.2 x10_1 p297 q297
                    cases e297
                    replace p297 := eq_true p297
                    replace q297 := eq_true q297
                    obtain ⟨Ao30, co30, eo30⟩ := Kd.S_slice HO_3.out
                    subst eo30
                    have p298 : 0 ≤ ((ji10) : Int) := of_decide_eq_true (by first | (with_reducible assumption) | assumption)
                    have q298 : (ji10) < (x3_1.length : Int) := of_decide_eq_true (by first | (with_reducible assumption) | assumption)
                    obtain ⟨ad298, A298_0, c298_0, e298, hx298_0, hl298_0, hi298_0⟩ := at_L3 (Kd.S_reads' HO_3.out).2.2 (ji10) p298 q298
                    cases e298
                    obtain ⟨ce298, hce298, hMe298, hcc298⟩ := Kd.S_get HO_3.out [] (ji10) p298 (by first | exact q298 | exact of_decide_eq_true (by first | (with_reducible assumption) | assumption) | (have e_ := (Kd.S_reads' HO_3.out).1; omega))
                    obtain ⟨ve298_0, rfl, ge298_0⟩ := hMe298
                    have hv298_0 := hcc298 0 _ rfl
                    rw [Nat.add_zero, show ((Kd.slice 9 Kd.string)).sz = 1 from rfl, Nat.mul_one] at hv298_0
                    replace hv298_0 := Option.some.inj (hv298_0.symm.trans hx298_0)
                    rw [hv298_0] at ge298_0
                    have HL298_0 := Aside0.mk (show Kd.R Kd.string 9 _ _ _ _ (rd_L3 x3_1 (ji10)) from ge298_0)
                    clear hv298_0 ge298_0
                    have HX298_0 := Aside0.mk hx298_0
                    clear hcc298 hce298
                    have HR298_0 := Aside0.mk hi298_0
                    have HC298_0 := Aside0.mk hl298_0
                    clear hi298_0 hl298_0
                    replace p298 := eq_true p298
                    replace q298 := eq_true q298
                    have p307 : 0 ≤ ((ji10) : Int) := of_decide_eq_true (by first | (with_reducible assumption) | assumption)
                    have q307 : (ji10) < (x3_1.length : Int) := of_decide_eq_true (by first | (with_reducible assumption) | assumption)
                    obtain ⟨ad307, A307_0, c307_0, e307, hx307_0, hl307_0, hi307_0⟩ := at_L3 (Kd.S_reads' HO_3.out).2.2 (ji10) p307 q307
                    obtain rfl : ad298 = ad307 := (by injection e307)
                    obtain ⟨ce307, hce307, hMe307, hcc307⟩ := Kd.S_get HO_3.out [] (ji10) p307 (by first | exact q307 | exact of_decide_eq_true (by first | (with_reducible assumption) | assumption) | (have e_ := (Kd.S_reads' HO_3.out).1; omega))
                    obtain ⟨ve307_0, rfl, ge307_0⟩ := hMe307
                    have hv307_0 := hcc307 0 _ rfl
                    rw [Nat.add_zero, show ((Kd.slice 9 Kd.string)).sz = 1 from rfl, Nat.mul_one] at hv307_0
                    replace hv307_0 := Option.some.inj (hv307_0.symm.trans hx307_0)
                    rw [hv307_0] at ge307_0
                    have HL307_0 := Aside0.mk (show Kd.R Kd.string 9 _ _ _ _ (rd_L3 x3_1 (ji10)) from ge307_0)
                    clear hv307_0 ge307_0
                    have HX307_0 := Aside0.mk hx307_0
                    clear hcc307 hce307
                    have HR307_0 := Aside0.mk hi307_0
                    have HC307_0 := Aside0.mk hl307_0
                    clear hi307_0 hl307_0
                    replace p307 := eq_true p307
                    replace q307 := eq_true q307
                    have ea_ := Option.some.inj (hx298_0.symm.trans hx307_0)
                    injection ea_ with ea_ en_ ec_
                    subst ea_
                    subst ec_
                    clear en_
                    obtain ⟨go31, co31, eo31, gb31, gl31, cl31, HG31⟩ := Kd.S_form HO_3.out (by have h_ : ((ji10) : Int) < ((x3_1.length : Int) : Int) := of_decide_eq_true (by first | (with_reducible assumption) | assumption); have h2_ : 0 ≤ ((ji10) : Int) := (of_decide_eq_true (by first | (with_reducible assumption) | assumption)); omega)
                    (first | cases eo31 | (injection eo31 with ea_ en_ ec_; (first | subst ea_ | (injection ea_ with ea_; subst ea_)); subst ec_; clear en_))
                    have GB31 := Aside0.mk gb31
                    have GG31 := Aside0.mk HG31
                    clear gb31 gl31 HG31
                    (first | simp only [add_plain] at hx298_0 | skip)
                    (first | simp only [add_plain] at hx307_0 | skip)
                    obtain ⟨oki31, ce31, hcl31, hM31, hcc31, _, _, hH31⟩ := Kd.S_elem HO_3.out [] ((ji10) : Int) (of_decide_eq_true (by first | (with_reducible assumption) | assumption)) (by have h_ : ((ji10) : Int) < ((x3_1.length : Int) : Int) := of_decide_eq_true (by first | (with_reducible assumption) | assumption); first | exact h_ | (have e_ := (Kd.S_reads' HO_3.out).1; omega) | simpa using h_)
                    obtain ⟨ve31_0, rfl, ge31_0⟩ := hM31
                    have hv31 := hcc31 0 _ rfl
                    have hX31 := HX307_0.out
                    (try simp only [add_plain] at hX31)
                    (try simp only [Nat.add_zero] at hv31)
                    (try rw [show ((Kd.slice 9 Kd.string)).sz = 1 from rfl, Nat.mul_one] at hv31)
                    replace hv31 := Option.some.inj (hv31.symm.trans hX31)
                    subst hv31
                    clear hX31 hcc31 hcl31
                    have UU31 := Aside0.mk (show Kd.R Kd.string 9 _ w.heap.size oki31 (.slice A298_0 (rd_L3 x3_1 (ji10)).length c298_0) (rd_L3 x3_1 (ji10)) from ge31_0)
                    have HH31 := Aside0.mk hH31
                    have HN31 := Aside0.mk (Kd.S_reads' HO_3.out).1
                    clear hH31 ge31_0
                    go_wp2_with (first | ((with_reducible refine gate_builtin (b := .append) (xs := #[.tmp 34, .tmp 36]) rfl ?_); at_builtin; refine Kd.R_append Kd.string (w0 := w) w.heap.size rfl (.tmp 34) (.tmp 36) 27 9 (.string ⟨#[]⟩) 16 rfl Tryz.underlying27 info9 rfl (by decide) (by omega) (.slice A298_0 (rd_L3 x3_1 (ji10)).length c298_0) (rd_L3 x3_1 (ji10)) (rdOf ByteArray.empty t294 x10_1) [.string (rdOf ByteArray.empty t294 x10_1)] (fun k_ => oki31 k_ ∨ ((fun k_ => some k_ ≠ (.slice (some ad297) t294.length co6 : Value).ownBlock)) k_ ∧ wr.heap.size ≤ k_) (fun _ => False) rfl rfl ?aP (fun _ hk => hk.elim) ?aF ?aO ?aB ?aS ?aL ?_; (case aP => exact rfl); (case aB => exact (by repeat (first | (with_reducible first | exact HB.out | apply below_alloc | apply pw_below_drewN | apply below_drew1) | exact HB.out))); (case aF => exact (fun k_ hk => .inr ⟨Kd.fresh' (Kd.R_lt (by (with_reducible repeat (first | apply Kd.R_alloc | apply Kd.R_drewN | apply Kd.R_drew)); exact HO_8.out)) k_ hk, hk⟩)); (case aO => exact (by (with_reducible repeat (first | apply Kd.R_alloc | apply Kd.R_drewN | apply Kd.R_drew)); exact Kd.R_mono UU31.out (fun _ hk => .inl hk))); (case aS => exact (below_size (by repeat (first | (with_reducible first | exact HB.out | apply below_alloc | apply pw_below_drewN | apply below_drew1) | exact HB.out)))); (case aL => have := LMc28.out; omega); intro v309 w32 ho hb hg hat; rw [← Ny308.out] at ho; have n0_ := Aside0.mk (Kd.R_grown2 (by (with_reducible repeat (first | apply Kd.R_alloc | apply Kd.R_drewN | apply Kd.R_drew)); exact HO_8.out) rfl hg (fun k_ e_ => (HL307_0.out.1 k_ e_).1)); have n1_ := Aside0.mk (hb); have n2_ := Aside0.mk (Kd.H_grown (Kd.H_widen (by repeat (first | exact HH31.out | refine Kd.H_alloc ?_ _ | refine Kd.H_drewN ?_ _ | refine Kd.H_drew ?_))) hg (fun k_ e_ => .inl (UU31.out.1 k_ e_))); have n3_ := Aside0.mk (ho); clear HO_8; clear HB; clear HH31; clear HO_3; clear UU31; clear HL298_0; clear HL307_0; have HO_8 := n0_; have HB := n1_; have HH31 := n2_; have HO310 := n3_; clear n0_ n1_ n2_ n3_; clear ho hb hg hat; have p29 : 0 ≤ ((ji10) : Int) := of_decide_eq_true (by first | (with_reducible assumption) | assumption); have q29 : ((ji10) : Int) < ((x3_1.length : Int) : Int) := of_decide_eq_true (by first | (with_reducible assumption) | assumption); replace p29 := eq_true p29; replace q29 := eq_true q29; obtain ⟨Ao35, co35, eo35⟩ := Kd.R_slice HO310.out; subst eo35; obtain ⟨_, _, hraw33, _, _, hcc33, _⟩ := Kd.H_raw HH31.out (of_decide_eq_true (by first | (with_reducible assumption) | assumption)) (by have h_ : ((ji10) : Int) < ((x3_1.length : Int) : Int) := of_decide_eq_true (by first | (with_reducible assumption) | assumption); first | exact h_ | (have e_ := (HN31.out); omega) | simpa using h_); obtain ⟨_, hfr33⟩ := Kd.H_at HH31.out (of_decide_eq_true (by first | (with_reducible assumption) | assumption)) (by have h_ : ((ji10) : Int) < ((x3_1.length : Int) : Int) := of_decide_eq_true (by first | (with_reducible assumption) | assumption); first | exact h_ | (have e_ := (HN31.out); omega) | simpa using h_); have hx33_0 := hcc33 0 _ rfl; have hf33_0 := hfr33 0; (try simp only [Nat.add_zero] at hx33_0 hf33_0); (try rw [show ((Kd.slice 9 Kd.string)).sz = 1 from rfl, Nat.mul_one] at hx33_0); (try rw [show ((Kd.slice 9 Kd.string)).sz = 1 from rfl, Nat.mul_one] at hf33_0); have HP33 := Kd.S_seg0 HH31.out (of_decide_eq_true (by first | (with_reducible assumption) | assumption)) (by have h_ : ((ji10) : Int) < ((x3_1.length : Int) : Int) := of_decide_eq_true (by first | (with_reducible assumption) | assumption); first | exact h_ | (have e_ := (HN31.out); omega) | simpa using h_) (seg := [.slice Ao35 y308.length co35]) (j := 0) (show 1 ≤ 1 from by decide) (x' := y308) (Kd.M_row HO310.out) (fun _ hk => hk); (try simp only [show ((Kd.slice 9 Kd.string)).sz = 1 from rfl, Nat.mul_one, Nat.add_zero] at HP33); clear hcc33 hfr33) | ((with_reducible refine gate_store (t := 27) (p := 38) rfl ?_); refine store_event (t := 27) (p := 38) (v := ?vo_w34) (w1 := (w32.setCell ⟨go31, ((ji10) : Int).toNat, none⟩ (.slice Ao35 y308.length co35))) ?hg ?ho ?hn ?hr ?_; (case ho => rfl); (case hg => rfl); (case hn => rfl); (case hr => first | (go_simp; done) | (go_simp; rfl)); intro w34 hw; have hg : w32.grownBy w34 (some go31) := (by rw [hw]; exact HP33.2); have hp_ : Kd.S (Kd.slice 9 Kd.string) 27 w34 w.heap.size (fun k_ => some k_ ≠ (.slice (some ad297) t294.length co6 : Value).ownBlock) (.slice (some ⟨go31, 0, none⟩) x3_1.length co30) y311 := (by rw [hw, Ny311.out]; exact HP33.1); clear HP33; have n0_ := Aside0.mk (Kd.R_over' (v := (.slice (some ⟨go31, 0, none⟩) x3_1.length co30)) (by (with_reducible repeat (first | apply Kd.R_alloc | apply Kd.R_drewN | apply Kd.R_drew)); exact HO_8.out) (Kd.R_typed hraw33) (by decide) hg); have n1_ := Aside0.mk ((by rw [hw]; exact below_set HB.out GB31.out : Below w.heap.size w w34)); have n2_ := Aside0.mk (hp_); clear HO_8; clear HB; clear HO310; clear HH31; have HO_8 := n0_; have HB := n1_; have HO_3 := n2_; clear n0_ n1_ n2_; clear hg hw hp_ hraw33))
                    go_roundg k1
                    case measure => have := HK1.out; omega
                    case rel => exact ⟨(y311), (wrap64 (x10_1 + 1)), (by first | rfl | (simp; done) | (simp [*]; done)), H', ⟨by have := HK1.out; omega⟩, ⟨by (with_reducible repeat (first | apply Kd.S_alloc | apply Kd.S_drewN | apply Kd.S_drew)); exact HO_3.out⟩, ⟨by (with_reducible repeat (first | apply Kd.R_alloc | apply Kd.R_drewN | apply Kd.R_drew)); exact HO_8.out⟩, ⟨by repeat (first | (with_reducible first | exact HB.out | apply below_alloc | apply pw_below_drewN | apply below_drew1) | exact HB.out)⟩⟩
                  · rw [if_neg c28] at H
                    exact absurd H (by simp)
              · rw [if_neg c12] at H
                exact absurd H (by simp)
            · rw [if_neg c11] at H
              exact absurd H (by simp)
          · rw [if_neg c9] at H
            exact absurd H (by simp)
        · rw [if_neg c8] at H
          exact absurd H (by simp)
      · rw [if_neg c7] at H
        have c7b0 : decide (x10_1 < (t294.length : Int)) = false := decide_eq_false c7
        clear c7
        obtain rfl := Option.some.inj H
        go_wp2
        go_ret
        exact ⟨_, by first | rfl | (simp [errW_none, errW_some] <;> rfl) | (simp [*, errW_none, errW_some] <;> rfl), by (with_reducible repeat (first | apply Kd.S_alloc | apply Kd.S_drewN | apply Kd.S_drew)); exact Kd.S_mono HO_3.out (fun _ hk => trivial), by repeat (first | (with_reducible first | exact HB.out | apply below_alloc | apply pw_below_drewN | apply below_drew1) | exact HB.out)⟩
mutual
def chaselaw1_TextsPaged.j1 : Nat → Bool → Option (Bool)
  | 0, _ => none
  | k + 1, x2 => some x2
def chaselaw1_TextsPaged.j0 : Nat → Bool → Option (Bool)
  | 0, _ => none
  | k + 1, x2 => some x2
end
def chaselaw1_TextsPaged.f (k : Nat) (l0 : List Int) : Option (Bool) := (chasemake_Stream_PaperText.f k l0 0).bind fun bt313 => ((produce_Wrap.f k bt313.1).bind fun bt315 => ((produce_Pages.f k bt313.1).bind fun bt319 => ((chaseref1_BodyFault.f bt313.1).bind fun t323 => (if t323 = 0 then ((chaselaw1_produces.f k).bind fun t325 => (if t325 = true then (if bt315.2 = 0 then (if bt319.2 = 0 then ((chaseref1_WrapOf.f k bt313.1).bind fun t326 => ((slices_Equal_string_string.f k bt315.1 t326).bind fun t329 => (if t329 = true then ((chaseref1_PagesOf.f k bt313.1).bind fun t330 => ((chaseref1_SameTable.f bt319.1 t330).bind fun t333 => (chaselaw1_TextsPaged.j1 k t333))) else (chaselaw1_TextsPaged.j1 k false)))) else (chaselaw1_TextsPaged.j1 k false)) else (chaselaw1_TextsPaged.j1 k false)) else (chaselaw1_TextsPaged.j1 k false))) else ((chaselaw1_produces.f k).bind fun t324 => (if t324 = true then (if bt315.2 = t323 then (chaselaw1_TextsPaged.j0 k (bt319.2 == t323)) else (chaselaw1_TextsPaged.j0 k false)) else (chaselaw1_TextsPaged.j0 k false)))))))
theorem chaselaw1_TextsPaged.mono_l : ∀ k, (∀ y0, LeO (chaselaw1_TextsPaged.j1 k y0) (chaselaw1_TextsPaged.j1 (k + 1) y0)) ∧ (∀ y0, LeO (chaselaw1_TextsPaged.j0 k y0) (chaselaw1_TextsPaged.j0 (k + 1) y0))
  | 0 => ⟨fun _ r h => by simp [chaselaw1_TextsPaged.j1] at h, fun _ r h => by simp [chaselaw1_TextsPaged.j0] at h⟩
  | k + 1 => by
    obtain ⟨ih0, ih1⟩ := chaselaw1_TextsPaged.mono_l k
    refine ⟨?_, ?_⟩
    · intro y0
      unfold chaselaw1_TextsPaged.j1
      repeat' first
      | (with_reducible exact ih0 _)
      | (with_reducible exact ih1 _)
      | (with_reducible exact chaselaw1_produces.mono _)
      | (with_reducible exact chasemake_Stream_PaperText.mono _ _ _)
      | (with_reducible exact chaseref1_PagesOf.mono _ _)
      | (with_reducible exact chaseref1_WrapOf.mono _ _)
      | (with_reducible exact produce_Pages.mono _ _)
      | (with_reducible exact produce_Wrap.mono _ _)
      | (with_reducible exact slices_Equal_string_string.mono _ _ _)
      | (with_reducible exact LeO.refl _)
      | (with_reducible exact LeO.none _)
      | (with_reducible refine LeO.ite ?_ ?_)
      | (with_reducible refine LeO.bind ?_ (fun _ => ?_))
      | exact ih0 _
      | exact ih1 _
      | exact chaselaw1_produces.mono _
      | exact chasemake_Stream_PaperText.mono _ _ _
      | exact chaseref1_PagesOf.mono _ _
      | exact chaseref1_WrapOf.mono _ _
      | exact produce_Pages.mono _ _
      | exact produce_Wrap.mono _ _
      | exact slices_Equal_string_string.mono _ _ _
      | exact LeO.none _
      | refine LeO.ite ?_ ?_
      | refine LeO.bind ?_ (fun _ => ?_)
    · intro y0
      unfold chaselaw1_TextsPaged.j0
      repeat' first
      | (with_reducible exact ih0 _)
      | (with_reducible exact ih1 _)
      | (with_reducible exact chaselaw1_produces.mono _)
      | (with_reducible exact chasemake_Stream_PaperText.mono _ _ _)
      | (with_reducible exact chaseref1_PagesOf.mono _ _)
      | (with_reducible exact chaseref1_WrapOf.mono _ _)
      | (with_reducible exact produce_Pages.mono _ _)
      | (with_reducible exact produce_Wrap.mono _ _)
      | (with_reducible exact slices_Equal_string_string.mono _ _ _)
      | (with_reducible exact LeO.refl _)
      | (with_reducible exact LeO.none _)
      | (with_reducible refine LeO.ite ?_ ?_)
      | (with_reducible refine LeO.bind ?_ (fun _ => ?_))
      | exact ih0 _
      | exact ih1 _
      | exact chaselaw1_produces.mono _
      | exact chasemake_Stream_PaperText.mono _ _ _
      | exact chaseref1_PagesOf.mono _ _
      | exact chaseref1_WrapOf.mono _ _
      | exact produce_Pages.mono _ _
      | exact produce_Wrap.mono _ _
      | exact slices_Equal_string_string.mono _ _ _
      | exact LeO.none _
      | refine LeO.ite ?_ ?_
      | refine LeO.bind ?_ (fun _ => ?_)
theorem chaselaw1_TextsPaged.mono : ∀ a0 k, LeO (chaselaw1_TextsPaged.f k a0) (chaselaw1_TextsPaged.f (k + 1) a0) := by
  intro a0 k
  obtain ⟨ih0, ih1⟩ := chaselaw1_TextsPaged.mono_l k
  unfold chaselaw1_TextsPaged.f
  repeat' first
      | (with_reducible exact ih0 _)
      | (with_reducible exact ih1 _)
      | (with_reducible exact chaselaw1_produces.mono _)
      | (with_reducible exact chasemake_Stream_PaperText.mono _ _ _)
      | (with_reducible exact chaseref1_PagesOf.mono _ _)
      | (with_reducible exact chaseref1_WrapOf.mono _ _)
      | (with_reducible exact produce_Pages.mono _ _)
      | (with_reducible exact produce_Wrap.mono _ _)
      | (with_reducible exact slices_Equal_string_string.mono _ _ _)
      | (with_reducible exact LeO.refl _)
      | (with_reducible exact LeO.none _)
      | (with_reducible refine LeO.ite ?_ ?_)
      | (with_reducible refine LeO.bind ?_ (fun _ => ?_))
      | exact ih0 _
      | exact ih1 _
      | exact chaselaw1_produces.mono _
      | exact chasemake_Stream_PaperText.mono _ _ _
      | exact chaseref1_PagesOf.mono _ _
      | exact chaseref1_WrapOf.mono _ _
      | exact produce_Pages.mono _ _
      | exact produce_Wrap.mono _ _
      | exact slices_Equal_string_string.mono _ _ _
      | exact LeO.none _
      | refine LeO.ite ?_ ?_
      | refine LeO.bind ?_ (fun _ => ?_)
set_option maxHeartbeats 8000000 in
set_option maxRecDepth 100000 in
theorem chaselaw1_TextsPaged.calls (k : Nat) (A0 : Option Addr) (c0 : Nat) (l0 : List Int) (r : Bool) (w : World) (hr0 : Kd.C (Kd.int .i64) w A0 l0.length l0) (hc0 : l0.length ≤ c0) (hGl : Wd w) (h : chaselaw1_TextsPaged.f k l0 = some r) :
    Calls Tryz.prog 3 #[.slice A0 l0.length c0] w fun e w' => e = .returned (.bool r) ∧ Below w.heap.size w w' := by
  have hu25 := Tryz.underlying25
  have HGl := Aside0.mk hGl
  clear hGl
  have HR0 := Aside0.mk hr0
  have HC0 := Aside0.mk hc0
  clear hr0 hc0
  have HB := Aside0.mk (Below.refl w.heap.size w)
  have H : ((chasemake_Stream_PaperText.f k l0 0).bind fun bt313 => ((produce_Wrap.f k bt313.1).bind fun bt315 => ((produce_Pages.f k bt313.1).bind fun bt319 => ((chaseref1_BodyFault.f bt313.1).bind fun t323 => (if t323 = 0 then ((chaselaw1_produces.f k).bind fun t325 => (if t325 = true then (if bt315.2 = 0 then (if bt319.2 = 0 then ((chaseref1_WrapOf.f k bt313.1).bind fun t326 => ((slices_Equal_string_string.f k bt315.1 t326).bind fun t329 => (if t329 = true then ((chaseref1_PagesOf.f k bt313.1).bind fun t330 => ((chaseref1_SameTable.f bt319.1 t330).bind fun t333 => (chaselaw1_TextsPaged.j1 k t333))) else (chaselaw1_TextsPaged.j1 k false)))) else (chaselaw1_TextsPaged.j1 k false)) else (chaselaw1_TextsPaged.j1 k false)) else (chaselaw1_TextsPaged.j1 k false))) else ((chaselaw1_produces.f k).bind fun t324 => (if t324 = true then (if bt315.2 = t323 then (chaselaw1_TextsPaged.j0 k (bt319.2 == t323)) else (chaselaw1_TextsPaged.j0 k false)) else (chaselaw1_TextsPaged.j0 k false)))))))) = some r := h
  clear h
  replace H := Option.bind_eq_some_iff.mp H
  obtain ⟨⟨t313, t314⟩, A20, H⟩ := H
  replace H : ((produce_Wrap.f k t313).bind fun bt315 => ((produce_Pages.f k t313).bind fun bt319 => ((chaseref1_BodyFault.f t313).bind fun t323 => (if t323 = 0 then ((chaselaw1_produces.f k).bind fun t325 => (if t325 = true then (if bt315.2 = 0 then (if bt319.2 = 0 then ((chaseref1_WrapOf.f k t313).bind fun t326 => ((slices_Equal_string_string.f k bt315.1 t326).bind fun t329 => (if t329 = true then ((chaseref1_PagesOf.f k t313).bind fun t330 => ((chaseref1_SameTable.f bt319.1 t330).bind fun t333 => (chaselaw1_TextsPaged.j1 k t333))) else (chaselaw1_TextsPaged.j1 k false)))) else (chaselaw1_TextsPaged.j1 k false)) else (chaselaw1_TextsPaged.j1 k false)) else (chaselaw1_TextsPaged.j1 k false))) else ((chaselaw1_produces.f k).bind fun t324 => (if t324 = true then (if bt315.2 = t323 then (chaselaw1_TextsPaged.j0 k (bt319.2 == t323)) else (chaselaw1_TextsPaged.j0 k false)) else (chaselaw1_TextsPaged.j0 k false))))))) = some r := H
  have A2 := Aside0.mk A20
  clear A20
  replace H := Option.bind_eq_some_iff.mp H
  obtain ⟨⟨t315, t316⟩, A30, H⟩ := H
  replace H : ((produce_Pages.f k t313).bind fun bt319 => ((chaseref1_BodyFault.f t313).bind fun t323 => (if t323 = 0 then ((chaselaw1_produces.f k).bind fun t325 => (if t325 = true then (if t316 = 0 then (if bt319.2 = 0 then ((chaseref1_WrapOf.f k t313).bind fun t326 => ((slices_Equal_string_string.f k t315 t326).bind fun t329 => (if t329 = true then ((chaseref1_PagesOf.f k t313).bind fun t330 => ((chaseref1_SameTable.f bt319.1 t330).bind fun t333 => (chaselaw1_TextsPaged.j1 k t333))) else (chaselaw1_TextsPaged.j1 k false)))) else (chaselaw1_TextsPaged.j1 k false)) else (chaselaw1_TextsPaged.j1 k false)) else (chaselaw1_TextsPaged.j1 k false))) else ((chaselaw1_produces.f k).bind fun t324 => (if t324 = true then (if t316 = t323 then (chaselaw1_TextsPaged.j0 k (bt319.2 == t323)) else (chaselaw1_TextsPaged.j0 k false)) else (chaselaw1_TextsPaged.j0 k false)))))) = some r := H
  have A3 := Aside0.mk A30
  clear A30
  replace H := Option.bind_eq_some_iff.mp H
  obtain ⟨⟨t319, t320⟩, A40, H⟩ := H
  replace H : ((chaseref1_BodyFault.f t313).bind fun t323 => (if t323 = 0 then ((chaselaw1_produces.f k).bind fun t325 => (if t325 = true then (if t316 = 0 then (if t320 = 0 then ((chaseref1_WrapOf.f k t313).bind fun t326 => ((slices_Equal_string_string.f k t315 t326).bind fun t329 => (if t329 = true then ((chaseref1_PagesOf.f k t313).bind fun t330 => ((chaseref1_SameTable.f t319 t330).bind fun t333 => (chaselaw1_TextsPaged.j1 k t333))) else (chaselaw1_TextsPaged.j1 k false)))) else (chaselaw1_TextsPaged.j1 k false)) else (chaselaw1_TextsPaged.j1 k false)) else (chaselaw1_TextsPaged.j1 k false))) else ((chaselaw1_produces.f k).bind fun t324 => (if t324 = true then (if t316 = t323 then (chaselaw1_TextsPaged.j0 k (t320 == t323)) else (chaselaw1_TextsPaged.j0 k false)) else (chaselaw1_TextsPaged.j0 k false))))) = some r := H
  have A4 := Aside0.mk A40
  clear A40
  replace H := Option.bind_eq_some_iff.mp H
  obtain ⟨t323, A50, H⟩ := H
  replace H : (if t323 = 0 then ((chaselaw1_produces.f k).bind fun t325 => (if t325 = true then (if t316 = 0 then (if t320 = 0 then ((chaseref1_WrapOf.f k t313).bind fun t326 => ((slices_Equal_string_string.f k t315 t326).bind fun t329 => (if t329 = true then ((chaseref1_PagesOf.f k t313).bind fun t330 => ((chaseref1_SameTable.f t319 t330).bind fun t333 => (chaselaw1_TextsPaged.j1 k t333))) else (chaselaw1_TextsPaged.j1 k false)))) else (chaselaw1_TextsPaged.j1 k false)) else (chaselaw1_TextsPaged.j1 k false)) else (chaselaw1_TextsPaged.j1 k false))) else ((chaselaw1_produces.f k).bind fun t324 => (if t324 = true then (if t316 = t323 then (chaselaw1_TextsPaged.j0 k (t320 == t323)) else (chaselaw1_TextsPaged.j0 k false)) else (chaselaw1_TextsPaged.j0 k false)))) = some r := H
  have A5 := Aside0.mk A50
  clear A50
  by_cases c6 : t323 = 0
  · rw [if_pos c6] at H
    have c6b0 : (t323 == 0) = true := beq_iff_eq.mpr c6
    have c6b1 : (t323 != 0) = false := bne_eq_false_iff_eq.mpr c6
    clear c6
    have HC7 := Aside0.mk H
    clear H
    go_enter Tryz.func3, Tryz.ntmps3
    go_upto_region 8 with (first | ((with_reducible refine gate_dst (N := 12) rfl ?_); refine box_event ?hg (N := 12) ?hd (cs := #[.slice A0 l0.length c0, .int .i64 0]) (t := 25) ?hr ?_; (case hd => rfl); (case hg => rfl); (case hr => first | (go_simp; done) | (go_simp; rfl)); intro gb312 hg w8 hbox hb; have n0_ := Aside0.mk (below_step (by repeat (first | (with_reducible first | exact HB.out | apply below_alloc | apply pw_below_drewN | apply below_drew1) | exact HB.out)) hb); have n1_ := Aside0.mk ((⟨_, _, hbox, (by rw [hg]; exact (below_size (by repeat (first | (with_reducible first | exact HB.out | apply below_alloc | apply pw_below_drewN | apply below_drew1) | exact HB.out)))), HR0.out⟩ : IsS25 w _ gb312 l0 0)); clear HB; have HB := n0_; have HI312 := n1_; clear n0_ n1_; clear hb hbox hg) | ((with_reducible refine gate_callee (f := 5) rfl ?_); refine goesL_ (some 14) rfl rfl Tryz.func5 (by kernel_rfl) rfl #[.pointer (some ⟨gb312, 0, none⟩)] rfl (by (try simp only [List.map_toArray, List.map_cons, List.map_nil]); first | done | rfl | (simp only [List.length_drop, List.length_take]; rfl)) ?_; (with_reducible refine (chasemake_Stream_PaperText.calls k gb312 l0 0 t313 t314 w _ ?side1 ?side2 A2.out).mono ?_); (case side1 => repeat (first | (with_reducible first | exact HI312.out | apply IsS25.alloc | apply IsS25.drewN | apply IsS25.drew | apply IsS25.set_1) | exact HI312.out)); (case side2 => repeat (first | (with_reducible first | exact HB.out | apply below_alloc | apply pw_below_drewN | apply below_drew1 | refine below_set ?_ (IsS25.ge HI312.out)) | exact HB.out)); rintro e w9 ⟨rfl, hi, hb, hk⟩; refine ⟨_, rfl, ?_⟩; have n0_ := Aside0.mk (hb); have n1_ := Aside0.mk (hi); clear HB; clear HI312; have HB := n0_; have HI312 := n1_; clear n0_ n1_; (try clear hb); (try clear hb2); (try clear hk); (try clear hi)) | ((with_reducible refine gate_callee (f := 6) rfl ?_); refine goesL_ (some 17) rfl rfl Tryz.func6 (by kernel_rfl) rfl #[.string t313] rfl (by (try simp only [List.map_toArray, List.map_cons, List.map_nil]); first | done | rfl | (simp only [List.length_drop, List.length_take]; rfl)) ?_; (with_reducible refine (produce_Wrap.calls k t313 t315 t316 _ ?side1 A3.out).mono ?_); (case side1 => exact Wd.below HGl.out (by repeat (first | (with_reducible first | exact HB.out | apply below_alloc | apply pw_below_drewN | apply below_drew1 | refine below_set ?_ (IsS25.ge HI312.out)) | exact HB.out))); rintro e w10 ⟨v317, rfl, ho0, hb⟩; refine ⟨_, rfl, ?_⟩; have n0_ := Aside0.mk (Kd.R_lower ho0 (below_size (by repeat (first | (with_reducible first | exact HB.out | apply below_alloc | apply pw_below_drewN | apply below_drew1 | refine below_set ?_ (IsS25.ge HI312.out)) | exact HB.out)))); have n1_ := Aside0.mk (IsS25.below (by repeat (first | (with_reducible first | exact HI312.out | apply IsS25.alloc | apply IsS25.drewN | apply IsS25.drew | apply IsS25.set_1) | exact HI312.out)) hb); have n2_ := Aside0.mk (below_step (by repeat (first | (with_reducible first | exact HB.out | apply below_alloc | apply pw_below_drewN | apply below_drew1 | refine below_set ?_ (IsS25.ge HI312.out)) | exact HB.out)) hb); clear HI312; clear HB; have HO318 := n0_; have HI312 := n1_; have HB := n2_; clear n0_ n1_ n2_; (try clear hb); (try clear hb2); (try clear hk); (try clear hi); (try clear ho0)) | ((with_reducible refine gate_callee (f := 7) rfl ?_); refine goesL_ (some 22) rfl rfl Tryz.func7 (by kernel_rfl) rfl #[.string t313] rfl (by (try simp only [List.map_toArray, List.map_cons, List.map_nil]); first | done | rfl | (simp only [List.length_drop, List.length_take]; rfl)) ?_; (with_reducible refine (produce_Pages.calls k t313 t319 t320 _ ?side1 A4.out).mono ?_); (case side1 => exact Wd.below HGl.out (by repeat (first | (with_reducible first | exact HB.out | apply below_alloc | apply pw_below_drewN | apply below_drew1 | refine below_set ?_ (IsS25.ge HI312.out)) | exact HB.out))); rintro e w11 ⟨v321, rfl, ho0, hb⟩; refine ⟨_, rfl, ?_⟩; have n0_ := Aside0.mk (Kd.R_below (by (with_reducible repeat (first | apply Kd.R_alloc | apply Kd.R_drewN | apply Kd.R_drew)); exact HO318.out) hb); have n1_ := Aside0.mk (Kd.S_lower (Kd.S_new' ho0 (Kd.R_lt (by (with_reducible repeat (first | apply Kd.R_alloc | apply Kd.R_drewN | apply Kd.R_drew)); exact HO318.out))) (below_size (by repeat (first | (with_reducible first | exact HB.out | apply below_alloc | apply pw_below_drewN | apply below_drew1 | refine below_set ?_ (IsS25.ge HI312.out)) | exact HB.out)))); have n2_ := Aside0.mk (IsS25.below (by repeat (first | (with_reducible first | exact HI312.out | apply IsS25.alloc | apply IsS25.drewN | apply IsS25.drew | apply IsS25.set_1) | exact HI312.out)) hb); have n3_ := Aside0.mk (below_step (by repeat (first | (with_reducible first | exact HB.out | apply below_alloc | apply pw_below_drewN | apply below_drew1 | refine below_set ?_ (IsS25.ge HI312.out)) | exact HB.out)) hb); clear HO318; clear HI312; clear HB; have HO318 := n0_; have HO322 := n1_; have HI312 := n2_; have HB := n3_; clear n0_ n1_ n2_ n3_; (try clear hb); (try clear hb2); (try clear hk); (try clear hi); (try clear ho0)) | ((with_reducible refine gate_callee (f := 8) rfl ?_); refine goesL_ (some 26) rfl rfl Tryz.func8 (by kernel_rfl) rfl #[.string t313] rfl (by (try simp only [List.map_toArray, List.map_cons, List.map_nil]); first | done | rfl | (simp only [List.length_drop, List.length_take]; rfl)) ?_; (with_reducible refine (chaseref1_BodyFault.calls t313 t323 _ ?side1 A5.out).mono ?_); (case side1 => exact Wd.below HGl.out (by repeat (first | (with_reducible first | exact HB.out | apply below_alloc | apply pw_below_drewN | apply below_drew1 | refine below_set ?_ (IsS25.ge HI312.out)) | exact HB.out))); rintro e w12 ⟨rfl, hb⟩; refine ⟨_, rfl, ?_⟩; have n0_ := Aside0.mk (Kd.R_below (by (with_reducible repeat (first | apply Kd.R_alloc | apply Kd.R_drewN | apply Kd.R_drew)); exact HO318.out) hb); have n1_ := Aside0.mk (Kd.S_below (by (with_reducible repeat (first | apply Kd.S_alloc | apply Kd.S_drewN | apply Kd.S_drew)); exact HO322.out) hb); have n2_ := Aside0.mk (IsS25.below (by repeat (first | (with_reducible first | exact HI312.out | apply IsS25.alloc | apply IsS25.drewN | apply IsS25.drew | apply IsS25.set_1) | exact HI312.out)) hb); have n3_ := Aside0.mk (below_step (by repeat (first | (with_reducible first | exact HB.out | apply below_alloc | apply pw_below_drewN | apply below_drew1 | refine below_set ?_ (IsS25.ge HI312.out)) | exact HB.out)) hb); clear HO318; clear HO322; clear HI312; clear HB; have HO318 := n0_; have HO322 := n1_; have HI312 := n2_; have HB := n3_; clear n0_ n1_ n2_ n3_; (try clear hb); (try clear hb2); (try clear hk); (try clear hi)))
    (try simp only [Act.put, List.setIfInBounds_toArray, List.set_cons_zero, List.set_cons_succ])
    go_cut [2] (fun v2 wc => ∃ (kq : Nat) (x2_6 : Bool), v2 = .bool x2_6 ∧ Aside0 (chaselaw1_TextsPaged.j1 kq x2_6 = some r) ∧ Aside0 (kq ≤ k) ∧ Aside0 (Below w.heap.size w wc))
    case first =>
      have H := HC7.out
      clear HC7
      replace H := Option.bind_eq_some_iff.mp H
      obtain ⟨t325, A130, H⟩ := H
      replace H : (if t325 = true then (if t316 = 0 then (if t320 = 0 then ((chaseref1_WrapOf.f k t313).bind fun t326 => ((slices_Equal_string_string.f k t315 t326).bind fun t329 => (if t329 = true then ((chaseref1_PagesOf.f k t313).bind fun t330 => ((chaseref1_SameTable.f t319 t330).bind fun t333 => (chaselaw1_TextsPaged.j1 k t333))) else (chaselaw1_TextsPaged.j1 k false)))) else (chaselaw1_TextsPaged.j1 k false)) else (chaselaw1_TextsPaged.j1 k false)) else (chaselaw1_TextsPaged.j1 k false)) = some r := H
      have A13 := Aside0.mk A130
      clear A130
      by_cases c14 : t325 = true
      · subst c14
        have H1 : (if t316 = 0 then (if t320 = 0 then ((chaseref1_WrapOf.f k t313).bind fun t326 => ((slices_Equal_string_string.f k t315 t326).bind fun t329 => (if t329 = true then ((chaseref1_PagesOf.f k t313).bind fun t330 => ((chaseref1_SameTable.f t319 t330).bind fun t333 => (chaselaw1_TextsPaged.j1 k t333))) else (chaselaw1_TextsPaged.j1 k false)))) else (chaselaw1_TextsPaged.j1 k false)) else (chaselaw1_TextsPaged.j1 k false)) = some r := by rw [if_pos rfl] at H; exact H
        clear H
        have H := H1
        clear H1
        by_cases c15 : t316 = 0
        · rw [if_pos c15] at H
          have c15b0 : (t316 == 0) = true := beq_iff_eq.mpr c15
          have c15b1 : (t316 != 0) = false := bne_eq_false_iff_eq.mpr c15
          clear c15
          (first | rw [c15b0] | (simp only [i64_w, i32_w]; rw [c15b0]) | skip)
          by_cases c16 : t320 = 0
          · rw [if_pos c16] at H
            have c16b0 : (t320 == 0) = true := beq_iff_eq.mpr c16
            have c16b1 : (t320 != 0) = false := bne_eq_false_iff_eq.mpr c16
            clear c16
            replace H := Option.bind_eq_some_iff.mp H
            obtain ⟨t326, A170, H⟩ := H
            replace H : ((slices_Equal_string_string.f k t315 t326).bind fun t329 => (if t329 = true then ((chaseref1_PagesOf.f k t313).bind fun t330 => ((chaseref1_SameTable.f t319 t330).bind fun t333 => (chaselaw1_TextsPaged.j1 k t333))) else (chaselaw1_TextsPaged.j1 k false))) = some r := H
            have A17 := Aside0.mk A170
            clear A170
            replace H := Option.bind_eq_some_iff.mp H
            obtain ⟨t329, A180, H⟩ := H
            replace H : (if t329 = true then ((chaseref1_PagesOf.f k t313).bind fun t330 => ((chaseref1_SameTable.f t319 t330).bind fun t333 => (chaselaw1_TextsPaged.j1 k t333))) else (chaselaw1_TextsPaged.j1 k false)) = some r := H
            have A18 := Aside0.mk A180
            clear A180
            by_cases c19 : t329 = true
            · subst c19
              have H1 : ((chaseref1_PagesOf.f k t313).bind fun t330 => ((chaseref1_SameTable.f t319 t330).bind fun t333 => (chaselaw1_TextsPaged.j1 k t333))) = some r := by rw [if_pos rfl] at H; exact H
              clear H
              have H := H1
              clear H1
              replace H := Option.bind_eq_some_iff.mp H
              obtain ⟨t330, A200, H⟩ := H
              replace H : ((chaseref1_SameTable.f t319 t330).bind fun t333 => (chaselaw1_TextsPaged.j1 k t333)) = some r := H
              have A20 := Aside0.mk A200
              clear A200
              replace H := Option.bind_eq_some_iff.mp H
              obtain ⟨t333, A210, H⟩ := H
              replace H : (chaselaw1_TextsPaged.j1 k t333) = some r := H
              have A21 := Aside0.mk A210
              clear A210
              have H' := Aside0.mk H
              clear H
              go_wp2_with (first | ((with_reducible refine gate_callee (f := 9) rfl ?_); refine goesL_ (some 40) rfl rfl Tryz.func9 (by kernel_rfl) rfl #[] rfl (by (try simp only [List.map_toArray, List.map_cons, List.map_nil]); first | done | rfl | (simp only [List.length_drop, List.length_take]; rfl)) ?_; (with_reducible refine (chaselaw1_produces.calls k  true _ A13.out).mono ?_); rintro e w22 ⟨rfl, hb⟩; refine ⟨_, rfl, ?_⟩; have n0_ := Aside0.mk (Kd.R_below (by (with_reducible repeat (first | apply Kd.R_alloc | apply Kd.R_drewN | apply Kd.R_drew)); exact HO318.out) hb); have n1_ := Aside0.mk (Kd.S_below (by (with_reducible repeat (first | apply Kd.S_alloc | apply Kd.S_drewN | apply Kd.S_drew)); exact HO322.out) hb); have n2_ := Aside0.mk (IsS25.below (by repeat (first | (with_reducible first | exact HI312.out | apply IsS25.alloc | apply IsS25.drewN | apply IsS25.drew | apply IsS25.set_1) | exact HI312.out)) hb); have n3_ := Aside0.mk (below_step (by repeat (first | (with_reducible first | exact HB.out | apply below_alloc | apply pw_below_drewN | apply below_drew1 | refine below_set ?_ (IsS25.ge HI312.out)) | exact HB.out)) hb); clear HO318; clear HO322; clear HI312; clear HB; have HO318 := n0_; have HO322 := n1_; have HI312 := n2_; have HB := n3_; clear n0_ n1_ n2_ n3_; (try clear hb); (try clear hb2); (try clear hk); (try clear hi)) | (go_at_call 11; (with_reducible refine (chaseref1_WrapOf.calls k t313 t326 _ ?side1 A17.out).mono ?_); (case side1 => exact Wd.below HGl.out (by repeat (first | (with_reducible first | exact HB.out | apply below_alloc | apply pw_below_drewN | apply below_drew1 | refine below_set ?_ (IsS25.ge HI312.out)) | exact HB.out))); rintro e w23 ⟨v327, rfl, ho0, hb⟩; have n0_ := Aside0.mk (Kd.R_elder' (by (with_reducible repeat (first | apply Kd.R_alloc | apply Kd.R_drewN | apply Kd.R_drew)); exact HO318.out) (Kd.R_base ho0) hb); have n1_ := Aside0.mk (Kd.S_elder' (by (with_reducible repeat (first | apply Kd.S_alloc | apply Kd.S_drewN | apply Kd.S_drew)); exact HO322.out) (Kd.R_base ho0) hb); have n2_ := Aside0.mk (Kd.R_lower (Kd.R_new' ho0 (Kd.R_lt (by (with_reducible repeat (first | apply Kd.R_alloc | apply Kd.R_drewN | apply Kd.R_drew)); exact HO318.out))) (below_size (by repeat (first | (with_reducible first | exact HB.out | apply below_alloc | apply pw_below_drewN | apply below_drew1 | refine below_set ?_ (IsS25.ge HI312.out)) | exact HB.out)))); have n3_ := Aside0.mk (IsS25.below (by repeat (first | (with_reducible first | exact HI312.out | apply IsS25.alloc | apply IsS25.drewN | apply IsS25.drew | apply IsS25.set_1) | exact HI312.out)) hb); have n4_ := Aside0.mk (below_step (by repeat (first | (with_reducible first | exact HB.out | apply below_alloc | apply pw_below_drewN | apply below_drew1 | refine below_set ?_ (IsS25.ge HI312.out)) | exact HB.out)) hb); clear HO318; clear HO322; clear HI312; clear HB; have HO318 := n0_; have HO322 := n1_; have HO328 := n2_; have HI312 := n3_; have HB := n4_; clear n0_ n1_ n2_ n3_ n4_; (try clear hb); (try clear hb2); (try clear hk); (try clear hi); (try clear ho0); obtain ⟨Ao24, co24, eo24⟩ := Kd.R_slice HO318.out; subst eo24; obtain ⟨Ao25, co25, eo25⟩ := Kd.R_slice HO328.out; subst eo25) | (go_at_call 10; (with_reducible refine (slices_Equal_string_string.calls k _ _ t315 _ _ t326 true _ ?side1 ?side2 ?side3 ?side4 A18.out).mono ?_); (case side1 => repeat (first | exact (Kd.R_reads' HO318.out).2.2 | (with_reducible refine Kd.C_alloc ?_ _) | (with_reducible refine Kd.C_drewN ?_ _) | (with_reducible refine Kd.C_drew ?_))); (case side2 => exact (Kd.R_reads' HO318.out).2.1); (case side3 => repeat (first | exact (Kd.R_reads' HO328.out).2.2 | (with_reducible refine Kd.C_alloc ?_ _) | (with_reducible refine Kd.C_drewN ?_ _) | (with_reducible refine Kd.C_drew ?_))); (case side4 => exact (Kd.R_reads' HO328.out).2.1); rintro e w' ⟨rfl, ⟨nd, rfl⟩⟩) | (go_at_call 13; (with_reducible refine (chaseref1_PagesOf.calls k t313 t330 _ ?side1 A20.out).mono ?_); (case side1 => exact Wd.below HGl.out (by repeat (first | (with_reducible first | exact HB.out | apply below_alloc | apply pw_below_drewN | apply below_drew1 | refine below_set ?_ (IsS25.ge HI312.out)) | exact HB.out))); rintro e w26 ⟨v331, rfl, ho0, hb⟩; have n0_ := Aside0.mk (Kd.R_below (by (with_reducible repeat (first | apply Kd.R_alloc | apply Kd.R_drewN | apply Kd.R_drew)); exact HO318.out) hb); have n1_ := Aside0.mk (Kd.S_elder' (by (with_reducible repeat (first | apply Kd.S_alloc | apply Kd.S_drewN | apply Kd.S_drew)); exact HO322.out) (Kd.S_base ho0) hb); have n2_ := Aside0.mk (Kd.R_below (by (with_reducible repeat (first | apply Kd.R_alloc | apply Kd.R_drewN | apply Kd.R_drew)); exact HO328.out) hb); have n3_ := Aside0.mk (Kd.S_lower (Kd.S_new' (Kd.S_new' (Kd.S_new' ho0 (Kd.R_lt (by (with_reducible repeat (first | apply Kd.R_alloc | apply Kd.R_drewN | apply Kd.R_drew)); exact HO318.out))) (Kd.S_lt (by (with_reducible repeat (first | apply Kd.S_alloc | apply Kd.S_drewN | apply Kd.S_drew)); exact HO322.out))) (Kd.R_lt (by (with_reducible repeat (first | apply Kd.R_alloc | apply Kd.R_drewN | apply Kd.R_drew)); exact HO328.out))) (below_size (by repeat (first | (with_reducible first | exact HB.out | apply below_alloc | apply pw_below_drewN | apply below_drew1 | refine below_set ?_ (IsS25.ge HI312.out)) | exact HB.out)))); have n4_ := Aside0.mk (IsS25.below (by repeat (first | (with_reducible first | exact HI312.out | apply IsS25.alloc | apply IsS25.drewN | apply IsS25.drew | apply IsS25.set_1) | exact HI312.out)) hb); have n5_ := Aside0.mk (below_step (by repeat (first | (with_reducible first | exact HB.out | apply below_alloc | apply pw_below_drewN | apply below_drew1 | refine below_set ?_ (IsS25.ge HI312.out)) | exact HB.out)) hb); clear HO318; clear HO322; clear HO328; clear HI312; clear HB; have HO318 := n0_; have HO322 := n1_; have HO328 := n2_; have HO332 := n3_; have HI312 := n4_; have HB := n5_; clear n0_ n1_ n2_ n3_ n4_ n5_; (try clear hb); (try clear hb2); (try clear hk); (try clear hi); (try clear ho0); obtain ⟨Ao27, co27, eo27⟩ := Kd.S_slice HO322.out; subst eo27; obtain ⟨Ao28, co28, eo28⟩ := Kd.S_slice HO332.out; subst eo28) | (go_at_call 12; (with_reducible refine (chaseref1_SameTable.calls _ _ t319 _ _ t330 t333 _ ?side1 ?side2 ?side3 ?side4 A21.out).mono ?_); (case side1 => repeat (first | exact (Kd.S_reads' HO322.out).2.2 | (with_reducible refine Kd.C_alloc ?_ _) | (with_reducible refine Kd.C_drewN ?_ _) | (with_reducible refine Kd.C_drew ?_))); (case side2 => exact (Kd.S_reads' HO322.out).2.1); (case side3 => repeat (first | exact (Kd.S_reads' HO332.out).2.2 | (with_reducible refine Kd.C_alloc ?_ _) | (with_reducible refine Kd.C_drewN ?_ _) | (with_reducible refine Kd.C_drew ?_))); (case side4 => exact (Kd.S_reads' HO332.out).2.1); rintro e w29 ⟨rfl, hb⟩; have n0_ := Aside0.mk (Kd.R_below (by (with_reducible repeat (first | apply Kd.R_alloc | apply Kd.R_drewN | apply Kd.R_drew)); exact HO318.out) hb); have n1_ := Aside0.mk (Kd.S_below (by (with_reducible repeat (first | apply Kd.S_alloc | apply Kd.S_drewN | apply Kd.S_drew)); exact HO322.out) hb); have n2_ := Aside0.mk (Kd.R_below (by (with_reducible repeat (first | apply Kd.R_alloc | apply Kd.R_drewN | apply Kd.R_drew)); exact HO328.out) hb); have n3_ := Aside0.mk (Kd.S_below (by (with_reducible repeat (first | apply Kd.S_alloc | apply Kd.S_drewN | apply Kd.S_drew)); exact HO332.out) hb); have n4_ := Aside0.mk (IsS25.below (by repeat (first | (with_reducible first | exact HI312.out | apply IsS25.alloc | apply IsS25.drewN | apply IsS25.drew | apply IsS25.set_1) | exact HI312.out)) hb); have n5_ := Aside0.mk (below_step (by repeat (first | (with_reducible first | exact HB.out | apply below_alloc | apply pw_below_drewN | apply below_drew1 | refine below_set ?_ (IsS25.ge HI312.out)) | exact HB.out)) hb); clear HO318; clear HO322; clear HO328; clear HO332; clear HI312; clear HB; have HO318 := n0_; have HO322 := n1_; have HO328 := n2_; have HO332 := n3_; have HI312 := n4_; have HB := n5_; clear n0_ n1_ n2_ n3_ n4_ n5_; (try clear hb); (try clear hb2); (try clear hk); (try clear hi)))
              go_meet
              case rel => exact ⟨_, (t333), (by first | rfl | (simp; done) | (simp [*]; done)), H', ⟨by first | omega | exact Nat.le_refl _⟩, ⟨by repeat (first | (with_reducible first | exact HB.out | apply below_alloc | apply pw_below_drewN | apply below_drew1 | refine below_set ?_ (IsS25.ge HI312.out)) | exact HB.out)⟩⟩
            · replace c19 := Bool.eq_false_iff.mpr c19
              subst c19
              have H1 : (chaselaw1_TextsPaged.j1 k false) = some r := by rw [if_neg (show ¬ (false = true) by decide)] at H; exact H
              clear H
              have H := H1
              clear H1
              have H' := Aside0.mk H
              clear H
              go_wp2_with (first | ((with_reducible refine gate_callee (f := 9) rfl ?_); refine goesL_ (some 40) rfl rfl Tryz.func9 (by kernel_rfl) rfl #[] rfl (by (try simp only [List.map_toArray, List.map_cons, List.map_nil]); first | done | rfl | (simp only [List.length_drop, List.length_take]; rfl)) ?_; (with_reducible refine (chaselaw1_produces.calls k  true _ A13.out).mono ?_); rintro e w30 ⟨rfl, hb⟩; refine ⟨_, rfl, ?_⟩; have n0_ := Aside0.mk (Kd.R_below (by (with_reducible repeat (first | apply Kd.R_alloc | apply Kd.R_drewN | apply Kd.R_drew)); exact HO318.out) hb); have n1_ := Aside0.mk (Kd.S_below (by (with_reducible repeat (first | apply Kd.S_alloc | apply Kd.S_drewN | apply Kd.S_drew)); exact HO322.out) hb); have n2_ := Aside0.mk (IsS25.below (by repeat (first | (with_reducible first | exact HI312.out | apply IsS25.alloc | apply IsS25.drewN | apply IsS25.drew | apply IsS25.set_1) | exact HI312.out)) hb); have n3_ := Aside0.mk (below_step (by repeat (first | (with_reducible first | exact HB.out | apply below_alloc | apply pw_below_drewN | apply below_drew1 | refine below_set ?_ (IsS25.ge HI312.out)) | exact HB.out)) hb); clear HO318; clear HO322; clear HI312; clear HB; have HO318 := n0_; have HO322 := n1_; have HI312 := n2_; have HB := n3_; clear n0_ n1_ n2_ n3_; (try clear hb); (try clear hb2); (try clear hk); (try clear hi)) | (go_at_call 11; (with_reducible refine (chaseref1_WrapOf.calls k t313 t326 _ ?side1 A17.out).mono ?_); (case side1 => exact Wd.below HGl.out (by repeat (first | (with_reducible first | exact HB.out | apply below_alloc | apply pw_below_drewN | apply below_drew1 | refine below_set ?_ (IsS25.ge HI312.out)) | exact HB.out))); rintro e w31 ⟨v327, rfl, ho0, hb⟩; have n0_ := Aside0.mk (Kd.R_elder' (by (with_reducible repeat (first | apply Kd.R_alloc | apply Kd.R_drewN | apply Kd.R_drew)); exact HO318.out) (Kd.R_base ho0) hb); have n1_ := Aside0.mk (Kd.S_elder' (by (with_reducible repeat (first | apply Kd.S_alloc | apply Kd.S_drewN | apply Kd.S_drew)); exact HO322.out) (Kd.R_base ho0) hb); have n2_ := Aside0.mk (Kd.R_lower (Kd.R_new' ho0 (Kd.R_lt (by (with_reducible repeat (first | apply Kd.R_alloc | apply Kd.R_drewN | apply Kd.R_drew)); exact HO318.out))) (below_size (by repeat (first | (with_reducible first | exact HB.out | apply below_alloc | apply pw_below_drewN | apply below_drew1 | refine below_set ?_ (IsS25.ge HI312.out)) | exact HB.out)))); have n3_ := Aside0.mk (IsS25.below (by repeat (first | (with_reducible first | exact HI312.out | apply IsS25.alloc | apply IsS25.drewN | apply IsS25.drew | apply IsS25.set_1) | exact HI312.out)) hb); have n4_ := Aside0.mk (below_step (by repeat (first | (with_reducible first | exact HB.out | apply below_alloc | apply pw_below_drewN | apply below_drew1 | refine below_set ?_ (IsS25.ge HI312.out)) | exact HB.out)) hb); clear HO318; clear HO322; clear HI312; clear HB; have HO318 := n0_; have HO322 := n1_; have HO328 := n2_; have HI312 := n3_; have HB := n4_; clear n0_ n1_ n2_ n3_ n4_; (try clear hb); (try clear hb2); (try clear hk); (try clear hi); (try clear ho0); obtain ⟨Ao32, co32, eo32⟩ := Kd.R_slice HO318.out; subst eo32; obtain ⟨Ao33, co33, eo33⟩ := Kd.R_slice HO328.out; subst eo33) | (go_at_call 10; (with_reducible refine (slices_Equal_string_string.calls k _ _ t315 _ _ t326 false _ ?side1 ?side2 ?side3 ?side4 A18.out).mono ?_); (case side1 => repeat (first | exact (Kd.R_reads' HO318.out).2.2 | (with_reducible refine Kd.C_alloc ?_ _) | (with_reducible refine Kd.C_drewN ?_ _) | (with_reducible refine Kd.C_drew ?_))); (case side2 => exact (Kd.R_reads' HO318.out).2.1); (case side3 => repeat (first | exact (Kd.R_reads' HO328.out).2.2 | (with_reducible refine Kd.C_alloc ?_ _) | (with_reducible refine Kd.C_drewN ?_ _) | (with_reducible refine Kd.C_drew ?_))); (case side4 => exact (Kd.R_reads' HO328.out).2.1); rintro e w' ⟨rfl, ⟨nd, rfl⟩⟩))
              go_meet
              case rel => exact ⟨_, (false), (by first | rfl | (simp; done) | (simp [*]; done)), H', ⟨by first | omega | exact Nat.le_refl _⟩, ⟨by repeat (first | (with_reducible first | exact HB.out | apply below_alloc | apply pw_below_drewN | apply below_drew1 | refine below_set ?_ (IsS25.ge HI312.out)) | exact HB.out)⟩⟩
          · rw [if_neg c16] at H
            have c16b0 : (t320 == 0) = false := beq_eq_false_iff_ne.mpr c16
            have c16b1 : (t320 != 0) = true := bne_iff_ne.mpr c16
            have H' := Aside0.mk H
            clear H
            go_wp2_with (first | ((with_reducible refine gate_callee (f := 9) rfl ?_); refine goesL_ (some 40) rfl rfl Tryz.func9 (by kernel_rfl) rfl #[] rfl (by (try simp only [List.map_toArray, List.map_cons, List.map_nil]); first | done | rfl | (simp only [List.length_drop, List.length_take]; rfl)) ?_; (with_reducible refine (chaselaw1_produces.calls k  true _ A13.out).mono ?_); rintro e w34 ⟨rfl, hb⟩; refine ⟨_, rfl, ?_⟩; have n0_ := Aside0.mk (Kd.R_below (by (with_reducible repeat (first | apply Kd.R_alloc | apply Kd.R_drewN | apply Kd.R_drew)); exact HO318.out) hb); have n1_ := Aside0.mk (Kd.S_below (by (with_reducible repeat (first | apply Kd.S_alloc | apply Kd.S_drewN | apply Kd.S_drew)); exact HO322.out) hb); have n2_ := Aside0.mk (IsS25.below (by repeat (first | (with_reducible first | exact HI312.out | apply IsS25.alloc | apply IsS25.drewN | apply IsS25.drew | apply IsS25.set_1) | exact HI312.out)) hb); have n3_ := Aside0.mk (below_step (by repeat (first | (with_reducible first | exact HB.out | apply below_alloc | apply pw_below_drewN | apply below_drew1 | refine below_set ?_ (IsS25.ge HI312.out)) | exact HB.out)) hb); clear HO318; clear HO322; clear HI312; clear HB; have HO318 := n0_; have HO322 := n1_; have HI312 := n2_; have HB := n3_; clear n0_ n1_ n2_ n3_; (try clear hb); (try clear hb2); (try clear hk); (try clear hi)))
            go_meet
            case rel => exact ⟨_, (false), (by first | rfl | (simp; done) | (simp [*]; done)), H', ⟨by first | omega | exact Nat.le_refl _⟩, ⟨by repeat (first | (with_reducible first | exact HB.out | apply below_alloc | apply pw_below_drewN | apply below_drew1 | refine below_set ?_ (IsS25.ge HI312.out)) | exact HB.out)⟩⟩
        · rw [if_neg c15] at H
          have c15b0 : (t316 == 0) = false := beq_eq_false_iff_ne.mpr c15
          have c15b1 : (t316 != 0) = true := bne_iff_ne.mpr c15
          (first | rw [c15b0] | (simp only [i64_w, i32_w]; rw [c15b0]) | skip)
          have H' := Aside0.mk H
          clear H
          go_wp2_with (first | ((with_reducible refine gate_callee (f := 9) rfl ?_); refine goesL_ (some 40) rfl rfl Tryz.func9 (by kernel_rfl) rfl #[] rfl (by (try simp only [List.map_toArray, List.map_cons, List.map_nil]); first | done | rfl | (simp only [List.length_drop, List.length_take]; rfl)) ?_; (with_reducible refine (chaselaw1_produces.calls k  true _ A13.out).mono ?_); rintro e w35 ⟨rfl, hb⟩; refine ⟨_, rfl, ?_⟩; have n0_ := Aside0.mk (Kd.R_below (by (with_reducible repeat (first | apply Kd.R_alloc | apply Kd.R_drewN | apply Kd.R_drew)); exact HO318.out) hb); have n1_ := Aside0.mk (Kd.S_below (by (with_reducible repeat (first | apply Kd.S_alloc | apply Kd.S_drewN | apply Kd.S_drew)); exact HO322.out) hb); have n2_ := Aside0.mk (IsS25.below (by repeat (first | (with_reducible first | exact HI312.out | apply IsS25.alloc | apply IsS25.drewN | apply IsS25.drew | apply IsS25.set_1) | exact HI312.out)) hb); have n3_ := Aside0.mk (below_step (by repeat (first | (with_reducible first | exact HB.out | apply below_alloc | apply pw_below_drewN | apply below_drew1 | refine below_set ?_ (IsS25.ge HI312.out)) | exact HB.out)) hb); clear HO318; clear HO322; clear HI312; clear HB; have HO318 := n0_; have HO322 := n1_; have HI312 := n2_; have HB := n3_; clear n0_ n1_ n2_ n3_; (try clear hb); (try clear hb2); (try clear hk); (try clear hi)))
          go_meet
          case rel => exact ⟨_, (false), (by first | rfl | (simp; done) | (simp [*]; done)), H', ⟨by first | omega | exact Nat.le_refl _⟩, ⟨by repeat (first | (with_reducible first | exact HB.out | apply below_alloc | apply pw_below_drewN | apply below_drew1 | refine below_set ?_ (IsS25.ge HI312.out)) | exact HB.out)⟩⟩
      · replace c14 := Bool.eq_false_iff.mpr c14
        subst c14
        have H1 : (chaselaw1_TextsPaged.j1 k false) = some r := by rw [if_neg (show ¬ (false = true) by decide)] at H; exact H
        clear H
        have H := H1
        clear H1
        have H' := Aside0.mk H
        clear H
        go_wp2_with (first | ((with_reducible refine gate_callee (f := 9) rfl ?_); refine goesL_ (some 40) rfl rfl Tryz.func9 (by kernel_rfl) rfl #[] rfl (by (try simp only [List.map_toArray, List.map_cons, List.map_nil]); first | done | rfl | (simp only [List.length_drop, List.length_take]; rfl)) ?_; (with_reducible refine (chaselaw1_produces.calls k  false _ A13.out).mono ?_); rintro e w36 ⟨rfl, hb⟩; refine ⟨_, rfl, ?_⟩; have n0_ := Aside0.mk (Kd.R_below (by (with_reducible repeat (first | apply Kd.R_alloc | apply Kd.R_drewN | apply Kd.R_drew)); exact HO318.out) hb); have n1_ := Aside0.mk (Kd.S_below (by (with_reducible repeat (first | apply Kd.S_alloc | apply Kd.S_drewN | apply Kd.S_drew)); exact HO322.out) hb); have n2_ := Aside0.mk (IsS25.below (by repeat (first | (with_reducible first | exact HI312.out | apply IsS25.alloc | apply IsS25.drewN | apply IsS25.drew | apply IsS25.set_1) | exact HI312.out)) hb); have n3_ := Aside0.mk (below_step (by repeat (first | (with_reducible first | exact HB.out | apply below_alloc | apply pw_below_drewN | apply below_drew1 | refine below_set ?_ (IsS25.ge HI312.out)) | exact HB.out)) hb); clear HO318; clear HO322; clear HI312; clear HB; have HO318 := n0_; have HO322 := n1_; have HI312 := n2_; have HB := n3_; clear n0_ n1_ n2_ n3_; (try clear hb); (try clear hb2); (try clear hk); (try clear hi)))
        go_meet
        case rel => exact ⟨_, (false), (by first | rfl | (simp; done) | (simp [*]; done)), H', ⟨by first | omega | exact Nat.le_refl _⟩, ⟨by repeat (first | (with_reducible first | exact HB.out | apply below_alloc | apply pw_below_drewN | apply below_drew1 | refine below_set ?_ (IsS25.ge HI312.out)) | exact HB.out)⟩⟩
    case rest =>
      clear HC7
      try clear c1
      try clear p2
      try clear c3
      try clear c5
      try clear c6
      try clear c6b0
      try clear c6b1
      try clear c7
      try clear c8
      try clear c9
      try clear c14
      try clear c15
      try clear c15b0
      try clear c15b1
      try clear c16
      try clear c16b0
      try clear c16b1
      try clear c19
      obtain ⟨kq, x2_6, rfl, HA, HJ6, HB⟩ := hcut
      cases kq with
      | zero => exact absurd HA.out (by simp [chaselaw1_TextsPaged.j1])
      | succ kj6 =>
        have H := HA.out
        clear HA
        simp only [chaselaw1_TextsPaged.j1] at H
        obtain rfl := Option.some.inj H
        go_wp2
        go_ret
        exact ⟨by first | rfl | (simp [errW_none, errW_some] <;> rfl) | (simp [*, errW_none, errW_some] <;> rfl), by repeat (first | (with_reducible first | exact HB.out | apply below_alloc | apply pw_below_drewN | apply below_drew1) | exact HB.out)⟩
  · rw [if_neg c6] at H
    have c6b0 : (t323 == 0) = false := beq_eq_false_iff_ne.mpr c6
    have c6b1 : (t323 != 0) = true := bne_iff_ne.mpr c6
    have HC37 := Aside0.mk H
    clear H
    go_enter Tryz.func3, Tryz.ntmps3
    go_upto_region 7 with (first | ((with_reducible refine gate_dst (N := 12) rfl ?_); refine box_event ?hg (N := 12) ?hd (cs := #[.slice A0 l0.length c0, .int .i64 0]) (t := 25) ?hr ?_; (case hd => rfl); (case hg => rfl); (case hr => first | (go_simp; done) | (go_simp; rfl)); intro gb312 hg w38 hbox hb; have n0_ := Aside0.mk (below_step (by repeat (first | (with_reducible first | exact HB.out | apply below_alloc | apply pw_below_drewN | apply below_drew1) | exact HB.out)) hb); have n1_ := Aside0.mk ((⟨_, _, hbox, (by rw [hg]; exact (below_size (by repeat (first | (with_reducible first | exact HB.out | apply below_alloc | apply pw_below_drewN | apply below_drew1) | exact HB.out)))), HR0.out⟩ : IsS25 w _ gb312 l0 0)); clear HB; have HB := n0_; have HI312 := n1_; clear n0_ n1_; clear hb hbox hg) | ((with_reducible refine gate_callee (f := 5) rfl ?_); refine goesL_ (some 14) rfl rfl Tryz.func5 (by kernel_rfl) rfl #[.pointer (some ⟨gb312, 0, none⟩)] rfl (by (try simp only [List.map_toArray, List.map_cons, List.map_nil]); first | done | rfl | (simp only [List.length_drop, List.length_take]; rfl)) ?_; (with_reducible refine (chasemake_Stream_PaperText.calls k gb312 l0 0 t313 t314 w _ ?side1 ?side2 A2.out).mono ?_); (case side1 => repeat (first | (with_reducible first | exact HI312.out | apply IsS25.alloc | apply IsS25.drewN | apply IsS25.drew | apply IsS25.set_1) | exact HI312.out)); (case side2 => repeat (first | (with_reducible first | exact HB.out | apply below_alloc | apply pw_below_drewN | apply below_drew1 | refine below_set ?_ (IsS25.ge HI312.out)) | exact HB.out)); rintro e w39 ⟨rfl, hi, hb, hk⟩; refine ⟨_, rfl, ?_⟩; have n0_ := Aside0.mk (hb); have n1_ := Aside0.mk (hi); clear HB; clear HI312; have HB := n0_; have HI312 := n1_; clear n0_ n1_; (try clear hb); (try clear hb2); (try clear hk); (try clear hi)) | ((with_reducible refine gate_callee (f := 6) rfl ?_); refine goesL_ (some 17) rfl rfl Tryz.func6 (by kernel_rfl) rfl #[.string t313] rfl (by (try simp only [List.map_toArray, List.map_cons, List.map_nil]); first | done | rfl | (simp only [List.length_drop, List.length_take]; rfl)) ?_; (with_reducible refine (produce_Wrap.calls k t313 t315 t316 _ ?side1 A3.out).mono ?_); (case side1 => exact Wd.below HGl.out (by repeat (first | (with_reducible first | exact HB.out | apply below_alloc | apply pw_below_drewN | apply below_drew1 | refine below_set ?_ (IsS25.ge HI312.out)) | exact HB.out))); rintro e w40 ⟨v317, rfl, ho0, hb⟩; refine ⟨_, rfl, ?_⟩; have n0_ := Aside0.mk (Kd.R_lower ho0 (below_size (by repeat (first | (with_reducible first | exact HB.out | apply below_alloc | apply pw_below_drewN | apply below_drew1 | refine below_set ?_ (IsS25.ge HI312.out)) | exact HB.out)))); have n1_ := Aside0.mk (IsS25.below (by repeat (first | (with_reducible first | exact HI312.out | apply IsS25.alloc | apply IsS25.drewN | apply IsS25.drew | apply IsS25.set_1) | exact HI312.out)) hb); have n2_ := Aside0.mk (below_step (by repeat (first | (with_reducible first | exact HB.out | apply below_alloc | apply pw_below_drewN | apply below_drew1 | refine below_set ?_ (IsS25.ge HI312.out)) | exact HB.out)) hb); clear HI312; clear HB; have HO318 := n0_; have HI312 := n1_; have HB := n2_; clear n0_ n1_ n2_; (try clear hb); (try clear hb2); (try clear hk); (try clear hi); (try clear ho0)) | ((with_reducible refine gate_callee (f := 7) rfl ?_); refine goesL_ (some 22) rfl rfl Tryz.func7 (by kernel_rfl) rfl #[.string t313] rfl (by (try simp only [List.map_toArray, List.map_cons, List.map_nil]); first | done | rfl | (simp only [List.length_drop, List.length_take]; rfl)) ?_; (with_reducible refine (produce_Pages.calls k t313 t319 t320 _ ?side1 A4.out).mono ?_); (case side1 => exact Wd.below HGl.out (by repeat (first | (with_reducible first | exact HB.out | apply below_alloc | apply pw_below_drewN | apply below_drew1 | refine below_set ?_ (IsS25.ge HI312.out)) | exact HB.out))); rintro e w41 ⟨v321, rfl, ho0, hb⟩; refine ⟨_, rfl, ?_⟩; have n0_ := Aside0.mk (Kd.R_below (by (with_reducible repeat (first | apply Kd.R_alloc | apply Kd.R_drewN | apply Kd.R_drew)); exact HO318.out) hb); have n1_ := Aside0.mk (Kd.S_lower (Kd.S_new' ho0 (Kd.R_lt (by (with_reducible repeat (first | apply Kd.R_alloc | apply Kd.R_drewN | apply Kd.R_drew)); exact HO318.out))) (below_size (by repeat (first | (with_reducible first | exact HB.out | apply below_alloc | apply pw_below_drewN | apply below_drew1 | refine below_set ?_ (IsS25.ge HI312.out)) | exact HB.out)))); have n2_ := Aside0.mk (IsS25.below (by repeat (first | (with_reducible first | exact HI312.out | apply IsS25.alloc | apply IsS25.drewN | apply IsS25.drew | apply IsS25.set_1) | exact HI312.out)) hb); have n3_ := Aside0.mk (below_step (by repeat (first | (with_reducible first | exact HB.out | apply below_alloc | apply pw_below_drewN | apply below_drew1 | refine below_set ?_ (IsS25.ge HI312.out)) | exact HB.out)) hb); clear HO318; clear HI312; clear HB; have HO318 := n0_; have HO322 := n1_; have HI312 := n2_; have HB := n3_; clear n0_ n1_ n2_ n3_; (try clear hb); (try clear hb2); (try clear hk); (try clear hi); (try clear ho0)) | ((with_reducible refine gate_callee (f := 8) rfl ?_); refine goesL_ (some 26) rfl rfl Tryz.func8 (by kernel_rfl) rfl #[.string t313] rfl (by (try simp only [List.map_toArray, List.map_cons, List.map_nil]); first | done | rfl | (simp only [List.length_drop, List.length_take]; rfl)) ?_; (with_reducible refine (chaseref1_BodyFault.calls t313 t323 _ ?side1 A5.out).mono ?_); (case side1 => exact Wd.below HGl.out (by repeat (first | (with_reducible first | exact HB.out | apply below_alloc | apply pw_below_drewN | apply below_drew1 | refine below_set ?_ (IsS25.ge HI312.out)) | exact HB.out))); rintro e w42 ⟨rfl, hb⟩; refine ⟨_, rfl, ?_⟩; have n0_ := Aside0.mk (Kd.R_below (by (with_reducible repeat (first | apply Kd.R_alloc | apply Kd.R_drewN | apply Kd.R_drew)); exact HO318.out) hb); have n1_ := Aside0.mk (Kd.S_below (by (with_reducible repeat (first | apply Kd.S_alloc | apply Kd.S_drewN | apply Kd.S_drew)); exact HO322.out) hb); have n2_ := Aside0.mk (IsS25.below (by repeat (first | (with_reducible first | exact HI312.out | apply IsS25.alloc | apply IsS25.drewN | apply IsS25.drew | apply IsS25.set_1) | exact HI312.out)) hb); have n3_ := Aside0.mk (below_step (by repeat (first | (with_reducible first | exact HB.out | apply below_alloc | apply pw_below_drewN | apply below_drew1 | refine below_set ?_ (IsS25.ge HI312.out)) | exact HB.out)) hb); clear HO318; clear HO322; clear HI312; clear HB; have HO318 := n0_; have HO322 := n1_; have HI312 := n2_; have HB := n3_; clear n0_ n1_ n2_ n3_; (try clear hb); (try clear hb2); (try clear hk); (try clear hi)))
    (try simp only [Act.put, List.setIfInBounds_toArray, List.set_cons_zero, List.set_cons_succ])
    go_cut [2] (fun v2 wc => ∃ (kq : Nat) (x2_36 : Bool), v2 = .bool x2_36 ∧ Aside0 (chaselaw1_TextsPaged.j0 kq x2_36 = some r) ∧ Aside0 (kq ≤ k) ∧ Aside0 (Below w.heap.size w wc))
    case first =>
      have H := HC37.out
      clear HC37
      replace H := Option.bind_eq_some_iff.mp H
      obtain ⟨t324, A430, H⟩ := H
      replace H : (if t324 = true then (if t316 = t323 then (chaselaw1_TextsPaged.j0 k (t320 == t323)) else (chaselaw1_TextsPaged.j0 k false)) else (chaselaw1_TextsPaged.j0 k false)) = some r := H
      have A43 := Aside0.mk A430
      clear A430
      by_cases c44 : t324 = true
      · subst c44
        have H1 : (if t316 = t323 then (chaselaw1_TextsPaged.j0 k (t320 == t323)) else (chaselaw1_TextsPaged.j0 k false)) = some r := by rw [if_pos rfl] at H; exact H
        clear H
        have H := H1
        clear H1
        by_cases c45 : t316 = t323
        · rw [if_pos c45] at H
          have c45b0 : (t316 == t323) = true := beq_iff_eq.mpr c45
          have c45b1 : (t316 != t323) = false := bne_eq_false_iff_eq.mpr c45
          clear c45
          (first | rw [c45b0] | (simp only [i64_w, i32_w]; rw [c45b0]) | skip)
          have H' := Aside0.mk H
          clear H
          go_wp2_with (first | ((with_reducible refine gate_callee (f := 9) rfl ?_); refine goesL_ (some 29) rfl rfl Tryz.func9 (by kernel_rfl) rfl #[] rfl (by (try simp only [List.map_toArray, List.map_cons, List.map_nil]); first | done | rfl | (simp only [List.length_drop, List.length_take]; rfl)) ?_; (with_reducible refine (chaselaw1_produces.calls k  true _ A43.out).mono ?_); rintro e w46 ⟨rfl, hb⟩; refine ⟨_, rfl, ?_⟩; have n0_ := Aside0.mk (Kd.R_below (by (with_reducible repeat (first | apply Kd.R_alloc | apply Kd.R_drewN | apply Kd.R_drew)); exact HO318.out) hb); have n1_ := Aside0.mk (Kd.S_below (by (with_reducible repeat (first | apply Kd.S_alloc | apply Kd.S_drewN | apply Kd.S_drew)); exact HO322.out) hb); have n2_ := Aside0.mk (IsS25.below (by repeat (first | (with_reducible first | exact HI312.out | apply IsS25.alloc | apply IsS25.drewN | apply IsS25.drew | apply IsS25.set_1) | exact HI312.out)) hb); have n3_ := Aside0.mk (below_step (by repeat (first | (with_reducible first | exact HB.out | apply below_alloc | apply pw_below_drewN | apply below_drew1 | refine below_set ?_ (IsS25.ge HI312.out)) | exact HB.out)) hb); clear HO318; clear HO322; clear HI312; clear HB; have HO318 := n0_; have HO322 := n1_; have HI312 := n2_; have HB := n3_; clear n0_ n1_ n2_ n3_; (try clear hb); (try clear hb2); (try clear hk); (try clear hi)))
          go_meet
          case rel => exact ⟨_, ((t320 == t323)), (by first | rfl | (simp; done) | (simp [*]; done)), H', ⟨by first | omega | exact Nat.le_refl _⟩, ⟨by repeat (first | (with_reducible first | exact HB.out | apply below_alloc | apply pw_below_drewN | apply below_drew1 | refine below_set ?_ (IsS25.ge HI312.out)) | exact HB.out)⟩⟩
        · rw [if_neg c45] at H
          have c45b0 : (t316 == t323) = false := beq_eq_false_iff_ne.mpr c45
          have c45b1 : (t316 != t323) = true := bne_iff_ne.mpr c45
          (first | rw [c45b0] | (simp only [i64_w, i32_w]; rw [c45b0]) | skip)
          have H' := Aside0.mk H
          clear H
          go_wp2_with (first | ((with_reducible refine gate_callee (f := 9) rfl ?_); refine goesL_ (some 29) rfl rfl Tryz.func9 (by kernel_rfl) rfl #[] rfl (by (try simp only [List.map_toArray, List.map_cons, List.map_nil]); first | done | rfl | (simp only [List.length_drop, List.length_take]; rfl)) ?_; (with_reducible refine (chaselaw1_produces.calls k  true _ A43.out).mono ?_); rintro e w47 ⟨rfl, hb⟩; refine ⟨_, rfl, ?_⟩; have n0_ := Aside0.mk (Kd.R_below (by (with_reducible repeat (first | apply Kd.R_alloc | apply Kd.R_drewN | apply Kd.R_drew)); exact HO318.out) hb); have n1_ := Aside0.mk (Kd.S_below (by (with_reducible repeat (first | apply Kd.S_alloc | apply Kd.S_drewN | apply Kd.S_drew)); exact HO322.out) hb); have n2_ := Aside0.mk (IsS25.below (by repeat (first | (with_reducible first | exact HI312.out | apply IsS25.alloc | apply IsS25.drewN | apply IsS25.drew | apply IsS25.set_1) | exact HI312.out)) hb); have n3_ := Aside0.mk (below_step (by repeat (first | (with_reducible first | exact HB.out | apply below_alloc | apply pw_below_drewN | apply below_drew1 | refine below_set ?_ (IsS25.ge HI312.out)) | exact HB.out)) hb); clear HO318; clear HO322; clear HI312; clear HB; have HO318 := n0_; have HO322 := n1_; have HI312 := n2_; have HB := n3_; clear n0_ n1_ n2_ n3_; (try clear hb); (try clear hb2); (try clear hk); (try clear hi)))
          go_meet
          case rel => exact ⟨_, (false), (by first | rfl | (simp; done) | (simp [*]; done)), H', ⟨by first | omega | exact Nat.le_refl _⟩, ⟨by repeat (first | (with_reducible first | exact HB.out | apply below_alloc | apply pw_below_drewN | apply below_drew1 | refine below_set ?_ (IsS25.ge HI312.out)) | exact HB.out)⟩⟩
      · replace c44 := Bool.eq_false_iff.mpr c44
        subst c44
        have H1 : (chaselaw1_TextsPaged.j0 k false) = some r := by rw [if_neg (show ¬ (false = true) by decide)] at H; exact H
        clear H
        have H := H1
        clear H1
        have H' := Aside0.mk H
        clear H
        go_wp2_with (first | ((with_reducible refine gate_callee (f := 9) rfl ?_); refine goesL_ (some 29) rfl rfl Tryz.func9 (by kernel_rfl) rfl #[] rfl (by (try simp only [List.map_toArray, List.map_cons, List.map_nil]); first | done | rfl | (simp only [List.length_drop, List.length_take]; rfl)) ?_; (with_reducible refine (chaselaw1_produces.calls k  false _ A43.out).mono ?_); rintro e w48 ⟨rfl, hb⟩; refine ⟨_, rfl, ?_⟩; have n0_ := Aside0.mk (Kd.R_below (by (with_reducible repeat (first | apply Kd.R_alloc | apply Kd.R_drewN | apply Kd.R_drew)); exact HO318.out) hb); have n1_ := Aside0.mk (Kd.S_below (by (with_reducible repeat (first | apply Kd.S_alloc | apply Kd.S_drewN | apply Kd.S_drew)); exact HO322.out) hb); have n2_ := Aside0.mk (IsS25.below (by repeat (first | (with_reducible first | exact HI312.out | apply IsS25.alloc | apply IsS25.drewN | apply IsS25.drew | apply IsS25.set_1) | exact HI312.out)) hb); have n3_ := Aside0.mk (below_step (by repeat (first | (with_reducible first | exact HB.out | apply below_alloc | apply pw_below_drewN | apply below_drew1 | refine below_set ?_ (IsS25.ge HI312.out)) | exact HB.out)) hb); clear HO318; clear HO322; clear HI312; clear HB; have HO318 := n0_; have HO322 := n1_; have HI312 := n2_; have HB := n3_; clear n0_ n1_ n2_ n3_; (try clear hb); (try clear hb2); (try clear hk); (try clear hi)))
        go_meet
        case rel => exact ⟨_, (false), (by first | rfl | (simp; done) | (simp [*]; done)), H', ⟨by first | omega | exact Nat.le_refl _⟩, ⟨by repeat (first | (with_reducible first | exact HB.out | apply below_alloc | apply pw_below_drewN | apply below_drew1 | refine below_set ?_ (IsS25.ge HI312.out)) | exact HB.out)⟩⟩
    case rest =>
      clear HC37
      try clear c1
      try clear p2
      try clear c3
      try clear c4
      try clear c5
      try clear c6
      try clear c6b0
      try clear c6b1
      try clear c7
      try clear c8
      try clear c9
      try clear c14
      try clear c15
      try clear c15b0
      try clear c15b1
      try clear c16
      try clear c16b0
      try clear c16b1
      try clear c19
      try clear c44
      try clear c45
      try clear c45b0
      try clear c45b1
      try clear p2
      obtain ⟨kq, x2_36, rfl, HA, HJ36, HB⟩ := hcut
      cases kq with
      | zero => exact absurd HA.out (by simp [chaselaw1_TextsPaged.j0])
      | succ kj36 =>
        have H := HA.out
        clear HA
        simp only [chaselaw1_TextsPaged.j0] at H
        obtain rfl := Option.some.inj H
        go_wp2
        go_ret
        exact ⟨by first | rfl | (simp [errW_none, errW_some] <;> rfl) | (simp [*, errW_none, errW_some] <;> rfl), by repeat (first | (with_reducible first | exact HB.out | apply below_alloc | apply pw_below_drewN | apply below_drew1) | exact HB.out)⟩
def chaselaw1_TextsPaged.Pure : Prop := ∀ (l0 : List Int), l0.length ≤ maxLen → l0.length * 8 ≤ 140737488351232 → (∀ x ∈ l0, (Lit.int .i64 x).wf = true) → ∃ k, chaselaw1_TextsPaged.f k l0 = some true
theorem chaselaw1_TextsPaged.walk (P : chaselaw1_TextsPaged.Pure) (a0 : Option Addr) (len0 cap0 : Nat) (z0 : List Int) (w : World) (w0 : (a0 = none ∧ len0 = 0 ∧ cap0 = 0 ∧ z0 = []) ∨ ∃ x, a0 = some x ∧ len0 ≤ cap0 ∧ cap0 ≤ maxLen ∧ z0.length = cap0 ∧ (∀ i, i < z0.length → w.cell? (x.add i) = some (.int .i64 (z0.getD i 0))) ∧ ∀ n ∈ z0, (Lit.int .i64 n).wf = true) (y0 : len0 * 8 ≤ 140737488351232) (hGl : Wd w) :
    Calls Tryz.prog 3 #[.slice a0 len0 cap0] w fun e w' => e = .returned (.bool true) ∧ Below w.heap.size w w' := by
  obtain ⟨l0, rfl, hr0, hm0, hw0, hc0⟩ := ReadsInt.ofRowC w0
  obtain ⟨k, h⟩ := P l0 hm0 y0 hw0
  refine (chaselaw1_TextsPaged.calls k _ _ l0 true w (Kd.C_of_reads (d := (0 : Int)) (h1 := fun _ => rfl) hr0) hc0 hGl h).mono ?_
  rintro e w' ⟨rfl, hd⟩
  exact ⟨rfl, hd⟩
end Go.Proofs.YtffaggbephnmkaaGreatDoor.Pg
