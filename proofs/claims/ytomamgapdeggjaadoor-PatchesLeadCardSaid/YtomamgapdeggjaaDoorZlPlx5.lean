/- Part of the proof that the law patchesLead is true for every input. No conditions. Laid by a program of this session over the kit's print and words; declarations that nothing names are left out. -/
import Derived.Test.YtomamgapdeggjaaDoorZlPlx0
import Derived.Test.YtomamgapdeggjaaDoorZlPlx2
import Derived.Test.YtomamgapdeggjaaDoorZlPlx4
namespace Go.Proofs.YtomamgapdeggjaaDoor.Pl
open Go.RowKit Go.Proofs.YtomamgapdeggjaaDoor.GBase Go.Proofs.YtomamgapdeggjaaDoorW.PrintWords Go.Proofs.YtomamgapdeggjaaDoorW.PrintLast Go.Proofs.YtomamgapdeggjaaDoorW.PrintMore
attribute [local go_sem] str_leq max2_int min2_int max_two min_two max_three min_three max_four min_four
set_option linter.unusedVariables false
set_option linter.unusedSimpArgs false
set_option maxHeartbeats 8000000 in
set_option maxRecDepth 100000 in
theorem slices_Equal_string_string.calls (k : Nat) (A0 : Option Addr) (c0 : Nat) (l0 : List ByteArray) (A1 : Option Addr) (c1 : Nat) (l1 : List ByteArray) (r : Bool) (w : World) (hr0 : Kd.C Kd.string w A0 l0.length l0) (hc0 : l0.length ≤ c0) (hr1 : Kd.C Kd.string w A1 l1.length l1) (hc1 : l1.length ≤ c1) (h : slices_Equal_string_string.f k l0 l1 = some r) :
  Calls Tryd.prog 15 #[.slice A0 l0.length c0, .slice A1 l1.length c1] w fun e w' => e = .returned (.bool r) ∧ Drawn0 w w' := by
 have HR0 := Aside0.mk hr0
 have HC0 := Aside0.mk hc0
 clear hr0 hc0
 have HR1 := Aside0.mk hr1
 have HC1 := Aside0.mk hc1
 clear hr1 hc1
 have H : (if (l0.length : Int) = (l1.length : Int) then (slices_Equal_string_string.l0 k l0 l1 (l0.length : Int) 0) else (some false)) = some r := h
 clear h
 by_cases c3 : (l0.length : Int) = (l1.length : Int)
 ·rw [if_pos c3] at H
  have c3b0 : ((l0.length : Int) == (l1.length : Int)) = true := beq_iff_eq.mpr c3
  have c3b1 : ((l0.length : Int) != (l1.length : Int)) = false := bne_eq_false_iff_eq.mpr c3
  have c3b2 : (l0.length == l1.length) = true := by first | simpa using c3 | (simp at c3 ⊢; omega)
  clear c3
  have H' := Aside0.mk H
  clear H
  go_enter Tryd.func15, Tryd.ntmps15
  go_wp2
  repeat (go_quiet (fail); try go_wp2)
  go_loopg [13] k (fun kq v13 w' => ∃ (x13_1 : Int), v13 = .int .i64 x13_1 ∧ Aside0 (slices_Equal_string_string.l0 kq l0 l1 (l0.length : Int) x13_1 = some r) ∧ Aside0 (kq ≤ k) ∧ Drawn0 w w')
  case atStart => exact ⟨(0), (by first | rfl | (simp; done) | (simp [*]; done)), H', ⟨Nat.le_refl _⟩, by repeat (first | exact Drawn0.refl _ | apply Drawn0.step)⟩
  case round =>
   clear H'
   try clear c1
   try clear p2
   try clear c3
   try clear c3b0
   try clear c3b1
   try clear c3b2
   obtain ⟨x13_1, rfl, HA, HK1, ⟨m1, rfl⟩⟩ := hrel
   cases gk with
   | zero => exact absurd HA.out (by simp [slices_Equal_string_string.l0])
   | succ k1 =>
    have H := HA.out
    clear HA
    simp only [slices_Equal_string_string.l0] at H
    by_cases c4 : x13_1 < (l0.length : Int)
    ·rw [if_pos c4] at H
     have c4b0 : decide (x13_1 < (l0.length : Int)) = true := decide_eq_true c4
     clear c4
     by_cases c5 : 0 ≤ x13_1
     ·rw [if_pos c5] at H
      have c5b0 : decide (0 ≤ x13_1) = true := decide_eq_true c5
      clear c5
      by_cases c6 : x13_1 < (l0.length : Int)
      ·rw [if_pos c6] at H
       have c6b0 : decide (x13_1 < (l0.length : Int)) = true := decide_eq_true c6
       clear c6
       by_cases c7 : x13_1 < (l1.length : Int)
       ·rw [if_pos c7] at H
        have c7b0 : decide (x13_1 < (l1.length : Int)) = true := decide_eq_true c7
        clear c7
        by_cases c8 : (rdOf ByteArray.empty l0 x13_1).toList = (rdOf ByteArray.empty l1 x13_1).toList
        ·rw [if_pos c8] at H
         have c8b0 : ((rdOf ByteArray.empty l0 x13_1).toList == (rdOf ByteArray.empty l1 x13_1).toList) = true := beq_iff_eq.mpr c8
         have c8b1 : ((rdOf ByteArray.empty l0 x13_1).toList != (rdOf ByteArray.empty l1 x13_1).toList) = false := bne_eq_false_iff_eq.mpr c8
         clear c8
         have H' := Aside0.mk H
         clear H
         have p203 : 0 ≤ (x13_1 : Int) := of_decide_eq_true (by first | (with_reducible assumption) | assumption)
         have q203 : x13_1 < (l0.length : Int) := of_decide_eq_true (by first | (with_reducible assumption) | assumption)
         obtain ⟨ad203, e203, hx203_0⟩ := Kd.at_string HR0.out x13_1 p203 q203
         cases e203
         replace p203 := eq_true p203
         replace q203 := eq_true q203
         have p204 : 0 ≤ (x13_1 : Int) := of_decide_eq_true (by first | (with_reducible assumption) | assumption)
         have q204 : x13_1 < (l1.length : Int) := of_decide_eq_true (by first | (with_reducible assumption) | assumption)
         obtain ⟨ad204, e204, hx204_0⟩ := Kd.at_string HR1.out x13_1 p204 q204
         cases e204
         replace p204 := eq_true p204
         replace q204 := eq_true q204
         go_wp2
         repeat (go_quiet (fail); try go_wp2)
         go_roundg k1
         case measure => have := HK1.out; omega
         case rel => exact ⟨(wrap64 (x13_1 + 1)), (by first | rfl | (simp; done) | (simp [*]; done)), H', ⟨by have := HK1.out; omega⟩, by repeat (first | exact Drawn0.refl _ | apply Drawn0.step)⟩
        ·rw [if_neg c8] at H
         have c8b0 : ((rdOf ByteArray.empty l0 x13_1).toList == (rdOf ByteArray.empty l1 x13_1).toList) = false := beq_eq_false_iff_ne.mpr c8
         have c8b1 : ((rdOf ByteArray.empty l0 x13_1).toList != (rdOf ByteArray.empty l1 x13_1).toList) = true := bne_iff_ne.mpr c8
         obtain rfl := Option.some.inj H
         have p203 : 0 ≤ (x13_1 : Int) := of_decide_eq_true (by first | (with_reducible assumption) | assumption)
         have q203 : x13_1 < (l0.length : Int) := of_decide_eq_true (by first | (with_reducible assumption) | assumption)
         obtain ⟨ad203, e203, hx203_0⟩ := Kd.at_string HR0.out x13_1 p203 q203
         cases e203
         replace p203 := eq_true p203
         replace q203 := eq_true q203
         have p204 : 0 ≤ (x13_1 : Int) := of_decide_eq_true (by first | (with_reducible assumption) | assumption)
         have q204 : x13_1 < (l1.length : Int) := of_decide_eq_true (by first | (with_reducible assumption) | assumption)
         obtain ⟨ad204, e204, hx204_0⟩ := Kd.at_string HR1.out x13_1 p204 q204
         cases e204
         replace p204 := eq_true p204
         replace q204 := eq_true q204
         go_wp2
         repeat (go_quiet (fail); try go_wp2)
         go_ret
         exact ⟨by first | rfl | (simp; done) | (simp [*]; done), by repeat (first | exact Drawn0.refl _ | apply Drawn0.step)⟩
       ·rw [if_neg c7] at H
        exact absurd H (by simp)
      ·rw [if_neg c6] at H
       exact absurd H (by simp)
     ·rw [if_neg c5] at H
      exact absurd H (by simp)
    ·rw [if_neg c4] at H
     have c4b0 : decide (x13_1 < (l0.length : Int)) = false := decide_eq_false c4
     clear c4
     obtain rfl := Option.some.inj H
     go_wp2
     repeat (go_quiet (fail); try go_wp2)
     go_ret
     exact ⟨by first | rfl | (simp; done) | (simp [*]; done), by repeat (first | exact Drawn0.refl _ | apply Drawn0.step)⟩
 ·rw [if_neg c3] at H
  have c3b0 : ((l0.length : Int) == (l1.length : Int)) = false := beq_eq_false_iff_ne.mpr c3
  have c3b1 : ((l0.length : Int) != (l1.length : Int)) = true := bne_iff_ne.mpr c3
  have c3b2 : (l0.length == l1.length) = false := by first | simpa using c3 | (simp at c3 ⊢; omega)
  obtain rfl := Option.some.inj H
  go_enter Tryd.func15, Tryd.ntmps15
  go_wp2
  repeat (go_quiet (fail); try go_wp2)
  go_ret
  exact ⟨by first | rfl | (simp; done) | (simp [*]; done), by repeat (first | exact Drawn0.refl _ | apply Drawn0.step)⟩
def base_In.f (a0 : Int) (a1 : Int) (a2 : Int) : Option (Bool) := if a0 ≥ a1 then (some (decide (a0 ≤ a2))) else (some false)
set_option maxHeartbeats 8000000 in
set_option maxRecDepth 100000 in
theorem base_In.calls (a0 : Int) (a1 : Int) (a2 : Int) (r : Bool) (w : World) (h : base_In.f a0 a1 a2 = some r) :
    Calls Tryd.prog 61 #[.int .i64 a0, .int .i64 a1, .int .i64 a2] w fun e w' => e = .returned (.bool r) ∧ Drawn0 w w' := by
  have H : (if a0 ≥ a1 then (some (decide (a0 ≤ a2))) else (some false)) = some r := h
  clear h
  by_cases c4 : a0 ≥ a1
  · rw [if_pos c4] at H
    have c4b0 : decide (a1 ≤ a0) = true := decide_eq_true c4
    clear c4
    obtain rfl := Option.some.inj H
    go_enter Tryd.func61, Tryd.ntmps61
    go_wp2
    go_ret
    exact ⟨by first | rfl | (simp; done) | (simp [*]; done), by repeat (first | exact Drawn0.refl _ | apply Drawn0.step)⟩
  · rw [if_neg c4] at H
    have c4b0 : decide (a1 ≤ a0) = false := decide_eq_false c4
    clear c4
    obtain rfl := Option.some.inj H
    go_enter Tryd.func61, Tryd.ntmps61
    go_wp2
    go_ret
    exact ⟨by first | rfl | (simp; done) | (simp [*]; done), by repeat (first | exact Drawn0.refl _ | apply Drawn0.step)⟩
def strings_ContainsAny.f (a0 : ByteArray) (a1 : ByteArray) : Option (Bool) := if a0.size < 4294967281 ∧ a1.data.toList = [32, 10] then (some (Lib.containsAny a0.data.toList [32, 10])) else (none)
set_option maxHeartbeats 8000000 in
set_option maxRecDepth 100000 in
theorem strings_ContainsAny.calls (a0 : ByteArray) (a1 : ByteArray) (r : Bool) (w : World) (h : strings_ContainsAny.f a0 a1 = some r) :
    Calls Tryd.prog 164 #[.string a0, .string a1] w fun e w' => e = .returned (.bool r) ∧ Below w.heap.size w w' := by
  unfold strings_ContainsAny.f at h
  by_cases hs : a0.size < 4294967281 ∧ a1.data.toList = [32, 10]
  · rw [if_pos hs] at h
    obtain rfl := Option.some.inj h
    have hs1 := hs.1
    obtain rfl : a1 = (⟨#[32, 10]⟩ : ByteArray) := by
      have h2 := hs.2
      obtain ⟨⟨l⟩⟩ := a1
      cases h2
      rfl
    refine (Tryd.ContainsAny2 a0 w hs1).mono ?_
    rintro e w' ⟨rfl, hb⟩
    exact ⟨rfl, hb⟩
  · rw [if_neg hs] at h
    exact absurd h (by simp)
def near_isToken.f (a0 : ByteArray) : Option (Bool) := if a0.toList = ([10] : List UInt8) then (some true) else (if a0.toList = ([] : List UInt8) then (some false) else ((strings_ContainsAny.f a0 (⟨#[32, 10]⟩ : ByteArray)).bind fun t205 => (some (!t205))))
set_option maxHeartbeats 8000000 in
set_option maxRecDepth 100000 in
theorem near_isToken.calls (a0 : ByteArray) (r : Bool) (w : World) (h : near_isToken.f a0 = some r) :
  Calls Tryd.prog 141 #[.string a0] w fun e w' => e = .returned (.bool r) ∧ Below w.heap.size w w' := by
 have HB := Aside0.mk (Below.refl w.heap.size w)
 have H : (if a0.toList = ([10] : List UInt8) then (some true) else (if a0.toList = ([] : List UInt8) then (some false) else ((strings_ContainsAny.f a0 (⟨#[32, 10]⟩ : ByteArray)).bind fun t205 => (some (!t205))))) = some r := h
 clear h
 by_cases c2 : a0.toList = ([10] : List UInt8)
 ·rw [if_pos c2] at H
  have c2b0 : (a0.toList == ([10] : List UInt8)) = true := beq_iff_eq.mpr c2
  have c2b1 : (a0.toList != ([10] : List UInt8)) = false := bne_eq_false_iff_eq.mpr c2
  clear c2
  obtain rfl := Option.some.inj H
  go_enter Tryd.func141, Tryd.ntmps141
  go_wp2
  go_ret
  exact ⟨by first | rfl | (simp [errW_none, errW_some] <;> rfl) | (simp [*, errW_none, errW_some] <;> rfl), by repeat (first | (with_reducible first | exact HB.out | apply below_alloc | apply pw_below_drewN | apply below_drew1) | exact HB.out)⟩
 ·rw [if_neg c2] at H
  have c2b0 : (a0.toList == ([10] : List UInt8)) = false := beq_eq_false_iff_ne.mpr c2
  have c2b1 : (a0.toList != ([10] : List UInt8)) = true := bne_iff_ne.mpr c2
  by_cases c3 : a0.toList = ([] : List UInt8)
  ·rw [if_pos c3] at H
   have c3b0 : (a0.toList == ([] : List UInt8)) = true := beq_iff_eq.mpr c3
   have c3b1 : (a0.toList != ([] : List UInt8)) = false := bne_eq_false_iff_eq.mpr c3
   clear c3
   obtain rfl := Option.some.inj H
   go_enter Tryd.func141, Tryd.ntmps141
   go_wp2
   go_ret
   exact ⟨by first | rfl | (simp [errW_none, errW_some] <;> rfl) | (simp [*, errW_none, errW_some] <;> rfl), by repeat (first | (with_reducible first | exact HB.out | apply below_alloc | apply pw_below_drewN | apply below_drew1) | exact HB.out)⟩
  ·rw [if_neg c3] at H
   have c3b0 : (a0.toList == ([] : List UInt8)) = false := beq_eq_false_iff_ne.mpr c3
   have c3b1 : (a0.toList != ([] : List UInt8)) = true := bne_iff_ne.mpr c3
   replace H := Option.bind_eq_some_iff.mp H
   obtain ⟨t205, A40, H⟩ := H
   replace H : (some (!t205)) = some r := H
   have A4 := Aside0.mk A40
   clear A40
   obtain rfl := Option.some.inj H
   go_enter Tryd.func141, Tryd.ntmps141
   go_wp2_with (first | (go_at_call 164; (with_reducible refine (strings_ContainsAny.calls a0 (⟨#[32, 10]⟩ : ByteArray) t205 _ A4.out).mono ?_); rintro e w5 ⟨rfl, hb⟩; have n0_ := Aside0.mk (below_step (by repeat (first | (with_reducible first | exact HB.out | apply below_alloc | apply pw_below_drewN | apply below_drew1) | exact HB.out)) hb); clear HB; have HB := n0_; clear n0_; (try clear hb); (try clear hb2); (try clear hk); (try clear hi)))
   go_ret
   exact ⟨by first | rfl | (simp [errW_none, errW_some] <;> rfl) | (simp [*, errW_none, errW_some] <;> rfl), by repeat (first | (with_reducible first | exact HB.out | apply below_alloc | apply pw_below_drewN | apply below_drew1) | exact HB.out)⟩
def near_patched_1.f (a0 : ByteArray) : Option (Bool) := (near_isToken.f a0).bind fun t206 => (some (!t206))
set_option maxHeartbeats 8000000 in
set_option maxRecDepth 100000 in
theorem near_patched_1.calls (a0 : ByteArray) (r : Bool) (w : World) (h : near_patched_1.f a0 = some r) :
    Calls Tryd.prog 140 #[.string a0] w fun e w' => e = .returned (.bool r) ∧ Below w.heap.size w w' := by
  have HB := Aside0.mk (Below.refl w.heap.size w)
  have H : ((near_isToken.f a0).bind fun t206 => (some (!t206))) = some r := h
  clear h
  replace H := Option.bind_eq_some_iff.mp H
  obtain ⟨t206, A20, H⟩ := H
  replace H : (some (!t206)) = some r := H
  have A2 := Aside0.mk A20
  clear A20
  obtain rfl := Option.some.inj H
  go_enter Tryd.func140, Tryd.ntmps140
  go_wp2_with (first | ((with_reducible refine gate_callee (f := 141) rfl ?_); refine goesL_ (some 4) rfl rfl Tryd.func141 (by kernel_rfl) rfl #[.string a0] rfl (by (try simp only [List.map_toArray, List.map_cons, List.map_nil]); first | done | rfl | (simp only [List.length_drop, List.length_take]; rfl)) ?_; (with_reducible refine (near_isToken.calls a0 t206 _ A2.out).mono ?_); rintro e w3 ⟨rfl, hb⟩; refine ⟨_, rfl, ?_⟩; have n0_ := Aside0.mk (below_step (by repeat (first | (with_reducible first | exact HB.out | apply below_alloc | apply pw_below_drewN | apply below_drew1) | exact HB.out)) hb); clear HB; have HB := n0_; clear n0_; (try clear hb); (try clear hb2); (try clear hk); (try clear hi)))
  go_ret
  exact ⟨by first | rfl | (simp [errW_none, errW_some] <;> rfl) | (simp [*, errW_none, errW_some] <;> rfl), by repeat (first | (with_reducible first | exact HB.out | apply below_alloc | apply pw_below_drewN | apply below_drew1) | exact HB.out)⟩
theorem slices_IndexFunc_string_string.t1 (x : ByteArray) (hx : x.size < 4294967281) : ∃ b, near_patched_1.f x = some b := by
  unfold near_patched_1.f near_isToken.f strings_ContainsAny.f
  by_cases h1 : x.toList = ([10] : List UInt8)
  · rw [if_pos h1]; exact ⟨_, rfl⟩
  · rw [if_neg h1]
    by_cases h2 : x.toList = ([] : List UInt8)
    · rw [if_pos h2]; exact ⟨_, rfl⟩
    · rw [if_neg h2, if_pos ⟨hx, rfl⟩]; exact ⟨_, rfl⟩
def slices_IndexFunc_string_string.f (l0 : List ByteArray) (a1 : Nat) : Option (Int) := if a1 = 140 ∧ (l0.all fun x => decide (x.size < 4294967281)) = true then (some (Lib.idxBy (fun _ y => (near_patched_1.f y).getD false) l0 default)) else (none)
set_option maxHeartbeats 8000000 in
set_option maxRecDepth 100000 in
theorem slices_IndexFunc_string_string.calls (A0 : Option Addr) (c0 : Nat) (l0 : List ByteArray) (a1 : Nat) (r : Int) (w : World) (hr0 : Kd.C Kd.string w A0 l0.length l0) (hc0 : l0.length ≤ c0) (h : slices_IndexFunc_string_string.f l0 a1 = some r) :
    Calls Tryd.prog 165 #[.slice A0 l0.length c0, .func (.func a1) #[] #[]] w fun e w' => e = .returned (.int .i64 r) ∧ Below w.heap.size w w' := by
  unfold slices_IndexFunc_string_string.f at h
  by_cases hs : a1 = 140 ∧ (l0.all fun x => decide (x.size < 4294967281)) = true
  · rw [if_pos hs] at h
    obtain rfl := Option.some.inj h
    obtain ⟨rfl, hall⟩ := hs
    have hm := Kd.C_max hr0
    have hsz : Aside0 (∀ x ∈ l0, x.size < 4294967281) := ⟨fun x hx => of_decide_eq_true (List.all_eq_true.1 hall x hx)⟩
    have hcall : Aside0 (∀ (x : ByteArray) (W : World), x ∈ l0 → Calls Tryd.prog 140 #[.string x] W fun e w' => e = .returned (.bool ((near_patched_1.f x).getD false)) ∧ Below W.heap.size W w') := ⟨fun x W hx => by
      obtain ⟨b, hb⟩ := slices_IndexFunc_string_string.t1 x (hsz.out x hx)
      rw [hb]
      exact near_patched_1.calls x b W hb⟩
    generalize hp : (fun y => (near_patched_1.f y).getD false) = p
    have hp2 : ∀ y, (near_patched_1.f y).getD false = p y := fun y => congrFun hp y
    simp only [hp2] at hcall ⊢
    have HR : Aside0 (Kd.C Kd.string w A0 l0.length l0) := ⟨hr0⟩
    have HB0 := Aside0.mk (Below.refl w.heap.size w)
    have eg : ∀ args w, (callFunc 140 args).run Tryd.prog w = .ok (.enter 140 args) w := enters_of Tryd.func140 (by kernel_rfl) rfl
    clear h hp hp2 hall hsz hr0
    go_enter Tryd.func165, Tryd.ntmps165
    go_wp2
    go_loopg [5, 8] l0.length (fun gg _ s8 wr => ∃ (W : World) (kk : Nat), W = wr ∧ kk ≤ l0.length ∧ l0.length - kk ≤ gg ∧ s8 = .int .i64 kk ∧ Aside0 (Below w.heap.size w W) ∧ Aside0 (∀ j, j < kk → p l0[j]! = false))
    case atStart => exact ⟨_, 0, rfl, Nat.zero_le _, by omega, rfl, HB0, ⟨fun j hj => absurd hj (Nat.not_lt_zero _)⟩⟩
    case round =>
      obtain ⟨W, kk, rfl, hkk, hg, rfl, HB, HN⟩ := hrel
      clear HB0
      by_cases hlt : kk < l0.length
      · have hltz : (kk : Int) < (l0.length : Int) := by omega
        obtain ⟨g, rfl⟩ : ∃ g, gk = g + 1 := ⟨gk - 1, by omega⟩
        obtain ⟨b, o, rfl, hbk, hcell⟩ := C_cells HR.out (Nat.lt_of_le_of_lt (Nat.zero_le _) hlt)
        have hx : W.cell? ⟨b, o + kk, none⟩ = some (.string l0[kk]!) := (HB.out.cell hbk).trans (by rw [hcell kk _ (List.getElem?_eq_getElem hlt), getElem!_pos l0 kk hlt])
        have hmem : l0[kk]! ∈ l0 := by rw [getElem!_pos l0 kk hlt]; exact List.getElem_mem hlt
        clear hcell
        generalize hy : l0[kk]! = y at hx hmem
        have HY := Aside0.mk hy
        have HC := Aside0.mk (hcall.out y W hmem)
        clear hy hmem
        cases hq : p y with
        | true =>
          rw [hq] at HC
          go_wp2_with (go_at_fn 140; refine (HC.out).mono ?_; rintro e w' ⟨rfl, hb⟩)
          go_ret
          refine ⟨?_, below_step HB.out hb⟩
          have e := Lib.idxBy_hit (fun _ y => p y) l0 l0.length kk default hlt (Nat.le_refl _) (by show p l0[kk]! = true; rw [HY.out]; exact hq) HN.out
          rw [List.take_length] at e
          rw [e]
          rfl
        | false =>
          rw [hq] at HC
          go_wp2_with (go_at_fn 140; refine (HC.out).mono ?_; rintro e w' ⟨rfl, hb⟩)
          go_roundg g
          case measure => omega
          case rel =>
            refine ⟨_, kk + 1, rfl, by omega, by omega, by go_num, ⟨below_step HB.out hb⟩, ⟨fun j hj => ?_⟩⟩
            by_cases e : j = kk
            · subst e
              rw [HY.out]; exact hq
            · exact HN.out j (by omega)
      · have hltz : ¬ (kk : Int) < (l0.length : Int) := by omega
        obtain rfl : kk = l0.length := by omega
        go_wp2
        go_ret
        refine ⟨?_, HB.out⟩
        have e := Lib.idxBy_miss (fun _ y => p y) l0 l0.length default HN.out
        rw [List.take_length] at e
        rw [e]
        rfl
  · rw [if_neg hs] at h
    exact absurd h (by simp)
def slices_ContainsFunc_string_string.f (l0 : List ByteArray) (a1 : Nat) : Option (Bool) := (slices_IndexFunc_string_string.f l0 a1).bind fun t207 => (some (decide (t207 ≥ 0)))
set_option maxHeartbeats 8000000 in
set_option maxRecDepth 100000 in
theorem slices_ContainsFunc_string_string.calls (A0 : Option Addr) (c0 : Nat) (l0 : List ByteArray) (a1 : Nat) (r : Bool) (w : World) (hr0 : Kd.C Kd.string w A0 l0.length l0) (hc0 : l0.length ≤ c0) (h : slices_ContainsFunc_string_string.f l0 a1 = some r) :
    Calls Tryd.prog 142 #[.slice A0 l0.length c0, .func (.func a1) #[] #[]] w fun e w' => e = .returned (.bool r) ∧ Below w.heap.size w w' := by
  have HR0 := Aside0.mk hr0
  have HC0 := Aside0.mk hc0
  clear hr0 hc0
  have HB := Aside0.mk (Below.refl w.heap.size w)
  have H : ((slices_IndexFunc_string_string.f l0 a1).bind fun t207 => (some (decide (t207 ≥ 0)))) = some r := h
  clear h
  replace H := Option.bind_eq_some_iff.mp H
  obtain ⟨t207, A30, H⟩ := H
  replace H : (some (decide (t207 ≥ 0))) = some r := H
  have A3 := Aside0.mk A30
  clear A30
  obtain rfl := Option.some.inj H
  go_enter Tryd.func142, Tryd.ntmps142
  go_wp2_with (first | ((with_reducible refine gate_callee (f := 165) rfl ?_); refine goesL_ (some 7) rfl rfl Tryd.func165 (by kernel_rfl) rfl #[.slice A0 l0.length c0, .func (.func a1) #[] #[]] rfl (by (try simp only [List.map_toArray, List.map_cons, List.map_nil]); first | done | rfl | (simp only [List.length_drop, List.length_take]; rfl)) ?_; (with_reducible refine (slices_IndexFunc_string_string.calls _ _ l0 a1 t207 _ ?side1 ?side2 A3.out).mono ?_); (case side1 => repeat (first | exact HR0.out | (with_reducible refine Kd.C_alloc ?_ _) | (with_reducible refine Kd.C_drewN ?_ _) | (with_reducible refine Kd.C_drew ?_))); (case side2 => exact HC0.out); rintro e w4 ⟨rfl, hb⟩; refine ⟨_, rfl, ?_⟩; have n0_ := Aside0.mk (below_step (by repeat (first | (with_reducible first | exact HB.out | apply below_alloc | apply pw_below_drewN | apply below_drew1) | exact HB.out)) hb); clear HB; have HB := n0_; clear n0_; (try clear hb); (try clear hb2); (try clear hk); (try clear hi)))
  go_ret
  exact ⟨by first | rfl | (simp [errW_none, errW_some] <;> rfl) | (simp [*, errW_none, errW_some] <;> rfl), by repeat (first | (with_reducible first | exact HB.out | apply below_alloc | apply pw_below_drewN | apply below_drew1) | exact HB.out)⟩
mutual
def near_patched.l0 : Nat → List ByteArray → List ByteArray → Int → List (S72) → Int → Int → Option (List ByteArray × Int)
  | 0, _, _, _, _, _, _ => none
  | k + 1, x6, x8, x9, x21, x22, x23 => if x23 < x22 then (if 0 ≤ x23 then (if x23 < (x21.length : Int) then ((base_In.f ((rd_T72 x21 x23).f0) 0 (x6.length : Int)).bind fun t223 => (if t223 = true then (if x23 > 0 then (near_patched.j1 k x6 x8 x9 140 x21 x22 x23 (decide (((rd_T72 x21 x23).f0) ≤ x9)) ((rd_T72 x21 x23).f0) ((rd_T72 x21 x23).f1) ((rd_T72 x21 x23).f2)) else (near_patched.j1 k x6 x8 x9 140 x21 x22 x23 false ((rd_T72 x21 x23).f0) ((rd_T72 x21 x23).f1) ((rd_T72 x21 x23).f2))) else (some (([] : List ByteArray), 1)))) else (none)) else (none)) else (if 0 ≤ x9 then (if x9 ≤ (x6.length : Int) then ((some (x6.drop (x9 : Int).toNat : List ByteArray)).bind fun y212 => (if x8.length + y212.length < 8796093022208 then ((some (x8 ++ y212 : List ByteArray)).bind fun y216 => ((near_Join.f y216).bind fun t219 => ((near_large.f t219).bind fun t220 => (some (y216, t220))))) else (none))) else (none)) else (none))
def near_patched.j1 : Nat → List ByteArray → List ByteArray → Int → Nat → List (S72) → Int → Int → Bool → Int → List ByteArray → List ByteArray → Option (List ByteArray × Int)
  | 0, _, _, _, _, _, _, _, _, _, _, _ => none
  | k + 1, x6, x8, x9, x12, x21, x22, x23, x35, x223000, x223001, x223002 => if x35 = true then (some (([] : List ByteArray), 7)) else (if (x223001.length : Int) = 0 then (if (x223002.length : Int) = 0 then (near_patched.j2 k x6 x8 x9 x21 x22 x23 true x223000 x223001 x223002) else ((slices_ContainsFunc_string_string.f x223001 x12).bind fun t224 => (if t224 = true then (near_patched.j2 k x6 x8 x9 x21 x22 x23 true x223000 x223001 x223002) else ((slices_ContainsFunc_string_string.f x223002 x12).bind fun t225 => (near_patched.j2 k x6 x8 x9 x21 x22 x23 t225 x223000 x223001 x223002))))) else ((slices_ContainsFunc_string_string.f x223001 x12).bind fun t226 => (if t226 = true then (near_patched.j2 k x6 x8 x9 x21 x22 x23 true x223000 x223001 x223002) else ((slices_ContainsFunc_string_string.f x223002 x12).bind fun t227 => (near_patched.j2 k x6 x8 x9 x21 x22 x23 t227 x223000 x223001 x223002)))))
def near_patched.j2 : Nat → List ByteArray → List ByteArray → Int → List (S72) → Int → Int → Bool → Int → List ByteArray → List ByteArray → Option (List ByteArray × Int)
  | 0, _, _, _, _, _, _, _, _, _, _ => none
  | k + 1, x6, x8, x9, x21, x22, x23, x44, x223000, x223001, x223002 => if x44 = true then (some (([] : List ByteArray), 3)) else (if (x223001.length : Int) > (wrap64 ((x6.length : Int) - x223000)) then (some (([] : List ByteArray), 13)) else (if 0 ≤ x223000 then (if x223000 ≤ (wrap64 (x223000 + (x223001.length : Int))) then (if (wrap64 (x223000 + (x223001.length : Int))) ≤ (x6.length : Int) then ((slices_Equal_string_string.f k ((x6.take ((wrap64 (x223000 + (x223001.length : Int))) : Int).toNat).drop (x223000 : Int).toNat) x223001).bind fun t232 => (if t232 = true then (if 0 ≤ x9 then (if x9 ≤ x223000 then (if x223000 ≤ (x6.length : Int) then ((some ((x6.take (x223000 : Int).toNat).drop (x9 : Int).toNat : List ByteArray)).bind fun y233 => (if x8.length + y233.length < 8796093022208 then ((some (x8 ++ y233 : List ByteArray)).bind fun y237 => (if y237.length + x223002.length < 8796093022208 then (near_patched.l0 k x6 (y237 ++ x223002) (wrap64 (x223000 + (x223001.length : Int))) x21 x22 (wrap64 (x23 + 1))) else (none))) else (none))) else (none)) else (none)) else (none)) else (some (([] : List ByteArray), 13)))) else (none)) else (none)) else (none)))
end
def near_patched.f (k : Nat) (a0 : ByteArray) (l1 : List (S72)) : Option (List ByteArray × Int) := (near_tokens.f k a0).bind fun bt208 => (if bt208.2 = 0 then (near_patched.l0 k bt208.1 ([] : List ByteArray) 0 l1 (l1.length : Int) 0) else (some (([] : List ByteArray), bt208.2)))
theorem near_patched.mono_l : ∀ k, (∀ y0 y1 y2 y3 y4 y5, LeO (near_patched.l0 k y0 y1 y2 y3 y4 y5) (near_patched.l0 (k + 1) y0 y1 y2 y3 y4 y5)) ∧ (∀ y0 y1 y2 y3 y4 y5 y6 y7 y8 y9 y10, LeO (near_patched.j1 k y0 y1 y2 y3 y4 y5 y6 y7 y8 y9 y10) (near_patched.j1 (k + 1) y0 y1 y2 y3 y4 y5 y6 y7 y8 y9 y10)) ∧ (∀ y0 y1 y2 y3 y4 y5 y6 y7 y8 y9, LeO (near_patched.j2 k y0 y1 y2 y3 y4 y5 y6 y7 y8 y9) (near_patched.j2 (k + 1) y0 y1 y2 y3 y4 y5 y6 y7 y8 y9))
  | 0 => ⟨fun _ _ _ _ _ _ r h => by simp [near_patched.l0] at h, fun _ _ _ _ _ _ _ _ _ _ _ r h => by simp [near_patched.j1] at h, fun _ _ _ _ _ _ _ _ _ _ r h => by simp [near_patched.j2] at h⟩
  | k + 1 => by
    obtain ⟨ih0, ih1, ih2⟩ := near_patched.mono_l k
    refine ⟨?_, ?_, ?_⟩
    · intro y0 y1 y2 y3 y4 y5
      unfold near_patched.l0
      repeat' first
      | (with_reducible exact ih0 _ _ _ _ _ _)
      | (with_reducible exact ih1 _ _ _ _ _ _ _ _ _ _ _)
      | (with_reducible exact ih2 _ _ _ _ _ _ _ _ _ _)
      | (with_reducible exact near_tokens.mono _ _)
      | (with_reducible exact slices_Equal_string_string.mono _ _ _)
      | (with_reducible exact LeO.refl _)
      | (with_reducible exact LeO.none _)
      | (with_reducible refine LeO.ite ?_ ?_)
      | (with_reducible refine LeO.bind ?_ (fun _ => ?_))
      | exact ih0 _ _ _ _ _ _
      | exact ih1 _ _ _ _ _ _ _ _ _ _ _
      | exact ih2 _ _ _ _ _ _ _ _ _ _
      | exact near_tokens.mono _ _
      | exact slices_Equal_string_string.mono _ _ _
      | exact LeO.none _
      | refine LeO.ite ?_ ?_
      | refine LeO.bind ?_ (fun _ => ?_)
    · intro y0 y1 y2 y3 y4 y5 y6 y7 y8 y9 y10
      unfold near_patched.j1
      repeat' first
      | (with_reducible exact ih0 _ _ _ _ _ _)
      | (with_reducible exact ih1 _ _ _ _ _ _ _ _ _ _ _)
      | (with_reducible exact ih2 _ _ _ _ _ _ _ _ _ _)
      | (with_reducible exact near_tokens.mono _ _)
      | (with_reducible exact slices_Equal_string_string.mono _ _ _)
      | (with_reducible exact LeO.refl _)
      | (with_reducible exact LeO.none _)
      | (with_reducible refine LeO.ite ?_ ?_)
      | (with_reducible refine LeO.bind ?_ (fun _ => ?_))
      | exact ih0 _ _ _ _ _ _
      | exact ih1 _ _ _ _ _ _ _ _ _ _ _
      | exact ih2 _ _ _ _ _ _ _ _ _ _
      | exact near_tokens.mono _ _
      | exact slices_Equal_string_string.mono _ _ _
      | exact LeO.none _
      | refine LeO.ite ?_ ?_
      | refine LeO.bind ?_ (fun _ => ?_)
    · intro y0 y1 y2 y3 y4 y5 y6 y7 y8 y9
      unfold near_patched.j2
      repeat' first
      | (with_reducible exact ih0 _ _ _ _ _ _)
      | (with_reducible exact ih1 _ _ _ _ _ _ _ _ _ _ _)
      | (with_reducible exact ih2 _ _ _ _ _ _ _ _ _ _)
      | (with_reducible exact near_tokens.mono _ _)
      | (with_reducible exact slices_Equal_string_string.mono _ _ _)
      | (with_reducible exact LeO.refl _)
      | (with_reducible exact LeO.none _)
      | (with_reducible refine LeO.ite ?_ ?_)
      | (with_reducible refine LeO.bind ?_ (fun _ => ?_))
      | exact ih0 _ _ _ _ _ _
      | exact ih1 _ _ _ _ _ _ _ _ _ _ _
      | exact ih2 _ _ _ _ _ _ _ _ _ _
      | exact near_tokens.mono _ _
      | exact slices_Equal_string_string.mono _ _ _
      | exact LeO.none _
      | refine LeO.ite ?_ ?_
      | refine LeO.bind ?_ (fun _ => ?_)
theorem near_patched.mono : ∀ a0 a1 k, LeO (near_patched.f k a0 a1) (near_patched.f (k + 1) a0 a1) := by
  intro a0 a1 k
  obtain ⟨ih0, ih1, ih2⟩ := near_patched.mono_l k
  unfold near_patched.f
  repeat' first
      | (with_reducible exact ih0 _ _ _ _ _ _)
      | (with_reducible exact ih1 _ _ _ _ _ _ _ _ _ _ _)
      | (with_reducible exact ih2 _ _ _ _ _ _ _ _ _ _)
      | (with_reducible exact near_tokens.mono _ _)
      | (with_reducible exact slices_Equal_string_string.mono _ _ _)
      | (with_reducible exact LeO.refl _)
      | (with_reducible exact LeO.none _)
      | (with_reducible refine LeO.ite ?_ ?_)
      | (with_reducible refine LeO.bind ?_ (fun _ => ?_))
      | exact ih0 _ _ _ _ _ _
      | exact ih1 _ _ _ _ _ _ _ _ _ _ _
      | exact ih2 _ _ _ _ _ _ _ _ _ _
      | exact near_tokens.mono _ _
      | exact slices_Equal_string_string.mono _ _ _
      | exact LeO.none _
      | refine LeO.ite ?_ ?_
      | refine LeO.bind ?_ (fun _ => ?_)
end Go.Proofs.YtomamgapdeggjaaDoor.Pl
