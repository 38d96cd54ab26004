/- A part of the proof of textsCovered. No conditions. Laid by program over the kit's print and words. -/
import Derived.Test.YtolcpmdojlbhcaaDoorZyPxx0
import Derived.Test.YtolcpmdojlbhcaaDoorZyPxx5
import Derived.Test.YtolcpmdojlbhcaaDoorZyPxx6
import Derived.Test.YtolcpmdojlbhcaaDoorZyPxx7
import Derived.Test.YtolcpmdojlbhcaaDoorZyPxx10
import Derived.Test.YtolcpmdojlbhcaaDoorZyPxx11
import Derived.Test.YtolcpmdojlbhcaaDoorZyPxx12
import Derived.Test.YtolcpmdojlbhcaaDoorZyPxx13
import Derived.Test.YtolcpmdojlbhcaaDoorZyPxx14
namespace Go.Proofs.YtolcpmdojlbhcaaDoor.Px
open Go.RowKit Go.Proofs.YtolcpmdojlbhcaaDoor.GBase Go.Proofs.YtolcpmdojlbhcaaDoorW.PrintWords Go.Proofs.YtolcpmdojlbhcaaDoorW.PrintLast Go.Proofs.YtolcpmdojlbhcaaDoorW.PrintMore
attribute [local go_sem] str_leq max2_int min2_int max_two min_two max_three min_three max_four min_four
set_option linter.unusedVariables false
set_option linter.unusedSimpArgs false
def Z21.hide1 (cs : List Bool) : Nat → Nat → List UInt8 → List UInt8
  | 0, _, bs => bs
  | m + 1, j, bs => Z21.hide1 cs m (j + 1) (if cs.getD j false = true then bs.set j (hideB (bs.getD j 0)) else bs)
theorem Z21.wrap2 (n N : Nat) (h : n < N) (hN : N ≤ 9223372036854775807) : wrap64 ((n : Int) + 1) = ((n + 1 : Nat) : Int) := (wr64 (by omega) (by omega)).trans (by omega)
def Z21.f (k : Nat) (a0 : ByteArray) (l1 : List S46) : Option (ByteArray) := if a0.size ≤ 140737488355328 then ((Z14.f k a0 l1).bind fun t1 => (if t1.length ≤ a0.size then (some (⟨(Z21.hide1 t1 t1.length 0 a0.data.toList).toArray⟩ : ByteArray)) else (none))) else (none)
theorem Z21.mono : ∀ a0 a1 k, LeO (Z21.f k a0 a1) (Z21.f (k + 1) a0 a1) := by
  intro a0 a1 k
  unfold Z21.f
  repeat' first
      | (with_reducible exact Z14.mono _ _ _)
      | (with_reducible exact LeO.refl _)
      | (with_reducible exact LeO.none _)
      | (with_reducible refine LeO.ite ?_ ?_)
      | (with_reducible refine LeO.bind ?_ (fun _ => ?_))
      | exact LeO.none _
      | refine LeO.ite ?_ ?_
      | refine LeO.bind ?_ (fun _ => ?_)
set_option maxHeartbeats 8000000 in
set_option maxRecDepth 100000 in
theorem Z21.calls (k : Nat) (a0 : ByteArray) (A1 : Option Addr) (c1 : Nat) (l1 : List (S46)) (r : ByteArray) (w : World) (hr1 : Kd.C k46 w A1 l1.length l1) (hc1 : l1.length ≤ c1) (hGl : Wd w) (h : Z21.f k a0 l1 = some r) :
    Calls Tryd.prog 32 #[.string a0, .slice A1 l1.length c1] w fun e w' => e = .returned (.string r) ∧ Below w.heap.size w w' := by
  unfold Z21.f at h
  have hz : a0.size ≤ 140737488355328 := by
    rcases Nat.lt_or_ge 140737488355328 a0.size with hz | hz
    · rw [if_neg (by omega)] at h
      exact absurd h (by simp)
    · exact hz
  rw [if_pos hz] at h
  cases h1 : Z14.f k a0 l1 with
  | none => rw [h1] at h; exact absurd h (by simp)
  | some cs =>
  rw [h1, Option.bind_some] at h
  have hcl : cs.length ≤ a0.size := by
    rcases Nat.lt_or_ge a0.size cs.length with q | q
    · rw [if_neg (by omega)] at h
      exact absurd h (by simp)
    · exact q
  rw [if_pos hcl] at h
  obtain ⟨bsF, hF⟩ : ∃ b, Z21.hide1 cs cs.length 0 a0.data.toList = b := ⟨_, rfl⟩
  rw [hF] at h
  obtain rfl := Option.some.inj h
  have HP : Aside0 (∀ w', Below w.heap.size w w' → Calls Tryd.prog 65 #[.string a0, .slice A1 l1.length c1] w' fun e w'' => ∃ v0_ : Value, e = .returned (v0_) ∧ Kd.R Kd.bool 4 w'' w'.heap.size (fun _ => True) v0_ cs ∧ Below w'.heap.size w' w'') := am_ fun w' hb => Z14.calls k a0 A1 c1 l1 cs w' (Kd.C_below hr1 hb) hc1 (Wd.below hGl hb) h1
  have HF : Aside0 (Z21.hide1 cs (cs.length - 0) 0 a0.data.toList = bsF) := ⟨hF⟩
  have HCL := am_ hcl; clear h h1 hF hr1 hc1 hGl hcl
  have hconv := fun (w : World) => Lib.run_convert_string_bytes (P := Tryd.prog) w 9 73 5 a0 Tryd.underlying9 Tryd.underlying73 Tryd.underlying5
  have HB1 := am_ (BAt.start (e := 5) (Below.refl w.heap.size w) a0)
  have HP2 := am_ (HP.out _ HB1.out.1)
  clear HP
  go_enter Tryd.func32, Tryd.ntmps32
  go_wp2_with (go_at_call 65; refine HP2.out.mono ?_; rintro e w2 ⟨v0, rfl, hR, hb2⟩; obtain ⟨A2, c2, rfl, hlc2, hC2⟩ := Kd.R_reads hR)
  have HB2 := am_ (HB1.out.below hb2)
  have HR2 : Aside0 (Kd.R Kd.bool 4 w2 (Lib.bytesWorld w 5 a0).heap.size (fun k_ => k_ ≠ w.heap.size) (.slice A2 cs.length c2) cs) := ⟨Kd.R_mono (Kd.R_bound hR) (fun k_ hk => by
    have h1 := hk.2.1
    rw [Lib.bytesWorld_size] at h1
    omega)⟩
  have HZ : Aside0 (a0.data.toList.length = a0.size) := ⟨data_length a0⟩
  clear HB1 HP2 hb2 hR hC2 hlc2 hconv
  generalize (Lib.bytesWorld w 5 a0).heap.size = B at *
  generalize grownCap w a0.size 0 5 = cp at *
  obtain ⟨g, hg⟩ : ∃ g, w.heap.size = g := ⟨_, rfl⟩
  rw [hg] at HB2 HR2 ⊢
  go_loopw [14] (fun i wr => ∃ (j : Nat) (bs1 : List UInt8), i = .int .i64 j ∧ Aside0 (j ≤ cs.length) ∧ Aside0 (bs1.length = a0.size) ∧ Aside0 (BAt 5 w wr g bs1) ∧ Aside0 (Kd.R Kd.bool 4 wr B (fun k_ => k_ ≠ g) (.slice A2 cs.length c2) cs) ∧ Aside0 (Z21.hide1 cs (cs.length - j) j bs1 = bsF)) (fun i _ => cs.length - (intOf i).toNat)
  case atStart => exact ⟨0, a0.data.toList, rfl, ⟨Nat.zero_le _⟩, HZ, HB2, HR2, HF⟩
  case round =>
    obtain ⟨j, bs1, rfl, HJ, HL, HBt, HRw, HH⟩ := hrel
    have hmax : cs.length ≤ 9223372036854775807 := Kd.C_max (Kd.R_reads' HRw.out).2.2
    by_cases hlt : j < cs.length
    · obtain ⟨gq, cq, eF, _, _, _⟩ := Kd.R_form HRw.out (by omega)
      injection eF with e1 e2 e3; subst e1; subst e3; clear e2
      have hcz := (Kd.R_cell false HRw.out (j : Int) (by omega) (by omega)).1
      have er : rdOf false cs (j : Int) = cs[j] := by simp [rdOf, List.getD_eq_getElem?_getD, List.getElem?_eq_getElem hlt]
      rw [er, Int.toNat_natCast] at hcz
      obtain ⟨m, hm⟩ : ∃ m, cs.length - j = m + 1 := ⟨cs.length - j - 1, by omega⟩
      have h6 := HH.out
      rw [hm] at h6
      simp only [Z21.hide1] at h6
      have hm2 : cs.length - (j + 1) = m := by omega
      have hn : j < bs1.length := by have := HL.out; have := HCL.out; omega
      have hna : j < a0.size := by have := HL.out; omega
      have eg : bs1.getD j 0 = bs1[j] := by rw [List.getD_eq_getElem?_getD, List.getElem?_eq_getElem hn]; rfl
      have ec : cs.getD j false = cs[j] := by rw [List.getD_eq_getElem?_getD, List.getElem?_eq_getElem hlt]; rfl
      rw [eg, ec, ← hm2] at h6
      have HX : Aside0 (j + 1 ≤ cs.length) := ⟨by omega⟩
      have HW := am_ (Z21.wrap2 j _ hlt hmax)
      clear hmax; clear HH er hm hm2 eg ec HF HB2 HR2 HZ HJ
      cases hb : cs[j] with
      | false =>
        rw [hb] at hcz h6
        rw [if_neg (by decide)] at h6
        have HH6 := am_ h6; clear h6 hb
        have hw := HW.out
        go_wp2
        go_roundw
        case rel => exact ⟨j + 1, bs1, by go_num, HX, HL, HBt, HRw, HH6⟩
        case measure => have := HX.out; simp [intOf]; omega
      | true =>
        rw [hb] at hcz h6
        rw [if_pos rfl] at h6
        have H6 := am_ h6
        have hcell := HBt.out.cell hn
        have hfree := HBt.out.free hn
        have HP0 := am_ (HBt.out.put hn (hideB bs1[j]))
        have HSA : Aside0 (bs1[j] = 32 ∨ bs1[j] = 10 → bs1.set j (hideB bs1[j]) = bs1) := ⟨fun h => by
          have : hideB bs1[j] = bs1[j] := by unfold hideB; rw [if_pos h]
          rw [this, List.set_getElem_self]⟩
        clear h6 hb
        by_cases h32 : bs1[j] = 32
        · have hs := HSA.out (.inl h32)
          have e1 : ((bs1[j].toNat : Int) != 32) = false := by rw [h32]; rfl
          have e2 : ((bs1[j].toNat : Int) == 32) = true := by rw [h32]; rfl
          have HH6 : Aside0 (Z21.hide1 cs (cs.length - (j + 1)) (j + 1) bs1 = bsF) := ⟨by rw [← H6.out, hs]⟩
          clear h32 hs HSA H6 HP0
          have hw := HW.out
          go_wp2
          go_roundw
          case rel => exact ⟨j + 1, bs1, by go_num, HX, HL, HBt, HRw, HH6⟩
          case measure => have := HX.out; simp [intOf]; omega
        · by_cases h10 : bs1[j] = 10
          · have hs := HSA.out (.inr h10)
            have e1 : ((bs1[j].toNat : Int) != 32) = true := by rw [h10]; rfl
            have e2 : ((bs1[j].toNat : Int) == 32) = false := by rw [h10]; rfl
            have e3 : ((bs1[j].toNat : Int) != 10) = false := by rw [h10]; rfl
            have e4 : ((bs1[j].toNat : Int) == 10) = true := by rw [h10]; rfl
            have HH6 : Aside0 (Z21.hide1 cs (cs.length - (j + 1)) (j + 1) bs1 = bsF) := ⟨by rw [← H6.out, hs]⟩
            clear h10 h32 hs HSA H6 HP0
            have hw := HW.out
            go_wp2
            go_roundw
            case rel => exact ⟨j + 1, bs1, by go_num, HX, HL, HBt, HRw, HH6⟩
            case measure => have := HX.out; simp [intOf]; omega
          · have hb : hideB bs1[j] = 35 := by unfold hideB; rw [if_neg (by rintro (h | h); exact h32 h; exact h10 h)]
            have t32 : ¬ (bs1[j].toNat : Int) = 32 := fun h => h32 (UInt8.toNat_inj.1 (show bs1[j].toNat = 32 by omega))
            have t10 : ¬ (bs1[j].toNat : Int) = 10 := fun h => h10 (UInt8.toNat_inj.1 (show bs1[j].toNat = 10 by omega))
            have e1 : ((bs1[j].toNat : Int) != 32) = true := bne_iff_ne.mpr t32
            have e2 : ((bs1[j].toNat : Int) == 32) = false := beq_eq_false_iff_ne.mpr t32
            have e3 : ((bs1[j].toNat : Int) != 10) = true := bne_iff_ne.mpr t10
            have e4 : ((bs1[j].toNat : Int) == 10) = false := beq_eq_false_iff_ne.mpr t10
            have HH6 : Aside0 (Z21.hide1 cs (cs.length - (j + 1)) (j + 1) (bs1.set j 35) = bsF) := ⟨by rw [← H6.out, hb]⟩
            have HP1 : Aside0 (BAt 5 w (wr.setCell ⟨g, j, none⟩ (.int .u8 35)) g (bs1.set j 35)) := ⟨by have := HP0.out; rw [hb] at this; exact this⟩
            have HRn := am_ (Kd.R_far (p := ⟨g, j, none⟩) HRw.out (fun _ h => h) (.int .u8 35))
            have HLn : Aside0 ((bs1.set j 35).length = a0.size) := ⟨by rw [List.length_set]; exact HL.out⟩
            clear h10 h32 hb HSA H6 HP0 t32 t10
            have hw := HW.out
            go_wp2
            go_roundw
            case rel => exact ⟨j + 1, bs1.set j 35, by go_num, HX, HLn, HP1, HRn, HH6⟩
            case measure => have := HX.out; simp [intOf]; omega
    · obtain rfl : j = cs.length := by have := HJ.out; omega
      have h4 := HH.out
      rw [Nat.sub_self] at h4
      simp only [Z21.hide1] at h4
      subst h4
      have hB := HBt.out.1
      have hd := HBt.out.done Tryd.prog 73 9 cp Tryd.underlying73 Tryd.underlying5 Tryd.underlying9
      rw [HL.out] at hd
      clear HH HJ HRw HBt HB2 HR2 HZ HF
      go_wp2
      go_ret
      exact ⟨rfl, hB⟩
mutual
def Z15.l0 : Nat → ByteArray → List Bool → Int → Int → Option (List ByteArray)
  | 0, _, _, _, _ => none
  | k + 1, x0, x6, x14, x15 => if x15 < x14 then (if 0 ≤ x15 then (if x15 < (x6.length : Int) then (Z15.l0 k x0 (x6.set (x15 : Int).toNat (!(rdOf false x6 x15))) x14 (wrap64 (x15 + 1))) else (none)) else (none)) else ((Z10.f k x6).bind fun t394 => (Z15.l1 k x0 ([] : List ByteArray) t394 (t394.length : Int) 0))
def Z15.l1 : Nat → ByteArray → List ByteArray → List (S46) → Int → Int → Option (List ByteArray)
  | 0, _, _, _, _, _ => none
  | k + 1, x0, x5, x28, x29, x30 => if x30 < x29 then (if 0 ≤ x30 then (if x30 < (x28.length : Int) then (if 0 ≤ ((rd_T46 x28 x30).f0) then (if ((rd_T46 x28 x30).f0) ≤ ((rd_T46 x28 x30).f1) then (if ((rd_T46 x28 x30).f1) ≤ (x0.size : Int) then ((Z31.f k (x0.extract (((rd_T46 x28 x30).f0) : Int).toNat (((rd_T46 x28 x30).f1) : Int).toNat)).bind fun t399 => (if x5.length + t399.length < 8796093022208 then (Z15.l1 k x0 (x5 ++ t399) x28 x29 (wrap64 (x30 + 1))) else (none))) else (none)) else (none)) else (none)) else (none)) else (none)) else (some x5)
end
def Z15.f (k : Nat) (a0 : ByteArray) (l1 : List (S46)) : Option (List ByteArray) := (Z14.f k a0 l1).bind fun t389 => (Z15.l0 k a0 t389 (t389.length : Int) 0)
theorem Z15.mono_l : ∀ k, (∀ y0 y1 y2 y3, LeO (Z15.l0 k y0 y1 y2 y3) (Z15.l0 (k + 1) y0 y1 y2 y3)) ∧ (∀ y0 y1 y2 y3 y4, LeO (Z15.l1 k y0 y1 y2 y3 y4) (Z15.l1 (k + 1) y0 y1 y2 y3 y4))
  | 0 => ⟨fun _ _ _ _ r h => by simp [Z15.l0] at h, fun _ _ _ _ _ r h => by simp [Z15.l1] at h⟩
  | k + 1 => by
    obtain ⟨ih0, ih1⟩ := Z15.mono_l k
    refine ⟨?_, ?_⟩
    · intro y0 y1 y2 y3
      unfold Z15.l0
      repeat' first
      | (with_reducible exact ih0 _ _ _ _)
      | (with_reducible exact ih1 _ _ _ _ _)
      | (with_reducible exact Z31.mono _ _)
      | (with_reducible exact Z14.mono _ _ _)
      | (with_reducible exact Z10.mono _ _)
      | (with_reducible exact LeO.refl _)
      | (with_reducible exact LeO.none _)
      | (with_reducible refine LeO.ite ?_ ?_)
      | (with_reducible refine LeO.bind ?_ (fun _ => ?_))
      | exact ih0 _ _ _ _
      | exact ih1 _ _ _ _ _
      | exact LeO.none _
      | refine LeO.ite ?_ ?_
      | refine LeO.bind ?_ (fun _ => ?_)
    · intro y0 y1 y2 y3 y4
      unfold Z15.l1
      repeat' first
      | (with_reducible exact ih0 _ _ _ _)
      | (with_reducible exact ih1 _ _ _ _ _)
      | (with_reducible exact Z31.mono _ _)
      | (with_reducible exact Z14.mono _ _ _)
      | (with_reducible exact Z10.mono _ _)
      | (with_reducible exact LeO.refl _)
      | (with_reducible exact LeO.none _)
      | (with_reducible refine LeO.ite ?_ ?_)
      | (with_reducible refine LeO.bind ?_ (fun _ => ?_))
      | exact ih0 _ _ _ _
      | exact ih1 _ _ _ _ _
      | exact LeO.none _
      | refine LeO.ite ?_ ?_
      | refine LeO.bind ?_ (fun _ => ?_)
theorem Z15.mono : ∀ a0 a1 k, LeO (Z15.f k a0 a1) (Z15.f (k + 1) a0 a1) := by
  intro a0 a1 k
  obtain ⟨ih0, ih1⟩ := Z15.mono_l k
  unfold Z15.f
  repeat' first
      | (with_reducible exact ih0 _ _ _ _)
      | (with_reducible exact ih1 _ _ _ _ _)
      | (with_reducible exact Z31.mono _ _)
      | (with_reducible exact Z14.mono _ _ _)
      | (with_reducible exact Z10.mono _ _)
      | (with_reducible exact LeO.refl _)
      | (with_reducible exact LeO.none _)
      | (with_reducible refine LeO.ite ?_ ?_)
      | (with_reducible refine LeO.bind ?_ (fun _ => ?_))
      | exact ih0 _ _ _ _
      | exact ih1 _ _ _ _ _
      | exact LeO.none _
      | refine LeO.ite ?_ ?_
      | refine LeO.bind ?_ (fun _ => ?_)
set_option maxHeartbeats 8000000 in
set_option maxRecDepth 100000 in
theorem Z15.calls (k : Nat) (a0 : ByteArray) (A1 : Option Addr) (c1 : Nat) (l1 : List (S46)) (r : List ByteArray) (w : World) (hr1 : Kd.C k46 w A1 l1.length l1) (hc1 : l1.length ≤ c1) (hGl : Wd w) (h : Z15.f k a0 l1 = some r) :
  Calls Tryd.prog 33 #[.string a0, .slice A1 l1.length c1] w fun e w' => ∃ v0_ : Value, e = .returned (v0_) ∧ Kd.R Kd.string 9 w' w.heap.size (fun _ => True) v0_ r ∧ Below w.heap.size w w' := by
 have hu46 := Tryd.underlying46
 have HGl := am_ hGl; clear hGl; have HR1 := am_ hr1; have HC1 := am_ hc1; clear hr1 hc1
 have HB := am_ (Below.refl w.heap.size w)
 have H : ((Z14.f k a0 l1).bind fun t389 => (Z15.l0 k a0 t389 (t389.length : Int) 0)) = some r := h
 clear h; replace H := Option.bind_eq_some_iff.mp H; obtain ⟨t389, A30, H⟩ := H; have A3 := am_ A30; clear A30
 have H' := am_ H
 clear H
 go_enter Tryd.func33, Tryd.ntmps33
 go_wp2_with (first | ((with_reducible refine gate_callee (f := 65) rfl ?_); refine goesL_ (some 12) rfl rfl Tryd.func65 (by kernel_rfl) rfl #[.string a0, .slice A1 l1.length c1] rfl gl_ ?_; (with_reducible refine (Z14.calls k a0 _ _ l1 t389 _ ?side1 ?side2 ?side3 A3.out).mono ?_); (case side1 => exact cc_ HR1.out); (case side2 => exact HC1.out); (case side3 => exact Wd.below HGl.out (bw_ HB.out)); rintro e w4 ⟨v390, rfl, ho0, hb⟩; refine ⟨_, rfl, ?_⟩; have n0_ := am_ (Kd.R_lower ho0 (below_size (bw_ HB.out))); have n1_ := am_ (below_step (bw_ HB.out) hb); clear HB; have HO391 := n0_; have HB := n1_; clear n0_ n1_; (try clear hb); (try clear hb2); (try clear hk); (try clear hi); (try clear ho0); obtain ⟨Ao5, co5, eo5⟩ := Kd.R_slice HO391.out; subst eo5))
 go_loopg [15] k (fun kq v15 w' => ∃ (x6_1 : List Bool) (x15_1 : Int), v15 = .int .i64 x15_1 ∧ Aside0 (Z15.l0 kq a0 x6_1 (t389.length : Int) x15_1 = some r) ∧ Aside0 (kq ≤ k) ∧ Aside0 (Kd.R Kd.bool 4 w' w.heap.size (fun _ => True) (.slice Ao5 t389.length co5) x6_1) ∧ Aside0 (Below w.heap.size w w'))
 case atStart => exact ⟨(t389), (0), tr_, H', ⟨Nat.le_refl _⟩, ⟨rr_ HO391.out⟩, ⟨bw_ HB.out⟩⟩
 case round =>
  clear H'; (try clear c1); (try clear p2); (try clear c3); obtain ⟨x6_1, x15_1, rfl, HA, HK1, HO_6, HB⟩ := hrel
  have hl6_1 := (Kd.R_reads' HO_6.out).1
  rw [hl6_1] at HO_6
  (try simp only [hl6_1])
  cases gk with
  | zero => exact absurd HA.out (by simp [Z15.l0])
  | succ k1 =>
   have H := HA.out
   clear HA
   simp only [Z15.l0] at H
   by_cases c6 : x15_1 < (t389.length : Int)
   ·rw [if_pos c6] at H
    have c6b0 := decide_eq_true c6; clear c6
    by_cases c7 : 0 ≤ x15_1
    case neg => exact (nn_ c7 H).elim
    rw [if_pos c7] at H; have c7b0 := decide_eq_true c7; clear c7
    by_cases c8 : x15_1 < (x6_1.length : Int)
    case neg => exact (nn_ c8 H).elim
    rw [if_pos c8] at H; have c8b0 := decide_eq_true c8; clear c8
    obtain ⟨y393, hy393⟩ : ∃ y_ : List Bool, y_ = (x6_1.set (x15_1 : Int).toNat (!(rdOf false x6_1 x15_1))) := ⟨_, rfl⟩
    replace H : (Z15.l0 k1 a0 y393 (t389.length : Int) (wrap64 (x15_1 + 1))) = some r := by first | (rw [hy393]; with_reducible exact H) | (have H2_ := (Option.bind_some _ _).symm.trans H; rw [hy393]; with_reducible exact H2_) | (have H2_ := (Option.bind_some _ _).symm.trans H; with_reducible exact H2_) | with_reducible exact H | (rw [hy393]; exact H) | exact H
    have Ny393 := am_ hy393; clear hy393
    have H' := am_ H
    clear H; have p392 : 0 ≤ (x15_1 : Int) := ode_; have q392 : x15_1 < (x6_1.length : Int) := ode_
    obtain ⟨ad392, e392, hx392_0⟩ := Kd.at_bool (Kd.R_reads' HO_6.out).2.2 x15_1 p392 q392
    cases e392; replace p392 := eq_true p392; replace q392 := eq_true q392; have p9 : 0 ≤ (x15_1 : Int) := ode_; have q9 : (x15_1 : Int) < ((x6_1.length : Int) : Int) := ode_
    obtain ⟨go9, co9, eo9, gb9, gl9, cl9, HG9⟩ := Kd.R_form HO_6.out (by omega)
    (first | cases eo9 | (injection eo9 with ea_ en_ ec_; (first | subst ea_ | (injection ea_ with ea_; subst ea_)); subst ec_; clear en_))
    have GB9 := am_ gb9; have GG9 := am_ HG9; clear gb9 gl9 HG9; (first | simp only [add_plain] at hx392_0 | skip)
    obtain ⟨hx9_0, hf9_0⟩ := Kd.R_celln false HO_6.out (x15_1 : Int) p9 q9
    replace p9 := eq_true p9; replace q9 := eq_true q9
    have HP10 := Kd.R_putg HO_6.out (x15_1 : Int) (!(rdOf false x6_1 x15_1))
    go_wp2_with (first | ((with_reducible refine gate_store (t := 4) (p := 25) rfl ?_); refine store_event (t := 4) (p := 25) (v := ?vo_w11) (w1 := (wr.setCell ⟨go9, (x15_1 : Int).toNat, none⟩ (.bool (!(rdOf false x6_1 x15_1))))) ?hg ?ho ?hn ?hr ?_; (case ho => rfl); (case hg => rfl); (case hn => rfl); (case hr => first | (go_simp; done) | (go_simp; rfl)); intro w11 hw; have hg : wr.grownBy w11 (some go9) := (by rw [hw]; exact HP10.2); have hp_ : Kd.R Kd.bool 4 w11 w.heap.size (fun _ => True) (.slice (some ⟨go9, 0, none⟩) x6_1.length co5) y393 := (by rw [hw, Ny393.out]; exact HP10.1); clear HP10; have n0_ := am_ (hp_); have n1_ := am_ ((by rw [hw]; exact below_set (HB.out) GB9.out : Below w.heap.size w w11)); clear HO_6; clear HB; have HO_6 := n0_; have HB := n1_; clear n0_ n1_; clear hg hw hp_))
    (try simp only [← hl6_1])
    go_roundg k1
    case measure => have := HK1.out; omega
    case rel => exact ⟨(y393), (wrap64 (x15_1 + 1)), tr_, H', ⟨by have := HK1.out; omega⟩, ⟨by (try simp only [hl6_1]); (with_reducible repeat (first | apply r1_ | apply r2_ | apply r3_)); exact HO_6.out⟩, ⟨bw_ HB.out⟩⟩
   ·rw [if_neg c6] at H
    have c6b0 : decide (x15_1 < (t389.length : Int)) = false := decide_eq_false c6
    clear c6; replace H := Option.bind_eq_some_iff.mp H; obtain ⟨t394, A120, H⟩ := H; have A12 := am_ A120; clear A120
    have H' := am_ H
    clear H
    rw [hl6_1] at c6b0
    go_wp2_with (first | ((with_reducible refine gate_callee (f := 71) rfl ?_); refine goesL_ (some 28) rfl rfl Tryd.func71 (by kernel_rfl) rfl #[.slice Ao5 x6_1.length co5] rfl gl_ ?_; (with_reducible refine (Z10.calls k1 _ _ x6_1 t394 _ ?side1 ?side2 A12.out).mono ?_); (case side1 => exact cc_ (Kd.R_reads' HO_6.out).2.2); (case side2 => exact (Kd.R_reads' HO_6.out).2.1); rintro e w13 ⟨v395, rfl, ho0, hb⟩; refine ⟨_, rfl, ?_⟩; have n0_ := am_ (Kd.R_below (rr_ HO_6.out) hb); have n1_ := am_ (Kd.R_lower ho0 (below_size (bw_ HB.out))); have n2_ := am_ (below_step (bw_ HB.out) hb); clear HO_6; clear HB; have HO_6 := n0_; have HO396 := n1_; have HB := n2_; clear n0_ n1_ n2_; (try clear hb); (try clear hb2); (try clear hk); (try clear hi); (try clear ho0); obtain ⟨Ao14, co14, eo14⟩ := Kd.R_slice HO396.out; subst eo14))
    go_loopg [5, 30] k1 (fun kq v5 v30 w' => ∃ (x5_2 : List ByteArray) (x30_2 : Int), v30 = .int .i64 x30_2 ∧ Aside0 (Z15.l1 kq a0 x5_2 t394 (t394.length : Int) x30_2 = some r) ∧ Aside0 (kq ≤ k1) ∧ Aside0 (Kd.R Kd.string 9 w' w.heap.size (fun _ => True) v5 x5_2) ∧ Aside0 (Kd.R k46 46 w' w.heap.size (fun _ => True) (.slice Ao14 t394.length co14) t394) ∧ Aside0 (Below w.heap.size w w'))
    case atStart => exact ⟨(([] : List ByteArray)), (0), tr_, H', ⟨Nat.le_refl _⟩, ⟨by (try simp only [hl6_1]); first | exact Kd.R_nil _ _ _ _ _ | exact Kd.N_nil _ _ _ _ _ | exact Kd.V_nil _ _ _ _ _ | exact Kd.Q_nil _ _ _ _ _ | exact Kd.S_nil _ _ _ _ _⟩, ⟨by (try simp only [hl6_1]); (with_reducible repeat (first | apply r1_ | apply r2_ | apply r3_)); exact HO396.out⟩, ⟨bw_ HB.out⟩⟩
    case round =>
     clear H'; (try clear c1); (try clear p2); (try clear c3); (try clear p3); (try clear q3); (try clear hx3); (try clear c6); (try clear c6b0); (try clear p6); (try clear c7); (try clear c7b0); (try clear c8); (try clear c8b0); (try clear p9); (try clear q9); (try clear hx9); (try clear hf9); (try clear hx392_0); (try clear hx9_0); (try clear p2); (try clear p392); (try clear p9); (try clear q392); (try clear q9); obtain ⟨x5_2, x30_2, rfl, HA, HK2, HO_5, HO_28, HB⟩ := hrel
     cases gk with
     | zero => exact absurd HA.out (by simp [Z15.l1])
     | succ k2 =>
      have H := HA.out
      clear HA
      simp only [Z15.l1] at H
      by_cases c15 : x30_2 < (t394.length : Int)
      ·rw [if_pos c15] at H
       have c15b0 := decide_eq_true c15; clear c15
       by_cases c16 : 0 ≤ x30_2
       case neg => exact (nn_ c16 H).elim
       rw [if_pos c16] at H; have c16b0 := decide_eq_true c16; clear c16
       by_cases c17 : x30_2 < (t394.length : Int)
       case neg => exact (nn_ c17 H).elim
       rw [if_pos c17] at H; have c17b0 := decide_eq_true c17; clear c17
       by_cases c18 : 0 ≤ ((rd_T46 t394 x30_2).f0)
       case neg => exact (nn_ c18 H).elim
       rw [if_pos c18] at H; have c18b0 := eq_true c18; have c18b1 := decide_eq_true c18; clear c18
       by_cases c19 : ((rd_T46 t394 x30_2).f0) ≤ ((rd_T46 t394 x30_2).f1)
       case neg => exact (nn_ c19 H).elim
       rw [if_pos c19] at H; have c19b0 := eq_true c19; have c19b1 := decide_eq_true c19; clear c19
       by_cases c20 : ((rd_T46 t394 x30_2).f1) ≤ (a0.size : Int)
       case neg => exact (nn_ c20 H).elim
       rw [if_pos c20] at H; have c20b0 := eq_true c20; have c20b1 := decide_eq_true c20; clear c20; replace H := Option.bind_eq_some_iff.mp H; obtain ⟨t399, A210, H⟩ := H; have A21 := am_ A210; clear A210
       by_cases c22 : x5_2.length + t399.length < 8796093022208
       case neg => exact (nn_ c22 H).elim
       rw [if_pos c22] at H; have LMc22 := am_ c22; clear c22
       obtain ⟨y402, hy402⟩ : ∃ y_ : List ByteArray, y_ = (x5_2 ++ t399) := ⟨_, rfl⟩
       replace H : (Z15.l1 k2 a0 y402 t394 (t394.length : Int) (wrap64 (x30_2 + 1))) = some r := by first | (rw [hy402]; with_reducible exact H) | (have H2_ := (Option.bind_some _ _).symm.trans H; rw [hy402]; with_reducible exact H2_) | (have H2_ := (Option.bind_some _ _).symm.trans H; with_reducible exact H2_) | with_reducible exact H | (rw [hy402]; exact H) | exact H
       have Ny402 := am_ hy402; clear hy402
       have H' := am_ H
       clear H; have p397 : 0 ≤ (x30_2 : Int) := ode_; have q397 : x30_2 < (t394.length : Int) := ode_
       obtain ⟨ad397, e397, hx397_0, hx397_1⟩ := at_T46 (Kd.R_reads' HO_28.out).2.2 x30_2 p397 q397
       cases e397; replace p397 := eq_true p397; replace q397 := eq_true q397
       go_wp2_with (first | ((with_reducible refine gate_dst (N := 9) rfl ?_); refine box_event ?hg (N := 9) ?hd (cs := #[.int .i64 0, .int .i64 0]) (t := 46) ?hr ?_; (case hd => rfl); (case hg => rfl); (case hr => first | (go_simp; done) | (go_simp; rfl)); intro gb398 hg w23 hbox hb; have n0_ := am_ (Kd.R_below (rr_ HO_5.out) hb); have n1_ := am_ (Kd.R_below (Kd.R_elderB (rr_ HO_28.out) gb398 (Nat.le_of_eq hg.symm)) hb); have n2_ := am_ (below_step (bw_ HB.out) hb); have n3_ := am_ (hbox); have n4_ := am_ ((by rw [hg]; exact (below_size (bw_ HB.out)) : w.heap.size ≤ gb398)); have n5_ := am_ ((by rw [hg]; exact (below_size (bw_ HB.out)) : w.heap.size ≤ gb398)); clear HO_5; clear HO_28; clear HB; have HO_5 := n0_; have HO_28 := n1_; have HB := n2_; have BK398 := n3_; have GW398 := n4_; have GE398 := n5_; clear n0_ n1_ n2_ n3_ n4_ n5_; clear hb hbox hg; have hcz24_0 : w23.cell? ⟨gb398, 0, none⟩ = some (.int .i64 0) := (blk_cell BK398.out 0).trans rfl; have hcz24_1 : w23.cell? ⟨gb398, 1, none⟩ = some (.int .i64 0) := (blk_cell BK398.out 1).trans rfl; have hfz24_0 := blk_frozen BK398.out 0; have hfz24_1 := blk_frozen BK398.out 1) | ((with_reducible refine gate_callee (f := 40) rfl ?_); refine goesL_ (some 41) rfl rfl Tryd.func40 (by kernel_rfl) rfl #[.string (a0.extract (((rd_T46 t394 x30_2).f0) : Int).toNat (((rd_T46 t394 x30_2).f1) : Int).toNat)] rfl gl_ ?_; (with_reducible refine (Z31.calls k2 (a0.extract (((rd_T46 t394 x30_2).f0) : Int).toNat (((rd_T46 t394 x30_2).f1) : Int).toNat) t399 _ A21.out).mono ?_); rintro e w25 ⟨v400, rfl, ho0, hb⟩; refine ⟨_, rfl, ?_⟩; have n0_ := am_ (Kd.R_elder' (by (with_reducible repeat (first | apply r1_ | apply r2_ | apply r3_)); exact (Kd.R_mono (Kd.R_far (p := ⟨gb398, 1, none⟩) (Kd.R_far (p := ⟨gb398, 0, none⟩) (Kd.R_types HO_5.out BK398.out (by decide)) (fun _ hk => hk.2) (.int .i64 ((rd_T46 t394 x30_2).f0))) (fun _ hk => hk.2) (.int .i64 ((rd_T46 t394 x30_2).f1))) (fun _ h_ => h_.1))) (Kd.R_base ho0) hb); have n1_ := am_ (Kd.R_below (by (with_reducible repeat (first | apply r1_ | apply r2_ | apply r3_)); exact (Kd.R_mono (Kd.R_far (p := ⟨gb398, 1, none⟩) (Kd.R_far (p := ⟨gb398, 0, none⟩) (Kd.R_mono HO_28.out (fun k_ hk => (⟨hk, hk.2⟩ : _ ∧ k_ ≠ gb398))) (fun _ hk => hk.2) (.int .i64 ((rd_T46 t394 x30_2).f0))) (fun _ hk => hk.2) (.int .i64 ((rd_T46 t394 x30_2).f1))) (fun _ h_ => h_.1))) hb); have n2_ := am_ (Kd.R_lower (Kd.R_new' ho0 (Kd.R_lt (by (with_reducible repeat (first | apply r1_ | apply r2_ | apply r3_)); exact (Kd.R_mono (Kd.R_far (p := ⟨gb398, 1, none⟩) (Kd.R_far (p := ⟨gb398, 0, none⟩) (Kd.R_types HO_5.out BK398.out (by decide)) (fun _ hk => hk.2) (.int .i64 ((rd_T46 t394 x30_2).f0))) (fun _ hk => hk.2) (.int .i64 ((rd_T46 t394 x30_2).f1))) (fun _ h_ => h_.1))))) (below_size (bs_ HB.out GE398.out))); have n3_ := am_ (blk_below (g := gb398) (o := .cells #[.int .i64 ((rd_T46 t394 x30_2).f0), .int .i64 ((rd_T46 t394 x30_2).f1)] 46 (0, 0)) (by (with_reducible repeat (first | refine blk_drewN ?_ _ | refine blk_drew ?_ | refine blk_alloc ?_ _)); refine blk_put (cs := #[.int .i64 ((rd_T46 t394 x30_2).f0), .int .i64 0]) ?_ 1 _ rfl; (with_reducible repeat (first | refine blk_drewN ?_ _ | refine blk_drew ?_ | refine blk_alloc ?_ _)); refine blk_put (cs := #[.int .i64 0, .int .i64 0]) ?_ 0 _ rfl; (with_reducible repeat (first | refine blk_drewN ?_ _ | refine blk_drew ?_ | refine blk_alloc ?_ _)); exact BK398.out) hb); have n4_ := am_ (below_step (bs_ HB.out GE398.out) hb); clear HO_5; clear HO_28; clear BK398; clear HB; have HO_5 := n0_; have HO_28 := n1_; have HO401 := n2_; have BK398 := n3_; have HB := n4_; clear n0_ n1_ n2_ n3_ n4_; (try clear hb); (try clear hb2); (try clear hk); (try clear hi); (try clear ho0); obtain ⟨Ao27, co27, eo27⟩ := Kd.R_slice HO401.out; subst eo27) | ((with_reducible refine gate_builtin (b := .append) (xs := #[.tmp 34, .tmp 41]) rfl ?_); at_builtin; refine Kd.R_append_rows Kd.string (w0 := w) w.heap.size rfl (.tmp 34) (.tmp 41) 26 9 (.string ⟨#[]⟩) 16 rfl Tryd.underlying26 info9 rfl (by decide) (by omega) u5 x5_2 t399 _ _ _ (fun k_ => some k_ ≠ (.slice Ao27 t399.length co27 : Value).ownBlock) (fun _ => False) rfl rfl ?aO ?aR (fun _ _ h => h) (fun _ h => h.elim) ?aF ?aB ?aS ?aL ?_; (case aR => repeat (first | exact (Kd.R_reads' HO401.out).2.2 | (with_reducible refine Kd.C_alloc ?_ _) | (with_reducible refine Kd.C_drewN ?_ _) | (with_reducible refine Kd.C_drew ?_))); (case aB => exact (bs_ HB.out GE398.out)); (case aF => exact (fun k_ hk => Kd.fresh' (Kd.R_lt (rr_ HO401.out)) k_ hk)); (case aO => exact (by (with_reducible repeat (first | apply r1_ | apply r2_ | apply r3_)); exact Kd.R_mono HO_5.out (fun _ hk => hk.2))); (case aS => exact (below_size (bs_ HB.out GE398.out))); (case aL => have := LMc22.out; omega); intro v403 w26 ho hb hg hat; rw [← Ny402.out] at ho; have n0_ := am_ (Kd.R_over' (rr_ HO_28.out) (Kd.R_typed (rr_ HO_5.out)) (by decide) hg); have n1_ := am_ (blk_grown (g := gb398) (o := .cells #[.int .i64 ((rd_T46 t394 x30_2).f0), .int .i64 ((rd_T46 t394 x30_2).f1)] 46 (0, 0)) (bk_ BK398.out) hg (Kd.R_ne HO_5.out BK398.out (by decide))); have n2_ := am_ (Kd.R_after (ok := (fun _ => True)) (rr_ HO401.out) hg hat); have n3_ := am_ (hb); have n4_ := am_ (ho); clear HO_28; clear BK398; clear HO401; clear HB; clear HO_5; have HO_28 := n0_; have BK398 := n1_; have HO401 := n2_; have HB := n3_; have HO404 := n4_; clear n0_ n1_ n2_ n3_ n4_; clear ho hb hg hat))
       go_roundg k2
       case measure => have := HK1.out; have := HK2.out; omega
       case rel => exact ⟨(y402), (wrap64 (x30_2 + 1)), tr_, H', ⟨by have := HK1.out; have := HK2.out; omega⟩, ⟨by (try simp only [hl6_1]); (with_reducible repeat (first | apply r1_ | apply r2_ | apply r3_)); exact Kd.R_mono HO404.out (fun _ hk => trivial)⟩, ⟨by (try simp only [hl6_1]); (with_reducible repeat (first | apply r1_ | apply r2_ | apply r3_)); exact Kd.R_mono HO_28.out (fun _ hk => trivial)⟩, ⟨bs_ HB.out GE398.out⟩⟩
      ·rw [if_neg c15] at H
       have c15b0 : decide (x30_2 < (t394.length : Int)) = false := decide_eq_false c15
       clear c15
       obtain rfl := Option.some.inj H
       go_wp2
       go_ret
       exact ⟨_, by first | rfl | (simp [errW_none, errW_some] <;> rfl) | (simp [*, errW_none, errW_some] <;> rfl), by (with_reducible repeat (first | apply r1_ | apply r2_ | apply r3_)); exact HO_5.out, bw_ HB.out⟩
mutual
def Z2.j1 : Nat → Bool → Option (Bool)
  | 0, _ => none
  | k + 1, x2 => some x2
def Z2.j0 : Nat → Bool → Option (Bool)
  | 0, _ => none
  | k + 1, x2 => some x2
end
def Z2.f (k : Nat) (l0 : List Int) : Option (Bool) := (Z12.f k l0 0).bind fun bt406 => ((Z43.f k l0 bt406.2 (mn (bt406.1.size : Int) 60)).bind fun bt408 => ((Z5.f k bt406.1 bt408.1).bind fun bt412 => ((Z26.f k bt406.1 bt408.1).bind fun bt416 => ((Z24.f k bt406.1 bt408.1).bind fun bt418 => ((Z1.f k bt406.1 bt408.1).bind fun bt422 => ((Z39.f k bt406.1 bt408.1).bind fun t426 => (if t426 = 0 then ((Z6.f k bt406.1 bt408.1).bind fun bt428 => ((Z22.f k).bind fun t432 => (if t432 = true then (if bt412.2 = 0 then (if bt416.2 = 0 then (if bt418.2 = 0 then ((Z3.f k bt406.1 bt408.1).bind fun t433 => ((Z17.f k bt412.1 t433).bind fun t436 => (if t436 = true then ((Z21.f k bt406.1 bt408.1).bind fun t437 => (if bt416.1.toList = t437.toList then ((Z15.f k bt406.1 bt408.1).bind fun t438 => ((Z23.f k bt418.1 t438).bind fun t441 => (if t441 = true then (if bt422.2 = bt428.2 then ((Z17.f k bt422.1 bt428.1).bind fun t442 => (Z2.j1 k t442)) else (Z2.j1 k false)) else (Z2.j1 k false)))) else (Z2.j1 k false))) else (Z2.j1 k false)))) else (Z2.j1 k false)) else (Z2.j1 k false)) else (Z2.j1 k false)) else (Z2.j1 k false)))) else ((Z22.f k).bind fun t427 => (if t427 = true then (if bt412.2 = t426 then (if bt416.2 = t426 then (if bt418.2 = t426 then (Z2.j0 k (bt422.2 == t426)) else (Z2.j0 k false)) else (Z2.j0 k false)) else (Z2.j0 k false)) else (Z2.j0 k false))))))))))
theorem Z2.mono_l : ∀ k, (∀ y0, LeO (Z2.j1 k y0) (Z2.j1 (k + 1) y0)) ∧ (∀ y0, LeO (Z2.j0 k y0) (Z2.j0 (k + 1) y0))
  | 0 => ⟨fun _ r h => by simp [Z2.j1] at h, fun _ r h => by simp [Z2.j0] at h⟩
  | k + 1 => by
    obtain ⟨ih0, ih1⟩ := Z2.mono_l k
    refine ⟨?_, ?_⟩
    · intro y0
      unfold Z2.j1
      repeat' first
      | (with_reducible exact ih0 _)
      | (with_reducible exact ih1 _)
      | (with_reducible exact Z17.mono _ _ _)
      | (with_reducible exact Z22.mono _)
      | (with_reducible exact Z43.mono _ _ _ _)
      | (with_reducible exact Z12.mono _ _ _)
      | (with_reducible exact Z39.mono _ _ _)
      | (with_reducible exact Z6.mono _ _ _)
      | (with_reducible exact Z21.mono _ _ _)
      | (with_reducible exact Z15.mono _ _ _)
      | (with_reducible exact Z3.mono _ _ _)
      | (with_reducible exact Z1.mono _ _ _)
      | (with_reducible exact Z26.mono _ _ _)
      | (with_reducible exact Z24.mono _ _ _)
      | (with_reducible exact Z5.mono _ _ _)
      | (with_reducible exact Z23.mono _ _ _)
      | (with_reducible exact LeO.refl _)
      | (with_reducible exact LeO.none _)
      | (with_reducible refine LeO.ite ?_ ?_)
      | (with_reducible refine LeO.bind ?_ (fun _ => ?_))
      | exact ih0 _
      | exact ih1 _
      | exact LeO.none _
      | refine LeO.ite ?_ ?_
      | refine LeO.bind ?_ (fun _ => ?_)
    · intro y0
      unfold Z2.j0
      repeat' first
      | (with_reducible exact ih0 _)
      | (with_reducible exact ih1 _)
      | (with_reducible exact Z17.mono _ _ _)
      | (with_reducible exact Z22.mono _)
      | (with_reducible exact Z43.mono _ _ _ _)
      | (with_reducible exact Z12.mono _ _ _)
      | (with_reducible exact Z39.mono _ _ _)
      | (with_reducible exact Z6.mono _ _ _)
      | (with_reducible exact Z21.mono _ _ _)
      | (with_reducible exact Z15.mono _ _ _)
      | (with_reducible exact Z3.mono _ _ _)
      | (with_reducible exact Z1.mono _ _ _)
      | (with_reducible exact Z26.mono _ _ _)
      | (with_reducible exact Z24.mono _ _ _)
      | (with_reducible exact Z5.mono _ _ _)
      | (with_reducible exact Z23.mono _ _ _)
      | (with_reducible exact LeO.refl _)
      | (with_reducible exact LeO.none _)
      | (with_reducible refine LeO.ite ?_ ?_)
      | (with_reducible refine LeO.bind ?_ (fun _ => ?_))
      | exact ih0 _
      | exact ih1 _
      | exact LeO.none _
      | refine LeO.ite ?_ ?_
      | refine LeO.bind ?_ (fun _ => ?_)
theorem Z2.mono : ∀ a0 k, LeO (Z2.f k a0) (Z2.f (k + 1) a0) := by
  intro a0 k
  obtain ⟨ih0, ih1⟩ := Z2.mono_l k
  unfold Z2.f
  repeat' first
      | (with_reducible exact ih0 _)
      | (with_reducible exact ih1 _)
      | (with_reducible exact Z17.mono _ _ _)
      | (with_reducible exact Z22.mono _)
      | (with_reducible exact Z43.mono _ _ _ _)
      | (with_reducible exact Z12.mono _ _ _)
      | (with_reducible exact Z39.mono _ _ _)
      | (with_reducible exact Z6.mono _ _ _)
      | (with_reducible exact Z21.mono _ _ _)
      | (with_reducible exact Z15.mono _ _ _)
      | (with_reducible exact Z3.mono _ _ _)
      | (with_reducible exact Z1.mono _ _ _)
      | (with_reducible exact Z26.mono _ _ _)
      | (with_reducible exact Z24.mono _ _ _)
      | (with_reducible exact Z5.mono _ _ _)
      | (with_reducible exact Z23.mono _ _ _)
      | (with_reducible exact LeO.refl _)
      | (with_reducible exact LeO.none _)
      | (with_reducible refine LeO.ite ?_ ?_)
      | (with_reducible refine LeO.bind ?_ (fun _ => ?_))
      | exact ih0 _
      | exact ih1 _
      | exact LeO.none _
      | refine LeO.ite ?_ ?_
      | refine LeO.bind ?_ (fun _ => ?_)
end Go.Proofs.YtolcpmdojlbhcaaDoor.Px
