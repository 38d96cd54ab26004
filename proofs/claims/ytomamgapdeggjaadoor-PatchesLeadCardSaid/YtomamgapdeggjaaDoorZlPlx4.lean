/- Part of the proof that the law patchesLead is true for every input. No conditions. Laid by a program of this session over the kit's print and words; declarations that nothing names are left out. -/
import Derived.Test.YtomamgapdeggjaaDoorZlPlx0
import Derived.Test.YtomamgapdeggjaaDoorZlPlx2
import Derived.Test.YtomamgapdeggjaaDoorZlPlx3
namespace Go.Proofs.YtomamgapdeggjaaDoor.Pl
open Go.RowKit Go.Proofs.YtomamgapdeggjaaDoor.GBase Go.Proofs.YtomamgapdeggjaaDoorW.PrintWords Go.Proofs.YtomamgapdeggjaaDoorW.PrintLast Go.Proofs.YtomamgapdeggjaaDoorW.PrintMore
attribute [local go_sem] str_leq max2_int min2_int max_two min_two max_three min_three max_four min_four
set_option linter.unusedVariables false
set_option linter.unusedSimpArgs false
mutual
def near_changes.l0 : Nat → List ByteArray → List ByteArray → List (S72) → Int → Int → List (S166) → Int → Int → Option ((List (S72)))
  | 0, _, _, _, _, _, _, _, _ => none
  | k + 1, x0, x1, x5, x6, x7, x19, x20, x21 => if x21 < x20 then (if 0 ≤ x21 then (if x21 < (x19.length : Int) then (if x6 < ((rd_T166 x19 x21).f0) then (near_changes.j1 k x0 x1 x5 x6 x7 x19 x20 x21 true ((rd_T166 x19 x21).f0) ((rd_T166 x19 x21).f1)) else (near_changes.j1 k x0 x1 x5 x6 x7 x19 x20 x21 (decide (x7 < ((rd_T166 x19 x21).f1))) ((rd_T166 x19 x21).f0) ((rd_T166 x19 x21).f1))) else (none)) else (none)) else (some x5)
def near_changes.j1 : Nat → List ByteArray → List ByteArray → List (S72) → Int → Int → List (S166) → Int → Int → Bool → Int → Int → Option ((List (S72)))
  | 0, _, _, _, _, _, _, _, _, _, _, _ => none
  | k + 1, x0, x1, x5, x6, x7, x19, x20, x21, x34, x182000, x182001 => if x34 = true then (if 0 ≤ x6 then (if x6 ≤ x182000 then (if x182000 ≤ (x0.length : Int) then ((slices_Clone_string_string.f ((x0.take (x182000 : Int).toNat).drop (x6 : Int).toNat)).bind fun t183 => (if 0 ≤ x7 then (if x7 ≤ x182001 then (if x182001 ≤ (x1.length : Int) then ((slices_Clone_string_string.f ((x1.take (x182001 : Int).toNat).drop (x7 : Int).toNat)).bind fun t187 => (if x5.length < 2513169434916 then (near_changes.l0 k x0 x1 (x5 ++ [(⟨x6, t183, t187⟩ : S72)]) (wrap64 (x182000 + 1)) (wrap64 (x182001 + 1)) x19 x20 (wrap64 (x21 + 1))) else (none))) else (none)) else (none)) else (none))) else (none)) else (none)) else (none)) else (near_changes.l0 k x0 x1 x5 (wrap64 (x182000 + 1)) (wrap64 (x182001 + 1)) x19 x20 (wrap64 (x21 + 1)))
end
def near_changes.f (k : Nat) (l0 : List ByteArray) (l1 : List ByteArray) : Option ((List (S72))) := (near_kept.f k l0 l1).bind fun t174 => (if t174.length < 8796093022208 then ((some (t174 ++ [(⟨(l0.length : Int), (l1.length : Int)⟩ : S166)] : List (S166))).bind fun y177 => (near_changes.l0 k l0 l1 ([] : List (S72)) 0 0 y177 (y177.length : Int) 0)) else (none))
theorem near_changes.mono_l : ∀ k, (∀ y0 y1 y2 y3 y4 y5 y6 y7, LeO (near_changes.l0 k y0 y1 y2 y3 y4 y5 y6 y7) (near_changes.l0 (k + 1) y0 y1 y2 y3 y4 y5 y6 y7)) ∧ (∀ y0 y1 y2 y3 y4 y5 y6 y7 y8 y9 y10, LeO (near_changes.j1 k y0 y1 y2 y3 y4 y5 y6 y7 y8 y9 y10) (near_changes.j1 (k + 1) y0 y1 y2 y3 y4 y5 y6 y7 y8 y9 y10))
  | 0 => ⟨fun _ _ _ _ _ _ _ _ r h => by simp [near_changes.l0] at h, fun _ _ _ _ _ _ _ _ _ _ _ r h => by simp [near_changes.j1] at h⟩
  | k + 1 => by
    obtain ⟨ih0, ih1⟩ := near_changes.mono_l k
    refine ⟨?_, ?_⟩
    · intro y0 y1 y2 y3 y4 y5 y6 y7
      unfold near_changes.l0
      repeat' first
      | (with_reducible exact ih0 _ _ _ _ _ _ _ _)
      | (with_reducible exact ih1 _ _ _ _ _ _ _ _ _ _ _)
      | (with_reducible exact near_kept.mono _ _ _)
      | (with_reducible exact LeO.refl _)
      | (with_reducible exact LeO.none _)
      | (with_reducible refine LeO.ite ?_ ?_)
      | (with_reducible refine LeO.bind ?_ (fun _ => ?_))
      | exact ih0 _ _ _ _ _ _ _ _
      | exact ih1 _ _ _ _ _ _ _ _ _ _ _
      | exact near_kept.mono _ _ _
      | exact LeO.none _
      | refine LeO.ite ?_ ?_
      | refine LeO.bind ?_ (fun _ => ?_)
    · intro y0 y1 y2 y3 y4 y5 y6 y7 y8 y9 y10
      unfold near_changes.j1
      repeat' first
      | (with_reducible exact ih0 _ _ _ _ _ _ _ _)
      | (with_reducible exact ih1 _ _ _ _ _ _ _ _ _ _ _)
      | (with_reducible exact near_kept.mono _ _ _)
      | (with_reducible exact LeO.refl _)
      | (with_reducible exact LeO.none _)
      | (with_reducible refine LeO.ite ?_ ?_)
      | (with_reducible refine LeO.bind ?_ (fun _ => ?_))
      | exact ih0 _ _ _ _ _ _ _ _
      | exact ih1 _ _ _ _ _ _ _ _ _ _ _
      | exact near_kept.mono _ _ _
      | exact LeO.none _
      | refine LeO.ite ?_ ?_
      | refine LeO.bind ?_ (fun _ => ?_)
theorem near_changes.mono : ∀ a0 a1 k, LeO (near_changes.f k a0 a1) (near_changes.f (k + 1) a0 a1) := by
  intro a0 a1 k
  obtain ⟨ih0, ih1⟩ := near_changes.mono_l k
  unfold near_changes.f
  repeat' first
      | (with_reducible exact ih0 _ _ _ _ _ _ _ _)
      | (with_reducible exact ih1 _ _ _ _ _ _ _ _ _ _ _)
      | (with_reducible exact near_kept.mono _ _ _)
      | (with_reducible exact LeO.refl _)
      | (with_reducible exact LeO.none _)
      | (with_reducible refine LeO.ite ?_ ?_)
      | (with_reducible refine LeO.bind ?_ (fun _ => ?_))
      | exact ih0 _ _ _ _ _ _ _ _
      | exact ih1 _ _ _ _ _ _ _ _ _ _ _
      | exact near_kept.mono _ _ _
      | exact LeO.none _
      | refine LeO.ite ?_ ?_
      | refine LeO.bind ?_ (fun _ => ?_)
def near_changes.T7 : Bool × List (List Nat × List Nat) := (true, [([], []), ([], []), ([], []), ([], []), ([], []), ([4], [4]), ([2, 3, 5], [2, 3, 5]), ([6], [6]), ([], []), ([], []), ([], []), ([10], [10]), ([8, 9, 11], [8, 9, 11]), ([12, 7], [12]), ([1, 7, 13], [1, 7, 13]), ([14], [14]), ([0, 15, 13], [0, 15]), ([16, 16, 0, 1, 2, 3, 4, 5, 6, 7, 8, 9, 10, 11, 12, 13, 14, 15, 16], [0, 16])])
def near_changes.B7 : List Nat := [0, 0, 0, 0, 0, 16, 60, 124, 0, 0, 0, 1024, 3840, 8188, 16382, 32766, 65535, 131071]
theorem near_changes.tab7 : rtab .any (opsOf Tryd.f99 7) = near_changes.T7 := by kernel_rfl
theorem near_changes.bits7 : waitsOk near_changes.T7.2 near_changes.B7 = true := by kernel_rfl
def near_changes.T8 : Bool × List (List Nat × List Nat) := (true, [([], []), ([0], [0]), ([1], [1]), ([], []), ([3], [3]), ([4], [4]), ([2, 0, 1, 2], [2]), ([5, 6, 0, 1, 2, 3, 4, 5, 6], [5])])
def near_changes.B8 : List Nat := [0, 1, 3, 0, 8, 24, 7, 127]
theorem near_changes.tab8 : rtab .any (opsOf Tryd.f99 8) = near_changes.T8 := by kernel_rfl
theorem near_changes.bits8 : waitsOk near_changes.T8.2 near_changes.B8 = true := by kernel_rfl
abbrev near_changes.D0 : Array Bool := #[false, false, false, false, false, false, false, false, false, false, false, false, false, false, false, false, false, false]
abbrev near_changes.D1 : Array Bool := #[false, false, false, false, false, false, false, false]
abbrev near_changes.D2 : Array Bool := #[true, false, false, false, false, false, false, false, false, false, false, false, false, false, false, false, false, false]
abbrev near_changes.D3 : Array Bool := #[true, false, false, false, false, false, false, false]
abbrev near_changes.D4 : Array Bool := #[true, false, false, true, false, false, false, false]
abbrev near_changes.D5 : Array Bool := #[true, true, false, false, false, false, false, false, false, false, false, false, false, false, false, false, false, false]
abbrev near_changes.D6 : Array Bool := #[true, true, false, true, false, false, false, false]
abbrev near_changes.D7 : Array Bool := #[true, true, true, false, false, false, false, false, false, false, false, false, false, false, false, false, false, false]
abbrev near_changes.D8 : Array Bool := #[true, true, true, true, false, false, false, false, false, false, false, false, false, false, false, false, false, false]
abbrev near_changes.D9 : Array Bool := #[true, true, true, true, false, false, false, false]
abbrev near_changes.D10 : Array Bool := #[true, true, true, true, false, false, true, false]
abbrev near_changes.D11 : Array Bool := #[true, true, true, true, true, false, false, false, false, false, false, false, false, false, false, false, false, false]
abbrev near_changes.D12 : Array Bool := #[true, true, true, true, true, false, false, false, true, false, false, false, false, false, false, false, false, false]
abbrev near_changes.D13 : Array Bool := #[true, true, true, true, true, false, false, false, true, true, false, false, false, false, false, false, false, false]
abbrev near_changes.D14 : Array Bool := #[true, true, true, true, true, false, false, false, true, true, true, false, false, false, false, false, false, false]
abbrev near_changes.D15 : Array Bool := #[true, true, true, true, true, false, true, false]
abbrev near_changes.D16 : Array Bool := #[true, true, true, true, true, true, false, false, true, true, true, false, false, false, false, false, false, false]
abbrev near_changes.D17 : Array Bool := #[true, true, true, true, true, true, true, false, true, true, true, false, false, false, false, false, false, false]
abbrev near_changes.D18 : Array Bool := #[true, true, true, true, true, true, true, false, true, true, true, true, false, false, false, false, false, false]
abbrev near_changes.D19 : Array Bool := #[true, true, true, true, true, true, true, false, true, true, true, true, true, false, false, false, false, false]
abbrev near_changes.D20 : Array Bool := #[true, true, true, true, true, true, true, false]
abbrev near_changes.D21 : Array Bool := #[true, true, true, true, true, true, true, true, true, true, true, true, true, false, false, false, false, false]
abbrev near_changes.D22 : Array Bool := #[true, true, true, true, true, true, true, true, true, true, true, true, true, true, false, false, false, false]
abbrev near_changes.D23 : Array Bool := #[true, true, true, true, true, true, true, true, true, true, true, true, true, true, true, false, false, false]
abbrev near_changes.D24 : Array Bool := #[true, true, true, true, true, true, true, true, true, true, true, true, true, true, true, true, false, false]
abbrev near_changes.D25 : Array Bool := #[true, true, true, true, true, true, true, true, true, true, true, true, true, true, true, true, true, false]
abbrev near_changes.D26 : Array Bool := #[true, true, true, true, true, true, true, true, true, true, true, true, true, true, true, true, true, true]
abbrev near_changes.D27 : Array Bool := #[true, true, true, true, true, true, true, true]
set_option maxHeartbeats 8000000 in
set_option maxRecDepth 100000 in
theorem near_changes.calls (k : Nat) (A0 : Option Addr) (c0 : Nat) (l0 : List ByteArray) (A1 : Option Addr) (c1 : Nat) (l1 : List ByteArray) (r : List (S72)) (w : World) (hr0 : Kd.C Kd.string w A0 l0.length l0) (hc0 : l0.length ≤ c0) (hr1 : Kd.C Kd.string w A1 l1.length l1) (hc1 : l1.length ≤ c1) (h : near_changes.f k l0 l1 = some r) :
  Calls Tryd.prog 99 #[.slice A0 l0.length c0, .slice A1 l1.length c1] w fun e w' => ∃ v0_ : Value, e = .returned (v0_) ∧ Kd.S k72 72 w' w.heap.size (fun _ => True) v0_ r ∧ Below w.heap.size w w' := by
 have hu166 := Tryd.underlying166
 have hu72 := Tryd.underlying72
 have HR0 := Aside0.mk hr0
 have HC0 := Aside0.mk hc0
 clear hr0 hc0
 have HR1 := Aside0.mk hr1
 have HC1 := Aside0.mk hc1
 clear hr1 hc1
 have HB := Aside0.mk (Below.refl w.heap.size w)
 have H : ((near_kept.f k l0 l1).bind fun t174 => (if t174.length < 8796093022208 then ((some (t174 ++ [(⟨(l0.length : Int), (l1.length : Int)⟩ : S166)] : List (S166))).bind fun y177 => (near_changes.l0 k l0 l1 ([] : List (S72)) 0 0 y177 (y177.length : Int) 0)) else (none))) = some r := h
 clear h
 replace H := Option.bind_eq_some_iff.mp H
 obtain ⟨t174, A30, H⟩ := H
 replace H : (if t174.length < 8796093022208 then ((some (t174 ++ [(⟨(l0.length : Int), (l1.length : Int)⟩ : S166)] : List (S166))).bind fun y177 => (near_changes.l0 k l0 l1 ([] : List (S72)) 0 0 y177 (y177.length : Int) 0)) else (none)) = some r := H
 have A3 := Aside0.mk A30
 clear A30
 by_cases c4 : t174.length < 8796093022208
 ·rw [if_pos c4] at H
  have LMc4 := Aside0.mk c4
  clear c4
  obtain ⟨y177, hy177⟩ : ∃ y_ : List (S166), y_ = (t174 ++ [(⟨(l0.length : Int), (l1.length : Int)⟩ : S166)]) := ⟨_, rfl⟩
  replace H : (near_changes.l0 k l0 l1 ([] : List (S72)) 0 0 y177 (y177.length : Int) 0) = some r := by first | (rw [hy177]; with_reducible exact H) | (have H2_ := (Option.bind_some _ _).symm.trans H; rw [hy177]; with_reducible exact H2_) | (have H2_ := (Option.bind_some _ _).symm.trans H; with_reducible exact H2_) | with_reducible exact H | (rw [hy177]; exact H) | exact H
  have Ny177 := Aside0.mk hy177
  clear hy177
  have H' := Aside0.mk H
  clear H
  go_enter Tryd.func99, Tryd.ntmps99
  go_wp2_with (first | ((with_reducible refine gate_callee (f := 101) rfl ?_); refine goesL_ (some 12) rfl rfl Tryd.func101 (by kernel_rfl) rfl #[.slice A0 l0.length c0, .slice A1 l1.length c1] rfl (by (try simp only [List.map_toArray, List.map_cons, List.map_nil]); first | done | rfl | (simp only [List.length_drop, List.length_take]; rfl)) ?_; (with_reducible refine (near_kept.calls k _ _ l0 _ _ l1 t174 _ ?side1 ?side2 ?side3 ?side4 A3.out).mono ?_); (case side1 => repeat (first | exact HR0.out | (with_reducible refine Kd.C_alloc ?_ _) | (with_reducible refine Kd.C_drewN ?_ _) | (with_reducible refine Kd.C_drew ?_))); (case side2 => exact HC0.out); (case side3 => repeat (first | exact HR1.out | (with_reducible refine Kd.C_alloc ?_ _) | (with_reducible refine Kd.C_drewN ?_ _) | (with_reducible refine Kd.C_drew ?_))); (case side4 => exact HC1.out); rintro e w5 ⟨v175, rfl, ho0, hb⟩; refine ⟨_, rfl, ?_⟩; have n0_ := Aside0.mk (Kd.R_lower ho0 (below_size (by repeat (first | (with_reducible first | exact HB.out | apply below_alloc | apply pw_below_drewN | apply below_drew1) | exact HB.out)))); have n1_ := Aside0.mk (below_step (by repeat (first | (with_reducible first | exact HB.out | apply below_alloc | apply pw_below_drewN | apply below_drew1) | exact HB.out)) hb); clear HB; have HO176 := n0_; have HB := n1_; clear n0_ n1_; (try clear hb); (try clear hb2); (try clear hk); (try clear hi); (try clear ho0)) | ((with_reducible refine gate_builtin (b := .append) (xs := #[.tmp 12, .tmp 18]) rfl ?_); at_builtin; refine Kd.R_append k166 (w0 := w) w.heap.size rfl (.tmp 12) (.tmp 18) 119 166 (.agg #[(.int .i64 0), (.int .i64 0)]) 16 rfl Tryd.underlying119 info166 rfl (by decide) (by omega) v175 t174 (⟨(l0.length : Int), (l1.length : Int)⟩ : S166) [.int .i64 (l0.length : Int), .int .i64 (l1.length : Int)] (fun _ => True) (fun _ => False) rfl rfl ?aP (fun _ hk => hk.elim) ?aF ?aO ?aB ?aS ?aL ?_; (case aP => exact k166_mkM _ _ _ (⟨(l0.length : Int), (l1.length : Int)⟩ : S166)); (case aB => exact (by repeat (first | (with_reducible first | exact HB.out | apply below_alloc | apply pw_below_drewN | apply below_drew1) | exact HB.out))); (case aF => exact (fun _ _ => trivial)); (case aO => exact (by (with_reducible repeat (first | apply Kd.R_alloc | apply Kd.R_drewN | apply Kd.R_drew)); exact HO176.out)); (case aS => exact (below_size (by repeat (first | (with_reducible first | exact HB.out | apply below_alloc | apply pw_below_drewN | apply below_drew1) | exact HB.out)))); (case aL => have := LMc4.out; omega); intro v178 w6 ho hb hg hat; rw [← Ny177.out] at ho; have n0_ := Aside0.mk (hb); have n1_ := Aside0.mk (ho); clear HB; clear HO176; have HB := n0_; have HO179 := n1_; clear n0_ n1_; clear ho hb hg hat; obtain ⟨Ao7, co7, eo7⟩ := Kd.R_slice HO179.out; subst eo7))
  go_loopg [5, 6, 7, 21] k (fun kq v5 v6 v7 v21 w' => ∃ (x5_1 : List (S72)) (x6_1 : Int) (x7_1 : Int) (x21_1 : Int), v6 = .int .i64 x6_1 ∧ v7 = .int .i64 x7_1 ∧ v21 = .int .i64 x21_1 ∧ Aside0 (near_changes.l0 kq l0 l1 x5_1 x6_1 x7_1 y177 (y177.length : Int) x21_1 = some r) ∧ Aside0 (kq ≤ k) ∧ Aside0 (Kd.S k72 72 w' w.heap.size (fun _ => True) v5 x5_1) ∧ Aside0 (Kd.R k166 166 w' w.heap.size (fun _ => True) (.slice Ao7 y177.length co7) y177) ∧ Aside0 (Below w.heap.size w w'))
  case atStart => exact ⟨(([] : List (S72))), (0), (0), (0), (by first | rfl | (simp; done) | (simp [*]; done)), (by first | rfl | (simp; done) | (simp [*]; done)), (by first | rfl | (simp; done) | (simp [*]; done)), H', ⟨Nat.le_refl _⟩, ⟨by first | exact Kd.S_nil _ _ _ _ _ | exact Kd.N_nil _ _ _ _ _ | exact Kd.V_nil _ _ _ _ _ | exact Kd.Q_nil _ _ _ _ _ | exact Kd.R_nil _ _ _ _ _⟩, ⟨by (with_reducible repeat (first | apply Kd.R_alloc | apply Kd.R_drewN | apply Kd.R_drew)); exact HO179.out⟩, ⟨by repeat (first | (with_reducible first | exact HB.out | apply below_alloc | apply pw_below_drewN | apply below_drew1) | exact HB.out)⟩⟩
  case round =>
   clear H'
   try clear c1
   try clear p2
   try clear c4
   obtain ⟨x5_1, x6_1, x7_1, x21_1, rfl, rfl, rfl, HA, HK1, HO_5, HO_19, HB⟩ := hrel
   cases gk with
   | zero => exact absurd HA.out (by simp [near_changes.l0])
   | succ k1 =>
    have H := HA.out
    clear HA
    simp only [near_changes.l0] at H
    by_cases c8 : x21_1 < (y177.length : Int)
    ·rw [if_pos c8] at H
     have c8b0 : decide (x21_1 < (y177.length : Int)) = true := decide_eq_true c8
     clear c8
     by_cases c9 : 0 ≤ x21_1
     ·rw [if_pos c9] at H
      have c9b0 : decide (0 ≤ x21_1) = true := decide_eq_true c9
      clear c9
      by_cases c10 : x21_1 < (y177.length : Int)
      ·rw [if_pos c10] at H
       have c10b0 : decide (x21_1 < (y177.length : Int)) = true := decide_eq_true c10
       clear c10
       have HC11 := Aside0.mk H
       clear H
       have p180 : 0 ≤ (x21_1 : Int) := of_decide_eq_true (by first | (with_reducible assumption) | assumption)
       have q180 : x21_1 < (y177.length : Int) := of_decide_eq_true (by first | (with_reducible assumption) | assumption)
       obtain ⟨ad180, e180, hx180_0, hx180_1⟩ := at_T166 (Kd.R_reads' HO_19.out).2.2 x21_1 p180 q180
       cases e180
       replace p180 := eq_true p180
       replace q180 := eq_true q180
       go_upto_region 6 with (first | ((with_reducible refine gate_dst (N := 9) rfl ?_); refine box_event ?hg (N := 9) ?hd (cs := #[.int .i64 0, .int .i64 0]) (t := 166) ?hr ?_; (case hd => rfl); (case hg => rfl); (case hr => first | (go_simp; done) | (go_simp; rfl)); intro gb181 hg w12 hbox hb; have n0_ := Aside0.mk (Kd.S_below (by (with_reducible repeat (first | apply Kd.S_alloc | apply Kd.S_drewN | apply Kd.S_drew)); exact HO_5.out) hb); have n1_ := Aside0.mk (Kd.R_below (Kd.R_elderB (by (with_reducible repeat (first | apply Kd.R_alloc | apply Kd.R_drewN | apply Kd.R_drew)); exact HO_19.out) gb181 (Nat.le_of_eq hg.symm)) hb); have n2_ := Aside0.mk (below_step (by repeat (first | (with_reducible first | exact HB.out | apply below_alloc | apply pw_below_drewN | apply below_drew1) | exact HB.out)) hb); have n3_ := Aside0.mk (hbox); have n4_ := Aside0.mk ((by rw [hg]; exact (below_size (by repeat (first | (with_reducible first | exact HB.out | apply below_alloc | apply pw_below_drewN | apply below_drew1) | exact HB.out))) : w.heap.size ≤ gb181)); have n5_ := Aside0.mk ((by rw [hg]; exact (below_size (by repeat (first | (with_reducible first | exact HB.out | apply below_alloc | apply pw_below_drewN | apply below_drew1) | exact HB.out))) : w.heap.size ≤ gb181)); clear HO_5; clear HO_19; clear HB; have HO_5 := n0_; have HO_19 := n1_; have HB := n2_; have BK181 := n3_; have GW181 := n4_; have GE181 := n5_; clear n0_ n1_ n2_ n3_ n4_ n5_; clear hb hbox hg; have hcz13_0 : w12.cell? ⟨gb181, 0, none⟩ = some (.int .i64 0) := (blk_cell BK181.out 0).trans rfl; have hcz13_1 : w12.cell? ⟨gb181, 1, none⟩ = some (.int .i64 0) := (blk_cell BK181.out 1).trans rfl; have hfz13_0 := blk_frozen BK181.out 0; have hfz13_1 := blk_frozen BK181.out 1))
       (try simp only [Act.put, List.setIfInBounds_toArray, List.set_cons_zero, List.set_cons_succ])
       go_cut [34] (fun v34 wc => ∃ (kq : Nat) (x34_10 : Bool), v34 = .bool x34_10 ∧ Aside0 (near_changes.j1 kq l0 l1 x5_1 x6_1 x7_1 y177 (y177.length : Int) x21_1 x34_10 ((rd_T166 y177 x21_1).f0) ((rd_T166 y177 x21_1).f1) = some r) ∧ Aside0 (kq ≤ k1) ∧ Aside0 (Kd.S k72 72 wc w.heap.size (fun _ => True) u5 x5_1) ∧ Aside0 (Kd.R k166 166 wc w.heap.size (fun k_ => k_ ≠ gb181) (.slice (some ad180) y177.length co7) y177) ∧ Aside0 (wc.heap[gb181]? = some (.cells #[.int .i64 ((rd_T166 y177 x21_1).f0), .int .i64 ((rd_T166 y177 x21_1).f1)] 166 (0, 0))) ∧ Aside0 (Below w.heap.size w wc))
       case first =>
        have H := HC11.out
        clear HC11
        by_cases c14 : x6_1 < ((rd_T166 y177 x21_1).f0)
        ·rw [if_pos c14] at H
         have c14b0 : decide (x6_1 < ((rd_T166 y177 x21_1).f0)) = true := decide_eq_true c14
         clear c14
         (first | rw [c14b0] | (simp only [i64_w, i32_w]; rw [c14b0]) | skip)
         have H' := Aside0.mk H
         clear H
         have hcz15_0 : w12.cell? ⟨gb181, 0, none⟩ = some (.int .i64 0) := (blk_cell BK181.out 0).trans rfl
         have hcz15_1 : w12.cell? ⟨gb181, 1, none⟩ = some (.int .i64 0) := (blk_cell BK181.out 1).trans rfl
         have hfz15_0 := blk_frozen BK181.out 0
         have hfz15_1 := blk_frozen BK181.out 1
         go_wp2
         go_meet
         case rel => exact ⟨_, (true), (by first | rfl | (simp; done) | (simp [*]; done)), H', ⟨by have := HK1.out; first | omega | exact Nat.le_refl _⟩, ⟨by (with_reducible repeat (first | apply Kd.S_alloc | apply Kd.S_drewN | apply Kd.S_drew)); exact Kd.S_mono (Kd.S_far (p := ⟨gb181, 1, none⟩) (Kd.S_far (p := ⟨gb181, 0, none⟩) (Kd.S_types HO_5.out BK181.out (by decide)) (fun _ hk => hk.2) (.int .i64 ((rd_T166 y177 x21_1).f0))) (fun _ hk => hk.2) (.int .i64 ((rd_T166 y177 x21_1).f1))) (fun _ hk => trivial)⟩, ⟨by (with_reducible repeat (first | apply Kd.R_alloc | apply Kd.R_drewN | apply Kd.R_drew)); exact Kd.R_mono (Kd.R_far (p := ⟨gb181, 1, none⟩) (Kd.R_far (p := ⟨gb181, 0, none⟩) (Kd.R_mono HO_19.out (fun k_ hk => (⟨hk, hk.2⟩ : _ ∧ k_ ≠ gb181))) (fun _ hk => hk.2) (.int .i64 ((rd_T166 y177 x21_1).f0))) (fun _ hk => hk.2) (.int .i64 ((rd_T166 y177 x21_1).f1))) (fun _ hk => hk.1.2)⟩, ⟨by (with_reducible repeat (first | refine blk_drewN ?_ _ | refine blk_drew ?_ | refine blk_alloc ?_ _)); refine blk_put (cs := #[.int .i64 ((rd_T166 y177 x21_1).f0), .int .i64 0]) ?_ 1 _ rfl; (with_reducible repeat (first | refine blk_drewN ?_ _ | refine blk_drew ?_ | refine blk_alloc ?_ _)); refine blk_put (cs := #[.int .i64 0, .int .i64 0]) ?_ 0 _ rfl; (with_reducible repeat (first | refine blk_drewN ?_ _ | refine blk_drew ?_ | refine blk_alloc ?_ _)); exact BK181.out⟩, ⟨by repeat (first | (with_reducible first | exact HB.out | apply below_alloc | apply pw_below_drewN | apply below_drew1 | refine below_set ?_ GE181.out) | exact HB.out)⟩⟩
        ·rw [if_neg c14] at H
         have c14b0 : decide (x6_1 < ((rd_T166 y177 x21_1).f0)) = false := decide_eq_false c14
         clear c14
         (first | rw [c14b0] | (simp only [i64_w, i32_w]; rw [c14b0]) | skip)
         have H' := Aside0.mk H
         clear H
         have hcz16_0 : w12.cell? ⟨gb181, 0, none⟩ = some (.int .i64 0) := (blk_cell BK181.out 0).trans rfl
         have hcz16_1 : w12.cell? ⟨gb181, 1, none⟩ = some (.int .i64 0) := (blk_cell BK181.out 1).trans rfl
         have hfz16_0 := blk_frozen BK181.out 0
         have hfz16_1 := blk_frozen BK181.out 1
         go_wp2
         go_meet
         case rel => exact ⟨_, (decide (x7_1 < ((rd_T166 y177 x21_1).f1))), (by first | rfl | (simp; done) | (simp [*]; done)), H', ⟨by have := HK1.out; first | omega | exact Nat.le_refl _⟩, ⟨by (with_reducible repeat (first | apply Kd.S_alloc | apply Kd.S_drewN | apply Kd.S_drew)); exact Kd.S_mono (Kd.S_far (p := ⟨gb181, 1, none⟩) (Kd.S_far (p := ⟨gb181, 0, none⟩) (Kd.S_types HO_5.out BK181.out (by decide)) (fun _ hk => hk.2) (.int .i64 ((rd_T166 y177 x21_1).f0))) (fun _ hk => hk.2) (.int .i64 ((rd_T166 y177 x21_1).f1))) (fun _ hk => trivial)⟩, ⟨by (with_reducible repeat (first | apply Kd.R_alloc | apply Kd.R_drewN | apply Kd.R_drew)); exact Kd.R_mono (Kd.R_far (p := ⟨gb181, 1, none⟩) (Kd.R_far (p := ⟨gb181, 0, none⟩) (Kd.R_mono HO_19.out (fun k_ hk => (⟨hk, hk.2⟩ : _ ∧ k_ ≠ gb181))) (fun _ hk => hk.2) (.int .i64 ((rd_T166 y177 x21_1).f0))) (fun _ hk => hk.2) (.int .i64 ((rd_T166 y177 x21_1).f1))) (fun _ hk => hk.1.2)⟩, ⟨by (with_reducible repeat (first | refine blk_drewN ?_ _ | refine blk_drew ?_ | refine blk_alloc ?_ _)); refine blk_put (cs := #[.int .i64 ((rd_T166 y177 x21_1).f0), .int .i64 0]) ?_ 1 _ rfl; (with_reducible repeat (first | refine blk_drewN ?_ _ | refine blk_drew ?_ | refine blk_alloc ?_ _)); refine blk_put (cs := #[.int .i64 0, .int .i64 0]) ?_ 0 _ rfl; (with_reducible repeat (first | refine blk_drewN ?_ _ | refine blk_drew ?_ | refine blk_alloc ?_ _)); exact BK181.out⟩, ⟨by repeat (first | (with_reducible first | exact HB.out | apply below_alloc | apply pw_below_drewN | apply below_drew1 | refine below_set ?_ GE181.out) | exact HB.out)⟩⟩
       case rest =>
        clear HC11
        try clear c1
        try clear p1
        try clear q1
        try clear hx1
        try clear p2
        try clear c4
        try clear c8
        try clear c8b0
        try clear c9
        try clear c9b0
        try clear c10
        try clear c10b0
        try clear c14
        try clear c14b0
        try clear hcz13_0
        try clear hcz13_1
        try clear hcz15_0
        try clear hcz15_1
        try clear hcz16_0
        try clear hcz16_1
        try clear hfz13_0
        try clear hfz13_1
        try clear hfz15_0
        try clear hfz15_1
        try clear hfz16_0
        try clear hfz16_1
        try clear hx180_0
        try clear hx180_1
        try clear p180
        try clear p2
        try clear q180
        obtain ⟨kq, x34_10, rfl, HA, HJ10, HO_5, HO_19, BK181, HB⟩ := hcut
        cases kq with
        | zero => exact absurd HA.out (by simp [near_changes.j1])
        | succ kj10 =>
         have H := HA.out
         clear HA
         simp only [near_changes.j1] at H
         by_cases c17 : x34_10 = true
         ·subst c17
          have H1 : (if 0 ≤ x6_1 then (if x6_1 ≤ ((rd_T166 y177 x21_1).f0) then (if ((rd_T166 y177 x21_1).f0) ≤ (l0.length : Int) then ((slices_Clone_string_string.f ((l0.take (((rd_T166 y177 x21_1).f0) : Int).toNat).drop (x6_1 : Int).toNat)).bind fun t183 => (if 0 ≤ x7_1 then (if x7_1 ≤ ((rd_T166 y177 x21_1).f1) then (if ((rd_T166 y177 x21_1).f1) ≤ (l1.length : Int) then ((slices_Clone_string_string.f ((l1.take (((rd_T166 y177 x21_1).f1) : Int).toNat).drop (x7_1 : Int).toNat)).bind fun t187 => (if x5_1.length < 2513169434916 then (near_changes.l0 kj10 l0 l1 (x5_1 ++ [(⟨x6_1, t183, t187⟩ : S72)]) (wrap64 (((rd_T166 y177 x21_1).f0) + 1)) (wrap64 (((rd_T166 y177 x21_1).f1) + 1)) y177 (y177.length : Int) (wrap64 (x21_1 + 1))) else (none))) else (none)) else (none)) else (none))) else (none)) else (none)) else (none)) = some r := by rw [if_pos rfl] at H; exact H
          clear H
          have H := H1
          clear H1
          by_cases c18 : 0 ≤ x6_1
          ·rw [if_pos c18] at H
           have c18b0 := eq_true c18
           have c18b1 : decide (0 ≤ x6_1) = true := decide_eq_true c18
           clear c18
           by_cases c19 : x6_1 ≤ ((rd_T166 y177 x21_1).f0)
           ·rw [if_pos c19] at H
            have c19b0 := eq_true c19
            have c19b1 : decide (x6_1 ≤ ((rd_T166 y177 x21_1).f0)) = true := decide_eq_true c19
            clear c19
            by_cases c20 : ((rd_T166 y177 x21_1).f0) ≤ (l0.length : Int)
            ·rw [if_pos c20] at H
             have c20b0 := eq_true c20
             have c20b1 : decide (((rd_T166 y177 x21_1).f0) ≤ (l0.length : Int)) = true := decide_eq_true c20
             clear c20
             replace H := Option.bind_eq_some_iff.mp H
             obtain ⟨t183, A210, H⟩ := H
             replace H : (if 0 ≤ x7_1 then (if x7_1 ≤ ((rd_T166 y177 x21_1).f1) then (if ((rd_T166 y177 x21_1).f1) ≤ (l1.length : Int) then ((slices_Clone_string_string.f ((l1.take (((rd_T166 y177 x21_1).f1) : Int).toNat).drop (x7_1 : Int).toNat)).bind fun t187 => (if x5_1.length < 2513169434916 then (near_changes.l0 kj10 l0 l1 (x5_1 ++ [(⟨x6_1, t183, t187⟩ : S72)]) (wrap64 (((rd_T166 y177 x21_1).f0) + 1)) (wrap64 (((rd_T166 y177 x21_1).f1) + 1)) y177 (y177.length : Int) (wrap64 (x21_1 + 1))) else (none))) else (none)) else (none)) else (none)) = some r := H
             have A21 := Aside0.mk A210
             clear A210
             by_cases c22 : 0 ≤ x7_1
             ·rw [if_pos c22] at H
              have c22b0 := eq_true c22
              have c22b1 : decide (0 ≤ x7_1) = true := decide_eq_true c22
              clear c22
              by_cases c23 : x7_1 ≤ ((rd_T166 y177 x21_1).f1)
              ·rw [if_pos c23] at H
               have c23b0 := eq_true c23
               have c23b1 : decide (x7_1 ≤ ((rd_T166 y177 x21_1).f1)) = true := decide_eq_true c23
               clear c23
               by_cases c24 : ((rd_T166 y177 x21_1).f1) ≤ (l1.length : Int)
               ·rw [if_pos c24] at H
                have c24b0 := eq_true c24
                have c24b1 : decide (((rd_T166 y177 x21_1).f1) ≤ (l1.length : Int)) = true := decide_eq_true c24
                clear c24
                replace H := Option.bind_eq_some_iff.mp H
                obtain ⟨t187, A250, H⟩ := H
                replace H : (if x5_1.length < 2513169434916 then (near_changes.l0 kj10 l0 l1 (x5_1 ++ [(⟨x6_1, t183, t187⟩ : S72)]) (wrap64 (((rd_T166 y177 x21_1).f0) + 1)) (wrap64 (((rd_T166 y177 x21_1).f1) + 1)) y177 (y177.length : Int) (wrap64 (x21_1 + 1))) else (none)) = some r := H
                have A25 := Aside0.mk A250
                clear A250
                by_cases c26 : x5_1.length < 2513169434916
                ·rw [if_pos c26] at H
                 have LMc26 := Aside0.mk c26
                 clear c26
                 obtain ⟨y190, hy190⟩ : ∃ y_ : List (S72), y_ = (x5_1 ++ [(⟨x6_1, t183, t187⟩ : S72)]) := ⟨_, rfl⟩
                 replace H : (near_changes.l0 kj10 l0 l1 y190 (wrap64 (((rd_T166 y177 x21_1).f0) + 1)) (wrap64 (((rd_T166 y177 x21_1).f1) + 1)) y177 (y177.length : Int) (wrap64 (x21_1 + 1))) = some r := by first | (rw [hy190]; with_reducible exact H) | (have H2_ := (Option.bind_some _ _).symm.trans H; rw [hy190]; with_reducible exact H2_) | (have H2_ := (Option.bind_some _ _).symm.trans H; with_reducible exact H2_) | with_reducible exact H | (rw [hy190]; exact H) | exact H
                 have Ny190 := Aside0.mk hy190
                 clear hy190
                 have H' := Aside0.mk H
                 clear H
                 try go_wp2
                 have n0_ := Aside0.mk (Kd.S_drew HO_5.out)
                 have n1_ := Aside0.mk (Kd.R_drew HO_19.out)
                 have n2_ := Aside0.mk (blk_drew BK181.out)
                 have n3_ := Aside0.mk (below_drew1 HB.out)
                 clear HO_5
                 clear HO_19
                 clear BK181
                 clear HB
                 have HO_5 := n0_
                 have HO_19 := n1_
                 have BK181 := n2_
                 have HB := n3_
                 clear n0_ n1_ n2_ n3_
                 obtain ⟨i028, hi028, _, hsz28, _⟩ := info_parts info9
                 obtain ⟨A28, hcut28, hA28, hC28⟩ := print_mid_of (P := Tryd.prog) Value.string (⟨#[]⟩ : ByteArray) 26 9 .i64 .i64 Tryd.underlying26 hi028 hsz28 A0 c0 l0 x6_1 ((rd_T166 y177 x21_1).f0) (of_decide_eq_true (by first | (with_reducible assumption) | assumption)) (by first | omega | exact of_decide_eq_true (by first | (with_reducible assumption) | assumption)) (of_decide_eq_true (by first | (with_reducible assumption) | assumption)) HC0.out
                 have HR182 := Aside0.mk (Kd.C_of_reads (h1 := fun _ => rfl) (hA28 _ (Kd.reads_of_C HR0.out)))
                 have HC182 := Aside0.mk hC28
                 clear hA28 hC28 hi028 hsz28
                 obtain ⟨i029, hi029, _, hsz29, _⟩ := info_parts info9
                 obtain ⟨A29, hcut29, hA29, hC29⟩ := print_mid_of (P := Tryd.prog) Value.string (⟨#[]⟩ : ByteArray) 26 9 .i64 .i64 Tryd.underlying26 hi029 hsz29 A1 c1 l1 x7_1 ((rd_T166 y177 x21_1).f1) (of_decide_eq_true (by first | (with_reducible assumption) | assumption)) (by first | omega | exact of_decide_eq_true (by first | (with_reducible assumption) | assumption)) (of_decide_eq_true (by first | (with_reducible assumption) | assumption)) HC1.out
                 have HR186 := Aside0.mk (Kd.C_of_reads (h1 := fun _ => rfl) (hA29 _ (Kd.reads_of_C HR1.out)))
                 have HC186 := Aside0.mk hC29
                 clear hA29 hC29 hi029 hsz29
                 refine start_ (n := 18) (S := fun w' => w'.cell? ⟨gb181, 0, none⟩ = some (.int .i64 ((rd_T166 y177 x21_1).f0)) ∧ w'.cell? ⟨gb181, 1, none⟩ = some (.int .i64 ((rd_T166 y177 x21_1).f1))) (ds := []) near_changes.D0 (by kernel_rfl) rfl rfl ⟨(blk_cell BK181.out 0).trans rfl, (blk_cell BK181.out 1).trans rfl⟩ (fun hHeld => ?_); refine with_tabW near_changes.tab7 near_changes.bits7 (fun HT_ HW_ => ?_)
                 generalize wc.drew = w27 at HO_5 HO_19 BK181 HB HR182 HR186 hHeld ⊢
                 refine pu_ (i := 0) (N := some 35) (v := ?_) (a' := ?_) near_changes.D2 (any_of HT_.out (by kernel_rfl)) ?_ ?_ ?_; rotate_left 2
                 ·intro w'; go_simp; with_reducible rfl
                 ·simp only [Act.put, s_t, s_z, s_s, i64_w, i32_w]; rfl
                 refine pu_ (i := 1) (N := some 36) (v := ?_) (a' := ?_) near_changes.D5 (any_of HT_.out (by kernel_rfl)) ?_ ?_ ?_; rotate_left 2
                 ·intro w'; go_simp; with_reducible rfl
                 ·simp only [Act.put, s_t, s_z, s_s, i64_w, i32_w]; rfl
                 refine pu_ (i := 2) (N := some 37) (v := ?_) (a' := ?_) near_changes.D7 (any_of HT_.out (by kernel_rfl)) ?_ ?_ ?_; rotate_left 2
                 ·intro w'; go_simp; with_reducible rfl
                 ·simp only [Act.put, s_t, s_z, s_s, i64_w, i32_w]; rfl
                 refine pu_ (i := 3) (N := some 38) (v := ?_) (a' := ?_) near_changes.D8 (any_of HT_.out (by kernel_rfl)) ?_ ?_ ?_; rotate_left 2
                 ·intro w'; go_simp; with_reducible rfl
                 ·simp only [Act.put, s_t, s_z, s_s, i64_w, i32_w]; rfl
                 refine pu_ (i := 4) (N := some 39) (v := ?_) (a' := ?_) near_changes.D11 (any_of HT_.out (by kernel_rfl)) ?_ ?_ ?_; rotate_left 2
                 ·intro w'; go_simp; with_reducible rfl
                 ·simp only [Act.put, s_t, s_z, s_s, i64_w, i32_w]; rfl
                 refine pu_ (i := 8) (N := some 43) (v := ?_) (a' := ?_) near_changes.D12 (any_of HT_.out (by kernel_rfl)) ?_ ?_ ?_; rotate_left 2
                 ·intro w'; go_simp; with_reducible rfl
                 ·simp only [Act.put, s_t, s_z, s_s, i64_w, i32_w]; rfl
                 refine pu_ (i := 9) (N := some 44) (v := ?_) (a' := ?_) near_changes.D13 (any_of HT_.out (by kernel_rfl)) ?_ ?_ ?_; rotate_left 2
                 ·intro w'; go_simp; with_reducible rfl
                 ·simp only [Act.put, s_t, s_z, s_s, i64_w, i32_w]; rfl
                 refine pu_ (i := 10) (N := some 45) (v := ?_) (a' := ?_) near_changes.D14 (any_of HT_.out (by kernel_rfl)) ?_ ?_ ?_; rotate_left 2
                 ·intro w'; go_simp; with_reducible rfl
                 ·simp only [Act.put, s_t, s_z, s_s, i64_w, i32_w]; rfl
                 refine take_ (i := 5) (N := some 40) (v := ?_) (a' := ?_) near_changes.D16 rfl rfl (take_ofW HT_.out HW_.out (by kernel_rfl)) (fun _ _ _ h => h) (Or.inl ⟨by rfl, ?_⟩) hHeld ?_ ?_
                 rotate_left
                 ·rintro w' ⟨s0, s1⟩
                  go_simp
                  with_reducible rfl
                 rotate_left
                 ·simp only [Act.put, List.setIfInBounds_toArray, List.set_cons_zero, List.set_cons_succ, i64_w, i32_w]
                  rfl
                 refine pu_ (i := 6) (N := some 41) (v := ?_) (a' := ?_) near_changes.D17 (any_of HT_.out (by kernel_rfl)) ?_ ?_ ?_; rotate_left 2
                 ·intro w'; go_simp; with_reducible rfl
                 ·simp only [Act.put, s_t, s_z, s_s, i64_w, i32_w]; rfl
                 refine take_ (i := 11) (N := some 46) (v := ?_) (a' := ?_) near_changes.D18 rfl rfl (take_ofW HT_.out HW_.out (by kernel_rfl)) (fun _ _ _ h => h) (Or.inl ⟨by rfl, ?_⟩) hHeld ?_ ?_
                 rotate_left
                 ·rintro w' ⟨s0, s1⟩
                  go_simp
                  with_reducible rfl
                 rotate_left
                 ·simp only [Act.put, List.setIfInBounds_toArray, List.set_cons_zero, List.set_cons_succ, i64_w, i32_w]
                  rfl
                 refine pu_ (i := 12) (N := some 47) (v := ?_) (a' := ?_) near_changes.D19 (any_of HT_.out (by kernel_rfl)) ?_ ?_ ?_; rotate_left 2
                 ·intro w'; go_simp; with_reducible rfl
                 ·simp only [Act.put, s_t, s_z, s_s, i64_w, i32_w]; rfl
                 refine one_ (i := 7) (N := some 42) near_changes.D21 rfl rfl (one_of HT_.out (by kernel_rfl)) (by decide) (fun K hK => ?_)
                 refine goes_ Tryd.func90 (by kernel_rfl) rfl #[.slice A28 ((l0.take (((rd_T166 y177 x21_1).f0) : Int).toNat).drop (x6_1 : Int).toNat).length (c0 - x6_1.toNat)] (by rfl) rfl rfl (by (try simp only [List.map_toArray, List.map_cons, List.map_nil]); first | done | (rw [show ((l0.take (((rd_T166 y177 x21_1).f0) : Int).toNat).drop (x6_1 : Int).toNat).length = (((rd_T166 y177 x21_1).f0).toNat - x6_1.toNat) from (by rw [List.length_drop, List.length_take]; have h_ : (((rd_T166 y177 x21_1).f0) : Int) ≤ (l0.length : Int) := of_decide_eq_true (by first | (with_reducible assumption) | assumption); omega)] <;> rfl) | rfl | (simp only [List.length_drop, List.length_take]; rfl)) ?_
                 with_reducible refine (slices_Clone_string_string.calls _ _ ((l0.take (((rd_T166 y177 x21_1).f0) : Int).toNat).drop (x6_1 : Int).toNat) t183 _ ?side1 ?side2 A21.out).mono ?_
                 (case side1 => repeat (first | exact (Kd.C_below HR182.out HB.out) | (with_reducible refine Kd.C_alloc ?_ _) | (with_reducible refine Kd.C_drewN ?_ _) | (with_reducible refine Kd.C_drew ?_)))
                 (case side2 => exact HC182.out)
                 rintro e w30 ⟨v184, rfl, ho0, hb⟩
                 refine ⟨_, rfl, ?_⟩
                 have n0_ := Aside0.mk (Kd.S_elder' (by (with_reducible repeat (first | apply Kd.S_alloc | apply Kd.S_drewN | apply Kd.S_drew)); exact HO_5.out) (Kd.R_base ho0) hb)
                 have n1_ := Aside0.mk (Kd.R_below (by (with_reducible repeat (first | apply Kd.R_alloc | apply Kd.R_drewN | apply Kd.R_drew)); exact HO_19.out) hb)
                 have n2_ := Aside0.mk (Kd.R_lower ho0 (below_size (by repeat (first | (with_reducible first | exact HB.out | apply below_alloc | apply pw_below_drewN | apply below_drew1 | refine below_set ?_ GE181.out) | exact HB.out))))
                 have n3_ := Aside0.mk (blk_below (g := gb181) (o := .cells #[.int .i64 ((rd_T166 y177 x21_1).f0), .int .i64 ((rd_T166 y177 x21_1).f1)] 166 (0, 0)) (by (with_reducible repeat (first | refine blk_drewN ?_ _ | refine blk_drew ?_ | refine blk_alloc ?_ _)); exact BK181.out) hb)
                 have n4_ := Aside0.mk (below_step (by repeat (first | (with_reducible first | exact HB.out | apply below_alloc | apply pw_below_drewN | apply below_drew1 | refine below_set ?_ GE181.out) | exact HB.out)) hb)
                 clear HO_5
                 clear HO_19
                 clear BK181
                 clear HB
                 have HO_5 := n0_
                 have HO_19 := n1_
                 have HO185 := n2_
                 have BK181 := n3_
                 have HB := n4_
                 clear n0_ n1_ n2_ n3_ n4_
                 (try clear hb)
                 (try clear hb2)
                 (try clear hk)
                 (try clear hi)
                 (try clear ho0)
                 refine hK.out _ _ ⟨(blk_cell BK181.out 0).trans rfl, (blk_cell BK181.out 1).trans rfl⟩ (fun hHeld => ?_)
                 clear hK K
                 refine norm_ (a' := ?_) ?_ ?_
                 rotate_left
                 ·show Act.put _ (some 42) _ = _
                  simp only [Act.put, List.setIfInBounds_toArray, List.set_cons_zero, List.set_cons_succ, i64_w, i32_w]
                  rfl
                 refine one_ (i := 13) (N := some 48) near_changes.D22 rfl rfl (one_of HT_.out (by kernel_rfl)) (by decide) (fun K hK => ?_)
                 refine goes_ Tryd.func90 (by kernel_rfl) rfl #[.slice A29 ((l1.take (((rd_T166 y177 x21_1).f1) : Int).toNat).drop (x7_1 : Int).toNat).length (c1 - x7_1.toNat)] (by rfl) rfl rfl (by (try simp only [List.map_toArray, List.map_cons, List.map_nil]); first | done | (rw [show ((l1.take (((rd_T166 y177 x21_1).f1) : Int).toNat).drop (x7_1 : Int).toNat).length = (((rd_T166 y177 x21_1).f1).toNat - x7_1.toNat) from (by rw [List.length_drop, List.length_take]; have h_ : (((rd_T166 y177 x21_1).f1) : Int) ≤ (l1.length : Int) := of_decide_eq_true (by first | (with_reducible assumption) | assumption); omega)] <;> rfl) | rfl | (simp only [List.length_drop, List.length_take]; rfl)) ?_
                 with_reducible refine (slices_Clone_string_string.calls _ _ ((l1.take (((rd_T166 y177 x21_1).f1) : Int).toNat).drop (x7_1 : Int).toNat) t187 _ ?side1 ?side2 A25.out).mono ?_
                 (case side1 => repeat (first | exact (Kd.C_below HR186.out HB.out) | (with_reducible refine Kd.C_alloc ?_ _) | (with_reducible refine Kd.C_drewN ?_ _) | (with_reducible refine Kd.C_drew ?_)))
                 (case side2 => exact HC186.out)
                 rintro e w31 ⟨v188, rfl, ho0, hb⟩
                 refine ⟨_, rfl, ?_⟩
                 have n0_ := Aside0.mk (Kd.S_elder' (by (with_reducible repeat (first | apply Kd.S_alloc | apply Kd.S_drewN | apply Kd.S_drew)); exact HO_5.out) (Kd.R_base ho0) hb)
                 have n1_ := Aside0.mk (Kd.R_below (by (with_reducible repeat (first | apply Kd.R_alloc | apply Kd.R_drewN | apply Kd.R_drew)); exact HO_19.out) hb)
                 have n2_ := Aside0.mk (Kd.R_elder' (by (with_reducible repeat (first | apply Kd.R_alloc | apply Kd.R_drewN | apply Kd.R_drew)); exact HO185.out) (Kd.R_base ho0) hb)
                 have n3_ := Aside0.mk (Kd.R_lower (Kd.R_new' ho0 (Kd.R_lt (by (with_reducible repeat (first | apply Kd.R_alloc | apply Kd.R_drewN | apply Kd.R_drew)); exact HO185.out))) (below_size (by repeat (first | (with_reducible first | exact HB.out | apply below_alloc | apply pw_below_drewN | apply below_drew1 | refine below_set ?_ GE181.out) | exact HB.out))))
                 have n4_ := Aside0.mk (blk_below (g := gb181) (o := .cells #[.int .i64 ((rd_T166 y177 x21_1).f0), .int .i64 ((rd_T166 y177 x21_1).f1)] 166 (0, 0)) (by (with_reducible repeat (first | refine blk_drewN ?_ _ | refine blk_drew ?_ | refine blk_alloc ?_ _)); exact BK181.out) hb)
                 have n5_ := Aside0.mk (below_step (by repeat (first | (with_reducible first | exact HB.out | apply below_alloc | apply pw_below_drewN | apply below_drew1 | refine below_set ?_ GE181.out) | exact HB.out)) hb)
                 clear HO_5
                 clear HO_19
                 clear HO185
                 clear BK181
                 clear HB
                 have HO_5 := n0_
                 have HO_19 := n1_
                 have HO185 := n2_
                 have HO189 := n3_
                 have BK181 := n4_
                 have HB := n5_
                 clear n0_ n1_ n2_ n3_ n4_ n5_
                 (try clear hb)
                 (try clear hb2)
                 (try clear hk)
                 (try clear hi)
                 (try clear ho0)
                 obtain ⟨Ao32, co32, eo32⟩ := Kd.R_slice HO189.out
                 (first | subst eo32 | (injection eo32 with f1_ f2_ f3_; have f4_ := f1_.symm; have f5_ := f3_.symm; clear f1_ f2_ f3_; subst f4_; subst f5_))
                 obtain ⟨Ao33, co33, eo33⟩ := Kd.R_slice HO185.out
                 (first | subst eo33 | (injection eo33 with f1_ f2_ f3_; have f4_ := f1_.symm; have f5_ := f3_.symm; clear f1_ f2_ f3_; subst f4_; subst f5_))
                 refine hK.out _ _ ⟨(blk_cell BK181.out 0).trans rfl, (blk_cell BK181.out 1).trans rfl⟩ (fun hHeld => ?_)
                 clear hK K
                 refine norm_ (a' := ?_) ?_ ?_
                 rotate_left
                 ·show Act.put _ (some 48) _ = _
                  simp only [Act.put, List.setIfInBounds_toArray, List.set_cons_zero, List.set_cons_succ, i64_w, i32_w]
                  rfl
                 refine pu_ (i := 14) (N := some 49) (v := ?_) (a' := ?_) near_changes.D23 (any_of HT_.out (by kernel_rfl)) ?_ ?_ ?_; rotate_left 2
                 ·intro w'; go_simp; with_reducible rfl
                 ·simp only [Act.put, s_t, s_z, s_s, i64_w, i32_w]; rfl
                 refine one_ (i := 15) (N := some 50) near_changes.D24 rfl rfl (one_of HT_.out (by kernel_rfl)) (by decide) (fun K hK => ?_)
                 refine value_ (w1 := ?_) (v := ?_) (by rfl) rfl ?_ ?_
                 rotate_left 2
                 ·go_simp
                  constructor
                  ·rfl
                  ·rfl
                 refine hK.out _ _ ⟨(blk_cell (blk_alloc BK181.out _) 0).trans rfl, (blk_cell (blk_alloc BK181.out _) 1).trans rfl⟩ (fun hHeld => ?_)
                 clear hK K
                 refine norm_ (a' := ?_) ?_ ?_
                 rotate_left
                 ·show Act.put _ (some 50) _ = _
                  simp only [Act.put, List.setIfInBounds_toArray, List.set_cons_zero, List.set_cons_succ, i64_w, i32_w]
                  rfl
                 refine one_ (i := 16) (N := some 51) near_changes.D25 rfl rfl (one_of HT_.out (by kernel_rfl)) (by decide) (fun K hK => ?_)
                 refine Kd.S_append_step k72 (w0 := w) w.heap.size (by rfl) (.tmp 35) (.tmp 50) 63 72 (.agg #[(.int .i64 0), (.slice none 0 0), (.slice none 0 0)]) 56 rfl Tryd.underlying63 info72 rfl (by decide) (by omega) u5 x5_1 (⟨x6_1, t183, t187⟩ : S72) [.int .i64 x6_1, .slice Ao33 t183.length co33, .slice Ao32 t187.length co32] (fun _ => True) (fun k_ => some k_ = (.slice Ao33 t183.length co33 : Value).ownBlock ∨ some k_ = (.slice Ao32 t187.length co32 : Value).ownBlock) rfl rfl ?aP (fun k_ hk_ => hk_.elim (fun h_ => ((Kd.R_mono (ok' := fun k_ => ((fun _ => True)) k_ ∧ some k_ ≠ (u5 : Value).ownBlock) (Kd.R_apart' (HO185.out) (Kd.S_typed HO_5.out) (by decide)) (fun k_ hk => ⟨trivial, hk.2⟩))).1 k_ h_.symm) (fun h_ => ((Kd.R_mono (ok' := fun k_ => ((fun _ => True)) k_ ∧ some k_ ≠ (u5 : Value).ownBlock) (Kd.R_apart' (HO189.out) (Kd.S_typed HO_5.out) (by decide)) (fun k_ hk => ⟨trivial, hk.2⟩))).1 k_ h_.symm)) ?aF ?aO ?aB ?aS ?aL ?_
                 (case aP => exact k72_mkM _ _ _ (⟨x6_1, t183, t187⟩ : S72) (Kd.R_mono (Kd.R_tight rfl (Kd.R_mono (ok' := fun k_ => ((fun _ => True)) k_ ∧ some k_ ≠ (u5 : Value).ownBlock) (Kd.R_apart' (HO185.out) (Kd.S_typed HO_5.out) (by decide)) (fun k_ hk => ⟨trivial, hk.2⟩))) (fun _ h_ => Or.inl h_)) (Kd.R_mono (Kd.R_tight rfl (Kd.R_mono (ok' := fun k_ => ((fun _ => True)) k_ ∧ some k_ ≠ (u5 : Value).ownBlock) (Kd.R_apart' (HO189.out) (Kd.S_typed HO_5.out) (by decide)) (fun k_ hk => ⟨trivial, hk.2⟩))) (fun _ h_ => Or.inr (h_))))
                 (case aB => exact (by repeat (first | (with_reducible first | exact HB.out | apply below_alloc | apply pw_below_drewN | apply below_drew1 | refine below_set ?_ GE181.out) | exact HB.out)))
                 (case aF => exact (fun _ _ => trivial))
                 (case aO => exact (by (with_reducible repeat (first | apply Kd.S_alloc | apply Kd.S_drewN | apply Kd.S_drew)); exact Kd.S_mono HO_5.out (fun k_ hk => ⟨trivial, fun e_ => e_.elim (fun h_ => hk.1.2 h_) (fun h_ => hk.2 h_)⟩)))
                 (case aS => exact (below_size (by repeat (first | (with_reducible first | exact HB.out | apply below_alloc | apply pw_below_drewN | apply below_drew1 | refine below_set ?_ GE181.out) | exact HB.out))))
                 (case aL => have := LMc26.out; omega)
                 intro v191 w34 ho hb hg hat
                 rw [← Ny190.out] at ho
                 have n0_ := Aside0.mk (Kd.R_over' (by (with_reducible repeat (first | apply Kd.R_alloc | apply Kd.R_drewN | apply Kd.R_drew)); exact HO_19.out) (Kd.S_typed (by (with_reducible repeat (first | apply Kd.S_alloc | apply Kd.S_drewN | apply Kd.S_drew)); exact HO_5.out)) (by decide) hg)
                 have n1_ := Aside0.mk (blk_grown (g := gb181) (o := .cells #[.int .i64 ((rd_T166 y177 x21_1).f0), .int .i64 ((rd_T166 y177 x21_1).f1)] 166 (0, 0)) (by (with_reducible repeat (first | refine blk_drewN ?_ _ | refine blk_drew ?_ | refine blk_alloc ?_ _)); exact BK181.out) hg (Kd.S_ne HO_5.out BK181.out (by decide)))
                 have n2_ := Aside0.mk (hb)
                 have n3_ := Aside0.mk (ho)
                 clear HO_19
                 clear BK181
                 clear HB
                 clear HO_5
                 clear HO185
                 clear HO189
                 have HO_19 := n0_
                 have BK181 := n1_
                 have HB := n2_
                 have HO192 := n3_
                 clear n0_ n1_ n2_ n3_
                 clear ho hb hg hat
                 refine hK.out _ _ ⟨(blk_cell BK181.out 0).trans rfl, (blk_cell BK181.out 1).trans rfl⟩ (fun hHeld => ?_)
                 clear hK K
                 refine norm_ (a' := ?_) ?_ ?_
                 rotate_left
                 ·show Act.put _ (some 51) _ = _
                  simp only [Act.put, List.setIfInBounds_toArray, List.set_cons_zero, List.set_cons_succ, i64_w, i32_w]
                  rfl
                 refine pu_ (i := 17) (N := some 5) (v := ?_) (a' := ?_) near_changes.D26 (any_of HT_.out (by kernel_rfl)) ?_ ?_ ?_; rotate_left 2
                 ·intro w'; go_simp; with_reducible rfl
                 ·simp only [Act.put, s_t, s_z, s_s, i64_w, i32_w]; rfl
                 refine done_ (done_of HT_.out (by kernel_rfl)) ?_
                 try go_wp2
                 have n0_ := Aside0.mk (Kd.R_drew HO_19.out)
                 have n1_ := Aside0.mk (Kd.S_drew HO192.out)
                 have n2_ := Aside0.mk (blk_drew BK181.out)
                 have n3_ := Aside0.mk (below_drew1 HB.out)
                 clear HO_19
                 clear HO192
                 clear BK181
                 clear HB
                 have HO_19 := n0_
                 have HO192 := n1_
                 have BK181 := n2_
                 have HB := n3_
                 clear n0_ n1_ n2_ n3_
                 refine start_ (n := 8) (S := fun w' => w'.cell? ⟨gb181, 0, none⟩ = some (.int .i64 ((rd_T166 y177 x21_1).f0)) ∧ w'.cell? ⟨gb181, 1, none⟩ = some (.int .i64 ((rd_T166 y177 x21_1).f1))) (ds := []) near_changes.D1 (by kernel_rfl) rfl rfl ⟨(blk_cell BK181.out 0).trans rfl, (blk_cell BK181.out 1).trans rfl⟩ (fun hHeld => ?_); refine with_tabW near_changes.tab8 near_changes.bits8 (fun HT_ HW_ => ?_)
                 generalize w34.drew = w35 at HO_19 HO192 BK181 HB hHeld ⊢
                 refine pu_ (i := 0) (N := some 52) (v := ?_) (a' := ?_) near_changes.D3 (any_of HT_.out (by kernel_rfl)) ?_ ?_ ?_; rotate_left 2
                 ·intro w'; go_simp; with_reducible rfl
                 ·simp only [Act.put, s_t, s_z, s_s, i64_w, i32_w]; rfl
                 refine pu_ (i := 3) (N := some 55) (v := ?_) (a' := ?_) near_changes.D4 (any_of HT_.out (by kernel_rfl)) ?_ ?_ ?_; rotate_left 2
                 ·intro w'; go_simp; with_reducible rfl
                 ·simp only [Act.put, s_t, s_z, s_s, i64_w, i32_w]; rfl
                 refine take_ (i := 1) (N := some 53) (v := ?_) (a' := ?_) near_changes.D6 rfl rfl (take_ofW HT_.out HW_.out (by kernel_rfl)) (fun _ _ _ h => h) (Or.inl ⟨by rfl, ?_⟩) hHeld ?_ ?_
                 rotate_left
                 ·rintro w' ⟨s0, s1⟩
                  go_simp
                  with_reducible rfl
                 rotate_left
                 ·simp only [Act.put, List.setIfInBounds_toArray, List.set_cons_zero, List.set_cons_succ, i64_w, i32_w]
                  rfl
                 refine pu_ (i := 2) (N := some 54) (v := ?_) (a' := ?_) near_changes.D9 (any_of HT_.out (by kernel_rfl)) ?_ ?_ ?_; rotate_left 2
                 ·intro w'; go_simp; with_reducible rfl
                 ·simp only [Act.put, s_t, s_z, s_s, i64_w, i32_w]; rfl
                 refine pu_ (i := 6) (N := some 6) (v := ?_) (a' := ?_) near_changes.D10 (any_of HT_.out (by kernel_rfl)) ?_ ?_ ?_; rotate_left 2
                 ·intro w'; go_simp; with_reducible rfl
                 ·simp only [Act.put, s_t, s_z, s_s, i64_w, i32_w]; rfl
                 refine take_ (i := 4) (N := some 56) (v := ?_) (a' := ?_) near_changes.D15 rfl rfl (take_ofW HT_.out HW_.out (by kernel_rfl)) (fun _ _ _ h => h) (Or.inl ⟨by rfl, ?_⟩) hHeld ?_ ?_
                 rotate_left
                 ·rintro w' ⟨s0, s1⟩
                  go_simp
                  with_reducible rfl
                 rotate_left
                 ·simp only [Act.put, List.setIfInBounds_toArray, List.set_cons_zero, List.set_cons_succ, i64_w, i32_w]
                  rfl
                 refine pu_ (i := 5) (N := some 57) (v := ?_) (a' := ?_) near_changes.D20 (any_of HT_.out (by kernel_rfl)) ?_ ?_ ?_; rotate_left 2
                 ·intro w'; go_simp; with_reducible rfl
                 ·simp only [Act.put, s_t, s_z, s_s, i64_w, i32_w]; rfl
                 refine pu_ (i := 7) (N := some 7) (v := ?_) (a' := ?_) near_changes.D27 (any_of HT_.out (by kernel_rfl)) ?_ ?_ ?_; rotate_left 2
                 ·intro w'; go_simp; with_reducible rfl
                 ·simp only [Act.put, s_t, s_z, s_s, i64_w, i32_w]; rfl
                 refine done_ (done_of HT_.out (by kernel_rfl)) ?_
                 try go_wp2
                 go_roundg kj10
                 case measure => have := HK1.out; have := HJ10.out; omega
                 case rel => exact ⟨(y190), (wrap64 (((rd_T166 y177 x21_1).f0) + 1)), (wrap64 (((rd_T166 y177 x21_1).f1) + 1)), (wrap64 (x21_1 + 1)), (by first | rfl | (simp; done) | (simp [*]; done)), (by first | rfl | (simp; done) | (simp [*]; done)), (by first | rfl | (simp; done) | (simp [*]; done)), H', ⟨by have := HK1.out; have := HJ10.out; omega⟩, ⟨by (with_reducible repeat (first | apply Kd.S_alloc | apply Kd.S_drewN | apply Kd.S_drew)); exact HO192.out⟩, ⟨by (with_reducible repeat (first | apply Kd.R_alloc | apply Kd.R_drewN | apply Kd.R_drew)); exact Kd.R_mono HO_19.out (fun _ hk => trivial)⟩, ⟨by repeat (first | (with_reducible first | exact HB.out | apply below_alloc | apply pw_below_drewN | apply below_drew1 | refine below_set ?_ GE181.out) | exact HB.out)⟩⟩
                ·rw [if_neg c26] at H
                 exact absurd H (by simp)
               ·rw [if_neg c24] at H
                exact absurd H (by simp)
              ·rw [if_neg c23] at H
               exact absurd H (by simp)
             ·rw [if_neg c22] at H
              exact absurd H (by simp)
            ·rw [if_neg c20] at H
             exact absurd H (by simp)
           ·rw [if_neg c19] at H
            exact absurd H (by simp)
          ·rw [if_neg c18] at H
           exact absurd H (by simp)
         ·replace c17 := Bool.eq_false_iff.mpr c17
          subst c17
          have H1 : (near_changes.l0 kj10 l0 l1 x5_1 (wrap64 (((rd_T166 y177 x21_1).f0) + 1)) (wrap64 (((rd_T166 y177 x21_1).f1) + 1)) y177 (y177.length : Int) (wrap64 (x21_1 + 1))) = some r := by rw [if_neg (show ¬ (false = true) by decide)] at H; exact H
          clear H
          have H := H1
          clear H1
          have H' := Aside0.mk H
          clear H
          try go_wp2
          have n0_ := Aside0.mk (Kd.S_drew HO_5.out)
          have n1_ := Aside0.mk (Kd.R_drew HO_19.out)
          have n2_ := Aside0.mk (blk_drew BK181.out)
          have n3_ := Aside0.mk (below_drew1 HB.out)
          clear HO_5
          clear HO_19
          clear BK181
          clear HB
          have HO_5 := n0_
          have HO_19 := n1_
          have BK181 := n2_
          have HB := n3_
          clear n0_ n1_ n2_ n3_
          refine start_ (n := 8) (S := fun w' => w'.cell? ⟨gb181, 0, none⟩ = some (.int .i64 ((rd_T166 y177 x21_1).f0)) ∧ w'.cell? ⟨gb181, 1, none⟩ = some (.int .i64 ((rd_T166 y177 x21_1).f1))) (ds := []) near_changes.D1 (by kernel_rfl) rfl rfl ⟨(blk_cell BK181.out 0).trans rfl, (blk_cell BK181.out 1).trans rfl⟩ (fun hHeld => ?_); refine with_tabW near_changes.tab8 near_changes.bits8 (fun HT_ HW_ => ?_)
          generalize wc.drew = w36 at HO_5 HO_19 BK181 HB hHeld ⊢
          refine pu_ (i := 0) (N := some 52) (v := ?_) (a' := ?_) near_changes.D3 (any_of HT_.out (by kernel_rfl)) ?_ ?_ ?_; rotate_left 2
          ·intro w'; go_simp; with_reducible rfl
          ·simp only [Act.put, s_t, s_z, s_s, i64_w, i32_w]; rfl
          refine pu_ (i := 3) (N := some 55) (v := ?_) (a' := ?_) near_changes.D4 (any_of HT_.out (by kernel_rfl)) ?_ ?_ ?_; rotate_left 2
          ·intro w'; go_simp; with_reducible rfl
          ·simp only [Act.put, s_t, s_z, s_s, i64_w, i32_w]; rfl
          refine take_ (i := 1) (N := some 53) (v := ?_) (a' := ?_) near_changes.D6 rfl rfl (take_ofW HT_.out HW_.out (by kernel_rfl)) (fun _ _ _ h => h) (Or.inl ⟨by rfl, ?_⟩) hHeld ?_ ?_
          rotate_left
          ·rintro w' ⟨s0, s1⟩
           go_simp
           with_reducible rfl
          rotate_left
          ·simp only [Act.put, List.setIfInBounds_toArray, List.set_cons_zero, List.set_cons_succ, i64_w, i32_w]
           rfl
          refine pu_ (i := 2) (N := some 54) (v := ?_) (a' := ?_) near_changes.D9 (any_of HT_.out (by kernel_rfl)) ?_ ?_ ?_; rotate_left 2
          ·intro w'; go_simp; with_reducible rfl
          ·simp only [Act.put, s_t, s_z, s_s, i64_w, i32_w]; rfl
          refine pu_ (i := 6) (N := some 6) (v := ?_) (a' := ?_) near_changes.D10 (any_of HT_.out (by kernel_rfl)) ?_ ?_ ?_; rotate_left 2
          ·intro w'; go_simp; with_reducible rfl
          ·simp only [Act.put, s_t, s_z, s_s, i64_w, i32_w]; rfl
          refine take_ (i := 4) (N := some 56) (v := ?_) (a' := ?_) near_changes.D15 rfl rfl (take_ofW HT_.out HW_.out (by kernel_rfl)) (fun _ _ _ h => h) (Or.inl ⟨by rfl, ?_⟩) hHeld ?_ ?_
          rotate_left
          ·rintro w' ⟨s0, s1⟩
           go_simp
           with_reducible rfl
          rotate_left
          ·simp only [Act.put, List.setIfInBounds_toArray, List.set_cons_zero, List.set_cons_succ, i64_w, i32_w]
           rfl
          refine pu_ (i := 5) (N := some 57) (v := ?_) (a' := ?_) near_changes.D20 (any_of HT_.out (by kernel_rfl)) ?_ ?_ ?_; rotate_left 2
          ·intro w'; go_simp; with_reducible rfl
          ·simp only [Act.put, s_t, s_z, s_s, i64_w, i32_w]; rfl
          refine pu_ (i := 7) (N := some 7) (v := ?_) (a' := ?_) near_changes.D27 (any_of HT_.out (by kernel_rfl)) ?_ ?_ ?_; rotate_left 2
          ·intro w'; go_simp; with_reducible rfl
          ·simp only [Act.put, s_t, s_z, s_s, i64_w, i32_w]; rfl
          refine done_ (done_of HT_.out (by kernel_rfl)) ?_
          try go_wp2
          go_roundg kj10
          case measure => have := HK1.out; have := HJ10.out; omega
          case rel => exact ⟨(x5_1), (wrap64 (((rd_T166 y177 x21_1).f0) + 1)), (wrap64 (((rd_T166 y177 x21_1).f1) + 1)), (wrap64 (x21_1 + 1)), (by first | rfl | (simp; done) | (simp [*]; done)), (by first | rfl | (simp; done) | (simp [*]; done)), (by first | rfl | (simp; done) | (simp [*]; done)), H', ⟨by have := HK1.out; have := HJ10.out; omega⟩, ⟨by (with_reducible repeat (first | apply Kd.S_alloc | apply Kd.S_drewN | apply Kd.S_drew)); exact HO_5.out⟩, ⟨by (with_reducible repeat (first | apply Kd.R_alloc | apply Kd.R_drewN | apply Kd.R_drew)); exact Kd.R_mono HO_19.out (fun _ hk => trivial)⟩, ⟨by repeat (first | (with_reducible first | exact HB.out | apply below_alloc | apply pw_below_drewN | apply below_drew1 | refine below_set ?_ GE181.out) | exact HB.out)⟩⟩
      ·rw [if_neg c10] at H
       exact absurd H (by simp)
     ·rw [if_neg c9] at H
      exact absurd H (by simp)
    ·rw [if_neg c8] at H
     have c8b0 : decide (x21_1 < (y177.length : Int)) = false := decide_eq_false c8
     clear c8
     obtain rfl := Option.some.inj H
     go_wp2
     go_ret
     exact ⟨_, by first | rfl | (simp [errW_none, errW_some] <;> rfl) | (simp [*, errW_none, errW_some] <;> rfl), by (with_reducible repeat (first | apply Kd.S_alloc | apply Kd.S_drewN | apply Kd.S_drew)); exact HO_5.out, by repeat (first | (with_reducible first | exact HB.out | apply below_alloc | apply pw_below_drewN | apply below_drew1) | exact HB.out)⟩
 ·rw [if_neg c4] at H
  exact absurd H (by simp)
def near_Differ.f (k : Nat) (a0 : ByteArray) (a1 : ByteArray) : Option ((List (S72)) × Int) := (near_both.f k a0 a1).bind fun bt193 => (if bt193.2.2 = 0 then ((near_changes.f k bt193.1 bt193.2.1).bind fun t200 => (some (t200, 0))) else (some (([] : List (S72)), bt193.2.2)))
theorem near_Differ.mono : ∀ a0 a1 k, LeO (near_Differ.f k a0 a1) (near_Differ.f (k + 1) a0 a1) := by
  intro a0 a1 k
  unfold near_Differ.f
  repeat' first
      | (with_reducible exact near_both.mono _ _ _)
      | (with_reducible exact near_changes.mono _ _ _)
      | (with_reducible exact LeO.refl _)
      | (with_reducible exact LeO.none _)
      | (with_reducible refine LeO.ite ?_ ?_)
      | (with_reducible refine LeO.bind ?_ (fun _ => ?_))
      | exact near_both.mono _ _ _
      | exact near_changes.mono _ _ _
      | exact LeO.none _
      | refine LeO.ite ?_ ?_
      | refine LeO.bind ?_ (fun _ => ?_)
set_option maxHeartbeats 8000000 in
set_option maxRecDepth 100000 in
theorem near_Differ.calls (k : Nat) (a0 : ByteArray) (a1 : ByteArray) (r1 : List (S72)) (r2 : Int) (w : World) (hGl : Wd w) (h : near_Differ.f k a0 a1 = some (r1, r2)) :
  Calls Tryd.prog 44 #[.string a0, .string a1] w fun e w' => ∃ v0_ : Value, e = .returned (.tuple #[v0_, .int .i64 r2]) ∧ Kd.S k72 72 w' w.heap.size (fun _ => True) v0_ r1 ∧ Below w.heap.size w w' := by
 have HGl := Aside0.mk hGl
 clear hGl
 have HB := Aside0.mk (Below.refl w.heap.size w)
 have H : ((near_both.f k a0 a1).bind fun bt193 => (if bt193.2.2 = 0 then ((near_changes.f k bt193.1 bt193.2.1).bind fun t200 => (some (t200, 0))) else (some (([] : List (S72)), bt193.2.2)))) = some (r1, r2) := h
 clear h
 replace H := Option.bind_eq_some_iff.mp H
 obtain ⟨⟨t193, t194, t195⟩, A30, H⟩ := H
 replace H : (if t195 = 0 then ((near_changes.f k t193 t194).bind fun t200 => (some (t200, 0))) else (some (([] : List (S72)), t195))) = some (r1, r2) := H
 have A3 := Aside0.mk A30
 clear A30
 by_cases c4 : t195 = 0
 ·rw [if_pos c4] at H
  have c4b0 : (t195 == 0) = true := beq_iff_eq.mpr c4
  have c4b1 : (t195 != 0) = false := bne_eq_false_iff_eq.mpr c4
  clear c4
  replace H := Option.bind_eq_some_iff.mp H
  obtain ⟨t200, A50, H⟩ := H
  replace H : (some (t200, 0)) = some (r1, r2) := H
  have A5 := Aside0.mk A50
  clear A50
  simp only [Option.some.injEq, Prod.mk.injEq] at H
  obtain ⟨rfl, rfl⟩ := H
  go_enter Tryd.func44, Tryd.ntmps44
  go_wp2_with (first | ((with_reducible refine gate_callee (f := 98) rfl ?_); refine goesL_ (some 12) rfl rfl Tryd.func98 (by kernel_rfl) rfl #[.string a0, .string a1] rfl (by (try simp only [List.map_toArray, List.map_cons, List.map_nil]); first | done | rfl | (simp only [List.length_drop, List.length_take]; rfl)) ?_; (with_reducible refine (near_both.calls k a0 a1 t193 t194 t195 _ ?side1 A3.out).mono ?_); (case side1 => exact Wd.below HGl.out (by repeat (first | (with_reducible first | exact HB.out | apply below_alloc | apply pw_below_drewN | apply below_drew1) | exact HB.out))); rintro e w6 ⟨v196, v198, rfl, ho0, ho1, hb⟩; refine ⟨_, rfl, ?_⟩; have n0_ := Aside0.mk (Kd.R_lower ho0 (below_size (by repeat (first | (with_reducible first | exact HB.out | apply below_alloc | apply pw_below_drewN | apply below_drew1) | exact HB.out)))); have n1_ := Aside0.mk (Kd.R_lower ho1 (below_size (by repeat (first | (with_reducible first | exact HB.out | apply below_alloc | apply pw_below_drewN | apply below_drew1) | exact HB.out)))); have n2_ := Aside0.mk (below_step (by repeat (first | (with_reducible first | exact HB.out | apply below_alloc | apply pw_below_drewN | apply below_drew1) | exact HB.out)) hb); clear HB; have HO197 := n0_; have HO199 := n1_; have HB := n2_; clear n0_ n1_ n2_; (try clear hb); (try clear hb2); (try clear hk); (try clear hi); (try clear ho0); (try clear ho1); obtain ⟨Ao7, co7, eo7⟩ := Kd.R_slice HO197.out; subst eo7; obtain ⟨Ao8, co8, eo8⟩ := Kd.R_slice HO199.out; subst eo8) | ((with_reducible refine gate_callee (f := 99) rfl ?_); refine goesL_ (some 21) rfl rfl Tryd.func99 (by kernel_rfl) rfl #[.slice Ao7 t193.length co7, .slice Ao8 t194.length co8] rfl (by (try simp only [List.map_toArray, List.map_cons, List.map_nil]); first | done | rfl | (simp only [List.length_drop, List.length_take]; rfl)) ?_; (with_reducible refine (near_changes.calls k _ _ t193 _ _ t194 t200 _ ?side1 ?side2 ?side3 ?side4 A5.out).mono ?_); (case side1 => repeat (first | exact (Kd.R_reads' HO197.out).2.2 | (with_reducible refine Kd.C_alloc ?_ _) | (with_reducible refine Kd.C_drewN ?_ _) | (with_reducible refine Kd.C_drew ?_))); (case side2 => exact (Kd.R_reads' HO197.out).2.1); (case side3 => repeat (first | exact (Kd.R_reads' HO199.out).2.2 | (with_reducible refine Kd.C_alloc ?_ _) | (with_reducible refine Kd.C_drewN ?_ _) | (with_reducible refine Kd.C_drew ?_))); (case side4 => exact (Kd.R_reads' HO199.out).2.1); rintro e w9 ⟨v201, rfl, ho0, hb⟩; refine ⟨_, rfl, ?_⟩; have n0_ := Aside0.mk (Kd.R_below (by (with_reducible repeat (first | apply Kd.R_alloc | apply Kd.R_drewN | apply Kd.R_drew)); exact HO197.out) hb); have n1_ := Aside0.mk (Kd.R_below (by (with_reducible repeat (first | apply Kd.R_alloc | apply Kd.R_drewN | apply Kd.R_drew)); exact HO199.out) hb); have n2_ := Aside0.mk (Kd.S_lower (Kd.S_new' (Kd.S_new' ho0 (Kd.R_lt (by (with_reducible repeat (first | apply Kd.R_alloc | apply Kd.R_drewN | apply Kd.R_drew)); exact HO197.out))) (Kd.R_lt (by (with_reducible repeat (first | apply Kd.R_alloc | apply Kd.R_drewN | apply Kd.R_drew)); exact HO199.out))) (below_size (by repeat (first | (with_reducible first | exact HB.out | apply below_alloc | apply pw_below_drewN | apply below_drew1) | exact HB.out)))); have n3_ := Aside0.mk (below_step (by repeat (first | (with_reducible first | exact HB.out | apply below_alloc | apply pw_below_drewN | apply below_drew1) | exact HB.out)) hb); clear HO197; clear HO199; clear HB; have HO197 := n0_; have HO199 := n1_; have HO202 := n2_; have HB := n3_; clear n0_ n1_ n2_ n3_; (try clear hb); (try clear hb2); (try clear hk); (try clear hi); (try clear ho0)))
  go_ret2
  exact ⟨_, by first | rfl | (simp [errW_none, errW_some] <;> rfl) | (simp [*, errW_none, errW_some] <;> rfl), by (with_reducible repeat (first | apply Kd.S_alloc | apply Kd.S_drewN | apply Kd.S_drew)); exact Kd.S_mono HO202.out (fun _ hk => trivial), by repeat (first | (with_reducible first | exact HB.out | apply below_alloc | apply pw_below_drewN | apply below_drew1) | exact HB.out)⟩
 ·rw [if_neg c4] at H
  have c4b0 : (t195 == 0) = false := beq_eq_false_iff_ne.mpr c4
  have c4b1 : (t195 != 0) = true := bne_iff_ne.mpr c4
  simp only [Option.some.injEq, Prod.mk.injEq] at H
  obtain ⟨rfl, rfl⟩ := H
  go_enter Tryd.func44, Tryd.ntmps44
  go_wp2_with (first | ((with_reducible refine gate_callee (f := 98) rfl ?_); refine goesL_ (some 12) rfl rfl Tryd.func98 (by kernel_rfl) rfl #[.string a0, .string a1] rfl (by (try simp only [List.map_toArray, List.map_cons, List.map_nil]); first | done | rfl | (simp only [List.length_drop, List.length_take]; rfl)) ?_; (with_reducible refine (near_both.calls k a0 a1 t193 t194 t195 _ ?side1 A3.out).mono ?_); (case side1 => exact Wd.below HGl.out (by repeat (first | (with_reducible first | exact HB.out | apply below_alloc | apply pw_below_drewN | apply below_drew1) | exact HB.out))); rintro e w10 ⟨v196, v198, rfl, ho0, ho1, hb⟩; refine ⟨_, rfl, ?_⟩; have n0_ := Aside0.mk (Kd.R_lower ho0 (below_size (by repeat (first | (with_reducible first | exact HB.out | apply below_alloc | apply pw_below_drewN | apply below_drew1) | exact HB.out)))); have n1_ := Aside0.mk (Kd.R_lower ho1 (below_size (by repeat (first | (with_reducible first | exact HB.out | apply below_alloc | apply pw_below_drewN | apply below_drew1) | exact HB.out)))); have n2_ := Aside0.mk (below_step (by repeat (first | (with_reducible first | exact HB.out | apply below_alloc | apply pw_below_drewN | apply below_drew1) | exact HB.out)) hb); clear HB; have HO197 := n0_; have HO199 := n1_; have HB := n2_; clear n0_ n1_ n2_; (try clear hb); (try clear hb2); (try clear hk); (try clear hi); (try clear ho0); (try clear ho1)))
  go_ret2
  exact ⟨_, by first | rfl | (simp [errW_none, errW_some] <;> rfl) | (simp [*, errW_none, errW_some] <;> rfl), by first | exact Kd.S_nil _ _ _ _ _ | exact Kd.N_nil _ _ _ _ _ | exact Kd.V_nil _ _ _ _ _ | exact Kd.Q_nil _ _ _ _ _ | exact Kd.R_nil _ _ _ _ _, by repeat (first | (with_reducible first | exact HB.out | apply below_alloc | apply pw_below_drewN | apply below_drew1) | exact HB.out)⟩
def near_Join.f (l0 : List ByteArray) : Option (ByteArray) := if l0.length ≤ 140737488355328 ∧ (jt l0 l0.length).length ≤ 140737488355328 then (some (⟨(jt l0 l0.length).toArray⟩ : ByteArray)) else (none)
set_option maxHeartbeats 8000000 in
set_option maxRecDepth 100000 in
theorem near_Join.calls (A0 : Option Addr) (c0 : Nat) (l0 : List ByteArray) (r : ByteArray) (w : World) (hr0 : Kd.C Kd.string w A0 l0.length l0) (hc0 : l0.length ≤ c0) (h : near_Join.f l0 = some r) :
    Calls Tryd.prog 49 #[.slice A0 l0.length c0] w fun e w' => e = .returned (.string r) ∧ Below w.heap.size w w' := by
  unfold near_Join.f at h
  by_cases hs : l0.length ≤ 140737488355328 ∧ (jt l0 l0.length).length ≤ 140737488355328
  · rw [if_pos hs] at h
    obtain rfl := Option.some.inj h
    clear h
    have h0 : Lib.IsBuilderF 124 5 w.heap.size w.heap.size (Lib.byteCells (jt l0 0)) (w.alloc (.cells #[.pointer none, .slice none 0 0] 124)) := Lib.IsBuilderF.of (Lib.fresh_isBuilder 124 5 w)
    have b0 : Below w.heap.size w (w.alloc (.cells #[.pointer none, .slice none 0 0] 124)) := (Below.refl _ w).alloc (Nat.le_refl _) _
    have H0 : Hid (Lib.IsBuilderF 124 5 w.heap.size w.heap.size (Lib.byteCells (jt l0 0)) (w.alloc (.cells #[.pointer none, .slice none 0 0] 124)) ∧ Below w.heap.size w (w.alloc (.cells #[.pointer none, .slice none 0 0] 124))) := ⟨h0, b0⟩
    clear h0 b0
    have hs1 := hs.1
    have HS : Hid ((jt l0 l0.length).length ≤ 140737488355328) := hs.2
    clear hs
    have HR : Hid (Kd.C Kd.string w A0 l0.length l0) := hr0
    clear hr0
    go_enter Tryd.func49, Tryd.ntmps49
    go_wp2
    go_loopw [8] (fun i wr => ∃ k : Nat, k ≤ l0.length ∧ i = .int .i64 k ∧ Hid (Lib.IsBuilderF 124 5 w.heap.size w.heap.size (Lib.byteCells (jt l0 k)) wr ∧ Below w.heap.size w wr)) (fun i _ => l0.length - (intOf i).toNat)
    case atStart => exact ⟨0, Nat.zero_le _, rfl, H0⟩
    case round =>
        obtain ⟨k, hk, rfl, HL⟩ := hrel
        clear H0
        by_cases hlt : k < l0.length
        · obtain ⟨b, o, rfl, hbk, hcell⟩ := C_cells HR.out (Nat.lt_of_le_of_lt (Nat.zero_le _) hlt)
          obtain ⟨x, ex⟩ : ∃ x, l0.getD k ByteArray.empty = x := ⟨_, rfl⟩
          obtain ⟨y, ey⟩ : ∃ y, l0.getD (k - 1) ByteArray.empty = y := ⟨_, rfl⟩
          have hx : wr.cell? ⟨b, o + k, none⟩ = some (.string x) := (HL.out.2.cell hbk).trans (by rw [hcell k _ (List.getElem?_eq_getElem hlt), ← ex]; simp [List.getD, hlt])
          have hz1 : (k : Int) < (l0.length : Int) := by omega
          have HN : Hid ((jt l0 (k + 1)).length ≤ 140737488355328) := Nat.le_trans (jt_le l0 (by omega)) HS.out
          by_cases c0 : 0 < k
          · have hz2 : (0 : Int) < (k : Int) := by omega
            have hy : wr.cell? ⟨b, o + (k - 1), none⟩ = some (.string y) := (HL.out.2.cell hbk).trans (by rw [hcell (k - 1) _ (List.getElem?_eq_getElem (by omega)), ← ey]; simp [List.getD, show k - 1 < l0.length by omega])
            clear hcell HR
            by_cases c1 : x.toList = [10]
            · clear hy
              have c1b : (x.toList == [10]) = true := by rw [c1]; rfl
              have e_ : jt l0 (k + 1) = jt l0 k ++ x.data.toList := jt_no ex ey (by intro h_; exact h_.2.1 c1)
              go_wp2_with (go_at_call 104; refine (Tryd.WriteString w.heap.size w.heap.size _ x _ HL.out.1 (by have z_ := HN.out; rw [e_, List.length_append, ← Lib.size_eq] at z_; rw [Lib.byteCells_length]; exact z_) HL.out.2.size).mono ?_; rintro e W1 ⟨rfl, h1, hb, _⟩; have HP : Hid (Lib.IsBuilderF 124 5 w.heap.size w.heap.size (Lib.byteCells (jt l0 (k + 1))) W1 ∧ Below w.heap.size w W1) := ⟨Or.inr (by rw [e_, Lib.byteCells_append, ← Lib.strCells_eq]; exact h1), HL.out.2.trans hb⟩; clear HL HN h1 hb)
              go_roundw
              case rel => exact ⟨k + 1, by omega, by go_num, HP⟩
              case measure => simp [intOf]; omega
            · have c1b : (x.toList == [10]) = false := by simpa using c1
              by_cases c2 : y.toList = [10]
              · have c2b : (y.toList == [10]) = true := by rw [c2]; rfl
                have e_ : jt l0 (k + 1) = jt l0 k ++ x.data.toList := jt_no ex ey (by intro h_; exact h_.2.2 c2)
                go_wp2_with (go_at_call 104; refine (Tryd.WriteString w.heap.size w.heap.size _ x _ HL.out.1 (by have z_ := HN.out; rw [e_, List.length_append, ← Lib.size_eq] at z_; rw [Lib.byteCells_length]; exact z_) HL.out.2.size).mono ?_; rintro e W1 ⟨rfl, h1, hb, _⟩; have HP : Hid (Lib.IsBuilderF 124 5 w.heap.size w.heap.size (Lib.byteCells (jt l0 (k + 1))) W1 ∧ Below w.heap.size w W1) := ⟨Or.inr (by rw [e_, Lib.byteCells_append, ← Lib.strCells_eq]; exact h1), HL.out.2.trans hb⟩; clear HL HN h1 hb)
                go_roundw
                case rel => exact ⟨k + 1, by omega, by go_num, HP⟩
                case measure => simp [intOf]; omega
              · have e_ : jt l0 (k + 1) = jt l0 k ++ [32] ++ x.data.toList := jt_sp ex ey c0 c1 c2
                have c2b : (y.toList == [10]) = false := by simpa using c2
                go_wp2_with (first | (go_at_call 103; refine (Tryd.WriteByte w.heap.size w.heap.size _ 32 _ HL.out.1 (by have z_ := HN.out; rw [e_, List.length_append, List.length_append] at z_; rw [Lib.byteCells_length]; have z1 : (⟨#[32]⟩ : ByteArray).size = 1 := rfl; have z2 : ([32] : List UInt8).length = 1 := rfl; omega) HL.out.2.size).mono ?_; rintro e W0 ⟨rfl, h3, hb0, _⟩; have HQ : Hid (Lib.IsBuilderF 124 5 w.heap.size w.heap.size (Lib.byteCells (jt l0 k ++ [32])) W0 ∧ Below w.heap.size w W0) := ⟨Or.inr (by rw [Lib.byteCells_append]; first | exact h3 | (rw [show Lib.byteCells [32] = Lib.strCells ⟨#[32]⟩ from rfl]; exact h3)), HL.out.2.trans hb0⟩; clear h3 hb0 HL) | (go_at_call 104; refine (Tryd.WriteString w.heap.size w.heap.size _ x _ HQ.out.1 (by have z_ := HN.out; rw [e_, List.length_append, ← Lib.size_eq] at z_; rw [Lib.byteCells_length]; exact z_) HQ.out.2.size).mono ?_; rintro e W1 ⟨rfl, h1, hb, _⟩; have HP : Hid (Lib.IsBuilderF 124 5 w.heap.size w.heap.size (Lib.byteCells (jt l0 (k + 1))) W1 ∧ Below w.heap.size w W1) := ⟨Or.inr (by rw [e_, Lib.byteCells_append, ← Lib.strCells_eq]; exact h1), HQ.out.2.trans hb⟩; clear HQ HN h1 hb))
                go_roundw
                case rel => exact ⟨k + 1, by omega, by go_num, HP⟩
                case measure => simp [intOf]; omega
          · have hz2 : ¬ (0 : Int) < (k : Int) := by omega
            have e_ : jt l0 (k + 1) = jt l0 k ++ x.data.toList := jt_no ex ey (by intro h_; exact c0 h_.1)
            go_wp2_with (go_at_call 104; refine (Tryd.WriteString w.heap.size w.heap.size _ x _ HL.out.1 (by have z_ := HN.out; rw [e_, List.length_append, ← Lib.size_eq] at z_; rw [Lib.byteCells_length]; exact z_) HL.out.2.size).mono ?_; rintro e W1 ⟨rfl, h1, hb, _⟩; have HP : Hid (Lib.IsBuilderF 124 5 w.heap.size w.heap.size (Lib.byteCells (jt l0 (k + 1))) W1 ∧ Below w.heap.size w W1) := ⟨Or.inr (by rw [e_, Lib.byteCells_append, ← Lib.strCells_eq]; exact h1), HL.out.2.trans hb⟩; clear HL HN h1 hb)
            go_roundw
            case rel => exact ⟨k + 1, by omega, by go_num, HP⟩
            case measure => simp [intOf]; omega
        · obtain rfl : k = l0.length := by omega
          have hz1 : ¬ (l0.length : Int) < (l0.length : Int) := by omega
          go_wp2_with (go_at_call 105; refine (Tryd.BString w.heap.size w.heap.size _ _ HL.out.1 HL.out.2.size).mono ?_; rintro e w' ⟨rfl, _, hb, _⟩; have hB := HL.out.2.trans hb; clear HL hb)
          go_ret
          exact ⟨rfl, hB⟩
  · rw [if_neg hs] at h
    exact absurd h (by simp)
def slices_Equal_string_string.l0 : Nat → List ByteArray → List ByteArray → Int → Int → Option (Bool)
  | 0, _, _, _, _ => none
  | k + 1, x0, x1, x12, x13 => if x13 < x12 then (if 0 ≤ x13 then (if x13 < (x0.length : Int) then (if x13 < (x1.length : Int) then (if (rdOf ByteArray.empty x0 x13).toList = (rdOf ByteArray.empty x1 x13).toList then (slices_Equal_string_string.l0 k x0 x1 x12 (wrap64 (x13 + 1))) else (some false)) else (none)) else (none)) else (none)) else (some true)
def slices_Equal_string_string.f (k : Nat) (l0 : List ByteArray) (l1 : List ByteArray) : Option (Bool) := if (l0.length : Int) = (l1.length : Int) then (slices_Equal_string_string.l0 k l0 l1 (l0.length : Int) 0) else (some false)
theorem slices_Equal_string_string.mono_l : ∀ k, (∀ y0 y1 y2 y3, LeO (slices_Equal_string_string.l0 k y0 y1 y2 y3) (slices_Equal_string_string.l0 (k + 1) y0 y1 y2 y3))
  | 0 => fun _ _ _ _ r h => by simp [slices_Equal_string_string.l0] at h
  | k + 1 => by
    have ih0 := slices_Equal_string_string.mono_l k
    · intro y0 y1 y2 y3
      unfold slices_Equal_string_string.l0
      repeat' first
      | (with_reducible exact ih0 _ _ _ _)
      | (with_reducible exact LeO.refl _)
      | (with_reducible exact LeO.none _)
      | (with_reducible refine LeO.ite ?_ ?_)
      | (with_reducible refine LeO.bind ?_ (fun _ => ?_))
      | exact ih0 _ _ _ _
      | exact LeO.none _
      | refine LeO.ite ?_ ?_
      | refine LeO.bind ?_ (fun _ => ?_)
theorem slices_Equal_string_string.mono : ∀ a0 a1 k, LeO (slices_Equal_string_string.f k a0 a1) (slices_Equal_string_string.f (k + 1) a0 a1) := by
  intro a0 a1 k
  have ih0 := slices_Equal_string_string.mono_l k
  unfold slices_Equal_string_string.f
  repeat' first
      | (with_reducible exact ih0 _ _ _ _)
      | (with_reducible exact LeO.refl _)
      | (with_reducible exact LeO.none _)
      | (with_reducible refine LeO.ite ?_ ?_)
      | (with_reducible refine LeO.bind ?_ (fun _ => ?_))
      | exact ih0 _ _ _ _
      | exact LeO.none _
      | refine LeO.ite ?_ ?_
      | refine LeO.bind ?_ (fun _ => ?_)
end Go.Proofs.YtomamgapdeggjaaDoor.Pl
