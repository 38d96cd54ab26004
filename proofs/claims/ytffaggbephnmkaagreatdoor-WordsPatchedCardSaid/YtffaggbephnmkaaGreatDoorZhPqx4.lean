/- A part of the proof of wordsPatched. No conditions. Laid by program over the kit's print and words. -/
import Derived.Test.YtffaggbephnmkaaGreatDoorZhPqx0
import Derived.Test.YtffaggbephnmkaaGreatDoorZhPqx1
import Derived.Test.YtffaggbephnmkaaGreatDoorZhPqx2
import Derived.Test.YtffaggbephnmkaaGreatDoorZhPqx3
namespace Go.Proofs.YtffaggbephnmkaaGreatDoor.Pq
open Go.RowKit Go.Proofs.YtffaggbephnmkaaGreatDoor.GBase Go.Proofs.YtffaggbephnmkaaGreatDoorW.PrintWords Go.Proofs.YtffaggbephnmkaaGreatDoorW.PrintLast Go.Proofs.YtffaggbephnmkaaGreatDoorW.PrintMore
attribute [local go_sem] str_leq max2_int min2_int max_two min_two max_three min_three max_four min_four
set_option linter.unusedVariables false
set_option linter.unusedSimpArgs false
mutual
def Z3.l0 : Nat → List ByteArray → List ByteArray → List (S70) → Int → Int → List (S114) → Int → Int → Option ((List (S70)))
  | 0, _, _, _, _, _, _, _, _ => none
  | k + 1, x5, x6, x7, x8, x9, x25, x26, x27 => if x27 < x26 then (if 0 ≤ x27 then (if x27 < (x25.length : Int) then (if ((rd_T114 x25 x27).f0) > x8 then (Z3.j1 k x5 x6 x7 x8 x9 x25 x26 x27 true ((rd_T114 x25 x27).f0) ((rd_T114 x25 x27).f1)) else (Z3.j1 k x5 x6 x7 x8 x9 x25 x26 x27 (decide (((rd_T114 x25 x27).f1) > x9)) ((rd_T114 x25 x27).f0) ((rd_T114 x25 x27).f1))) else (none)) else (none)) else (some x7)
def Z3.j1 : Nat → List ByteArray → List ByteArray → List (S70) → Int → Int → List (S114) → Int → Int → Bool → Int → Int → Option ((List (S70)))
  | 0, _, _, _, _, _, _, _, _, _, _, _ => none
  | k + 1, x5, x6, x7, x8, x9, x25, x26, x27, x40, x184000, x184001 => if x40 = true then (if 0 ≤ x8 then (if x8 ≤ x184000 then (if x184000 ≤ (x5.length : Int) then ((Z14.f ((x5.take (x184000 : Int).toNat).drop (x8 : Int).toNat)).bind fun t188 => (if 0 ≤ x9 then (if x9 ≤ x184001 then (if x184001 ≤ (x6.length : Int) then ((Z14.f ((x6.take (x184001 : Int).toNat).drop (x9 : Int).toNat)).bind fun t195 => (if x7.length < 2513169434916 then (Z3.l0 k x5 x6 (x7 ++ [(⟨x8, t188, t195⟩ : S70)]) (wrap64 (x184000 + 1)) (wrap64 (x184001 + 1)) x25 x26 (wrap64 (x27 + 1))) else (none))) else (none)) else (none)) else (none))) else (none)) else (none)) else (none)) else (Z3.l0 k x5 x6 x7 (wrap64 (x184000 + 1)) (wrap64 (x184001 + 1)) x25 x26 (wrap64 (x27 + 1)))
end
def Z3.f (k : Nat) (a0 : ByteArray) (a1 : ByteArray) : Option ((List (S70))) := (Z6.f k a0).bind fun t170 => ((Z6.f k a1).bind fun t173 => ((Z1.f k t170 t173).bind fun t176 => (if t176.length < 8796093022208 then ((some (t176 ++ [(⟨(t170.length : Int), (t173.length : Int)⟩ : S114)] : List (S114))).bind fun y179 => (Z3.l0 k t170 t173 ([] : List (S70)) 0 0 y179 (y179.length : Int) 0)) else (none))))
theorem Z3.mono_l : ∀ k, (∀ y0 y1 y2 y3 y4 y5 y6 y7, LeO (Z3.l0 k y0 y1 y2 y3 y4 y5 y6 y7) (Z3.l0 (k + 1) y0 y1 y2 y3 y4 y5 y6 y7)) ∧ (∀ y0 y1 y2 y3 y4 y5 y6 y7 y8 y9 y10, LeO (Z3.j1 k y0 y1 y2 y3 y4 y5 y6 y7 y8 y9 y10) (Z3.j1 (k + 1) y0 y1 y2 y3 y4 y5 y6 y7 y8 y9 y10))
  | 0 => ⟨fun _ _ _ _ _ _ _ _ r h => by simp [Z3.l0] at h, fun _ _ _ _ _ _ _ _ _ _ _ r h => by simp [Z3.j1] at h⟩
  | k + 1 => by
    obtain ⟨ih0, ih1⟩ := Z3.mono_l k
    refine ⟨?_, ?_⟩
    · intro y0 y1 y2 y3 y4 y5 y6 y7
      unfold Z3.l0
      repeat' first
      | (with_reducible exact ih0 _ _ _ _ _ _ _ _)
      | (with_reducible exact ih1 _ _ _ _ _ _ _ _ _ _ _)
      | (with_reducible exact Z6.mono _ _)
      | (with_reducible exact Z1.mono _ _ _)
      | (with_reducible exact LeO.refl _)
      | (with_reducible exact LeO.none _)
      | (with_reducible refine LeO.ite ?_ ?_)
      | (with_reducible refine LeO.bind ?_ (fun _ => ?_))
      | exact ih0 _ _ _ _ _ _ _ _
      | exact ih1 _ _ _ _ _ _ _ _ _ _ _
      | exact LeO.none _
      | refine LeO.ite ?_ ?_
      | refine LeO.bind ?_ (fun _ => ?_)
    · intro y0 y1 y2 y3 y4 y5 y6 y7 y8 y9 y10
      unfold Z3.j1
      repeat' first
      | (with_reducible exact ih0 _ _ _ _ _ _ _ _)
      | (with_reducible exact ih1 _ _ _ _ _ _ _ _ _ _ _)
      | (with_reducible exact Z6.mono _ _)
      | (with_reducible exact Z1.mono _ _ _)
      | (with_reducible exact LeO.refl _)
      | (with_reducible exact LeO.none _)
      | (with_reducible refine LeO.ite ?_ ?_)
      | (with_reducible refine LeO.bind ?_ (fun _ => ?_))
      | exact ih0 _ _ _ _ _ _ _ _
      | exact ih1 _ _ _ _ _ _ _ _ _ _ _
      | exact LeO.none _
      | refine LeO.ite ?_ ?_
      | refine LeO.bind ?_ (fun _ => ?_)
theorem Z3.mono : ∀ a0 a1 k, LeO (Z3.f k a0 a1) (Z3.f (k + 1) a0 a1) := by
  intro a0 a1 k
  obtain ⟨ih0, ih1⟩ := Z3.mono_l k
  unfold Z3.f
  repeat' first
      | (with_reducible exact ih0 _ _ _ _ _ _ _ _)
      | (with_reducible exact ih1 _ _ _ _ _ _ _ _ _ _ _)
      | (with_reducible exact Z6.mono _ _)
      | (with_reducible exact Z1.mono _ _ _)
      | (with_reducible exact LeO.refl _)
      | (with_reducible exact LeO.none _)
      | (with_reducible refine LeO.ite ?_ ?_)
      | (with_reducible refine LeO.bind ?_ (fun _ => ?_))
      | exact ih0 _ _ _ _ _ _ _ _
      | exact ih1 _ _ _ _ _ _ _ _ _ _ _
      | exact LeO.none _
      | refine LeO.ite ?_ ?_
      | refine LeO.bind ?_ (fun _ => ?_)
def Z3.T8 : Bool × List (List Nat × List Nat) := (true, [([], []), ([], []), ([], []), ([], []), ([], []), ([4], [4]), ([2, 3, 5], [2, 3, 5]), ([6], [6]), ([], []), ([], []), ([], []), ([10], [10]), ([8, 9, 11], [8, 9, 11]), ([12, 7], [12]), ([1, 7, 13], [1, 7, 13]), ([14], [14]), ([0, 15, 13], [0, 15]), ([16, 16, 0, 1, 2, 3, 4, 5, 6, 7, 8, 9, 10, 11, 12, 13, 14, 15, 16], [0, 16])])
def Z3.B8 : List Nat := [0, 0, 0, 0, 0, 16, 60, 124, 0, 0, 0, 1024, 3840, 8188, 16382, 32766, 65535, 131071]
theorem Z3.tab8 : rtab .any (opsOf Tryz.f38 8) = Z3.T8 := by kernel_rfl
theorem Z3.bits8 : waitsOk Z3.T8.2 Z3.B8 = true := by kernel_rfl
def Z3.T9 : Bool × List (List Nat × List Nat) := (true, [([], []), ([0], [0]), ([1], [1]), ([], []), ([3], [3]), ([4], [4]), ([2, 0, 1, 2], [2]), ([5, 6, 0, 1, 2, 3, 4, 5, 6], [5])])
def Z3.B9 : List Nat := [0, 1, 3, 0, 8, 24, 7, 127]
theorem Z3.tab9 : rtab .any (opsOf Tryz.f38 9) = Z3.T9 := by kernel_rfl
theorem Z3.bits9 : waitsOk Z3.T9.2 Z3.B9 = true := by kernel_rfl
abbrev Z3.D0 : Array Bool := #[false, false, false, false, false, false, false, false, false, false, false, false, false, false, false, false, false, false]
abbrev Z3.D1 : Array Bool := #[false, false, false, false, false, false, false, false]
abbrev Z3.D2 : Array Bool := #[true, false, false, false, false, false, false, false, false, false, false, false, false, false, false, false, false, false]
abbrev Z3.D3 : Array Bool := #[true, false, false, false, false, false, false, false]
abbrev Z3.D4 : Array Bool := #[true, false, false, true, false, false, false, false]
abbrev Z3.D5 : Array Bool := #[true, true, false, false, false, false, false, false, false, false, false, false, false, false, false, false, false, false]
abbrev Z3.D6 : Array Bool := #[true, true, false, true, false, false, false, false]
abbrev Z3.D7 : Array Bool := #[true, true, true, false, false, false, false, false, false, false, false, false, false, false, false, false, false, false]
abbrev Z3.D8 : Array Bool := #[true, true, true, true, false, false, false, false, false, false, false, false, false, false, false, false, false, false]
abbrev Z3.D9 : Array Bool := #[true, true, true, true, false, false, false, false]
abbrev Z3.D10 : Array Bool := #[true, true, true, true, false, false, true, false]
abbrev Z3.D11 : Array Bool := #[true, true, true, true, true, false, false, false, false, false, false, false, false, false, false, false, false, false]
abbrev Z3.D12 : Array Bool := #[true, true, true, true, true, false, false, false, true, false, false, false, false, false, false, false, false, false]
abbrev Z3.D13 : Array Bool := #[true, true, true, true, true, false, false, false, true, true, false, false, false, false, false, false, false, false]
abbrev Z3.D14 : Array Bool := #[true, true, true, true, true, false, false, false, true, true, true, false, false, false, false, false, false, false]
abbrev Z3.D15 : Array Bool := #[true, true, true, true, true, false, true, false]
abbrev Z3.D16 : Array Bool := #[true, true, true, true, true, true, false, false, true, true, true, false, false, false, false, false, false, false]
abbrev Z3.D17 : Array Bool := #[true, true, true, true, true, true, true, false, true, true, true, false, false, false, false, false, false, false]
abbrev Z3.D18 : Array Bool := #[true, true, true, true, true, true, true, false, true, true, true, true, false, false, false, false, false, false]
abbrev Z3.D19 : Array Bool := #[true, true, true, true, true, true, true, false, true, true, true, true, true, false, false, false, false, false]
abbrev Z3.D20 : Array Bool := #[true, true, true, true, true, true, true, false]
abbrev Z3.D21 : Array Bool := #[true, true, true, true, true, true, true, true, true, true, true, true, true, false, false, false, false, false]
abbrev Z3.D22 : Array Bool := #[true, true, true, true, true, true, true, true, true, true, true, true, true, true, false, false, false, false]
abbrev Z3.D23 : Array Bool := #[true, true, true, true, true, true, true, true, true, true, true, true, true, true, true, false, false, false]
abbrev Z3.D24 : Array Bool := #[true, true, true, true, true, true, true, true, true, true, true, true, true, true, true, true, false, false]
abbrev Z3.D25 : Array Bool := #[true, true, true, true, true, true, true, true, true, true, true, true, true, true, true, true, true, false]
abbrev Z3.D26 : Array Bool := #[true, true, true, true, true, true, true, true, true, true, true, true, true, true, true, true, true, true]
abbrev Z3.D27 : Array Bool := #[true, true, true, true, true, true, true, true]
set_option maxHeartbeats 8000000 in
set_option maxRecDepth 100000 in
theorem Z3.calls (k : Nat) (a0 : ByteArray) (a1 : ByteArray) (r : List (S70)) (w : World) (hGl : Wd w) (h : Z3.f k a0 a1 = some r) :
  Calls Tryz.prog 38 #[.string a0, .string a1] w fun e w' => ∃ v0_ : Value, e = .returned (v0_) ∧ Kd.S k70 70 w' w.heap.size (fun _ => True) v0_ r ∧ Below w.heap.size w w' := by
 have hu114 := Tryz.underlying114
 have hu70 := Tryz.underlying70
 have HGl := am_ hGl; clear hGl
 have HB := am_ (Below.refl w.heap.size w)
 have H : ((Z6.f k a0).bind fun t170 => ((Z6.f k a1).bind fun t173 => ((Z1.f k t170 t173).bind fun t176 => (if t176.length < 8796093022208 then ((some (t176 ++ [(⟨(t170.length : Int), (t173.length : Int)⟩ : S114)] : List (S114))).bind fun y179 => (Z3.l0 k t170 t173 ([] : List (S70)) 0 0 y179 (y179.length : Int) 0)) else (none))))) = some r := h
 clear h; replace H := Option.bind_eq_some_iff.mp H; obtain ⟨t170, A30, H⟩ := H; have A3 := am_ A30; clear A30; replace H := Option.bind_eq_some_iff.mp H; obtain ⟨t173, A40, H⟩ := H; have A4 := am_ A40; clear A40; replace H := Option.bind_eq_some_iff.mp H; obtain ⟨t176, A50, H⟩ := H; have A5 := am_ A50; clear A50
 by_cases c6 : t176.length < 8796093022208
 case neg => exact (nn_ c6 H).elim
 rw [if_pos c6] at H; have LMc6 := am_ c6; clear c6
 obtain ⟨y179, hy179⟩ : ∃ y_ : List (S114), y_ = (t176 ++ [(⟨(t170.length : Int), (t173.length : Int)⟩ : S114)]) := ⟨_, rfl⟩
 replace H : (Z3.l0 k t170 t173 ([] : List (S70)) 0 0 y179 (y179.length : Int) 0) = some r := by first | (rw [hy179]; with_reducible exact H) | (have H2_ := (Option.bind_some _ _).symm.trans H; rw [hy179]; with_reducible exact H2_) | (have H2_ := (Option.bind_some _ _).symm.trans H; with_reducible exact H2_) | with_reducible exact H | (rw [hy179]; exact H) | exact H
 have Ny179 := am_ hy179; clear hy179
 have H' := am_ H
 clear H
 go_enter Tryz.func38, Tryz.ntmps38
 go_wp2_with (first | ((with_reducible refine gate_callee (f := 77) rfl ?_); refine goesL_ (some 13) rfl rfl Tryz.func77 (by kernel_rfl) rfl #[.string a0] rfl gl_ ?_; (with_reducible refine (Z6.calls k a0 t170 _ ?side1 A3.out).mono ?_); (case side1 => exact Wd.below HGl.out (bw_ HB.out)); rintro e w7 ⟨v171, rfl, ho0, hb⟩; refine ⟨_, rfl, ?_⟩; have n0_ := am_ (Kd.R_lower ho0 (below_size (bw_ HB.out))); have n1_ := am_ (below_step (bw_ HB.out) hb); clear HB; have HO172 := n0_; have HB := n1_; clear n0_ n1_; (try clear hb); (try clear hb2); (try clear hk); (try clear hi); (try clear ho0)) | ((with_reducible refine gate_callee (f := 77) rfl ?_); refine goesL_ (some 15) rfl rfl Tryz.func77 (by kernel_rfl) rfl #[.string a1] rfl gl_ ?_; (with_reducible refine (Z6.calls k a1 t173 _ ?side1 A4.out).mono ?_); (case side1 => exact Wd.below HGl.out (bw_ HB.out)); rintro e w8 ⟨v174, rfl, ho0, hb⟩; refine ⟨_, rfl, ?_⟩; have n0_ := am_ (Kd.R_elder' (rr_ HO172.out) (Kd.R_base ho0) hb); have n1_ := am_ (Kd.R_lower (Kd.R_new' ho0 (Kd.R_lt (rr_ HO172.out))) (below_size (bw_ HB.out))); have n2_ := am_ (below_step (bw_ HB.out) hb); clear HO172; clear HB; have HO172 := n0_; have HO175 := n1_; have HB := n2_; clear n0_ n1_ n2_; (try clear hb); (try clear hb2); (try clear hk); (try clear hi); (try clear ho0); obtain ⟨Ao9, co9, eo9⟩ := Kd.R_slice HO172.out; subst eo9; obtain ⟨Ao10, co10, eo10⟩ := Kd.R_slice HO175.out; subst eo10) | ((with_reducible refine gate_callee (f := 78) rfl ?_); refine goesL_ (some 18) rfl rfl Tryz.func78 (by kernel_rfl) rfl #[.slice Ao9 t170.length co9, .slice Ao10 t173.length co10] rfl gl_ ?_; (with_reducible refine (Z1.calls k _ _ t170 _ _ t173 t176 _ ?side1 ?side2 ?side3 ?side4 A5.out).mono ?_); (case side1 => exact cc_ (Kd.R_reads' HO172.out).2.2); (case side2 => exact (Kd.R_reads' HO172.out).2.1); (case side3 => exact cc_ (Kd.R_reads' HO175.out).2.2); (case side4 => exact (Kd.R_reads' HO175.out).2.1); rintro e w11 ⟨v177, rfl, ho0, hb⟩; refine ⟨_, rfl, ?_⟩; have n0_ := am_ (Kd.R_below (rr_ HO172.out) hb); have n1_ := am_ (Kd.R_below (rr_ HO175.out) hb); have n2_ := am_ (Kd.R_lower ho0 (below_size (bw_ HB.out))); have n3_ := am_ (below_step (bw_ HB.out) hb); clear HO172; clear HO175; clear HB; have HO172 := n0_; have HO175 := n1_; have HO178 := n2_; have HB := n3_; clear n0_ n1_ n2_ n3_; (try clear hb); (try clear hb2); (try clear hk); (try clear hi); (try clear ho0)) | ((with_reducible refine gate_builtin (b := .append) (xs := #[.tmp 18, .tmp 24]) rfl ?_); at_builtin; refine Kd.R_append k114 (w0 := w) w.heap.size rfl (.tmp 18) (.tmp 24) 112 114 (.agg #[(.int .i64 0), (.int .i64 0)]) 16 rfl Tryz.underlying112 info114 rfl (by decide) (by omega) v177 t176 (⟨(t170.length : Int), (t173.length : Int)⟩ : S114) [.int .i64 (t170.length : Int), .int .i64 (t173.length : Int)] (fun _ => True) (fun _ => False) rfl rfl ?aP (fun _ hk => hk.elim) ?aF ?aO ?aB ?aS ?aL ?_; (case aP => exact k114_mkM _ _ _ (⟨(t170.length : Int), (t173.length : Int)⟩ : S114)); (case aB => exact (bw_ HB.out)); (case aF => exact (fun _ _ => trivial)); (case aO => exact (rr_ HO178.out)); (case aS => exact (below_size (bw_ HB.out))); (case aL => have := LMc6.out; omega); intro v180 w12 ho hb hg hat; rw [← Ny179.out] at ho; have n0_ := am_ (Kd.R_over' (rr_ HO172.out) (Kd.R_typed (rr_ HO178.out)) (by decide) hg); have n1_ := am_ (Kd.R_over' (rr_ HO175.out) (Kd.R_typed (rr_ HO178.out)) (by decide) hg); have n2_ := am_ (hb); have n3_ := am_ (ho); clear HO172; clear HO175; clear HB; clear HO178; have HO172 := n0_; have HO175 := n1_; have HB := n2_; have HO181 := n3_; clear n0_ n1_ n2_ n3_; clear ho hb hg hat; obtain ⟨Ao13, co13, eo13⟩ := Kd.R_slice HO181.out; subst eo13))
 go_loopg [7, 8, 9, 27] k (fun kq v7 v8 v9 v27 w' => ∃ (x7_1 : List (S70)) (x8_1 : Int) (x9_1 : Int) (x27_1 : Int), v8 = .int .i64 x8_1 ∧ v9 = .int .i64 x9_1 ∧ v27 = .int .i64 x27_1 ∧ Aside0 (Z3.l0 kq t170 t173 x7_1 x8_1 x9_1 y179 (y179.length : Int) x27_1 = some r) ∧ Aside0 (kq ≤ k) ∧ Aside0 (Kd.R Kd.string 9 w' w.heap.size (fun k_ => some k_ ≠ ((.slice Ao10 t173.length co10) : Value).ownBlock) (.slice Ao9 t170.length co9) t170) ∧ Aside0 (Kd.R Kd.string 9 w' w.heap.size (fun k_ => some k_ ≠ ((.slice Ao9 t170.length co9) : Value).ownBlock) (.slice Ao10 t173.length co10) t173) ∧ Aside0 (Kd.S k70 70 w' w.heap.size (fun k_ => some k_ ≠ ((.slice Ao9 t170.length co9) : Value).ownBlock ∧ some k_ ≠ ((.slice Ao10 t173.length co10) : Value).ownBlock) v7 x7_1) ∧ Aside0 (Kd.R k114 114 w' w.heap.size (fun _ => True) (.slice Ao13 y179.length co13) y179) ∧ Aside0 (Below w.heap.size w w'))
 case atStart => exact ⟨(([] : List (S70))), (0), (0), (0), tr_, tr_, tr_, H', ⟨Nat.le_refl _⟩, ⟨by (with_reducible repeat (first | apply r1_ | apply r2_ | apply r3_)); exact Kd.R_mono HO172.out (fun _ hk => hk.2)⟩, ⟨by (with_reducible repeat (first | apply r1_ | apply r2_ | apply r3_)); exact Kd.R_mono HO175.out (fun _ hk => hk.2)⟩, ⟨by first | exact Kd.S_nil _ _ _ _ _ | exact Kd.N_nil _ _ _ _ _ | exact Kd.V_nil _ _ _ _ _ | exact Kd.Q_nil _ _ _ _ _ | exact Kd.R_nil _ _ _ _ _⟩, ⟨rr_ HO181.out⟩, ⟨bw_ HB.out⟩⟩
 case round =>
  clear H'; (try clear p2); (try clear c3); (try clear c6); (try clear c7); obtain ⟨x7_1, x8_1, x9_1, x27_1, rfl, rfl, rfl, HA, HK1, HO_5, HO_6, HO_7, HO_25, HB⟩ := hrel
  cases gk with
  | zero => exact absurd HA.out (by simp [Z3.l0])
  | succ k1 =>
   have H := HA.out
   clear HA
   simp only [Z3.l0] at H
   by_cases c14 : x27_1 < (y179.length : Int)
   ·rw [if_pos c14] at H
    have c14b0 := decide_eq_true c14; clear c14
    by_cases c15 : 0 ≤ x27_1
    case neg => exact (nn_ c15 H).elim
    rw [if_pos c15] at H; have c15b0 := decide_eq_true c15; clear c15
    by_cases c16 : x27_1 < (y179.length : Int)
    case neg => exact (nn_ c16 H).elim
    rw [if_pos c16] at H; have c16b0 := decide_eq_true c16; clear c16; have HC17 := am_ H; clear H; have p182 : 0 ≤ (x27_1 : Int) := ode_; have q182 : x27_1 < (y179.length : Int) := ode_
    obtain ⟨ad182, e182, hx182_0, hx182_1⟩ := at_T114 (Kd.R_reads' HO_25.out).2.2 x27_1 p182 q182
    cases e182; replace p182 := eq_true p182; replace q182 := eq_true q182
    go_upto_region 7 with (first | ((with_reducible refine gate_dst (N := 11) rfl ?_); refine box_event ?hg (N := 11) ?hd (cs := #[.int .i64 0, .int .i64 0]) (t := 114) ?hr ?_; (case hd => rfl); (case hg => rfl); (case hr => first | (go_simp; done) | (go_simp; rfl)); intro gb183 hg w18 hbox hb; have n0_ := am_ (Kd.R_below (rr_ HO_5.out) hb); have n1_ := am_ (Kd.R_below (rr_ HO_6.out) hb); have n2_ := am_ (Kd.S_below (by (with_reducible repeat (first | apply q1_ | apply q2_ | apply q3_)); exact HO_7.out) hb); have n3_ := am_ (Kd.R_below (Kd.R_elderB (rr_ HO_25.out) gb183 (Nat.le_of_eq hg.symm)) hb); have n4_ := am_ (below_step (bw_ HB.out) hb); have n5_ := am_ (hbox); have n6_ := am_ ((by rw [hg]; exact (below_size (bw_ HB.out)) : w.heap.size ≤ gb183)); have n7_ := am_ ((by rw [hg]; exact (below_size (bw_ HB.out)) : w.heap.size ≤ gb183)); clear HO_5; clear HO_6; clear HO_7; clear HO_25; clear HB; have HO_5 := n0_; have HO_6 := n1_; have HO_7 := n2_; have HO_25 := n3_; have HB := n4_; have BK183 := n5_; have GW183 := n6_; have GE183 := n7_; clear n0_ n1_ n2_ n3_ n4_ n5_ n6_ n7_; clear hb hbox hg; have hcz19_0 : w18.cell? ⟨gb183, 0, none⟩ = some (.int .i64 0) := (blk_cell BK183.out 0).trans rfl; have hcz19_1 : w18.cell? ⟨gb183, 1, none⟩ = some (.int .i64 0) := (blk_cell BK183.out 1).trans rfl; have hfz19_0 := blk_frozen BK183.out 0; have hfz19_1 := blk_frozen BK183.out 1))
    (try simp only [Act.put, s_t, s_z, s_s])
    go_cut [40] (fun v40 wc => ∃ (kq : Nat) (x40_16 : Bool), v40 = .bool x40_16 ∧ Aside0 (Z3.j1 kq t170 t173 x7_1 x8_1 x9_1 y179 (y179.length : Int) x27_1 x40_16 ((rd_T114 y179 x27_1).f0) ((rd_T114 y179 x27_1).f1) = some r) ∧ Aside0 (kq ≤ k1) ∧ Aside0 (Kd.R Kd.string 9 wc w.heap.size (fun k_ => some k_ ≠ ((.slice Ao10 t173.length co10) : Value).ownBlock) (.slice Ao9 t170.length co9) t170) ∧ Aside0 (Kd.R Kd.string 9 wc w.heap.size (fun k_ => some k_ ≠ ((.slice Ao9 t170.length co9) : Value).ownBlock) (.slice Ao10 t173.length co10) t173) ∧ Aside0 (Kd.S k70 70 wc w.heap.size (fun k_ => some k_ ≠ ((.slice Ao9 t170.length co9) : Value).ownBlock ∧ some k_ ≠ ((.slice Ao10 t173.length co10) : Value).ownBlock) u7 x7_1) ∧ Aside0 (Kd.R k114 114 wc w.heap.size (fun k_ => k_ ≠ gb183) (.slice (some ad182) y179.length co13) y179) ∧ Aside0 (wc.heap[gb183]? = some (.cells #[.int .i64 ((rd_T114 y179 x27_1).f0), .int .i64 ((rd_T114 y179 x27_1).f1)] 114 (0, 0))) ∧ Aside0 (Below w.heap.size w wc))
    case first =>
     have H := HC17.out
     clear HC17
     by_cases c20 : ((rd_T114 y179 x27_1).f0) > x8_1
     ·rw [if_pos c20] at H
      have c20b0 : decide (x8_1 < ((rd_T114 y179 x27_1).f0)) = true := decide_eq_true c20
      clear c20
      (first | rw [c20b0] | (simp only [i64_w, i32_w]; rw [c20b0]) | skip)
      have H' := am_ H
      clear H
      have hcz21_0 : w18.cell? ⟨gb183, 0, none⟩ = some (.int .i64 0) := (blk_cell BK183.out 0).trans rfl
      have hcz21_1 : w18.cell? ⟨gb183, 1, none⟩ = some (.int .i64 0) := (blk_cell BK183.out 1).trans rfl
      have hfz21_0 := blk_frozen BK183.out 0
      have hfz21_1 := blk_frozen BK183.out 1
      go_wp2
      go_meet
      case rel => exact ⟨_, (true), tr_, H', ⟨by have := HK1.out; first | omega | exact Nat.le_refl _⟩, ⟨by (with_reducible repeat (first | apply r1_ | apply r2_ | apply r3_)); exact Kd.R_mono (Kd.R_far (p := ⟨gb183, 1, none⟩) (Kd.R_far (p := ⟨gb183, 0, none⟩) (Kd.R_types HO_5.out BK183.out (by decide)) (fun _ hk => hk.2) (.int .i64 ((rd_T114 y179 x27_1).f0))) (fun _ hk => hk.2) (.int .i64 ((rd_T114 y179 x27_1).f1))) (fun _ hk => hk.1)⟩, ⟨by (with_reducible repeat (first | apply r1_ | apply r2_ | apply r3_)); exact Kd.R_mono (Kd.R_far (p := ⟨gb183, 1, none⟩) (Kd.R_far (p := ⟨gb183, 0, none⟩) (Kd.R_types HO_6.out BK183.out (by decide)) (fun _ hk => hk.2) (.int .i64 ((rd_T114 y179 x27_1).f0))) (fun _ hk => hk.2) (.int .i64 ((rd_T114 y179 x27_1).f1))) (fun _ hk => hk.1)⟩, ⟨by (with_reducible repeat (first | apply q1_ | apply q2_ | apply q3_)); exact Kd.S_mono (Kd.S_far (p := ⟨gb183, 1, none⟩) (Kd.S_far (p := ⟨gb183, 0, none⟩) (Kd.S_types HO_7.out BK183.out (by decide)) (fun _ hk => hk.2) (.int .i64 ((rd_T114 y179 x27_1).f0))) (fun _ hk => hk.2) (.int .i64 ((rd_T114 y179 x27_1).f1))) (fun _ hk => ⟨hk.1.1, hk.1.2⟩)⟩, ⟨by (with_reducible repeat (first | apply r1_ | apply r2_ | apply r3_)); exact Kd.R_mono (Kd.R_far (p := ⟨gb183, 1, none⟩) (Kd.R_far (p := ⟨gb183, 0, none⟩) (Kd.R_mono HO_25.out (fun k_ hk => (⟨hk, hk.2⟩ : _ ∧ k_ ≠ gb183))) (fun _ hk => hk.2) (.int .i64 ((rd_T114 y179 x27_1).f0))) (fun _ hk => hk.2) (.int .i64 ((rd_T114 y179 x27_1).f1))) (fun _ hk => hk.1.2)⟩, ⟨by (with_reducible repeat (first | refine blk_drewN ?_ _ | refine blk_drew ?_ | refine blk_alloc ?_ _)); refine blk_put (cs := #[.int .i64 ((rd_T114 y179 x27_1).f0), .int .i64 0]) ?_ 1 _ rfl; (with_reducible repeat (first | refine blk_drewN ?_ _ | refine blk_drew ?_ | refine blk_alloc ?_ _)); refine blk_put (cs := #[.int .i64 0, .int .i64 0]) ?_ 0 _ rfl; (with_reducible repeat (first | refine blk_drewN ?_ _ | refine blk_drew ?_ | refine blk_alloc ?_ _)); exact BK183.out⟩, ⟨bs_ HB.out GE183.out⟩⟩
     ·rw [if_neg c20] at H
      have c20b0 : decide (x8_1 < ((rd_T114 y179 x27_1).f0)) = false := decide_eq_false c20
      clear c20
      (first | rw [c20b0] | (simp only [i64_w, i32_w]; rw [c20b0]) | skip)
      have H' := am_ H
      clear H
      have hcz22_0 : w18.cell? ⟨gb183, 0, none⟩ = some (.int .i64 0) := (blk_cell BK183.out 0).trans rfl
      have hcz22_1 : w18.cell? ⟨gb183, 1, none⟩ = some (.int .i64 0) := (blk_cell BK183.out 1).trans rfl
      have hfz22_0 := blk_frozen BK183.out 0
      have hfz22_1 := blk_frozen BK183.out 1
      go_wp2
      go_meet
      case rel => exact ⟨_, (decide (((rd_T114 y179 x27_1).f1) > x9_1)), tr_, H', ⟨by have := HK1.out; first | omega | exact Nat.le_refl _⟩, ⟨by (with_reducible repeat (first | apply r1_ | apply r2_ | apply r3_)); exact Kd.R_mono (Kd.R_far (p := ⟨gb183, 1, none⟩) (Kd.R_far (p := ⟨gb183, 0, none⟩) (Kd.R_types HO_5.out BK183.out (by decide)) (fun _ hk => hk.2) (.int .i64 ((rd_T114 y179 x27_1).f0))) (fun _ hk => hk.2) (.int .i64 ((rd_T114 y179 x27_1).f1))) (fun _ hk => hk.1)⟩, ⟨by (with_reducible repeat (first | apply r1_ | apply r2_ | apply r3_)); exact Kd.R_mono (Kd.R_far (p := ⟨gb183, 1, none⟩) (Kd.R_far (p := ⟨gb183, 0, none⟩) (Kd.R_types HO_6.out BK183.out (by decide)) (fun _ hk => hk.2) (.int .i64 ((rd_T114 y179 x27_1).f0))) (fun _ hk => hk.2) (.int .i64 ((rd_T114 y179 x27_1).f1))) (fun _ hk => hk.1)⟩, ⟨by (with_reducible repeat (first | apply q1_ | apply q2_ | apply q3_)); exact Kd.S_mono (Kd.S_far (p := ⟨gb183, 1, none⟩) (Kd.S_far (p := ⟨gb183, 0, none⟩) (Kd.S_types HO_7.out BK183.out (by decide)) (fun _ hk => hk.2) (.int .i64 ((rd_T114 y179 x27_1).f0))) (fun _ hk => hk.2) (.int .i64 ((rd_T114 y179 x27_1).f1))) (fun _ hk => ⟨hk.1.1, hk.1.2⟩)⟩, ⟨by (with_reducible repeat (first | apply r1_ | apply r2_ | apply r3_)); exact Kd.R_mono (Kd.R_far (p := ⟨gb183, 1, none⟩) (Kd.R_far (p := ⟨gb183, 0, none⟩) (Kd.R_mono HO_25.out (fun k_ hk => (⟨hk, hk.2⟩ : _ ∧ k_ ≠ gb183))) (fun _ hk => hk.2) (.int .i64 ((rd_T114 y179 x27_1).f0))) (fun _ hk => hk.2) (.int .i64 ((rd_T114 y179 x27_1).f1))) (fun _ hk => hk.1.2)⟩, ⟨by (with_reducible repeat (first | refine blk_drewN ?_ _ | refine blk_drew ?_ | refine blk_alloc ?_ _)); refine blk_put (cs := #[.int .i64 ((rd_T114 y179 x27_1).f0), .int .i64 0]) ?_ 1 _ rfl; (with_reducible repeat (first | refine blk_drewN ?_ _ | refine blk_drew ?_ | refine blk_alloc ?_ _)); refine blk_put (cs := #[.int .i64 0, .int .i64 0]) ?_ 0 _ rfl; (with_reducible repeat (first | refine blk_drewN ?_ _ | refine blk_drew ?_ | refine blk_alloc ?_ _)); exact BK183.out⟩, ⟨bs_ HB.out GE183.out⟩⟩
    case rest =>
     clear HC17; (try clear c1); (try clear p1); (try clear q1); (try clear hx1); (try clear c2); (try clear p2); (try clear c3); (try clear c6); (try clear c7); (try clear c14); (try clear c14b0); (try clear c15); (try clear c15b0); (try clear c16); (try clear c16b0); (try clear p18); (try clear q18); (try clear hx18); (try clear c20); (try clear c20b0); (try clear hcz19_0); (try clear hcz19_1); (try clear hcz21_0); (try clear hcz21_1); (try clear hcz22_0); (try clear hcz22_1); (try clear hfz19_0); (try clear hfz19_1); (try clear hfz21_0); (try clear hfz21_1); (try clear hfz22_0); (try clear hfz22_1); (try clear hx182_0); (try clear hx182_1); (try clear p182); (try clear p2); (try clear q182); obtain ⟨kq, x40_16, rfl, HA, HJ16, HO_5, HO_6, HO_7, HO_25, BK183, HB⟩ := hcut
     cases kq with
     | zero => exact absurd HA.out (by simp [Z3.j1])
     | succ kj16 =>
      have H := HA.out
      clear HA
      simp only [Z3.j1] at H
      by_cases c23 : x40_16 = true
      ·subst c23
       have H1 : (if 0 ≤ x8_1 then (if x8_1 ≤ ((rd_T114 y179 x27_1).f0) then (if ((rd_T114 y179 x27_1).f0) ≤ (t170.length : Int) then ((Z14.f ((t170.take (((rd_T114 y179 x27_1).f0) : Int).toNat).drop (x8_1 : Int).toNat)).bind fun t188 => (if 0 ≤ x9_1 then (if x9_1 ≤ ((rd_T114 y179 x27_1).f1) then (if ((rd_T114 y179 x27_1).f1) ≤ (t173.length : Int) then ((Z14.f ((t173.take (((rd_T114 y179 x27_1).f1) : Int).toNat).drop (x9_1 : Int).toNat)).bind fun t195 => (if x7_1.length < 2513169434916 then (Z3.l0 kj16 t170 t173 (x7_1 ++ [(⟨x8_1, t188, t195⟩ : S70)]) (wrap64 (((rd_T114 y179 x27_1).f0) + 1)) (wrap64 (((rd_T114 y179 x27_1).f1) + 1)) y179 (y179.length : Int) (wrap64 (x27_1 + 1))) else (none))) else (none)) else (none)) else (none))) else (none)) else (none)) else (none)) = some r := by rw [if_pos rfl] at H; exact H
       clear H
       have H := H1
       clear H1
       by_cases c24 : 0 ≤ x8_1
       case neg => exact (nn_ c24 H).elim
       rw [if_pos c24] at H; have c24b0 := eq_true c24; have c24b1 := decide_eq_true c24; clear c24
       by_cases c25 : x8_1 ≤ ((rd_T114 y179 x27_1).f0)
       case neg => exact (nn_ c25 H).elim
       rw [if_pos c25] at H; have c25b0 := eq_true c25; have c25b1 := decide_eq_true c25; clear c25
       by_cases c26 : ((rd_T114 y179 x27_1).f0) ≤ (t170.length : Int)
       case neg => exact (nn_ c26 H).elim
       rw [if_pos c26] at H; have c26b0 := eq_true c26; have c26b1 := decide_eq_true c26; clear c26
       obtain ⟨y184, hy184⟩ : ∃ y_ : List ByteArray, y_ = ((t170.take (((rd_T114 y179 x27_1).f0) : Int).toNat).drop (x8_1 : Int).toNat) := ⟨_, rfl⟩
       replace H : ((Z14.f y184).bind fun t188 => (if 0 ≤ x9_1 then (if x9_1 ≤ ((rd_T114 y179 x27_1).f1) then (if ((rd_T114 y179 x27_1).f1) ≤ (t173.length : Int) then ((Z14.f ((t173.take (((rd_T114 y179 x27_1).f1) : Int).toNat).drop (x9_1 : Int).toNat)).bind fun t195 => (if x7_1.length < 2513169434916 then (Z3.l0 kj16 t170 t173 (x7_1 ++ [(⟨x8_1, t188, t195⟩ : S70)]) (wrap64 (((rd_T114 y179 x27_1).f0) + 1)) (wrap64 (((rd_T114 y179 x27_1).f1) + 1)) y179 (y179.length : Int) (wrap64 (x27_1 + 1))) else (none))) else (none)) else (none)) else (none))) = some r := by first | (rw [hy184]; with_reducible exact H) | (have H2_ := (Option.bind_some _ _).symm.trans H; rw [hy184]; with_reducible exact H2_) | (have H2_ := (Option.bind_some _ _).symm.trans H; with_reducible exact H2_) | with_reducible exact H | (rw [hy184]; exact H) | exact H
       have Ny184 := am_ hy184; clear hy184; replace H := Option.bind_eq_some_iff.mp H; obtain ⟨t188, A270, H⟩ := H; have A27 := am_ A270; clear A270
       by_cases c28 : 0 ≤ x9_1
       case neg => exact (nn_ c28 H).elim
       rw [if_pos c28] at H; have c28b0 := eq_true c28; have c28b1 := decide_eq_true c28; clear c28
       by_cases c29 : x9_1 ≤ ((rd_T114 y179 x27_1).f1)
       case neg => exact (nn_ c29 H).elim
       rw [if_pos c29] at H; have c29b0 := eq_true c29; have c29b1 := decide_eq_true c29; clear c29
       by_cases c30 : ((rd_T114 y179 x27_1).f1) ≤ (t173.length : Int)
       case neg => exact (nn_ c30 H).elim
       rw [if_pos c30] at H; have c30b0 := eq_true c30; have c30b1 := decide_eq_true c30; clear c30
       obtain ⟨y191, hy191⟩ : ∃ y_ : List ByteArray, y_ = ((t173.take (((rd_T114 y179 x27_1).f1) : Int).toNat).drop (x9_1 : Int).toNat) := ⟨_, rfl⟩
       replace H : ((Z14.f y191).bind fun t195 => (if x7_1.length < 2513169434916 then (Z3.l0 kj16 t170 t173 (x7_1 ++ [(⟨x8_1, t188, t195⟩ : S70)]) (wrap64 (((rd_T114 y179 x27_1).f0) + 1)) (wrap64 (((rd_T114 y179 x27_1).f1) + 1)) y179 (y179.length : Int) (wrap64 (x27_1 + 1))) else (none))) = some r := by first | (rw [hy191]; with_reducible exact H) | (have H2_ := (Option.bind_some _ _).symm.trans H; rw [hy191]; with_reducible exact H2_) | (have H2_ := (Option.bind_some _ _).symm.trans H; with_reducible exact H2_) | with_reducible exact H | (rw [hy191]; exact H) | exact H
       have Ny191 := am_ hy191; clear hy191; replace H := Option.bind_eq_some_iff.mp H; obtain ⟨t195, A310, H⟩ := H; have A31 := am_ A310; clear A310
       by_cases c32 : x7_1.length < 2513169434916
       case neg => exact (nn_ c32 H).elim
       rw [if_pos c32] at H; have LMc32 := am_ c32; clear c32
       obtain ⟨y198, hy198⟩ : ∃ y_ : List (S70), y_ = (x7_1 ++ [(⟨x8_1, t188, t195⟩ : S70)]) := ⟨_, rfl⟩
       replace H : (Z3.l0 kj16 t170 t173 y198 (wrap64 (((rd_T114 y179 x27_1).f0) + 1)) (wrap64 (((rd_T114 y179 x27_1).f1) + 1)) y179 (y179.length : Int) (wrap64 (x27_1 + 1))) = some r := by first | (rw [hy198]; with_reducible exact H) | (have H2_ := (Option.bind_some _ _).symm.trans H; rw [hy198]; with_reducible exact H2_) | (have H2_ := (Option.bind_some _ _).symm.trans H; with_reducible exact H2_) | with_reducible exact H | (rw [hy198]; exact H) | exact H
       have Ny198 := am_ hy198; clear hy198
       have H' := am_ H
       clear H
       try go_wp2
       have n0_ := am_ (r3_ HO_5.out)
       have n1_ := am_ (r3_ HO_6.out)
       have n2_ := am_ (q3_ HO_7.out)
       have n3_ := am_ (r3_ HO_25.out)
       have n4_ := am_ (blk_drew BK183.out)
       have n5_ := am_ (b2_ HB.out)
       clear HO_5; clear HO_6; clear HO_7; clear HO_25; clear BK183; clear HB; have HO_5 := n0_; have HO_6 := n1_; have HO_7 := n2_; have HO_25 := n3_; have BK183 := n4_; have HB := n5_; clear n0_ n1_ n2_ n3_ n4_ n5_; have q34 : (((rd_T114 y179 x27_1).f0) : Int) ≤ ((t170.length : Int) : Int) := ode_
       obtain ⟨i034, hi034, _, hsz34, _⟩ := info_parts info9
       have hroom34 : t170.length ≤ co9 := (Kd.R_reads' HO_5.out).2.1
       have hC34 : Kd.C Kd.string _ Ao9 t170.length t170 := (Kd.R_reads' HO_5.out).2.2
       have ql34 : (x8_1 : Int) ≤ (((rd_T114 y179 x27_1).f0) : Int) := ode_; have q034 : (0 : Int) ≤ (x8_1 : Int) := ode_
       have hcut34 := cut_mid (P := Tryz.prog) 27 9 .i64 .i64 Tryz.underlying27 hi034 1 hsz34 Ao9 t170.length co9 x8_1 ((rd_T114 y179 x27_1).f0) q034 ql34 q34 hroom34
       have hr34 := Kd.C_mid (lo := (x8_1 : Int).toNat) (hi := (((rd_T114 y179 x27_1).f0) : Int).toNat) (c := co9) hC34 (by omega) (by omega) hroom34
       obtain ⟨A34, hA34⟩ : ∃ A1, A1 = (if co9 = (x8_1 : Int).toNat then Ao9 else (Ao9 : Option Addr).map (·.add ((x8_1 : Int).toNat * 1))) := ⟨_, rfl⟩
       obtain ⟨c34, hc34⟩ : ∃ c1, c1 = co9 - (x8_1 : Int).toNat := ⟨_, rfl⟩
       have hy34 : y184.length = (((rd_T114 y179 x27_1).f0) : Int).toNat - (x8_1 : Int).toNat := (by rw [Ny184.out, List.length_drop, List.length_take] <;> omega)
       rw [show ((t170).take (((rd_T114 y179 x27_1).f0) : Int).toNat).drop (x8_1 : Int).toNat = y184 from Ny184.out.symm] at hr34
       replace hr34 : Kd.C Kd.string _ A34 y184.length y184 := (by rw [hA34]; exact hr34)
       rw [← hy34, ← hA34, ← hc34] at hcut34
       have HR187 := am_ hr34
       have HC187 := am_ (show y184.length ≤ c34 from by rw [hy34, hc34]; exact Nat.sub_le_sub_right (Nat.le_trans (by omega) hroom34) _)
       clear hr34 hC34 hroom34 hi034 hsz34 hc34; have KY34 := am_ hy34; have KA34 := am_ hA34; clear hy34 hA34
       have KL34 := am_ (show (((rd_T114 y179 x27_1).f0) : Int).toNat ≤ t170.length from by omega)
       have KM34 := am_ (show (x8_1 : Int).toNat ≤ (((rd_T114 y179 x27_1).f0) : Int).toNat from by omega)
       replace q34 := eq_true q34; have q35 : (((rd_T114 y179 x27_1).f1) : Int) ≤ ((t173.length : Int) : Int) := ode_
       obtain ⟨i035, hi035, _, hsz35, _⟩ := info_parts info9
       have hroom35 : t173.length ≤ co10 := (Kd.R_reads' HO_6.out).2.1
       have hC35 : Kd.C Kd.string _ Ao10 t173.length t173 := (Kd.R_reads' HO_6.out).2.2
       have ql35 : (x9_1 : Int) ≤ (((rd_T114 y179 x27_1).f1) : Int) := ode_; have q035 : (0 : Int) ≤ (x9_1 : Int) := ode_
       have hcut35 := cut_mid (P := Tryz.prog) 27 9 .i64 .i64 Tryz.underlying27 hi035 1 hsz35 Ao10 t173.length co10 x9_1 ((rd_T114 y179 x27_1).f1) q035 ql35 q35 hroom35
       have hr35 := Kd.C_mid (lo := (x9_1 : Int).toNat) (hi := (((rd_T114 y179 x27_1).f1) : Int).toNat) (c := co10) hC35 (by omega) (by omega) hroom35
       obtain ⟨A35, hA35⟩ : ∃ A1, A1 = (if co10 = (x9_1 : Int).toNat then Ao10 else (Ao10 : Option Addr).map (·.add ((x9_1 : Int).toNat * 1))) := ⟨_, rfl⟩
       obtain ⟨c35, hc35⟩ : ∃ c1, c1 = co10 - (x9_1 : Int).toNat := ⟨_, rfl⟩
       have hy35 : y191.length = (((rd_T114 y179 x27_1).f1) : Int).toNat - (x9_1 : Int).toNat := (by rw [Ny191.out, List.length_drop, List.length_take] <;> omega)
       rw [show ((t173).take (((rd_T114 y179 x27_1).f1) : Int).toNat).drop (x9_1 : Int).toNat = y191 from Ny191.out.symm] at hr35
       replace hr35 : Kd.C Kd.string _ A35 y191.length y191 := (by rw [hA35]; exact hr35)
       rw [← hy35, ← hA35, ← hc35] at hcut35
       have HR194 := am_ hr35
       have HC194 := am_ (show y191.length ≤ c35 from by rw [hy35, hc35]; exact Nat.sub_le_sub_right (Nat.le_trans (by omega) hroom35) _)
       clear hr35 hC35 hroom35 hi035 hsz35 hc35; have KY35 := am_ hy35; have KA35 := am_ hA35; clear hy35 hA35
       have KL35 := am_ (show (((rd_T114 y179 x27_1).f1) : Int).toNat ≤ t173.length from by omega)
       have KM35 := am_ (show (x9_1 : Int).toNat ≤ (((rd_T114 y179 x27_1).f1) : Int).toNat from by omega)
       replace q35 := eq_true q35
       refine start_ (n := 18) (S := fun w' => w'.cell? ⟨gb183, 0, none⟩ = some (.int .i64 ((rd_T114 y179 x27_1).f0)) ∧ w'.cell? ⟨gb183, 1, none⟩ = some (.int .i64 ((rd_T114 y179 x27_1).f1))) (ds := []) Z3.D0 (by kernel_rfl) rfl rfl ⟨(blk_cell BK183.out 0).trans rfl, (blk_cell BK183.out 1).trans rfl⟩ (fun hHeld => ?_); refine with_tabW Z3.tab8 Z3.bits8 (fun HT_ HW_ => ?_)
       generalize wc.drew = w33 at HO_5 HO_6 HO_7 HO_25 BK183 HB HR187 HR194 hHeld ⊢
       refine px_ 0 41 ?_ ?_ Z3.D2 HT_.out ?_ ?_ ?_; rotate_left 2; intro w'; go_simp; with_reducible rfl; simp only [Act.put, s_t, s_z, s_s, i64_w, i32_w]; rfl
       refine px_ 1 42 ?_ ?_ Z3.D5 HT_.out ?_ ?_ ?_; rotate_left 2; intro w'; go_simp; with_reducible rfl; simp only [Act.put, s_t, s_z, s_s, i64_w, i32_w]; rfl
       refine px_ 2 43 ?_ ?_ Z3.D7 HT_.out ?_ ?_ ?_; rotate_left 2; intro w'; go_simp; with_reducible rfl; simp only [Act.put, s_t, s_z, s_s, i64_w, i32_w]; rfl
       refine px_ 3 44 ?_ ?_ Z3.D8 HT_.out ?_ ?_ ?_; rotate_left 2; intro w'; go_simp; with_reducible rfl; simp only [Act.put, s_t, s_z, s_s, i64_w, i32_w]; rfl
       refine px_ 4 45 ?_ ?_ Z3.D11 HT_.out ?_ ?_ ?_; rotate_left 2; intro w'; go_simp; with_reducible rfl; simp only [Act.put, s_t, s_z, s_s, i64_w, i32_w]; rfl
       refine px_ 8 49 ?_ ?_ Z3.D12 HT_.out ?_ ?_ ?_; rotate_left 2; intro w'; go_simp; with_reducible rfl; simp only [Act.put, s_t, s_z, s_s, i64_w, i32_w]; rfl
       refine px_ 9 50 ?_ ?_ Z3.D13 HT_.out ?_ ?_ ?_; rotate_left 2; intro w'; go_simp; with_reducible rfl; simp only [Act.put, s_t, s_z, s_s, i64_w, i32_w]; rfl
       refine px_ 10 51 ?_ ?_ Z3.D14 HT_.out ?_ ?_ ?_; rotate_left 2; intro w'; go_simp; with_reducible rfl; simp only [Act.put, s_t, s_z, s_s, i64_w, i32_w]; rfl
       refine take_ (i := 5) (N := some 46) (v := ?_) (a' := ?_) Z3.D16 rfl rfl (take_ofW HT_.out HW_.out (by kernel_rfl)) (fun _ _ _ h => h) (Or.inl ⟨by rfl, ?_⟩) hHeld ?_ ?_
       rotate_left
       ·rintro w' ⟨s0, s1⟩
        go_simp
        with_reducible rfl
       rotate_left
       ·simp only [Act.put, s_t, s_z, s_s, i64_w, i32_w]
        rfl
       refine px_ 6 47 ?_ ?_ Z3.D17 HT_.out ?_ ?_ ?_; rotate_left 2; intro w'; go_simp; with_reducible rfl; simp only [Act.put, s_t, s_z, s_s, i64_w, i32_w]; rfl
       refine take_ (i := 11) (N := some 52) (v := ?_) (a' := ?_) Z3.D18 rfl rfl (take_ofW HT_.out HW_.out (by kernel_rfl)) (fun _ _ _ h => h) (Or.inl ⟨by rfl, ?_⟩) hHeld ?_ ?_
       rotate_left
       ·rintro w' ⟨s0, s1⟩
        go_simp
        with_reducible rfl
       rotate_left
       ·simp only [Act.put, s_t, s_z, s_s, i64_w, i32_w]
        rfl
       refine px_ 12 53 ?_ ?_ Z3.D19 HT_.out ?_ ?_ ?_; rotate_left 2; intro w'; go_simp; with_reducible rfl; simp only [Act.put, s_t, s_z, s_s, i64_w, i32_w]; rfl
       refine one_ (i := 7) (N := some 48) Z3.D21 rfl rfl (one_of HT_.out (by kernel_rfl)) (by decide) (fun K hK => ?_)
       refine goes_ Tryz.func29 (by kernel_rfl) rfl #[.slice A34 y184.length c34] (by rfl) rfl rfl gl_ ?_
       with_reducible refine (Z14.calls _ _ y184 t188 _ ?side1 ?side2 A27.out).mono ?_
       (case side1 => repeat (first | exact (by repeat (first | (with_reducible first | exact HR187.out | refine Kd.C_alloc ?_ _ | refine Kd.C_drewN ?_ _ | refine Kd.C_drew ?_) | exact HR187.out)) | (with_reducible refine Kd.C_alloc ?_ _) | (with_reducible refine Kd.C_drewN ?_ _) | (with_reducible refine Kd.C_drew ?_)))
       (case side2 => exact HC187.out)
       rintro e w36 ⟨v189, rfl, ho0, hb⟩
       refine ⟨_, rfl, ?_⟩
       have n0_ := am_ (Kd.R_elder' (rr_ HO_5.out) (Kd.R_base ho0) hb)
       have n1_ := am_ (Kd.R_elder' (rr_ HO_6.out) (Kd.R_base ho0) hb)
       have n2_ := am_ (Kd.S_elder' (by (with_reducible repeat (first | apply q1_ | apply q2_ | apply q3_)); exact HO_7.out) (Kd.R_base ho0) hb)
       have n3_ := am_ (Kd.R_below (rr_ HO_25.out) hb)
       have n4_ := am_ (Kd.R_lower (Kd.R_new' (Kd.R_new' ho0 (Kd.R_lt (rr_ HO_5.out))) (Kd.R_lt (rr_ HO_6.out))) (below_size (bs_ HB.out GE183.out)))
       have n5_ := am_ (blk_below (g := gb183) (o := .cells #[.int .i64 ((rd_T114 y179 x27_1).f0), .int .i64 ((rd_T114 y179 x27_1).f1)] 114 (0, 0)) (bk_ BK183.out) hb)
       have n6_ := am_ (Kd.C_below (by repeat (first | (with_reducible first | exact HR187.out | refine Kd.C_alloc ?_ _ | refine Kd.C_drewN ?_ _ | refine Kd.C_drew ?_) | exact HR187.out)) hb)
       have n7_ := am_ (Kd.C_below (by repeat (first | (with_reducible first | exact HR194.out | refine Kd.C_alloc ?_ _ | refine Kd.C_drewN ?_ _ | refine Kd.C_drew ?_) | exact HR194.out)) hb)
       have n8_ := am_ (below_step (bs_ HB.out GE183.out) hb)
       clear HO_5; clear HO_6; clear HO_7; clear HO_25; clear BK183; clear HR187; clear HR194; clear HB; have HO_5 := n0_; have HO_6 := n1_; have HO_7 := n2_; have HO_25 := n3_; have HO190 := n4_; have BK183 := n5_; have HR187 := n6_; have HR194 := n7_; have HB := n8_; clear n0_ n1_ n2_ n3_ n4_ n5_ n6_ n7_ n8_
       (try clear hb)
       (try clear hb2)
       (try clear hk)
       (try clear hi)
       (try clear ho0)
       refine hK.out _ _ ⟨(blk_cell BK183.out 0).trans rfl, (blk_cell BK183.out 1).trans rfl⟩ (fun hHeld => ?_)
       clear hK K
       refine norm_ (a' := ?_) ?_ ?_
       rotate_left
       ·show Act.put _ (some 48) _ = _
        simp only [Act.put, s_t, s_z, s_s, i64_w, i32_w]
        rfl
       refine one_ (i := 13) (N := some 54) Z3.D22 rfl rfl (one_of HT_.out (by kernel_rfl)) (by decide) (fun K hK => ?_)
       refine goes_ Tryz.func29 (by kernel_rfl) rfl #[.slice A35 y191.length c35] (by rfl) rfl rfl gl_ ?_
       with_reducible refine (Z14.calls _ _ y191 t195 _ ?side1 ?side2 A31.out).mono ?_
       (case side1 => repeat (first | exact (by repeat (first | (with_reducible first | exact HR194.out | refine Kd.C_alloc ?_ _ | refine Kd.C_drewN ?_ _ | refine Kd.C_drew ?_) | exact HR194.out)) | (with_reducible refine Kd.C_alloc ?_ _) | (with_reducible refine Kd.C_drewN ?_ _) | (with_reducible refine Kd.C_drew ?_)))
       (case side2 => exact HC194.out)
       rintro e w37 ⟨v196, rfl, ho0, hb⟩
       refine ⟨_, rfl, ?_⟩
       have n0_ := am_ (Kd.R_elder' (rr_ HO_5.out) (Kd.R_base ho0) hb)
       have n1_ := am_ (Kd.R_elder' (rr_ HO_6.out) (Kd.R_base ho0) hb)
       have n2_ := am_ (Kd.S_elder' (by (with_reducible repeat (first | apply q1_ | apply q2_ | apply q3_)); exact HO_7.out) (Kd.R_base ho0) hb)
       have n3_ := am_ (Kd.R_below (rr_ HO_25.out) hb)
       have n4_ := am_ (Kd.R_elder' (rr_ HO190.out) (Kd.R_base ho0) hb)
       have n5_ := am_ (Kd.R_lower (Kd.R_new' (Kd.R_new' (Kd.R_new' ho0 (Kd.R_lt (rr_ HO_5.out))) (Kd.R_lt (rr_ HO_6.out))) (Kd.R_lt (rr_ HO190.out))) (below_size (bs_ HB.out GE183.out)))
       have n6_ := am_ (blk_below (g := gb183) (o := .cells #[.int .i64 ((rd_T114 y179 x27_1).f0), .int .i64 ((rd_T114 y179 x27_1).f1)] 114 (0, 0)) (bk_ BK183.out) hb)
       have n7_ := am_ (Kd.C_below (by repeat (first | (with_reducible first | exact HR187.out | refine Kd.C_alloc ?_ _ | refine Kd.C_drewN ?_ _ | refine Kd.C_drew ?_) | exact HR187.out)) hb)
       have n8_ := am_ (Kd.C_below (by repeat (first | (with_reducible first | exact HR194.out | refine Kd.C_alloc ?_ _ | refine Kd.C_drewN ?_ _ | refine Kd.C_drew ?_) | exact HR194.out)) hb)
       have n9_ := am_ (below_step (bs_ HB.out GE183.out) hb)
       clear HO_5; clear HO_6; clear HO_7; clear HO_25; clear HO190; clear BK183; clear HR187; clear HR194; clear HB; have HO_5 := n0_; have HO_6 := n1_; have HO_7 := n2_; have HO_25 := n3_; have HO190 := n4_; have HO197 := n5_; have BK183 := n6_; have HR187 := n7_; have HR194 := n8_; have HB := n9_; clear n0_ n1_ n2_ n3_ n4_ n5_ n6_ n7_ n8_ n9_
       (try clear hb)
       (try clear hb2)
       (try clear hk)
       (try clear hi)
       (try clear ho0)
       obtain ⟨Ao38, co38, eo38⟩ := Kd.R_slice HO197.out
       (first | subst eo38 | (injection eo38 with f1_ f2_ f3_; have f4_ := f1_.symm; have f5_ := f3_.symm; clear f1_ f2_ f3_; subst f4_; subst f5_))
       obtain ⟨Ao39, co39, eo39⟩ := Kd.R_slice HO190.out
       (first | subst eo39 | (injection eo39 with f1_ f2_ f3_; have f4_ := f1_.symm; have f5_ := f3_.symm; clear f1_ f2_ f3_; subst f4_; subst f5_))
       refine hK.out _ _ ⟨(blk_cell BK183.out 0).trans rfl, (blk_cell BK183.out 1).trans rfl⟩ (fun hHeld => ?_)
       clear hK K
       refine norm_ (a' := ?_) ?_ ?_
       rotate_left
       ·show Act.put _ (some 54) _ = _
        simp only [Act.put, s_t, s_z, s_s, i64_w, i32_w]
        rfl
       refine px_ 14 55 ?_ ?_ Z3.D23 HT_.out ?_ ?_ ?_; rotate_left 2; intro w'; go_simp; with_reducible rfl; simp only [Act.put, s_t, s_z, s_s, i64_w, i32_w]; rfl
       refine one_ (i := 15) (N := some 56) Z3.D24 rfl rfl (one_of HT_.out (by kernel_rfl)) (by decide) (fun K hK => ?_)
       refine value_ (w1 := ?_) (v := ?_) (by rfl) rfl ?_ ?_
       rotate_left 2
       ·go_simp
        constructor
        ·rfl
        ·rfl
       refine hK.out _ _ ⟨(blk_cell (blk_alloc BK183.out _) 0).trans rfl, (blk_cell (blk_alloc BK183.out _) 1).trans rfl⟩ (fun hHeld => ?_)
       clear hK K
       refine norm_ (a' := ?_) ?_ ?_
       rotate_left
       ·show Act.put _ (some 56) _ = _
        simp only [Act.put, s_t, s_z, s_s, i64_w, i32_w]
        rfl
       refine one_ (i := 16) (N := some 57) Z3.D25 rfl rfl (one_of HT_.out (by kernel_rfl)) (by decide) (fun K hK => ?_)
       refine Kd.S_append_step k70 (w0 := w) w.heap.size (by rfl) (.tmp 41) (.tmp 56) 42 70 (.agg #[(.int .i64 0), (.slice none 0 0), (.slice none 0 0)]) 56 rfl Tryz.underlying42 info70 rfl (by decide) (by omega) u7 x7_1 (⟨x8_1, t188, t195⟩ : S70) [.int .i64 x8_1, .slice Ao39 t188.length co39, .slice Ao38 t195.length co38] (fun k_ => some k_ ≠ (.slice Ao9 t170.length co9 : Value).ownBlock ∧ some k_ ≠ (.slice Ao10 t173.length co10 : Value).ownBlock) (fun k_ => some k_ = (.slice Ao39 t188.length co39 : Value).ownBlock ∨ some k_ = (.slice Ao38 t195.length co38 : Value).ownBlock) rfl rfl ?aP (fun k_ hk_ => hk_.elim (fun h_ => ((Kd.R_mono (ok' := fun k_ => ((fun k_ => some k_ ≠ (.slice Ao9 t170.length co9 : Value).ownBlock ∧ some k_ ≠ (.slice Ao10 t173.length co10 : Value).ownBlock)) k_ ∧ some k_ ≠ (u7 : Value).ownBlock) (Kd.R_apart' (HO190.out) (Kd.S_typed HO_7.out) (by decide)) (fun k_ hk => ⟨⟨hk.1.1.1.2, hk.1.1.2⟩, hk.2⟩))).1 k_ h_.symm) (fun h_ => ((Kd.R_mono (ok' := fun k_ => ((fun k_ => some k_ ≠ (.slice Ao9 t170.length co9 : Value).ownBlock ∧ some k_ ≠ (.slice Ao10 t173.length co10 : Value).ownBlock)) k_ ∧ some k_ ≠ (u7 : Value).ownBlock) (Kd.R_apart' (HO197.out) (Kd.S_typed HO_7.out) (by decide)) (fun k_ hk => ⟨⟨hk.1.1.1.2, hk.1.1.2⟩, hk.2⟩))).1 k_ h_.symm)) ?aF ?aO ?aB ?aS ?aL ?_
       (case aP => exact k70_mkM _ _ _ (⟨x8_1, t188, t195⟩ : S70) (Kd.R_mono (Kd.R_tight rfl (Kd.R_mono (ok' := fun k_ => ((fun k_ => some k_ ≠ (.slice Ao9 t170.length co9 : Value).ownBlock ∧ some k_ ≠ (.slice Ao10 t173.length co10 : Value).ownBlock)) k_ ∧ some k_ ≠ (u7 : Value).ownBlock) (Kd.R_apart' (HO190.out) (Kd.S_typed HO_7.out) (by decide)) (fun k_ hk => ⟨⟨hk.1.1.1.2, hk.1.1.2⟩, hk.2⟩))) (fun _ h_ => Or.inl h_)) (Kd.R_mono (Kd.R_tight rfl (Kd.R_mono (ok' := fun k_ => ((fun k_ => some k_ ≠ (.slice Ao9 t170.length co9 : Value).ownBlock ∧ some k_ ≠ (.slice Ao10 t173.length co10 : Value).ownBlock)) k_ ∧ some k_ ≠ (u7 : Value).ownBlock) (Kd.R_apart' (HO197.out) (Kd.S_typed HO_7.out) (by decide)) (fun k_ hk => ⟨⟨hk.1.1.1.2, hk.1.1.2⟩, hk.2⟩))) (fun _ h_ => Or.inr (h_))))
       (case aB => exact (bs_ HB.out GE183.out))
       (case aF => exact (fun k_ hk => ⟨Kd.fresh' (Kd.R_lt (rr_ HO_5.out)) k_ hk, Kd.fresh' (Kd.R_lt (rr_ HO_6.out)) k_ hk⟩))
       (case aO => exact (by (with_reducible repeat (first | apply q1_ | apply q2_ | apply q3_)); exact Kd.S_mono HO_7.out (fun k_ hk => ⟨⟨hk.1.1.1, hk.1.1.2⟩, fun e_ => e_.elim (fun h_ => hk.1.2 h_) (fun h_ => hk.2 h_)⟩)))
       (case aS => exact (below_size (bs_ HB.out GE183.out)))
       (case aL => have := LMc32.out; omega)
       intro v199 w40 ho hb hg hat
       rw [← Ny198.out] at ho
       have n0_ := am_ (Kd.R_over' (rr_ HO_5.out) (Kd.S_typed (by (with_reducible repeat (first | apply q1_ | apply q2_ | apply q3_)); exact HO_7.out)) (by decide) hg)
       have n1_ := am_ (Kd.R_over' (rr_ HO_6.out) (Kd.S_typed (by (with_reducible repeat (first | apply q1_ | apply q2_ | apply q3_)); exact HO_7.out)) (by decide) hg)
       have n2_ := am_ (Kd.R_over' (rr_ HO_25.out) (Kd.S_typed (by (with_reducible repeat (first | apply q1_ | apply q2_ | apply q3_)); exact HO_7.out)) (by decide) hg)
       have n3_ := am_ (blk_grown (g := gb183) (o := .cells #[.int .i64 ((rd_T114 y179 x27_1).f0), .int .i64 ((rd_T114 y179 x27_1).f1)] 114 (0, 0)) (bk_ BK183.out) hg (Kd.S_ne HO_7.out BK183.out (by decide)))
       have n4_ := am_ (hb)
       have n5_ := am_ ((show Kd.C Kd.string w40 A34 y184.length y184 from by rw [Ny184.out, KA34.out]; exact Kd.C_mid (lo := (x8_1 : Int).toNat) (hi := (((rd_T114 y179 x27_1).f0) : Int).toNat) (c := co9) ((Kd.R_reads' (Kd.R_over' (rr_ HO_5.out) (Kd.S_typed (by (with_reducible repeat (first | apply q1_ | apply q2_ | apply q3_)); exact HO_7.out)) (by decide) hg)).2.2) KM34.out KL34.out ((Kd.R_reads' (Kd.R_over' (rr_ HO_5.out) (Kd.S_typed (by (with_reducible repeat (first | apply q1_ | apply q2_ | apply q3_)); exact HO_7.out)) (by decide) hg)).2.1)))
       have n6_ := am_ ((show Kd.C Kd.string w40 A35 y191.length y191 from by rw [Ny191.out, KA35.out]; exact Kd.C_mid (lo := (x9_1 : Int).toNat) (hi := (((rd_T114 y179 x27_1).f1) : Int).toNat) (c := co10) ((Kd.R_reads' (Kd.R_over' (rr_ HO_6.out) (Kd.S_typed (by (with_reducible repeat (first | apply q1_ | apply q2_ | apply q3_)); exact HO_7.out)) (by decide) hg)).2.2) KM35.out KL35.out ((Kd.R_reads' (Kd.R_over' (rr_ HO_6.out) (Kd.S_typed (by (with_reducible repeat (first | apply q1_ | apply q2_ | apply q3_)); exact HO_7.out)) (by decide) hg)).2.1)))
       have n7_ := am_ (ho)
       clear HO_5; clear HO_6; clear HO_25; clear BK183; clear HB; clear HR187; clear HR194; clear HO_7; clear HO190; clear HO197; have HO_5 := n0_; have HO_6 := n1_; have HO_25 := n2_; have BK183 := n3_; have HB := n4_; have HR187 := n5_; have HR194 := n6_; have HO200 := n7_; clear n0_ n1_ n2_ n3_ n4_ n5_ n6_ n7_; clear ho hb hg hat
       refine hK.out _ _ ⟨(blk_cell BK183.out 0).trans rfl, (blk_cell BK183.out 1).trans rfl⟩ (fun hHeld => ?_)
       clear hK K
       refine norm_ (a' := ?_) ?_ ?_
       rotate_left
       ·show Act.put _ (some 57) _ = _
        simp only [Act.put, s_t, s_z, s_s, i64_w, i32_w]
        rfl
       refine px_ 17 7 ?_ ?_ Z3.D26 HT_.out ?_ ?_ ?_; rotate_left 2; intro w'; go_simp; with_reducible rfl; simp only [Act.put, s_t, s_z, s_s, i64_w, i32_w]; rfl
       refine done_ (done_of HT_.out (by kernel_rfl)) ?_
       try go_wp2
       have n0_ := am_ (r3_ HO_5.out)
       have n1_ := am_ (r3_ HO_6.out)
       have n2_ := am_ (r3_ HO_25.out)
       have n3_ := am_ (q3_ HO200.out)
       have n4_ := am_ (blk_drew BK183.out)
       have n5_ := am_ (Kd.C_drew HR187.out)
       have n6_ := am_ (Kd.C_drew HR194.out)
       have n7_ := am_ (b2_ HB.out)
       clear HO_5; clear HO_6; clear HO_25; clear HO200; clear BK183; clear HR187; clear HR194; clear HB; have HO_5 := n0_; have HO_6 := n1_; have HO_25 := n2_; have HO200 := n3_; have BK183 := n4_; have HR187 := n5_; have HR194 := n6_; have HB := n7_; clear n0_ n1_ n2_ n3_ n4_ n5_ n6_ n7_
       refine start_ (n := 8) (S := fun w' => w'.cell? ⟨gb183, 0, none⟩ = some (.int .i64 ((rd_T114 y179 x27_1).f0)) ∧ w'.cell? ⟨gb183, 1, none⟩ = some (.int .i64 ((rd_T114 y179 x27_1).f1))) (ds := []) Z3.D1 (by kernel_rfl) rfl rfl ⟨(blk_cell BK183.out 0).trans rfl, (blk_cell BK183.out 1).trans rfl⟩ (fun hHeld => ?_); refine with_tabW Z3.tab9 Z3.bits9 (fun HT_ HW_ => ?_)
       generalize w40.drew = w41 at HO_5 HO_6 HO_25 HO200 BK183 HR187 HR194 HB hHeld ⊢
       refine px_ 0 58 ?_ ?_ Z3.D3 HT_.out ?_ ?_ ?_; rotate_left 2; intro w'; go_simp; with_reducible rfl; simp only [Act.put, s_t, s_z, s_s, i64_w, i32_w]; rfl
       refine px_ 3 61 ?_ ?_ Z3.D4 HT_.out ?_ ?_ ?_; rotate_left 2; intro w'; go_simp; with_reducible rfl; simp only [Act.put, s_t, s_z, s_s, i64_w, i32_w]; rfl
       refine take_ (i := 1) (N := some 59) (v := ?_) (a' := ?_) Z3.D6 rfl rfl (take_ofW HT_.out HW_.out (by kernel_rfl)) (fun _ _ _ h => h) (Or.inl ⟨by rfl, ?_⟩) hHeld ?_ ?_
       rotate_left
       ·rintro w' ⟨s0, s1⟩
        go_simp
        with_reducible rfl
       rotate_left
       ·simp only [Act.put, s_t, s_z, s_s, i64_w, i32_w]
        rfl
       refine px_ 2 60 ?_ ?_ Z3.D9 HT_.out ?_ ?_ ?_; rotate_left 2; intro w'; go_simp; with_reducible rfl; simp only [Act.put, s_t, s_z, s_s, i64_w, i32_w]; rfl
       refine px_ 6 8 ?_ ?_ Z3.D10 HT_.out ?_ ?_ ?_; rotate_left 2; intro w'; go_simp; with_reducible rfl; simp only [Act.put, s_t, s_z, s_s, i64_w, i32_w]; rfl
       refine take_ (i := 4) (N := some 62) (v := ?_) (a' := ?_) Z3.D15 rfl rfl (take_ofW HT_.out HW_.out (by kernel_rfl)) (fun _ _ _ h => h) (Or.inl ⟨by rfl, ?_⟩) hHeld ?_ ?_
       rotate_left
       ·rintro w' ⟨s0, s1⟩
        go_simp
        with_reducible rfl
       rotate_left
       ·simp only [Act.put, s_t, s_z, s_s, i64_w, i32_w]
        rfl
       refine px_ 5 63 ?_ ?_ Z3.D20 HT_.out ?_ ?_ ?_; rotate_left 2; intro w'; go_simp; with_reducible rfl; simp only [Act.put, s_t, s_z, s_s, i64_w, i32_w]; rfl
       refine px_ 7 9 ?_ ?_ Z3.D27 HT_.out ?_ ?_ ?_; rotate_left 2; intro w'; go_simp; with_reducible rfl; simp only [Act.put, s_t, s_z, s_s, i64_w, i32_w]; rfl
       refine done_ (done_of HT_.out (by kernel_rfl)) ?_
       try go_wp2
       go_roundg kj16
       case measure => have := HK1.out; have := HJ16.out; omega
       case rel => exact ⟨(y198), (wrap64 (((rd_T114 y179 x27_1).f0) + 1)), (wrap64 (((rd_T114 y179 x27_1).f1) + 1)), (wrap64 (x27_1 + 1)), tr_, tr_, tr_, H', ⟨by have := HK1.out; have := HJ16.out; omega⟩, ⟨by (with_reducible repeat (first | apply r1_ | apply r2_ | apply r3_)); exact Kd.R_mono HO_5.out (fun _ hk => hk.1.1)⟩, ⟨by (with_reducible repeat (first | apply r1_ | apply r2_ | apply r3_)); exact Kd.R_mono HO_6.out (fun _ hk => hk.1.1)⟩, ⟨by (with_reducible repeat (first | apply q1_ | apply q2_ | apply q3_)); exact HO200.out⟩, ⟨by (with_reducible repeat (first | apply r1_ | apply r2_ | apply r3_)); exact Kd.R_mono HO_25.out (fun _ hk => trivial)⟩, ⟨bs_ HB.out GE183.out⟩⟩
      ·replace c23 := Bool.eq_false_iff.mpr c23
       subst c23
       have H1 : (Z3.l0 kj16 t170 t173 x7_1 (wrap64 (((rd_T114 y179 x27_1).f0) + 1)) (wrap64 (((rd_T114 y179 x27_1).f1) + 1)) y179 (y179.length : Int) (wrap64 (x27_1 + 1))) = some r := by rw [if_neg (show ¬ (false = true) by decide)] at H; exact H
       clear H
       have H := H1
       clear H1
       have H' := am_ H
       clear H
       try go_wp2
       have n0_ := am_ (r3_ HO_5.out)
       have n1_ := am_ (r3_ HO_6.out)
       have n2_ := am_ (q3_ HO_7.out)
       have n3_ := am_ (r3_ HO_25.out)
       have n4_ := am_ (blk_drew BK183.out)
       have n5_ := am_ (b2_ HB.out)
       clear HO_5; clear HO_6; clear HO_7; clear HO_25; clear BK183; clear HB; have HO_5 := n0_; have HO_6 := n1_; have HO_7 := n2_; have HO_25 := n3_; have BK183 := n4_; have HB := n5_; clear n0_ n1_ n2_ n3_ n4_ n5_
       refine start_ (n := 8) (S := fun w' => w'.cell? ⟨gb183, 0, none⟩ = some (.int .i64 ((rd_T114 y179 x27_1).f0)) ∧ w'.cell? ⟨gb183, 1, none⟩ = some (.int .i64 ((rd_T114 y179 x27_1).f1))) (ds := []) Z3.D1 (by kernel_rfl) rfl rfl ⟨(blk_cell BK183.out 0).trans rfl, (blk_cell BK183.out 1).trans rfl⟩ (fun hHeld => ?_); refine with_tabW Z3.tab9 Z3.bits9 (fun HT_ HW_ => ?_)
       generalize wc.drew = w42 at HO_5 HO_6 HO_7 HO_25 BK183 HB hHeld ⊢
       refine px_ 0 58 ?_ ?_ Z3.D3 HT_.out ?_ ?_ ?_; rotate_left 2; intro w'; go_simp; with_reducible rfl; simp only [Act.put, s_t, s_z, s_s, i64_w, i32_w]; rfl
       refine px_ 3 61 ?_ ?_ Z3.D4 HT_.out ?_ ?_ ?_; rotate_left 2; intro w'; go_simp; with_reducible rfl; simp only [Act.put, s_t, s_z, s_s, i64_w, i32_w]; rfl
       refine take_ (i := 1) (N := some 59) (v := ?_) (a' := ?_) Z3.D6 rfl rfl (take_ofW HT_.out HW_.out (by kernel_rfl)) (fun _ _ _ h => h) (Or.inl ⟨by rfl, ?_⟩) hHeld ?_ ?_
       rotate_left
       ·rintro w' ⟨s0, s1⟩
        go_simp
        with_reducible rfl
       rotate_left
       ·simp only [Act.put, s_t, s_z, s_s, i64_w, i32_w]
        rfl
       refine px_ 2 60 ?_ ?_ Z3.D9 HT_.out ?_ ?_ ?_; rotate_left 2; intro w'; go_simp; with_reducible rfl; simp only [Act.put, s_t, s_z, s_s, i64_w, i32_w]; rfl
       refine px_ 6 8 ?_ ?_ Z3.D10 HT_.out ?_ ?_ ?_; rotate_left 2; intro w'; go_simp; with_reducible rfl; simp only [Act.put, s_t, s_z, s_s, i64_w, i32_w]; rfl
       refine take_ (i := 4) (N := some 62) (v := ?_) (a' := ?_) Z3.D15 rfl rfl (take_ofW HT_.out HW_.out (by kernel_rfl)) (fun _ _ _ h => h) (Or.inl ⟨by rfl, ?_⟩) hHeld ?_ ?_
       rotate_left
       ·rintro w' ⟨s0, s1⟩
        go_simp
        with_reducible rfl
       rotate_left
       ·simp only [Act.put, s_t, s_z, s_s, i64_w, i32_w]
        rfl
       refine px_ 5 63 ?_ ?_ Z3.D20 HT_.out ?_ ?_ ?_; rotate_left 2; intro w'; go_simp; with_reducible rfl; simp only [Act.put, s_t, s_z, s_s, i64_w, i32_w]; rfl
       refine px_ 7 9 ?_ ?_ Z3.D27 HT_.out ?_ ?_ ?_; rotate_left 2; intro w'; go_simp; with_reducible rfl; simp only [Act.put, s_t, s_z, s_s, i64_w, i32_w]; rfl
       refine done_ (done_of HT_.out (by kernel_rfl)) ?_
       try go_wp2
       go_roundg kj16
       case measure => have := HK1.out; have := HJ16.out; omega
       case rel => exact ⟨(x7_1), (wrap64 (((rd_T114 y179 x27_1).f0) + 1)), (wrap64 (((rd_T114 y179 x27_1).f1) + 1)), (wrap64 (x27_1 + 1)), tr_, tr_, tr_, H', ⟨by have := HK1.out; have := HJ16.out; omega⟩, ⟨rr_ HO_5.out⟩, ⟨rr_ HO_6.out⟩, ⟨by (with_reducible repeat (first | apply q1_ | apply q2_ | apply q3_)); exact HO_7.out⟩, ⟨by (with_reducible repeat (first | apply r1_ | apply r2_ | apply r3_)); exact Kd.R_mono HO_25.out (fun _ hk => trivial)⟩, ⟨bs_ HB.out GE183.out⟩⟩
   ·rw [if_neg c14] at H
    have c14b0 : decide (x27_1 < (y179.length : Int)) = false := decide_eq_false c14
    clear c14
    obtain rfl := Option.some.inj H
    go_wp2
    go_ret
    exact ⟨_, by first | rfl | (simp [errW_none, errW_some] <;> rfl) | (simp [*, errW_none, errW_some] <;> rfl), by (with_reducible repeat (first | apply q1_ | apply q2_ | apply q3_)); exact Kd.S_mono HO_7.out (fun _ hk => trivial), bw_ HB.out⟩
def Z17.j0 : Nat → ByteArray → ByteArray → Bool → List Int → Int → Option (ByteArray × Int)
  | 0, _, _, _, _, _ => none
  | k + 1, x1, x2, x14, x1000, x1001 => if x14 = true then (some (x2, x1001)) else ((Z13.f x1000 x1001 (x1.size : Int)).bind fun bt201 => ((Z13.f x1000 bt201.2 (x2.size : Int)).bind fun bt203 => (if 0 ≤ bt203.1 then (if bt203.1 < (x2.size : Int) then ((Z13.f x1000 bt203.2 3).bind fun bt205 => (if bt205.1 = 0 then (if 0 ≤ bt201.1 then (if bt201.1 ≤ (x1.size : Int) then (if (x1.extract 0 (bt201.1 : Int).toNat).size + (Utf8.encode (wrap32 (bt x2 bt203.1))).size ≤ 9223372036854775807 then (if 0 ≤ (wrap64 (bt201.1 + 1)) then (if (wrap64 (bt201.1 + 1)) ≤ (x1.size : Int) then (if ((x1.extract 0 (bt201.1 : Int).toNat) ++ (Utf8.encode (wrap32 (bt x2 bt203.1)))).size + (x1.extract ((wrap64 (bt201.1 + 1)) : Int).toNat x1.size).size ≤ 9223372036854775807 then (some (((x1.extract 0 (bt201.1 : Int).toNat) ++ (Utf8.encode (wrap32 (bt x2 bt203.1)))) ++ (x1.extract ((wrap64 (bt201.1 + 1)) : Int).toNat x1.size), bt205.2)) else (none)) else (none)) else (none)) else (none)) else (none)) else (none)) else (if bt205.1 = 1 then (if 0 ≤ bt201.1 then (if bt201.1 ≤ (x1.size : Int) then (if (x1.extract 0 (bt201.1 : Int).toNat).size + (Utf8.encode (wrap32 (bt x2 bt203.1))).size ≤ 9223372036854775807 then (if ((x1.extract 0 (bt201.1 : Int).toNat) ++ (Utf8.encode (wrap32 (bt x2 bt203.1)))).size + (x1.extract (bt201.1 : Int).toNat x1.size).size ≤ 9223372036854775807 then (some (((x1.extract 0 (bt201.1 : Int).toNat) ++ (Utf8.encode (wrap32 (bt x2 bt203.1)))) ++ (x1.extract (bt201.1 : Int).toNat x1.size), bt205.2)) else (none)) else (none)) else (none)) else (none)) else (if 0 ≤ bt201.1 then (if bt201.1 ≤ (x1.size : Int) then (if 0 ≤ (wrap64 (bt201.1 + 1)) then (if (wrap64 (bt201.1 + 1)) ≤ (x1.size : Int) then (if (x1.extract 0 (bt201.1 : Int).toNat).size + (x1.extract ((wrap64 (bt201.1 + 1)) : Int).toNat x1.size).size ≤ 9223372036854775807 then (some ((x1.extract 0 (bt201.1 : Int).toNat) ++ (x1.extract ((wrap64 (bt201.1 + 1)) : Int).toNat x1.size), bt205.2)) else (none)) else (none)) else (none)) else (none)) else (none))))) else (none)) else (none))))
def Z17.f (k : Nat) (s0_0 : List Int) (s0_1 : Int) (a1 : ByteArray) (a2 : ByteArray) : Option (ByteArray × Int) := if a1.toList = ([] : List UInt8) then (Z17.j0 k a1 a2 true s0_0 s0_1) else (Z17.j0 k a1 a2 (a2.toList == ([] : List UInt8)) s0_0 s0_1)
theorem Z17.mono_l : ∀ k, (∀ y0 y1 y2 y3 y4, LeO (Z17.j0 k y0 y1 y2 y3 y4) (Z17.j0 (k + 1) y0 y1 y2 y3 y4))
  | 0 => fun _ _ _ _ _ r h => by simp [Z17.j0] at h
  | k + 1 => by
    have ih0 := Z17.mono_l k
    · intro y0 y1 y2 y3 y4
      unfold Z17.j0
      repeat' first
      | (with_reducible exact ih0 _ _ _ _ _)
      | (with_reducible exact LeO.refl _)
      | (with_reducible exact LeO.none _)
      | (with_reducible refine LeO.ite ?_ ?_)
      | (with_reducible refine LeO.bind ?_ (fun _ => ?_))
      | exact ih0 _ _ _ _ _
      | exact LeO.none _
      | refine LeO.ite ?_ ?_
      | refine LeO.bind ?_ (fun _ => ?_)
theorem Z17.mono : ∀ a0 a1 a2 a3 k, LeO (Z17.f k a0 a1 a2 a3) (Z17.f (k + 1) a0 a1 a2 a3) := by
  intro a0 a1 a2 a3 k
  have ih0 := Z17.mono_l k
  unfold Z17.f
  repeat' first
      | (with_reducible exact ih0 _ _ _ _ _)
      | (with_reducible exact LeO.refl _)
      | (with_reducible exact LeO.none _)
      | (with_reducible refine LeO.ite ?_ ?_)
      | (with_reducible refine LeO.bind ?_ (fun _ => ?_))
      | exact ih0 _ _ _ _ _
      | exact LeO.none _
      | refine LeO.ite ?_ ?_
      | refine LeO.bind ?_ (fun _ => ?_)
end Go.Proofs.YtffaggbephnmkaaGreatDoor.Pq
