/- Part of the proof that the law spansMixed is true for every input. No conditions. Laid by a program of this session over the kit's print and words; declarations that nothing names are left out. -/
import Derived.Test.YtbamfhcifpfocaaDoorZmPmx0
import Derived.Test.YtbamfhcifpfocaaDoorZmPmx1
import Derived.Test.YtbamfhcifpfocaaDoorZmPmx2
import Derived.Test.YtbamfhcifpfocaaDoorZmPmx3
import Derived.Test.YtbamfhcifpfocaaDoorZmPmx5
import Derived.Test.YtbamfhcifpfocaaDoorZmPmx6
import Derived.Test.YtbamfhcifpfocaaDoorZmPmx8
import Derived.Test.YtbamfhcifpfocaaDoorZmPmx9
namespace Go.Proofs.YtbamfhcifpfocaaDoor.Pm
open Go.RowKit Go.Proofs.YtbamfhcifpfocaaDoor.GBase Go.Proofs.YtbamfhcifpfocaaDoorW.PrintWords Go.Proofs.YtbamfhcifpfocaaDoorW.PrintLast Go.Proofs.YtbamfhcifpfocaaDoorW.PrintMore
attribute [local go_sem] str_leq max2_int min2_int max_two min_two max_three min_three max_four min_four
set_option linter.unusedVariables false
set_option linter.unusedSimpArgs false
attribute [local go_sem high] eqA46
def chaseref1_MixedOf.l0 : Nat → Bool → List Bool → List Bool → Int → Int → Option ((List (S46)) × Int)
  | 0, _, _, _, _, _ => none
  | k + 1, x3, x11, x12, x32, x33 => if x33 < x32 then (if x3 = true then (if 0 ≤ x33 then (if x33 < (x11.length : Int) then (if rdOf false x11 x33 = true then (if x33 < (x12.length : Int) then (chaseref1_MixedOf.l0 k x3 (x11.set (x33 : Int).toNat (!(rdOf false x12 x33))) x12 x32 (wrap64 (x33 + 1))) else (none)) else (chaseref1_MixedOf.l0 k x3 (x11.set (x33 : Int).toNat false) x12 x32 (wrap64 (x33 + 1)))) else (none)) else (none)) else (if 0 ≤ x33 then (if x33 < (x11.length : Int) then (if rdOf false x11 x33 = true then (chaseref1_MixedOf.l0 k x3 (x11.set (x33 : Int).toNat true) x12 x32 (wrap64 (x33 + 1))) else (if x33 < (x12.length : Int) then (chaseref1_MixedOf.l0 k x3 (x11.set (x33 : Int).toNat (rdOf false x12 x33)) x12 x32 (wrap64 (x33 + 1))) else (none))) else (none)) else (none))) else ((chaseref1_spansFrom.f k x11).bind fun t311 => ((chaseref1_bounded.f t311).bind fun bt314 => (some (bt314.1, bt314.2))))
def chaseref1_MixedOf.f (k : Nat) (l0 : List (S46)) (l1 : List (S46)) (a2 : Int) (a3 : Bool) : Option ((List (S46)) × Int) := (chaseref1_SpansFault.f k l0 a2).bind fun t291 => ((chaseref1_SpansFault.f k l1 a2).bind fun t292 => ((api_Errno.f k (([t291, t292] : List Int))).bind fun t296 => (if t296 = 0 then ((chaseref1_painted.f k l0 a2).bind fun t297 => ((chaseref1_painted.f k l1 a2).bind fun t300 => (chaseref1_MixedOf.l0 k a3 t297 t300 (t297.length : Int) 0))) else (some (([] : List (S46)), t296)))))
theorem chaseref1_MixedOf.mono_l : ∀ k, (∀ y0 y1 y2 y3 y4, LeO (chaseref1_MixedOf.l0 k y0 y1 y2 y3 y4) (chaseref1_MixedOf.l0 (k + 1) y0 y1 y2 y3 y4))
  | 0 => fun _ _ _ _ _ r h => by simp [chaseref1_MixedOf.l0] at h
  | k + 1 => by
    have ih0 := chaseref1_MixedOf.mono_l k
    · intro y0 y1 y2 y3 y4
      unfold chaseref1_MixedOf.l0
      repeat' first
      | (with_reducible exact ih0 _ _ _ _ _)
      | (with_reducible exact api_Errno.mono _ _)
      | (with_reducible exact chaseref1_SpansFault.mono _ _ _)
      | (with_reducible exact chaseref1_painted.mono _ _ _)
      | (with_reducible exact chaseref1_spansFrom.mono _ _)
      | (with_reducible exact LeO.refl _)
      | (with_reducible exact LeO.none _)
      | (with_reducible refine LeO.ite ?_ ?_)
      | (with_reducible refine LeO.bind ?_ (fun _ => ?_))
      | exact ih0 _ _ _ _ _
      | exact api_Errno.mono _ _
      | exact chaseref1_SpansFault.mono _ _ _
      | exact chaseref1_painted.mono _ _ _
      | exact chaseref1_spansFrom.mono _ _
      | exact LeO.none _
      | refine LeO.ite ?_ ?_
      | refine LeO.bind ?_ (fun _ => ?_)
theorem chaseref1_MixedOf.mono : ∀ a0 a1 a2 a3 k, LeO (chaseref1_MixedOf.f k a0 a1 a2 a3) (chaseref1_MixedOf.f (k + 1) a0 a1 a2 a3) := by
  intro a0 a1 a2 a3 k
  have ih0 := chaseref1_MixedOf.mono_l k
  unfold chaseref1_MixedOf.f
  repeat' first
      | (with_reducible exact ih0 _ _ _ _ _)
      | (with_reducible exact api_Errno.mono _ _)
      | (with_reducible exact chaseref1_SpansFault.mono _ _ _)
      | (with_reducible exact chaseref1_painted.mono _ _ _)
      | (with_reducible exact chaseref1_spansFrom.mono _ _)
      | (with_reducible exact LeO.refl _)
      | (with_reducible exact LeO.none _)
      | (with_reducible refine LeO.ite ?_ ?_)
      | (with_reducible refine LeO.bind ?_ (fun _ => ?_))
      | exact ih0 _ _ _ _ _
      | exact api_Errno.mono _ _
      | exact chaseref1_SpansFault.mono _ _ _
      | exact chaseref1_painted.mono _ _ _
      | exact chaseref1_spansFrom.mono _ _
      | exact LeO.none _
      | refine LeO.ite ?_ ?_
      | refine LeO.bind ?_ (fun _ => ?_)
set_option maxHeartbeats 8000000 in
set_option maxRecDepth 100000 in
theorem chaseref1_MixedOf.calls (k : Nat) (A0 : Option Addr) (c0 : Nat) (l0 : List (S46)) (A1 : Option Addr) (c1 : Nat) (l1 : List (S46)) (a2 : Int) (a3 : Bool) (r1 : List (S46)) (r2 : Int) (w : World) (hr0 : Kd.C k46 w A0 l0.length l0) (hc0 : l0.length ≤ c0) (hr1 : Kd.C k46 w A1 l1.length l1) (hc1 : l1.length ≤ c1) (h : chaseref1_MixedOf.f k l0 l1 a2 a3 = some (r1, r2)) :
    Calls Tryd.prog 26 #[.slice A0 l0.length c0, .slice A1 l1.length c1, .int .i64 a2, .bool a3] w fun e w' => ∃ v0_ : Value, e = .returned (.tuple #[v0_, .int .i64 r2]) ∧ Kd.R k46 46 w' w.heap.size (fun _ => True) v0_ r1 ∧ Below w.heap.size w w' := by
  have HR0 := Aside0.mk hr0
  have HC0 := Aside0.mk hc0
  clear hr0 hc0
  have HR1 := Aside0.mk hr1
  have HC1 := Aside0.mk hc1
  clear hr1 hc1
  have HB := Aside0.mk (Below.refl w.heap.size w)
  have H : ((chaseref1_SpansFault.f k l0 a2).bind fun t291 => ((chaseref1_SpansFault.f k l1 a2).bind fun t292 => ((api_Errno.f k (([t291, t292] : List Int))).bind fun t296 => (if t296 = 0 then ((chaseref1_painted.f k l0 a2).bind fun t297 => ((chaseref1_painted.f k l1 a2).bind fun t300 => (chaseref1_MixedOf.l0 k a3 t297 t300 (t297.length : Int) 0))) else (some (([] : List (S46)), t296)))))) = some (r1, r2) := h
  clear h
  replace H := Option.bind_eq_some_iff.mp H
  obtain ⟨t291, A50, H⟩ := H
  replace H : ((chaseref1_SpansFault.f k l1 a2).bind fun t292 => ((api_Errno.f k (([t291, t292] : List Int))).bind fun t296 => (if t296 = 0 then ((chaseref1_painted.f k l0 a2).bind fun t297 => ((chaseref1_painted.f k l1 a2).bind fun t300 => (chaseref1_MixedOf.l0 k a3 t297 t300 (t297.length : Int) 0))) else (some (([] : List (S46)), t296))))) = some (r1, r2) := H
  have A5 := Aside0.mk A50
  clear A50
  replace H := Option.bind_eq_some_iff.mp H
  obtain ⟨t292, A60, H⟩ := H
  replace H : ((api_Errno.f k (([t291, t292] : List Int))).bind fun t296 => (if t296 = 0 then ((chaseref1_painted.f k l0 a2).bind fun t297 => ((chaseref1_painted.f k l1 a2).bind fun t300 => (chaseref1_MixedOf.l0 k a3 t297 t300 (t297.length : Int) 0))) else (some (([] : List (S46)), t296)))) = some (r1, r2) := H
  have A6 := Aside0.mk A60
  clear A60
  obtain ⟨y293, hy293⟩ : ∃ y_ : List Int, y_ = (([t291, t292] : List Int)) := ⟨_, rfl⟩
  replace H : ((api_Errno.f k y293).bind fun t296 => (if t296 = 0 then ((chaseref1_painted.f k l0 a2).bind fun t297 => ((chaseref1_painted.f k l1 a2).bind fun t300 => (chaseref1_MixedOf.l0 k a3 t297 t300 (t297.length : Int) 0))) else (some (([] : List (S46)), t296)))) = some (r1, r2) := by first | (rw [hy293]; with_reducible exact H) | (have H2_ := (Option.bind_some _ _).symm.trans H; rw [hy293]; with_reducible exact H2_) | (have H2_ := (Option.bind_some _ _).symm.trans H; with_reducible exact H2_) | with_reducible exact H | (rw [hy293]; exact H) | exact H
  have Ny293 := Aside0.mk hy293
  clear hy293
  replace H := Option.bind_eq_some_iff.mp H
  obtain ⟨t296, A70, H⟩ := H
  replace H : (if t296 = 0 then ((chaseref1_painted.f k l0 a2).bind fun t297 => ((chaseref1_painted.f k l1 a2).bind fun t300 => (chaseref1_MixedOf.l0 k a3 t297 t300 (t297.length : Int) 0))) else (some (([] : List (S46)), t296))) = some (r1, r2) := H
  have A7 := Aside0.mk A70
  clear A70
  by_cases c8 : t296 = 0
  · rw [if_pos c8] at H
    have c8b0 : (t296 == 0) = true := beq_iff_eq.mpr c8
    have c8b1 : (t296 != 0) = false := bne_eq_false_iff_eq.mpr c8
    clear c8
    replace H := Option.bind_eq_some_iff.mp H
    obtain ⟨t297, A90, H⟩ := H
    replace H : ((chaseref1_painted.f k l1 a2).bind fun t300 => (chaseref1_MixedOf.l0 k a3 t297 t300 (t297.length : Int) 0)) = some (r1, r2) := H
    have A9 := Aside0.mk A90
    clear A90
    replace H := Option.bind_eq_some_iff.mp H
    obtain ⟨t300, A100, H⟩ := H
    replace H : (chaseref1_MixedOf.l0 k a3 t297 t300 (t297.length : Int) 0) = some (r1, r2) := H
    have A10 := Aside0.mk A100
    clear A100
    have H' := Aside0.mk H
    clear H
    go_enter Tryd.func26, Tryd.ntmps26
    go_wp2_with (first | ((with_reducible refine gate_callee (f := 23) rfl ?_); refine goesL_ (some 16) rfl rfl Tryd.func23 (by kernel_rfl) rfl #[.slice A0 l0.length c0, .int .i64 a2] rfl (by (try simp only [List.map_toArray, List.map_cons, List.map_nil]); first | done | rfl | (simp only [List.length_drop, List.length_take]; rfl)) ?_; (with_reducible refine (chaseref1_SpansFault.calls k _ _ l0 a2 t291 _ ?side1 ?side2 A5.out).mono ?_); (case side1 => repeat (first | exact HR0.out | (with_reducible refine Kd.C_alloc ?_ _) | (with_reducible refine Kd.C_drewN ?_ _) | (with_reducible refine Kd.C_drew ?_))); (case side2 => exact HC0.out); rintro e w11 ⟨rfl, hb⟩; refine ⟨_, rfl, ?_⟩; have n0_ := Aside0.mk (below_step (by repeat (first | (with_reducible first | exact HB.out | apply below_alloc | apply pw_below_drewN | apply below_drew1) | exact HB.out)) hb); clear HB; have HB := n0_; clear n0_; (try clear hb); (try clear hb2); (try clear hk); (try clear hi)) | ((with_reducible refine gate_callee (f := 23) rfl ?_); refine goesL_ (some 19) rfl rfl Tryd.func23 (by kernel_rfl) rfl #[.slice A1 l1.length c1, .int .i64 a2] rfl (by (try simp only [List.map_toArray, List.map_cons, List.map_nil]); first | done | rfl | (simp only [List.length_drop, List.length_take]; rfl)) ?_; (with_reducible refine (chaseref1_SpansFault.calls k _ _ l1 a2 t292 _ ?side1 ?side2 A6.out).mono ?_); (case side1 => repeat (first | exact (Kd.C_below HR1.out HB.out) | (with_reducible refine Kd.C_alloc ?_ _) | (with_reducible refine Kd.C_drewN ?_ _) | (with_reducible refine Kd.C_drew ?_))); (case side2 => exact HC1.out); rintro e w12 ⟨rfl, hb⟩; refine ⟨_, rfl, ?_⟩; have n0_ := Aside0.mk (below_step (by repeat (first | (with_reducible first | exact HB.out | apply below_alloc | apply pw_below_drewN | apply below_drew1) | exact HB.out)) hb); clear HB; have HB := n0_; clear n0_; (try clear hb); (try clear hb2); (try clear hk); (try clear hi)) | ((with_reducible refine gate_dst (N := 20) rfl ?_); refine Kd.R_lit (Kd.int .i64) _ 29 ?hg (N := 20) ?hd (xs := ([t291, t292] : List Int)) (inner := [.int .i64 t291, .int .i64 t292]) (ok := fun _ => True) (okp := fun _ => True) ?hr ?hp (fun _ hk => hk) trivial (Below.refl _ _) (Nat.le_refl _) (by simp) ?_; (case hd => rfl); (case hg => rfl); (case hr => first | (go_simp; done) | (go_simp; rfl)); (case hp => exact (Reps.one (show Kd.M (Kd.int .i64) _ _ _ t291 [.int .i64 t291] from rfl) (Reps.one (show Kd.M (Kd.int .i64) _ _ _ t292 [.int .i64 t292] from rfl) (Reps.none _ _)))); intro v294 w13 ho14 hb hg_ hnew_; clear hg_ hnew_; (first | rw [← Ny293.out] at ho14 | (simp only [Int.reduceToNat] at ho14; rw [← Ny293.out] at ho14)); have n0_ := Aside0.mk (Kd.R_lower ho14 (below_size (by repeat (first | (with_reducible first | exact HB.out | apply below_alloc | apply pw_below_drewN | apply below_drew1) | exact HB.out)))); have n1_ := Aside0.mk (below_step (by repeat (first | (with_reducible first | exact HB.out | apply below_alloc | apply pw_below_drewN | apply below_drew1) | exact HB.out)) hb); clear HB; have HO295 := n0_; have HB := n1_; clear n0_ n1_; clear hb ho14; obtain ⟨Ao15, co15, eo15⟩ := Kd.R_slice HO295.out; subst eo15) | ((with_reducible refine gate_callee (f := 88) rfl ?_); refine goesL_ (some 21) rfl rfl Tryd.func88 (by kernel_rfl) rfl #[.slice Ao15 y293.length co15] rfl (by (try simp only [List.map_toArray, List.map_cons, List.map_nil]); first | done | rfl | (simp only [List.length_drop, List.length_take]; rfl)) ?_; (with_reducible refine (api_Errno.calls k _ _ y293 t296 _ ?side1 ?side2 A7.out).mono ?_); (case side1 => repeat (first | exact (Kd.R_reads' HO295.out).2.2 | (with_reducible refine Kd.C_alloc ?_ _) | (with_reducible refine Kd.C_drewN ?_ _) | (with_reducible refine Kd.C_drew ?_))); (case side2 => exact (Kd.R_reads' HO295.out).2.1); rintro e w' ⟨rfl, ⟨nd, rfl⟩⟩; refine ⟨_, rfl, ?_⟩) | ((with_reducible refine gate_callee (f := 89) rfl ?_); refine goesL_ (some 27) rfl rfl Tryd.func89 (by kernel_rfl) rfl #[.slice A0 l0.length c0, .int .i64 a2] rfl (by (try simp only [List.map_toArray, List.map_cons, List.map_nil]); first | done | rfl | (simp only [List.length_drop, List.length_take]; rfl)) ?_; (with_reducible refine (chaseref1_painted.calls k _ _ l0 a2 t297 _ ?side1 ?side2 A9.out).mono ?_); (case side1 => repeat (first | exact (Kd.C_below HR0.out (by repeat (first | (with_reducible first | exact HB.out | apply below_alloc | apply pw_below_drewN | apply below_drew1) | exact HB.out))) | (with_reducible refine Kd.C_alloc ?_ _) | (with_reducible refine Kd.C_drewN ?_ _) | (with_reducible refine Kd.C_drew ?_))); (case side2 => exact HC0.out); rintro e w16 ⟨v298, rfl, ho0, hb⟩; refine ⟨_, rfl, ?_⟩; have n0_ := Aside0.mk (Kd.R_below (by (with_reducible repeat (first | apply Kd.R_alloc | apply Kd.R_drewN | apply Kd.R_drew)); exact HO295.out) hb); have n1_ := Aside0.mk (Kd.R_lower ho0 (below_size (by repeat (first | (with_reducible first | exact HB.out | apply below_alloc | apply pw_below_drewN | apply below_drew1) | exact HB.out)))); have n2_ := Aside0.mk (below_step (by repeat (first | (with_reducible first | exact HB.out | apply below_alloc | apply pw_below_drewN | apply below_drew1) | exact HB.out)) hb); clear HO295; clear HB; have HO295 := n0_; have HO299 := n1_; have HB := n2_; clear n0_ n1_ n2_; (try clear hb); (try clear hb2); (try clear hk); (try clear hi); (try clear ho0)) | ((with_reducible refine gate_callee (f := 89) rfl ?_); refine goesL_ (some 30) rfl rfl Tryd.func89 (by kernel_rfl) rfl #[.slice A1 l1.length c1, .int .i64 a2] rfl (by (try simp only [List.map_toArray, List.map_cons, List.map_nil]); first | done | rfl | (simp only [List.length_drop, List.length_take]; rfl)) ?_; (with_reducible refine (chaseref1_painted.calls k _ _ l1 a2 t300 _ ?side1 ?side2 A10.out).mono ?_); (case side1 => repeat (first | exact (Kd.C_below HR1.out HB.out) | (with_reducible refine Kd.C_alloc ?_ _) | (with_reducible refine Kd.C_drewN ?_ _) | (with_reducible refine Kd.C_drew ?_))); (case side2 => exact HC1.out); rintro e w17 ⟨v301, rfl, ho0, hb⟩; refine ⟨_, rfl, ?_⟩; have n0_ := Aside0.mk (Kd.R_below (by (with_reducible repeat (first | apply Kd.R_alloc | apply Kd.R_drewN | apply Kd.R_drew)); exact HO295.out) hb); have n1_ := Aside0.mk (Kd.R_elder' (by (with_reducible repeat (first | apply Kd.R_alloc | apply Kd.R_drewN | apply Kd.R_drew)); exact HO299.out) (Kd.R_base ho0) hb); have n2_ := Aside0.mk (Kd.R_lower (Kd.R_new' ho0 (Kd.R_lt (by (with_reducible repeat (first | apply Kd.R_alloc | apply Kd.R_drewN | apply Kd.R_drew)); exact HO299.out))) (below_size (by repeat (first | (with_reducible first | exact HB.out | apply below_alloc | apply pw_below_drewN | apply below_drew1) | exact HB.out)))); have n3_ := Aside0.mk (below_step (by repeat (first | (with_reducible first | exact HB.out | apply below_alloc | apply pw_below_drewN | apply below_drew1) | exact HB.out)) hb); clear HO295; clear HO299; clear HB; have HO295 := n0_; have HO299 := n1_; have HO302 := n2_; have HB := n3_; clear n0_ n1_ n2_ n3_; (try clear hb); (try clear hb2); (try clear hk); (try clear hi); (try clear ho0); obtain ⟨Ao18, co18, eo18⟩ := Kd.R_slice HO299.out; subst eo18))
    go_loopg [33] k (fun kq v33 w' => ∃ (x11_1 : List Bool) (x33_1 : Int), v33 = .int .i64 x33_1 ∧ Aside0 (chaseref1_MixedOf.l0 kq a3 x11_1 t300 (t297.length : Int) x33_1 = some (r1, r2)) ∧ Aside0 (kq ≤ k) ∧ Aside0 (Kd.R Kd.bool 4 w' w.heap.size (fun k_ => some k_ ≠ (v301 : Value).ownBlock) (.slice Ao18 t297.length co18) x11_1) ∧ Aside0 (Kd.R Kd.bool 4 w' w.heap.size (fun k_ => some k_ ≠ ((.slice Ao18 t297.length co18) : Value).ownBlock) v301 t300) ∧ Aside0 (Below w.heap.size w w'))
    case atStart => exact ⟨(t297), (0), (by first | rfl | (simp; done) | (simp [*]; done)), H', ⟨Nat.le_refl _⟩, ⟨by (with_reducible repeat (first | apply Kd.R_alloc | apply Kd.R_drewN | apply Kd.R_drew)); exact Kd.R_mono HO299.out (fun _ hk => hk.2)⟩, ⟨by (with_reducible repeat (first | apply Kd.R_alloc | apply Kd.R_drewN | apply Kd.R_drew)); exact Kd.R_mono HO302.out (fun _ hk => hk.2)⟩, ⟨by repeat (first | (with_reducible first | exact HB.out | apply below_alloc | apply pw_below_drewN | apply below_drew1) | exact HB.out)⟩⟩
    case round =>
      clear H'
      try clear c1
      try clear c2
      try clear p2
      try clear c8
      try clear c8b0
      try clear c8b1
      obtain ⟨x11_1, x33_1, rfl, HA, HK1, HO_11, HO_12, HB⟩ := hrel
      have hl11_1 := (Kd.R_reads' HO_11.out).1
      rw [hl11_1] at HO_11
      (try simp only [hl11_1])
      (try simp only [hl11_1] at HO_12)
      cases gk with
      | zero => exact absurd HA.out (by simp [chaseref1_MixedOf.l0])
      | succ k1 =>
        have H := HA.out
        clear HA
        simp only [chaseref1_MixedOf.l0] at H
        by_cases c19 : x33_1 < (t297.length : Int)
        · rw [if_pos c19] at H
          have c19b0 : decide (x33_1 < (t297.length : Int)) = true := decide_eq_true c19
          clear c19
          by_cases c20 : a3 = true
          · subst c20
            have H1 : (if 0 ≤ x33_1 then (if x33_1 < (x11_1.length : Int) then (if rdOf false x11_1 x33_1 = true then (if x33_1 < (t300.length : Int) then (chaseref1_MixedOf.l0 k1 true (x11_1.set (x33_1 : Int).toNat (!(rdOf false t300 x33_1))) t300 (t297.length : Int) (wrap64 (x33_1 + 1))) else (none)) else (chaseref1_MixedOf.l0 k1 true (x11_1.set (x33_1 : Int).toNat false) t300 (t297.length : Int) (wrap64 (x33_1 + 1)))) else (none)) else (none)) = some (r1, r2) := by rw [if_pos rfl] at H; exact H
            clear H
            have H := H1
            clear H1
            by_cases c21 : 0 ≤ x33_1
            · rw [if_pos c21] at H
              have c21b0 : decide (0 ≤ x33_1) = true := decide_eq_true c21
              clear c21
              by_cases c22 : x33_1 < (x11_1.length : Int)
              · rw [if_pos c22] at H
                have c22b0 : decide (x33_1 < (x11_1.length : Int)) = true := decide_eq_true c22
                clear c22
                obtain ⟨bq23, hbq23⟩ : ∃ b_ : Bool, b_ = (rdOf false x11_1 x33_1) := ⟨_, rfl⟩
                replace H : (if bq23 = true then (if x33_1 < (t300.length : Int) then (chaseref1_MixedOf.l0 k1 true (x11_1.set (x33_1 : Int).toNat (!(rdOf false t300 x33_1))) t300 (t297.length : Int) (wrap64 (x33_1 + 1))) else (none)) else (chaseref1_MixedOf.l0 k1 true (x11_1.set (x33_1 : Int).toNat false) t300 (t297.length : Int) (wrap64 (x33_1 + 1)))) = some (r1, r2) := by rw [← hbq23] at H; exact H
                have Nbq23 := Aside0.mk hbq23
                clear hbq23
                by_cases c24 : bq23 = true
                · subst c24
                  have H1 : (if x33_1 < (t300.length : Int) then (chaseref1_MixedOf.l0 k1 true (x11_1.set (x33_1 : Int).toNat (!(rdOf false t300 x33_1))) t300 (t297.length : Int) (wrap64 (x33_1 + 1))) else (none)) = some (r1, r2) := by rw [if_pos rfl] at H; exact H
                  clear H
                  have H := H1
                  clear H1
                  by_cases c25 : x33_1 < (t300.length : Int)
                  · rw [if_pos c25] at H
                    have c25b0 : decide (x33_1 < (t300.length : Int)) = true := decide_eq_true c25
                    clear c25
                    obtain ⟨y305, hy305⟩ : ∃ y_ : List Bool, y_ = (x11_1.set (x33_1 : Int).toNat (!(rdOf false t300 x33_1))) := ⟨_, rfl⟩
                    replace H : (chaseref1_MixedOf.l0 k1 true y305 t300 (t297.length : Int) (wrap64 (x33_1 + 1))) = some (r1, r2) := by first | (rw [hy305]; with_reducible exact H) | (have H2_ := (Option.bind_some _ _).symm.trans H; rw [hy305]; with_reducible exact H2_) | (have H2_ := (Option.bind_some _ _).symm.trans H; with_reducible exact H2_) | with_reducible exact H | (rw [hy305]; exact H) | exact H
                    have Ny305 := Aside0.mk hy305
                    clear hy305
                    have H' := Aside0.mk H
                    clear H
                    have p303 : 0 ≤ (x33_1 : Int) := of_decide_eq_true (by first | (with_reducible assumption) | assumption)
                    have q303 : x33_1 < (x11_1.length : Int) := of_decide_eq_true (by first | (with_reducible assumption) | assumption)
                    obtain ⟨ad303, e303, hx303_0⟩ := Kd.at_bool (Kd.R_reads' HO_11.out).2.2 x33_1 p303 q303
                    (try rw [← Nbq23.out] at hx303_0)
                    cases e303
                    replace p303 := eq_true p303
                    replace q303 := eq_true q303
                    obtain ⟨Ao27, co27, eo27⟩ := Kd.R_slice HO_12.out
                    subst eo27
                    have p304 : 0 ≤ (x33_1 : Int) := of_decide_eq_true (by first | (with_reducible assumption) | assumption)
                    have q304 : x33_1 < (t300.length : Int) := of_decide_eq_true (by first | (with_reducible assumption) | assumption)
                    obtain ⟨ad304, e304, hx304_0⟩ := Kd.at_bool (Kd.R_reads' HO_12.out).2.2 x33_1 p304 q304
                    (try rw [← Nbq23.out] at hx304_0)
                    cases e304
                    replace p304 := eq_true p304
                    replace q304 := eq_true q304
                    have p26 : 0 ≤ (x33_1 : Int) := of_decide_eq_true (by first | (with_reducible assumption) | assumption)
                    have q26 : (x33_1 : Int) < ((x11_1.length : Int) : Int) := of_decide_eq_true (by first | (with_reducible assumption) | assumption)
                    obtain ⟨go26, co26, eo26, gb26, gl26, cl26, HG26⟩ := Kd.R_form HO_11.out (by omega)
                    (first | cases eo26 | (injection eo26 with ea_ en_ ec_; (first | subst ea_ | (injection ea_ with ea_; subst ea_)); subst ec_; clear en_))
                    have GB26 := Aside0.mk gb26
                    have GG26 := Aside0.mk HG26
                    clear gb26 gl26 HG26
                    (first | simp only [add_plain] at hx303_0 | skip)
                    obtain ⟨hx26_0, hf26_0⟩ := Kd.R_celln false HO_11.out (x33_1 : Int) p26 q26
                    replace p26 := eq_true p26
                    replace q26 := eq_true q26
                    have HP28 := Kd.R_putg HO_11.out (x33_1 : Int) (!(rdOf false t300 x33_1))
                    go_wp2_with (first | ((with_reducible refine gate_store (t := 4) (p := 50) rfl ?_); refine store_event (t := 4) (p := 50) (v := ?vo_w29) (w1 := (wr.setCell ⟨go26, (x33_1 : Int).toNat, none⟩ (.bool (!(rdOf false t300 x33_1))))) ?hg ?ho ?hn ?hr ?_; (case ho => rfl); (case hg => rfl); (case hn => rfl); (case hr => first | (go_simp; done) | (go_simp; rfl)); intro w29 hw; have hg : wr.grownBy w29 (some go26) := (by rw [hw]; exact HP28.2); have hp_ : Kd.R Kd.bool 4 w29 w.heap.size (fun k_ => some k_ ≠ (.slice (some ad304) t300.length co27 : Value).ownBlock) (.slice (some ⟨go26, 0, none⟩) x11_1.length co18) y305 := (by rw [hw, Ny305.out]; exact HP28.1); clear HP28; have n0_ := Aside0.mk (hp_); have n1_ := Aside0.mk (Kd.R_after (v := (.slice (some ⟨go26, 0, none⟩) x11_1.length co18)) (v1 := (.slice (some ⟨go26, 0, none⟩) x11_1.length co18)) (ok := (fun _ => True)) (by (with_reducible repeat (first | apply Kd.R_alloc | apply Kd.R_drewN | apply Kd.R_drew)); exact Kd.R_mono HO_12.out (fun _ hk => ⟨trivial, hk⟩)) hg (.inl rfl)); have n2_ := Aside0.mk ((by rw [hw]; exact below_set (HB.out) GB26.out : Below w.heap.size w w29)); clear HO_11; clear HO_12; clear HB; have HO_11 := n0_; have HO_12 := n1_; have HB := n2_; clear n0_ n1_ n2_; clear hg hw hp_))
                    (try simp only [← hl11_1])
                    go_roundg k1
                    case measure => have := HK1.out; omega
                    case rel => exact ⟨(y305), (wrap64 (x33_1 + 1)), (by first | rfl | (simp; done) | (simp [*]; done)), H', ⟨by have := HK1.out; omega⟩, ⟨by (try simp only [hl11_1]); (with_reducible repeat (first | apply Kd.R_alloc | apply Kd.R_drewN | apply Kd.R_drew)); exact HO_11.out⟩, ⟨by (try simp only [hl11_1]); (with_reducible repeat (first | apply Kd.R_alloc | apply Kd.R_drewN | apply Kd.R_drew)); exact Kd.R_mono HO_12.out (fun _ hk => hk.2)⟩, ⟨by repeat (first | (with_reducible first | exact HB.out | apply below_alloc | apply pw_below_drewN | apply below_drew1) | exact HB.out)⟩⟩
                  · rw [if_neg c25] at H
                    exact absurd H (by simp)
                · replace c24 := Bool.eq_false_iff.mpr c24
                  subst c24
                  have H1 : (chaseref1_MixedOf.l0 k1 true (x11_1.set (x33_1 : Int).toNat false) t300 (t297.length : Int) (wrap64 (x33_1 + 1))) = some (r1, r2) := by rw [if_neg (show ¬ (false = true) by decide)] at H; exact H
                  clear H
                  have H := H1
                  clear H1
                  obtain ⟨y306, hy306⟩ : ∃ y_ : List Bool, y_ = (x11_1.set (x33_1 : Int).toNat false) := ⟨_, rfl⟩
                  replace H : (chaseref1_MixedOf.l0 k1 true y306 t300 (t297.length : Int) (wrap64 (x33_1 + 1))) = some (r1, r2) := by first | (rw [hy306]; with_reducible exact H) | (have H2_ := (Option.bind_some _ _).symm.trans H; rw [hy306]; with_reducible exact H2_) | (have H2_ := (Option.bind_some _ _).symm.trans H; with_reducible exact H2_) | with_reducible exact H | (rw [hy306]; exact H) | exact H
                  have Ny306 := Aside0.mk hy306
                  clear hy306
                  have H' := Aside0.mk H
                  clear H
                  have p303 : 0 ≤ (x33_1 : Int) := of_decide_eq_true (by first | (with_reducible assumption) | assumption)
                  have q303 : x33_1 < (x11_1.length : Int) := of_decide_eq_true (by first | (with_reducible assumption) | assumption)
                  obtain ⟨ad303, e303, hx303_0⟩ := Kd.at_bool (Kd.R_reads' HO_11.out).2.2 x33_1 p303 q303
                  (try rw [← Nbq23.out] at hx303_0)
                  cases e303
                  replace p303 := eq_true p303
                  replace q303 := eq_true q303
                  have p30 : 0 ≤ (x33_1 : Int) := of_decide_eq_true (by first | (with_reducible assumption) | assumption)
                  have q30 : (x33_1 : Int) < ((x11_1.length : Int) : Int) := of_decide_eq_true (by first | (with_reducible assumption) | assumption)
                  obtain ⟨go30, co30, eo30, gb30, gl30, cl30, HG30⟩ := Kd.R_form HO_11.out (by omega)
                  (first | cases eo30 | (injection eo30 with ea_ en_ ec_; (first | subst ea_ | (injection ea_ with ea_; subst ea_)); subst ec_; clear en_))
                  have GB30 := Aside0.mk gb30
                  have GG30 := Aside0.mk HG30
                  clear gb30 gl30 HG30
                  (first | simp only [add_plain] at hx303_0 | skip)
                  obtain ⟨hx30_0, hf30_0⟩ := Kd.R_celln false HO_11.out (x33_1 : Int) p30 q30
                  replace p30 := eq_true p30
                  replace q30 := eq_true q30
                  have HP31 := Kd.R_putg HO_11.out (x33_1 : Int) false
                  go_wp2_with (first | ((with_reducible refine gate_store (t := 4) (p := 50) rfl ?_); refine store_event (t := 4) (p := 50) (v := ?vo_w32) (w1 := (wr.setCell ⟨go30, (x33_1 : Int).toNat, none⟩ (.bool false))) ?hg ?ho ?hn ?hr ?_; (case ho => rfl); (case hg => rfl); (case hn => rfl); (case hr => first | (go_simp; done) | (go_simp; rfl)); intro w32 hw; have hg : wr.grownBy w32 (some go30) := (by rw [hw]; exact HP31.2); have hp_ : Kd.R Kd.bool 4 w32 w.heap.size (fun k_ => some k_ ≠ (v301 : Value).ownBlock) (.slice (some ⟨go30, 0, none⟩) x11_1.length co18) y306 := (by rw [hw, Ny306.out]; exact HP31.1); clear HP31; have n0_ := Aside0.mk (hp_); have n1_ := Aside0.mk (Kd.R_after (v := (.slice (some ⟨go30, 0, none⟩) x11_1.length co18)) (v1 := (.slice (some ⟨go30, 0, none⟩) x11_1.length co18)) (ok := (fun _ => True)) (by (with_reducible repeat (first | apply Kd.R_alloc | apply Kd.R_drewN | apply Kd.R_drew)); exact Kd.R_mono HO_12.out (fun _ hk => ⟨trivial, hk⟩)) hg (.inl rfl)); have n2_ := Aside0.mk ((by rw [hw]; exact below_set (HB.out) GB30.out : Below w.heap.size w w32)); clear HO_11; clear HO_12; clear HB; have HO_11 := n0_; have HO_12 := n1_; have HB := n2_; clear n0_ n1_ n2_; clear hg hw hp_))
                  (try simp only [← hl11_1])
                  go_roundg k1
                  case measure => have := HK1.out; omega
                  case rel => exact ⟨(y306), (wrap64 (x33_1 + 1)), (by first | rfl | (simp; done) | (simp [*]; done)), H', ⟨by have := HK1.out; omega⟩, ⟨by (try simp only [hl11_1]); (with_reducible repeat (first | apply Kd.R_alloc | apply Kd.R_drewN | apply Kd.R_drew)); exact HO_11.out⟩, ⟨by (try simp only [hl11_1]); (with_reducible repeat (first | apply Kd.R_alloc | apply Kd.R_drewN | apply Kd.R_drew)); exact Kd.R_mono HO_12.out (fun _ hk => hk.2)⟩, ⟨by repeat (first | (with_reducible first | exact HB.out | apply below_alloc | apply pw_below_drewN | apply below_drew1) | exact HB.out)⟩⟩
              · rw [if_neg c22] at H
                exact absurd H (by simp)
            · rw [if_neg c21] at H
              exact absurd H (by simp)
          · replace c20 := Bool.eq_false_iff.mpr c20
            subst c20
            have H1 : (if 0 ≤ x33_1 then (if x33_1 < (x11_1.length : Int) then (if rdOf false x11_1 x33_1 = true then (chaseref1_MixedOf.l0 k1 false (x11_1.set (x33_1 : Int).toNat true) t300 (t297.length : Int) (wrap64 (x33_1 + 1))) else (if x33_1 < (t300.length : Int) then (chaseref1_MixedOf.l0 k1 false (x11_1.set (x33_1 : Int).toNat (rdOf false t300 x33_1)) t300 (t297.length : Int) (wrap64 (x33_1 + 1))) else (none))) else (none)) else (none)) = some (r1, r2) := by rw [if_neg (show ¬ (false = true) by decide)] at H; exact H
            clear H
            have H := H1
            clear H1
            by_cases c33 : 0 ≤ x33_1
            · rw [if_pos c33] at H
              have c33b0 : decide (0 ≤ x33_1) = true := decide_eq_true c33
              clear c33
              by_cases c34 : x33_1 < (x11_1.length : Int)
              · rw [if_pos c34] at H
                have c34b0 : decide (x33_1 < (x11_1.length : Int)) = true := decide_eq_true c34
                clear c34
                obtain ⟨bq35, hbq35⟩ : ∃ b_ : Bool, b_ = (rdOf false x11_1 x33_1) := ⟨_, rfl⟩
                replace H : (if bq35 = true then (chaseref1_MixedOf.l0 k1 false (x11_1.set (x33_1 : Int).toNat true) t300 (t297.length : Int) (wrap64 (x33_1 + 1))) else (if x33_1 < (t300.length : Int) then (chaseref1_MixedOf.l0 k1 false (x11_1.set (x33_1 : Int).toNat (rdOf false t300 x33_1)) t300 (t297.length : Int) (wrap64 (x33_1 + 1))) else (none))) = some (r1, r2) := by rw [← hbq35] at H; exact H
                have Nbq35 := Aside0.mk hbq35
                clear hbq35
                by_cases c36 : bq35 = true
                · subst c36
                  have H1 : (chaseref1_MixedOf.l0 k1 false (x11_1.set (x33_1 : Int).toNat true) t300 (t297.length : Int) (wrap64 (x33_1 + 1))) = some (r1, r2) := by rw [if_pos rfl] at H; exact H
                  clear H
                  have H := H1
                  clear H1
                  obtain ⟨y308, hy308⟩ : ∃ y_ : List Bool, y_ = (x11_1.set (x33_1 : Int).toNat true) := ⟨_, rfl⟩
                  replace H : (chaseref1_MixedOf.l0 k1 false y308 t300 (t297.length : Int) (wrap64 (x33_1 + 1))) = some (r1, r2) := by first | (rw [hy308]; with_reducible exact H) | (have H2_ := (Option.bind_some _ _).symm.trans H; rw [hy308]; with_reducible exact H2_) | (have H2_ := (Option.bind_some _ _).symm.trans H; with_reducible exact H2_) | with_reducible exact H | (rw [hy308]; exact H) | exact H
                  have Ny308 := Aside0.mk hy308
                  clear hy308
                  have H' := Aside0.mk H
                  clear H
                  have p307 : 0 ≤ (x33_1 : Int) := of_decide_eq_true (by first | (with_reducible assumption) | assumption)
                  have q307 : x33_1 < (x11_1.length : Int) := of_decide_eq_true (by first | (with_reducible assumption) | assumption)
                  obtain ⟨ad307, e307, hx307_0⟩ := Kd.at_bool (Kd.R_reads' HO_11.out).2.2 x33_1 p307 q307
                  (try rw [← Nbq35.out] at hx307_0)
                  cases e307
                  replace p307 := eq_true p307
                  replace q307 := eq_true q307
                  have p37 : 0 ≤ (x33_1 : Int) := of_decide_eq_true (by first | (with_reducible assumption) | assumption)
                  have q37 : (x33_1 : Int) < ((x11_1.length : Int) : Int) := of_decide_eq_true (by first | (with_reducible assumption) | assumption)
                  obtain ⟨go37, co37, eo37, gb37, gl37, cl37, HG37⟩ := Kd.R_form HO_11.out (by omega)
                  (first | cases eo37 | (injection eo37 with ea_ en_ ec_; (first | subst ea_ | (injection ea_ with ea_; subst ea_)); subst ec_; clear en_))
                  have GB37 := Aside0.mk gb37
                  have GG37 := Aside0.mk HG37
                  clear gb37 gl37 HG37
                  (first | simp only [add_plain] at hx307_0 | skip)
                  obtain ⟨hx37_0, hf37_0⟩ := Kd.R_celln false HO_11.out (x33_1 : Int) p37 q37
                  replace p37 := eq_true p37
                  replace q37 := eq_true q37
                  have HP38 := Kd.R_putg HO_11.out (x33_1 : Int) true
                  go_wp2_with (first | ((with_reducible refine gate_store (t := 4) (p := 63) rfl ?_); refine store_event (t := 4) (p := 63) (v := ?vo_w39) (w1 := (wr.setCell ⟨go37, (x33_1 : Int).toNat, none⟩ (.bool true))) ?hg ?ho ?hn ?hr ?_; (case ho => rfl); (case hg => rfl); (case hn => rfl); (case hr => first | (go_simp; done) | (go_simp; rfl)); intro w39 hw; have hg : wr.grownBy w39 (some go37) := (by rw [hw]; exact HP38.2); have hp_ : Kd.R Kd.bool 4 w39 w.heap.size (fun k_ => some k_ ≠ (v301 : Value).ownBlock) (.slice (some ⟨go37, 0, none⟩) x11_1.length co18) y308 := (by rw [hw, Ny308.out]; exact HP38.1); clear HP38; have n0_ := Aside0.mk (hp_); have n1_ := Aside0.mk (Kd.R_after (v := (.slice (some ⟨go37, 0, none⟩) x11_1.length co18)) (v1 := (.slice (some ⟨go37, 0, none⟩) x11_1.length co18)) (ok := (fun _ => True)) (by (with_reducible repeat (first | apply Kd.R_alloc | apply Kd.R_drewN | apply Kd.R_drew)); exact Kd.R_mono HO_12.out (fun _ hk => ⟨trivial, hk⟩)) hg (.inl rfl)); have n2_ := Aside0.mk ((by rw [hw]; exact below_set (HB.out) GB37.out : Below w.heap.size w w39)); clear HO_11; clear HO_12; clear HB; have HO_11 := n0_; have HO_12 := n1_; have HB := n2_; clear n0_ n1_ n2_; clear hg hw hp_))
                  (try simp only [← hl11_1])
                  go_roundg k1
                  case measure => have := HK1.out; omega
                  case rel => exact ⟨(y308), (wrap64 (x33_1 + 1)), (by first | rfl | (simp; done) | (simp [*]; done)), H', ⟨by have := HK1.out; omega⟩, ⟨by (try simp only [hl11_1]); (with_reducible repeat (first | apply Kd.R_alloc | apply Kd.R_drewN | apply Kd.R_drew)); exact HO_11.out⟩, ⟨by (try simp only [hl11_1]); (with_reducible repeat (first | apply Kd.R_alloc | apply Kd.R_drewN | apply Kd.R_drew)); exact Kd.R_mono HO_12.out (fun _ hk => hk.2)⟩, ⟨by repeat (first | (with_reducible first | exact HB.out | apply below_alloc | apply pw_below_drewN | apply below_drew1) | exact HB.out)⟩⟩
                · replace c36 := Bool.eq_false_iff.mpr c36
                  subst c36
                  have H1 : (if x33_1 < (t300.length : Int) then (chaseref1_MixedOf.l0 k1 false (x11_1.set (x33_1 : Int).toNat (rdOf false t300 x33_1)) t300 (t297.length : Int) (wrap64 (x33_1 + 1))) else (none)) = some (r1, r2) := by rw [if_neg (show ¬ (false = true) by decide)] at H; exact H
                  clear H
                  have H := H1
                  clear H1
                  by_cases c40 : x33_1 < (t300.length : Int)
                  · rw [if_pos c40] at H
                    have c40b0 : decide (x33_1 < (t300.length : Int)) = true := decide_eq_true c40
                    clear c40
                    obtain ⟨y310, hy310⟩ : ∃ y_ : List Bool, y_ = (x11_1.set (x33_1 : Int).toNat (rdOf false t300 x33_1)) := ⟨_, rfl⟩
                    replace H : (chaseref1_MixedOf.l0 k1 false y310 t300 (t297.length : Int) (wrap64 (x33_1 + 1))) = some (r1, r2) := by first | (rw [hy310]; with_reducible exact H) | (have H2_ := (Option.bind_some _ _).symm.trans H; rw [hy310]; with_reducible exact H2_) | (have H2_ := (Option.bind_some _ _).symm.trans H; with_reducible exact H2_) | with_reducible exact H | (rw [hy310]; exact H) | exact H
                    have Ny310 := Aside0.mk hy310
                    clear hy310
                    have H' := Aside0.mk H
                    clear H
                    have p307 : 0 ≤ (x33_1 : Int) := of_decide_eq_true (by first | (with_reducible assumption) | assumption)
                    have q307 : x33_1 < (x11_1.length : Int) := of_decide_eq_true (by first | (with_reducible assumption) | assumption)
                    obtain ⟨ad307, e307, hx307_0⟩ := Kd.at_bool (Kd.R_reads' HO_11.out).2.2 x33_1 p307 q307
                    (try rw [← Nbq35.out] at hx307_0)
                    cases e307
                    replace p307 := eq_true p307
                    replace q307 := eq_true q307
                    obtain ⟨Ao42, co42, eo42⟩ := Kd.R_slice HO_12.out
                    subst eo42
                    have p309 : 0 ≤ (x33_1 : Int) := of_decide_eq_true (by first | (with_reducible assumption) | assumption)
                    have q309 : x33_1 < (t300.length : Int) := of_decide_eq_true (by first | (with_reducible assumption) | assumption)
                    obtain ⟨ad309, e309, hx309_0⟩ := Kd.at_bool (Kd.R_reads' HO_12.out).2.2 x33_1 p309 q309
                    (try rw [← Nbq35.out] at hx309_0)
                    cases e309
                    replace p309 := eq_true p309
                    replace q309 := eq_true q309
                    have p41 : 0 ≤ (x33_1 : Int) := of_decide_eq_true (by first | (with_reducible assumption) | assumption)
                    have q41 : (x33_1 : Int) < ((x11_1.length : Int) : Int) := of_decide_eq_true (by first | (with_reducible assumption) | assumption)
                    obtain ⟨go41, co41, eo41, gb41, gl41, cl41, HG41⟩ := Kd.R_form HO_11.out (by omega)
                    (first | cases eo41 | (injection eo41 with ea_ en_ ec_; (first | subst ea_ | (injection ea_ with ea_; subst ea_)); subst ec_; clear en_))
                    have GB41 := Aside0.mk gb41
                    have GG41 := Aside0.mk HG41
                    clear gb41 gl41 HG41
                    (first | simp only [add_plain] at hx307_0 | skip)
                    obtain ⟨hx41_0, hf41_0⟩ := Kd.R_celln false HO_11.out (x33_1 : Int) p41 q41
                    replace p41 := eq_true p41
                    replace q41 := eq_true q41
                    have HP43 := Kd.R_putg HO_11.out (x33_1 : Int) (rdOf false t300 x33_1)
                    go_wp2_with (first | ((with_reducible refine gate_store (t := 4) (p := 63) rfl ?_); refine store_event (t := 4) (p := 63) (v := ?vo_w44) (w1 := (wr.setCell ⟨go41, (x33_1 : Int).toNat, none⟩ (.bool (rdOf false t300 x33_1)))) ?hg ?ho ?hn ?hr ?_; (case ho => rfl); (case hg => rfl); (case hn => rfl); (case hr => first | (go_simp; done) | (go_simp; rfl)); intro w44 hw; have hg : wr.grownBy w44 (some go41) := (by rw [hw]; exact HP43.2); have hp_ : Kd.R Kd.bool 4 w44 w.heap.size (fun k_ => some k_ ≠ (.slice (some ad309) t300.length co42 : Value).ownBlock) (.slice (some ⟨go41, 0, none⟩) x11_1.length co18) y310 := (by rw [hw, Ny310.out]; exact HP43.1); clear HP43; have n0_ := Aside0.mk (hp_); have n1_ := Aside0.mk (Kd.R_after (v := (.slice (some ⟨go41, 0, none⟩) x11_1.length co18)) (v1 := (.slice (some ⟨go41, 0, none⟩) x11_1.length co18)) (ok := (fun _ => True)) (by (with_reducible repeat (first | apply Kd.R_alloc | apply Kd.R_drewN | apply Kd.R_drew)); exact Kd.R_mono HO_12.out (fun _ hk => ⟨trivial, hk⟩)) hg (.inl rfl)); have n2_ := Aside0.mk ((by rw [hw]; exact below_set (HB.out) GB41.out : Below w.heap.size w w44)); clear HO_11; clear HO_12; clear HB; have HO_11 := n0_; have HO_12 := n1_; have HB := n2_; clear n0_ n1_ n2_; clear hg hw hp_))
                    (try simp only [← hl11_1])
                    go_roundg k1
                    case measure => have := HK1.out; omega
                    case rel => exact ⟨(y310), (wrap64 (x33_1 + 1)), (by first | rfl | (simp; done) | (simp [*]; done)), H', ⟨by have := HK1.out; omega⟩, ⟨by (try simp only [hl11_1]); (with_reducible repeat (first | apply Kd.R_alloc | apply Kd.R_drewN | apply Kd.R_drew)); exact HO_11.out⟩, ⟨by (try simp only [hl11_1]); (with_reducible repeat (first | apply Kd.R_alloc | apply Kd.R_drewN | apply Kd.R_drew)); exact Kd.R_mono HO_12.out (fun _ hk => hk.2)⟩, ⟨by repeat (first | (with_reducible first | exact HB.out | apply below_alloc | apply pw_below_drewN | apply below_drew1) | exact HB.out)⟩⟩
                  · rw [if_neg c40] at H
                    exact absurd H (by simp)
              · rw [if_neg c34] at H
                exact absurd H (by simp)
            · rw [if_neg c33] at H
              exact absurd H (by simp)
        · rw [if_neg c19] at H
          have c19b0 : decide (x33_1 < (t297.length : Int)) = false := decide_eq_false c19
          (try simp only [hl11_1] at c19b0)
          clear c19
          replace H := Option.bind_eq_some_iff.mp H
          obtain ⟨t311, A450, H⟩ := H
          replace H : ((chaseref1_bounded.f t311).bind fun bt314 => (some (bt314.1, bt314.2))) = some (r1, r2) := H
          have A45 := Aside0.mk A450
          clear A450
          replace H := Option.bind_eq_some_iff.mp H
          obtain ⟨⟨t314, t317⟩, A460, H⟩ := H
          replace H : (some (t314, t317)) = some (r1, r2) := H
          have A46 := Aside0.mk A460
          clear A460
          simp only [Option.some.injEq, Prod.mk.injEq] at H
          obtain ⟨rfl, rfl⟩ := H
          go_wp2_with (first | ((with_reducible refine gate_callee (f := 91) rfl ?_); refine goesL_ (some 66) rfl rfl Tryd.func91 (by kernel_rfl) rfl #[.slice Ao18 x11_1.length co18] rfl (by (try simp only [List.map_toArray, List.map_cons, List.map_nil]); first | done | rfl | (simp only [List.length_drop, List.length_take]; rfl)) ?_; (with_reducible refine (chaseref1_spansFrom.calls k1 _ _ x11_1 t311 _ ?side1 ?side2 A45.out).mono ?_); (case side1 => repeat (first | exact (Kd.R_reads' HO_11.out).2.2 | (with_reducible refine Kd.C_alloc ?_ _) | (with_reducible refine Kd.C_drewN ?_ _) | (with_reducible refine Kd.C_drew ?_))); (case side2 => exact (Kd.R_reads' HO_11.out).2.1); rintro e w47 ⟨v312, rfl, ho0, hb⟩; refine ⟨_, rfl, ?_⟩; have n0_ := Aside0.mk (Kd.R_below (by (with_reducible repeat (first | apply Kd.R_alloc | apply Kd.R_drewN | apply Kd.R_drew)); exact HO_11.out) hb); have n1_ := Aside0.mk (Kd.R_below (by (with_reducible repeat (first | apply Kd.R_alloc | apply Kd.R_drewN | apply Kd.R_drew)); exact HO_12.out) hb); have n2_ := Aside0.mk (Kd.R_lower ho0 (below_size (by repeat (first | (with_reducible first | exact HB.out | apply below_alloc | apply pw_below_drewN | apply below_drew1) | exact HB.out)))); have n3_ := Aside0.mk (below_step (by repeat (first | (with_reducible first | exact HB.out | apply below_alloc | apply pw_below_drewN | apply below_drew1) | exact HB.out)) hb); clear HO_11; clear HO_12; clear HB; have HO_11 := n0_; have HO_12 := n1_; have HO313 := n2_; have HB := n3_; clear n0_ n1_ n2_ n3_; (try clear hb); (try clear hb2); (try clear hk); (try clear hi); (try clear ho0); obtain ⟨Ao48, co48, eo48⟩ := Kd.R_slice HO313.out; subst eo48) | ((with_reducible refine gate_callee (f := 90) rfl ?_); refine goesL_ (some 67) rfl rfl Tryd.func90 (by kernel_rfl) rfl #[.slice Ao48 t311.length co48] rfl (by (try simp only [List.map_toArray, List.map_cons, List.map_nil]); first | done | rfl | (simp only [List.length_drop, List.length_take]; rfl)) ?_; (with_reducible refine (chaseref1_bounded.calls (fun k_ => some k_ = (.slice Ao48 t311.length co48 : Value).ownBlock) (.slice Ao48 t311.length co48) t311 t314 t317 w _ ?side1 ?side2 A46.out).mono ?_); (case side1 => repeat (first | (with_reducible first | exact HB.out | apply below_alloc | apply pw_below_drewN | apply below_drew1) | exact HB.out)); (case side2 => exact Kd.R_tight rfl HO313.out); rintro e w49 ⟨v315, rfl, ho0, hb, hkp⟩; refine ⟨_, rfl, ?_⟩; have n0_ := Aside0.mk (Kd.R_mono (ok' := fun k_ => some k_ ≠ (v301 : Value).ownBlock) (Kd.R_keptB ((Kd.R_apart' HO_11.out (Kd.R_typed HO313.out) (by decide))) hkp (fun k_ hk_ hs_ => (hk_.2) hs_)) (fun k_ hk_ => hk_.1.1)); have n1_ := Aside0.mk (Kd.R_mono (ok' := fun k_ => some k_ ≠ (.slice Ao18 x11_1.length co18 : Value).ownBlock) (Kd.R_keptB ((Kd.R_apart' HO_12.out (Kd.R_typed HO313.out) (by decide))) hkp (fun k_ hk_ hs_ => (hk_.2) hs_)) (fun k_ hk_ => hk_.1.1)); have n2_ := Aside0.mk (Kd.R_mono (ok' := fun k_ => True) ho0 (fun k_ hk_ => trivial)); have n3_ := Aside0.mk (hb); clear HO_11; clear HO_12; clear HB; clear HO313; have HO_11 := n0_; have HO_12 := n1_; have HO316 := n2_; have HB := n3_; clear n0_ n1_ n2_ n3_; (try clear hb); (try clear hkp); (try clear ho0)))
          go_ret2
          exact ⟨_, by first | rfl | (simp [errW_none, errW_some] <;> rfl) | (simp [*, errW_none, errW_some] <;> rfl), by (with_reducible repeat (first | apply Kd.R_alloc | apply Kd.R_drewN | apply Kd.R_drew)); exact HO316.out, by repeat (first | (with_reducible first | exact HB.out | apply below_alloc | apply pw_below_drewN | apply below_drew1) | exact HB.out)⟩
  · rw [if_neg c8] at H
    have c8b0 : (t296 == 0) = false := beq_eq_false_iff_ne.mpr c8
    have c8b1 : (t296 != 0) = true := bne_iff_ne.mpr c8
    simp only [Option.some.injEq, Prod.mk.injEq] at H
    obtain ⟨rfl, rfl⟩ := H
    go_enter Tryd.func26, Tryd.ntmps26
    go_wp2_with (first | ((with_reducible refine gate_callee (f := 23) rfl ?_); refine goesL_ (some 16) rfl rfl Tryd.func23 (by kernel_rfl) rfl #[.slice A0 l0.length c0, .int .i64 a2] rfl (by (try simp only [List.map_toArray, List.map_cons, List.map_nil]); first | done | rfl | (simp only [List.length_drop, List.length_take]; rfl)) ?_; (with_reducible refine (chaseref1_SpansFault.calls k _ _ l0 a2 t291 _ ?side1 ?side2 A5.out).mono ?_); (case side1 => repeat (first | exact HR0.out | (with_reducible refine Kd.C_alloc ?_ _) | (with_reducible refine Kd.C_drewN ?_ _) | (with_reducible refine Kd.C_drew ?_))); (case side2 => exact HC0.out); rintro e w50 ⟨rfl, hb⟩; refine ⟨_, rfl, ?_⟩; have n0_ := Aside0.mk (below_step (by repeat (first | (with_reducible first | exact HB.out | apply below_alloc | apply pw_below_drewN | apply below_drew1) | exact HB.out)) hb); clear HB; have HB := n0_; clear n0_; (try clear hb); (try clear hb2); (try clear hk); (try clear hi)) | ((with_reducible refine gate_callee (f := 23) rfl ?_); refine goesL_ (some 19) rfl rfl Tryd.func23 (by kernel_rfl) rfl #[.slice A1 l1.length c1, .int .i64 a2] rfl (by (try simp only [List.map_toArray, List.map_cons, List.map_nil]); first | done | rfl | (simp only [List.length_drop, List.length_take]; rfl)) ?_; (with_reducible refine (chaseref1_SpansFault.calls k _ _ l1 a2 t292 _ ?side1 ?side2 A6.out).mono ?_); (case side1 => repeat (first | exact (Kd.C_below HR1.out HB.out) | (with_reducible refine Kd.C_alloc ?_ _) | (with_reducible refine Kd.C_drewN ?_ _) | (with_reducible refine Kd.C_drew ?_))); (case side2 => exact HC1.out); rintro e w51 ⟨rfl, hb⟩; refine ⟨_, rfl, ?_⟩; have n0_ := Aside0.mk (below_step (by repeat (first | (with_reducible first | exact HB.out | apply below_alloc | apply pw_below_drewN | apply below_drew1) | exact HB.out)) hb); clear HB; have HB := n0_; clear n0_; (try clear hb); (try clear hb2); (try clear hk); (try clear hi)) | ((with_reducible refine gate_dst (N := 20) rfl ?_); refine Kd.R_lit (Kd.int .i64) _ 29 ?hg (N := 20) ?hd (xs := ([t291, t292] : List Int)) (inner := [.int .i64 t291, .int .i64 t292]) (ok := fun _ => True) (okp := fun _ => True) ?hr ?hp (fun _ hk => hk) trivial (Below.refl _ _) (Nat.le_refl _) (by simp) ?_; (case hd => rfl); (case hg => rfl); (case hr => first | (go_simp; done) | (go_simp; rfl)); (case hp => exact (Reps.one (show Kd.M (Kd.int .i64) _ _ _ t291 [.int .i64 t291] from rfl) (Reps.one (show Kd.M (Kd.int .i64) _ _ _ t292 [.int .i64 t292] from rfl) (Reps.none _ _)))); intro v294 w52 ho53 hb hg_ hnew_; clear hg_ hnew_; (first | rw [← Ny293.out] at ho53 | (simp only [Int.reduceToNat] at ho53; rw [← Ny293.out] at ho53)); have n0_ := Aside0.mk (Kd.R_lower ho53 (below_size (by repeat (first | (with_reducible first | exact HB.out | apply below_alloc | apply pw_below_drewN | apply below_drew1) | exact HB.out)))); have n1_ := Aside0.mk (below_step (by repeat (first | (with_reducible first | exact HB.out | apply below_alloc | apply pw_below_drewN | apply below_drew1) | exact HB.out)) hb); clear HB; have HO295 := n0_; have HB := n1_; clear n0_ n1_; clear hb ho53; obtain ⟨Ao54, co54, eo54⟩ := Kd.R_slice HO295.out; subst eo54) | ((with_reducible refine gate_callee (f := 88) rfl ?_); refine goesL_ (some 21) rfl rfl Tryd.func88 (by kernel_rfl) rfl #[.slice Ao54 y293.length co54] rfl (by (try simp only [List.map_toArray, List.map_cons, List.map_nil]); first | done | rfl | (simp only [List.length_drop, List.length_take]; rfl)) ?_; (with_reducible refine (api_Errno.calls k _ _ y293 t296 _ ?side1 ?side2 A7.out).mono ?_); (case side1 => repeat (first | exact (Kd.R_reads' HO295.out).2.2 | (with_reducible refine Kd.C_alloc ?_ _) | (with_reducible refine Kd.C_drewN ?_ _) | (with_reducible refine Kd.C_drew ?_))); (case side2 => exact (Kd.R_reads' HO295.out).2.1); rintro e w' ⟨rfl, ⟨nd, rfl⟩⟩; refine ⟨_, rfl, ?_⟩))
    go_ret2
    exact ⟨_, by first | rfl | (simp [errW_none, errW_some] <;> rfl) | (simp [*, errW_none, errW_some] <;> rfl), by first | exact Kd.R_nil _ _ _ _ _ | exact Kd.N_nil _ _ _ _ _ | exact Kd.V_nil _ _ _ _ _ | exact Kd.Q_nil _ _ _ _ _ | exact Kd.S_nil _ _ _ _ _, by repeat (first | (with_reducible first | exact HB.out | apply below_alloc | apply pw_below_drewN | apply below_drew1) | exact HB.out)⟩
def api_Span_27.l0 : Nat → List (S46) → List (S46) → Int → Int → Option (Bool)
  | 0, _, _, _, _ => none
  | k + 1, x0, x1, x12, x13 => if x13 < x12 then (if 0 ≤ x13 then (if x13 < (x0.length : Int) then (if x13 < (x1.length : Int) then (if (!(((rd_T46 x0 x13).f0) == ((rd_T46 x1 x13).f0)) || (!(((rd_T46 x0 x13).f1) == ((rd_T46 x1 x13).f1)))) = true then (some false) else (api_Span_27.l0 k x0 x1 x12 (wrap64 (x13 + 1)))) else (none)) else (none)) else (none)) else (some true)
def api_Span_27.f (k : Nat) (l0 : List (S46)) (l1 : List (S46)) : Option (Bool) := if (l0.length : Int) = (l1.length : Int) then (api_Span_27.l0 k l0 l1 (l0.length : Int) 0) else (some false)
theorem api_Span_27.mono_l : ∀ k, (∀ y0 y1 y2 y3, LeO (api_Span_27.l0 k y0 y1 y2 y3) (api_Span_27.l0 (k + 1) y0 y1 y2 y3))
  | 0 => fun _ _ _ _ r h => by simp [api_Span_27.l0] at h
  | k + 1 => by
    have ih0 := api_Span_27.mono_l k
    · intro y0 y1 y2 y3
      unfold api_Span_27.l0
      repeat' first
      | (with_reducible exact ih0 _ _ _ _)
      | (with_reducible exact LeO.refl _)
      | (with_reducible exact LeO.none _)
      | (with_reducible refine LeO.ite ?_ ?_)
      | (with_reducible refine LeO.bind ?_ (fun _ => ?_))
      | exact ih0 _ _ _ _
      | exact LeO.none _
      | refine LeO.ite ?_ ?_
      | refine LeO.bind ?_ (fun _ => ?_)
theorem api_Span_27.mono : ∀ a0 a1 k, LeO (api_Span_27.f k a0 a1) (api_Span_27.f (k + 1) a0 a1) := by
  intro a0 a1 k
  have ih0 := api_Span_27.mono_l k
  unfold api_Span_27.f
  repeat' first
      | (with_reducible exact ih0 _ _ _ _)
      | (with_reducible exact LeO.refl _)
      | (with_reducible exact LeO.none _)
      | (with_reducible refine LeO.ite ?_ ?_)
      | (with_reducible refine LeO.bind ?_ (fun _ => ?_))
      | exact ih0 _ _ _ _
      | exact LeO.none _
      | refine LeO.ite ?_ ?_
      | refine LeO.bind ?_ (fun _ => ?_)
set_option maxHeartbeats 8000000 in
set_option maxRecDepth 100000 in
theorem api_Span_27.calls (k : Nat) (A0 : Option Addr) (c0 : Nat) (l0 : List (S46)) (A1 : Option Addr) (c1 : Nat) (l1 : List (S46)) (r : Bool) (w : World) (hr0 : Kd.C k46 w A0 l0.length l0) (hc0 : l0.length ≤ c0) (hr1 : Kd.C k46 w A1 l1.length l1) (hc1 : l1.length ≤ c1) (h : api_Span_27.f k l0 l1 = some r) :
    Calls Tryd.prog 27 #[.slice A0 l0.length c0, .slice A1 l1.length c1] w fun e w' => e = .returned (.bool r) ∧ Drawn0 w w' := by
  have hu46 := Tryd.underlying46
  have HR0 := Aside0.mk hr0
  have HC0 := Aside0.mk hc0
  clear hr0 hc0
  have HR1 := Aside0.mk hr1
  have HC1 := Aside0.mk hc1
  clear hr1 hc1
  have H : (if (l0.length : Int) = (l1.length : Int) then (api_Span_27.l0 k l0 l1 (l0.length : Int) 0) else (some false)) = some r := h
  clear h
  by_cases c3 : (l0.length : Int) = (l1.length : Int)
  · rw [if_pos c3] at H
    have c3b0 : ((l0.length : Int) == (l1.length : Int)) = true := beq_iff_eq.mpr c3
    have c3b1 : ((l0.length : Int) != (l1.length : Int)) = false := bne_eq_false_iff_eq.mpr c3
    have c3b2 : (l0.length == l1.length) = true := by first | simpa using c3 | (simp at c3 ⊢; omega)
    clear c3
    have H' := Aside0.mk H
    clear H
    go_enter Tryd.func27, Tryd.ntmps27
    go_wp2
    repeat (go_quiet (fail); try go_wp2)
    go_loopg [13] k (fun kq v13 w' => ∃ (x13_1 : Int), v13 = .int .i64 x13_1 ∧ Aside0 (api_Span_27.l0 kq l0 l1 (l0.length : Int) x13_1 = some r) ∧ Aside0 (kq ≤ k) ∧ Drawn0 w w')
    case atStart => exact ⟨(0), (by first | rfl | (simp; done) | (simp [*]; done)), H', ⟨Nat.le_refl _⟩, by repeat (first | exact Drawn0.refl _ | apply Drawn0.step)⟩
    case round =>
      clear H'
      try clear c1
      try clear c2
      try clear p2
      try clear c3
      try clear c3b0
      try clear c3b1
      try clear c3b2
      obtain ⟨x13_1, rfl, HA, HK1, ⟨m1, rfl⟩⟩ := hrel
      cases gk with
      | zero => exact absurd HA.out (by simp [api_Span_27.l0])
      | succ k1 =>
        have H := HA.out
        clear HA
        simp only [api_Span_27.l0] at H
        by_cases c4 : x13_1 < (l0.length : Int)
        · rw [if_pos c4] at H
          have c4b0 : decide (x13_1 < (l0.length : Int)) = true := decide_eq_true c4
          clear c4
          by_cases c5 : 0 ≤ x13_1
          · rw [if_pos c5] at H
            have c5b0 : decide (0 ≤ x13_1) = true := decide_eq_true c5
            clear c5
            by_cases c6 : x13_1 < (l0.length : Int)
            · rw [if_pos c6] at H
              have c6b0 : decide (x13_1 < (l0.length : Int)) = true := decide_eq_true c6
              clear c6
              by_cases c7 : x13_1 < (l1.length : Int)
              · rw [if_pos c7] at H
                have c7b0 : decide (x13_1 < (l1.length : Int)) = true := decide_eq_true c7
                clear c7
                by_cases c8 : (!(((rd_T46 l0 x13_1).f0) == ((rd_T46 l1 x13_1).f0)) || (!(((rd_T46 l0 x13_1).f1) == ((rd_T46 l1 x13_1).f1)))) = true
                · rw [if_pos c8] at H
                  have c8b0 : (!(((rd_T46 l0 x13_1).f0) == ((rd_T46 l1 x13_1).f0)) || (!(((rd_T46 l0 x13_1).f1) == ((rd_T46 l1 x13_1).f1)))) = true := c8
                  clear c8
                  obtain rfl := Option.some.inj H
                  have p318 : 0 ≤ (x13_1 : Int) := of_decide_eq_true (by first | (with_reducible assumption) | assumption)
                  have q318 : x13_1 < (l0.length : Int) := of_decide_eq_true (by first | (with_reducible assumption) | assumption)
                  obtain ⟨ad318, e318, hx318_0, hx318_1⟩ := at_T46 HR0.out x13_1 p318 q318
                  cases e318
                  replace p318 := eq_true p318
                  replace q318 := eq_true q318
                  have p319 : 0 ≤ (x13_1 : Int) := of_decide_eq_true (by first | (with_reducible assumption) | assumption)
                  have q319 : x13_1 < (l1.length : Int) := of_decide_eq_true (by first | (with_reducible assumption) | assumption)
                  obtain ⟨ad319, e319, hx319_0, hx319_1⟩ := at_T46 HR1.out x13_1 p319 q319
                  cases e319
                  replace p319 := eq_true p319
                  replace q319 := eq_true q319
                  go_wp2
                  repeat (go_quiet (fail); try go_wp2)
                  go_ret
                  exact ⟨by first | rfl | (simp; done) | (simp [*]; done), by repeat (first | exact Drawn0.refl _ | apply Drawn0.step)⟩
                · rw [if_neg c8] at H
                  have c8b0 : (!(((rd_T46 l0 x13_1).f0) == ((rd_T46 l1 x13_1).f0)) || (!(((rd_T46 l0 x13_1).f1) == ((rd_T46 l1 x13_1).f1)))) = false := by simpa using c8
                  clear c8
                  have H' := Aside0.mk H
                  clear H
                  have p318 : 0 ≤ (x13_1 : Int) := of_decide_eq_true (by first | (with_reducible assumption) | assumption)
                  have q318 : x13_1 < (l0.length : Int) := of_decide_eq_true (by first | (with_reducible assumption) | assumption)
                  obtain ⟨ad318, e318, hx318_0, hx318_1⟩ := at_T46 HR0.out x13_1 p318 q318
                  cases e318
                  replace p318 := eq_true p318
                  replace q318 := eq_true q318
                  have p319 : 0 ≤ (x13_1 : Int) := of_decide_eq_true (by first | (with_reducible assumption) | assumption)
                  have q319 : x13_1 < (l1.length : Int) := of_decide_eq_true (by first | (with_reducible assumption) | assumption)
                  obtain ⟨ad319, e319, hx319_0, hx319_1⟩ := at_T46 HR1.out x13_1 p319 q319
                  cases e319
                  replace p319 := eq_true p319
                  replace q319 := eq_true q319
                  go_wp2
                  repeat (go_quiet (fail); try go_wp2)
                  go_roundg k1
                  case measure => have := HK1.out; omega
                  case rel => exact ⟨(wrap64 (x13_1 + 1)), (by first | rfl | (simp; done) | (simp [*]; done)), H', ⟨by have := HK1.out; omega⟩, by repeat (first | exact Drawn0.refl _ | apply Drawn0.step)⟩
              · rw [if_neg c7] at H
                exact absurd H (by simp)
            · rw [if_neg c6] at H
              exact absurd H (by simp)
          · rw [if_neg c5] at H
            exact absurd H (by simp)
        · rw [if_neg c4] at H
          have c4b0 : decide (x13_1 < (l0.length : Int)) = false := decide_eq_false c4
          clear c4
          obtain rfl := Option.some.inj H
          go_wp2
          repeat (go_quiet (fail); try go_wp2)
          go_ret
          exact ⟨by first | rfl | (simp; done) | (simp [*]; done), by repeat (first | exact Drawn0.refl _ | apply Drawn0.step)⟩
  · rw [if_neg c3] at H
    have c3b0 : ((l0.length : Int) == (l1.length : Int)) = false := beq_eq_false_iff_ne.mpr c3
    have c3b1 : ((l0.length : Int) != (l1.length : Int)) = true := bne_iff_ne.mpr c3
    have c3b2 : (l0.length == l1.length) = false := by first | simpa using c3 | (simp at c3 ⊢; omega)
    obtain rfl := Option.some.inj H
    go_enter Tryd.func27, Tryd.ntmps27
    go_wp2
    repeat (go_quiet (fail); try go_wp2)
    go_ret
    exact ⟨by first | rfl | (simp; done) | (simp [*]; done), by repeat (first | exact Drawn0.refl _ | apply Drawn0.step)⟩
def chaselaw1_SpansMixed.j0 : Nat → Bool → Option (Bool)
  | 0, _ => none
  | k + 1, x2 => some x2
def chaselaw1_SpansMixed.f (k : Nat) (l0 : List Int) : Option (Bool) := (chasemake_Stream_Pick.f l0 0 (([0, 5, 20, 40, 200000, (-1), 200001] : List Int))).bind fun bt324 => ((chasemake_Stream_AnySpans.f k l0 bt324.2 (mx bt324.1 0)).bind fun bt326 => ((chasemake_Stream_AnySpans.f k l0 bt326.2 (mx bt324.1 0)).bind fun bt330 => ((privilege_CheckSpans.f k bt326.1 bt324.1).bind fun t334 => ((chaseref1_SpansFault.f k bt326.1 bt324.1).bind fun t335 => (if t334 = t335 then ((privilege_Union.f k bt326.1 bt330.1 bt324.1).bind fun bt336 => ((privilege_Without.f k bt326.1 bt330.1 bt324.1).bind fun bt340 => ((chaseref1_MixedOf.f k bt326.1 bt330.1 bt324.1 false).bind fun bt344 => ((chaseref1_MixedOf.f k bt326.1 bt330.1 bt324.1 true).bind fun bt348 => ((chaselaw1_privileges.f k).bind fun t352 => (if t352 = true then (if bt336.2 = bt344.2 then (if bt340.2 = bt348.2 then ((api_Span_27.f k bt336.1 bt344.1).bind fun t353 => (if t353 = true then ((api_Span_27.f k bt340.1 bt348.1).bind fun t354 => (chaselaw1_SpansMixed.j0 k t354)) else (chaselaw1_SpansMixed.j0 k false))) else (chaselaw1_SpansMixed.j0 k false)) else (chaselaw1_SpansMixed.j0 k false)) else (chaselaw1_SpansMixed.j0 k false))))))) else (some false))))))
theorem chaselaw1_SpansMixed.mono_l : ∀ k, (∀ y0, LeO (chaselaw1_SpansMixed.j0 k y0) (chaselaw1_SpansMixed.j0 (k + 1) y0))
  | 0 => fun _ r h => by simp [chaselaw1_SpansMixed.j0] at h
  | k + 1 => by
    have ih0 := chaselaw1_SpansMixed.mono_l k
    · intro y0
      unfold chaselaw1_SpansMixed.j0
      repeat' first
      | (with_reducible exact ih0 _)
      | (with_reducible exact api_Span_27.mono _ _ _)
      | (with_reducible exact chaselaw1_privileges.mono _)
      | (with_reducible exact chasemake_Stream_AnySpans.mono _ _ _ _)
      | (with_reducible exact chaseref1_MixedOf.mono _ _ _ _ _)
      | (with_reducible exact chaseref1_SpansFault.mono _ _ _)
      | (with_reducible exact privilege_CheckSpans.mono _ _ _)
      | (with_reducible exact privilege_Union.mono _ _ _ _)
      | (with_reducible exact privilege_Without.mono _ _ _ _)
      | (with_reducible exact LeO.refl _)
      | (with_reducible exact LeO.none _)
      | (with_reducible refine LeO.ite ?_ ?_)
      | (with_reducible refine LeO.bind ?_ (fun _ => ?_))
      | exact ih0 _
      | exact api_Span_27.mono _ _ _
      | exact chaselaw1_privileges.mono _
      | exact chasemake_Stream_AnySpans.mono _ _ _ _
      | exact chaseref1_MixedOf.mono _ _ _ _ _
      | exact chaseref1_SpansFault.mono _ _ _
      | exact privilege_CheckSpans.mono _ _ _
      | exact privilege_Union.mono _ _ _ _
      | exact privilege_Without.mono _ _ _ _
      | exact LeO.none _
      | refine LeO.ite ?_ ?_
      | refine LeO.bind ?_ (fun _ => ?_)
theorem chaselaw1_SpansMixed.mono : ∀ a0 k, LeO (chaselaw1_SpansMixed.f k a0) (chaselaw1_SpansMixed.f (k + 1) a0) := by
  intro a0 k
  have ih0 := chaselaw1_SpansMixed.mono_l k
  unfold chaselaw1_SpansMixed.f
  repeat' first
      | (with_reducible exact ih0 _)
      | (with_reducible exact api_Span_27.mono _ _ _)
      | (with_reducible exact chaselaw1_privileges.mono _)
      | (with_reducible exact chasemake_Stream_AnySpans.mono _ _ _ _)
      | (with_reducible exact chaseref1_MixedOf.mono _ _ _ _ _)
      | (with_reducible exact chaseref1_SpansFault.mono _ _ _)
      | (with_reducible exact privilege_CheckSpans.mono _ _ _)
      | (with_reducible exact privilege_Union.mono _ _ _ _)
      | (with_reducible exact privilege_Without.mono _ _ _ _)
      | (with_reducible exact LeO.refl _)
      | (with_reducible exact LeO.none _)
      | (with_reducible refine LeO.ite ?_ ?_)
      | (with_reducible refine LeO.bind ?_ (fun _ => ?_))
      | exact ih0 _
      | exact api_Span_27.mono _ _ _
      | exact chaselaw1_privileges.mono _
      | exact chasemake_Stream_AnySpans.mono _ _ _ _
      | exact chaseref1_MixedOf.mono _ _ _ _ _
      | exact chaseref1_SpansFault.mono _ _ _
      | exact privilege_CheckSpans.mono _ _ _
      | exact privilege_Union.mono _ _ _ _
      | exact privilege_Without.mono _ _ _ _
      | exact LeO.none _
      | refine LeO.ite ?_ ?_
      | refine LeO.bind ?_ (fun _ => ?_)
set_option maxHeartbeats 8000000 in
set_option maxRecDepth 100000 in
theorem chaselaw1_SpansMixed.calls (k : Nat) (A0 : Option Addr) (c0 : Nat) (l0 : List Int) (r : Bool) (w : World) (hr0 : Kd.C (Kd.int .i64) w A0 l0.length l0) (hc0 : l0.length ≤ c0) (hGl : Wd w) (h : chaselaw1_SpansMixed.f k l0 = some r) :
    Calls Tryd.prog 4 #[.slice A0 l0.length c0] w fun e w' => e = .returned (.bool r) ∧ Below w.heap.size w w' := by
  have hu25 := Tryd.underlying25
  have HGl := Aside0.mk hGl
  clear hGl
  have HR0 := Aside0.mk hr0
  have HC0 := Aside0.mk hc0
  clear hr0 hc0
  have HB := Aside0.mk (Below.refl w.heap.size w)
  have H : ((chasemake_Stream_Pick.f l0 0 (([0, 5, 20, 40, 200000, (-1), 200001] : List Int))).bind fun bt324 => ((chasemake_Stream_AnySpans.f k l0 bt324.2 (mx bt324.1 0)).bind fun bt326 => ((chasemake_Stream_AnySpans.f k l0 bt326.2 (mx bt324.1 0)).bind fun bt330 => ((privilege_CheckSpans.f k bt326.1 bt324.1).bind fun t334 => ((chaseref1_SpansFault.f k bt326.1 bt324.1).bind fun t335 => (if t334 = t335 then ((privilege_Union.f k bt326.1 bt330.1 bt324.1).bind fun bt336 => ((privilege_Without.f k bt326.1 bt330.1 bt324.1).bind fun bt340 => ((chaseref1_MixedOf.f k bt326.1 bt330.1 bt324.1 false).bind fun bt344 => ((chaseref1_MixedOf.f k bt326.1 bt330.1 bt324.1 true).bind fun bt348 => ((chaselaw1_privileges.f k).bind fun t352 => (if t352 = true then (if bt336.2 = bt344.2 then (if bt340.2 = bt348.2 then ((api_Span_27.f k bt336.1 bt344.1).bind fun t353 => (if t353 = true then ((api_Span_27.f k bt340.1 bt348.1).bind fun t354 => (chaselaw1_SpansMixed.j0 k t354)) else (chaselaw1_SpansMixed.j0 k false))) else (chaselaw1_SpansMixed.j0 k false)) else (chaselaw1_SpansMixed.j0 k false)) else (chaselaw1_SpansMixed.j0 k false))))))) else (some false))))))) = some r := h
  clear h
  obtain ⟨y321, hy321⟩ : ∃ y_ : List Int, y_ = (([0, 5, 20, 40, 200000, (-1), 200001] : List Int)) := ⟨_, rfl⟩
  replace H : ((chasemake_Stream_Pick.f l0 0 y321).bind fun bt324 => ((chasemake_Stream_AnySpans.f k l0 bt324.2 (mx bt324.1 0)).bind fun bt326 => ((chasemake_Stream_AnySpans.f k l0 bt326.2 (mx bt324.1 0)).bind fun bt330 => ((privilege_CheckSpans.f k bt326.1 bt324.1).bind fun t334 => ((chaseref1_SpansFault.f k bt326.1 bt324.1).bind fun t335 => (if t334 = t335 then ((privilege_Union.f k bt326.1 bt330.1 bt324.1).bind fun bt336 => ((privilege_Without.f k bt326.1 bt330.1 bt324.1).bind fun bt340 => ((chaseref1_MixedOf.f k bt326.1 bt330.1 bt324.1 false).bind fun bt344 => ((chaseref1_MixedOf.f k bt326.1 bt330.1 bt324.1 true).bind fun bt348 => ((chaselaw1_privileges.f k).bind fun t352 => (if t352 = true then (if bt336.2 = bt344.2 then (if bt340.2 = bt348.2 then ((api_Span_27.f k bt336.1 bt344.1).bind fun t353 => (if t353 = true then ((api_Span_27.f k bt340.1 bt348.1).bind fun t354 => (chaselaw1_SpansMixed.j0 k t354)) else (chaselaw1_SpansMixed.j0 k false))) else (chaselaw1_SpansMixed.j0 k false)) else (chaselaw1_SpansMixed.j0 k false)) else (chaselaw1_SpansMixed.j0 k false))))))) else (some false))))))) = some r := by first | (rw [hy321]; with_reducible exact H) | (have H2_ := (Option.bind_some _ _).symm.trans H; rw [hy321]; with_reducible exact H2_) | (have H2_ := (Option.bind_some _ _).symm.trans H; with_reducible exact H2_) | with_reducible exact H | (rw [hy321]; exact H) | exact H
  have Ny321 := Aside0.mk hy321
  clear hy321
  replace H := Option.bind_eq_some_iff.mp H
  obtain ⟨⟨t324, t325⟩, A20, H⟩ := H
  replace H : ((chasemake_Stream_AnySpans.f k l0 t325 (mx t324 0)).bind fun bt326 => ((chasemake_Stream_AnySpans.f k l0 bt326.2 (mx t324 0)).bind fun bt330 => ((privilege_CheckSpans.f k bt326.1 t324).bind fun t334 => ((chaseref1_SpansFault.f k bt326.1 t324).bind fun t335 => (if t334 = t335 then ((privilege_Union.f k bt326.1 bt330.1 t324).bind fun bt336 => ((privilege_Without.f k bt326.1 bt330.1 t324).bind fun bt340 => ((chaseref1_MixedOf.f k bt326.1 bt330.1 t324 false).bind fun bt344 => ((chaseref1_MixedOf.f k bt326.1 bt330.1 t324 true).bind fun bt348 => ((chaselaw1_privileges.f k).bind fun t352 => (if t352 = true then (if bt336.2 = bt344.2 then (if bt340.2 = bt348.2 then ((api_Span_27.f k bt336.1 bt344.1).bind fun t353 => (if t353 = true then ((api_Span_27.f k bt340.1 bt348.1).bind fun t354 => (chaselaw1_SpansMixed.j0 k t354)) else (chaselaw1_SpansMixed.j0 k false))) else (chaselaw1_SpansMixed.j0 k false)) else (chaselaw1_SpansMixed.j0 k false)) else (chaselaw1_SpansMixed.j0 k false))))))) else (some false)))))) = some r := H
  have A2 := Aside0.mk A20
  clear A20
  obtain ⟨ji3, hji3⟩ : ∃ j_ : Int, (mx t324 0) = j_ := ⟨_, rfl⟩
  replace H : ((chasemake_Stream_AnySpans.f k l0 t325 (ji3)).bind fun bt326 => ((chasemake_Stream_AnySpans.f k l0 bt326.2 (ji3)).bind fun bt330 => ((privilege_CheckSpans.f k bt326.1 t324).bind fun t334 => ((chaseref1_SpansFault.f k bt326.1 t324).bind fun t335 => (if t334 = t335 then ((privilege_Union.f k bt326.1 bt330.1 t324).bind fun bt336 => ((privilege_Without.f k bt326.1 bt330.1 t324).bind fun bt340 => ((chaseref1_MixedOf.f k bt326.1 bt330.1 t324 false).bind fun bt344 => ((chaseref1_MixedOf.f k bt326.1 bt330.1 t324 true).bind fun bt348 => ((chaselaw1_privileges.f k).bind fun t352 => (if t352 = true then (if bt336.2 = bt344.2 then (if bt340.2 = bt348.2 then ((api_Span_27.f k bt336.1 bt344.1).bind fun t353 => (if t353 = true then ((api_Span_27.f k bt340.1 bt348.1).bind fun t354 => (chaselaw1_SpansMixed.j0 k t354)) else (chaselaw1_SpansMixed.j0 k false))) else (chaselaw1_SpansMixed.j0 k false)) else (chaselaw1_SpansMixed.j0 k false)) else (chaselaw1_SpansMixed.j0 k false))))))) else (some false)))))) = some r := by first | (rw [hji3] at H; exact H) | (simp only [hji3] at H ⊢; exact H)
  (try rw [hji3] at A2)
  (try (have hji3l : 0 ≤ ji3 := by (rw [← hji3]; unfold mx; (repeat' split) <;> omega)))
  (try (have hji3m : 0 ≤ ji3 := by omega))
  have hji3_ : (if t324 < 0 then 0 else t324) = ji3 := hji3
  replace H := Option.bind_eq_some_iff.mp H
  obtain ⟨⟨t326, t329⟩, A40, H⟩ := H
  replace H : ((chasemake_Stream_AnySpans.f k l0 t329 (ji3)).bind fun bt330 => ((privilege_CheckSpans.f k t326 t324).bind fun t334 => ((chaseref1_SpansFault.f k t326 t324).bind fun t335 => (if t334 = t335 then ((privilege_Union.f k t326 bt330.1 t324).bind fun bt336 => ((privilege_Without.f k t326 bt330.1 t324).bind fun bt340 => ((chaseref1_MixedOf.f k t326 bt330.1 t324 false).bind fun bt344 => ((chaseref1_MixedOf.f k t326 bt330.1 t324 true).bind fun bt348 => ((chaselaw1_privileges.f k).bind fun t352 => (if t352 = true then (if bt336.2 = bt344.2 then (if bt340.2 = bt348.2 then ((api_Span_27.f k bt336.1 bt344.1).bind fun t353 => (if t353 = true then ((api_Span_27.f k bt340.1 bt348.1).bind fun t354 => (chaselaw1_SpansMixed.j0 k t354)) else (chaselaw1_SpansMixed.j0 k false))) else (chaselaw1_SpansMixed.j0 k false)) else (chaselaw1_SpansMixed.j0 k false)) else (chaselaw1_SpansMixed.j0 k false))))))) else (some false))))) = some r := H
  have A4 := Aside0.mk A40
  clear A40
  replace H := Option.bind_eq_some_iff.mp H
  obtain ⟨⟨t330, t333⟩, A60, H⟩ := H
  replace H : ((privilege_CheckSpans.f k t326 t324).bind fun t334 => ((chaseref1_SpansFault.f k t326 t324).bind fun t335 => (if t334 = t335 then ((privilege_Union.f k t326 t330 t324).bind fun bt336 => ((privilege_Without.f k t326 t330 t324).bind fun bt340 => ((chaseref1_MixedOf.f k t326 t330 t324 false).bind fun bt344 => ((chaseref1_MixedOf.f k t326 t330 t324 true).bind fun bt348 => ((chaselaw1_privileges.f k).bind fun t352 => (if t352 = true then (if bt336.2 = bt344.2 then (if bt340.2 = bt348.2 then ((api_Span_27.f k bt336.1 bt344.1).bind fun t353 => (if t353 = true then ((api_Span_27.f k bt340.1 bt348.1).bind fun t354 => (chaselaw1_SpansMixed.j0 k t354)) else (chaselaw1_SpansMixed.j0 k false))) else (chaselaw1_SpansMixed.j0 k false)) else (chaselaw1_SpansMixed.j0 k false)) else (chaselaw1_SpansMixed.j0 k false))))))) else (some false)))) = some r := H
  have A6 := Aside0.mk A60
  clear A60
  replace H := Option.bind_eq_some_iff.mp H
  obtain ⟨t334, A70, H⟩ := H
  replace H : ((chaseref1_SpansFault.f k t326 t324).bind fun t335 => (if t334 = t335 then ((privilege_Union.f k t326 t330 t324).bind fun bt336 => ((privilege_Without.f k t326 t330 t324).bind fun bt340 => ((chaseref1_MixedOf.f k t326 t330 t324 false).bind fun bt344 => ((chaseref1_MixedOf.f k t326 t330 t324 true).bind fun bt348 => ((chaselaw1_privileges.f k).bind fun t352 => (if t352 = true then (if bt336.2 = bt344.2 then (if bt340.2 = bt348.2 then ((api_Span_27.f k bt336.1 bt344.1).bind fun t353 => (if t353 = true then ((api_Span_27.f k bt340.1 bt348.1).bind fun t354 => (chaselaw1_SpansMixed.j0 k t354)) else (chaselaw1_SpansMixed.j0 k false))) else (chaselaw1_SpansMixed.j0 k false)) else (chaselaw1_SpansMixed.j0 k false)) else (chaselaw1_SpansMixed.j0 k false))))))) else (some false))) = some r := H
  have A7 := Aside0.mk A70
  clear A70
  replace H := Option.bind_eq_some_iff.mp H
  obtain ⟨t335, A80, H⟩ := H
  replace H : (if t334 = t335 then ((privilege_Union.f k t326 t330 t324).bind fun bt336 => ((privilege_Without.f k t326 t330 t324).bind fun bt340 => ((chaseref1_MixedOf.f k t326 t330 t324 false).bind fun bt344 => ((chaseref1_MixedOf.f k t326 t330 t324 true).bind fun bt348 => ((chaselaw1_privileges.f k).bind fun t352 => (if t352 = true then (if bt336.2 = bt344.2 then (if bt340.2 = bt348.2 then ((api_Span_27.f k bt336.1 bt344.1).bind fun t353 => (if t353 = true then ((api_Span_27.f k bt340.1 bt348.1).bind fun t354 => (chaselaw1_SpansMixed.j0 k t354)) else (chaselaw1_SpansMixed.j0 k false))) else (chaselaw1_SpansMixed.j0 k false)) else (chaselaw1_SpansMixed.j0 k false)) else (chaselaw1_SpansMixed.j0 k false))))))) else (some false)) = some r := H
  have A8 := Aside0.mk A80
  clear A80
  by_cases c9 : t334 = t335
  · rw [if_pos c9] at H
    have c9b0 : (t334 == t335) = true := beq_iff_eq.mpr c9
    have c9b1 : (t334 != t335) = false := bne_eq_false_iff_eq.mpr c9
    clear c9
    replace H := Option.bind_eq_some_iff.mp H
    obtain ⟨⟨t336, t339⟩, A100, H⟩ := H
    replace H : ((privilege_Without.f k t326 t330 t324).bind fun bt340 => ((chaseref1_MixedOf.f k t326 t330 t324 false).bind fun bt344 => ((chaseref1_MixedOf.f k t326 t330 t324 true).bind fun bt348 => ((chaselaw1_privileges.f k).bind fun t352 => (if t352 = true then (if t339 = bt344.2 then (if bt340.2 = bt348.2 then ((api_Span_27.f k t336 bt344.1).bind fun t353 => (if t353 = true then ((api_Span_27.f k bt340.1 bt348.1).bind fun t354 => (chaselaw1_SpansMixed.j0 k t354)) else (chaselaw1_SpansMixed.j0 k false))) else (chaselaw1_SpansMixed.j0 k false)) else (chaselaw1_SpansMixed.j0 k false)) else (chaselaw1_SpansMixed.j0 k false)))))) = some r := H
    have A10 := Aside0.mk A100
    clear A100
    replace H := Option.bind_eq_some_iff.mp H
    obtain ⟨⟨t340, t341⟩, A110, H⟩ := H
    replace H : ((chaseref1_MixedOf.f k t326 t330 t324 false).bind fun bt344 => ((chaseref1_MixedOf.f k t326 t330 t324 true).bind fun bt348 => ((chaselaw1_privileges.f k).bind fun t352 => (if t352 = true then (if t339 = bt344.2 then (if t341 = bt348.2 then ((api_Span_27.f k t336 bt344.1).bind fun t353 => (if t353 = true then ((api_Span_27.f k t340 bt348.1).bind fun t354 => (chaselaw1_SpansMixed.j0 k t354)) else (chaselaw1_SpansMixed.j0 k false))) else (chaselaw1_SpansMixed.j0 k false)) else (chaselaw1_SpansMixed.j0 k false)) else (chaselaw1_SpansMixed.j0 k false))))) = some r := H
    have A11 := Aside0.mk A110
    clear A110
    replace H := Option.bind_eq_some_iff.mp H
    obtain ⟨⟨t344, t345⟩, A120, H⟩ := H
    replace H : ((chaseref1_MixedOf.f k t326 t330 t324 true).bind fun bt348 => ((chaselaw1_privileges.f k).bind fun t352 => (if t352 = true then (if t339 = t345 then (if t341 = bt348.2 then ((api_Span_27.f k t336 t344).bind fun t353 => (if t353 = true then ((api_Span_27.f k t340 bt348.1).bind fun t354 => (chaselaw1_SpansMixed.j0 k t354)) else (chaselaw1_SpansMixed.j0 k false))) else (chaselaw1_SpansMixed.j0 k false)) else (chaselaw1_SpansMixed.j0 k false)) else (chaselaw1_SpansMixed.j0 k false)))) = some r := H
    have A12 := Aside0.mk A120
    clear A120
    replace H := Option.bind_eq_some_iff.mp H
    obtain ⟨⟨t348, t349⟩, A130, H⟩ := H
    replace H : ((chaselaw1_privileges.f k).bind fun t352 => (if t352 = true then (if t339 = t345 then (if t341 = t349 then ((api_Span_27.f k t336 t344).bind fun t353 => (if t353 = true then ((api_Span_27.f k t340 t348).bind fun t354 => (chaselaw1_SpansMixed.j0 k t354)) else (chaselaw1_SpansMixed.j0 k false))) else (chaselaw1_SpansMixed.j0 k false)) else (chaselaw1_SpansMixed.j0 k false)) else (chaselaw1_SpansMixed.j0 k false))) = some r := H
    have A13 := Aside0.mk A130
    clear A130
    have HC14 := Aside0.mk H
    clear H
    go_enter Tryd.func4, Tryd.ntmps4
    go_upto_region 10 with (first | ((with_reducible refine gate_dst (N := 17) rfl ?_); refine box_event ?hg (N := 17) ?hd (cs := #[.slice A0 l0.length c0, .int .i64 0]) (t := 25) ?hr ?_; (case hd => rfl); (case hg => rfl); (case hr => first | (go_simp; done) | (go_simp; rfl)); intro gb320 hg w15 hbox hb; have n0_ := Aside0.mk (below_step (by repeat (first | (with_reducible first | exact HB.out | apply below_alloc | apply pw_below_drewN | apply below_drew1) | exact HB.out)) hb); have n1_ := Aside0.mk ((⟨_, _, hbox, (by rw [hg]; exact (below_size (by repeat (first | (with_reducible first | exact HB.out | apply below_alloc | apply pw_below_drewN | apply below_drew1) | exact HB.out)))), HR0.out⟩ : IsS25 w _ gb320 l0 0)); clear HB; have HB := n0_; have HI320 := n1_; clear n0_ n1_; clear hb hbox hg) | ((with_reducible refine gate_dst (N := 19) rfl ?_); refine Kd.R_lit (Kd.int .i64) _ 3 ?hg (N := 19) ?hd (xs := ([0, 5, 20, 40, 200000, (-1), 200001] : List Int)) (inner := [.int .i64 0, .int .i64 5, .int .i64 20, .int .i64 40, .int .i64 200000, .int .i64 (-1), .int .i64 200001]) (ok := fun _ => True) (okp := fun _ => True) ?hr ?hp (fun _ hk => hk) trivial (Below.refl _ _) (Nat.le_refl _) (by simp) ?_; (case hd => rfl); (case hg => rfl); (case hr => first | (go_simp; done) | (go_simp; rfl)); (case hp => exact (Reps.one (show Kd.M (Kd.int .i64) _ _ _ 0 [.int .i64 0] from rfl) (Reps.one (show Kd.M (Kd.int .i64) _ _ _ 5 [.int .i64 5] from rfl) (Reps.one (show Kd.M (Kd.int .i64) _ _ _ 20 [.int .i64 20] from rfl) (Reps.one (show Kd.M (Kd.int .i64) _ _ _ 40 [.int .i64 40] from rfl) (Reps.one (show Kd.M (Kd.int .i64) _ _ _ 200000 [.int .i64 200000] from rfl) (Reps.one (show Kd.M (Kd.int .i64) _ _ _ (-1) [.int .i64 (-1)] from rfl) (Reps.one (show Kd.M (Kd.int .i64) _ _ _ 200001 [.int .i64 200001] from rfl) (Reps.none _ _))))))))); intro v322 w16 ho17 hb hg_ hnew_; clear hg_ hnew_; (first | rw [← Ny321.out] at ho17 | (simp only [Int.reduceToNat] at ho17; rw [← Ny321.out] at ho17)); have n0_ := Aside0.mk (Kd.R_lower ho17 (below_size (by repeat (first | (with_reducible first | exact HB.out | apply below_alloc | apply pw_below_drewN | apply below_drew1 | refine below_set ?_ (IsS25.ge HI320.out)) | exact HB.out)))); have n1_ := Aside0.mk (IsS25.below (by repeat (first | (with_reducible first | exact HI320.out | apply IsS25.alloc | apply IsS25.drewN | apply IsS25.drew | apply IsS25.set_1) | exact HI320.out)) hb); have n2_ := Aside0.mk (below_step (by repeat (first | (with_reducible first | exact HB.out | apply below_alloc | apply pw_below_drewN | apply below_drew1 | refine below_set ?_ (IsS25.ge HI320.out)) | exact HB.out)) hb); clear HI320; clear HB; have HO323 := n0_; have HI320 := n1_; have HB := n2_; clear n0_ n1_ n2_; clear hb ho17; obtain ⟨Ao18, co18, eo18⟩ := Kd.R_slice HO323.out; subst eo18) | ((with_reducible refine gate_callee (f := 20) rfl ?_); refine goesL_ (some 20) rfl rfl Tryd.func20 (by kernel_rfl) rfl #[.pointer (some ⟨gb320, 0, none⟩), .slice Ao18 y321.length co18] rfl (by (try simp only [List.map_toArray, List.map_cons, List.map_nil]); first | done | rfl | (simp only [List.length_drop, List.length_take]; rfl)) ?_; (with_reducible refine (chasemake_Stream_Pick.calls gb320 l0 0 _ _ y321 t324 t325 w _ ?side1 ?side2 ?side3 ?side4 ?side5 A2.out).mono ?_); (case side1 => repeat (first | (with_reducible first | exact HI320.out | apply IsS25.alloc | apply IsS25.drewN | apply IsS25.drew | apply IsS25.set_1) | exact HI320.out)); (case side2 => repeat (first | (with_reducible first | exact HB.out | apply below_alloc | apply pw_below_drewN | apply below_drew1 | refine below_set ?_ (IsS25.ge HI320.out)) | exact HB.out)); (case side3 => repeat (first | exact (Kd.R_reads' HO323.out).2.2 | (with_reducible refine Kd.C_alloc ?_ _) | (with_reducible refine Kd.C_drewN ?_ _) | (with_reducible refine Kd.C_drew ?_))); (case side4 => exact (Kd.R_reads' HO323.out).2.1); (case side5 => exact far_slice (IsS25.own_ne HI320.out HO323.out (by decide))); rintro e w19 ⟨rfl, hi, hb, hk⟩; refine ⟨_, rfl, ?_⟩; have n0_ := Aside0.mk (Kd.R_mono (Kd.R_keep (IsS25.apart (show IsS25 w _ gb320 l0 0 from by repeat (first | (with_reducible first | exact HI320.out | apply IsS25.alloc | apply IsS25.drewN | apply IsS25.drew | apply IsS25.set_1) | exact HI320.out)) (by (with_reducible repeat (first | apply Kd.R_alloc | apply Kd.R_drewN | apply Kd.R_drew)); exact HO323.out) (by decide)) hk (fun _ h => h.2)) (fun _ h => h.1)); have n1_ := Aside0.mk (hb); have n2_ := Aside0.mk (hi); clear HO323; clear HB; clear HI320; have HO323 := n0_; have HB := n1_; have HI320 := n2_; clear n0_ n1_ n2_; (try clear hb); (try clear hb2); (try clear hk); (try clear hi)) | ((with_reducible refine gate_callee (f := 21) rfl ?_); refine goesL_ (some 24) rfl rfl Tryd.func21 (by kernel_rfl) rfl #[.pointer (some ⟨gb320, 0, none⟩), .int .i64 ji3] rfl (by (try simp only [List.map_toArray, List.map_cons, List.map_nil]); first | done | (simp only [hji3]; rfl) | rfl | (simp only [List.length_drop, List.length_take]; rfl)) ?_; (with_reducible refine (chasemake_Stream_AnySpans.calls k gb320 l0 t325 ji3 t326 t329 w _ ?side1 ?side2 A4.out).mono ?_); (case side1 => repeat (first | (with_reducible first | exact HI320.out | apply IsS25.alloc | apply IsS25.drewN | apply IsS25.drew | apply IsS25.set_1) | exact HI320.out)); (case side2 => repeat (first | (with_reducible first | exact HB.out | apply below_alloc | apply pw_below_drewN | apply below_drew1 | refine below_set ?_ (IsS25.ge HI320.out)) | exact HB.out)); rintro e w20 ⟨v327, rfl, ho0, hi, hb, hk⟩; refine ⟨_, rfl, ?_⟩; have n0_ := Aside0.mk (Kd.R_mono (Kd.R_keep (IsS25.apart (show IsS25 w _ gb320 l0 t325 from by repeat (first | (with_reducible first | exact HI320.out | apply IsS25.alloc | apply IsS25.drewN | apply IsS25.drew | apply IsS25.set_1) | exact HI320.out)) (by (with_reducible repeat (first | apply Kd.R_alloc | apply Kd.R_drewN | apply Kd.R_drew)); exact HO323.out) (by decide)) hk (fun _ h => h.2)) (fun _ h => h.1)); have n1_ := Aside0.mk (Kd.R_lower ho0 (below_size (by repeat (first | (with_reducible first | exact HB.out | apply below_alloc | apply pw_below_drewN | apply below_drew1 | refine below_set ?_ (IsS25.ge HI320.out)) | exact HB.out)))); have n2_ := Aside0.mk (hb); have n3_ := Aside0.mk (hi); clear HO323; clear HB; clear HI320; have HO323 := n0_; have HO328 := n1_; have HB := n2_; have HI320 := n3_; clear n0_ n1_ n2_ n3_; (try clear hb); (try clear hb2); (try clear hk); (try clear hi); (try clear ho0)) | ((with_reducible refine gate_callee (f := 21) rfl ?_); refine goesL_ (some 28) rfl rfl Tryd.func21 (by kernel_rfl) rfl #[.pointer (some ⟨gb320, 0, none⟩), .int .i64 ji3] rfl (by (try simp only [List.map_toArray, List.map_cons, List.map_nil]); first | done | (simp only [hji3]; rfl) | rfl | (simp only [List.length_drop, List.length_take]; rfl)) ?_; (with_reducible refine (chasemake_Stream_AnySpans.calls k gb320 l0 t329 ji3 t330 t333 w _ ?side1 ?side2 A6.out).mono ?_); (case side1 => repeat (first | (with_reducible first | exact HI320.out | apply IsS25.alloc | apply IsS25.drewN | apply IsS25.drew | apply IsS25.set_1) | exact HI320.out)); (case side2 => repeat (first | (with_reducible first | exact HB.out | apply below_alloc | apply pw_below_drewN | apply below_drew1 | refine below_set ?_ (IsS25.ge HI320.out)) | exact HB.out)); rintro e w21 ⟨v331, rfl, ho0, hi, hb, hk⟩; refine ⟨_, rfl, ?_⟩; have n0_ := Aside0.mk (Kd.R_mono (Kd.R_keep (IsS25.apart (show IsS25 w _ gb320 l0 t329 from by repeat (first | (with_reducible first | exact HI320.out | apply IsS25.alloc | apply IsS25.drewN | apply IsS25.drew | apply IsS25.set_1) | exact HI320.out)) (by (with_reducible repeat (first | apply Kd.R_alloc | apply Kd.R_drewN | apply Kd.R_drew)); exact HO323.out) (by decide)) hk (fun _ h => h.2)) (fun _ h => h.1)); have n1_ := Aside0.mk (Kd.R_mono (Kd.R_told (Kd.R_oldK (IsS25.apart (show IsS25 w _ gb320 l0 t329 from by repeat (first | (with_reducible first | exact HI320.out | apply IsS25.alloc | apply IsS25.drewN | apply IsS25.drew | apply IsS25.set_1) | exact HI320.out)) (by (with_reducible repeat (first | apply Kd.R_alloc | apply Kd.R_drewN | apply Kd.R_drew)); exact HO328.out) (by decide)) hk) (Kd.R_base ho0)) (fun _ h_ => h_.1)); have n2_ := Aside0.mk (Kd.R_lower (Kd.R_new' ho0 (Kd.R_lt (by (with_reducible repeat (first | apply Kd.R_alloc | apply Kd.R_drewN | apply Kd.R_drew)); exact HO328.out))) (below_size (by repeat (first | (with_reducible first | exact HB.out | apply below_alloc | apply pw_below_drewN | apply below_drew1 | refine below_set ?_ (IsS25.ge HI320.out)) | exact HB.out)))); have n3_ := Aside0.mk (hb); have n4_ := Aside0.mk (hi); clear HO323; clear HO328; clear HB; clear HI320; have HO323 := n0_; have HO328 := n1_; have HO332 := n2_; have HB := n3_; have HI320 := n4_; clear n0_ n1_ n2_ n3_ n4_; (try clear hb); (try clear hb2); (try clear hk); (try clear hi); (try clear ho0); obtain ⟨Ao22, co22, eo22⟩ := Kd.R_slice HO328.out; subst eo22) | ((with_reducible refine gate_callee (f := 22) rfl ?_); refine goesL_ (some 31) rfl rfl Tryd.func22 (by kernel_rfl) rfl #[.slice Ao22 t326.length co22, .int .i64 t324] rfl (by (try simp only [List.map_toArray, List.map_cons, List.map_nil]); first | done | rfl | (simp only [List.length_drop, List.length_take]; rfl)) ?_; (with_reducible refine (privilege_CheckSpans.calls k _ _ t326 t324 t334 _ ?side1 ?side2 A7.out).mono ?_); (case side1 => repeat (first | exact (Kd.R_reads' HO328.out).2.2 | (with_reducible refine Kd.C_alloc ?_ _) | (with_reducible refine Kd.C_drewN ?_ _) | (with_reducible refine Kd.C_drew ?_))); (case side2 => exact (Kd.R_reads' HO328.out).2.1); rintro e w23 ⟨rfl, hb⟩; refine ⟨_, rfl, ?_⟩; have n0_ := Aside0.mk (Kd.R_below (by (with_reducible repeat (first | apply Kd.R_alloc | apply Kd.R_drewN | apply Kd.R_drew)); exact HO323.out) hb); have n1_ := Aside0.mk (Kd.R_below (by (with_reducible repeat (first | apply Kd.R_alloc | apply Kd.R_drewN | apply Kd.R_drew)); exact HO328.out) hb); have n2_ := Aside0.mk (Kd.R_below (by (with_reducible repeat (first | apply Kd.R_alloc | apply Kd.R_drewN | apply Kd.R_drew)); exact HO332.out) hb); have n3_ := Aside0.mk (IsS25.below (by repeat (first | (with_reducible first | exact HI320.out | apply IsS25.alloc | apply IsS25.drewN | apply IsS25.drew | apply IsS25.set_1) | exact HI320.out)) hb); have n4_ := Aside0.mk (below_step (by repeat (first | (with_reducible first | exact HB.out | apply below_alloc | apply pw_below_drewN | apply below_drew1 | refine below_set ?_ (IsS25.ge HI320.out)) | exact HB.out)) hb); clear HO323; clear HO328; clear HO332; clear HI320; clear HB; have HO323 := n0_; have HO328 := n1_; have HO332 := n2_; have HI320 := n3_; have HB := n4_; clear n0_ n1_ n2_ n3_ n4_; (try clear hb); (try clear hb2); (try clear hk); (try clear hi)) | ((with_reducible refine gate_callee (f := 23) rfl ?_); refine goesL_ (some 34) rfl rfl Tryd.func23 (by kernel_rfl) rfl #[.slice Ao22 t326.length co22, .int .i64 t324] rfl (by (try simp only [List.map_toArray, List.map_cons, List.map_nil]); first | done | rfl | (simp only [List.length_drop, List.length_take]; rfl)) ?_; (with_reducible refine (chaseref1_SpansFault.calls k _ _ t326 t324 t335 _ ?side1 ?side2 A8.out).mono ?_); (case side1 => repeat (first | exact (Kd.R_reads' HO328.out).2.2 | (with_reducible refine Kd.C_alloc ?_ _) | (with_reducible refine Kd.C_drewN ?_ _) | (with_reducible refine Kd.C_drew ?_))); (case side2 => exact (Kd.R_reads' HO328.out).2.1); rintro e w24 ⟨rfl, hb⟩; refine ⟨_, rfl, ?_⟩; have n0_ := Aside0.mk (Kd.R_below (by (with_reducible repeat (first | apply Kd.R_alloc | apply Kd.R_drewN | apply Kd.R_drew)); exact HO323.out) hb); have n1_ := Aside0.mk (Kd.R_below (by (with_reducible repeat (first | apply Kd.R_alloc | apply Kd.R_drewN | apply Kd.R_drew)); exact HO328.out) hb); have n2_ := Aside0.mk (Kd.R_below (by (with_reducible repeat (first | apply Kd.R_alloc | apply Kd.R_drewN | apply Kd.R_drew)); exact HO332.out) hb); have n3_ := Aside0.mk (IsS25.below (by repeat (first | (with_reducible first | exact HI320.out | apply IsS25.alloc | apply IsS25.drewN | apply IsS25.drew | apply IsS25.set_1) | exact HI320.out)) hb); have n4_ := Aside0.mk (below_step (by repeat (first | (with_reducible first | exact HB.out | apply below_alloc | apply pw_below_drewN | apply below_drew1 | refine below_set ?_ (IsS25.ge HI320.out)) | exact HB.out)) hb); clear HO323; clear HO328; clear HO332; clear HI320; clear HB; have HO323 := n0_; have HO328 := n1_; have HO332 := n2_; have HI320 := n3_; have HB := n4_; clear n0_ n1_ n2_ n3_ n4_; (try clear hb); (try clear hb2); (try clear hk); (try clear hi); obtain ⟨Ao25, co25, eo25⟩ := Kd.R_slice HO332.out; subst eo25) | ((with_reducible refine gate_callee (f := 24) rfl ?_); refine goesL_ (some 40) rfl rfl Tryd.func24 (by kernel_rfl) rfl #[.slice Ao22 t326.length co22, .slice Ao25 t330.length co25, .int .i64 t324] rfl (by (try simp only [List.map_toArray, List.map_cons, List.map_nil]); first | done | rfl | (simp only [List.length_drop, List.length_take]; rfl)) ?_; (with_reducible refine (privilege_Union.calls k (fun k_ => some k_ = (.slice Ao22 t326.length co22 : Value).ownBlock) _ _ t326 (fun k_ => some k_ = (.slice Ao25 t330.length co25 : Value).ownBlock) _ _ t330 t324 t336 t339 _ ?side1 ?side2 A10.out).mono ?_); (case side1 => exact Kd.R_V (Kd.R_tight rfl (IsS25.apart HI320.out (Kd.R_apart' (HO328.out) (Kd.R_typed HO323.out) (by decide)) (by decide)))); (case side2 => exact Kd.R_V (Kd.R_tight rfl (IsS25.apart HI320.out (Kd.R_apart' (HO332.out) (Kd.R_typed HO323.out) (by decide)) (by decide)))); rintro e w26 ⟨v337, rfl, ho0, hb⟩; refine ⟨_, rfl, ?_⟩; have n0_ := Aside0.mk (Kd.R_below (by (with_reducible repeat (first | apply Kd.R_alloc | apply Kd.R_drewN | apply Kd.R_drew)); exact HO323.out) hb); have n1_ := Aside0.mk (Kd.R_elder' (by (with_reducible repeat (first | apply Kd.R_alloc | apply Kd.R_drewN | apply Kd.R_drew)); exact HO328.out) (Kd.R_base ho0) hb); have n2_ := Aside0.mk (Kd.R_elder' (by (with_reducible repeat (first | apply Kd.R_alloc | apply Kd.R_drewN | apply Kd.R_drew)); exact HO332.out) (Kd.R_base ho0) hb); have n3_ := Aside0.mk (Kd.R_lower (Kd.R_new' (Kd.R_new' (Kd.R_mono (ok' := fun k_ => True) ho0 (fun _ hk_ => trivial)) (Kd.R_lt (by (with_reducible repeat (first | apply Kd.R_alloc | apply Kd.R_drewN | apply Kd.R_drew)); exact HO328.out))) (Kd.R_lt (by (with_reducible repeat (first | apply Kd.R_alloc | apply Kd.R_drewN | apply Kd.R_drew)); exact HO332.out))) (below_size (by repeat (first | (with_reducible first | exact HB.out | apply below_alloc | apply pw_below_drewN | apply below_drew1 | refine below_set ?_ (IsS25.ge HI320.out)) | exact HB.out)))); have n4_ := Aside0.mk (IsS25.below (by repeat (first | (with_reducible first | exact HI320.out | apply IsS25.alloc | apply IsS25.drewN | apply IsS25.drew | apply IsS25.set_1) | exact HI320.out)) hb); have n5_ := Aside0.mk (below_step (by repeat (first | (with_reducible first | exact HB.out | apply below_alloc | apply pw_below_drewN | apply below_drew1 | refine below_set ?_ (IsS25.ge HI320.out)) | exact HB.out)) hb); clear HO323; clear HO328; clear HO332; clear HI320; clear HB; have HO323 := n0_; have HO328 := n1_; have HO332 := n2_; have HO338 := n3_; have HI320 := n4_; have HB := n5_; clear n0_ n1_ n2_ n3_ n4_ n5_; (try clear hb); (try clear hb2); (try clear hk); (try clear hi); (try clear ho0)) | ((with_reducible refine gate_callee (f := 25) rfl ?_); refine goesL_ (some 47) rfl rfl Tryd.func25 (by kernel_rfl) rfl #[.slice Ao22 t326.length co22, .slice Ao25 t330.length co25, .int .i64 t324] rfl (by (try simp only [List.map_toArray, List.map_cons, List.map_nil]); first | done | rfl | (simp only [List.length_drop, List.length_take]; rfl)) ?_; (with_reducible refine (privilege_Without.calls k _ _ t326 _ _ t330 t324 t340 t341 _ ?side1 ?side2 ?side3 ?side4 A11.out).mono ?_); (case side1 => repeat (first | exact (Kd.R_reads' HO328.out).2.2 | (with_reducible refine Kd.C_alloc ?_ _) | (with_reducible refine Kd.C_drewN ?_ _) | (with_reducible refine Kd.C_drew ?_))); (case side2 => exact (Kd.R_reads' HO328.out).2.1); (case side3 => repeat (first | exact (Kd.R_reads' HO332.out).2.2 | (with_reducible refine Kd.C_alloc ?_ _) | (with_reducible refine Kd.C_drewN ?_ _) | (with_reducible refine Kd.C_drew ?_))); (case side4 => exact (Kd.R_reads' HO332.out).2.1); rintro e w27 ⟨v342, rfl, ho0, hb⟩; refine ⟨_, rfl, ?_⟩; have n0_ := Aside0.mk (Kd.R_below (by (with_reducible repeat (first | apply Kd.R_alloc | apply Kd.R_drewN | apply Kd.R_drew)); exact HO323.out) hb); have n1_ := Aside0.mk (Kd.R_elder' (by (with_reducible repeat (first | apply Kd.R_alloc | apply Kd.R_drewN | apply Kd.R_drew)); exact HO328.out) (Kd.R_base ho0) hb); have n2_ := Aside0.mk (Kd.R_elder' (by (with_reducible repeat (first | apply Kd.R_alloc | apply Kd.R_drewN | apply Kd.R_drew)); exact HO332.out) (Kd.R_base ho0) hb); have n3_ := Aside0.mk (Kd.R_elder' (by (with_reducible repeat (first | apply Kd.R_alloc | apply Kd.R_drewN | apply Kd.R_drew)); exact HO338.out) (Kd.R_base ho0) hb); have n4_ := Aside0.mk (Kd.R_lower (Kd.R_new' (Kd.R_new' (Kd.R_new' ho0 (Kd.R_lt (by (with_reducible repeat (first | apply Kd.R_alloc | apply Kd.R_drewN | apply Kd.R_drew)); exact HO328.out))) (Kd.R_lt (by (with_reducible repeat (first | apply Kd.R_alloc | apply Kd.R_drewN | apply Kd.R_drew)); exact HO332.out))) (Kd.R_lt (by (with_reducible repeat (first | apply Kd.R_alloc | apply Kd.R_drewN | apply Kd.R_drew)); exact HO338.out))) (below_size (by repeat (first | (with_reducible first | exact HB.out | apply below_alloc | apply pw_below_drewN | apply below_drew1 | refine below_set ?_ (IsS25.ge HI320.out)) | exact HB.out)))); have n5_ := Aside0.mk (IsS25.below (by repeat (first | (with_reducible first | exact HI320.out | apply IsS25.alloc | apply IsS25.drewN | apply IsS25.drew | apply IsS25.set_1) | exact HI320.out)) hb); have n6_ := Aside0.mk (below_step (by repeat (first | (with_reducible first | exact HB.out | apply below_alloc | apply pw_below_drewN | apply below_drew1 | refine below_set ?_ (IsS25.ge HI320.out)) | exact HB.out)) hb); clear HO323; clear HO328; clear HO332; clear HO338; clear HI320; clear HB; have HO323 := n0_; have HO328 := n1_; have HO332 := n2_; have HO338 := n3_; have HO343 := n4_; have HI320 := n5_; have HB := n6_; clear n0_ n1_ n2_ n3_ n4_ n5_ n6_; (try clear hb); (try clear hb2); (try clear hk); (try clear hi); (try clear ho0)) | ((with_reducible refine gate_callee (f := 26) rfl ?_); refine goesL_ (some 54) rfl rfl Tryd.func26 (by kernel_rfl) rfl #[.slice Ao22 t326.length co22, .slice Ao25 t330.length co25, .int .i64 t324, .bool false] rfl (by (try simp only [List.map_toArray, List.map_cons, List.map_nil]); first | done | rfl | (simp only [List.length_drop, List.length_take]; rfl)) ?_; (with_reducible refine (chaseref1_MixedOf.calls k _ _ t326 _ _ t330 t324 false t344 t345 _ ?side1 ?side2 ?side3 ?side4 A12.out).mono ?_); (case side1 => repeat (first | exact (Kd.R_reads' HO328.out).2.2 | (with_reducible refine Kd.C_alloc ?_ _) | (with_reducible refine Kd.C_drewN ?_ _) | (with_reducible refine Kd.C_drew ?_))); (case side2 => exact (Kd.R_reads' HO328.out).2.1); (case side3 => repeat (first | exact (Kd.R_reads' HO332.out).2.2 | (with_reducible refine Kd.C_alloc ?_ _) | (with_reducible refine Kd.C_drewN ?_ _) | (with_reducible refine Kd.C_drew ?_))); (case side4 => exact (Kd.R_reads' HO332.out).2.1); rintro e w28 ⟨v346, rfl, ho0, hb⟩; refine ⟨_, rfl, ?_⟩; have n0_ := Aside0.mk (Kd.R_below (by (with_reducible repeat (first | apply Kd.R_alloc | apply Kd.R_drewN | apply Kd.R_drew)); exact HO323.out) hb); have n1_ := Aside0.mk (Kd.R_elder' (by (with_reducible repeat (first | apply Kd.R_alloc | apply Kd.R_drewN | apply Kd.R_drew)); exact HO328.out) (Kd.R_base ho0) hb); have n2_ := Aside0.mk (Kd.R_elder' (by (with_reducible repeat (first | apply Kd.R_alloc | apply Kd.R_drewN | apply Kd.R_drew)); exact HO332.out) (Kd.R_base ho0) hb); have n3_ := Aside0.mk (Kd.R_elder' (by (with_reducible repeat (first | apply Kd.R_alloc | apply Kd.R_drewN | apply Kd.R_drew)); exact HO338.out) (Kd.R_base ho0) hb); have n4_ := Aside0.mk (Kd.R_elder' (by (with_reducible repeat (first | apply Kd.R_alloc | apply Kd.R_drewN | apply Kd.R_drew)); exact HO343.out) (Kd.R_base ho0) hb); have n5_ := Aside0.mk (Kd.R_lower (Kd.R_new' (Kd.R_new' (Kd.R_new' (Kd.R_new' ho0 (Kd.R_lt (by (with_reducible repeat (first | apply Kd.R_alloc | apply Kd.R_drewN | apply Kd.R_drew)); exact HO328.out))) (Kd.R_lt (by (with_reducible repeat (first | apply Kd.R_alloc | apply Kd.R_drewN | apply Kd.R_drew)); exact HO332.out))) (Kd.R_lt (by (with_reducible repeat (first | apply Kd.R_alloc | apply Kd.R_drewN | apply Kd.R_drew)); exact HO338.out))) (Kd.R_lt (by (with_reducible repeat (first | apply Kd.R_alloc | apply Kd.R_drewN | apply Kd.R_drew)); exact HO343.out))) (below_size (by repeat (first | (with_reducible first | exact HB.out | apply below_alloc | apply pw_below_drewN | apply below_drew1 | refine below_set ?_ (IsS25.ge HI320.out)) | exact HB.out)))); have n6_ := Aside0.mk (IsS25.below (by repeat (first | (with_reducible first | exact HI320.out | apply IsS25.alloc | apply IsS25.drewN | apply IsS25.drew | apply IsS25.set_1) | exact HI320.out)) hb); have n7_ := Aside0.mk (below_step (by repeat (first | (with_reducible first | exact HB.out | apply below_alloc | apply pw_below_drewN | apply below_drew1 | refine below_set ?_ (IsS25.ge HI320.out)) | exact HB.out)) hb); clear HO323; clear HO328; clear HO332; clear HO338; clear HO343; clear HI320; clear HB; have HO323 := n0_; have HO328 := n1_; have HO332 := n2_; have HO338 := n3_; have HO343 := n4_; have HO347 := n5_; have HI320 := n6_; have HB := n7_; clear n0_ n1_ n2_ n3_ n4_ n5_ n6_ n7_; (try clear hb); (try clear hb2); (try clear hk); (try clear hi); (try clear ho0)) | ((with_reducible refine gate_callee (f := 26) rfl ?_); refine goesL_ (some 61) rfl rfl Tryd.func26 (by kernel_rfl) rfl #[.slice Ao22 t326.length co22, .slice Ao25 t330.length co25, .int .i64 t324, .bool true] rfl (by (try simp only [List.map_toArray, List.map_cons, List.map_nil]); first | done | rfl | (simp only [List.length_drop, List.length_take]; rfl)) ?_; (with_reducible refine (chaseref1_MixedOf.calls k _ _ t326 _ _ t330 t324 true t348 t349 _ ?side1 ?side2 ?side3 ?side4 A13.out).mono ?_); (case side1 => repeat (first | exact (Kd.R_reads' HO328.out).2.2 | (with_reducible refine Kd.C_alloc ?_ _) | (with_reducible refine Kd.C_drewN ?_ _) | (with_reducible refine Kd.C_drew ?_))); (case side2 => exact (Kd.R_reads' HO328.out).2.1); (case side3 => repeat (first | exact (Kd.R_reads' HO332.out).2.2 | (with_reducible refine Kd.C_alloc ?_ _) | (with_reducible refine Kd.C_drewN ?_ _) | (with_reducible refine Kd.C_drew ?_))); (case side4 => exact (Kd.R_reads' HO332.out).2.1); rintro e w29 ⟨v350, rfl, ho0, hb⟩; refine ⟨_, rfl, ?_⟩; have n0_ := Aside0.mk (Kd.R_below (by (with_reducible repeat (first | apply Kd.R_alloc | apply Kd.R_drewN | apply Kd.R_drew)); exact HO323.out) hb); have n1_ := Aside0.mk (Kd.R_elder' (by (with_reducible repeat (first | apply Kd.R_alloc | apply Kd.R_drewN | apply Kd.R_drew)); exact HO328.out) (Kd.R_base ho0) hb); have n2_ := Aside0.mk (Kd.R_elder' (by (with_reducible repeat (first | apply Kd.R_alloc | apply Kd.R_drewN | apply Kd.R_drew)); exact HO332.out) (Kd.R_base ho0) hb); have n3_ := Aside0.mk (Kd.R_elder' (by (with_reducible repeat (first | apply Kd.R_alloc | apply Kd.R_drewN | apply Kd.R_drew)); exact HO338.out) (Kd.R_base ho0) hb); have n4_ := Aside0.mk (Kd.R_elder' (by (with_reducible repeat (first | apply Kd.R_alloc | apply Kd.R_drewN | apply Kd.R_drew)); exact HO343.out) (Kd.R_base ho0) hb); have n5_ := Aside0.mk (Kd.R_elder' (by (with_reducible repeat (first | apply Kd.R_alloc | apply Kd.R_drewN | apply Kd.R_drew)); exact HO347.out) (Kd.R_base ho0) hb); have n6_ := Aside0.mk (Kd.R_lower (Kd.R_new' (Kd.R_new' (Kd.R_new' (Kd.R_new' (Kd.R_new' ho0 (Kd.R_lt (by (with_reducible repeat (first | apply Kd.R_alloc | apply Kd.R_drewN | apply Kd.R_drew)); exact HO328.out))) (Kd.R_lt (by (with_reducible repeat (first | apply Kd.R_alloc | apply Kd.R_drewN | apply Kd.R_drew)); exact HO332.out))) (Kd.R_lt (by (with_reducible repeat (first | apply Kd.R_alloc | apply Kd.R_drewN | apply Kd.R_drew)); exact HO338.out))) (Kd.R_lt (by (with_reducible repeat (first | apply Kd.R_alloc | apply Kd.R_drewN | apply Kd.R_drew)); exact HO343.out))) (Kd.R_lt (by (with_reducible repeat (first | apply Kd.R_alloc | apply Kd.R_drewN | apply Kd.R_drew)); exact HO347.out))) (below_size (by repeat (first | (with_reducible first | exact HB.out | apply below_alloc | apply pw_below_drewN | apply below_drew1 | refine below_set ?_ (IsS25.ge HI320.out)) | exact HB.out)))); have n7_ := Aside0.mk (IsS25.below (by repeat (first | (with_reducible first | exact HI320.out | apply IsS25.alloc | apply IsS25.drewN | apply IsS25.drew | apply IsS25.set_1) | exact HI320.out)) hb); have n8_ := Aside0.mk (below_step (by repeat (first | (with_reducible first | exact HB.out | apply below_alloc | apply pw_below_drewN | apply below_drew1 | refine below_set ?_ (IsS25.ge HI320.out)) | exact HB.out)) hb); clear HO323; clear HO328; clear HO332; clear HO338; clear HO343; clear HO347; clear HI320; clear HB; have HO323 := n0_; have HO328 := n1_; have HO332 := n2_; have HO338 := n3_; have HO343 := n4_; have HO347 := n5_; have HO351 := n6_; have HI320 := n7_; have HB := n8_; clear n0_ n1_ n2_ n3_ n4_ n5_ n6_ n7_ n8_; (try clear hb); (try clear hb2); (try clear hk); (try clear hi); (try clear ho0)))
    (try simp only [Act.put, List.setIfInBounds_toArray, List.set_cons_zero, List.set_cons_succ])
    go_cut [2] (fun v2 wc => ∃ (kq : Nat) (x2_13 : Bool), v2 = .bool x2_13 ∧ Aside0 (chaselaw1_SpansMixed.j0 kq x2_13 = some r) ∧ Aside0 (kq ≤ k) ∧ Aside0 (Below w.heap.size w wc))
    case first =>
      have H := HC14.out
      clear HC14
      replace H := Option.bind_eq_some_iff.mp H
      obtain ⟨t352, A300, H⟩ := H
      replace H : (if t352 = true then (if t339 = t345 then (if t341 = t349 then ((api_Span_27.f k t336 t344).bind fun t353 => (if t353 = true then ((api_Span_27.f k t340 t348).bind fun t354 => (chaselaw1_SpansMixed.j0 k t354)) else (chaselaw1_SpansMixed.j0 k false))) else (chaselaw1_SpansMixed.j0 k false)) else (chaselaw1_SpansMixed.j0 k false)) else (chaselaw1_SpansMixed.j0 k false)) = some r := H
      have A30 := Aside0.mk A300
      clear A300
      by_cases c31 : t352 = true
      · subst c31
        have H1 : (if t339 = t345 then (if t341 = t349 then ((api_Span_27.f k t336 t344).bind fun t353 => (if t353 = true then ((api_Span_27.f k t340 t348).bind fun t354 => (chaselaw1_SpansMixed.j0 k t354)) else (chaselaw1_SpansMixed.j0 k false))) else (chaselaw1_SpansMixed.j0 k false)) else (chaselaw1_SpansMixed.j0 k false)) = some r := by rw [if_pos rfl] at H; exact H
        clear H
        have H := H1
        clear H1
        by_cases c32 : t339 = t345
        · rw [if_pos c32] at H
          have c32b0 : (t339 == t345) = true := beq_iff_eq.mpr c32
          have c32b1 : (t339 != t345) = false := bne_eq_false_iff_eq.mpr c32
          clear c32
          (first | rw [c32b0] | (simp only [i64_w, i32_w]; rw [c32b0]) | skip)
          by_cases c33 : t341 = t349
          · rw [if_pos c33] at H
            have c33b0 : (t341 == t349) = true := beq_iff_eq.mpr c33
            have c33b1 : (t341 != t349) = false := bne_eq_false_iff_eq.mpr c33
            clear c33
            replace H := Option.bind_eq_some_iff.mp H
            obtain ⟨t353, A340, H⟩ := H
            replace H : (if t353 = true then ((api_Span_27.f k t340 t348).bind fun t354 => (chaselaw1_SpansMixed.j0 k t354)) else (chaselaw1_SpansMixed.j0 k false)) = some r := H
            have A34 := Aside0.mk A340
            clear A340
            by_cases c35 : t353 = true
            · subst c35
              have H1 : ((api_Span_27.f k t340 t348).bind fun t354 => (chaselaw1_SpansMixed.j0 k t354)) = some r := by rw [if_pos rfl] at H; exact H
              clear H
              have H := H1
              clear H1
              replace H := Option.bind_eq_some_iff.mp H
              obtain ⟨t354, A360, H⟩ := H
              replace H : (chaselaw1_SpansMixed.j0 k t354) = some r := H
              have A36 := Aside0.mk A360
              clear A360
              have H' := Aside0.mk H
              clear H
              go_wp2_with (first | ((with_reducible refine gate_callee (f := 17) rfl ?_); refine goesL_ (some 64) rfl rfl Tryd.func17 (by kernel_rfl) rfl #[] rfl (by (try simp only [List.map_toArray, List.map_cons, List.map_nil]); first | done | rfl | (simp only [List.length_drop, List.length_take]; rfl)) ?_; (with_reducible refine (chaselaw1_privileges.calls k  true _ ?side1 A30.out).mono ?_); (case side1 => exact Wd.below HGl.out (by repeat (first | (with_reducible first | exact HB.out | apply below_alloc | apply pw_below_drewN | apply below_drew1 | refine below_set ?_ (IsS25.ge HI320.out)) | exact HB.out))); rintro e w37 ⟨rfl, hb⟩; refine ⟨_, rfl, ?_⟩; have n0_ := Aside0.mk (Kd.R_below (by (with_reducible repeat (first | apply Kd.R_alloc | apply Kd.R_drewN | apply Kd.R_drew)); exact HO323.out) hb); have n1_ := Aside0.mk (Kd.R_below (by (with_reducible repeat (first | apply Kd.R_alloc | apply Kd.R_drewN | apply Kd.R_drew)); exact HO328.out) hb); have n2_ := Aside0.mk (Kd.R_below (by (with_reducible repeat (first | apply Kd.R_alloc | apply Kd.R_drewN | apply Kd.R_drew)); exact HO332.out) hb); have n3_ := Aside0.mk (Kd.R_below (by (with_reducible repeat (first | apply Kd.R_alloc | apply Kd.R_drewN | apply Kd.R_drew)); exact HO338.out) hb); have n4_ := Aside0.mk (Kd.R_below (by (with_reducible repeat (first | apply Kd.R_alloc | apply Kd.R_drewN | apply Kd.R_drew)); exact HO343.out) hb); have n5_ := Aside0.mk (Kd.R_below (by (with_reducible repeat (first | apply Kd.R_alloc | apply Kd.R_drewN | apply Kd.R_drew)); exact HO347.out) hb); have n6_ := Aside0.mk (Kd.R_below (by (with_reducible repeat (first | apply Kd.R_alloc | apply Kd.R_drewN | apply Kd.R_drew)); exact HO351.out) hb); have n7_ := Aside0.mk (IsS25.below (by repeat (first | (with_reducible first | exact HI320.out | apply IsS25.alloc | apply IsS25.drewN | apply IsS25.drew | apply IsS25.set_1) | exact HI320.out)) hb); have n8_ := Aside0.mk (below_step (by repeat (first | (with_reducible first | exact HB.out | apply below_alloc | apply pw_below_drewN | apply below_drew1 | refine below_set ?_ (IsS25.ge HI320.out)) | exact HB.out)) hb); clear HO323; clear HO328; clear HO332; clear HO338; clear HO343; clear HO347; clear HO351; clear HI320; clear HB; have HO323 := n0_; have HO328 := n1_; have HO332 := n2_; have HO338 := n3_; have HO343 := n4_; have HO347 := n5_; have HO351 := n6_; have HI320 := n7_; have HB := n8_; clear n0_ n1_ n2_ n3_ n4_ n5_ n6_ n7_ n8_; (try clear hb); (try clear hb2); (try clear hk); (try clear hi); obtain ⟨Ao38, co38, eo38⟩ := Kd.R_slice HO338.out; subst eo38; obtain ⟨Ao39, co39, eo39⟩ := Kd.R_slice HO347.out; subst eo39) | (go_at_call 27; (with_reducible refine (api_Span_27.calls k _ _ t336 _ _ t344 true _ ?side1 ?side2 ?side3 ?side4 A34.out).mono ?_); (case side1 => repeat (first | exact (Kd.R_reads' HO338.out).2.2 | (with_reducible refine Kd.C_alloc ?_ _) | (with_reducible refine Kd.C_drewN ?_ _) | (with_reducible refine Kd.C_drew ?_))); (case side2 => exact (Kd.R_reads' HO338.out).2.1); (case side3 => repeat (first | exact (Kd.R_reads' HO347.out).2.2 | (with_reducible refine Kd.C_alloc ?_ _) | (with_reducible refine Kd.C_drewN ?_ _) | (with_reducible refine Kd.C_drew ?_))); (case side4 => exact (Kd.R_reads' HO347.out).2.1); rintro e w' ⟨rfl, ⟨nd, rfl⟩⟩; obtain ⟨Ao40, co40, eo40⟩ := Kd.R_slice HO343.out; subst eo40; obtain ⟨Ao41, co41, eo41⟩ := Kd.R_slice HO351.out; subst eo41) | (go_at_call 27; (with_reducible refine (api_Span_27.calls k _ _ t340 _ _ t348 t354 _ ?side1 ?side2 ?side3 ?side4 A36.out).mono ?_); (case side1 => repeat (first | exact (Kd.R_reads' HO343.out).2.2 | (with_reducible refine Kd.C_alloc ?_ _) | (with_reducible refine Kd.C_drewN ?_ _) | (with_reducible refine Kd.C_drew ?_))); (case side2 => exact (Kd.R_reads' HO343.out).2.1); (case side3 => repeat (first | exact (Kd.R_reads' HO351.out).2.2 | (with_reducible refine Kd.C_alloc ?_ _) | (with_reducible refine Kd.C_drewN ?_ _) | (with_reducible refine Kd.C_drew ?_))); (case side4 => exact (Kd.R_reads' HO351.out).2.1); rintro e w' ⟨rfl, ⟨nd, rfl⟩⟩))
              go_meet
              case rel => exact ⟨_, (t354), (by first | rfl | (simp; done) | (simp [*]; done)), H', ⟨by first | omega | exact Nat.le_refl _⟩, ⟨by repeat (first | (with_reducible first | exact HB.out | apply below_alloc | apply pw_below_drewN | apply below_drew1 | refine below_set ?_ (IsS25.ge HI320.out)) | exact HB.out)⟩⟩
            · replace c35 := Bool.eq_false_iff.mpr c35
              subst c35
              have H1 : (chaselaw1_SpansMixed.j0 k false) = some r := by rw [if_neg (show ¬ (false = true) by decide)] at H; exact H
              clear H
              have H := H1
              clear H1
              have H' := Aside0.mk H
              clear H
              go_wp2_with (first | ((with_reducible refine gate_callee (f := 17) rfl ?_); refine goesL_ (some 64) rfl rfl Tryd.func17 (by kernel_rfl) rfl #[] rfl (by (try simp only [List.map_toArray, List.map_cons, List.map_nil]); first | done | rfl | (simp only [List.length_drop, List.length_take]; rfl)) ?_; (with_reducible refine (chaselaw1_privileges.calls k  true _ ?side1 A30.out).mono ?_); (case side1 => exact Wd.below HGl.out (by repeat (first | (with_reducible first | exact HB.out | apply below_alloc | apply pw_below_drewN | apply below_drew1 | refine below_set ?_ (IsS25.ge HI320.out)) | exact HB.out))); rintro e w42 ⟨rfl, hb⟩; refine ⟨_, rfl, ?_⟩; have n0_ := Aside0.mk (Kd.R_below (by (with_reducible repeat (first | apply Kd.R_alloc | apply Kd.R_drewN | apply Kd.R_drew)); exact HO323.out) hb); have n1_ := Aside0.mk (Kd.R_below (by (with_reducible repeat (first | apply Kd.R_alloc | apply Kd.R_drewN | apply Kd.R_drew)); exact HO328.out) hb); have n2_ := Aside0.mk (Kd.R_below (by (with_reducible repeat (first | apply Kd.R_alloc | apply Kd.R_drewN | apply Kd.R_drew)); exact HO332.out) hb); have n3_ := Aside0.mk (Kd.R_below (by (with_reducible repeat (first | apply Kd.R_alloc | apply Kd.R_drewN | apply Kd.R_drew)); exact HO338.out) hb); have n4_ := Aside0.mk (Kd.R_below (by (with_reducible repeat (first | apply Kd.R_alloc | apply Kd.R_drewN | apply Kd.R_drew)); exact HO343.out) hb); have n5_ := Aside0.mk (Kd.R_below (by (with_reducible repeat (first | apply Kd.R_alloc | apply Kd.R_drewN | apply Kd.R_drew)); exact HO347.out) hb); have n6_ := Aside0.mk (Kd.R_below (by (with_reducible repeat (first | apply Kd.R_alloc | apply Kd.R_drewN | apply Kd.R_drew)); exact HO351.out) hb); have n7_ := Aside0.mk (IsS25.below (by repeat (first | (with_reducible first | exact HI320.out | apply IsS25.alloc | apply IsS25.drewN | apply IsS25.drew | apply IsS25.set_1) | exact HI320.out)) hb); have n8_ := Aside0.mk (below_step (by repeat (first | (with_reducible first | exact HB.out | apply below_alloc | apply pw_below_drewN | apply below_drew1 | refine below_set ?_ (IsS25.ge HI320.out)) | exact HB.out)) hb); clear HO323; clear HO328; clear HO332; clear HO338; clear HO343; clear HO347; clear HO351; clear HI320; clear HB; have HO323 := n0_; have HO328 := n1_; have HO332 := n2_; have HO338 := n3_; have HO343 := n4_; have HO347 := n5_; have HO351 := n6_; have HI320 := n7_; have HB := n8_; clear n0_ n1_ n2_ n3_ n4_ n5_ n6_ n7_ n8_; (try clear hb); (try clear hb2); (try clear hk); (try clear hi); obtain ⟨Ao43, co43, eo43⟩ := Kd.R_slice HO338.out; subst eo43; obtain ⟨Ao44, co44, eo44⟩ := Kd.R_slice HO347.out; subst eo44) | (go_at_call 27; (with_reducible refine (api_Span_27.calls k _ _ t336 _ _ t344 false _ ?side1 ?side2 ?side3 ?side4 A34.out).mono ?_); (case side1 => repeat (first | exact (Kd.R_reads' HO338.out).2.2 | (with_reducible refine Kd.C_alloc ?_ _) | (with_reducible refine Kd.C_drewN ?_ _) | (with_reducible refine Kd.C_drew ?_))); (case side2 => exact (Kd.R_reads' HO338.out).2.1); (case side3 => repeat (first | exact (Kd.R_reads' HO347.out).2.2 | (with_reducible refine Kd.C_alloc ?_ _) | (with_reducible refine Kd.C_drewN ?_ _) | (with_reducible refine Kd.C_drew ?_))); (case side4 => exact (Kd.R_reads' HO347.out).2.1); rintro e w' ⟨rfl, ⟨nd, rfl⟩⟩))
              go_meet
              case rel => exact ⟨_, (false), (by first | rfl | (simp; done) | (simp [*]; done)), H', ⟨by first | omega | exact Nat.le_refl _⟩, ⟨by repeat (first | (with_reducible first | exact HB.out | apply below_alloc | apply pw_below_drewN | apply below_drew1 | refine below_set ?_ (IsS25.ge HI320.out)) | exact HB.out)⟩⟩
          · rw [if_neg c33] at H
            have c33b0 : (t341 == t349) = false := beq_eq_false_iff_ne.mpr c33
            have c33b1 : (t341 != t349) = true := bne_iff_ne.mpr c33
            have H' := Aside0.mk H
            clear H
            go_wp2_with (first | ((with_reducible refine gate_callee (f := 17) rfl ?_); refine goesL_ (some 64) rfl rfl Tryd.func17 (by kernel_rfl) rfl #[] rfl (by (try simp only [List.map_toArray, List.map_cons, List.map_nil]); first | done | rfl | (simp only [List.length_drop, List.length_take]; rfl)) ?_; (with_reducible refine (chaselaw1_privileges.calls k  true _ ?side1 A30.out).mono ?_); (case side1 => exact Wd.below HGl.out (by repeat (first | (with_reducible first | exact HB.out | apply below_alloc | apply pw_below_drewN | apply below_drew1 | refine below_set ?_ (IsS25.ge HI320.out)) | exact HB.out))); rintro e w45 ⟨rfl, hb⟩; refine ⟨_, rfl, ?_⟩; have n0_ := Aside0.mk (Kd.R_below (by (with_reducible repeat (first | apply Kd.R_alloc | apply Kd.R_drewN | apply Kd.R_drew)); exact HO323.out) hb); have n1_ := Aside0.mk (Kd.R_below (by (with_reducible repeat (first | apply Kd.R_alloc | apply Kd.R_drewN | apply Kd.R_drew)); exact HO328.out) hb); have n2_ := Aside0.mk (Kd.R_below (by (with_reducible repeat (first | apply Kd.R_alloc | apply Kd.R_drewN | apply Kd.R_drew)); exact HO332.out) hb); have n3_ := Aside0.mk (Kd.R_below (by (with_reducible repeat (first | apply Kd.R_alloc | apply Kd.R_drewN | apply Kd.R_drew)); exact HO338.out) hb); have n4_ := Aside0.mk (Kd.R_below (by (with_reducible repeat (first | apply Kd.R_alloc | apply Kd.R_drewN | apply Kd.R_drew)); exact HO343.out) hb); have n5_ := Aside0.mk (Kd.R_below (by (with_reducible repeat (first | apply Kd.R_alloc | apply Kd.R_drewN | apply Kd.R_drew)); exact HO347.out) hb); have n6_ := Aside0.mk (Kd.R_below (by (with_reducible repeat (first | apply Kd.R_alloc | apply Kd.R_drewN | apply Kd.R_drew)); exact HO351.out) hb); have n7_ := Aside0.mk (IsS25.below (by repeat (first | (with_reducible first | exact HI320.out | apply IsS25.alloc | apply IsS25.drewN | apply IsS25.drew | apply IsS25.set_1) | exact HI320.out)) hb); have n8_ := Aside0.mk (below_step (by repeat (first | (with_reducible first | exact HB.out | apply below_alloc | apply pw_below_drewN | apply below_drew1 | refine below_set ?_ (IsS25.ge HI320.out)) | exact HB.out)) hb); clear HO323; clear HO328; clear HO332; clear HO338; clear HO343; clear HO347; clear HO351; clear HI320; clear HB; have HO323 := n0_; have HO328 := n1_; have HO332 := n2_; have HO338 := n3_; have HO343 := n4_; have HO347 := n5_; have HO351 := n6_; have HI320 := n7_; have HB := n8_; clear n0_ n1_ n2_ n3_ n4_ n5_ n6_ n7_ n8_; (try clear hb); (try clear hb2); (try clear hk); (try clear hi)))
            go_meet
            case rel => exact ⟨_, (false), (by first | rfl | (simp; done) | (simp [*]; done)), H', ⟨by first | omega | exact Nat.le_refl _⟩, ⟨by repeat (first | (with_reducible first | exact HB.out | apply below_alloc | apply pw_below_drewN | apply below_drew1 | refine below_set ?_ (IsS25.ge HI320.out)) | exact HB.out)⟩⟩
        · rw [if_neg c32] at H
          have c32b0 : (t339 == t345) = false := beq_eq_false_iff_ne.mpr c32
          have c32b1 : (t339 != t345) = true := bne_iff_ne.mpr c32
          (first | rw [c32b0] | (simp only [i64_w, i32_w]; rw [c32b0]) | skip)
          have H' := Aside0.mk H
          clear H
          go_wp2_with (first | ((with_reducible refine gate_callee (f := 17) rfl ?_); refine goesL_ (some 64) rfl rfl Tryd.func17 (by kernel_rfl) rfl #[] rfl (by (try simp only [List.map_toArray, List.map_cons, List.map_nil]); first | done | rfl | (simp only [List.length_drop, List.length_take]; rfl)) ?_; (with_reducible refine (chaselaw1_privileges.calls k  true _ ?side1 A30.out).mono ?_); (case side1 => exact Wd.below HGl.out (by repeat (first | (with_reducible first | exact HB.out | apply below_alloc | apply pw_below_drewN | apply below_drew1 | refine below_set ?_ (IsS25.ge HI320.out)) | exact HB.out))); rintro e w46 ⟨rfl, hb⟩; refine ⟨_, rfl, ?_⟩; have n0_ := Aside0.mk (Kd.R_below (by (with_reducible repeat (first | apply Kd.R_alloc | apply Kd.R_drewN | apply Kd.R_drew)); exact HO323.out) hb); have n1_ := Aside0.mk (Kd.R_below (by (with_reducible repeat (first | apply Kd.R_alloc | apply Kd.R_drewN | apply Kd.R_drew)); exact HO328.out) hb); have n2_ := Aside0.mk (Kd.R_below (by (with_reducible repeat (first | apply Kd.R_alloc | apply Kd.R_drewN | apply Kd.R_drew)); exact HO332.out) hb); have n3_ := Aside0.mk (Kd.R_below (by (with_reducible repeat (first | apply Kd.R_alloc | apply Kd.R_drewN | apply Kd.R_drew)); exact HO338.out) hb); have n4_ := Aside0.mk (Kd.R_below (by (with_reducible repeat (first | apply Kd.R_alloc | apply Kd.R_drewN | apply Kd.R_drew)); exact HO343.out) hb); have n5_ := Aside0.mk (Kd.R_below (by (with_reducible repeat (first | apply Kd.R_alloc | apply Kd.R_drewN | apply Kd.R_drew)); exact HO347.out) hb); have n6_ := Aside0.mk (Kd.R_below (by (with_reducible repeat (first | apply Kd.R_alloc | apply Kd.R_drewN | apply Kd.R_drew)); exact HO351.out) hb); have n7_ := Aside0.mk (IsS25.below (by repeat (first | (with_reducible first | exact HI320.out | apply IsS25.alloc | apply IsS25.drewN | apply IsS25.drew | apply IsS25.set_1) | exact HI320.out)) hb); have n8_ := Aside0.mk (below_step (by repeat (first | (with_reducible first | exact HB.out | apply below_alloc | apply pw_below_drewN | apply below_drew1 | refine below_set ?_ (IsS25.ge HI320.out)) | exact HB.out)) hb); clear HO323; clear HO328; clear HO332; clear HO338; clear HO343; clear HO347; clear HO351; clear HI320; clear HB; have HO323 := n0_; have HO328 := n1_; have HO332 := n2_; have HO338 := n3_; have HO343 := n4_; have HO347 := n5_; have HO351 := n6_; have HI320 := n7_; have HB := n8_; clear n0_ n1_ n2_ n3_ n4_ n5_ n6_ n7_ n8_; (try clear hb); (try clear hb2); (try clear hk); (try clear hi)))
          go_meet
          case rel => exact ⟨_, (false), (by first | rfl | (simp; done) | (simp [*]; done)), H', ⟨by first | omega | exact Nat.le_refl _⟩, ⟨by repeat (first | (with_reducible first | exact HB.out | apply below_alloc | apply pw_below_drewN | apply below_drew1 | refine below_set ?_ (IsS25.ge HI320.out)) | exact HB.out)⟩⟩
      · replace c31 := Bool.eq_false_iff.mpr c31
        subst c31
        have H1 : (chaselaw1_SpansMixed.j0 k false) = some r := by rw [if_neg (show ¬ (false = true) by decide)] at H; exact H
        clear H
        have H := H1
        clear H1
        have H' := Aside0.mk H
        clear H
        go_wp2_with (first | ((with_reducible refine gate_callee (f := 17) rfl ?_); refine goesL_ (some 64) rfl rfl Tryd.func17 (by kernel_rfl) rfl #[] rfl (by (try simp only [List.map_toArray, List.map_cons, List.map_nil]); first | done | rfl | (simp only [List.length_drop, List.length_take]; rfl)) ?_; (with_reducible refine (chaselaw1_privileges.calls k  false _ ?side1 A30.out).mono ?_); (case side1 => exact Wd.below HGl.out (by repeat (first | (with_reducible first | exact HB.out | apply below_alloc | apply pw_below_drewN | apply below_drew1 | refine below_set ?_ (IsS25.ge HI320.out)) | exact HB.out))); rintro e w47 ⟨rfl, hb⟩; refine ⟨_, rfl, ?_⟩; have n0_ := Aside0.mk (Kd.R_below (by (with_reducible repeat (first | apply Kd.R_alloc | apply Kd.R_drewN | apply Kd.R_drew)); exact HO323.out) hb); have n1_ := Aside0.mk (Kd.R_below (by (with_reducible repeat (first | apply Kd.R_alloc | apply Kd.R_drewN | apply Kd.R_drew)); exact HO328.out) hb); have n2_ := Aside0.mk (Kd.R_below (by (with_reducible repeat (first | apply Kd.R_alloc | apply Kd.R_drewN | apply Kd.R_drew)); exact HO332.out) hb); have n3_ := Aside0.mk (Kd.R_below (by (with_reducible repeat (first | apply Kd.R_alloc | apply Kd.R_drewN | apply Kd.R_drew)); exact HO338.out) hb); have n4_ := Aside0.mk (Kd.R_below (by (with_reducible repeat (first | apply Kd.R_alloc | apply Kd.R_drewN | apply Kd.R_drew)); exact HO343.out) hb); have n5_ := Aside0.mk (Kd.R_below (by (with_reducible repeat (first | apply Kd.R_alloc | apply Kd.R_drewN | apply Kd.R_drew)); exact HO347.out) hb); have n6_ := Aside0.mk (Kd.R_below (by (with_reducible repeat (first | apply Kd.R_alloc | apply Kd.R_drewN | apply Kd.R_drew)); exact HO351.out) hb); have n7_ := Aside0.mk (IsS25.below (by repeat (first | (with_reducible first | exact HI320.out | apply IsS25.alloc | apply IsS25.drewN | apply IsS25.drew | apply IsS25.set_1) | exact HI320.out)) hb); have n8_ := Aside0.mk (below_step (by repeat (first | (with_reducible first | exact HB.out | apply below_alloc | apply pw_below_drewN | apply below_drew1 | refine below_set ?_ (IsS25.ge HI320.out)) | exact HB.out)) hb); clear HO323; clear HO328; clear HO332; clear HO338; clear HO343; clear HO347; clear HO351; clear HI320; clear HB; have HO323 := n0_; have HO328 := n1_; have HO332 := n2_; have HO338 := n3_; have HO343 := n4_; have HO347 := n5_; have HO351 := n6_; have HI320 := n7_; have HB := n8_; clear n0_ n1_ n2_ n3_ n4_ n5_ n6_ n7_ n8_; (try clear hb); (try clear hb2); (try clear hk); (try clear hi)))
        go_meet
        case rel => exact ⟨_, (false), (by first | rfl | (simp; done) | (simp [*]; done)), H', ⟨by first | omega | exact Nat.le_refl _⟩, ⟨by repeat (first | (with_reducible first | exact HB.out | apply below_alloc | apply pw_below_drewN | apply below_drew1 | refine below_set ?_ (IsS25.ge HI320.out)) | exact HB.out)⟩⟩
    case rest =>
      clear HC14
      try clear c1
      try clear c2
      try clear p2
      try clear c3
      try clear c4
      try clear c5
      try clear c5b0
      try clear c9
      try clear c9b0
      try clear c9b1
      try clear c17
      try clear c20
      try clear c21
      try clear c22
      try clear c23
      try clear c24
      try clear c25
      try clear c26
      try clear c31
      try clear c32
      try clear c32b0
      try clear c32b1
      try clear c33
      try clear c33b0
      try clear c33b1
      try clear c35
      obtain ⟨kq, x2_13, rfl, HA, HJ13, HB⟩ := hcut
      cases kq with
      | zero => exact absurd HA.out (by simp [chaselaw1_SpansMixed.j0])
      | succ kj13 =>
        have H := HA.out
        clear HA
        simp only [chaselaw1_SpansMixed.j0] at H
        obtain rfl := Option.some.inj H
        go_wp2
        go_ret
        exact ⟨by first | rfl | (simp [errW_none, errW_some] <;> rfl) | (simp only [← hji3]; first | rfl | (simp [errW_none, errW_some] <;> rfl)) | (simp [*, errW_none, errW_some] <;> rfl), by repeat (first | (with_reducible first | exact HB.out | apply below_alloc | apply pw_below_drewN | apply below_drew1) | exact HB.out)⟩
  · rw [if_neg c9] at H
    have c9b0 : (t334 == t335) = false := beq_eq_false_iff_ne.mpr c9
    have c9b1 : (t334 != t335) = true := bne_iff_ne.mpr c9
    obtain rfl := Option.some.inj H
    go_enter Tryd.func4, Tryd.ntmps4
    go_wp2_with (first | ((with_reducible refine gate_dst (N := 17) rfl ?_); refine box_event ?hg (N := 17) ?hd (cs := #[.slice A0 l0.length c0, .int .i64 0]) (t := 25) ?hr ?_; (case hd => rfl); (case hg => rfl); (case hr => first | (go_simp; done) | (go_simp; rfl)); intro gb320 hg w48 hbox hb; have n0_ := Aside0.mk (below_step (by repeat (first | (with_reducible first | exact HB.out | apply below_alloc | apply pw_below_drewN | apply below_drew1) | exact HB.out)) hb); have n1_ := Aside0.mk ((⟨_, _, hbox, (by rw [hg]; exact (below_size (by repeat (first | (with_reducible first | exact HB.out | apply below_alloc | apply pw_below_drewN | apply below_drew1) | exact HB.out)))), HR0.out⟩ : IsS25 w _ gb320 l0 0)); clear HB; have HB := n0_; have HI320 := n1_; clear n0_ n1_; clear hb hbox hg) | ((with_reducible refine gate_dst (N := 19) rfl ?_); refine Kd.R_lit (Kd.int .i64) _ 3 ?hg (N := 19) ?hd (xs := ([0, 5, 20, 40, 200000, (-1), 200001] : List Int)) (inner := [.int .i64 0, .int .i64 5, .int .i64 20, .int .i64 40, .int .i64 200000, .int .i64 (-1), .int .i64 200001]) (ok := fun _ => True) (okp := fun _ => True) ?hr ?hp (fun _ hk => hk) trivial (Below.refl _ _) (Nat.le_refl _) (by simp) ?_; (case hd => rfl); (case hg => rfl); (case hr => first | (go_simp; done) | (go_simp; rfl)); (case hp => exact (Reps.one (show Kd.M (Kd.int .i64) _ _ _ 0 [.int .i64 0] from rfl) (Reps.one (show Kd.M (Kd.int .i64) _ _ _ 5 [.int .i64 5] from rfl) (Reps.one (show Kd.M (Kd.int .i64) _ _ _ 20 [.int .i64 20] from rfl) (Reps.one (show Kd.M (Kd.int .i64) _ _ _ 40 [.int .i64 40] from rfl) (Reps.one (show Kd.M (Kd.int .i64) _ _ _ 200000 [.int .i64 200000] from rfl) (Reps.one (show Kd.M (Kd.int .i64) _ _ _ (-1) [.int .i64 (-1)] from rfl) (Reps.one (show Kd.M (Kd.int .i64) _ _ _ 200001 [.int .i64 200001] from rfl) (Reps.none _ _))))))))); intro v322 w49 ho50 hb hg_ hnew_; clear hg_ hnew_; (first | rw [← Ny321.out] at ho50 | (simp only [Int.reduceToNat] at ho50; rw [← Ny321.out] at ho50)); have n0_ := Aside0.mk (Kd.R_lower ho50 (below_size (by repeat (first | (with_reducible first | exact HB.out | apply below_alloc | apply pw_below_drewN | apply below_drew1 | refine below_set ?_ (IsS25.ge HI320.out)) | exact HB.out)))); have n1_ := Aside0.mk (IsS25.below (by repeat (first | (with_reducible first | exact HI320.out | apply IsS25.alloc | apply IsS25.drewN | apply IsS25.drew | apply IsS25.set_1) | exact HI320.out)) hb); have n2_ := Aside0.mk (below_step (by repeat (first | (with_reducible first | exact HB.out | apply below_alloc | apply pw_below_drewN | apply below_drew1 | refine below_set ?_ (IsS25.ge HI320.out)) | exact HB.out)) hb); clear HI320; clear HB; have HO323 := n0_; have HI320 := n1_; have HB := n2_; clear n0_ n1_ n2_; clear hb ho50; obtain ⟨Ao51, co51, eo51⟩ := Kd.R_slice HO323.out; subst eo51) | ((with_reducible refine gate_callee (f := 20) rfl ?_); refine goesL_ (some 20) rfl rfl Tryd.func20 (by kernel_rfl) rfl #[.pointer (some ⟨gb320, 0, none⟩), .slice Ao51 y321.length co51] rfl (by (try simp only [List.map_toArray, List.map_cons, List.map_nil]); first | done | rfl | (simp only [List.length_drop, List.length_take]; rfl)) ?_; (with_reducible refine (chasemake_Stream_Pick.calls gb320 l0 0 _ _ y321 t324 t325 w _ ?side1 ?side2 ?side3 ?side4 ?side5 A2.out).mono ?_); (case side1 => repeat (first | (with_reducible first | exact HI320.out | apply IsS25.alloc | apply IsS25.drewN | apply IsS25.drew | apply IsS25.set_1) | exact HI320.out)); (case side2 => repeat (first | (with_reducible first | exact HB.out | apply below_alloc | apply pw_below_drewN | apply below_drew1 | refine below_set ?_ (IsS25.ge HI320.out)) | exact HB.out)); (case side3 => repeat (first | exact (Kd.R_reads' HO323.out).2.2 | (with_reducible refine Kd.C_alloc ?_ _) | (with_reducible refine Kd.C_drewN ?_ _) | (with_reducible refine Kd.C_drew ?_))); (case side4 => exact (Kd.R_reads' HO323.out).2.1); (case side5 => exact far_slice (IsS25.own_ne HI320.out HO323.out (by decide))); rintro e w52 ⟨rfl, hi, hb, hk⟩; refine ⟨_, rfl, ?_⟩; have n0_ := Aside0.mk (Kd.R_mono (Kd.R_keep (IsS25.apart (show IsS25 w _ gb320 l0 0 from by repeat (first | (with_reducible first | exact HI320.out | apply IsS25.alloc | apply IsS25.drewN | apply IsS25.drew | apply IsS25.set_1) | exact HI320.out)) (by (with_reducible repeat (first | apply Kd.R_alloc | apply Kd.R_drewN | apply Kd.R_drew)); exact HO323.out) (by decide)) hk (fun _ h => h.2)) (fun _ h => h.1)); have n1_ := Aside0.mk (hb); have n2_ := Aside0.mk (hi); clear HO323; clear HB; clear HI320; have HO323 := n0_; have HB := n1_; have HI320 := n2_; clear n0_ n1_ n2_; (try clear hb); (try clear hb2); (try clear hk); (try clear hi)) | ((with_reducible refine gate_callee (f := 21) rfl ?_); refine goesL_ (some 24) rfl rfl Tryd.func21 (by kernel_rfl) rfl #[.pointer (some ⟨gb320, 0, none⟩), .int .i64 ji3] rfl (by (try simp only [List.map_toArray, List.map_cons, List.map_nil]); first | done | (simp only [hji3]; rfl) | rfl | (simp only [List.length_drop, List.length_take]; rfl)) ?_; (with_reducible refine (chasemake_Stream_AnySpans.calls k gb320 l0 t325 ji3 t326 t329 w _ ?side1 ?side2 A4.out).mono ?_); (case side1 => repeat (first | (with_reducible first | exact HI320.out | apply IsS25.alloc | apply IsS25.drewN | apply IsS25.drew | apply IsS25.set_1) | exact HI320.out)); (case side2 => repeat (first | (with_reducible first | exact HB.out | apply below_alloc | apply pw_below_drewN | apply below_drew1 | refine below_set ?_ (IsS25.ge HI320.out)) | exact HB.out)); rintro e w53 ⟨v327, rfl, ho0, hi, hb, hk⟩; refine ⟨_, rfl, ?_⟩; have n0_ := Aside0.mk (Kd.R_mono (Kd.R_keep (IsS25.apart (show IsS25 w _ gb320 l0 t325 from by repeat (first | (with_reducible first | exact HI320.out | apply IsS25.alloc | apply IsS25.drewN | apply IsS25.drew | apply IsS25.set_1) | exact HI320.out)) (by (with_reducible repeat (first | apply Kd.R_alloc | apply Kd.R_drewN | apply Kd.R_drew)); exact HO323.out) (by decide)) hk (fun _ h => h.2)) (fun _ h => h.1)); have n1_ := Aside0.mk (Kd.R_lower ho0 (below_size (by repeat (first | (with_reducible first | exact HB.out | apply below_alloc | apply pw_below_drewN | apply below_drew1 | refine below_set ?_ (IsS25.ge HI320.out)) | exact HB.out)))); have n2_ := Aside0.mk (hb); have n3_ := Aside0.mk (hi); clear HO323; clear HB; clear HI320; have HO323 := n0_; have HO328 := n1_; have HB := n2_; have HI320 := n3_; clear n0_ n1_ n2_ n3_; (try clear hb); (try clear hb2); (try clear hk); (try clear hi); (try clear ho0)) | ((with_reducible refine gate_callee (f := 21) rfl ?_); refine goesL_ (some 28) rfl rfl Tryd.func21 (by kernel_rfl) rfl #[.pointer (some ⟨gb320, 0, none⟩), .int .i64 ji3] rfl (by (try simp only [List.map_toArray, List.map_cons, List.map_nil]); first | done | (simp only [hji3]; rfl) | rfl | (simp only [List.length_drop, List.length_take]; rfl)) ?_; (with_reducible refine (chasemake_Stream_AnySpans.calls k gb320 l0 t329 ji3 t330 t333 w _ ?side1 ?side2 A6.out).mono ?_); (case side1 => repeat (first | (with_reducible first | exact HI320.out | apply IsS25.alloc | apply IsS25.drewN | apply IsS25.drew | apply IsS25.set_1) | exact HI320.out)); (case side2 => repeat (first | (with_reducible first | exact HB.out | apply below_alloc | apply pw_below_drewN | apply below_drew1 | refine below_set ?_ (IsS25.ge HI320.out)) | exact HB.out)); rintro e w54 ⟨v331, rfl, ho0, hi, hb, hk⟩; refine ⟨_, rfl, ?_⟩; have n0_ := Aside0.mk (Kd.R_mono (Kd.R_keep (IsS25.apart (show IsS25 w _ gb320 l0 t329 from by repeat (first | (with_reducible first | exact HI320.out | apply IsS25.alloc | apply IsS25.drewN | apply IsS25.drew | apply IsS25.set_1) | exact HI320.out)) (by (with_reducible repeat (first | apply Kd.R_alloc | apply Kd.R_drewN | apply Kd.R_drew)); exact HO323.out) (by decide)) hk (fun _ h => h.2)) (fun _ h => h.1)); have n1_ := Aside0.mk (Kd.R_mono (Kd.R_told (Kd.R_oldK (IsS25.apart (show IsS25 w _ gb320 l0 t329 from by repeat (first | (with_reducible first | exact HI320.out | apply IsS25.alloc | apply IsS25.drewN | apply IsS25.drew | apply IsS25.set_1) | exact HI320.out)) (by (with_reducible repeat (first | apply Kd.R_alloc | apply Kd.R_drewN | apply Kd.R_drew)); exact HO328.out) (by decide)) hk) (Kd.R_base ho0)) (fun _ h_ => h_.1)); have n2_ := Aside0.mk (Kd.R_lower (Kd.R_new' ho0 (Kd.R_lt (by (with_reducible repeat (first | apply Kd.R_alloc | apply Kd.R_drewN | apply Kd.R_drew)); exact HO328.out))) (below_size (by repeat (first | (with_reducible first | exact HB.out | apply below_alloc | apply pw_below_drewN | apply below_drew1 | refine below_set ?_ (IsS25.ge HI320.out)) | exact HB.out)))); have n3_ := Aside0.mk (hb); have n4_ := Aside0.mk (hi); clear HO323; clear HO328; clear HB; clear HI320; have HO323 := n0_; have HO328 := n1_; have HO332 := n2_; have HB := n3_; have HI320 := n4_; clear n0_ n1_ n2_ n3_ n4_; (try clear hb); (try clear hb2); (try clear hk); (try clear hi); (try clear ho0); obtain ⟨Ao55, co55, eo55⟩ := Kd.R_slice HO328.out; subst eo55) | ((with_reducible refine gate_callee (f := 22) rfl ?_); refine goesL_ (some 31) rfl rfl Tryd.func22 (by kernel_rfl) rfl #[.slice Ao55 t326.length co55, .int .i64 t324] rfl (by (try simp only [List.map_toArray, List.map_cons, List.map_nil]); first | done | rfl | (simp only [List.length_drop, List.length_take]; rfl)) ?_; (with_reducible refine (privilege_CheckSpans.calls k _ _ t326 t324 t334 _ ?side1 ?side2 A7.out).mono ?_); (case side1 => repeat (first | exact (Kd.R_reads' HO328.out).2.2 | (with_reducible refine Kd.C_alloc ?_ _) | (with_reducible refine Kd.C_drewN ?_ _) | (with_reducible refine Kd.C_drew ?_))); (case side2 => exact (Kd.R_reads' HO328.out).2.1); rintro e w56 ⟨rfl, hb⟩; refine ⟨_, rfl, ?_⟩; have n0_ := Aside0.mk (Kd.R_below (by (with_reducible repeat (first | apply Kd.R_alloc | apply Kd.R_drewN | apply Kd.R_drew)); exact HO323.out) hb); have n1_ := Aside0.mk (Kd.R_below (by (with_reducible repeat (first | apply Kd.R_alloc | apply Kd.R_drewN | apply Kd.R_drew)); exact HO328.out) hb); have n2_ := Aside0.mk (Kd.R_below (by (with_reducible repeat (first | apply Kd.R_alloc | apply Kd.R_drewN | apply Kd.R_drew)); exact HO332.out) hb); have n3_ := Aside0.mk (IsS25.below (by repeat (first | (with_reducible first | exact HI320.out | apply IsS25.alloc | apply IsS25.drewN | apply IsS25.drew | apply IsS25.set_1) | exact HI320.out)) hb); have n4_ := Aside0.mk (below_step (by repeat (first | (with_reducible first | exact HB.out | apply below_alloc | apply pw_below_drewN | apply below_drew1 | refine below_set ?_ (IsS25.ge HI320.out)) | exact HB.out)) hb); clear HO323; clear HO328; clear HO332; clear HI320; clear HB; have HO323 := n0_; have HO328 := n1_; have HO332 := n2_; have HI320 := n3_; have HB := n4_; clear n0_ n1_ n2_ n3_ n4_; (try clear hb); (try clear hb2); (try clear hk); (try clear hi)) | ((with_reducible refine gate_callee (f := 23) rfl ?_); refine goesL_ (some 34) rfl rfl Tryd.func23 (by kernel_rfl) rfl #[.slice Ao55 t326.length co55, .int .i64 t324] rfl (by (try simp only [List.map_toArray, List.map_cons, List.map_nil]); first | done | rfl | (simp only [List.length_drop, List.length_take]; rfl)) ?_; (with_reducible refine (chaseref1_SpansFault.calls k _ _ t326 t324 t335 _ ?side1 ?side2 A8.out).mono ?_); (case side1 => repeat (first | exact (Kd.R_reads' HO328.out).2.2 | (with_reducible refine Kd.C_alloc ?_ _) | (with_reducible refine Kd.C_drewN ?_ _) | (with_reducible refine Kd.C_drew ?_))); (case side2 => exact (Kd.R_reads' HO328.out).2.1); rintro e w57 ⟨rfl, hb⟩; refine ⟨_, rfl, ?_⟩; have n0_ := Aside0.mk (Kd.R_below (by (with_reducible repeat (first | apply Kd.R_alloc | apply Kd.R_drewN | apply Kd.R_drew)); exact HO323.out) hb); have n1_ := Aside0.mk (Kd.R_below (by (with_reducible repeat (first | apply Kd.R_alloc | apply Kd.R_drewN | apply Kd.R_drew)); exact HO328.out) hb); have n2_ := Aside0.mk (Kd.R_below (by (with_reducible repeat (first | apply Kd.R_alloc | apply Kd.R_drewN | apply Kd.R_drew)); exact HO332.out) hb); have n3_ := Aside0.mk (IsS25.below (by repeat (first | (with_reducible first | exact HI320.out | apply IsS25.alloc | apply IsS25.drewN | apply IsS25.drew | apply IsS25.set_1) | exact HI320.out)) hb); have n4_ := Aside0.mk (below_step (by repeat (first | (with_reducible first | exact HB.out | apply below_alloc | apply pw_below_drewN | apply below_drew1 | refine below_set ?_ (IsS25.ge HI320.out)) | exact HB.out)) hb); clear HO323; clear HO328; clear HO332; clear HI320; clear HB; have HO323 := n0_; have HO328 := n1_; have HO332 := n2_; have HI320 := n3_; have HB := n4_; clear n0_ n1_ n2_ n3_ n4_; (try clear hb); (try clear hb2); (try clear hk); (try clear hi)))
    go_ret
    exact ⟨by first | rfl | (simp [errW_none, errW_some] <;> rfl) | (simp only [← hji3]; first | rfl | (simp [errW_none, errW_some] <;> rfl)) | (simp [*, errW_none, errW_some] <;> rfl), by repeat (first | (with_reducible first | exact HB.out | apply below_alloc | apply pw_below_drewN | apply below_drew1 | refine below_set ?_ (IsS25.ge HI320.out)) | exact HB.out)⟩
def chaselaw1_SpansMixed.Pure : Prop := ∀ (l0 : List Int), l0.length ≤ maxLen → l0.length * 8 ≤ 140737488351232 → (∀ x ∈ l0, (Lit.int .i64 x).wf = true) → ∃ k, chaselaw1_SpansMixed.f k l0 = some true
theorem chaselaw1_SpansMixed.walk (P : chaselaw1_SpansMixed.Pure) (a0 : Option Addr) (len0 cap0 : Nat) (z0 : List Int) (w : World) (w0 : (a0 = none ∧ len0 = 0 ∧ cap0 = 0 ∧ z0 = []) ∨ ∃ x, a0 = some x ∧ len0 ≤ cap0 ∧ cap0 ≤ maxLen ∧ z0.length = cap0 ∧ (∀ i, i < z0.length → w.cell? (x.add i) = some (.int .i64 (z0.getD i 0))) ∧ ∀ n ∈ z0, (Lit.int .i64 n).wf = true) (y0 : len0 * 8 ≤ 140737488351232) (hGl : Wd w) :
    Calls Tryd.prog 4 #[.slice a0 len0 cap0] w fun e w' => e = .returned (.bool true) ∧ Below w.heap.size w w' := by
  obtain ⟨l0, rfl, hr0, hm0, hw0, hc0⟩ := ReadsInt.ofRowC w0
  obtain ⟨k, h⟩ := P l0 hm0 y0 hw0
  refine (chaselaw1_SpansMixed.calls k _ _ l0 true w (Kd.C_of_reads (d := (0 : Int)) (h1 := fun _ => rfl) hr0) hc0 hGl h).mono ?_
  rintro e w' ⟨rfl, hd⟩
  exact ⟨rfl, hd⟩
end Go.Proofs.YtbamfhcifpfocaaDoor.Pm
