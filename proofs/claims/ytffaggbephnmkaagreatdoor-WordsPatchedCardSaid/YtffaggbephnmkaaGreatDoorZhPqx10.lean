/- A part of the proof of wordsPatched. No conditions. Laid by program over the kit's print and words. -/
import Derived.Test.YtffaggbephnmkaaGreatDoorZhPqx0
import Derived.Test.YtffaggbephnmkaaGreatDoorZhPqx1
import Derived.Test.YtffaggbephnmkaaGreatDoorZhPqx5
import Derived.Test.YtffaggbephnmkaaGreatDoorZhPqx6
import Derived.Test.YtffaggbephnmkaaGreatDoorZhPqx8
import Derived.Test.YtffaggbephnmkaaGreatDoorZhPqx9
namespace Go.Proofs.YtffaggbephnmkaaGreatDoor.Pq
open Go.RowKit Go.Proofs.YtffaggbephnmkaaGreatDoor.GBase Go.Proofs.YtffaggbephnmkaaGreatDoorW.PrintWords Go.Proofs.YtffaggbephnmkaaGreatDoorW.PrintLast Go.Proofs.YtffaggbephnmkaaGreatDoorW.PrintMore
attribute [local go_sem] str_leq max2_int min2_int max_two min_two max_three min_three max_four min_four
set_option linter.unusedVariables false
set_option linter.unusedSimpArgs false
theorem clone_some {l t : List ByteArray} (h : Z14.f l = some t) : t = l := by
  unfold Z14.f at h
  split at h
  · exact (Option.some.inj h).symm
  · exact absurd h (by simp)
theorem concat_two (a b : List ByteArray) (h : a.length + b.length < 8796093022208) : Ev (fun k => Z15.f k [a, b]) (a ++ b) := by
  have r0 : rd_L4 [a, b] 0 = a := rfl
  have r1 : rd_L4 [a, b] 1 = b := rfl
  have w1 : wrap64 ((0 : Int) + 1) = 1 := by rw [wr64 (by omega) (by omega)]; rfl
  have w2 : wrap64 ((1 : Int) + 1) = 2 := by rw [wr64 (by omega) (by omega)]; rfl
  have s1 : wrap64 (0 + (a.length : Int)) = (a.length : Int) := by rw [wr64 (by omega) (by omega)]; omega
  have s2 : wrap64 ((a.length : Int) + (b.length : Int)) = (a.length : Int) + (b.length : Int) := wr64 (by omega) (by omega)
  have hl : (([a, b] : List (List ByteArray)).length : Int) = 2 := rfl
  refine Ev.congr (fun _ => Z15.f.eq_1 ..) ?_
  rw [hl]
  refine Ev.step (fun _ => Z15.l0.eq_2 ..) (ev_pos (by omega) (ev_pos (by omega) (ev_pos (by rw [hl]; omega) ?_)))
  rw [r0, s1, w1]
  refine ev_neg (by omega) (Ev.step (fun _ => Z15.l0.eq_2 ..) (ev_pos (by omega) (ev_pos (by omega) (ev_pos (by rw [hl]; omega) ?_))))
  rw [r1, s2, w2]
  have hg : Z43.f ([] : List ByteArray) ((a.length : Int) + (b.length : Int)) = some [] := by
    unfold Z43.f
    rw [if_pos ⟨by omega, by simp; omega⟩]
  refine ev_neg (by omega) (Ev.step (fun _ => Z15.l0.eq_2 ..) (ev_neg (by omega) (ev_bindc hg ?_)))
  rw [hl]
  refine Ev.step (fun _ => Z15.l1.eq_2 ..) (ev_pos (by omega) (ev_pos (by omega) (ev_pos (by rw [hl]; omega) ?_)))
  rw [r0, w1]
  refine ev_pos (by simp; omega) (Ev.step (fun _ => Z15.l1.eq_2 ..) (ev_pos (by omega) (ev_pos (by omega) (ev_pos (by rw [hl]; omega) ?_))))
  rw [r1, w2]
  refine ev_pos (by simpa using h) (Ev.step (fun _ => Z15.l1.eq_2 ..) (ev_neg (by omega) (ev_val (by simp))))
theorem C_two {e e' : Nat} {w : World} {A1 A2 : Option Addr} {c1 c2 : Nat} {a b : List ByteArray} (h1 : Kd.C Kd.string w A1 a.length a) (g1 : a.length ≤ c1) (h2 : Kd.C Kd.string w A2 b.length b) (g2 : b.length ≤ c2) :
    Kd.C (Kd.slice e Kd.string) (w.alloc (.cells #[.slice A1 a.length c1, .slice A2 b.length c2] e')) (some ⟨w.heap.size, 0, none⟩) 2 [a, b] := by
  have hB : Below w.heap.size w (w.alloc (.cells #[.slice A1 a.length c1, .slice A2 b.length c2] e')) := b3_ (Below.refl _ _) _
  refine ⟨rfl, by omega, fun _ => ⟨_, rfl, fun j p hj => ?_⟩⟩
  have hn := heap_alloc_new w (.cells #[.slice A1 a.length c1, .slice A2 b.length c2] e')
  match j, hj with
  | 0, hj =>
    obtain rfl : a = p := by simpa using hj
    refine ⟨[.slice A1 a.length c1], rfl, ⟨A1, c1, rfl, g1, Kd.C_below h1 hB⟩, fun i u hi => ?_⟩
    match i, hi with
    | 0, hi =>
      obtain rfl : Value.slice A1 a.length c1 = u := by simpa using hi
      exact (blk_cell hn 0).trans rfl
    | i + 1, hi => simp at hi
  | 1, hj =>
    obtain rfl : b = p := by simpa using hj
    refine ⟨[.slice A2 b.length c2], rfl, ⟨A2, c2, rfl, g2, Kd.C_below h2 hB⟩, fun i u hi => ?_⟩
    match i, hi with
    | 0, hi =>
      obtain rfl : Value.slice A2 b.length c2 = u := by simpa using hi
      exact (blk_cell hn 1).trans rfl
    | i + 1, hi => simp at hi
  | j + 2, hj => simp at hj
set_option maxHeartbeats 8000000 in
set_option maxRecDepth 100000 in
theorem Z2.calls (k : Nat) (a0 : ByteArray) (A1 : Option Addr) (c1 : Nat) (l1 : List (S70)) (r1 : ByteArray) (r2 : List (S70)) (r3 : Int) (w : World) (hr1 : Kd.C k70 w A1 l1.length l1) (hc1 : l1.length ≤ c1) (hGl : Wd w) (h : Z2.f k a0 l1 = some (r1, r2, r3)) :
  Calls Tryz.prog 43 #[.string a0, .slice A1 l1.length c1] w fun e w' => ∃ v1_ : Value, e = .returned (.tuple #[.string r1, v1_, .int .i64 r3]) ∧ Kd.S k70 70 w' w.heap.size (fun _ => True) v1_ r2 ∧ Below w.heap.size w w' := by
 have hu70 := Tryz.underlying70
 have HGl := am_ hGl; clear hGl; have HR1 := am_ hr1; have HC1 := am_ hc1; clear hr1 hc1
 have HB := am_ (Below.refl w.heap.size w)
 have H : ((Z16.f k (([a0] : List ByteArray))).bind fun t355 => (if t355 = 0 then ((Z6.f k a0).bind fun t356 => (Z2.l0 k t356 ([] : List ByteArray) ([] : List (S70)) 0 l1 (l1.length : Int) 0)) else (some ((⟨#[]⟩ : ByteArray), ([] : List (S70)), t355)))) = some (r1, r2, r3) := h
 clear h
 obtain ⟨y352, hy352⟩ : ∃ y_ : List ByteArray, y_ = (([a0] : List ByteArray)) := ⟨_, rfl⟩
 replace H : ((Z16.f k y352).bind fun t355 => (if t355 = 0 then ((Z6.f k a0).bind fun t356 => (Z2.l0 k t356 ([] : List ByteArray) ([] : List (S70)) 0 l1 (l1.length : Int) 0)) else (some ((⟨#[]⟩ : ByteArray), ([] : List (S70)), t355)))) = some (r1, r2, r3) := by first | (rw [hy352]; with_reducible exact H) | (have H2_ := (Option.bind_some _ _).symm.trans H; rw [hy352]; with_reducible exact H2_) | (have H2_ := (Option.bind_some _ _).symm.trans H; with_reducible exact H2_) | with_reducible exact H | (rw [hy352]; exact H) | exact H
 have Ny352 := am_ hy352; clear hy352; replace H := Option.bind_eq_some_iff.mp H; obtain ⟨t355, A30, H⟩ := H; have A3 := am_ A30; clear A30
 by_cases c4 : t355 = 0
 ·rw [if_pos c4] at H
  have c4b0 : (t355 == 0) = true := beq_iff_eq.mpr c4
  have c4b1 : (t355 != 0) = false := bne_eq_false_iff_eq.mpr c4
  clear c4; replace H := Option.bind_eq_some_iff.mp H; obtain ⟨t356, A50, H⟩ := H; have A5 := am_ A50; clear A50
  have H' := am_ H
  clear H
  go_enter Tryz.func43, Tryz.ntmps43
  go_wp2_with (first | ((with_reducible refine gate_dst (N := 18) rfl ?_); (try (refine gate_guard (by rfl) ?_; dsimp only)); refine Kd.R_lit Kd.string _ 9 ?hg (N := 18) ?hd (xs := ([a0] : List ByteArray)) (inner := [.string a0]) (ok := fun _ => True) (okp := fun _ => True) ?hr ?hp (fun _ hk => hk) trivial (Below.refl _ _) (Nat.le_refl _) (by simp) ?_; (case hd => rfl); (case hg => rfl); (case hr => first | (go_simp; done) | (go_simp; rfl)); (case hp => exact (Reps.one (show Kd.M Kd.string _ _ _ a0 [.string a0] from rfl) (Reps.none _ _))); intro v353 w6 ho7 hb hg_ hnew_; clear hg_ hnew_; (first | rw [← Ny352.out] at ho7 | (simp only [Int.reduceToNat] at ho7; rw [← Ny352.out] at ho7)); have n0_ := am_ (Kd.R_lower ho7 (below_size (bw_ HB.out))); have n1_ := am_ (below_step (bw_ HB.out) hb); clear HB; have HO354 := n0_; have HB := n1_; clear n0_ n1_; clear hb ho7; obtain ⟨Ao8, co8, eo8⟩ := Kd.R_slice HO354.out; subst eo8) | ((with_reducible refine gate_callee (f := 85) rfl ?_); refine goesL_ (some 19) rfl rfl Tryz.func85 (by kernel_rfl) rfl #[.slice Ao8 y352.length co8] rfl gl_ ?_; (with_reducible refine (Z16.calls k _ _ y352 t355 _ ?side1 ?side2 ?side3 A3.out).mono ?_); (case side1 => exact cc_ (Kd.R_reads' HO354.out).2.2); (case side2 => exact (Kd.R_reads' HO354.out).2.1); (case side3 => exact Wd.below HGl.out (bw_ HB.out)); rintro e w9 ⟨rfl, hb⟩; refine ⟨_, rfl, ?_⟩; have n0_ := am_ (Kd.R_below (rr_ HO354.out) hb); have n1_ := am_ (below_step (bw_ HB.out) hb); clear HO354; clear HB; have HO354 := n0_; have HB := n1_; clear n0_ n1_; (try clear hb); (try clear hb2); (try clear hk); (try clear hi)) | ((with_reducible refine gate_callee (f := 77) rfl ?_); refine goesL_ (some 24) rfl rfl Tryz.func77 (by kernel_rfl) rfl #[.string a0] rfl gl_ ?_; (with_reducible refine (Z6.calls k a0 t356 _ ?side1 A5.out).mono ?_); (case side1 => exact Wd.below HGl.out (bw_ HB.out)); rintro e w10 ⟨v357, rfl, ho0, hb⟩; refine ⟨_, rfl, ?_⟩; have n0_ := am_ (Kd.R_elder' (rr_ HO354.out) (Kd.R_base ho0) hb); have n1_ := am_ (Kd.R_lower (Kd.R_new' ho0 (Kd.R_lt (rr_ HO354.out))) (below_size (bw_ HB.out))); have n2_ := am_ (below_step (bw_ HB.out) hb); clear HO354; clear HB; have HO354 := n0_; have HO358 := n1_; have HB := n2_; clear n0_ n1_ n2_; (try clear hb); (try clear hb2); (try clear hk); (try clear hi); (try clear ho0)))
  go_loopg [9, 10, 11, 27] k (fun kq v9 v10 v11 v27 w' => ∃ (x9_1 : List ByteArray) (x10_1 : List (S70)) (x11_1 : Int) (x27_1 : Int), v11 = .int .i64 x11_1 ∧ v27 = .int .i64 x27_1 ∧ Aside0 (Z2.l0 kq t356 x9_1 x10_1 x11_1 l1 (l1.length : Int) x27_1 = some (r1, r2, r3)) ∧ Aside0 (kq ≤ k) ∧ Aside0 (Kd.R Kd.string 9 w' w.heap.size (fun k_ => some k_ ≠ (v9 : Value).ownBlock) v357 t356) ∧ Aside0 (Kd.R Kd.string 9 w' w.heap.size (fun k_ => some k_ ≠ (v357 : Value).ownBlock) v9 x9_1) ∧ Aside0 (Kd.S k70 70 w' w.heap.size (fun k_ => some k_ ≠ (v357 : Value).ownBlock ∧ some k_ ≠ (v9 : Value).ownBlock) v10 x10_1) ∧ Aside0 (Below w.heap.size w w'))
  case atStart => exact ⟨(([] : List ByteArray)), (([] : List (S70))), (0), (0), tr_, tr_, H', ⟨Nat.le_refl _⟩, ⟨by (with_reducible repeat (first | apply r1_ | apply r2_ | apply r3_)); exact Kd.R_mono HO358.out (fun _ hk => (by simp [Value.ownBlock]))⟩, ⟨by first | exact Kd.R_nil _ _ _ _ _ | exact Kd.N_nil _ _ _ _ _ | exact Kd.V_nil _ _ _ _ _ | exact Kd.Q_nil _ _ _ _ _ | exact Kd.S_nil _ _ _ _ _⟩, ⟨by first | exact Kd.S_nil _ _ _ _ _ | exact Kd.N_nil _ _ _ _ _ | exact Kd.V_nil _ _ _ _ _ | exact Kd.Q_nil _ _ _ _ _ | exact Kd.R_nil _ _ _ _ _⟩, ⟨bw_ HB.out⟩⟩
  case round =>
   clear H'; (try clear c1); (try clear p2); (try clear c4); (try clear c4b0); (try clear c4b1); (try clear c7); (try clear c8); obtain ⟨x9_1, x10_1, x11_1, x27_1, rfl, rfl, HA, HK1, HO_8, HO_9, HO_10, HB⟩ := hrel
   cases gk with
   | zero => exact absurd HA.out (by simp [Z2.l0])
   | succ k1 =>
    have H := HA.out
    clear HA
    simp only [Z2.l0] at H
    by_cases c11 : x27_1 < (l1.length : Int)
    ·rw [if_pos c11] at H
     have c11b0 := decide_eq_true c11; clear c11
     by_cases c12 : 0 ≤ x27_1
     case neg => exact (nn_ c12 H).elim
     rw [if_pos c12] at H; have c12b0 := decide_eq_true c12; clear c12
     by_cases c13 : x27_1 < (l1.length : Int)
     case neg => exact (nn_ c13 H).elim
     rw [if_pos c13] at H; have c13b0 := decide_eq_true c13; clear c13; have HC14 := am_ H; clear H; have p367 : 0 ≤ (x27_1 : Int) := ode_; have q367 : x27_1 < (l1.length : Int) := ode_
     obtain ⟨ad367, A367_1, c367_1, A367_2, c367_2, e367, hx367_0, hx367_1, hx367_2, hl367_1, hi367_1, hl367_2, hi367_2⟩ := at_T70 HR1.out x27_1 p367 q367
     cases e367
     first | replace hx367_0 := (HB.out.cell (World.block_lt_of_cell? w _ hx367_0)).trans hx367_0 | skip
     first | replace hx367_1 := (HB.out.cell (World.block_lt_of_cell? w _ hx367_1)).trans hx367_1 | skip
     first | replace hx367_2 := (HB.out.cell (World.block_lt_of_cell? w _ hx367_2)).trans hx367_2 | skip
     have HR367_1 := am_ hi367_1; have HC367_1 := am_ hl367_1; clear hi367_1 hl367_1; have HR367_2 := am_ hi367_2; have HC367_2 := am_ hl367_2; clear hi367_2 hl367_2; replace p367 := eq_true p367; replace q367 := eq_true q367
     go_upto_block 2 with (first | ((with_reducible refine gate_dst (N := 13) rfl ?_); (try (refine gate_guard (by rfl) ?_; dsimp only)); refine box_event ?hg (N := 13) ?hd (cs := #[.int .i64 0, .slice none 0 0, .slice none 0 0]) (t := 70) ?hr ?_; (case hd => rfl); (case hg => rfl); (case hr => first | (go_simp; done) | (go_simp; rfl)); intro gb368 hg w15 hbox hb; have n0_ := am_ (Kd.R_below (rr_ HO_8.out) hb); have n1_ := am_ (Kd.R_below (rr_ HO_9.out) hb); have n2_ := am_ (Kd.S_below (Kd.S_elderB (by (with_reducible repeat (first | apply q1_ | apply q2_ | apply q3_)); exact HO_10.out) gb368 (Nat.le_of_eq hg.symm)) hb); have n3_ := am_ (below_step (bw_ HB.out) hb); have n4_ := am_ (hbox); have n5_ := am_ ((by rw [hg]; exact (below_size (bw_ HB.out)) : w.heap.size ≤ gb368)); have n6_ := am_ ((by rw [hg]; exact (below_size (bw_ HB.out)) : w.heap.size ≤ gb368)); clear HO_8; clear HO_9; clear HO_10; clear HB; have HO_8 := n0_; have HO_9 := n1_; have HO_10 := n2_; have HB := n3_; have BK368 := n4_; have GW368 := n5_; have GE368 := n6_; clear n0_ n1_ n2_ n3_ n4_ n5_ n6_; clear hb hbox hg; have hcz16_0 : w15.cell? ⟨gb368, 0, none⟩ = some (.int .i64 0) := (blk_cell BK368.out 0).trans rfl; have hcz16_1 : w15.cell? ⟨gb368, 1, none⟩ = some (.slice none 0 0) := (blk_cell BK368.out 1).trans rfl; have hcz16_2 : w15.cell? ⟨gb368, 2, none⟩ = some (.slice none 0 0) := (blk_cell BK368.out 2).trans rfl; have hfz16_0 := blk_frozen BK368.out 0; have hfz16_1 := blk_frozen BK368.out 1; have hfz16_2 := blk_frozen BK368.out 2))
     (try simp only [Act.put, s_t, s_z, s_s])
     go_cut [] (fun wc => ∃ (kq : Nat), Aside0 (Z2.j3 kq t356 x9_1 x10_1 x11_1 l1 (l1.length : Int) x27_1 ((rd_T70 l1 x27_1).f0) ((rd_T70 l1 x27_1).f1) ((rd_T70 l1 x27_1).f2) = some (r1, r2, r3)) ∧ Aside0 (kq ≤ k1) ∧ Aside0 (Kd.R Kd.string 9 wc w.heap.size (fun k_ => some k_ ≠ (u9 : Value).ownBlock) v357 t356) ∧ Aside0 (Kd.R Kd.string 9 wc w.heap.size (fun k_ => some k_ ≠ (v357 : Value).ownBlock) u9 x9_1) ∧ Aside0 (Kd.S k70 70 wc w.heap.size (fun k_ => some k_ ≠ (v357 : Value).ownBlock ∧ some k_ ≠ (u9 : Value).ownBlock ∧ k_ ≠ gb368) u10 x10_1) ∧ Aside0 (wc.heap[gb368]? = some (.cells #[.int .i64 ((rd_T70 l1 x27_1).f0), (.slice A367_1 ((rd_T70 l1 x27_1).f1).length c367_1), (.slice A367_2 ((rd_T70 l1 x27_1).f2).length c367_2)] 70 (0, 0))) ∧ Aside0 (Below w.heap.size w wc))
     case first =>
      have H := HC14.out
      clear HC14; have HC17 := am_ H; clear H
      go_upto_region 11 with (fail)
      go_cut [32] (fun v32 wc => ∃ (kq : Nat) (x32_16 : Bool), v32 = .bool x32_16 ∧ Aside0 (Z2.j1 kq t356 x9_1 x10_1 x11_1 x27_1 l1 (l1.length : Int) x27_1 x32_16 ((rd_T70 l1 x27_1).f0) ((rd_T70 l1 x27_1).f1) ((rd_T70 l1 x27_1).f2) = some (r1, r2, r3)) ∧ Aside0 (kq ≤ k1) ∧ Aside0 (Kd.R Kd.string 9 wc w.heap.size (fun k_ => some k_ ≠ (u9 : Value).ownBlock) v357 t356) ∧ Aside0 (Kd.R Kd.string 9 wc w.heap.size (fun k_ => some k_ ≠ (v357 : Value).ownBlock) u9 x9_1) ∧ Aside0 (Kd.S k70 70 wc w.heap.size (fun k_ => some k_ ≠ (v357 : Value).ownBlock ∧ some k_ ≠ (u9 : Value).ownBlock ∧ k_ ≠ gb368) u10 x10_1) ∧ Aside0 (wc.heap[gb368]? = some (.cells #[.int .i64 ((rd_T70 l1 x27_1).f0), (.slice A367_1 ((rd_T70 l1 x27_1).f1).length c367_1), (.slice A367_2 ((rd_T70 l1 x27_1).f2).length c367_2)] 70 (0, 0))) ∧ Aside0 (Below w.heap.size w wc))
      case first =>
       have H := HC17.out
       clear HC17
       by_cases c18 : ((rd_T70 l1 x27_1).f0) < 0
       ·rw [if_pos c18] at H
        have c18b0 := decide_eq_true c18; clear c18
        (first | rw [c18b0] | (simp only [i64_w, i32_w]; rw [c18b0]) | skip)
        have H' := am_ H
        clear H
        have hcz19_0 : w15.cell? ⟨gb368, 0, none⟩ = some (.int .i64 0) := (blk_cell BK368.out 0).trans rfl
        have hcz19_1 : w15.cell? ⟨gb368, 1, none⟩ = some (.slice none 0 0) := (blk_cell BK368.out 1).trans rfl
        have hcz19_2 : w15.cell? ⟨gb368, 2, none⟩ = some (.slice none 0 0) := (blk_cell BK368.out 2).trans rfl
        have hfz19_0 := blk_frozen BK368.out 0
        have hfz19_1 := blk_frozen BK368.out 1
        have hfz19_2 := blk_frozen BK368.out 2
        go_wp2
        go_meet
        case rel => exact ⟨_, (true), tr_, H', ⟨by have := HK1.out; first | omega | exact Nat.le_refl _⟩, ⟨by (with_reducible repeat (first | apply r1_ | apply r2_ | apply r3_)); exact Kd.R_mono (Kd.R_far (p := ⟨gb368, 2, none⟩) (Kd.R_far (p := ⟨gb368, 1, none⟩) (Kd.R_far (p := ⟨gb368, 0, none⟩) (Kd.R_types HO_8.out BK368.out (by decide)) (fun _ hk => hk.2) (.int .i64 ((rd_T70 l1 x27_1).f0))) (fun _ hk => hk.2) (.slice A367_1 ((rd_T70 l1 x27_1).f1).length c367_1)) (fun _ hk => hk.2) (.slice A367_2 ((rd_T70 l1 x27_1).f2).length c367_2)) (fun _ hk => hk.1)⟩, ⟨by (with_reducible repeat (first | apply r1_ | apply r2_ | apply r3_)); exact Kd.R_mono (Kd.R_far (p := ⟨gb368, 2, none⟩) (Kd.R_far (p := ⟨gb368, 1, none⟩) (Kd.R_far (p := ⟨gb368, 0, none⟩) (Kd.R_types HO_9.out BK368.out (by decide)) (fun _ hk => hk.2) (.int .i64 ((rd_T70 l1 x27_1).f0))) (fun _ hk => hk.2) (.slice A367_1 ((rd_T70 l1 x27_1).f1).length c367_1)) (fun _ hk => hk.2) (.slice A367_2 ((rd_T70 l1 x27_1).f2).length c367_2)) (fun _ hk => hk.1)⟩, ⟨by (with_reducible repeat (first | apply q1_ | apply q2_ | apply q3_)); exact Kd.S_mono (Kd.S_far (p := ⟨gb368, 2, none⟩) (Kd.S_far (p := ⟨gb368, 1, none⟩) (Kd.S_far (p := ⟨gb368, 0, none⟩) (Kd.S_mono HO_10.out (fun k_ hk => (⟨hk, hk.2⟩ : _ ∧ k_ ≠ gb368))) (fun _ hk => hk.2) (.int .i64 ((rd_T70 l1 x27_1).f0))) (fun _ hk => hk.2) (.slice A367_1 ((rd_T70 l1 x27_1).f1).length c367_1)) (fun _ hk => hk.2) (.slice A367_2 ((rd_T70 l1 x27_1).f2).length c367_2)) (fun _ hk => ⟨hk.1.1.1, ⟨hk.1.1.2, hk.1.2⟩⟩)⟩, ⟨by (with_reducible repeat (first | refine blk_drewN ?_ _ | refine blk_drew ?_ | refine blk_alloc ?_ _)); refine blk_put (cs := #[.int .i64 ((rd_T70 l1 x27_1).f0), .slice A367_1 ((rd_T70 l1 x27_1).f1).length c367_1, .slice none 0 0]) ?_ 2 _ rfl; (with_reducible repeat (first | refine blk_drewN ?_ _ | refine blk_drew ?_ | refine blk_alloc ?_ _)); refine blk_put (cs := #[.int .i64 ((rd_T70 l1 x27_1).f0), .slice none 0 0, .slice none 0 0]) ?_ 1 _ rfl; (with_reducible repeat (first | refine blk_drewN ?_ _ | refine blk_drew ?_ | refine blk_alloc ?_ _)); refine blk_put (cs := #[.int .i64 0, .slice none 0 0, .slice none 0 0]) ?_ 0 _ rfl; (with_reducible repeat (first | refine blk_drewN ?_ _ | refine blk_drew ?_ | refine blk_alloc ?_ _)); exact BK368.out⟩, ⟨bs_ HB.out GE368.out⟩⟩
       ·rw [if_neg c18] at H
        have c18b0 : decide (((rd_T70 l1 x27_1).f0) < 0) = false := decide_eq_false c18
        clear c18
        (first | rw [c18b0] | (simp only [i64_w, i32_w]; rw [c18b0]) | skip)
        have H' := am_ H
        clear H
        have hcz20_0 : w15.cell? ⟨gb368, 0, none⟩ = some (.int .i64 0) := (blk_cell BK368.out 0).trans rfl
        have hcz20_1 : w15.cell? ⟨gb368, 1, none⟩ = some (.slice none 0 0) := (blk_cell BK368.out 1).trans rfl
        have hcz20_2 : w15.cell? ⟨gb368, 2, none⟩ = some (.slice none 0 0) := (blk_cell BK368.out 2).trans rfl
        have hfz20_0 := blk_frozen BK368.out 0
        have hfz20_1 := blk_frozen BK368.out 1
        have hfz20_2 := blk_frozen BK368.out 2
        obtain ⟨Ao21, co21, eo21⟩ := Kd.R_slice HO_8.out
        subst eo21
        go_wp2
        go_meet
        case rel => exact ⟨_, (decide (((rd_T70 l1 x27_1).f0) > (t356.length : Int))), tr_, H', ⟨by have := HK1.out; first | omega | exact Nat.le_refl _⟩, ⟨by (with_reducible repeat (first | apply r1_ | apply r2_ | apply r3_)); exact Kd.R_mono (Kd.R_far (p := ⟨gb368, 2, none⟩) (Kd.R_far (p := ⟨gb368, 1, none⟩) (Kd.R_far (p := ⟨gb368, 0, none⟩) (Kd.R_types HO_8.out BK368.out (by decide)) (fun _ hk => hk.2) (.int .i64 ((rd_T70 l1 x27_1).f0))) (fun _ hk => hk.2) (.slice A367_1 ((rd_T70 l1 x27_1).f1).length c367_1)) (fun _ hk => hk.2) (.slice A367_2 ((rd_T70 l1 x27_1).f2).length c367_2)) (fun _ hk => hk.1)⟩, ⟨by (with_reducible repeat (first | apply r1_ | apply r2_ | apply r3_)); exact Kd.R_mono (Kd.R_far (p := ⟨gb368, 2, none⟩) (Kd.R_far (p := ⟨gb368, 1, none⟩) (Kd.R_far (p := ⟨gb368, 0, none⟩) (Kd.R_types HO_9.out BK368.out (by decide)) (fun _ hk => hk.2) (.int .i64 ((rd_T70 l1 x27_1).f0))) (fun _ hk => hk.2) (.slice A367_1 ((rd_T70 l1 x27_1).f1).length c367_1)) (fun _ hk => hk.2) (.slice A367_2 ((rd_T70 l1 x27_1).f2).length c367_2)) (fun _ hk => hk.1)⟩, ⟨by (with_reducible repeat (first | apply q1_ | apply q2_ | apply q3_)); exact Kd.S_mono (Kd.S_far (p := ⟨gb368, 2, none⟩) (Kd.S_far (p := ⟨gb368, 1, none⟩) (Kd.S_far (p := ⟨gb368, 0, none⟩) (Kd.S_mono HO_10.out (fun k_ hk => (⟨hk, hk.2⟩ : _ ∧ k_ ≠ gb368))) (fun _ hk => hk.2) (.int .i64 ((rd_T70 l1 x27_1).f0))) (fun _ hk => hk.2) (.slice A367_1 ((rd_T70 l1 x27_1).f1).length c367_1)) (fun _ hk => hk.2) (.slice A367_2 ((rd_T70 l1 x27_1).f2).length c367_2)) (fun _ hk => ⟨hk.1.1.1, ⟨hk.1.1.2, hk.1.2⟩⟩)⟩, ⟨by (with_reducible repeat (first | refine blk_drewN ?_ _ | refine blk_drew ?_ | refine blk_alloc ?_ _)); refine blk_put (cs := #[.int .i64 ((rd_T70 l1 x27_1).f0), .slice A367_1 ((rd_T70 l1 x27_1).f1).length c367_1, .slice none 0 0]) ?_ 2 _ rfl; (with_reducible repeat (first | refine blk_drewN ?_ _ | refine blk_drew ?_ | refine blk_alloc ?_ _)); refine blk_put (cs := #[.int .i64 ((rd_T70 l1 x27_1).f0), .slice none 0 0, .slice none 0 0]) ?_ 1 _ rfl; (with_reducible repeat (first | refine blk_drewN ?_ _ | refine blk_drew ?_ | refine blk_alloc ?_ _)); refine blk_put (cs := #[.int .i64 0, .slice none 0 0, .slice none 0 0]) ?_ 0 _ rfl; (with_reducible repeat (first | refine blk_drewN ?_ _ | refine blk_drew ?_ | refine blk_alloc ?_ _)); exact BK368.out⟩, ⟨bs_ HB.out GE368.out⟩⟩
      case rest =>
       clear HC17; (try clear c1); (try clear p2); (try clear c3); (try clear p3); (try clear q3); (try clear hx3); (try clear c4); (try clear c4b0); (try clear c4b1); (try clear c7); (try clear c8); (try clear c11); (try clear c11b0); (try clear c12); (try clear c12b0); (try clear c13); (try clear c13b0); (try clear c18); (try clear c18b0); (try clear hcz16_0); (try clear hcz16_1); (try clear hcz16_2); (try clear hcz19_0); (try clear hcz19_1); (try clear hcz19_2); (try clear hcz20_0); (try clear hcz20_1); (try clear hcz20_2); (try clear hfz16_0); (try clear hfz16_1); (try clear hfz16_2); (try clear hfz19_0); (try clear hfz19_1); (try clear hfz19_2); (try clear hfz20_0); (try clear hfz20_1); (try clear hfz20_2); (try clear hx367_0); (try clear hx367_1); (try clear hx367_2); (try clear p2); (try clear p367); (try clear q367); obtain ⟨kq, x32_16, rfl, HA, HJ16, HO_8, HO_9, HO_10, BK368, HB⟩ := hcut
       cases kq with
       | zero => exact absurd HA.out (by simp [Z2.j1])
       | succ kj16 =>
        have H := HA.out
        clear HA
        simp only [Z2.j1] at H
        by_cases c22 : x32_16 = true
        ·subst c22
         have H1 : (some ((⟨#[]⟩ : ByteArray), ([] : List (S70)), 1)) = some (r1, r2, r3) := by rw [if_pos rfl] at H; exact H
         clear H
         have H := H1
         clear H1
         simp only [Option.some.injEq, Prod.mk.injEq] at H
         obtain ⟨rfl, rfl, rfl⟩ := H
         go_wp2
         go_ret3
         exact ⟨_, by first | rfl | (simp [errW_none, errW_some] <;> rfl) | (simp [*, errW_none, errW_some] <;> rfl), by first | exact Kd.S_nil _ _ _ _ _ | exact Kd.N_nil _ _ _ _ _ | exact Kd.V_nil _ _ _ _ _ | exact Kd.Q_nil _ _ _ _ _ | exact Kd.R_nil _ _ _ _ _, bs_ HB.out GE368.out⟩
        ·replace c22 := Bool.eq_false_iff.mpr c22
         subst c22
         have H1 : (if x27_1 > 0 then (Z2.j2 kj16 t356 x9_1 x10_1 x11_1 l1 (l1.length : Int) x27_1 (decide (((rd_T70 l1 x27_1).f0) ≤ x11_1)) ((rd_T70 l1 x27_1).f0) ((rd_T70 l1 x27_1).f1) ((rd_T70 l1 x27_1).f2)) else (Z2.j2 kj16 t356 x9_1 x10_1 x11_1 l1 (l1.length : Int) x27_1 false ((rd_T70 l1 x27_1).f0) ((rd_T70 l1 x27_1).f1) ((rd_T70 l1 x27_1).f2))) = some (r1, r2, r3) := by rw [if_neg (show ¬ (false = true) by decide)] at H; exact H
         clear H
         have H := H1
         clear H1; have HC23 := am_ H; clear H
         go_upto_region 13 with (fail)
         go_cut [43] (fun v43 wc => ∃ (kq : Nat) (x43_22 : Bool), v43 = .bool x43_22 ∧ Aside0 (Z2.j2 kq t356 x9_1 x10_1 x11_1 l1 (l1.length : Int) x27_1 x43_22 ((rd_T70 l1 x27_1).f0) ((rd_T70 l1 x27_1).f1) ((rd_T70 l1 x27_1).f2) = some (r1, r2, r3)) ∧ Aside0 (kq ≤ kj16) ∧ Aside0 (Kd.R Kd.string 9 wc w.heap.size (fun k_ => some k_ ≠ (u9 : Value).ownBlock) v357 t356) ∧ Aside0 (Kd.R Kd.string 9 wc w.heap.size (fun k_ => some k_ ≠ (v357 : Value).ownBlock) u9 x9_1) ∧ Aside0 (Kd.S k70 70 wc w.heap.size (fun k_ => some k_ ≠ (v357 : Value).ownBlock ∧ some k_ ≠ (u9 : Value).ownBlock ∧ k_ ≠ gb368) u10 x10_1) ∧ Aside0 (wc.heap[gb368]? = some (.cells #[.int .i64 ((rd_T70 l1 x27_1).f0), (.slice A367_1 ((rd_T70 l1 x27_1).f1).length c367_1), (.slice A367_2 ((rd_T70 l1 x27_1).f2).length c367_2)] 70 (0, 0))) ∧ Aside0 (Below w.heap.size w wc))
         case first =>
          have H := HC23.out
          clear HC23
          by_cases c24 : x27_1 > 0
          ·rw [if_pos c24] at H
           have c24b0 : decide (0 < x27_1) = true := decide_eq_true c24
           clear c24
           (first | rw [c24b0] | (simp only [i64_w, i32_w]; rw [c24b0]) | skip)
           have H' := am_ H
           clear H
           have hcz25_0 : wc.cell? ⟨gb368, 0, none⟩ = some (.int .i64 ((rd_T70 l1 x27_1).f0)) := (blk_cell BK368.out 0).trans rfl
           have hcz25_1 : wc.cell? ⟨gb368, 1, none⟩ = some (.slice A367_1 ((rd_T70 l1 x27_1).f1).length c367_1) := (blk_cell BK368.out 1).trans rfl
           have hcz25_2 : wc.cell? ⟨gb368, 2, none⟩ = some (.slice A367_2 ((rd_T70 l1 x27_1).f2).length c367_2) := (blk_cell BK368.out 2).trans rfl
           have hfz25_0 := blk_frozen BK368.out 0
           have hfz25_1 := blk_frozen BK368.out 1
           have hfz25_2 := blk_frozen BK368.out 2
           go_wp2
           go_meet
           case rel => exact ⟨_, (decide (((rd_T70 l1 x27_1).f0) ≤ x11_1)), tr_, H', ⟨by have := HK1.out; have := HJ16.out; first | omega | exact Nat.le_refl _⟩, ⟨rr_ HO_8.out⟩, ⟨rr_ HO_9.out⟩, ⟨by (with_reducible repeat (first | apply q1_ | apply q2_ | apply q3_)); exact HO_10.out⟩, ⟨bk_ BK368.out⟩, ⟨bs_ HB.out GE368.out⟩⟩
          ·rw [if_neg c24] at H
           have c24b0 : decide (0 < x27_1) = false := decide_eq_false c24
           clear c24
           (first | rw [c24b0] | (simp only [i64_w, i32_w]; rw [c24b0]) | skip)
           have H' := am_ H
           clear H
           go_wp2
           go_meet
           case rel => exact ⟨_, (false), tr_, H', ⟨by have := HK1.out; have := HJ16.out; first | omega | exact Nat.le_refl _⟩, ⟨rr_ HO_8.out⟩, ⟨rr_ HO_9.out⟩, ⟨by (with_reducible repeat (first | apply q1_ | apply q2_ | apply q3_)); exact HO_10.out⟩, ⟨bk_ BK368.out⟩, ⟨bs_ HB.out GE368.out⟩⟩
         case rest =>
          clear HC23; (try clear c1); (try clear c2); (try clear p2); (try clear c3); (try clear p3); (try clear q3); (try clear hx3); (try clear c4); (try clear c4b0); (try clear c4b1); (try clear c7); (try clear c8); (try clear c11); (try clear c11b0); (try clear c12); (try clear c12b0); (try clear c13); (try clear c13b0); (try clear c18); (try clear c18b0); (try clear c22); (try clear c24); (try clear c24b0); (try clear hcz16_0); (try clear hcz16_1); (try clear hcz16_2); (try clear hcz19_0); (try clear hcz19_1); (try clear hcz19_2); (try clear hcz20_0); (try clear hcz20_1); (try clear hcz20_2); (try clear hcz25_0); (try clear hcz25_1); (try clear hcz25_2); (try clear hfz16_0); (try clear hfz16_1); (try clear hfz16_2); (try clear hfz19_0); (try clear hfz19_1); (try clear hfz19_2); (try clear hfz20_0); (try clear hfz20_1); (try clear hfz20_2); (try clear hfz25_0); (try clear hfz25_1); (try clear hfz25_2); (try clear hx367_0); (try clear hx367_1); (try clear hx367_2); (try clear p2); (try clear p3); (try clear p367); (try clear q3); (try clear q367); obtain ⟨kq, x43_22, rfl, HA, HJ22, HO_8, HO_9, HO_10, BK368, HB⟩ := hcut
          cases kq with
          | zero => exact absurd HA.out (by simp [Z2.j2])
          | succ kj22 =>
           have H := HA.out
           clear HA
           simp only [Z2.j2] at H
           by_cases c26 : x43_22 = true
           ·subst c26
            have H1 : (some ((⟨#[]⟩ : ByteArray), ([] : List (S70)), 7)) = some (r1, r2, r3) := by rw [if_pos rfl] at H; exact H
            clear H
            have H := H1
            clear H1
            simp only [Option.some.injEq, Prod.mk.injEq] at H
            obtain ⟨rfl, rfl, rfl⟩ := H
            go_wp2
            go_ret3
            exact ⟨_, by first | rfl | (simp [errW_none, errW_some] <;> rfl) | (simp [*, errW_none, errW_some] <;> rfl), by first | exact Kd.S_nil _ _ _ _ _ | exact Kd.N_nil _ _ _ _ _ | exact Kd.V_nil _ _ _ _ _ | exact Kd.Q_nil _ _ _ _ _ | exact Kd.R_nil _ _ _ _ _, bs_ HB.out GE368.out⟩
           ·replace c26 := Bool.eq_false_iff.mpr c26
            subst c26
            have H1 : (if (((rd_T70 l1 x27_1).f1).length : Int) = 0 then (if (((rd_T70 l1 x27_1).f2).length : Int) = 0 then (some ((⟨#[]⟩ : ByteArray), ([] : List (S70)), 3)) else (Z2.j3 kj22 t356 x9_1 x10_1 x11_1 l1 (l1.length : Int) x27_1 ((rd_T70 l1 x27_1).f0) ((rd_T70 l1 x27_1).f1) ((rd_T70 l1 x27_1).f2))) else (Z2.j3 kj22 t356 x9_1 x10_1 x11_1 l1 (l1.length : Int) x27_1 ((rd_T70 l1 x27_1).f0) ((rd_T70 l1 x27_1).f1) ((rd_T70 l1 x27_1).f2))) = some (r1, r2, r3) := by rw [if_neg (show ¬ (false = true) by decide)] at H; exact H
            clear H
            have H := H1
            clear H1
            by_cases c27 : (((rd_T70 l1 x27_1).f1).length : Int) = 0
            ·rw [if_pos c27] at H
             have c27b0 : ((((rd_T70 l1 x27_1).f1).length : Int) == 0) = true := beq_iff_eq.mpr c27
             have c27b1 : ((((rd_T70 l1 x27_1).f1).length : Int) != 0) = false := bne_eq_false_iff_eq.mpr c27
             clear c27
             by_cases c28 : (((rd_T70 l1 x27_1).f2).length : Int) = 0
             ·rw [if_pos c28] at H
              have c28b0 : ((((rd_T70 l1 x27_1).f2).length : Int) == 0) = true := beq_iff_eq.mpr c28
              have c28b1 : ((((rd_T70 l1 x27_1).f2).length : Int) != 0) = false := bne_eq_false_iff_eq.mpr c28
              clear c28
              simp only [Option.some.injEq, Prod.mk.injEq] at H
              obtain ⟨rfl, rfl, rfl⟩ := H
              have hcz29_0 : wc.cell? ⟨gb368, 0, none⟩ = some (.int .i64 ((rd_T70 l1 x27_1).f0)) := (blk_cell BK368.out 0).trans rfl
              have hcz29_1 : wc.cell? ⟨gb368, 1, none⟩ = some (.slice A367_1 ((rd_T70 l1 x27_1).f1).length c367_1) := (blk_cell BK368.out 1).trans rfl
              have hcz29_2 : wc.cell? ⟨gb368, 2, none⟩ = some (.slice A367_2 ((rd_T70 l1 x27_1).f2).length c367_2) := (blk_cell BK368.out 2).trans rfl
              have hfz29_0 := blk_frozen BK368.out 0
              have hfz29_1 := blk_frozen BK368.out 1
              have hfz29_2 := blk_frozen BK368.out 2
              go_wp2
              go_ret3
              exact ⟨_, by first | rfl | (simp [errW_none, errW_some] <;> rfl) | (simp [*, errW_none, errW_some] <;> rfl), by first | exact Kd.S_nil _ _ _ _ _ | exact Kd.N_nil _ _ _ _ _ | exact Kd.V_nil _ _ _ _ _ | exact Kd.Q_nil _ _ _ _ _ | exact Kd.R_nil _ _ _ _ _, bs_ HB.out GE368.out⟩
             ·rw [if_neg c28] at H
              have c28b0 : ((((rd_T70 l1 x27_1).f2).length : Int) == 0) = false := beq_eq_false_iff_ne.mpr c28
              have c28b1 : ((((rd_T70 l1 x27_1).f2).length : Int) != 0) = true := bne_iff_ne.mpr c28
              have c28b2 : ¬ (((rd_T70 l1 x27_1).f2) = []) := fun h_ => c28 (by rw [h_]; rfl)
              have H' := am_ H
              clear H
              have hcz30_0 : wc.cell? ⟨gb368, 0, none⟩ = some (.int .i64 ((rd_T70 l1 x27_1).f0)) := (blk_cell BK368.out 0).trans rfl
              have hcz30_1 : wc.cell? ⟨gb368, 1, none⟩ = some (.slice A367_1 ((rd_T70 l1 x27_1).f1).length c367_1) := (blk_cell BK368.out 1).trans rfl
              have hcz30_2 : wc.cell? ⟨gb368, 2, none⟩ = some (.slice A367_2 ((rd_T70 l1 x27_1).f2).length c367_2) := (blk_cell BK368.out 2).trans rfl
              have hfz30_0 := blk_frozen BK368.out 0
              have hfz30_1 := blk_frozen BK368.out 1
              have hfz30_2 := blk_frozen BK368.out 2
              go_wp2
              go_meet
              case rel => exact ⟨_, H', ⟨by have := HK1.out; have := HJ16.out; have := HJ22.out; first | omega | exact Nat.le_refl _⟩, ⟨rr_ HO_8.out⟩, ⟨rr_ HO_9.out⟩, ⟨by (with_reducible repeat (first | apply q1_ | apply q2_ | apply q3_)); exact HO_10.out⟩, ⟨bk_ BK368.out⟩, ⟨bs_ HB.out GE368.out⟩⟩
            ·rw [if_neg c27] at H
             have c27b0 : ((((rd_T70 l1 x27_1).f1).length : Int) == 0) = false := beq_eq_false_iff_ne.mpr c27
             have c27b1 : ((((rd_T70 l1 x27_1).f1).length : Int) != 0) = true := bne_iff_ne.mpr c27
             have c27b2 : ¬ (((rd_T70 l1 x27_1).f1) = []) := fun h_ => c27 (by rw [h_]; rfl)
             have H' := am_ H
             clear H
             have hcz31_0 : wc.cell? ⟨gb368, 0, none⟩ = some (.int .i64 ((rd_T70 l1 x27_1).f0)) := (blk_cell BK368.out 0).trans rfl
             have hcz31_1 : wc.cell? ⟨gb368, 1, none⟩ = some (.slice A367_1 ((rd_T70 l1 x27_1).f1).length c367_1) := (blk_cell BK368.out 1).trans rfl
             have hcz31_2 : wc.cell? ⟨gb368, 2, none⟩ = some (.slice A367_2 ((rd_T70 l1 x27_1).f2).length c367_2) := (blk_cell BK368.out 2).trans rfl
             have hfz31_0 := blk_frozen BK368.out 0
             have hfz31_1 := blk_frozen BK368.out 1
             have hfz31_2 := blk_frozen BK368.out 2
             go_wp2
             go_meet
             case rel => exact ⟨_, H', ⟨by have := HK1.out; have := HJ16.out; have := HJ22.out; first | omega | exact Nat.le_refl _⟩, ⟨rr_ HO_8.out⟩, ⟨rr_ HO_9.out⟩, ⟨by (with_reducible repeat (first | apply q1_ | apply q2_ | apply q3_)); exact HO_10.out⟩, ⟨bk_ BK368.out⟩, ⟨bs_ HB.out GE368.out⟩⟩
     case rest =>
      clear HC14; (try clear c1); (try clear c2); (try clear p2); (try clear c3); (try clear p3); (try clear q3); (try clear hx3); (try clear c4); (try clear c4b0); (try clear c4b1); (try clear c7); (try clear c8); (try clear c11); (try clear c11b0); (try clear c12); (try clear c12b0); (try clear c13); (try clear c13b0); (try clear c18); (try clear c18b0); (try clear c22); (try clear c24); (try clear c24b0); (try clear c26); (try clear c27); (try clear c27b0); (try clear c27b1); (try clear c27b2); (try clear c28); (try clear c28b0); (try clear c28b1); (try clear c28b2); (try clear hcz16_0); (try clear hcz16_1); (try clear hcz16_2); (try clear hcz19_0); (try clear hcz19_1); (try clear hcz19_2); (try clear hcz20_0); (try clear hcz20_1); (try clear hcz20_2); (try clear hcz25_0); (try clear hcz25_1); (try clear hcz25_2); (try clear hcz29_0); (try clear hcz29_1); (try clear hcz29_2); (try clear hcz30_0); (try clear hcz30_1); (try clear hcz30_2); (try clear hcz31_0); (try clear hcz31_1); (try clear hcz31_2); (try clear hfz16_0); (try clear hfz16_1); (try clear hfz16_2); (try clear hfz19_0); (try clear hfz19_1); (try clear hfz19_2); (try clear hfz20_0); (try clear hfz20_1); (try clear hfz20_2); (try clear hfz25_0); (try clear hfz25_1); (try clear hfz25_2); (try clear hfz29_0); (try clear hfz29_1); (try clear hfz29_2); (try clear hfz30_0); (try clear hfz30_1); (try clear hfz30_2); (try clear hfz31_0); (try clear hfz31_1); (try clear hfz31_2); (try clear hx367_0); (try clear hx367_1); (try clear hx367_2); (try clear p2); (try clear p3); (try clear p367); (try clear q3); (try clear q367); obtain ⟨kq, HA, HJ13, HO_8, HO_9, HO_10, BK368, HB⟩ := hcut
      cases kq with
      | zero => exact absurd HA.out (by simp [Z2.j3])
      | succ kj13 =>
       have H := HA.out
       clear HA
       simp only [Z2.j3] at H
       replace H := Option.bind_eq_some_iff.mp H; obtain ⟨t369, A320, H⟩ := H; have A32 := am_ A320; clear A320
       by_cases c33 : t369.length + ((rd_T70 l1 x27_1).f2).length < 8796093022208
       case neg => exact (nn_ c33 H).elim
       rw [if_pos c33] at H; have LMc33 := am_ c33; clear c33
       obtain ⟨y372, hy372⟩ : ∃ y_ : List ByteArray, y_ = (t369 ++ ((rd_T70 l1 x27_1).f2)) := ⟨_, rfl⟩
       replace H : (Z2.l1 kj13 t356 x9_1 x10_1 x11_1 l1 (l1.length : Int) x27_1 y372 (y372.length : Int) 0 ((rd_T70 l1 x27_1).f0) ((rd_T70 l1 x27_1).f1) ((rd_T70 l1 x27_1).f2)) = some (r1, r2, r3) := by first | (rw [hy372]; with_reducible exact H) | (have H2_ := (Option.bind_some _ _).symm.trans H; rw [hy372]; with_reducible exact H2_) | (have H2_ := (Option.bind_some _ _).symm.trans H; with_reducible exact H2_) | with_reducible exact H | (rw [hy372]; exact H) | exact H
       have Ny372 := am_ hy372; clear hy372
       have H' := am_ H
       clear H
       have hcz34_0 : wc.cell? ⟨gb368, 0, none⟩ = some (.int .i64 ((rd_T70 l1 x27_1).f0)) := (blk_cell BK368.out 0).trans rfl
       have hcz34_1 : wc.cell? ⟨gb368, 1, none⟩ = some (.slice A367_1 ((rd_T70 l1 x27_1).f1).length c367_1) := (blk_cell BK368.out 1).trans rfl
       have hcz34_2 : wc.cell? ⟨gb368, 2, none⟩ = some (.slice A367_2 ((rd_T70 l1 x27_1).f2).length c367_2) := (blk_cell BK368.out 2).trans rfl
       have hfz34_0 := blk_frozen BK368.out 0
       have hfz34_1 := blk_frozen BK368.out 1
       have hfz34_2 := blk_frozen BK368.out 2
       have eT_ := clone_some A32.out
       obtain ⟨KC_, hKC_⟩ := (concat_two ((rd_T70 l1 x27_1).f1) ((rd_T70 l1 x27_1).f2) (by have := LMc33.out; rw [eT_] at this; exact this)).rounds
       have HKC_ := am_ (show Z15.f KC_ [((rd_T70 l1 x27_1).f1), ((rd_T70 l1 x27_1).f2)] = some y372 by rw [hKC_, Ny372.out, eT_])
       have HCT_ := am_ (C_two (e := 9) (e' := 27) (Kd.C_below HR367_1.out HB.out) HC367_1.out (Kd.C_below HR367_2.out HB.out) HC367_2.out)
       clear eT_ hKC_
       go_wp2_with (first | ((with_reducible refine gate_callee (f := 86) rfl ?_); refine goesL_ (some 68) rfl rfl Tryz.func86 (by kernel_rfl) rfl #[.slice (some ⟨wc.heap.size, 0, none⟩) 2 2] rfl gl_ ?_; (refine (Z15.calls KC_ (some ⟨wc.heap.size, 0, none⟩) 2 [((rd_T70 l1 x27_1).f1), ((rd_T70 l1 x27_1).f2)] y372 _ ?side1 ?side2 HKC_.out).mono ?_); (case side1 => exact HCT_.out); (case side2 => exact Nat.le_refl _); rintro e w35 ⟨v373, rfl, ho0, hb⟩; refine ⟨_, rfl, ?_⟩; have n0_ := am_ (Kd.R_elder' (rr_ HO_8.out) (Kd.R_base ho0) hb); have n1_ := am_ (Kd.R_elder' (rr_ HO_9.out) (Kd.R_base ho0) hb); have n2_ := am_ (Kd.S_elder' (by (with_reducible repeat (first | apply q1_ | apply q2_ | apply q3_)); exact HO_10.out) (Kd.R_base ho0) hb); have n3_ := am_ (Kd.R_lower (Kd.R_new' (Kd.R_new' ho0 (Kd.R_lt (rr_ HO_8.out))) (Kd.R_lt (rr_ HO_9.out))) (below_size (bs_ HB.out GE368.out))); have n4_ := am_ (blk_below (g := gb368) (o := .cells #[.int .i64 ((rd_T70 l1 x27_1).f0), .slice A367_1 ((rd_T70 l1 x27_1).f1).length c367_1, .slice A367_2 ((rd_T70 l1 x27_1).f2).length c367_2] 70 (0, 0)) (bk_ BK368.out) hb); have n5_ := am_ (below_step (bs_ HB.out GE368.out) hb); clear HO_8; clear HO_9; clear HO_10; clear BK368; clear HB; have HO_8 := n0_; have HO_9 := n1_; have HO_10 := n2_; have HO371 := n3_; have BK368 := n4_; have HB := n5_; clear n0_ n1_ n2_ n3_ n4_ n5_; (try clear hb); (try clear hb2); (try clear hk); (try clear hi); (try clear ho0); have HO374 := am_ (Kd.R_mono (ok' := (fun k_ => some k_ ≠ (v357 : Value).ownBlock ∧ some k_ ≠ (u9 : Value).ownBlock)) HO371.out (fun _ hk => ⟨hk.1.2, hk.2⟩)); clear HO371; obtain ⟨Ao37, co37, eo37⟩ := Kd.R_slice HO374.out; subst eo37))
       go_loopg [70] kj13 (fun kq v70 w' => ∃ (x70_3 : Int), v70 = .int .i64 x70_3 ∧ Aside0 (Z2.l1 kq t356 x9_1 x10_1 x11_1 l1 (l1.length : Int) x27_1 y372 (y372.length : Int) x70_3 ((rd_T70 l1 x27_1).f0) ((rd_T70 l1 x27_1).f1) ((rd_T70 l1 x27_1).f2) = some (r1, r2, r3)) ∧ Aside0 (kq ≤ kj13) ∧ Aside0 (Kd.R Kd.string 9 w' w.heap.size (fun k_ => some k_ ≠ (u9 : Value).ownBlock ∧ some k_ ≠ ((.slice Ao37 y372.length co37) : Value).ownBlock) v357 t356) ∧ Aside0 (Kd.R Kd.string 9 w' w.heap.size (fun k_ => some k_ ≠ (v357 : Value).ownBlock ∧ some k_ ≠ ((.slice Ao37 y372.length co37) : Value).ownBlock) u9 x9_1) ∧ Aside0 (Kd.S k70 70 w' w.heap.size (fun k_ => some k_ ≠ (v357 : Value).ownBlock ∧ some k_ ≠ (u9 : Value).ownBlock ∧ some k_ ≠ ((.slice Ao37 y372.length co37) : Value).ownBlock ∧ k_ ≠ gb368) u10 x10_1) ∧ Aside0 (Kd.R Kd.string 9 w' w.heap.size (fun k_ => some k_ ≠ (v357 : Value).ownBlock ∧ some k_ ≠ (u9 : Value).ownBlock) (.slice Ao37 y372.length co37) y372) ∧ Aside0 (w'.heap[gb368]? = some (.cells #[.int .i64 ((rd_T70 l1 x27_1).f0), (.slice A367_1 ((rd_T70 l1 x27_1).f1).length c367_1), (.slice A367_2 ((rd_T70 l1 x27_1).f2).length c367_2)] 70 (0, 0))) ∧ Aside0 (Below w.heap.size w w'))
       case atStart => exact ⟨(0), tr_, H', ⟨Nat.le_refl _⟩, ⟨rr_ HO_8.out⟩, ⟨rr_ HO_9.out⟩, ⟨by (with_reducible repeat (first | apply q1_ | apply q2_ | apply q3_)); exact Kd.S_mono HO_10.out (fun _ hk => ⟨hk.1.1, ⟨hk.1.2.1, ⟨hk.2, hk.1.2.2⟩⟩⟩)⟩, ⟨rr_ HO374.out⟩, ⟨bk_ BK368.out⟩, ⟨bs_ HB.out GE368.out⟩⟩
       case round =>
        clear H'; (try clear c1); (try clear c2); (try clear p2); (try clear c3); (try clear p3); (try clear q3); (try clear hx3); (try clear c4); (try clear c4b0); (try clear c4b1); (try clear c7); (try clear c8); (try clear c11); (try clear c11b0); (try clear c12); (try clear c12b0); (try clear c13); (try clear c13b0); (try clear c18); (try clear c18b0); (try clear c22); (try clear c24); (try clear c24b0); (try clear c26); (try clear c27); (try clear c27b0); (try clear c27b1); (try clear c27b2); (try clear c28); (try clear c28b0); (try clear c28b1); (try clear c28b2); (try clear c29); (try clear c33); (try clear c36); (try clear p36); (try clear q36); (try clear hx36); (try clear hcz16_0); (try clear hcz16_1); (try clear hcz16_2); (try clear hcz19_0); (try clear hcz19_1); (try clear hcz19_2); (try clear hcz20_0); (try clear hcz20_1); (try clear hcz20_2); (try clear hcz25_0); (try clear hcz25_1); (try clear hcz25_2); (try clear hcz29_0); (try clear hcz29_1); (try clear hcz29_2); (try clear hcz30_0); (try clear hcz30_1); (try clear hcz30_2); (try clear hcz31_0); (try clear hcz31_1); (try clear hcz31_2); (try clear hcz34_0); (try clear hcz34_1); (try clear hcz34_2); (try clear hfz16_0); (try clear hfz16_1); (try clear hfz16_2); (try clear hfz19_0); (try clear hfz19_1); (try clear hfz19_2); (try clear hfz20_0); (try clear hfz20_1); (try clear hfz20_2); (try clear hfz25_0); (try clear hfz25_1); (try clear hfz25_2); (try clear hfz29_0); (try clear hfz29_1); (try clear hfz29_2); (try clear hfz30_0); (try clear hfz30_1); (try clear hfz30_2); (try clear hfz31_0); (try clear hfz31_1); (try clear hfz31_2); (try clear hfz34_0); (try clear hfz34_1); (try clear hfz34_2); (try clear hx367_0); (try clear hx367_1); (try clear hx367_2); (try clear p2); (try clear p3); (try clear p367); (try clear q3); (try clear q367); obtain ⟨x70_3, rfl, HA, HK3, HO_8, HO_9, HO_10, HO_68, BK368, HB⟩ := hrel
        cases gk with
        | zero => exact absurd HA.out (by simp [Z2.l1])
        | succ k3 =>
         have H := HA.out
         clear HA
         simp only [Z2.l1] at H
         by_cases c38 : x70_3 < (y372.length : Int)
         ·rw [if_pos c38] at H
          have c38b0 := decide_eq_true c38; clear c38
          by_cases c39 : 0 ≤ x70_3
          case neg => exact (nn_ c39 H).elim
          rw [if_pos c39] at H; have c39b0 := decide_eq_true c39; clear c39
          by_cases c40 : x70_3 < (y372.length : Int)
          case neg => exact (nn_ c40 H).elim
          rw [if_pos c40] at H; have c40b0 := decide_eq_true c40; clear c40; replace H := Option.bind_eq_some_iff.mp H; obtain ⟨t376, A410, H⟩ := H; have A41 := am_ A410; clear A410
          obtain ⟨y379, hy379⟩ : ∃ y_ : List ByteArray, y_ = (([rdOf ByteArray.empty y372 x70_3] : List ByteArray)) := ⟨_, rfl⟩
          replace H : ((Z10.f k3 t376 y379).bind fun t382 => (if t382 = true then (Z2.l1 k3 t356 x9_1 x10_1 x11_1 l1 (l1.length : Int) x27_1 y372 (y372.length : Int) (wrap64 (x70_3 + 1)) ((rd_T70 l1 x27_1).f0) ((rd_T70 l1 x27_1).f1) ((rd_T70 l1 x27_1).f2)) else (some ((⟨#[]⟩ : ByteArray), ([] : List (S70)), 3)))) = some (r1, r2, r3) := by first | (rw [hy379]; with_reducible exact H) | (have H2_ := (Option.bind_some _ _).symm.trans H; rw [hy379]; with_reducible exact H2_) | (have H2_ := (Option.bind_some _ _).symm.trans H; with_reducible exact H2_) | with_reducible exact H | (rw [hy379]; exact H) | exact H
          have Ny379 := am_ hy379; clear hy379; replace H := Option.bind_eq_some_iff.mp H; obtain ⟨t382, A420, H⟩ := H; have A42 := am_ A420; clear A420
          by_cases c43 : t382 = true
          ·subst c43
           have H1 : (Z2.l1 k3 t356 x9_1 x10_1 x11_1 l1 (l1.length : Int) x27_1 y372 (y372.length : Int) (wrap64 (x70_3 + 1)) ((rd_T70 l1 x27_1).f0) ((rd_T70 l1 x27_1).f1) ((rd_T70 l1 x27_1).f2)) = some (r1, r2, r3) := by rw [if_pos rfl] at H; exact H
           clear H
           have H := H1
           clear H1
           have H' := am_ H
           clear H; have p375 : 0 ≤ (x70_3 : Int) := ode_; have q375 : x70_3 < (y372.length : Int) := ode_
           obtain ⟨ad375, e375, hx375_0⟩ := Kd.at_string (Kd.R_reads' HO_68.out).2.2 x70_3 p375 q375
           cases e375; replace p375 := eq_true p375; replace q375 := eq_true q375
           go_wp2_with (first | ((with_reducible refine gate_callee (f := 77) rfl ?_); refine goesL_ (some 75) rfl rfl Tryz.func77 (by kernel_rfl) rfl #[.string (rdOf ByteArray.empty y372 x70_3)] rfl gl_ ?_; (with_reducible refine (Z6.calls k3 (rdOf ByteArray.empty y372 x70_3) t376 _ ?side1 A41.out).mono ?_); (case side1 => exact Wd.below HGl.out (bs_ HB.out GE368.out)); rintro e w44 ⟨v377, rfl, ho0, hb⟩; refine ⟨_, rfl, ?_⟩; have n0_ := am_ (Kd.R_elder' (rr_ HO_8.out) (Kd.R_base ho0) hb); have n1_ := am_ (Kd.R_elder' (rr_ HO_9.out) (Kd.R_base ho0) hb); have n2_ := am_ (Kd.S_elder' (by (with_reducible repeat (first | apply q1_ | apply q2_ | apply q3_)); exact HO_10.out) (Kd.R_base ho0) hb); have n3_ := am_ (Kd.R_elder' (rr_ HO_68.out) (Kd.R_base ho0) hb); have n4_ := am_ (Kd.R_lower (Kd.R_new' (Kd.R_new' (Kd.R_new' ho0 (Kd.R_lt (rr_ HO_8.out))) (Kd.R_lt (rr_ HO_9.out))) (Kd.R_lt (rr_ HO_68.out))) (below_size (bs_ HB.out GE368.out))); have n5_ := am_ (blk_below (g := gb368) (o := .cells #[.int .i64 ((rd_T70 l1 x27_1).f0), .slice A367_1 ((rd_T70 l1 x27_1).f1).length c367_1, .slice A367_2 ((rd_T70 l1 x27_1).f2).length c367_2] 70 (0, 0)) (bk_ BK368.out) hb); have n6_ := am_ (below_step (bs_ HB.out GE368.out) hb); clear HO_8; clear HO_9; clear HO_10; clear HO_68; clear BK368; clear HB; have HO_8 := n0_; have HO_9 := n1_; have HO_10 := n2_; have HO_68 := n3_; have HO378 := n4_; have BK368 := n5_; have HB := n6_; clear n0_ n1_ n2_ n3_ n4_ n5_ n6_; (try clear hb); (try clear hb2); (try clear hk); (try clear hi); (try clear ho0)) | ((with_reducible refine gate_dst (N := 77) rfl ?_); (try (refine gate_guard (by rfl) ?_; dsimp only)); refine Kd.R_lit Kd.string _ 9 ?hg (N := 77) ?hd (xs := ([rdOf ByteArray.empty y372 x70_3] : List ByteArray)) (inner := [.string (rdOf ByteArray.empty y372 x70_3)]) (ok := fun _ => True) (okp := fun _ => True) ?hr ?hp (fun _ hk => hk) trivial (Below.refl _ _) (Nat.le_refl _) (by simp) ?_; (case hd => rfl); (case hg => rfl); (case hr => first | (go_simp; done) | (go_simp; rfl)); (case hp => exact (Reps.one (show Kd.M Kd.string _ _ _ (rdOf ByteArray.empty y372 x70_3) [.string (rdOf ByteArray.empty y372 x70_3)] from rfl) (Reps.none _ _))); intro v380 w45 ho46 hb hg_ hnew_; clear hg_ hnew_; (first | rw [← Ny379.out] at ho46 | (simp only [Int.reduceToNat] at ho46; rw [← Ny379.out] at ho46)); have n0_ := am_ (Kd.R_elder' (rr_ HO_8.out) (Kd.R_base ho46) hb); have n1_ := am_ (Kd.R_elder' (rr_ HO_9.out) (Kd.R_base ho46) hb); have n2_ := am_ (Kd.S_elder' (by (with_reducible repeat (first | apply q1_ | apply q2_ | apply q3_)); exact HO_10.out) (Kd.R_base ho46) hb); have n3_ := am_ (Kd.R_elder' (rr_ HO_68.out) (Kd.R_base ho46) hb); have n4_ := am_ (Kd.R_elder' (rr_ HO378.out) (Kd.R_base ho46) hb); have n5_ := am_ (Kd.R_lower (Kd.R_new' (Kd.R_new' (Kd.R_new' (Kd.R_new' ho46 (Kd.R_lt (rr_ HO_8.out))) (Kd.R_lt (rr_ HO_9.out))) (Kd.R_lt (rr_ HO_68.out))) (Kd.R_lt (rr_ HO378.out))) (below_size (bs_ HB.out GE368.out))); have n6_ := am_ (blk_below (g := gb368) (o := .cells #[.int .i64 ((rd_T70 l1 x27_1).f0), .slice A367_1 ((rd_T70 l1 x27_1).f1).length c367_1, .slice A367_2 ((rd_T70 l1 x27_1).f2).length c367_2] 70 (0, 0)) (bk_ BK368.out) hb); have n7_ := am_ (below_step (bs_ HB.out GE368.out) hb); clear HO_8; clear HO_9; clear HO_10; clear HO_68; clear HO378; clear BK368; clear HB; have HO_8 := n0_; have HO_9 := n1_; have HO_10 := n2_; have HO_68 := n3_; have HO378 := n4_; have HO381 := n5_; have BK368 := n6_; have HB := n7_; clear n0_ n1_ n2_ n3_ n4_ n5_ n6_ n7_; clear hb ho46; obtain ⟨Ao47, co47, eo47⟩ := Kd.R_slice HO378.out; subst eo47; obtain ⟨Ao48, co48, eo48⟩ := Kd.R_slice HO381.out; subst eo48) | ((with_reducible refine gate_callee (f := 10) rfl ?_); refine goesL_ (some 78) rfl rfl Tryz.func10 (by kernel_rfl) rfl #[.slice Ao47 t376.length co47, .slice Ao48 y379.length co48] rfl gl_ ?_; (with_reducible refine (Z10.calls k3 _ _ t376 _ _ y379 true _ ?side1 ?side2 ?side3 ?side4 A42.out).mono ?_); (case side1 => exact cc_ (Kd.R_reads' HO378.out).2.2); (case side2 => exact (Kd.R_reads' HO378.out).2.1); (case side3 => exact cc_ (Kd.R_reads' HO381.out).2.2); (case side4 => exact (Kd.R_reads' HO381.out).2.1); rintro e w' ⟨rfl, ⟨nd, rfl⟩⟩; refine ⟨_, rfl, ?_⟩))
           go_roundg k3
           case measure => have := HK1.out; have := HJ13.out; have := HK3.out; omega
           case rel => exact ⟨(wrap64 (x70_3 + 1)), tr_, H', ⟨by have := HK1.out; have := HJ13.out; have := HK3.out; omega⟩, ⟨by (with_reducible repeat (first | apply r1_ | apply r2_ | apply r3_)); exact Kd.R_mono HO_8.out (fun _ hk => ⟨hk.1.1.1, hk.1.1.2⟩)⟩, ⟨by (with_reducible repeat (first | apply r1_ | apply r2_ | apply r3_)); exact Kd.R_mono HO_9.out (fun _ hk => ⟨hk.1.1.1, hk.1.1.2⟩)⟩, ⟨by (with_reducible repeat (first | apply q1_ | apply q2_ | apply q3_)); exact Kd.S_mono HO_10.out (fun _ hk => ⟨hk.1.1.1, ⟨hk.1.1.2.1, ⟨hk.1.1.2.2.1, hk.1.1.2.2.2⟩⟩⟩)⟩, ⟨by (with_reducible repeat (first | apply r1_ | apply r2_ | apply r3_)); exact Kd.R_mono HO_68.out (fun _ hk => ⟨hk.1.1.1, hk.1.1.2⟩)⟩, ⟨bk_ BK368.out⟩, ⟨bs_ HB.out GE368.out⟩⟩
          ·replace c43 := Bool.eq_false_iff.mpr c43
           subst c43
           have H1 : (some ((⟨#[]⟩ : ByteArray), ([] : List (S70)), 3)) = some (r1, r2, r3) := by rw [if_neg (show ¬ (false = true) by decide)] at H; exact H
           clear H
           have H := H1
           clear H1
           simp only [Option.some.injEq, Prod.mk.injEq] at H
           obtain ⟨rfl, rfl, rfl⟩ := H; have p375 : 0 ≤ (x70_3 : Int) := ode_; have q375 : x70_3 < (y372.length : Int) := ode_
           obtain ⟨ad375, e375, hx375_0⟩ := Kd.at_string (Kd.R_reads' HO_68.out).2.2 x70_3 p375 q375
           cases e375; replace p375 := eq_true p375; replace q375 := eq_true q375
           go_wp2_with (first | ((with_reducible refine gate_callee (f := 77) rfl ?_); refine goesL_ (some 75) rfl rfl Tryz.func77 (by kernel_rfl) rfl #[.string (rdOf ByteArray.empty y372 x70_3)] rfl gl_ ?_; (with_reducible refine (Z6.calls k3 (rdOf ByteArray.empty y372 x70_3) t376 _ ?side1 A41.out).mono ?_); (case side1 => exact Wd.below HGl.out (bs_ HB.out GE368.out)); rintro e w49 ⟨v377, rfl, ho0, hb⟩; refine ⟨_, rfl, ?_⟩; have n0_ := am_ (Kd.R_elder' (rr_ HO_8.out) (Kd.R_base ho0) hb); have n1_ := am_ (Kd.R_elder' (rr_ HO_9.out) (Kd.R_base ho0) hb); have n2_ := am_ (Kd.S_elder' (by (with_reducible repeat (first | apply q1_ | apply q2_ | apply q3_)); exact HO_10.out) (Kd.R_base ho0) hb); have n3_ := am_ (Kd.R_elder' (rr_ HO_68.out) (Kd.R_base ho0) hb); have n4_ := am_ (Kd.R_lower (Kd.R_new' (Kd.R_new' (Kd.R_new' ho0 (Kd.R_lt (rr_ HO_8.out))) (Kd.R_lt (rr_ HO_9.out))) (Kd.R_lt (rr_ HO_68.out))) (below_size (bs_ HB.out GE368.out))); have n5_ := am_ (blk_below (g := gb368) (o := .cells #[.int .i64 ((rd_T70 l1 x27_1).f0), .slice A367_1 ((rd_T70 l1 x27_1).f1).length c367_1, .slice A367_2 ((rd_T70 l1 x27_1).f2).length c367_2] 70 (0, 0)) (bk_ BK368.out) hb); have n6_ := am_ (below_step (bs_ HB.out GE368.out) hb); clear HO_8; clear HO_9; clear HO_10; clear HO_68; clear BK368; clear HB; have HO_8 := n0_; have HO_9 := n1_; have HO_10 := n2_; have HO_68 := n3_; have HO378 := n4_; have BK368 := n5_; have HB := n6_; clear n0_ n1_ n2_ n3_ n4_ n5_ n6_; (try clear hb); (try clear hb2); (try clear hk); (try clear hi); (try clear ho0)) | ((with_reducible refine gate_dst (N := 77) rfl ?_); (try (refine gate_guard (by rfl) ?_; dsimp only)); refine Kd.R_lit Kd.string _ 9 ?hg (N := 77) ?hd (xs := ([rdOf ByteArray.empty y372 x70_3] : List ByteArray)) (inner := [.string (rdOf ByteArray.empty y372 x70_3)]) (ok := fun _ => True) (okp := fun _ => True) ?hr ?hp (fun _ hk => hk) trivial (Below.refl _ _) (Nat.le_refl _) (by simp) ?_; (case hd => rfl); (case hg => rfl); (case hr => first | (go_simp; done) | (go_simp; rfl)); (case hp => exact (Reps.one (show Kd.M Kd.string _ _ _ (rdOf ByteArray.empty y372 x70_3) [.string (rdOf ByteArray.empty y372 x70_3)] from rfl) (Reps.none _ _))); intro v380 w50 ho51 hb hg_ hnew_; clear hg_ hnew_; (first | rw [← Ny379.out] at ho51 | (simp only [Int.reduceToNat] at ho51; rw [← Ny379.out] at ho51)); have n0_ := am_ (Kd.R_elder' (rr_ HO_8.out) (Kd.R_base ho51) hb); have n1_ := am_ (Kd.R_elder' (rr_ HO_9.out) (Kd.R_base ho51) hb); have n2_ := am_ (Kd.S_elder' (by (with_reducible repeat (first | apply q1_ | apply q2_ | apply q3_)); exact HO_10.out) (Kd.R_base ho51) hb); have n3_ := am_ (Kd.R_elder' (rr_ HO_68.out) (Kd.R_base ho51) hb); have n4_ := am_ (Kd.R_elder' (rr_ HO378.out) (Kd.R_base ho51) hb); have n5_ := am_ (Kd.R_lower (Kd.R_new' (Kd.R_new' (Kd.R_new' (Kd.R_new' ho51 (Kd.R_lt (rr_ HO_8.out))) (Kd.R_lt (rr_ HO_9.out))) (Kd.R_lt (rr_ HO_68.out))) (Kd.R_lt (rr_ HO378.out))) (below_size (bs_ HB.out GE368.out))); have n6_ := am_ (blk_below (g := gb368) (o := .cells #[.int .i64 ((rd_T70 l1 x27_1).f0), .slice A367_1 ((rd_T70 l1 x27_1).f1).length c367_1, .slice A367_2 ((rd_T70 l1 x27_1).f2).length c367_2] 70 (0, 0)) (bk_ BK368.out) hb); have n7_ := am_ (below_step (bs_ HB.out GE368.out) hb); clear HO_8; clear HO_9; clear HO_10; clear HO_68; clear HO378; clear BK368; clear HB; have HO_8 := n0_; have HO_9 := n1_; have HO_10 := n2_; have HO_68 := n3_; have HO378 := n4_; have HO381 := n5_; have BK368 := n6_; have HB := n7_; clear n0_ n1_ n2_ n3_ n4_ n5_ n6_ n7_; clear hb ho51; obtain ⟨Ao52, co52, eo52⟩ := Kd.R_slice HO378.out; subst eo52; obtain ⟨Ao53, co53, eo53⟩ := Kd.R_slice HO381.out; subst eo53) | ((with_reducible refine gate_callee (f := 10) rfl ?_); refine goesL_ (some 78) rfl rfl Tryz.func10 (by kernel_rfl) rfl #[.slice Ao52 t376.length co52, .slice Ao53 y379.length co53] rfl gl_ ?_; (with_reducible refine (Z10.calls k3 _ _ t376 _ _ y379 false _ ?side1 ?side2 ?side3 ?side4 A42.out).mono ?_); (case side1 => exact cc_ (Kd.R_reads' HO378.out).2.2); (case side2 => exact (Kd.R_reads' HO378.out).2.1); (case side3 => exact cc_ (Kd.R_reads' HO381.out).2.2); (case side4 => exact (Kd.R_reads' HO381.out).2.1); rintro e w' ⟨rfl, ⟨nd, rfl⟩⟩; refine ⟨_, rfl, ?_⟩))
           go_ret3
           exact ⟨_, by first | rfl | (simp [errW_none, errW_some] <;> rfl) | (simp [*, errW_none, errW_some] <;> rfl), by first | exact Kd.S_nil _ _ _ _ _ | exact Kd.N_nil _ _ _ _ _ | exact Kd.V_nil _ _ _ _ _ | exact Kd.Q_nil _ _ _ _ _ | exact Kd.R_nil _ _ _ _ _, bs_ HB.out GE368.out⟩
         ·rw [if_neg c38] at H
          have c38b0 : decide (x70_3 < (y372.length : Int)) = false := decide_eq_false c38
          clear c38; have HC54 := am_ H; clear H
          go_upto_region 23 with (fail)
          go_cut [105] (fun v105 wc => ∃ (kq : Nat) (x105_53 : Bool), v105 = .bool x105_53 ∧ Aside0 (Z2.j5 kq t356 x9_1 x10_1 x11_1 l1 (l1.length : Int) x27_1 x105_53 ((rd_T70 l1 x27_1).f0) ((rd_T70 l1 x27_1).f1) ((rd_T70 l1 x27_1).f2) = some (r1, r2, r3)) ∧ Aside0 (kq ≤ k3) ∧ Aside0 (Kd.R Kd.string 9 wc w.heap.size (fun k_ => some k_ ≠ (u9 : Value).ownBlock) v357 t356) ∧ Aside0 (Kd.R Kd.string 9 wc w.heap.size (fun k_ => some k_ ≠ (v357 : Value).ownBlock) u9 x9_1) ∧ Aside0 (Kd.S k70 70 wc w.heap.size (fun k_ => some k_ ≠ (v357 : Value).ownBlock ∧ some k_ ≠ (u9 : Value).ownBlock ∧ k_ ≠ gb368) u10 x10_1) ∧ Aside0 (wc.heap[gb368]? = some (.cells #[.int .i64 ((rd_T70 l1 x27_1).f0), (.slice A367_1 ((rd_T70 l1 x27_1).f1).length c367_1), (.slice A367_2 ((rd_T70 l1 x27_1).f2).length c367_2)] 70 (0, 0))) ∧ Aside0 (Below w.heap.size w wc))
          case first =>
           have H := HC54.out
           clear HC54
           by_cases c55 : (wrap64 (((rd_T70 l1 x27_1).f0) + (((rd_T70 l1 x27_1).f1).length : Int))) > (t356.length : Int)
           ·rw [if_pos c55] at H
            have c55b0 : decide ((t356.length : Int) < (wrap64 (((rd_T70 l1 x27_1).f0) + (((rd_T70 l1 x27_1).f1).length : Int)))) = true := decide_eq_true c55
            clear c55
            (first | rw [c55b0] | (simp only [i64_w, i32_w]; rw [c55b0]) | skip)
            have H' := am_ H
            clear H
            try go_wp2
            have n0_ := am_ (r3_ HO_8.out)
            have n1_ := am_ (r3_ HO_9.out)
            have n2_ := am_ (q3_ HO_10.out)
            have n3_ := am_ (r3_ HO_68.out)
            have n4_ := am_ (blk_drew BK368.out)
            have n5_ := am_ (b2_ HB.out)
            clear HO_8; clear HO_9; clear HO_10; clear HO_68; clear BK368; clear HB; have HO_8 := n0_; have HO_9 := n1_; have HO_10 := n2_; have HO_68 := n3_; have BK368 := n4_; have HB := n5_; clear n0_ n1_ n2_ n3_ n4_ n5_
            obtain ⟨Ao57, co57, eo57⟩ := Kd.R_slice HO_8.out
            (first | subst eo57 | (injection eo57 with f1_ f2_ f3_; have f4_ := f1_.symm; have f5_ := f3_.symm; clear f1_ f2_ f3_; subst f4_; subst f5_))
            refine start_ (n := 25) (S := fun w' => w'.cell? ⟨gb368, 0, none⟩ = some (.int .i64 ((rd_T70 l1 x27_1).f0)) ∧ w'.cell? ⟨gb368, 1, none⟩ = some (.slice A367_1 ((rd_T70 l1 x27_1).f1).length c367_1) ∧ w'.cell? ⟨gb368, 2, none⟩ = some (.slice A367_2 ((rd_T70 l1 x27_1).f2).length c367_2)) (ds := []) Z2.D0 (by kernel_rfl) rfl rfl ⟨(blk_cell BK368.out 0).trans rfl, (blk_cell BK368.out 1).trans rfl, (blk_cell BK368.out 2).trans rfl⟩ (fun hHeld => ?_); refine with_tabW Z2.tab23 Z2.bits23 (fun HT_ HW_ => ?_)
            generalize wr.drew = w56 at HO_8 HO_9 HO_10 HO_68 BK368 HB hHeld ⊢
            refine px_ 0 81 ?_ ?_ Z2.D2 HT_.out ?_ ?_ ?_; rotate_left 2; intro w'; go_simp; with_reducible rfl; simp only [Act.put, s_t, s_z, s_s, i64_w, i32_w]; rfl
            refine px_ 2 83 ?_ ?_ Z2.D4 HT_.out ?_ ?_ ?_; rotate_left 2; intro w'; go_simp; with_reducible rfl; simp only [Act.put, s_t, s_z, s_s, i64_w, i32_w]; rfl
            refine px_ 6 87 ?_ ?_ Z2.D5 HT_.out ?_ ?_ ?_; rotate_left 2; intro w'; go_simp; with_reducible rfl; simp only [Act.put, s_t, s_z, s_s, i64_w, i32_w]; rfl
            refine px_ 7 88 ?_ ?_ Z2.D6 HT_.out ?_ ?_ ?_; rotate_left 2; intro w'; go_simp; with_reducible rfl; simp only [Act.put, s_t, s_z, s_s, i64_w, i32_w]; rfl
            refine take_ (i := 1) (N := some 82) (v := ?_) (a' := ?_) Z2.D9 rfl rfl (take_ofW HT_.out HW_.out (by kernel_rfl)) (fun _ _ _ h => h) (Or.inl ⟨by rfl, ?_⟩) hHeld ?_ ?_
            rotate_left
            ·rintro w' ⟨s0, s1, s2⟩
             go_simp
             with_reducible rfl
            rotate_left
            ·simp only [Act.put, s_t, s_z, s_s, i64_w, i32_w]
             rfl
            refine take_ (i := 3) (N := some 84) (v := ?_) (a' := ?_) Z2.D12 rfl rfl (take_ofW HT_.out HW_.out (by kernel_rfl)) (fun _ _ _ h => h) (Or.inl ⟨by rfl, ?_⟩) hHeld ?_ ?_
            rotate_left
            ·rintro w' ⟨s0, s1, s2⟩
             go_simp
             with_reducible rfl
            rotate_left
            ·simp only [Act.put, s_t, s_z, s_s, i64_w, i32_w]
             rfl
            refine px_ 4 85 ?_ ?_ Z2.D14 HT_.out ?_ ?_ ?_; rotate_left 2; intro w'; go_simp; with_reducible rfl; simp only [Act.put, s_t, s_z, s_s, i64_w, i32_w]; rfl
            refine px_ 5 86 ?_ ?_ Z2.D16 HT_.out ?_ ?_ ?_; rotate_left 2; intro w'; go_simp; with_reducible rfl; simp only [Act.put, s_t, s_z, s_s, i64_w, i32_w]; rfl
            refine px_ 8 89 ?_ ?_ Z2.D18 HT_.out ?_ ?_ ?_; rotate_left 2; intro w'; go_simp; with_reducible rfl; simp only [Act.put, s_t, s_z, s_s, i64_w, i32_w]; rfl
            refine px_ 9 90 ?_ ?_ Z2.D20 HT_.out ?_ ?_ ?_; rotate_left 2; intro w'; go_simp; with_reducible rfl; simp only [Act.put, s_t, s_z, s_s, i64_w, i32_w]; rfl
            refine pv_ (i := 10) (N := some 91) (a' := ?_) Z2.D22 (any_of HT_.out (by kernel_rfl)) ?_ ?_; rotate_left
            ·simp only [Act.put, s_t, s_z, s_s, i64_w, i32_w]; rfl
            refine pv_ (i := 11) (N := some 92) (a' := ?_) Z2.D24 (any_of HT_.out (by kernel_rfl)) ?_ ?_; rotate_left
            ·simp only [Act.put, s_t, s_z, s_s, i64_w, i32_w]; rfl
            refine pv_ (i := 12) (N := some 93) (a' := ?_) Z2.D29 (any_of HT_.out (by kernel_rfl)) ?_ ?_; rotate_left
            ·simp only [Act.put, s_t, s_z, s_s, i64_w, i32_w]; rfl
            refine pv_ (i := 13) (N := some 94) (a' := ?_) Z2.D30 (any_of HT_.out (by kernel_rfl)) ?_ ?_; rotate_left
            ·simp only [Act.put, s_t, s_z, s_s, i64_w, i32_w]; rfl
            refine pv_ (i := 14) (N := some 95) (a' := ?_) Z2.D32 (any_of HT_.out (by kernel_rfl)) ?_ ?_; rotate_left
            ·simp only [Act.put, s_t, s_z, s_s, i64_w, i32_w]; rfl
            refine pv_ (i := 15) (N := some 96) (a' := ?_) Z2.D33 (any_of HT_.out (by kernel_rfl)) ?_ ?_; rotate_left
            ·simp only [Act.put, s_t, s_z, s_s, i64_w, i32_w]; rfl
            refine pv_ (i := 16) (N := some 97) (a' := ?_) Z2.D35 (any_of HT_.out (by kernel_rfl)) ?_ ?_; rotate_left
            ·simp only [Act.put, s_t, s_z, s_s, i64_w, i32_w]; rfl
            refine pv_ (i := 17) (N := some 98) (a' := ?_) Z2.D37 (any_of HT_.out (by kernel_rfl)) ?_ ?_; rotate_left
            ·simp only [Act.put, s_t, s_z, s_s, i64_w, i32_w]; rfl
            refine pv_ (i := 18) (N := some 99) (a' := ?_) Z2.D39 (any_of HT_.out (by kernel_rfl)) ?_ ?_; rotate_left
            ·simp only [Act.put, s_t, s_z, s_s, i64_w, i32_w]; rfl
            refine pv_ (i := 19) (N := some 100) (a' := ?_) Z2.D41 (any_of HT_.out (by kernel_rfl)) ?_ ?_; rotate_left
            ·simp only [Act.put, s_t, s_z, s_s, i64_w, i32_w]; rfl
            refine pv_ (i := 20) (N := some 101) (a' := ?_) Z2.D42 (any_of HT_.out (by kernel_rfl)) ?_ ?_; rotate_left
            ·simp only [Act.put, s_t, s_z, s_s, i64_w, i32_w]; rfl
            refine pv_ (i := 21) (N := some 102) (a' := ?_) Z2.D43 (any_of HT_.out (by kernel_rfl)) ?_ ?_; rotate_left
            ·simp only [Act.put, s_t, s_z, s_s, i64_w, i32_w]; rfl
            refine pv_ (i := 22) (N := some 103) (a' := ?_) Z2.D44 (any_of HT_.out (by kernel_rfl)) ?_ ?_; rotate_left
            ·simp only [Act.put, s_t, s_z, s_s, i64_w, i32_w]; rfl
            refine pv_ (i := 23) (N := some 104) (a' := ?_) Z2.D45 (any_of HT_.out (by kernel_rfl)) ?_ ?_; rotate_left
            ·simp only [Act.put, s_t, s_z, s_s, i64_w, i32_w]; rfl
            refine px_ 24 105 ?_ ?_ Z2.D46 HT_.out ?_ ?_ ?_; rotate_left 2; intro w'; go_simp; with_reducible rfl; simp only [Act.put, s_t, s_z, s_s, i64_w, i32_w]; rfl
            refine done_ (done_of HT_.out (by kernel_rfl)) ?_
            try go_wp2
            go_meet
            case rel => exact ⟨_, (true), tr_, H', ⟨by have := HK1.out; have := HJ13.out; have := HK3.out; first | omega | exact Nat.le_refl _⟩, ⟨by (with_reducible repeat (first | apply r1_ | apply r2_ | apply r3_)); exact Kd.R_mono HO_8.out (fun _ hk => hk.1)⟩, ⟨by (with_reducible repeat (first | apply r1_ | apply r2_ | apply r3_)); exact Kd.R_mono HO_9.out (fun _ hk => hk.1)⟩, ⟨by (with_reducible repeat (first | apply q1_ | apply q2_ | apply q3_)); exact Kd.S_mono HO_10.out (fun _ hk => ⟨hk.1, ⟨hk.2.1, hk.2.2.2⟩⟩)⟩, ⟨bk_ BK368.out⟩, ⟨bs_ HB.out GE368.out⟩⟩
           ·rw [if_neg c55] at H
            have c55b0 : decide ((t356.length : Int) < (wrap64 (((rd_T70 l1 x27_1).f0) + (((rd_T70 l1 x27_1).f1).length : Int)))) = false := decide_eq_false c55
            clear c55
            (first | rw [c55b0] | (simp only [i64_w, i32_w]; rw [c55b0]) | skip)
            by_cases c58 : 0 ≤ ((rd_T70 l1 x27_1).f0)
            case neg => exact (nn_ c58 H).elim
            rw [if_pos c58] at H; have c58b0 := eq_true c58; have c58b1 := decide_eq_true c58; clear c58
            by_cases c59 : ((rd_T70 l1 x27_1).f0) ≤ (wrap64 (((rd_T70 l1 x27_1).f0) + (((rd_T70 l1 x27_1).f1).length : Int)))
            case neg => exact (nn_ c59 H).elim
            rw [if_pos c59] at H; have c59b0 := eq_true c59; have c59b1 := decide_eq_true c59
            by_cases c60 : (wrap64 (((rd_T70 l1 x27_1).f0) + (((rd_T70 l1 x27_1).f1).length : Int))) ≤ (t356.length : Int)
            case neg => exact (nn_ c60 H).elim
            rw [if_pos c60] at H; have c60b0 := eq_true c60; have c60b1 := decide_eq_true c60
            obtain ⟨y383, hy383⟩ : ∃ y_ : List ByteArray, y_ = ((t356.take ((wrap64 (((rd_T70 l1 x27_1).f0) + (((rd_T70 l1 x27_1).f1).length : Int))) : Int).toNat).drop (((rd_T70 l1 x27_1).f0) : Int).toNat) := ⟨_, rfl⟩
            replace H : ((Z10.f k3 y383 ((rd_T70 l1 x27_1).f1)).bind fun t387 => (Z2.j5 k3 t356 x9_1 x10_1 x11_1 l1 (l1.length : Int) x27_1 (!t387) ((rd_T70 l1 x27_1).f0) ((rd_T70 l1 x27_1).f1) ((rd_T70 l1 x27_1).f2))) = some (r1, r2, r3) := by first | (rw [hy383]; with_reducible exact H) | (have H2_ := (Option.bind_some _ _).symm.trans H; rw [hy383]; with_reducible exact H2_) | (have H2_ := (Option.bind_some _ _).symm.trans H; with_reducible exact H2_) | with_reducible exact H | (rw [hy383]; exact H) | exact H
            have Ny383 := am_ hy383; clear hy383; replace H := Option.bind_eq_some_iff.mp H; obtain ⟨t387, A610, H⟩ := H; have A61 := am_ A610; clear A610
            have H' := am_ H
            clear H
            try go_wp2
            have n0_ := am_ (r3_ HO_8.out)
            have n1_ := am_ (r3_ HO_9.out)
            have n2_ := am_ (q3_ HO_10.out)
            have n3_ := am_ (r3_ HO_68.out)
            have n4_ := am_ (blk_drew BK368.out)
            have n5_ := am_ (b2_ HB.out)
            clear HO_8; clear HO_9; clear HO_10; clear HO_68; clear BK368; clear HB; have HO_8 := n0_; have HO_9 := n1_; have HO_10 := n2_; have HO_68 := n3_; have BK368 := n4_; have HB := n5_; clear n0_ n1_ n2_ n3_ n4_ n5_
            obtain ⟨Ao63, co63, eo63⟩ := Kd.R_slice HO_8.out
            (first | subst eo63 | (injection eo63 with f1_ f2_ f3_; have f4_ := f1_.symm; have f5_ := f3_.symm; clear f1_ f2_ f3_; subst f4_; subst f5_))
            have q64 : ((wrap64 (((rd_T70 l1 x27_1).f0) + (((rd_T70 l1 x27_1).f1).length : Int))) : Int) ≤ ((t356.length : Int) : Int) := ode_
            obtain ⟨i064, hi064, _, hsz64, _⟩ := info_parts info9
            have hroom64 : t356.length ≤ co63 := (Kd.R_reads' HO_8.out).2.1
            have hC64 : Kd.C Kd.string _ Ao63 t356.length t356 := (Kd.R_reads' HO_8.out).2.2
            have ql64 : (((rd_T70 l1 x27_1).f0) : Int) ≤ ((wrap64 (((rd_T70 l1 x27_1).f0) + (((rd_T70 l1 x27_1).f1).length : Int))) : Int) := ode_; have q064 : (0 : Int) ≤ (((rd_T70 l1 x27_1).f0) : Int) := ode_
            have hcut64 := cut_mid (P := Tryz.prog) 27 9 .i64 .i64 Tryz.underlying27 hi064 1 hsz64 Ao63 t356.length co63 ((rd_T70 l1 x27_1).f0) (wrap64 (((rd_T70 l1 x27_1).f0) + (((rd_T70 l1 x27_1).f1).length : Int))) q064 ql64 q64 hroom64
            have hr64 := Kd.C_mid (lo := (((rd_T70 l1 x27_1).f0) : Int).toNat) (hi := ((wrap64 (((rd_T70 l1 x27_1).f0) + (((rd_T70 l1 x27_1).f1).length : Int))) : Int).toNat) (c := co63) hC64 (by omega) (by omega) hroom64
            obtain ⟨A64, hA64⟩ : ∃ A1, A1 = (if co63 = (((rd_T70 l1 x27_1).f0) : Int).toNat then Ao63 else (Ao63 : Option Addr).map (·.add ((((rd_T70 l1 x27_1).f0) : Int).toNat * 1))) := ⟨_, rfl⟩
            obtain ⟨c64, hc64⟩ : ∃ c1, c1 = co63 - (((rd_T70 l1 x27_1).f0) : Int).toNat := ⟨_, rfl⟩
            have hy64 : y383.length = ((wrap64 (((rd_T70 l1 x27_1).f0) + (((rd_T70 l1 x27_1).f1).length : Int))) : Int).toNat - (((rd_T70 l1 x27_1).f0) : Int).toNat := (by rw [Ny383.out, List.length_drop, List.length_take] <;> omega)
            rw [show ((t356).take ((wrap64 (((rd_T70 l1 x27_1).f0) + (((rd_T70 l1 x27_1).f1).length : Int))) : Int).toNat).drop (((rd_T70 l1 x27_1).f0) : Int).toNat = y383 from Ny383.out.symm] at hr64
            replace hr64 : Kd.C Kd.string _ A64 y383.length y383 := (by rw [hA64]; exact hr64)
            rw [← hy64, ← hA64, ← hc64] at hcut64
            have HR386 := am_ hr64
            have HC386 := am_ (show y383.length ≤ c64 from by rw [hy64, hc64]; exact Nat.sub_le_sub_right (Nat.le_trans (by omega) hroom64) _)
            clear hr64 hC64 hroom64 hi064 hsz64 hc64; have KY64 := am_ hy64; have KA64 := am_ hA64; clear hy64 hA64
            have KL64 := am_ (show ((wrap64 (((rd_T70 l1 x27_1).f0) + (((rd_T70 l1 x27_1).f1).length : Int))) : Int).toNat ≤ t356.length from by omega)
            have KM64 := am_ (show (((rd_T70 l1 x27_1).f0) : Int).toNat ≤ ((wrap64 (((rd_T70 l1 x27_1).f0) + (((rd_T70 l1 x27_1).f1).length : Int))) : Int).toNat from by omega)
            replace q64 := eq_true q64
            refine start_ (n := 25) (S := fun w' => w'.cell? ⟨gb368, 0, none⟩ = some (.int .i64 ((rd_T70 l1 x27_1).f0)) ∧ w'.cell? ⟨gb368, 1, none⟩ = some (.slice A367_1 ((rd_T70 l1 x27_1).f1).length c367_1) ∧ w'.cell? ⟨gb368, 2, none⟩ = some (.slice A367_2 ((rd_T70 l1 x27_1).f2).length c367_2)) (ds := []) Z2.D0 (by kernel_rfl) rfl rfl ⟨(blk_cell BK368.out 0).trans rfl, (blk_cell BK368.out 1).trans rfl, (blk_cell BK368.out 2).trans rfl⟩ (fun hHeld => ?_); refine with_tabW Z2.tab23 Z2.bits23 (fun HT_ HW_ => ?_)
            generalize wr.drew = w62 at HO_8 HO_9 HO_10 HO_68 BK368 HB HR386 hHeld ⊢
            refine px_ 0 81 ?_ ?_ Z2.D2 HT_.out ?_ ?_ ?_; rotate_left 2; intro w'; go_simp; with_reducible rfl; simp only [Act.put, s_t, s_z, s_s, i64_w, i32_w]; rfl
            refine px_ 2 83 ?_ ?_ Z2.D4 HT_.out ?_ ?_ ?_; rotate_left 2; intro w'; go_simp; with_reducible rfl; simp only [Act.put, s_t, s_z, s_s, i64_w, i32_w]; rfl
            refine px_ 6 87 ?_ ?_ Z2.D5 HT_.out ?_ ?_ ?_; rotate_left 2; intro w'; go_simp; with_reducible rfl; simp only [Act.put, s_t, s_z, s_s, i64_w, i32_w]; rfl
            refine px_ 7 88 ?_ ?_ Z2.D6 HT_.out ?_ ?_ ?_; rotate_left 2; intro w'; go_simp; with_reducible rfl; simp only [Act.put, s_t, s_z, s_s, i64_w, i32_w]; rfl
            refine take_ (i := 1) (N := some 82) (v := ?_) (a' := ?_) Z2.D9 rfl rfl (take_ofW HT_.out HW_.out (by kernel_rfl)) (fun _ _ _ h => h) (Or.inl ⟨by rfl, ?_⟩) hHeld ?_ ?_
            rotate_left
            ·rintro w' ⟨s0, s1, s2⟩
             go_simp
             with_reducible rfl
            rotate_left
            ·simp only [Act.put, s_t, s_z, s_s, i64_w, i32_w]
             rfl
            refine take_ (i := 3) (N := some 84) (v := ?_) (a' := ?_) Z2.D12 rfl rfl (take_ofW HT_.out HW_.out (by kernel_rfl)) (fun _ _ _ h => h) (Or.inl ⟨by rfl, ?_⟩) hHeld ?_ ?_
            rotate_left
            ·rintro w' ⟨s0, s1, s2⟩
             go_simp
             with_reducible rfl
            rotate_left
            ·simp only [Act.put, s_t, s_z, s_s, i64_w, i32_w]
             rfl
            refine px_ 4 85 ?_ ?_ Z2.D14 HT_.out ?_ ?_ ?_; rotate_left 2; intro w'; go_simp; with_reducible rfl; simp only [Act.put, s_t, s_z, s_s, i64_w, i32_w]; rfl
            refine px_ 5 86 ?_ ?_ Z2.D16 HT_.out ?_ ?_ ?_; rotate_left 2; intro w'; go_simp; with_reducible rfl; simp only [Act.put, s_t, s_z, s_s, i64_w, i32_w]; rfl
            refine px_ 8 89 ?_ ?_ Z2.D18 HT_.out ?_ ?_ ?_; rotate_left 2; intro w'; go_simp; with_reducible rfl; simp only [Act.put, s_t, s_z, s_s, i64_w, i32_w]; rfl
            refine px_ 9 90 ?_ ?_ Z2.D20 HT_.out ?_ ?_ ?_; rotate_left 2; intro w'; go_simp; with_reducible rfl; simp only [Act.put, s_t, s_z, s_s, i64_w, i32_w]; rfl
            refine px_ 10 91 ?_ ?_ Z2.D22 HT_.out ?_ ?_ ?_; rotate_left 2; intro w'; go_simp; with_reducible rfl; simp only [Act.put, s_t, s_z, s_s, i64_w, i32_w]; rfl
            refine px_ 11 92 ?_ ?_ Z2.D24 HT_.out ?_ ?_ ?_; rotate_left 2; intro w'; go_simp; with_reducible rfl; simp only [Act.put, s_t, s_z, s_s, i64_w, i32_w]; rfl
            refine px_ 13 94 ?_ ?_ Z2.D25 HT_.out ?_ ?_ ?_; rotate_left 2; intro w'; go_simp; with_reducible rfl; simp only [Act.put, s_t, s_z, s_s, i64_w, i32_w]; rfl
            refine px_ 15 96 ?_ ?_ Z2.D26 HT_.out ?_ ?_ ?_; rotate_left 2; intro w'; go_simp; with_reducible rfl; simp only [Act.put, s_t, s_z, s_s, i64_w, i32_w]; rfl
            refine px_ 20 101 ?_ ?_ Z2.D27 HT_.out ?_ ?_ ?_; rotate_left 2; intro w'; go_simp; with_reducible rfl; simp only [Act.put, s_t, s_z, s_s, i64_w, i32_w]; rfl
            refine take_ (i := 12) (N := some 93) (v := ?_) (a' := ?_) Z2.D31 rfl rfl (take_ofW HT_.out HW_.out (by kernel_rfl)) (fun _ _ _ h => h) (Or.inl ⟨by rfl, ?_⟩) hHeld ?_ ?_
            rotate_left
            ·rintro w' ⟨s0, s1, s2⟩
             go_simp
             with_reducible rfl
            rotate_left
            ·simp only [Act.put, s_t, s_z, s_s, i64_w, i32_w]
             rfl
            refine take_ (i := 14) (N := some 95) (v := ?_) (a' := ?_) Z2.D34 rfl rfl (take_ofW HT_.out HW_.out (by kernel_rfl)) (fun _ _ _ h => h) (Or.inl ⟨by rfl, ?_⟩) hHeld ?_ ?_
            rotate_left
            ·rintro w' ⟨s0, s1, s2⟩
             go_simp
             with_reducible rfl
            rotate_left
            ·simp only [Act.put, s_t, s_z, s_s, i64_w, i32_w]
             rfl
            refine take_ (i := 16) (N := some 97) (v := ?_) (a' := ?_) Z2.D36 rfl rfl (take_ofW HT_.out HW_.out (by kernel_rfl)) (fun _ _ _ h => h) (Or.inl ⟨by rfl, ?_⟩) hHeld ?_ ?_
            rotate_left
            ·rintro w' ⟨s0, s1, s2⟩
             go_simp
             with_reducible rfl
            rotate_left
            ·simp only [Act.put, s_t, s_z, s_s, i64_w, i32_w]
             rfl
            refine px_ 17 98 ?_ ?_ Z2.D38 HT_.out ?_ ?_ ?_; rotate_left 2; intro w'; go_simp; with_reducible rfl; simp only [Act.put, s_t, s_z, s_s, i64_w, i32_w]; rfl
            refine px_ 18 99 ?_ ?_ Z2.D40 HT_.out ?_ ?_ ?_; rotate_left 2; intro w'; go_simp; with_reducible rfl; simp only [Act.put, s_t, s_z, s_s, i64_w, i32_w]; rfl
            refine px_ 19 100 ?_ ?_ Z2.D42 HT_.out ?_ ?_ ?_; rotate_left 2; intro w'; go_simp; with_reducible rfl; simp only [Act.put, s_t, s_z, s_s, i64_w, i32_w]; rfl
            refine take_ (i := 21) (N := some 102) (v := ?_) (a' := ?_) Z2.D43 rfl rfl (take_ofW HT_.out HW_.out (by kernel_rfl)) (fun _ _ _ h => h) (Or.inl ⟨by rfl, ?_⟩) hHeld ?_ ?_
            rotate_left
            ·rintro w' ⟨s0, s1, s2⟩
             go_simp
             with_reducible rfl
            rotate_left
            ·simp only [Act.put, s_t, s_z, s_s, i64_w, i32_w]
             rfl
            refine one_ (i := 22) (N := some 103) Z2.D44 rfl rfl (one_of HT_.out (by kernel_rfl)) (by decide) (fun K hK => ?_)
            refine goes_ Tryz.func10 (by kernel_rfl) rfl #[.slice A64 y383.length c64, .slice A367_1 ((rd_T70 l1 x27_1).f1).length c367_1] (by rfl) rfl rfl gl_ ?_
            with_reducible refine (Z10.calls k3 _ _ y383 _ _ ((rd_T70 l1 x27_1).f1) t387 _ ?side1 ?side2 ?side3 ?side4 A61.out).mono ?_
            (case side1 => repeat (first | exact (by repeat (first | (with_reducible first | exact HR386.out | refine Kd.C_alloc ?_ _ | refine Kd.C_drewN ?_ _ | refine Kd.C_drew ?_) | exact HR386.out)) | (with_reducible refine Kd.C_alloc ?_ _) | (with_reducible refine Kd.C_drewN ?_ _) | (with_reducible refine Kd.C_drew ?_)))
            (case side2 => exact HC386.out)
            (case side3 => repeat (first | exact (Kd.C_below HR367_1.out HB.out) | (with_reducible refine Kd.C_alloc ?_ _) | (with_reducible refine Kd.C_drewN ?_ _) | (with_reducible refine Kd.C_drew ?_)))
            (case side4 => exact HC367_1.out)
            rintro e w' ⟨rfl, ⟨nd, rfl⟩⟩
            refine ⟨_, rfl, ?_⟩
            refine hK.out _ _ ⟨(blk_cell BK368.out 0).trans rfl, (blk_cell BK368.out 1).trans rfl, (blk_cell BK368.out 2).trans rfl⟩ (fun hHeld => ?_)
            clear hK K
            refine norm_ (a' := ?_) ?_ ?_
            rotate_left
            ·show Act.put _ (some 103) _ = _
             simp only [Act.put, s_t, s_z, s_s, i64_w, i32_w]
             rfl
            refine px_ 23 104 ?_ ?_ Z2.D45 HT_.out ?_ ?_ ?_; rotate_left 2; intro w'; go_simp; with_reducible rfl; simp only [Act.put, s_t, s_z, s_s, i64_w, i32_w]; rfl
            refine px_ 24 105 ?_ ?_ Z2.D46 HT_.out ?_ ?_ ?_; rotate_left 2; intro w'; go_simp; with_reducible rfl; simp only [Act.put, s_t, s_z, s_s, i64_w, i32_w]; rfl
            refine done_ (done_of HT_.out (by kernel_rfl)) ?_
            try go_wp2
            go_meet
            case rel => exact ⟨_, (!t387), tr_, H', ⟨by have := HK1.out; have := HJ13.out; have := HK3.out; first | omega | exact Nat.le_refl _⟩, ⟨by (with_reducible repeat (first | apply r1_ | apply r2_ | apply r3_)); exact Kd.R_mono HO_8.out (fun _ hk => hk.1)⟩, ⟨by (with_reducible repeat (first | apply r1_ | apply r2_ | apply r3_)); exact Kd.R_mono HO_9.out (fun _ hk => hk.1)⟩, ⟨by (with_reducible repeat (first | apply q1_ | apply q2_ | apply q3_)); exact Kd.S_mono HO_10.out (fun _ hk => ⟨hk.1, ⟨hk.2.1, hk.2.2.2⟩⟩)⟩, ⟨bk_ BK368.out⟩, ⟨bs_ HB.out GE368.out⟩⟩
          case rest =>
           clear HC54; (try clear c1); (try clear p2); (try clear c3); (try clear p3); (try clear q3); (try clear hx3); (try clear c4); (try clear c5); (try clear c6); (try clear p6); (try clear q6); (try clear c7); (try clear c10); (try clear c36); (try clear p36); (try clear q36); (try clear hx36); (try clear p37); (try clear q37); (try clear hx37); (try clear c38); (try clear c38b0); (try clear c39); (try clear c39b0); (try clear c40); (try clear c40b0); (try clear c43); (try clear c55); (try clear c55b0); (try clear c58); (try clear c58b0); (try clear c58b1); (try clear c59); (try clear c59b0); (try clear c59b1); (try clear c60); (try clear c60b0); (try clear c60b1); (try clear c64); (try clear p64); (try clear q64); (try clear hcz29_0); (try clear hcz29_1); (try clear hcz29_2); (try clear hcz30_0); (try clear hcz30_1); (try clear hcz30_2); (try clear hcz31_0); (try clear hcz31_1); (try clear hcz31_2); (try clear hcz34_0); (try clear hcz34_1); (try clear hcz34_2); (try clear hfz16_0); (try clear hfz16_1); (try clear hfz16_2); (try clear hfz19_0); (try clear hfz19_1); (try clear hfz19_2); (try clear hfz20_0); (try clear hfz20_1); (try clear hfz20_2); (try clear hfz25_0); (try clear hfz25_1); (try clear hfz25_2); (try clear hfz29_0); (try clear hfz29_1); (try clear hfz29_2); (try clear hfz30_0); (try clear hfz30_1); (try clear hfz30_2); (try clear hfz31_0); (try clear hfz31_1); (try clear hfz31_2); (try clear hfz34_0); (try clear hfz34_1); (try clear hfz34_2); (try clear hx367_0); (try clear hx367_1); (try clear hx367_2); (try clear hx375_0); (try clear p2); (try clear p3); (try clear p367); (try clear p375); (try clear q064); (try clear q3); (try clear q367); (try clear q375); (try clear q64); obtain ⟨kq, x105_53, rfl, HA, HJ53, HO_8, HO_9, HO_10, BK368, HB⟩ := hcut
           cases kq with
           | zero => exact absurd HA.out (by simp [Z2.j5])
           | succ kj53 =>
            have H := HA.out
            clear HA
            simp only [Z2.j5] at H
            by_cases c65 : x105_53 = true
            ·subst c65
             have H1 : (some ((⟨#[]⟩ : ByteArray), ([] : List (S70)), 13)) = some (r1, r2, r3) := by rw [if_pos rfl] at H; exact H
             clear H
             have H := H1
             clear H1
             simp only [Option.some.injEq, Prod.mk.injEq] at H
             obtain ⟨rfl, rfl, rfl⟩ := H
             go_wp2
             go_ret3
             exact ⟨_, by first | rfl | (simp [errW_none, errW_some] <;> rfl) | (simp [*, errW_none, errW_some] <;> rfl), by first | exact Kd.S_nil _ _ _ _ _ | exact Kd.N_nil _ _ _ _ _ | exact Kd.V_nil _ _ _ _ _ | exact Kd.Q_nil _ _ _ _ _ | exact Kd.R_nil _ _ _ _ _, bs_ HB.out GE368.out⟩
            ·replace c65 := Bool.eq_false_iff.mpr c65
             subst c65
             have H1 : (if 0 ≤ x11_1 then (if x11_1 ≤ ((rd_T70 l1 x27_1).f0) then (if ((rd_T70 l1 x27_1).f0) ≤ (t356.length : Int) then ((some ((t356.take (((rd_T70 l1 x27_1).f0) : Int).toNat).drop (x11_1 : Int).toNat : List ByteArray)).bind fun y388 => (if x9_1.length + y388.length < 8796093022208 then ((some (x9_1 ++ y388 : List ByteArray)).bind fun y392 => ((Z14.f ((rd_T70 l1 x27_1).f2)).bind fun t395 => ((Z14.f ((rd_T70 l1 x27_1).f1)).bind fun t398 => (if x10_1.length < 2513169434916 then (if y392.length + ((rd_T70 l1 x27_1).f2).length < 8796093022208 then (Z2.l0 kj53 t356 (y392 ++ ((rd_T70 l1 x27_1).f2)) (x10_1 ++ [(⟨(y392.length : Int), t395, t398⟩ : S70)]) (wrap64 (((rd_T70 l1 x27_1).f0) + (((rd_T70 l1 x27_1).f1).length : Int))) l1 (l1.length : Int) (wrap64 (x27_1 + 1))) else (none)) else (none))))) else (none))) else (none)) else (none)) else (none)) = some (r1, r2, r3) := by rw [if_neg (show ¬ (false = true) by decide)] at H; exact H
             clear H
             have H := H1
             clear H1
             by_cases c66 : 0 ≤ x11_1
             case neg => exact (nn_ c66 H).elim
             rw [if_pos c66] at H; have c66b0 := eq_true c66; have c66b1 := decide_eq_true c66; clear c66
             by_cases c67 : x11_1 ≤ ((rd_T70 l1 x27_1).f0)
             case neg => exact (nn_ c67 H).elim
             rw [if_pos c67] at H; have c67b0 := eq_true c67; have c67b1 := decide_eq_true c67; clear c67
             by_cases c68 : ((rd_T70 l1 x27_1).f0) ≤ (t356.length : Int)
             case neg => exact (nn_ c68 H).elim
             rw [if_pos c68] at H; have c68b0 := eq_true c68; have c68b1 := decide_eq_true c68; clear c68
             obtain ⟨y388, hy388⟩ : ∃ y_ : List ByteArray, y_ = ((t356.take (((rd_T70 l1 x27_1).f0) : Int).toNat).drop (x11_1 : Int).toNat) := ⟨_, rfl⟩
             replace H : (if x9_1.length + y388.length < 8796093022208 then ((some (x9_1 ++ y388 : List ByteArray)).bind fun y392 => ((Z14.f ((rd_T70 l1 x27_1).f2)).bind fun t395 => ((Z14.f ((rd_T70 l1 x27_1).f1)).bind fun t398 => (if x10_1.length < 2513169434916 then (if y392.length + ((rd_T70 l1 x27_1).f2).length < 8796093022208 then (Z2.l0 kj53 t356 (y392 ++ ((rd_T70 l1 x27_1).f2)) (x10_1 ++ [(⟨(y392.length : Int), t395, t398⟩ : S70)]) (wrap64 (((rd_T70 l1 x27_1).f0) + (((rd_T70 l1 x27_1).f1).length : Int))) l1 (l1.length : Int) (wrap64 (x27_1 + 1))) else (none)) else (none))))) else (none)) = some (r1, r2, r3) := by first | (rw [hy388]; with_reducible exact H) | (have H2_ := (Option.bind_some _ _).symm.trans H; rw [hy388]; with_reducible exact H2_) | (have H2_ := (Option.bind_some _ _).symm.trans H; with_reducible exact H2_) | with_reducible exact H | (rw [hy388]; exact H) | exact H
             have Ny388 := am_ hy388; clear hy388
             by_cases c69 : x9_1.length + y388.length < 8796093022208
             case neg => exact (nn_ c69 H).elim
             rw [if_pos c69] at H; have LMc69 := am_ c69; clear c69
             obtain ⟨y392, hy392⟩ : ∃ y_ : List ByteArray, y_ = (x9_1 ++ y388) := ⟨_, rfl⟩
             replace H : ((Z14.f ((rd_T70 l1 x27_1).f2)).bind fun t395 => ((Z14.f ((rd_T70 l1 x27_1).f1)).bind fun t398 => (if x10_1.length < 2513169434916 then (if y392.length + ((rd_T70 l1 x27_1).f2).length < 8796093022208 then (Z2.l0 kj53 t356 (y392 ++ ((rd_T70 l1 x27_1).f2)) (x10_1 ++ [(⟨(y392.length : Int), t395, t398⟩ : S70)]) (wrap64 (((rd_T70 l1 x27_1).f0) + (((rd_T70 l1 x27_1).f1).length : Int))) l1 (l1.length : Int) (wrap64 (x27_1 + 1))) else (none)) else (none)))) = some (r1, r2, r3) := by first | (rw [hy392]; with_reducible exact H) | (have H2_ := (Option.bind_some _ _).symm.trans H; rw [hy392]; with_reducible exact H2_) | (have H2_ := (Option.bind_some _ _).symm.trans H; with_reducible exact H2_) | with_reducible exact H | (rw [hy392]; exact H) | exact H
             have Ny392 := am_ hy392; clear hy392; replace H := Option.bind_eq_some_iff.mp H; obtain ⟨t395, A700, H⟩ := H; have A70 := am_ A700; clear A700; replace H := Option.bind_eq_some_iff.mp H; obtain ⟨t398, A710, H⟩ := H; have A71 := am_ A710; clear A710
             by_cases c72 : x10_1.length < 2513169434916
             case neg => exact (nn_ c72 H).elim
             rw [if_pos c72] at H; have LMc72 := am_ c72; clear c72
             obtain ⟨y401, hy401⟩ : ∃ y_ : List (S70), y_ = (x10_1 ++ [(⟨(y392.length : Int), t395, t398⟩ : S70)]) := ⟨_, rfl⟩
             replace H : (if y392.length + ((rd_T70 l1 x27_1).f2).length < 8796093022208 then (Z2.l0 kj53 t356 (y392 ++ ((rd_T70 l1 x27_1).f2)) y401 (wrap64 (((rd_T70 l1 x27_1).f0) + (((rd_T70 l1 x27_1).f1).length : Int))) l1 (l1.length : Int) (wrap64 (x27_1 + 1))) else (none)) = some (r1, r2, r3) := by first | (rw [hy401]; with_reducible exact H) | (have H2_ := (Option.bind_some _ _).symm.trans H; rw [hy401]; with_reducible exact H2_) | (have H2_ := (Option.bind_some _ _).symm.trans H; with_reducible exact H2_) | with_reducible exact H | (rw [hy401]; exact H) | exact H
             have Ny401 := am_ hy401; clear hy401
             by_cases c73 : y392.length + ((rd_T70 l1 x27_1).f2).length < 8796093022208
             case neg => exact (nn_ c73 H).elim
             rw [if_pos c73] at H; have LMc73 := am_ c73; clear c73
             obtain ⟨y404, hy404⟩ : ∃ y_ : List ByteArray, y_ = (y392 ++ ((rd_T70 l1 x27_1).f2)) := ⟨_, rfl⟩
             replace H : (Z2.l0 kj53 t356 y404 y401 (wrap64 (((rd_T70 l1 x27_1).f0) + (((rd_T70 l1 x27_1).f1).length : Int))) l1 (l1.length : Int) (wrap64 (x27_1 + 1))) = some (r1, r2, r3) := by first | (rw [hy404]; with_reducible exact H) | (have H2_ := (Option.bind_some _ _).symm.trans H; rw [hy404]; with_reducible exact H2_) | (have H2_ := (Option.bind_some _ _).symm.trans H; with_reducible exact H2_) | with_reducible exact H | (rw [hy404]; exact H) | exact H
             have Ny404 := am_ hy404; clear hy404
             have H' := am_ H
             clear H
             have hcz74_0 : wc.cell? ⟨gb368, 0, none⟩ = some (.int .i64 ((rd_T70 l1 x27_1).f0)) := (blk_cell BK368.out 0).trans rfl
             have hcz74_1 : wc.cell? ⟨gb368, 1, none⟩ = some (.slice A367_1 ((rd_T70 l1 x27_1).f1).length c367_1) := (blk_cell BK368.out 1).trans rfl
             have hcz74_2 : wc.cell? ⟨gb368, 2, none⟩ = some (.slice A367_2 ((rd_T70 l1 x27_1).f2).length c367_2) := (blk_cell BK368.out 2).trans rfl
             have hfz74_0 := blk_frozen BK368.out 0
             have hfz74_1 := blk_frozen BK368.out 1
             have hfz74_2 := blk_frozen BK368.out 2
             obtain ⟨Ao76, co76, eo76⟩ := Kd.R_slice HO_8.out
             subst eo76; have q75 : (((rd_T70 l1 x27_1).f0) : Int) ≤ ((t356.length : Int) : Int) := ode_
             obtain ⟨i075, hi075, _, hsz75, _⟩ := info_parts info9
             have hroom75 : t356.length ≤ co76 := (Kd.R_reads' HO_8.out).2.1
             have hC75 : Kd.C Kd.string _ Ao76 t356.length t356 := (Kd.R_reads' HO_8.out).2.2
             have ql75 : (x11_1 : Int) ≤ (((rd_T70 l1 x27_1).f0) : Int) := ode_; have q075 : (0 : Int) ≤ (x11_1 : Int) := ode_
             have hcut75 := cut_mid (P := Tryz.prog) 27 9 .i64 .i64 Tryz.underlying27 hi075 1 hsz75 Ao76 t356.length co76 x11_1 ((rd_T70 l1 x27_1).f0) q075 ql75 q75 hroom75
             have hr75 := Kd.C_mid (lo := (x11_1 : Int).toNat) (hi := (((rd_T70 l1 x27_1).f0) : Int).toNat) (c := co76) hC75 (by omega) (by omega) hroom75
             obtain ⟨A75, hA75⟩ : ∃ A1, A1 = (if co76 = (x11_1 : Int).toNat then Ao76 else (Ao76 : Option Addr).map (·.add ((x11_1 : Int).toNat * 1))) := ⟨_, rfl⟩
             obtain ⟨c75, hc75⟩ : ∃ c1, c1 = co76 - (x11_1 : Int).toNat := ⟨_, rfl⟩
             have hy75 : y388.length = (((rd_T70 l1 x27_1).f0) : Int).toNat - (x11_1 : Int).toNat := (by rw [Ny388.out, List.length_drop, List.length_take] <;> omega)
             rw [show ((t356).take (((rd_T70 l1 x27_1).f0) : Int).toNat).drop (x11_1 : Int).toNat = y388 from Ny388.out.symm] at hr75
             replace hr75 : Kd.C Kd.string _ A75 y388.length y388 := (by rw [hA75]; exact hr75)
             rw [← hy75, ← hA75, ← hc75] at hcut75
             have HR391 := am_ hr75
             have HC391 := am_ (show y388.length ≤ c75 from by rw [hy75, hc75]; exact Nat.sub_le_sub_right (Nat.le_trans (by omega) hroom75) _)
             clear hr75 hC75 hroom75 hi075 hsz75 hc75; have KY75 := am_ hy75; have KA75 := am_ hA75; clear hy75 hA75
             have KL75 := am_ (show (((rd_T70 l1 x27_1).f0) : Int).toNat ≤ t356.length from by omega)
             have KM75 := am_ (show (x11_1 : Int).toNat ≤ (((rd_T70 l1 x27_1).f0) : Int).toNat from by omega)
             replace q75 := eq_true q75
             try go_wp2_with (first | ((with_reducible refine gate_builtin (b := .append) (xs := #[.tmp 106, .tmp 111]) rfl ?_); (try (refine gate_guard (by rfl) ?_; dsimp only)); at_builtin; refine Kd.R_append_rows Kd.string (w0 := w) w.heap.size rfl (.tmp 106) (.tmp 111) 27 9 (.string ⟨#[]⟩) 16 rfl Tryz.underlying27 info9 rfl (by decide) (by omega) u9 x9_1 y388 _ _ _ (fun k_ => some k_ ≠ (.slice Ao76 t356.length co76 : Value).ownBlock) (fun _ => False) rfl rfl ?aO ?aR (fun _ _ h => h) (fun _ h => h.elim) ?aF ?aB ?aS ?aL ?_; (case aR => repeat (first | exact (by repeat (first | (with_reducible first | exact HR391.out | refine Kd.C_alloc ?_ _ | refine Kd.C_drewN ?_ _ | refine Kd.C_drew ?_) | exact HR391.out)) | (with_reducible refine Kd.C_alloc ?_ _) | (with_reducible refine Kd.C_drewN ?_ _) | (with_reducible refine Kd.C_drew ?_))); (case aB => exact (bs_ HB.out GE368.out)); (case aF => exact (fun k_ hk => Kd.fresh' (Kd.R_lt (rr_ HO_8.out)) k_ hk)); (case aO => exact (rr_ HO_9.out)); (case aS => exact (below_size (bs_ HB.out GE368.out))); (case aL => have := LMc69.out; omega); intro v393 w77 ho hb hg hat; rw [← Ny392.out] at ho; have n0_ := am_ (Kd.R_after (ok := (fun _ => True)) (by (with_reducible repeat (first | apply r1_ | apply r2_ | apply r3_)); exact Kd.R_mono HO_8.out (fun _ hk => ⟨trivial, hk⟩)) hg hat); have n1_ := am_ (Kd.S_after (ok := (fun k_ => some k_ ≠ (.slice Ao76 t356.length co76 : Value).ownBlock ∧ k_ ≠ gb368)) (by (with_reducible repeat (first | apply q1_ | apply q2_ | apply q3_)); exact Kd.S_mono HO_10.out (fun _ hk => ⟨⟨hk.1, hk.2.2⟩, hk.2.1⟩)) hg hat); have n2_ := am_ (blk_grown (g := gb368) (o := .cells #[.int .i64 ((rd_T70 l1 x27_1).f0), .slice A367_1 ((rd_T70 l1 x27_1).f1).length c367_1, .slice A367_2 ((rd_T70 l1 x27_1).f2).length c367_2] 70 (0, 0)) (bk_ BK368.out) hg (Kd.R_ne HO_9.out BK368.out (by decide))); have n3_ := am_ (hb); have n4_ := am_ ((show Kd.C Kd.string w77 A75 y388.length y388 from by rw [Ny388.out, KA75.out]; exact Kd.C_mid (lo := (x11_1 : Int).toNat) (hi := (((rd_T70 l1 x27_1).f0) : Int).toNat) (c := co76) ((Kd.R_reads' (Kd.R_after (ok := (fun _ => True)) (by (with_reducible repeat (first | apply r1_ | apply r2_ | apply r3_)); exact Kd.R_mono HO_8.out (fun _ hk => ⟨trivial, hk⟩)) hg hat)).2.2) KM75.out KL75.out ((Kd.R_reads' (Kd.R_after (ok := (fun _ => True)) (by (with_reducible repeat (first | apply r1_ | apply r2_ | apply r3_)); exact Kd.R_mono HO_8.out (fun _ hk => ⟨trivial, hk⟩)) hg hat)).2.1))); have n5_ := am_ (ho); clear HO_8; clear HO_10; clear BK368; clear HB; clear HR391; clear HO_9; have HO_8 := n0_; have HO_10 := n1_; have BK368 := n2_; have HB := n3_; have HR391 := n4_; have HO394 := n5_; clear n0_ n1_ n2_ n3_ n4_ n5_; clear ho hb hg hat))
             have n0_ := am_ (r3_ HO_8.out)
             have n1_ := am_ (q3_ HO_10.out)
             have n2_ := am_ (r3_ HO394.out)
             have n3_ := am_ (blk_drew BK368.out)
             have n4_ := am_ (Kd.C_drew HR391.out)
             have n5_ := am_ (b2_ HB.out)
             clear HO_8; clear HO_10; clear HO394; clear BK368; clear HR391; clear HB; have HO_8 := n0_; have HO_10 := n1_; have HO394 := n2_; have BK368 := n3_; have HR391 := n4_; have HB := n5_; clear n0_ n1_ n2_ n3_ n4_ n5_
             obtain ⟨Ao79, co79, eo79⟩ := Kd.R_slice HO394.out
             (first | subst eo79 | (injection eo79 with f1_ f2_ f3_; have f4_ := f1_.symm; have f5_ := f3_.symm; clear f1_ f2_ f3_; subst f4_; subst f5_))
             refine start_ (n := 13) (S := fun w' => w'.cell? ⟨gb368, 0, none⟩ = some (.int .i64 ((rd_T70 l1 x27_1).f0)) ∧ w'.cell? ⟨gb368, 1, none⟩ = some (.slice A367_1 ((rd_T70 l1 x27_1).f1).length c367_1) ∧ w'.cell? ⟨gb368, 2, none⟩ = some (.slice A367_2 ((rd_T70 l1 x27_1).f2).length c367_2)) (ds := []) Z2.D1 (by kernel_rfl) rfl rfl ⟨(blk_cell BK368.out 0).trans rfl, (blk_cell BK368.out 1).trans rfl, (blk_cell BK368.out 2).trans rfl⟩ (fun hHeld => ?_); refine with_tabW Z2.tab26 Z2.bits26 (fun HT_ HW_ => ?_)
             generalize w77.drew = w78 at HO_8 HO_10 HO394 BK368 HR391 HB hHeld ⊢
             refine px_ 0 113 ?_ ?_ Z2.D3 HT_.out ?_ ?_ ?_; rotate_left 2; intro w'; go_simp; with_reducible rfl; simp only [Act.put, s_t, s_z, s_s, i64_w, i32_w]; rfl
             refine px_ 1 114 ?_ ?_ Z2.D7 HT_.out ?_ ?_ ?_; rotate_left 2; intro w'; go_simp; with_reducible rfl; simp only [Act.put, s_t, s_z, s_s, i64_w, i32_w]; rfl
             refine px_ 2 115 ?_ ?_ Z2.D8 HT_.out ?_ ?_ ?_; rotate_left 2; intro w'; go_simp; with_reducible rfl; simp only [Act.put, s_t, s_z, s_s, i64_w, i32_w]; rfl
             refine px_ 3 116 ?_ ?_ Z2.D10 HT_.out ?_ ?_ ?_; rotate_left 2; intro w'; go_simp; with_reducible rfl; simp only [Act.put, s_t, s_z, s_s, i64_w, i32_w]; rfl
             refine px_ 6 119 ?_ ?_ Z2.D11 HT_.out ?_ ?_ ?_; rotate_left 2; intro w'; go_simp; with_reducible rfl; simp only [Act.put, s_t, s_z, s_s, i64_w, i32_w]; rfl
             refine take_ (i := 4) (N := some 117) (v := ?_) (a' := ?_) Z2.D13 rfl rfl (take_ofW HT_.out HW_.out (by kernel_rfl)) (fun _ _ _ h => h) (Or.inl ⟨by rfl, ?_⟩) hHeld ?_ ?_
             rotate_left
             ·rintro w' ⟨s0, s1, s2⟩
              go_simp
              with_reducible rfl
             rotate_left
             ·simp only [Act.put, s_t, s_z, s_s, i64_w, i32_w]
              rfl
             refine take_ (i := 7) (N := some 120) (v := ?_) (a' := ?_) Z2.D15 rfl rfl (take_ofW HT_.out HW_.out (by kernel_rfl)) (fun _ _ _ h => h) (Or.inl ⟨by rfl, ?_⟩) hHeld ?_ ?_
             rotate_left
             ·rintro w' ⟨s0, s1, s2⟩
              go_simp
              with_reducible rfl
             rotate_left
             ·simp only [Act.put, s_t, s_z, s_s, i64_w, i32_w]
              rfl
             refine one_ (i := 5) (N := some 118) Z2.D17 rfl rfl (one_of HT_.out (by kernel_rfl)) (by decide) (fun K hK => ?_)
             refine goes_ Tryz.func29 (by kernel_rfl) rfl #[.slice A367_2 ((rd_T70 l1 x27_1).f2).length c367_2] (by rfl) rfl rfl gl_ ?_
             with_reducible refine (Z14.calls _ _ ((rd_T70 l1 x27_1).f2) t395 _ ?side1 ?side2 A70.out).mono ?_
             (case side1 => repeat (first | exact (Kd.C_below HR367_2.out HB.out) | (with_reducible refine Kd.C_alloc ?_ _) | (with_reducible refine Kd.C_drewN ?_ _) | (with_reducible refine Kd.C_drew ?_)))
             (case side2 => exact HC367_2.out)
             rintro e w80 ⟨v396, rfl, ho0, hb⟩
             refine ⟨_, rfl, ?_⟩
             have n0_ := am_ (Kd.R_elder' (rr_ HO_8.out) (Kd.R_base ho0) hb)
             have n1_ := am_ (Kd.S_elder' (by (with_reducible repeat (first | apply q1_ | apply q2_ | apply q3_)); exact HO_10.out) (Kd.R_base ho0) hb)
             have n2_ := am_ (Kd.R_elder' (rr_ HO394.out) (Kd.R_base ho0) hb)
             have n3_ := am_ (Kd.R_lower (Kd.R_new' (Kd.R_new' ho0 (Kd.R_lt (rr_ HO_8.out))) (Kd.R_lt (rr_ HO394.out))) (below_size (bs_ HB.out GE368.out)))
             have n4_ := am_ (blk_below (g := gb368) (o := .cells #[.int .i64 ((rd_T70 l1 x27_1).f0), .slice A367_1 ((rd_T70 l1 x27_1).f1).length c367_1, .slice A367_2 ((rd_T70 l1 x27_1).f2).length c367_2] 70 (0, 0)) (bk_ BK368.out) hb)
             have n5_ := am_ (Kd.C_below (by repeat (first | (with_reducible first | exact HR391.out | refine Kd.C_alloc ?_ _ | refine Kd.C_drewN ?_ _ | refine Kd.C_drew ?_) | exact HR391.out)) hb)
             have n6_ := am_ (below_step (bs_ HB.out GE368.out) hb)
             clear HO_8; clear HO_10; clear HO394; clear BK368; clear HR391; clear HB; have HO_8 := n0_; have HO_10 := n1_; have HO394 := n2_; have HO397 := n3_; have BK368 := n4_; have HR391 := n5_; have HB := n6_; clear n0_ n1_ n2_ n3_ n4_ n5_ n6_
             (try clear hb)
             (try clear hb2)
             (try clear hk)
             (try clear hi)
             (try clear ho0)
             refine hK.out _ _ ⟨(blk_cell BK368.out 0).trans rfl, (blk_cell BK368.out 1).trans rfl, (blk_cell BK368.out 2).trans rfl⟩ (fun hHeld => ?_)
             clear hK K
             refine norm_ (a' := ?_) ?_ ?_
             rotate_left
             ·show Act.put _ (some 118) _ = _
              simp only [Act.put, s_t, s_z, s_s, i64_w, i32_w]
              rfl
             refine one_ (i := 8) (N := some 121) Z2.D19 rfl rfl (one_of HT_.out (by kernel_rfl)) (by decide) (fun K hK => ?_)
             refine goes_ Tryz.func29 (by kernel_rfl) rfl #[.slice A367_1 ((rd_T70 l1 x27_1).f1).length c367_1] (by rfl) rfl rfl gl_ ?_
             with_reducible refine (Z14.calls _ _ ((rd_T70 l1 x27_1).f1) t398 _ ?side1 ?side2 A71.out).mono ?_
             (case side1 => repeat (first | exact (Kd.C_below HR367_1.out HB.out) | (with_reducible refine Kd.C_alloc ?_ _) | (with_reducible refine Kd.C_drewN ?_ _) | (with_reducible refine Kd.C_drew ?_)))
             (case side2 => exact HC367_1.out)
             rintro e w81 ⟨v399, rfl, ho0, hb⟩
             refine ⟨_, rfl, ?_⟩
             have n0_ := am_ (Kd.R_elder' (rr_ HO_8.out) (Kd.R_base ho0) hb)
             have n1_ := am_ (Kd.S_elder' (by (with_reducible repeat (first | apply q1_ | apply q2_ | apply q3_)); exact HO_10.out) (Kd.R_base ho0) hb)
             have n2_ := am_ (Kd.R_elder' (rr_ HO394.out) (Kd.R_base ho0) hb)
             have n3_ := am_ (Kd.R_elder' (rr_ HO397.out) (Kd.R_base ho0) hb)
             have n4_ := am_ (Kd.R_lower (Kd.R_new' (Kd.R_new' (Kd.R_new' ho0 (Kd.R_lt (rr_ HO_8.out))) (Kd.R_lt (rr_ HO394.out))) (Kd.R_lt (rr_ HO397.out))) (below_size (bs_ HB.out GE368.out)))
             have n5_ := am_ (blk_below (g := gb368) (o := .cells #[.int .i64 ((rd_T70 l1 x27_1).f0), .slice A367_1 ((rd_T70 l1 x27_1).f1).length c367_1, .slice A367_2 ((rd_T70 l1 x27_1).f2).length c367_2] 70 (0, 0)) (bk_ BK368.out) hb)
             have n6_ := am_ (Kd.C_below (by repeat (first | (with_reducible first | exact HR391.out | refine Kd.C_alloc ?_ _ | refine Kd.C_drewN ?_ _ | refine Kd.C_drew ?_) | exact HR391.out)) hb)
             have n7_ := am_ (below_step (bs_ HB.out GE368.out) hb)
             clear HO_8; clear HO_10; clear HO394; clear HO397; clear BK368; clear HR391; clear HB; have HO_8 := n0_; have HO_10 := n1_; have HO394 := n2_; have HO397 := n3_; have HO400 := n4_; have BK368 := n5_; have HR391 := n6_; have HB := n7_; clear n0_ n1_ n2_ n3_ n4_ n5_ n6_ n7_
             (try clear hb)
             (try clear hb2)
             (try clear hk)
             (try clear hi)
             (try clear ho0)
             obtain ⟨Ao82, co82, eo82⟩ := Kd.R_slice HO400.out
             (first | subst eo82 | (injection eo82 with f1_ f2_ f3_; have f4_ := f1_.symm; have f5_ := f3_.symm; clear f1_ f2_ f3_; subst f4_; subst f5_))
             obtain ⟨Ao83, co83, eo83⟩ := Kd.R_slice HO397.out
             (first | subst eo83 | (injection eo83 with f1_ f2_ f3_; have f4_ := f1_.symm; have f5_ := f3_.symm; clear f1_ f2_ f3_; subst f4_; subst f5_))
             refine hK.out _ _ ⟨(blk_cell BK368.out 0).trans rfl, (blk_cell BK368.out 1).trans rfl, (blk_cell BK368.out 2).trans rfl⟩ (fun hHeld => ?_)
             clear hK K
             refine norm_ (a' := ?_) ?_ ?_
             rotate_left
             ·show Act.put _ (some 121) _ = _
              simp only [Act.put, s_t, s_z, s_s, i64_w, i32_w]
              rfl
             refine px_ 9 122 ?_ ?_ Z2.D21 HT_.out ?_ ?_ ?_; rotate_left 2; intro w'; go_simp; with_reducible rfl; simp only [Act.put, s_t, s_z, s_s, i64_w, i32_w]; rfl
             refine one_ (i := 10) (N := some 123) Z2.D23 rfl rfl (one_of HT_.out (by kernel_rfl)) (by decide) (fun K hK => ?_)
             refine value_ (w1 := ?_) (v := ?_) (by rfl) rfl ?_ ?_
             rotate_left 2
             ·go_simp
              constructor
              ·rfl
              ·rfl
             refine hK.out _ _ ⟨(blk_cell (blk_alloc BK368.out _) 0).trans rfl, (blk_cell (blk_alloc BK368.out _) 1).trans rfl, (blk_cell (blk_alloc BK368.out _) 2).trans rfl⟩ (fun hHeld => ?_)
             clear hK K
             refine norm_ (a' := ?_) ?_ ?_
             rotate_left
             ·show Act.put _ (some 123) _ = _
              simp only [Act.put, s_t, s_z, s_s, i64_w, i32_w]
              rfl
             refine one_ (i := 11) (N := some 124) Z2.D28 rfl rfl (one_of HT_.out (by kernel_rfl)) (by decide) (fun K hK => ?_)
             refine Kd.S_append_step k70 (w0 := w) w.heap.size (by rfl) (.tmp 113) (.tmp 123) 42 70 (.agg #[(.int .i64 0), (.slice none 0 0), (.slice none 0 0)]) 56 rfl Tryz.underlying42 info70 rfl (by decide) (by omega) u10 x10_1 (⟨(y392.length : Int), t395, t398⟩ : S70) [.int .i64 (y392.length : Int), .slice Ao83 t395.length co83, .slice Ao82 t398.length co82] (fun k_ => some k_ ≠ (.slice Ao76 t356.length co76 : Value).ownBlock ∧ some k_ ≠ (.slice Ao79 y392.length co79 : Value).ownBlock ∧ k_ ≠ gb368) (fun k_ => some k_ = (.slice Ao83 t395.length co83 : Value).ownBlock ∨ some k_ = (.slice Ao82 t398.length co82 : Value).ownBlock) rfl rfl ?aP (fun k_ hk_ => hk_.elim (fun h_ => ((Kd.R_mono (ok' := fun k_ => ((fun k_ => some k_ ≠ (.slice Ao76 t356.length co76 : Value).ownBlock ∧ some k_ ≠ (.slice Ao79 y392.length co79 : Value).ownBlock ∧ k_ ≠ gb368)) k_ ∧ some k_ ≠ (u10 : Value).ownBlock) (Kd.R_types (Kd.R_apart' (HO397.out) (Kd.S_typed HO_10.out) (by decide)) BK368.out (by decide)) (fun k_ hk => ⟨⟨hk.1.1.1.1.2, ⟨hk.1.1.1.2, hk.2⟩⟩, hk.1.2⟩))).1 k_ h_.symm) (fun h_ => ((Kd.R_mono (ok' := fun k_ => ((fun k_ => some k_ ≠ (.slice Ao76 t356.length co76 : Value).ownBlock ∧ some k_ ≠ (.slice Ao79 y392.length co79 : Value).ownBlock ∧ k_ ≠ gb368)) k_ ∧ some k_ ≠ (u10 : Value).ownBlock) (Kd.R_types (Kd.R_apart' (HO400.out) (Kd.S_typed HO_10.out) (by decide)) BK368.out (by decide)) (fun k_ hk => ⟨⟨hk.1.1.1.1.2, ⟨hk.1.1.1.2, hk.2⟩⟩, hk.1.2⟩))).1 k_ h_.symm)) ?aF ?aO ?aB ?aS ?aL ?_
             (case aP => exact k70_mkM _ _ _ (⟨(y392.length : Int), t395, t398⟩ : S70) (Kd.R_mono (Kd.R_tight rfl (Kd.R_mono (ok' := fun k_ => ((fun k_ => some k_ ≠ (.slice Ao76 t356.length co76 : Value).ownBlock ∧ some k_ ≠ (.slice Ao79 y392.length co79 : Value).ownBlock ∧ k_ ≠ gb368)) k_ ∧ some k_ ≠ (u10 : Value).ownBlock) (Kd.R_types (Kd.R_apart' (HO397.out) (Kd.S_typed HO_10.out) (by decide)) BK368.out (by decide)) (fun k_ hk => ⟨⟨hk.1.1.1.1.2, ⟨hk.1.1.1.2, hk.2⟩⟩, hk.1.2⟩))) (fun _ h_ => Or.inl h_)) (Kd.R_mono (Kd.R_tight rfl (Kd.R_mono (ok' := fun k_ => ((fun k_ => some k_ ≠ (.slice Ao76 t356.length co76 : Value).ownBlock ∧ some k_ ≠ (.slice Ao79 y392.length co79 : Value).ownBlock ∧ k_ ≠ gb368)) k_ ∧ some k_ ≠ (u10 : Value).ownBlock) (Kd.R_types (Kd.R_apart' (HO400.out) (Kd.S_typed HO_10.out) (by decide)) BK368.out (by decide)) (fun k_ hk => ⟨⟨hk.1.1.1.1.2, ⟨hk.1.1.1.2, hk.2⟩⟩, hk.1.2⟩))) (fun _ h_ => Or.inr (h_))))
             (case aB => exact (bs_ HB.out GE368.out))
             (case aF => exact (fun k_ hk => ⟨Kd.fresh' (Kd.R_lt (rr_ HO_8.out)) k_ hk, Kd.fresh' (Kd.R_lt (rr_ HO394.out)) k_ hk, Kd.freshB (g := gb368) (o := .cells #[.int .i64 ((rd_T70 l1 x27_1).f0), .slice A367_1 ((rd_T70 l1 x27_1).f1).length c367_1, .slice A367_2 ((rd_T70 l1 x27_1).f2).length c367_2] 70 (0, 0)) (bk_ BK368.out) k_ hk⟩))
             (case aO => exact (by (with_reducible repeat (first | apply q1_ | apply q2_ | apply q3_)); exact Kd.S_mono HO_10.out (fun k_ hk => ⟨⟨hk.1.1.1.1, ⟨hk.1.1.2, hk.1.1.1.2⟩⟩, fun e_ => e_.elim (fun h_ => hk.1.2 h_) (fun h_ => hk.2 h_)⟩)))
             (case aS => exact (below_size (bs_ HB.out GE368.out)))
             (case aL => have := LMc72.out; omega)
             intro v402 w84 ho hb hg hat
             rw [← Ny401.out] at ho
             have n0_ := am_ (Kd.R_over' (rr_ HO_8.out) (Kd.S_typed (by (with_reducible repeat (first | apply q1_ | apply q2_ | apply q3_)); exact HO_10.out)) (by decide) hg)
             have n1_ := am_ (blk_grown (g := gb368) (o := .cells #[.int .i64 ((rd_T70 l1 x27_1).f0), .slice A367_1 ((rd_T70 l1 x27_1).f1).length c367_1, .slice A367_2 ((rd_T70 l1 x27_1).f2).length c367_2] 70 (0, 0)) (bk_ BK368.out) hg (Kd.S_away HO_10.out (fun _ hk => hk.1.1.1.2)))
             have n2_ := am_ (Kd.R_over' (rr_ HO394.out) (Kd.S_typed (by (with_reducible repeat (first | apply q1_ | apply q2_ | apply q3_)); exact HO_10.out)) (by decide) hg)
             have n3_ := am_ (hb)
             have n4_ := am_ ((show Kd.C Kd.string w84 A75 y388.length y388 from by rw [Ny388.out, KA75.out]; exact Kd.C_mid (lo := (x11_1 : Int).toNat) (hi := (((rd_T70 l1 x27_1).f0) : Int).toNat) (c := co76) ((Kd.R_reads' (Kd.R_over' (rr_ HO_8.out) (Kd.S_typed (by (with_reducible repeat (first | apply q1_ | apply q2_ | apply q3_)); exact HO_10.out)) (by decide) hg)).2.2) KM75.out KL75.out ((Kd.R_reads' (Kd.R_over' (rr_ HO_8.out) (Kd.S_typed (by (with_reducible repeat (first | apply q1_ | apply q2_ | apply q3_)); exact HO_10.out)) (by decide) hg)).2.1)))
             have n5_ := am_ (ho)
             clear HO_8; clear BK368; clear HO394; clear HB; clear HR391; clear HO_10; clear HO397; clear HO400; have HO_8 := n0_; have BK368 := n1_; have HO394 := n2_; have HB := n3_; have HR391 := n4_; have HO403 := n5_; clear n0_ n1_ n2_ n3_ n4_ n5_; clear ho hb hg hat
             refine hK.out _ _ ⟨(blk_cell BK368.out 0).trans rfl, (blk_cell BK368.out 1).trans rfl, (blk_cell BK368.out 2).trans rfl⟩ (fun hHeld => ?_)
             clear hK K
             refine norm_ (a' := ?_) ?_ ?_
             rotate_left
             ·show Act.put _ (some 124) _ = _
              simp only [Act.put, s_t, s_z, s_s, i64_w, i32_w]
              rfl
             refine px_ 12 10 ?_ ?_ Z2.D47 HT_.out ?_ ?_ ?_; rotate_left 2; intro w'; go_simp; with_reducible rfl; simp only [Act.put, s_t, s_z, s_s, i64_w, i32_w]; rfl
             refine done_ (done_of HT_.out (by kernel_rfl)) ?_
             have hcz85_0 : w84.cell? ⟨gb368, 0, none⟩ = some (.int .i64 ((rd_T70 l1 x27_1).f0)) := (blk_cell BK368.out 0).trans rfl
             have hcz85_1 : w84.cell? ⟨gb368, 1, none⟩ = some (.slice A367_1 ((rd_T70 l1 x27_1).f1).length c367_1) := (blk_cell BK368.out 1).trans rfl
             have hcz85_2 : w84.cell? ⟨gb368, 2, none⟩ = some (.slice A367_2 ((rd_T70 l1 x27_1).f2).length c367_2) := (blk_cell BK368.out 2).trans rfl
             have hfz85_0 := blk_frozen BK368.out 0
             have hfz85_1 := blk_frozen BK368.out 1
             have hfz85_2 := blk_frozen BK368.out 2
             try go_wp2_with (first | ((with_reducible refine gate_builtin (b := .append) (xs := #[.tmp 125, .tmp 127]) rfl ?_); (try (refine gate_guard (by rfl) ?_; dsimp only)); at_builtin; refine Kd.R_append_rows Kd.string (w0 := w) w.heap.size rfl (.tmp 125) (.tmp 127) 27 9 (.string ⟨#[]⟩) 16 rfl Tryz.underlying27 info9 rfl (by decide) (by omega) (.slice Ao79 y392.length co79) y392 ((rd_T70 l1 x27_1).f2) _ _ _ (fun k_ => some k_ ≠ (.slice Ao76 t356.length co76 : Value).ownBlock) (fun _ => False) rfl rfl ?aO ?aR (fun _ _ h => h) (fun _ h => h.elim) ?aF ?aB ?aS ?aL ?_; (case aR => repeat (first | exact (Kd.C_below HR367_2.out HB.out) | (with_reducible refine Kd.C_alloc ?_ _) | (with_reducible refine Kd.C_drewN ?_ _) | (with_reducible refine Kd.C_drew ?_))); (case aB => exact (bs_ HB.out GE368.out)); (case aF => exact (fun k_ hk => Kd.fresh' (Kd.R_lt (rr_ HO_8.out)) k_ hk)); (case aO => exact (by (with_reducible repeat (first | apply r1_ | apply r2_ | apply r3_)); exact Kd.R_mono HO394.out (fun _ hk => hk.1.1))); (case aS => exact (below_size (bs_ HB.out GE368.out))); (case aL => have := LMc73.out; omega); intro v405 w86 ho hb hg hat; rw [← Ny404.out] at ho; have n0_ := am_ (Kd.R_after (ok := (fun _ => True)) (by (with_reducible repeat (first | apply r1_ | apply r2_ | apply r3_)); exact Kd.R_mono HO_8.out (fun _ hk => ⟨trivial, hk.1.1.2⟩)) hg hat); have n1_ := am_ (blk_grown (g := gb368) (o := .cells #[.int .i64 ((rd_T70 l1 x27_1).f0), .slice A367_1 ((rd_T70 l1 x27_1).f1).length c367_1, .slice A367_2 ((rd_T70 l1 x27_1).f2).length c367_2] 70 (0, 0)) (bk_ BK368.out) hg (Kd.R_ne HO394.out BK368.out (by decide))); have n2_ := am_ (Kd.S_after (ok := (fun k_ => some k_ ≠ (.slice Ao76 t356.length co76 : Value).ownBlock ∧ k_ ≠ gb368)) (by (with_reducible repeat (first | apply q1_ | apply q2_ | apply q3_)); exact Kd.S_mono HO403.out (fun _ hk => ⟨⟨hk.1, hk.2.2⟩, hk.2.1⟩)) hg hat); have n3_ := am_ (hb); have n4_ := am_ ((show Kd.C Kd.string w86 A75 y388.length y388 from by rw [Ny388.out, KA75.out]; exact Kd.C_mid (lo := (x11_1 : Int).toNat) (hi := (((rd_T70 l1 x27_1).f0) : Int).toNat) (c := co76) ((Kd.R_reads' (Kd.R_after (ok := (fun _ => True)) (by (with_reducible repeat (first | apply r1_ | apply r2_ | apply r3_)); exact Kd.R_mono HO_8.out (fun _ hk => ⟨trivial, hk.1.1.2⟩)) hg hat)).2.2) KM75.out KL75.out ((Kd.R_reads' (Kd.R_after (ok := (fun _ => True)) (by (with_reducible repeat (first | apply r1_ | apply r2_ | apply r3_)); exact Kd.R_mono HO_8.out (fun _ hk => ⟨trivial, hk.1.1.2⟩)) hg hat)).2.1))); have n5_ := am_ (ho); clear HO_8; clear BK368; clear HO403; clear HB; clear HR391; clear HO394; have HO_8 := n0_; have BK368 := n1_; have HO403 := n2_; have HB := n3_; have HR391 := n4_; have HO406 := n5_; clear n0_ n1_ n2_ n3_ n4_ n5_; clear ho hb hg hat; have hcz87_0 : w86.cell? ⟨gb368, 0, none⟩ = some (.int .i64 ((rd_T70 l1 x27_1).f0)) := (blk_cell BK368.out 0).trans rfl; have hcz87_1 : w86.cell? ⟨gb368, 1, none⟩ = some (.slice A367_1 ((rd_T70 l1 x27_1).f1).length c367_1) := (blk_cell BK368.out 1).trans rfl; have hcz87_2 : w86.cell? ⟨gb368, 2, none⟩ = some (.slice A367_2 ((rd_T70 l1 x27_1).f2).length c367_2) := (blk_cell BK368.out 2).trans rfl; have hfz87_0 := blk_frozen BK368.out 0; have hfz87_1 := blk_frozen BK368.out 1; have hfz87_2 := blk_frozen BK368.out 2))
             go_roundg kj53
             case measure => have := HK1.out; have := HJ13.out; have := HK3.out; have := HJ53.out; omega
             case rel => exact ⟨(y404), (y401), (wrap64 (((rd_T70 l1 x27_1).f0) + (((rd_T70 l1 x27_1).f1).length : Int))), (wrap64 (x27_1 + 1)), tr_, tr_, H', ⟨by have := HK1.out; have := HJ13.out; have := HK3.out; have := HJ53.out; omega⟩, ⟨by (with_reducible repeat (first | apply r1_ | apply r2_ | apply r3_)); exact Kd.R_mono HO_8.out (fun _ hk => hk.2)⟩, ⟨rr_ HO406.out⟩, ⟨by (with_reducible repeat (first | apply q1_ | apply q2_ | apply q3_)); exact Kd.S_mono HO403.out (fun _ hk => ⟨hk.1.1, hk.2⟩)⟩, ⟨bs_ HB.out GE368.out⟩⟩
    ·rw [if_neg c11] at H
     have c11b0 : decide (x27_1 < (l1.length : Int)) = false := decide_eq_false c11
     clear c11
     by_cases c88 : 0 ≤ x11_1
     case neg => exact (nn_ c88 H).elim
     rw [if_pos c88] at H; have c88b0 := eq_true c88; have c88b1 := decide_eq_true c88; clear c88
     by_cases c89 : x11_1 ≤ (t356.length : Int)
     case neg => exact (nn_ c89 H).elim
     rw [if_pos c89] at H; have c89b0 := eq_true c89; have c89b1 := decide_eq_true c89; clear c89
     obtain ⟨y359, hy359⟩ : ∃ y_ : List ByteArray, y_ = (t356.drop (x11_1 : Int).toNat) := ⟨_, rfl⟩
     replace H : (if x9_1.length + y359.length < 8796093022208 then ((Z39.f (x9_1 ++ y359)).bind fun t366 => (if (t366.size : Int) > 20000 then (some ((⟨#[]⟩ : ByteArray), ([] : List (S70)), 2)) else (some (t366, x10_1, 0)))) else (none)) = some (r1, r2, r3) := by first | (rw [hy359]; with_reducible exact H) | (have H2_ := (Option.bind_some _ _).symm.trans H; rw [hy359]; with_reducible exact H2_) | (have H2_ := (Option.bind_some _ _).symm.trans H; with_reducible exact H2_) | with_reducible exact H | (rw [hy359]; exact H) | exact H
     have Ny359 := am_ hy359; clear hy359
     by_cases c90 : x9_1.length + y359.length < 8796093022208
     case neg => exact (nn_ c90 H).elim
     rw [if_pos c90] at H; have LMc90 := am_ c90; clear c90
     obtain ⟨y363, hy363⟩ : ∃ y_ : List ByteArray, y_ = (x9_1 ++ y359) := ⟨_, rfl⟩
     replace H : ((Z39.f y363).bind fun t366 => (if (t366.size : Int) > 20000 then (some ((⟨#[]⟩ : ByteArray), ([] : List (S70)), 2)) else (some (t366, x10_1, 0)))) = some (r1, r2, r3) := by first | (rw [hy363]; with_reducible exact H) | (have H2_ := (Option.bind_some _ _).symm.trans H; rw [hy363]; with_reducible exact H2_) | (have H2_ := (Option.bind_some _ _).symm.trans H; with_reducible exact H2_) | with_reducible exact H | (rw [hy363]; exact H) | exact H
     have Ny363 := am_ hy363; clear hy363; replace H := Option.bind_eq_some_iff.mp H; obtain ⟨t366, A910, H⟩ := H; have A91 := am_ A910; clear A910
     by_cases c92 : (t366.size : Int) > 20000
     ·rw [if_pos c92] at H
      have c92b0 : decide (20000 < (t366.size : Int)) = true := decide_eq_true c92
      have c92b1 : decide (20000 < t366.size) = true := decide_eq_true (by omega)
      clear c92
      simp only [Option.some.injEq, Prod.mk.injEq] at H
      obtain ⟨rfl, rfl, rfl⟩ := H
      obtain ⟨Ao94, co94, eo94⟩ := Kd.R_slice HO_8.out
      subst eo94; have q93 : (x11_1 : Int) ≤ ((t356.length : Int) : Int) := ode_
      obtain ⟨i093, hi093, _, hsz93, _⟩ := info_parts info9
      have hroom93 : t356.length ≤ co94 := (Kd.R_reads' HO_8.out).2.1
      have hC93 : Kd.C Kd.string _ Ao94 t356.length t356 := (Kd.R_reads' HO_8.out).2.2
      have q093 : (0 : Int) ≤ (x11_1 : Int) := ode_
      have hcut93 := cut_from (P := Tryz.prog) 27 9 .i64 Tryz.underlying27 hi093 1 hsz93 Ao94 t356.length co94 x11_1 q093 q93
      have hr93 := Kd.C_drop (m := (x11_1 : Int).toNat) (c := co94) hC93 (by omega) hroom93
      obtain ⟨A93, hA93⟩ : ∃ A1, A1 = (if co94 = (x11_1 : Int).toNat then Ao94 else (Ao94 : Option Addr).map (·.add ((x11_1 : Int).toNat * 1))) := ⟨_, rfl⟩
      obtain ⟨c93, hc93⟩ : ∃ c1, c1 = co94 - (x11_1 : Int).toNat := ⟨_, rfl⟩
      have hy93 : y359.length = t356.length - (x11_1 : Int).toNat := (by rw [Ny359.out, List.length_drop] <;> omega)
      rw [show (t356).drop (x11_1 : Int).toNat = y359 from Ny359.out.symm] at hr93
      replace hr93 : Kd.C Kd.string _ A93 y359.length y359 := (by rw [hA93]; exact hr93)
      rw [← hy93, ← hA93, ← hc93] at hcut93
      have HR362 := am_ hr93
      have HC362 := am_ (show y359.length ≤ c93 from by rw [hy93, hc93]; exact Nat.sub_le_sub_right hroom93 _)
      clear hr93 hC93 hroom93 hi093 hsz93 hc93; have KY93 := am_ hy93; have KA93 := am_ hA93; clear hy93 hA93
      have KL93 := am_ (show (x11_1 : Int).toNat ≤ t356.length from by omega)
      replace q93 := eq_true q93
      go_wp2_with (first | ((with_reducible refine gate_builtin (b := .append) (xs := #[.tmp 136, .tmp 139]) rfl ?_); (try (refine gate_guard (by rfl) ?_; dsimp only)); at_builtin; refine Kd.R_append_rows Kd.string (w0 := w) w.heap.size rfl (.tmp 136) (.tmp 139) 27 9 (.string ⟨#[]⟩) 16 rfl Tryz.underlying27 info9 rfl (by decide) (by omega) u9 x9_1 y359 _ _ _ (fun k_ => some k_ ≠ (.slice Ao94 t356.length co94 : Value).ownBlock) (fun _ => False) rfl rfl ?aO ?aR (fun _ _ h => h) (fun _ h => h.elim) ?aF ?aB ?aS ?aL ?_; (case aR => repeat (first | exact (by repeat (first | (with_reducible first | exact HR362.out | refine Kd.C_alloc ?_ _ | refine Kd.C_drewN ?_ _ | refine Kd.C_drew ?_) | exact HR362.out)) | (with_reducible refine Kd.C_alloc ?_ _) | (with_reducible refine Kd.C_drewN ?_ _) | (with_reducible refine Kd.C_drew ?_))); (case aB => exact (bw_ HB.out)); (case aF => exact (fun k_ hk => Kd.fresh' (Kd.R_lt (rr_ HO_8.out)) k_ hk)); (case aO => exact (rr_ HO_9.out)); (case aS => exact (below_size (bw_ HB.out))); (case aL => have := LMc90.out; omega); intro v364 w95 ho hb hg hat; rw [← Ny363.out] at ho; have n0_ := am_ (Kd.R_after (ok := (fun _ => True)) (by (with_reducible repeat (first | apply r1_ | apply r2_ | apply r3_)); exact Kd.R_mono HO_8.out (fun _ hk => ⟨trivial, hk⟩)) hg hat); have n1_ := am_ (Kd.S_after (ok := (fun k_ => some k_ ≠ (.slice Ao94 t356.length co94 : Value).ownBlock)) (by (with_reducible repeat (first | apply q1_ | apply q2_ | apply q3_)); exact HO_10.out) hg hat); have n2_ := am_ (hb); have n3_ := am_ ((show Kd.C Kd.string w95 A93 y359.length y359 from by rw [Ny359.out, KA93.out]; exact Kd.C_drop (m := (x11_1 : Int).toNat) (c := co94) ((Kd.R_reads' (Kd.R_after (ok := (fun _ => True)) (by (with_reducible repeat (first | apply r1_ | apply r2_ | apply r3_)); exact Kd.R_mono HO_8.out (fun _ hk => ⟨trivial, hk⟩)) hg hat)).2.2) KL93.out ((Kd.R_reads' (Kd.R_after (ok := (fun _ => True)) (by (with_reducible repeat (first | apply r1_ | apply r2_ | apply r3_)); exact Kd.R_mono HO_8.out (fun _ hk => ⟨trivial, hk⟩)) hg hat)).2.1))); have n4_ := am_ (ho); clear HO_8; clear HO_10; clear HB; clear HR362; clear HO_9; have HO_8 := n0_; have HO_10 := n1_; have HB := n2_; have HR362 := n3_; have HO365 := n4_; clear n0_ n1_ n2_ n3_ n4_; clear ho hb hg hat; obtain ⟨Ao96, co96, eo96⟩ := Kd.R_slice HO365.out; subst eo96) | ((with_reducible refine gate_callee (f := 87) rfl ?_); refine goesL_ (some 141) rfl rfl Tryz.func87 (by kernel_rfl) rfl #[.slice Ao96 y363.length co96] rfl gl_ ?_; (with_reducible refine (Z39.calls _ _ y363 t366 _ ?side1 ?side2 A91.out).mono ?_); (case side1 => exact cc_ (Kd.R_reads' HO365.out).2.2); (case side2 => exact (Kd.R_reads' HO365.out).2.1); rintro e w97 ⟨rfl, hb⟩; refine ⟨_, rfl, ?_⟩; have n0_ := am_ (Kd.R_below (rr_ HO_8.out) hb); have n1_ := am_ (Kd.S_below (by (with_reducible repeat (first | apply q1_ | apply q2_ | apply q3_)); exact HO_10.out) hb); have n2_ := am_ (Kd.R_below (rr_ HO365.out) hb); have n3_ := am_ (Kd.C_below (by repeat (first | (with_reducible first | exact HR362.out | refine Kd.C_alloc ?_ _ | refine Kd.C_drewN ?_ _ | refine Kd.C_drew ?_) | exact HR362.out)) hb); have n4_ := am_ (below_step (bw_ HB.out) hb); clear HO_8; clear HO_10; clear HO365; clear HR362; clear HB; have HO_8 := n0_; have HO_10 := n1_; have HO365 := n2_; have HR362 := n3_; have HB := n4_; clear n0_ n1_ n2_ n3_ n4_; (try clear hb); (try clear hb2); (try clear hk); (try clear hi)))
      go_ret3
      exact ⟨_, by first | rfl | (simp [errW_none, errW_some] <;> rfl) | (simp [*, errW_none, errW_some] <;> rfl), by first | exact Kd.S_nil _ _ _ _ _ | exact Kd.N_nil _ _ _ _ _ | exact Kd.V_nil _ _ _ _ _ | exact Kd.Q_nil _ _ _ _ _ | exact Kd.R_nil _ _ _ _ _, bw_ HB.out⟩
     ·rw [if_neg c92] at H
      have c92b0 : decide (20000 < (t366.size : Int)) = false := decide_eq_false c92
      have c92b1 : decide (20000 < t366.size) = false := decide_eq_false (by omega)
      clear c92
      simp only [Option.some.injEq, Prod.mk.injEq] at H
      obtain ⟨rfl, rfl, rfl⟩ := H
      obtain ⟨Ao99, co99, eo99⟩ := Kd.R_slice HO_8.out
      subst eo99; have q98 : (x11_1 : Int) ≤ ((t356.length : Int) : Int) := ode_
      obtain ⟨i098, hi098, _, hsz98, _⟩ := info_parts info9
      have hroom98 : t356.length ≤ co99 := (Kd.R_reads' HO_8.out).2.1
      have hC98 : Kd.C Kd.string _ Ao99 t356.length t356 := (Kd.R_reads' HO_8.out).2.2
      have q098 : (0 : Int) ≤ (x11_1 : Int) := ode_
      have hcut98 := cut_from (P := Tryz.prog) 27 9 .i64 Tryz.underlying27 hi098 1 hsz98 Ao99 t356.length co99 x11_1 q098 q98
      have hr98 := Kd.C_drop (m := (x11_1 : Int).toNat) (c := co99) hC98 (by omega) hroom98
      obtain ⟨A98, hA98⟩ : ∃ A1, A1 = (if co99 = (x11_1 : Int).toNat then Ao99 else (Ao99 : Option Addr).map (·.add ((x11_1 : Int).toNat * 1))) := ⟨_, rfl⟩
      obtain ⟨c98, hc98⟩ : ∃ c1, c1 = co99 - (x11_1 : Int).toNat := ⟨_, rfl⟩
      have hy98 : y359.length = t356.length - (x11_1 : Int).toNat := (by rw [Ny359.out, List.length_drop] <;> omega)
      rw [show (t356).drop (x11_1 : Int).toNat = y359 from Ny359.out.symm] at hr98
      replace hr98 : Kd.C Kd.string _ A98 y359.length y359 := (by rw [hA98]; exact hr98)
      rw [← hy98, ← hA98, ← hc98] at hcut98
      have HR362 := am_ hr98
      have HC362 := am_ (show y359.length ≤ c98 from by rw [hy98, hc98]; exact Nat.sub_le_sub_right hroom98 _)
      clear hr98 hC98 hroom98 hi098 hsz98 hc98; have KY98 := am_ hy98; have KA98 := am_ hA98; clear hy98 hA98
      have KL98 := am_ (show (x11_1 : Int).toNat ≤ t356.length from by omega)
      replace q98 := eq_true q98
      go_wp2_with (first | ((with_reducible refine gate_builtin (b := .append) (xs := #[.tmp 136, .tmp 139]) rfl ?_); (try (refine gate_guard (by rfl) ?_; dsimp only)); at_builtin; refine Kd.R_append_rows Kd.string (w0 := w) w.heap.size rfl (.tmp 136) (.tmp 139) 27 9 (.string ⟨#[]⟩) 16 rfl Tryz.underlying27 info9 rfl (by decide) (by omega) u9 x9_1 y359 _ _ _ (fun k_ => some k_ ≠ (.slice Ao99 t356.length co99 : Value).ownBlock) (fun _ => False) rfl rfl ?aO ?aR (fun _ _ h => h) (fun _ h => h.elim) ?aF ?aB ?aS ?aL ?_; (case aR => repeat (first | exact (by repeat (first | (with_reducible first | exact HR362.out | refine Kd.C_alloc ?_ _ | refine Kd.C_drewN ?_ _ | refine Kd.C_drew ?_) | exact HR362.out)) | (with_reducible refine Kd.C_alloc ?_ _) | (with_reducible refine Kd.C_drewN ?_ _) | (with_reducible refine Kd.C_drew ?_))); (case aB => exact (bw_ HB.out)); (case aF => exact (fun k_ hk => Kd.fresh' (Kd.R_lt (rr_ HO_8.out)) k_ hk)); (case aO => exact (rr_ HO_9.out)); (case aS => exact (below_size (bw_ HB.out))); (case aL => have := LMc90.out; omega); intro v364 w100 ho hb hg hat; rw [← Ny363.out] at ho; have n0_ := am_ (Kd.R_after (ok := (fun _ => True)) (by (with_reducible repeat (first | apply r1_ | apply r2_ | apply r3_)); exact Kd.R_mono HO_8.out (fun _ hk => ⟨trivial, hk⟩)) hg hat); have n1_ := am_ (Kd.S_after (ok := (fun k_ => some k_ ≠ (.slice Ao99 t356.length co99 : Value).ownBlock)) (by (with_reducible repeat (first | apply q1_ | apply q2_ | apply q3_)); exact HO_10.out) hg hat); have n2_ := am_ (hb); have n3_ := am_ ((show Kd.C Kd.string w100 A98 y359.length y359 from by rw [Ny359.out, KA98.out]; exact Kd.C_drop (m := (x11_1 : Int).toNat) (c := co99) ((Kd.R_reads' (Kd.R_after (ok := (fun _ => True)) (by (with_reducible repeat (first | apply r1_ | apply r2_ | apply r3_)); exact Kd.R_mono HO_8.out (fun _ hk => ⟨trivial, hk⟩)) hg hat)).2.2) KL98.out ((Kd.R_reads' (Kd.R_after (ok := (fun _ => True)) (by (with_reducible repeat (first | apply r1_ | apply r2_ | apply r3_)); exact Kd.R_mono HO_8.out (fun _ hk => ⟨trivial, hk⟩)) hg hat)).2.1))); have n4_ := am_ (ho); clear HO_8; clear HO_10; clear HB; clear HR362; clear HO_9; have HO_8 := n0_; have HO_10 := n1_; have HB := n2_; have HR362 := n3_; have HO365 := n4_; clear n0_ n1_ n2_ n3_ n4_; clear ho hb hg hat; obtain ⟨Ao101, co101, eo101⟩ := Kd.R_slice HO365.out; subst eo101) | ((with_reducible refine gate_callee (f := 87) rfl ?_); refine goesL_ (some 141) rfl rfl Tryz.func87 (by kernel_rfl) rfl #[.slice Ao101 y363.length co101] rfl gl_ ?_; (with_reducible refine (Z39.calls _ _ y363 t366 _ ?side1 ?side2 A91.out).mono ?_); (case side1 => exact cc_ (Kd.R_reads' HO365.out).2.2); (case side2 => exact (Kd.R_reads' HO365.out).2.1); rintro e w102 ⟨rfl, hb⟩; refine ⟨_, rfl, ?_⟩; have n0_ := am_ (Kd.R_below (rr_ HO_8.out) hb); have n1_ := am_ (Kd.S_below (by (with_reducible repeat (first | apply q1_ | apply q2_ | apply q3_)); exact HO_10.out) hb); have n2_ := am_ (Kd.R_below (rr_ HO365.out) hb); have n3_ := am_ (Kd.C_below (by repeat (first | (with_reducible first | exact HR362.out | refine Kd.C_alloc ?_ _ | refine Kd.C_drewN ?_ _ | refine Kd.C_drew ?_) | exact HR362.out)) hb); have n4_ := am_ (below_step (bw_ HB.out) hb); clear HO_8; clear HO_10; clear HO365; clear HR362; clear HB; have HO_8 := n0_; have HO_10 := n1_; have HO365 := n2_; have HR362 := n3_; have HB := n4_; clear n0_ n1_ n2_ n3_ n4_; (try clear hb); (try clear hb2); (try clear hk); (try clear hi)))
      go_ret3
      exact ⟨_, by first | rfl | (simp [errW_none, errW_some] <;> rfl) | (simp [*, errW_none, errW_some] <;> rfl), by (with_reducible repeat (first | apply q1_ | apply q2_ | apply q3_)); exact Kd.S_mono HO_10.out (fun _ hk => trivial), bw_ HB.out⟩
 ·rw [if_neg c4] at H
  have c4b0 : (t355 == 0) = false := beq_eq_false_iff_ne.mpr c4
  have c4b1 : (t355 != 0) = true := bne_iff_ne.mpr c4
  simp only [Option.some.injEq, Prod.mk.injEq] at H
  obtain ⟨rfl, rfl, rfl⟩ := H
  go_enter Tryz.func43, Tryz.ntmps43
  go_wp2_with (first | ((with_reducible refine gate_dst (N := 18) rfl ?_); (try (refine gate_guard (by rfl) ?_; dsimp only)); refine Kd.R_lit Kd.string _ 9 ?hg (N := 18) ?hd (xs := ([a0] : List ByteArray)) (inner := [.string a0]) (ok := fun _ => True) (okp := fun _ => True) ?hr ?hp (fun _ hk => hk) trivial (Below.refl _ _) (Nat.le_refl _) (by simp) ?_; (case hd => rfl); (case hg => rfl); (case hr => first | (go_simp; done) | (go_simp; rfl)); (case hp => exact (Reps.one (show Kd.M Kd.string _ _ _ a0 [.string a0] from rfl) (Reps.none _ _))); intro v353 w103 ho104 hb hg_ hnew_; clear hg_ hnew_; (first | rw [← Ny352.out] at ho104 | (simp only [Int.reduceToNat] at ho104; rw [← Ny352.out] at ho104)); have n0_ := am_ (Kd.R_lower ho104 (below_size (bw_ HB.out))); have n1_ := am_ (below_step (bw_ HB.out) hb); clear HB; have HO354 := n0_; have HB := n1_; clear n0_ n1_; clear hb ho104; obtain ⟨Ao105, co105, eo105⟩ := Kd.R_slice HO354.out; subst eo105) | ((with_reducible refine gate_callee (f := 85) rfl ?_); refine goesL_ (some 19) rfl rfl Tryz.func85 (by kernel_rfl) rfl #[.slice Ao105 y352.length co105] rfl gl_ ?_; (with_reducible refine (Z16.calls k _ _ y352 t355 _ ?side1 ?side2 ?side3 A3.out).mono ?_); (case side1 => exact cc_ (Kd.R_reads' HO354.out).2.2); (case side2 => exact (Kd.R_reads' HO354.out).2.1); (case side3 => exact Wd.below HGl.out (bw_ HB.out)); rintro e w106 ⟨rfl, hb⟩; refine ⟨_, rfl, ?_⟩; have n0_ := am_ (Kd.R_below (rr_ HO354.out) hb); have n1_ := am_ (below_step (bw_ HB.out) hb); clear HO354; clear HB; have HO354 := n0_; have HB := n1_; clear n0_ n1_; (try clear hb); (try clear hb2); (try clear hk); (try clear hi)))
  go_ret3
  exact ⟨_, by first | rfl | (simp [errW_none, errW_some] <;> rfl) | (simp [*, errW_none, errW_some] <;> rfl), by first | exact Kd.S_nil _ _ _ _ _ | exact Kd.N_nil _ _ _ _ _ | exact Kd.V_nil _ _ _ _ _ | exact Kd.Q_nil _ _ _ _ _ | exact Kd.R_nil _ _ _ _ _, bw_ HB.out⟩
end Go.Proofs.YtffaggbephnmkaaGreatDoor.Pq
