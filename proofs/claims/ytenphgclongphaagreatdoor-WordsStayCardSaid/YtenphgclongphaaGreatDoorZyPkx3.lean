/- A part of the proof of wordsStay. No conditions. Laid by program over the kit's print and words. -/
import Derived.Test.YtenphgclongphaaGreatDoorZyPkx0
import Derived.Test.YtenphgclongphaaGreatDoorZyPkx2
namespace Go.Proofs.YtenphgclongphaaGreatDoor.Pk
open Go.RowKit Go.Proofs.YtenphgclongphaaGreatDoor.GBase Go.Proofs.YtenphgclongphaaGreatDoorW.PrintWords Go.Proofs.YtenphgclongphaaGreatDoorW.PrintLast Go.Proofs.YtenphgclongphaaGreatDoorW.PrintMore
attribute [local go_sem] str_leq max2_int min2_int max_two min_two max_three min_three max_four min_four
set_option linter.unusedVariables false
set_option linter.unusedSimpArgs false
set_option maxHeartbeats 8000000 in
set_option maxRecDepth 100000 in
theorem chaseref1_keptOf.calls (k : Nat) (A0 : Option Addr) (c0 : Nat) (l0 : List ByteArray) (A1 : Option Addr) (c1 : Nat) (l1 : List ByteArray) (r : List (S76)) (w : World) (hr0 : Kd.C Kd.string w A0 l0.length l0) (hc0 : l0.length ≤ c0) (hr1 : Kd.C Kd.string w A1 l1.length l1) (hc1 : l1.length ≤ c1) (h : chaseref1_keptOf.f k l0 l1 = some r) :
  Calls Tryz.prog 34 #[.slice A0 l0.length c0, .slice A1 l1.length c1] w fun e w' => ∃ v0_ : Value, e = .returned (v0_) ∧ Kd.R k76 76 w' w.heap.size (fun _ => True) v0_ r ∧ Below w.heap.size w w' := by
 have hu76 := Tryz.underlying76
 have HR0 := am_ hr0; have HC0 := am_ hc0; clear hr0 hc0; have HR1 := am_ hr1; have HC1 := am_ hc1; clear hr1 hc1
 have HB := am_ (Below.refl w.heap.size w)
 have H : (if 0 ≤ (wrap64 ((l0.length : Int) + 1)) then (if (wrap64 ((l0.length : Int) + 1) : Int).toNat ≤ 11728124029610 then ((some (List.replicate (wrap64 ((l0.length : Int) + 1) : Int).toNat [] : List (List Int))).bind fun y134 => (chaseref1_keptOf.l0 k l0 l1 y134 (y134.length : Int) 0)) else (none)) else (none)) = some r := h
 clear h
 obtain ⟨ji3, hji3⟩ : ∃ j_ : Int, (wrap64 ((l0.length : Int) + 1)) = j_ := ⟨_, rfl⟩
 replace H : (if 0 ≤ (ji3) then (if (ji3 : Int).toNat ≤ 11728124029610 then ((some (List.replicate (ji3 : Int).toNat [] : List (List Int))).bind fun y134 => (chaseref1_keptOf.l0 k l0 l1 y134 (y134.length : Int) 0)) else (none)) else (none)) = some r := by first | (rw [hji3] at H; exact H) | (simp only [hji3] at H ⊢; exact H)
 have hji3w : (IntKind.i64.wrap ((l0.length : Int) + 1)) = ji3 := (i64_w _).trans hji3
 by_cases c4 : 0 ≤ (ji3)
 case neg => exact (nn_ c4 H).elim
 rw [if_pos c4] at H; have c4b0 := eq_true c4; have c4b1 := decide_eq_true c4; clear c4
 by_cases c5 : (ji3 : Int).toNat ≤ 11728124029610
 case neg => exact (nn_ c5 H).elim
 rw [if_pos c5] at H; have c5b0 := eq_true c5; have c5b1 := decide_eq_true c5; clear c5
 obtain ⟨y134, hy134⟩ : ∃ y_ : List (List Int), y_ = (List.replicate (ji3 : Int).toNat []) := ⟨_, rfl⟩
 replace H : (chaseref1_keptOf.l0 k l0 l1 y134 (y134.length : Int) 0) = some r := by first | (rw [hy134]; with_reducible exact H) | (have H2_ := (Option.bind_some _ _).symm.trans H; rw [hy134]; with_reducible exact H2_) | (have H2_ := (Option.bind_some _ _).symm.trans H; with_reducible exact H2_) | with_reducible exact H | (rw [hy134]; exact H) | exact H
 have Ny134 := am_ hy134; clear hy134
 have H' := am_ H
 clear H
 go_enter Tryz.func34, Tryz.ntmps34
 go_wp2_with (first | ((with_reducible refine gate_dst (N := 16) rfl ?_); refine Kd.S_make (Kd.slice 3 (Kd.int .i64)) _ 22 rfl (N := 16) rfl 101 _ _ rfl ji3 rfl rfl Tryz.underlying101 (.slice none 0 0) 24 info22 rfl (by decide) (by omega) [] (ok := fun _ => True) (okp := fun _ => True) ⟨_, rfl, Kd.R_nil _ _ _ _ _⟩ (fun _ hk => hk) trivial (ode_) (Nat.le_trans (Nat.mul_le_mul_right _ (ode_ : ji3.toNat ≤ 11728124029610)) (by omega)) (Below.refl _ _) (Nat.le_refl _) ?_; intro v135 w6 ho7 hb hg_ hnew_; clear hg_ hnew_; (first | rw [← Ny134.out] at ho7 | (simp only [Int.reduceToNat] at ho7; rw [← Ny134.out] at ho7)); have n0_ := am_ (Kd.S_lower ho7 (below_size (by repeat (first | (with_reducible first | exact HB.out | apply b3_ | apply b1_ | apply b2_) | exact HB.out)))); have n1_ := am_ (below_step (by repeat (first | (with_reducible first | exact HB.out | apply b3_ | apply b1_ | apply b2_) | exact HB.out)) hb); clear HB; have HO136 := n0_; have HB := n1_; clear n0_ n1_; clear hb ho7; obtain ⟨Ao8, co8, eo8⟩ := Kd.S_slice HO136.out; subst eo8))
 go_loopg [19] k (fun kq v19 w' => ∃ (x5_1 : List (List Int)) (x19_1 : Int), v19 = .int .i64 x19_1 ∧ Aside0 (chaseref1_keptOf.l0 kq l0 l1 x5_1 (y134.length : Int) x19_1 = some r) ∧ Aside0 (kq ≤ k) ∧ Aside0 (Kd.S (Kd.slice 3 (Kd.int .i64)) 22 w' w.heap.size (fun _ => True) (.slice Ao8 y134.length co8) x5_1) ∧ Aside0 (Below w.heap.size w w'))
 case atStart => exact ⟨(y134), (0), (by first | rfl | (simp; done) | (simp [*]; done)), H', ⟨Nat.le_refl _⟩, ⟨by (with_reducible repeat (first | apply q1_ | apply q2_ | apply q3_)); exact HO136.out⟩, ⟨by repeat (first | (with_reducible first | exact HB.out | apply b3_ | apply b1_ | apply b2_) | exact HB.out)⟩⟩
 case round =>
  clear H'; (try clear c1); (try clear p2); (try clear c3); (try clear c4); (try clear c4b0); (try clear c4b1); (try clear c5); (try clear c5b0); (try clear c5b1); (try clear p6); obtain ⟨x5_1, x19_1, rfl, HA, HK1, HO_5, HB⟩ := hrel
  have hl5_1 := (Kd.S_reads' HO_5.out).1
  rw [hl5_1] at HO_5
  (try simp only [hl5_1])
  cases gk with
  | zero => exact absurd HA.out (by simp [chaseref1_keptOf.l0])
  | succ k1 =>
   have H := HA.out
   clear HA
   simp only [chaseref1_keptOf.l0] at H
   by_cases c9 : x19_1 < (y134.length : Int)
   ·rw [if_pos c9] at H
    have c9b0 := decide_eq_true c9; clear c9
    obtain ⟨ji10, hji10⟩ : ∃ j_ : Int, (wrap64 ((l1.length : Int) + 1)) = j_ := ⟨_, rfl⟩
    replace H : (if 0 ≤ (ji10) then (if (ji10 : Int).toNat ≤ 35184372088832 then (if 0 ≤ x19_1 then (if x19_1 < (x5_1.length : Int) then (chaseref1_keptOf.l0 k1 l0 l1 (x5_1.set (x19_1 : Int).toNat (List.replicate (ji10 : Int).toNat 0)) (y134.length : Int) (wrap64 (x19_1 + 1))) else (none)) else (none)) else (none)) else (none)) = some r := by first | (rw [hji10] at H; exact H) | (simp only [hji10] at H ⊢; exact H)
    have hji10w : (IntKind.i64.wrap ((l1.length : Int) + 1)) = ji10 := (i64_w _).trans hji10
    by_cases c11 : 0 ≤ (ji10)
    case neg => exact (nn_ c11 H).elim
    rw [if_pos c11] at H; have c11b0 := eq_true c11; have c11b1 := decide_eq_true c11; clear c11
    by_cases c12 : (ji10 : Int).toNat ≤ 35184372088832
    case neg => exact (nn_ c12 H).elim
    rw [if_pos c12] at H; have c12b0 := eq_true c12; have c12b1 := decide_eq_true c12; clear c12
    obtain ⟨y137, hy137⟩ : ∃ y_ : List Int, y_ = (List.replicate (ji10 : Int).toNat 0) := ⟨_, rfl⟩
    replace H : (if 0 ≤ x19_1 then (if x19_1 < (x5_1.length : Int) then (chaseref1_keptOf.l0 k1 l0 l1 (x5_1.set (x19_1 : Int).toNat y137) (y134.length : Int) (wrap64 (x19_1 + 1))) else (none)) else (none)) = some r := by first | (rw [hy137]; with_reducible exact H) | (have H2_ := (Option.bind_some _ _).symm.trans H; rw [hy137]; with_reducible exact H2_) | (have H2_ := (Option.bind_some _ _).symm.trans H; with_reducible exact H2_) | with_reducible exact H | (rw [hy137]; exact H) | exact H
    have Ny137 := am_ hy137; clear hy137
    by_cases c13 : 0 ≤ x19_1
    case neg => exact (nn_ c13 H).elim
    rw [if_pos c13] at H; have c13b0 := decide_eq_true c13; clear c13
    by_cases c14 : x19_1 < (x5_1.length : Int)
    case neg => exact (nn_ c14 H).elim
    rw [if_pos c14] at H; have c14b0 := decide_eq_true c14; clear c14
    obtain ⟨y140, hy140⟩ : ∃ y_ : List (List Int), y_ = (x5_1.set (x19_1 : Int).toNat y137) := ⟨_, rfl⟩
    replace H : (chaseref1_keptOf.l0 k1 l0 l1 y140 (y134.length : Int) (wrap64 (x19_1 + 1))) = some r := by first | (rw [hy140]; with_reducible exact H) | (have H2_ := (Option.bind_some _ _).symm.trans H; rw [hy140]; with_reducible exact H2_) | (have H2_ := (Option.bind_some _ _).symm.trans H; with_reducible exact H2_) | with_reducible exact H | (rw [hy140]; exact H) | exact H
    have Ny140 := am_ hy140; clear hy140
    have H' := am_ H
    clear H
    go_wp2_with (first | ((with_reducible refine gate_dst (N := 27) rfl ?_); refine Kd.R_make (Kd.int .i64) _ 3 rfl (N := 27) rfl 22 _ _ rfl ji10 rfl rfl Tryz.underlying22 (.int .i64 0) 8 info3 rfl (by decide) (by omega) 0 (ok := fun _ => True) (okp := fun _ => True) rfl (fun _ hk => hk) trivial (ode_) (Nat.le_trans (Nat.mul_le_mul_right _ (ode_ : ji10.toNat ≤ 35184372088832)) (by omega)) (Below.refl _ _) (Nat.le_refl _) ?_; intro v138 w16 ho17 hb hg_ hnew_; clear hg_ hnew_; (first | rw [← Ny137.out] at ho17 | (simp only [Int.reduceToNat] at ho17; rw [← Ny137.out] at ho17)); have n0_ := am_ (Kd.S_elder' (by (with_reducible repeat (first | apply q1_ | apply q2_ | apply q3_)); exact HO_5.out) (Kd.R_base ho17) hb); have n1_ := am_ (Kd.R_lower ho17 (below_size (by repeat (first | (with_reducible first | exact HB.out | apply b3_ | apply b1_ | apply b2_) | exact HB.out)))); have n2_ := am_ (below_step (by repeat (first | (with_reducible first | exact HB.out | apply b3_ | apply b1_ | apply b2_) | exact HB.out)) hb); clear HO_5; clear HB; have HO_5 := n0_; have HO139 := n1_; have HB := n2_; clear n0_ n1_ n2_; clear hb ho17; have p15 : 0 ≤ (x19_1 : Int) := ode_; have q15 : (x19_1 : Int) < ((x5_1.length : Int) : Int) := ode_; obtain ⟨go15, co15, eo15, gb15, gl15, cl15, HG15⟩ := Kd.S_form HO_5.out (by omega); (first | cases eo15 | (injection eo15 with ea_ en_ ec_; (first | subst ea_ | (injection ea_ with ea_; subst ea_)); subst ec_; clear en_)); have GB15 := am_ gb15; have GG15 := am_ HG15; clear gb15 gl15 HG15; obtain ⟨_, ce15, hcl15, hM15, hcc15, hfr15, _, _⟩ := Kd.S_elem HO_5.out [] (x19_1 : Int) p15 q15; obtain ⟨ve15_0, rfl, ge15_0⟩ := hM15; have hx15_0 := hcc15 0 _ rfl; have hf15_0 := hfr15 0; (try simp only [show ((Kd.slice 3 (Kd.int .i64))).sz = 1 from rfl, Nat.mul_one, Nat.add_zero] at hx15_0); (try simp only [show ((Kd.slice 3 (Kd.int .i64))).sz = 1 from rfl, Nat.mul_one, Nat.add_zero] at hf15_0); (try clear hM15); clear hcl15 hcc15 hfr15; replace p15 := eq_true p15; replace q15 := eq_true q15; have n_ := am_ (Kd.S_mono (ok' := (fun k_ => some k_ ≠ (v138 : Value).ownBlock)) HO_5.out (fun k_ hk => hk.2)); clear HO_5; have HO_5 := n_; clear n_; have HX18 := am_ (show Kd.S (Kd.slice 3 (Kd.int .i64)) 22 w16 w.heap.size (fun k_ => ((fun _ => True)) k_ ∧ ¬ ((fun k_ => some k_ = (v138 : Value).ownBlock)) k_) (.slice (some ⟨go15, 0, none⟩) x5_1.length co8) x5_1 from (by (with_reducible repeat (first | apply q1_ | apply q2_ | apply q3_)); exact Kd.S_mono HO_5.out (fun k_ hk => ⟨trivial, fun e_ => hk e_⟩))); obtain ⟨oki18, ce18, hcl18, hM18, hcc18, hfr18, hoki18, hH18⟩ := Kd.S_elem HX18.out [] (x19_1 : Int) (ode_) (by have h_ : (x19_1 : Int) < ((x5_1.length : Int) : Int) := ode_; first | exact h_ | (have e_ := (Kd.S_reads' HO_5.out).1; omega) | simpa using h_); obtain ⟨ve18_0, rfl, ge18_0⟩ := hM18; have HP18 := Kd.S_seg hH18 (ode_) (by have h_ : (x19_1 : Int) < ((x5_1.length : Int) : Int) := ode_; first | exact h_ | (have e_ := (Kd.S_reads' HO_5.out).1; omega) | simpa using h_) (seg := [v138]) (j := 0) (show 1 ≤ 1 from by decide) (x' := y137) (Kd.M_row (Kd.R_mono (Kd.R_tight rfl (Kd.R_mono (ok' := fun k_ => ((fun _ => True)) k_ ∧ k_ ≠ go15) (Kd.R_apart' (HO139.out) (Kd.S_typed HO_5.out) (by decide)) (fun k_ hk => ⟨trivial, fun e_ => (hk.2) (by rw [e_]; rfl)⟩))) (fun _ h_ => Or.inr (h_)))) (fun _ hk => hk) (fun k_ hk_ => ((Kd.R_mono (ok' := fun k_ => ((fun _ => True)) k_ ∧ k_ ≠ go15) (Kd.R_apart' (HO139.out) (Kd.S_typed HO_5.out) (by decide)) (fun k_ hk => ⟨trivial, fun e_ => (hk.2) (by rw [e_]; rfl)⟩))).1 k_ hk_.symm); have hx18_0 := hcc18 0 _ rfl; (try simp only [show ((Kd.slice 3 (Kd.int .i64))).sz = 1 from rfl, Nat.mul_one, Nat.add_zero] at hx18_0); have hf18_0 := hfr18 0; (try simp only [show ((Kd.slice 3 (Kd.int .i64))).sz = 1 from rfl, Nat.mul_one, Nat.add_zero] at hf18_0); (try clear hM18); clear hcl18 hcc18 hfr18 hoki18 hH18; (try simp only [show ((Kd.slice 3 (Kd.int .i64))).sz = 1 from rfl, Nat.mul_one, Nat.add_zero] at HP18); obtain ⟨Ao_, co_, eo_⟩ := Kd.R_slice HO139.out) | ((with_reducible refine gate_store (t := 22) (p := 28) rfl ?_); refine store_event (t := 22) (p := 28) (v := ?vo_w19) (w1 := (w16.setCell ⟨go15, (x19_1 : Int).toNat, none⟩ (v138))) ?hg ?ho ?hn ?hr ?_; (case ho => rfl); (case hg => rfl); (case hn => rfl); (case hr => first | (go_simp; done) | (go_simp; rfl)); intro w19 hw; have hg : w16.grownBy w19 (some go15) := (by rw [hw]; exact HP18.2); have hp_ : Kd.S (Kd.slice 3 (Kd.int .i64)) 22 w19 w.heap.size (fun _ => True) (.slice (some ⟨go15, 0, none⟩) x5_1.length co8) y140 := (by rw [hw, Ny140.out]; exact HP18.1); clear HP18; have n0_ := am_ (hp_); have n1_ := am_ ((by rw [hw]; exact below_set (HB.out) GB15.out : Below w.heap.size w w19)); clear HO_5; clear HB; clear HO139; have HO_5 := n0_; have HB := n1_; clear n0_ n1_; clear hg hw hp_))
    (try simp only [← hl5_1])
    go_roundg k1
    case measure => have := HK1.out; omega
    case rel => exact ⟨(y140), (wrap64 (x19_1 + 1)), (by first | rfl | (simp; done) | (simp [*]; done)), H', ⟨by have := HK1.out; omega⟩, ⟨by (try simp only [hl5_1]); (with_reducible repeat (first | apply q1_ | apply q2_ | apply q3_)); exact HO_5.out⟩, ⟨by repeat (first | (with_reducible first | exact HB.out | apply b3_ | apply b1_ | apply b2_) | exact HB.out)⟩⟩
   ·rw [if_neg c9] at H
    have c9b0 : decide (x19_1 < (y134.length : Int)) = false := decide_eq_false c9
    (try simp only [hl5_1] at c9b0); clear c9
    have H' := am_ H
    clear H
    go_wp2
    go_loopg [7] k1 (fun kq v7 w' => ∃ (x5_2 : List (List Int)) (x7_2 : Int), v7 = .int .i64 x7_2 ∧ Aside0 (chaseref1_keptOf.l1 kq l0 l1 x5_2 x7_2 = some r) ∧ Aside0 (kq ≤ k1) ∧ Aside0 (Kd.S (Kd.slice 3 (Kd.int .i64)) 22 w' w.heap.size (fun _ => True) (.slice Ao8 x5_1.length co8) x5_2) ∧ Aside0 (Below w.heap.size w w'))
    case atStart => exact ⟨(x5_1), (wrap64 ((l0.length : Int) - 1)), (by first | rfl | (simp; done) | (simp [*]; done)), H', ⟨Nat.le_refl _⟩, ⟨by (try simp only [hl5_1]); (with_reducible repeat (first | apply q1_ | apply q2_ | apply q3_)); exact HO_5.out⟩, ⟨by repeat (first | (with_reducible first | exact HB.out | apply b3_ | apply b1_ | apply b2_) | exact HB.out)⟩⟩
    case round =>
     clear H'; (try clear c1); (try clear p1); (try clear q1); (try clear hx1); (try clear p2); (try clear c3); (try clear c4); (try clear c4b0); (try clear c4b1); (try clear c5); (try clear c5b0); (try clear c5b1); (try clear p6); (try clear c9); (try clear c9b0); (try clear c11); (try clear c11b0); (try clear c11b1); (try clear c12); (try clear c12b0); (try clear c12b1); (try clear c13); (try clear c13b0); (try clear c14); (try clear c14b0); (try clear c15); (try clear p15); (try clear q15); (try clear hx15); (try clear hf15); (try clear c18); (try clear hx18); (try clear hf18); (try clear hx15_0); (try clear hx18_0); (try clear p15); (try clear p2); (try clear p6); (try clear q15); obtain ⟨x5_2, x7_2, rfl, HA, HK2, HO_5, HB⟩ := hrel
     have hl5_2 := (Kd.S_reads' HO_5.out).1
     rw [hl5_2] at HO_5
     (try simp only [hl5_2])
     cases gk with
     | zero => exact absurd HA.out (by simp [chaseref1_keptOf.l1])
     | succ k2 =>
      have H := HA.out
      clear HA
      simp only [chaseref1_keptOf.l1] at H
      by_cases c20 : x7_2 ≥ 0
      ·rw [if_pos c20] at H
       have c20b0 : decide (0 ≤ x7_2) = true := decide_eq_true c20
       clear c20
       have H' := am_ H
       clear H
       go_wp2
       go_loopg [8] k2 (fun kq v8 w' => ∃ (x5_3 : List (List Int)) (x8_3 : Int), v8 = .int .i64 x8_3 ∧ Aside0 (chaseref1_keptOf.l2 kq l0 l1 x5_3 x7_2 x8_3 = some r) ∧ Aside0 (kq ≤ k2) ∧ Aside0 (Kd.S (Kd.slice 3 (Kd.int .i64)) 22 w' w.heap.size (fun _ => True) (.slice Ao8 x5_2.length co8) x5_3) ∧ Aside0 (Below w.heap.size w w'))
       case atStart => exact ⟨(x5_2), (wrap64 ((l1.length : Int) - 1)), (by first | rfl | (simp; done) | (simp [*]; done)), H', ⟨Nat.le_refl _⟩, ⟨by (try simp only [hl5_1]); (try simp only [hl5_2]); (with_reducible repeat (first | apply q1_ | apply q2_ | apply q3_)); exact HO_5.out⟩, ⟨by repeat (first | (with_reducible first | exact HB.out | apply b3_ | apply b1_ | apply b2_) | exact HB.out)⟩⟩
       case round =>
        clear H'; (try clear c1); (try clear p1); (try clear q1); (try clear hx1); (try clear c2); (try clear p2); (try clear c3); (try clear c4); (try clear c4b0); (try clear c4b1); (try clear c5); (try clear c5b0); (try clear c5b1); (try clear p6); (try clear c9); (try clear c9b0); (try clear c11); (try clear c11b0); (try clear c11b1); (try clear c12); (try clear c12b0); (try clear c12b1); (try clear c13); (try clear c13b0); (try clear c14); (try clear c14b0); (try clear c15); (try clear p15); (try clear q15); (try clear hx15); (try clear hf15); (try clear c18); (try clear hx18); (try clear hf18); (try clear c20); (try clear c20b0); (try clear hx15_0); (try clear hx18_0); (try clear p1); (try clear p15); (try clear p2); (try clear p6); (try clear q1); (try clear q15); obtain ⟨x5_3, x8_3, rfl, HA, HK3, HO_5, HB⟩ := hrel
        have hl5_3 := (Kd.S_reads' HO_5.out).1
        rw [hl5_3] at HO_5
        (try simp only [hl5_3])
        cases gk with
        | zero => exact absurd HA.out (by simp [chaseref1_keptOf.l2])
        | succ k3 =>
         have H := HA.out
         clear HA
         simp only [chaseref1_keptOf.l2] at H
         by_cases c21 : x8_3 ≥ 0
         ·rw [if_pos c21] at H
          have c21b0 : decide (0 ≤ x8_3) = true := decide_eq_true c21
          clear c21
          by_cases c22 : 0 ≤ x7_2
          case neg => exact (nn_ c22 H).elim
          rw [if_pos c22] at H; have c22b0 := decide_eq_true c22; clear c22
          by_cases c23 : x7_2 < (x5_3.length : Int)
          case neg => exact (nn_ c23 H).elim
          rw [if_pos c23] at H; have c23b0 := decide_eq_true c23; clear c23
          obtain ⟨ji24, hji24⟩ : ∃ j_ : Int, (wrap64 (x7_2 + 1)) = j_ := ⟨_, rfl⟩
          replace H : (if 0 ≤ (ji24) then (if (ji24) < (x5_3.length : Int) then (if 0 ≤ x8_3 then (if x8_3 < ((rd_L2 x5_3 (ji24)).length : Int) then (if 0 ≤ (wrap64 (x8_3 + 1)) then (if (wrap64 (x8_3 + 1)) < ((rd_L2 x5_3 x7_2).length : Int) then (if x8_3 < ((rd_L2 x5_3 x7_2).length : Int) then ((some (x5_3.set (x7_2 : Int).toNat ((rd_L2 x5_3 x7_2).set (x8_3 : Int).toNat (mx (rd (rd_L2 x5_3 (ji24)) x8_3) (rd (rd_L2 x5_3 x7_2) (wrap64 (x8_3 + 1))))) : List (List Int))).bind fun y148 => (if x7_2 < (l0.length : Int) then (if x8_3 < (l1.length : Int) then (if (rdOf ByteArray.empty l0 x7_2).toList = (rdOf ByteArray.empty l1 x8_3).toList then (if x8_3 < ((rd_L2 y148 x7_2).length : Int) then (if (wrap64 (x8_3 + 1)) < ((rd_L2 y148 (ji24)).length : Int) then (chaseref1_keptOf.l2 k3 l0 l1 (y148.set (x7_2 : Int).toNat ((rd_L2 y148 x7_2).set (x8_3 : Int).toNat (mx (rd (rd_L2 y148 x7_2) x8_3) (wrap64 ((rd (rd_L2 y148 (ji24)) (wrap64 (x8_3 + 1))) + 1))))) x7_2 (wrap64 (x8_3 - 1))) else (none)) else (none)) else (chaseref1_keptOf.l2 k3 l0 l1 y148 x7_2 (wrap64 (x8_3 - 1)))) else (none)) else (none))) else (none)) else (none)) else (none)) else (none)) else (none)) else (none)) else (none)) = some r := by first | (rw [hji24] at H; exact H) | (simp only [hji24] at H ⊢; exact H)
          have hji24w : (IntKind.i64.wrap (x7_2 + 1)) = ji24 := (i64_w _).trans hji24
          by_cases c25 : 0 ≤ (ji24)
          case neg => exact (nn_ c25 H).elim
          rw [if_pos c25] at H; have c25b0 := decide_eq_true c25; clear c25
          by_cases c26 : (ji24) < (x5_3.length : Int)
          case neg => exact (nn_ c26 H).elim
          rw [if_pos c26] at H; have c26b0 := decide_eq_true c26; clear c26
          by_cases c27 : 0 ≤ x8_3
          case neg => exact (nn_ c27 H).elim
          rw [if_pos c27] at H; have c27b0 := decide_eq_true c27; clear c27
          by_cases c28 : x8_3 < ((rd_L2 x5_3 (ji24)).length : Int)
          case neg => exact (nn_ c28 H).elim
          rw [if_pos c28] at H; have c28b0 := decide_eq_true c28; clear c28
          obtain ⟨ji29, hji29⟩ : ∃ j_ : Int, (wrap64 (x8_3 + 1)) = j_ := ⟨_, rfl⟩
          replace H : (if 0 ≤ (ji29) then (if (ji29) < ((rd_L2 x5_3 x7_2).length : Int) then (if x8_3 < ((rd_L2 x5_3 x7_2).length : Int) then ((some (x5_3.set (x7_2 : Int).toNat ((rd_L2 x5_3 x7_2).set (x8_3 : Int).toNat (mx (rd (rd_L2 x5_3 (ji24)) x8_3) (rd (rd_L2 x5_3 x7_2) (ji29)))) : List (List Int))).bind fun y148 => (if x7_2 < (l0.length : Int) then (if x8_3 < (l1.length : Int) then (if (rdOf ByteArray.empty l0 x7_2).toList = (rdOf ByteArray.empty l1 x8_3).toList then (if x8_3 < ((rd_L2 y148 x7_2).length : Int) then (if (ji29) < ((rd_L2 y148 (ji24)).length : Int) then (chaseref1_keptOf.l2 k3 l0 l1 (y148.set (x7_2 : Int).toNat ((rd_L2 y148 x7_2).set (x8_3 : Int).toNat (mx (rd (rd_L2 y148 x7_2) x8_3) (wrap64 ((rd (rd_L2 y148 (ji24)) (ji29)) + 1))))) x7_2 (wrap64 (x8_3 - 1))) else (none)) else (none)) else (chaseref1_keptOf.l2 k3 l0 l1 y148 x7_2 (wrap64 (x8_3 - 1)))) else (none)) else (none))) else (none)) else (none)) else (none)) = some r := by first | (rw [hji29] at H; exact H) | (simp only [hji29] at H ⊢; exact H)
          have hji29w : (IntKind.i64.wrap (x8_3 + 1)) = ji29 := (i64_w _).trans hji29
          by_cases c30 : 0 ≤ (ji29)
          case neg => exact (nn_ c30 H).elim
          rw [if_pos c30] at H; have c30b0 := decide_eq_true c30; clear c30
          by_cases c31 : (ji29) < ((rd_L2 x5_3 x7_2).length : Int)
          case neg => exact (nn_ c31 H).elim
          rw [if_pos c31] at H; have c31b0 := decide_eq_true c31; clear c31
          obtain ⟨ji32, hji32⟩ : ∃ j_ : Int, (mx (rd (rd_L2 x5_3 (ji24)) x8_3) (rd (rd_L2 x5_3 x7_2) (ji29))) = j_ := ⟨_, rfl⟩
          replace H : (if x8_3 < ((rd_L2 x5_3 x7_2).length : Int) then ((some (x5_3.set (x7_2 : Int).toNat ((rd_L2 x5_3 x7_2).set (x8_3 : Int).toNat (ji32)) : List (List Int))).bind fun y148 => (if x7_2 < (l0.length : Int) then (if x8_3 < (l1.length : Int) then (if (rdOf ByteArray.empty l0 x7_2).toList = (rdOf ByteArray.empty l1 x8_3).toList then (if x8_3 < ((rd_L2 y148 x7_2).length : Int) then (if (ji29) < ((rd_L2 y148 (ji24)).length : Int) then (chaseref1_keptOf.l2 k3 l0 l1 (y148.set (x7_2 : Int).toNat ((rd_L2 y148 x7_2).set (x8_3 : Int).toNat (mx (rd (rd_L2 y148 x7_2) x8_3) (wrap64 ((rd (rd_L2 y148 (ji24)) (ji29)) + 1))))) x7_2 (wrap64 (x8_3 - 1))) else (none)) else (none)) else (chaseref1_keptOf.l2 k3 l0 l1 y148 x7_2 (wrap64 (x8_3 - 1)))) else (none)) else (none))) else (none)) = some r := by first | (rw [hji32] at H; exact H) | (simp only [hji32] at H ⊢; exact H)
          have hji32_ : (if (rd (rd_L2 x5_3 (ji24)) x8_3) < (rd (rd_L2 x5_3 x7_2) (ji29)) then (rd (rd_L2 x5_3 x7_2) (ji29)) else (rd (rd_L2 x5_3 (ji24)) x8_3)) = ji32 := hji32
          by_cases c33 : x8_3 < ((rd_L2 x5_3 x7_2).length : Int)
          case neg => exact (nn_ c33 H).elim
          rw [if_pos c33] at H; have c33b0 := decide_eq_true c33; clear c33
          obtain ⟨y146, hy146⟩ : ∃ y_ : List Int, y_ = ((rd_L2 x5_3 x7_2).set (x8_3 : Int).toNat (ji32)) := ⟨_, rfl⟩
          replace H : ((some (x5_3.set (x7_2 : Int).toNat y146 : List (List Int))).bind fun y148 => (if x7_2 < (l0.length : Int) then (if x8_3 < (l1.length : Int) then (if (rdOf ByteArray.empty l0 x7_2).toList = (rdOf ByteArray.empty l1 x8_3).toList then (if x8_3 < ((rd_L2 y148 x7_2).length : Int) then (if (ji29) < ((rd_L2 y148 (ji24)).length : Int) then (chaseref1_keptOf.l2 k3 l0 l1 (y148.set (x7_2 : Int).toNat ((rd_L2 y148 x7_2).set (x8_3 : Int).toNat (mx (rd (rd_L2 y148 x7_2) x8_3) (wrap64 ((rd (rd_L2 y148 (ji24)) (ji29)) + 1))))) x7_2 (wrap64 (x8_3 - 1))) else (none)) else (none)) else (chaseref1_keptOf.l2 k3 l0 l1 y148 x7_2 (wrap64 (x8_3 - 1)))) else (none)) else (none))) = some r := by first | (rw [hy146]; with_reducible exact H) | (have H2_ := (Option.bind_some _ _).symm.trans H; rw [hy146]; with_reducible exact H2_) | (have H2_ := (Option.bind_some _ _).symm.trans H; with_reducible exact H2_) | with_reducible exact H | (rw [hy146]; exact H) | exact H
          have Ny146 := am_ hy146; clear hy146
          obtain ⟨y148, hy148⟩ : ∃ y_ : List (List Int), y_ = (x5_3.set (x7_2 : Int).toNat y146) := ⟨_, rfl⟩
          replace H : (if x7_2 < (l0.length : Int) then (if x8_3 < (l1.length : Int) then (if (rdOf ByteArray.empty l0 x7_2).toList = (rdOf ByteArray.empty l1 x8_3).toList then (if x8_3 < ((rd_L2 y148 x7_2).length : Int) then (if (ji29) < ((rd_L2 y148 (ji24)).length : Int) then (chaseref1_keptOf.l2 k3 l0 l1 (y148.set (x7_2 : Int).toNat ((rd_L2 y148 x7_2).set (x8_3 : Int).toNat (mx (rd (rd_L2 y148 x7_2) x8_3) (wrap64 ((rd (rd_L2 y148 (ji24)) (ji29)) + 1))))) x7_2 (wrap64 (x8_3 - 1))) else (none)) else (none)) else (chaseref1_keptOf.l2 k3 l0 l1 y148 x7_2 (wrap64 (x8_3 - 1)))) else (none)) else (none)) = some r := by first | (rw [hy148]; with_reducible exact H) | (have H2_ := (Option.bind_some _ _).symm.trans H; rw [hy148]; with_reducible exact H2_) | (have H2_ := (Option.bind_some _ _).symm.trans H; with_reducible exact H2_) | with_reducible exact H | (rw [hy148]; exact H) | exact H
          have Ny148 := am_ hy148; clear hy148
          by_cases c35 : x7_2 < (l0.length : Int)
          case neg => exact (nn_ c35 H).elim
          rw [if_pos c35] at H; have c35b0 := decide_eq_true c35; clear c35
          by_cases c36 : x8_3 < (l1.length : Int)
          case neg => exact (nn_ c36 H).elim
          rw [if_pos c36] at H; have c36b0 := decide_eq_true c36; clear c36
          by_cases c37 : (rdOf ByteArray.empty l0 x7_2).toList = (rdOf ByteArray.empty l1 x8_3).toList
          ·rw [if_pos c37] at H
           have c37b0 : ((rdOf ByteArray.empty l0 x7_2).toList == (rdOf ByteArray.empty l1 x8_3).toList) = true := beq_iff_eq.mpr c37
           have c37b1 : ((rdOf ByteArray.empty l0 x7_2).toList != (rdOf ByteArray.empty l1 x8_3).toList) = false := bne_eq_false_iff_eq.mpr c37
           clear c37
           by_cases c38 : x8_3 < ((rd_L2 y148 x7_2).length : Int)
           case neg => exact (nn_ c38 H).elim
           rw [if_pos c38] at H; have c38b0 := decide_eq_true c38; clear c38
           by_cases c39 : (ji29) < ((rd_L2 y148 (ji24)).length : Int)
           case neg => exact (nn_ c39 H).elim
           rw [if_pos c39] at H; have c39b0 := decide_eq_true c39; clear c39
           obtain ⟨ji40, hji40⟩ : ∃ j_ : Int, (mx (rd (rd_L2 y148 x7_2) x8_3) (wrap64 ((rd (rd_L2 y148 (ji24)) (ji29)) + 1))) = j_ := ⟨_, rfl⟩
           replace H : (chaseref1_keptOf.l2 k3 l0 l1 (y148.set (x7_2 : Int).toNat ((rd_L2 y148 x7_2).set (x8_3 : Int).toNat (ji40))) x7_2 (wrap64 (x8_3 - 1))) = some r := by first | (rw [hji40] at H; exact H) | (simp only [hji40] at H ⊢; exact H)
           have hji40_ : (if (rd (rd_L2 y148 x7_2) x8_3) < (wrap64 ((rd (rd_L2 y148 (ji24)) (ji29)) + 1)) then (wrap64 ((rd (rd_L2 y148 (ji24)) (ji29)) + 1)) else (rd (rd_L2 y148 x7_2) x8_3)) = ji40 := hji40
           obtain ⟨y156, hy156⟩ : ∃ y_ : List Int, y_ = ((rd_L2 y148 x7_2).set (x8_3 : Int).toNat (ji40)) := ⟨_, rfl⟩
           replace H : (chaseref1_keptOf.l2 k3 l0 l1 (y148.set (x7_2 : Int).toNat y156) x7_2 (wrap64 (x8_3 - 1))) = some r := by first | (rw [hy156]; with_reducible exact H) | (have H2_ := (Option.bind_some _ _).symm.trans H; rw [hy156]; with_reducible exact H2_) | (have H2_ := (Option.bind_some _ _).symm.trans H; with_reducible exact H2_) | with_reducible exact H | (rw [hy156]; exact H) | exact H
           have Ny156 := am_ hy156; clear hy156
           obtain ⟨y158, hy158⟩ : ∃ y_ : List (List Int), y_ = (y148.set (x7_2 : Int).toNat y156) := ⟨_, rfl⟩
           replace H : (chaseref1_keptOf.l2 k3 l0 l1 y158 x7_2 (wrap64 (x8_3 - 1))) = some r := by first | (rw [hy158]; with_reducible exact H) | (have H2_ := (Option.bind_some _ _).symm.trans H; rw [hy158]; with_reducible exact H2_) | (have H2_ := (Option.bind_some _ _).symm.trans H; with_reducible exact H2_) | with_reducible exact H | (rw [hy158]; exact H) | exact H
           have Ny158 := am_ hy158; clear hy158
           have H' := am_ H
           clear H
           try go_wp2
           have n0_ := am_ (q3_ HO_5.out)
           have n1_ := am_ (b2_ HB.out)
           clear HO_5; clear HB; have HO_5 := n0_; have HB := n1_; clear n0_ n1_; have p141 : 0 ≤ (x7_2 : Int) := ode_; have q141 : x7_2 < (x5_3.length : Int) := ode_
           obtain ⟨ad141, A141_0, c141_0, e141, hx141_0, hl141_0, hi141_0⟩ := at_L2 (Kd.S_reads' HO_5.out).2.2 x7_2 p141 q141
           cases e141
           obtain ⟨ce141, hce141, hMe141, hcc141⟩ := Kd.S_get HO_5.out [] x7_2 p141 (by first | exact q141 | exact ode_ | (have e_ := (Kd.S_reads' HO_5.out).1; omega))
           obtain ⟨ve141_0, rfl, ge141_0⟩ := hMe141
           have hv141_0 := hcc141 0 _ rfl
           rw [Nat.add_zero, show ((Kd.slice 3 (Kd.int .i64))).sz = 1 from rfl, Nat.mul_one] at hv141_0
           replace hv141_0 := Option.some.inj (hv141_0.symm.trans hx141_0)
           rw [hv141_0] at ge141_0
           have HL141_0 := am_ (show Kd.R (Kd.int .i64) 3 _ _ _ _ (rd_L2 x5_3 x7_2) from ge141_0)
           clear hv141_0 ge141_0; have HX141_0 := am_ hx141_0; clear hcc141 hce141; have HR141_0 := am_ hi141_0; have HC141_0 := am_ hl141_0; clear hi141_0 hl141_0; replace p141 := eq_true p141; replace q141 := eq_true q141; have p142 : 0 ≤ ((ji24) : Int) := ode_; have q142 : (ji24) < (x5_3.length : Int) := ode_
           obtain ⟨ad142, A142_0, c142_0, e142, hx142_0, hl142_0, hi142_0⟩ := at_L2 (Kd.S_reads' HO_5.out).2.2 (ji24) p142 q142
           obtain rfl : ad141 = ad142 := (by injection e142)
           obtain ⟨ce142, hce142, hMe142, hcc142⟩ := Kd.S_get HO_5.out [] (ji24) p142 (by first | exact q142 | exact ode_ | (have e_ := (Kd.S_reads' HO_5.out).1; omega))
           obtain ⟨ve142_0, rfl, ge142_0⟩ := hMe142
           have hv142_0 := hcc142 0 _ rfl
           rw [Nat.add_zero, show ((Kd.slice 3 (Kd.int .i64))).sz = 1 from rfl, Nat.mul_one] at hv142_0
           replace hv142_0 := Option.some.inj (hv142_0.symm.trans hx142_0)
           rw [hv142_0] at ge142_0
           have HL142_0 := am_ (show Kd.R (Kd.int .i64) 3 _ _ _ _ (rd_L2 x5_3 (ji24)) from ge142_0)
           clear hv142_0 ge142_0; have HX142_0 := am_ hx142_0; clear hcc142 hce142; have HR142_0 := am_ hi142_0; have HC142_0 := am_ hl142_0; clear hi142_0 hl142_0; replace p142 := eq_true p142; replace q142 := eq_true q142; have p143 : 0 ≤ (x8_3 : Int) := ode_; have q143 : x8_3 < ((rd_L2 x5_3 (ji24)).length : Int) := ode_
           obtain ⟨ad143, e143, hx143_0⟩ := Kd.at_int (by repeat (first | (with_reducible first | exact HR142_0.out | refine Kd.C_alloc ?_ _ | refine Kd.C_drewN ?_ _ | refine Kd.C_drew ?_) | exact HR142_0.out)) x8_3 p143 q143
           cases e143; replace p143 := eq_true p143; replace q143 := eq_true q143; have p144 : 0 ≤ (x7_2 : Int) := ode_; have q144 : x7_2 < (x5_3.length : Int) := ode_
           obtain ⟨ad144, A144_0, c144_0, e144, hx144_0, hl144_0, hi144_0⟩ := at_L2 (Kd.S_reads' HO_5.out).2.2 x7_2 p144 q144
           obtain rfl : ad141 = ad144 := (by injection e144)
           obtain ⟨ce144, hce144, hMe144, hcc144⟩ := Kd.S_get HO_5.out [] x7_2 p144 (by first | exact q144 | exact ode_ | (have e_ := (Kd.S_reads' HO_5.out).1; omega))
           obtain ⟨ve144_0, rfl, ge144_0⟩ := hMe144
           have hv144_0 := hcc144 0 _ rfl
           rw [Nat.add_zero, show ((Kd.slice 3 (Kd.int .i64))).sz = 1 from rfl, Nat.mul_one] at hv144_0
           replace hv144_0 := Option.some.inj (hv144_0.symm.trans hx144_0)
           rw [hv144_0] at ge144_0
           have HL144_0 := am_ (show Kd.R (Kd.int .i64) 3 _ _ _ _ (rd_L2 x5_3 x7_2) from ge144_0)
           clear hv144_0 ge144_0; have HX144_0 := am_ hx144_0; clear hcc144 hce144; have HR144_0 := am_ hi144_0; have HC144_0 := am_ hl144_0; clear hi144_0 hl144_0; replace p144 := eq_true p144; replace q144 := eq_true q144
           have ea_ := Option.some.inj (hx141_0.symm.trans hx144_0)
           injection ea_ with ea_ en_ ec_; subst ea_; subst ec_; clear en_; have p145 : 0 ≤ ((ji29) : Int) := ode_; have q145 : (ji29) < ((rd_L2 x5_3 x7_2).length : Int) := ode_
           obtain ⟨ad145, e145, hx145_0⟩ := Kd.at_int (by repeat (first | (with_reducible first | exact HR144_0.out | refine Kd.C_alloc ?_ _ | refine Kd.C_drewN ?_ _ | refine Kd.C_drew ?_) | exact HR144_0.out)) (ji29) p145 q145
           cases e145; replace p145 := eq_true p145; replace q145 := eq_true q145; have p34 : 0 ≤ (x8_3 : Int) := ode_; have q34 : (x8_3 : Int) < (((rd_L2 x5_3 x7_2).length : Int) : Int) := ode_
           obtain ⟨go34, co34, eo34, gb34, gl34, cl34, HG34⟩ := Kd.R_form HL141_0.out (by omega)
           (first | cases eo34 | (injection eo34 with ea_ en_ ec_; (first | subst ea_ | (injection ea_ with ea_; subst ea_)); subst ec_; clear en_))
           have GB34 := am_ gb34; have GG34 := am_ HG34; clear gb34 gl34 HG34; (first | simp only [add_plain] at hx145_0 | skip)
           obtain ⟨hx34_0, hf34_0⟩ := Kd.R_celln 0 HL141_0.out (x8_3 : Int) p34 q34
           replace p34 := eq_true p34; replace q34 := eq_true q34
           have hq43 : (x7_2 : Int) < (x5_3.length : Int) := (by have h_ : (x7_2 : Int) < ((x5_3.length : Int) : Int) := ode_; first | exact h_ | (have e_ := (Kd.S_reads' HO_5.out).1; omega) | simpa only [List.length_set, List.length_set] using h_)
           obtain ⟨oki43, ce43, hcl43, hM43, hcc43, hok43, hbk43⟩ := Kd.S_borrow HO_5.out [] (x7_2 : Int) (ode_) (by first | exact hq43 | exact ode_ | (have e_ := (Kd.S_reads' HO_5.out).1; omega))
           obtain ⟨ve43_0, rfl, ge43_0⟩ := hM43
           have hv43 := hcc43 0 _ rfl
           rw [Nat.add_zero, show ((Kd.slice 3 (Kd.int .i64))).sz = 1 from rfl, Nat.mul_one] at hv43
           replace hv43 := Option.some.inj (hv43.symm.trans HX141_0.out)
           subst hv43; clear hcc43 hcl43
           replace ge43_0 := (show Kd.R (Kd.int .i64) 3 _ _ _ _ (rd_L2 x5_3 x7_2) from ge43_0)
           have HP43 := Kd.R_putg ge43_0 (x8_3 : Int) ji32
           rw [← Ny146.out] at HP43
           have HS43 := hbk43 HP43.2 (fun k_ e_ => by injection e_ with e_; subst e_; exact ge43_0.1 _ rfl) (x' := y146) (Kd.M_row HP43.1)
           rw [← Ny148.out] at HS43
           have HQ43 := am_ HS43; clear HP43 HS43 hbk43 hok43
           refine start_ (n := 24) (S := fun w' => w'.cell? (ad141.add (x7_2).toNat) = some (.slice (some ⟨go34, 0, none⟩) (rd_L2 x5_3 x7_2).length c141_0) ∧ w'.cell? (ad141.add ((ji24)).toNat) = some (.slice (some ad143) (rd_L2 x5_3 (ji24)).length c142_0) ∧ w'.cell? (ad143.add (x8_3).toNat) = some (.int .i64 (rd (rd_L2 x5_3 (ji24)) x8_3)) ∧ w'.cell? (ad141.add (x7_2).toNat) = some (.slice (some ⟨go34, 0, none⟩) (rd_L2 x5_3 x7_2).length c141_0) ∧ w'.cell? ⟨go34, ((ji29)).toNat, none⟩ = some (.int .i64 (rd (rd_L2 x5_3 x7_2) (ji29)))) (ds := [23]) chaseref1_keptOf.D2 (by kernel_rfl) rfl rfl ⟨hx141_0, hx142_0, hx143_0, hx144_0, hx145_0⟩ (fun hHeld => ?_); refine with_tabW chaseref1_keptOf.tab13 chaseref1_keptOf.bits13 (fun HT_ HW_ => ?_)
           generalize wr.drew = w42 at HO_5 HB GG34 HL141_0 HL142_0 HL144_0 HQ43 HR141_0 HR142_0 HR144_0 HX141_0 HX142_0 HX144_0 hf34_0 hx141_0 hx142_0 hx143_0 hx144_0 hx145_0 hx34_0 hHeld ⊢
           refine px_ 0 44 ?_ ?_ chaseref1_keptOf.D6 HT_.out ?_ ?_ ?_; rotate_left 2; intro w'; go_simp; with_reducible rfl; simp only [Act.put, s_t, s_z, s_s, i64_w, i32_w]; rfl
           refine px_ 1 45 ?_ ?_ chaseref1_keptOf.D10 HT_.out ?_ ?_ ?_; rotate_left 2; intro w'; go_simp; with_reducible rfl; simp only [Act.put, s_t, s_z, s_s, i64_w, i32_w]; rfl
           refine px_ 2 46 ?_ ?_ chaseref1_keptOf.D14 HT_.out ?_ ?_ ?_; rotate_left 2; intro w'; go_simp; with_reducible rfl; simp only [Act.put, s_t, s_z, s_s, i64_w, i32_w]; rfl
           refine px_ 4 48 ?_ ?_ chaseref1_keptOf.D18 HT_.out ?_ ?_ ?_; rotate_left 2; intro w'; go_simp; with_reducible rfl; simp only [Act.put, s_t, s_z, s_s, i64_w, i32_w]; rfl
           refine px_ 5 49 ?_ ?_ chaseref1_keptOf.D22 HT_.out ?_ ?_ ?_; rotate_left 2; intro w'; go_simp; with_reducible rfl; simp only [Act.put, s_t, s_z, s_s, i64_w, i32_w]; rfl
           refine px_ 6 50 ?_ ?_ chaseref1_keptOf.D26 HT_.out ?_ ?_ ?_; rotate_left 2; intro w'; go_simp; with_reducible rfl; simp only [Act.put, s_t, s_z, s_s, i64_w, i32_w]; rfl
           refine px_ 7 51 ?_ ?_ chaseref1_keptOf.D29 HT_.out ?_ ?_ ?_; rotate_left 2; intro w'; go_simp; with_reducible rfl; simp only [Act.put, s_t, s_z, s_s, i64_w, i32_w]; rfl
           refine px_ 8 52 ?_ ?_ chaseref1_keptOf.D37 HT_.out ?_ ?_ ?_; rotate_left 2; intro w'; go_simp; with_reducible rfl; simp only [Act.put, s_t, s_z, s_s, i64_w, i32_w]; rfl
           refine px_ 10 54 ?_ ?_ chaseref1_keptOf.D38 HT_.out ?_ ?_ ?_; rotate_left 2; intro w'; go_simp; with_reducible rfl; simp only [Act.put, s_t, s_z, s_s, i64_w, i32_w]; rfl
           refine px_ 13 57 ?_ ?_ chaseref1_keptOf.D39 HT_.out ?_ ?_ ?_; rotate_left 2; intro w'; go_simp; with_reducible rfl; simp only [Act.put, s_t, s_z, s_s, i64_w, i32_w]; rfl
           refine px_ 14 58 ?_ ?_ chaseref1_keptOf.D40 HT_.out ?_ ?_ ?_; rotate_left 2; intro w'; go_simp; with_reducible rfl; simp only [Act.put, s_t, s_z, s_s, i64_w, i32_w]; rfl
           refine px_ 15 59 ?_ ?_ chaseref1_keptOf.D41 HT_.out ?_ ?_ ?_; rotate_left 2; intro w'; go_simp; with_reducible rfl; simp only [Act.put, s_t, s_z, s_s, i64_w, i32_w]; rfl
           refine px_ 17 61 ?_ ?_ chaseref1_keptOf.D42 HT_.out ?_ ?_ ?_; rotate_left 2; intro w'; go_simp; with_reducible rfl; simp only [Act.put, s_t, s_z, s_s, i64_w, i32_w]; rfl
           refine px_ 18 62 ?_ ?_ chaseref1_keptOf.D43 HT_.out ?_ ?_ ?_; rotate_left 2; intro w'; go_simp; with_reducible rfl; simp only [Act.put, s_t, s_z, s_s, i64_w, i32_w]; rfl
           refine take_ (i := 3) (N := some 47) (v := ?_) (a' := ?_) chaseref1_keptOf.D50 rfl rfl (take_ofW HT_.out HW_.out (by kernel_rfl)) (fun _ _ _ h => h) (Or.inl ⟨by rfl, ?_⟩) hHeld ?_ ?_
           rotate_left
           ·rintro w' ⟨s0, s1, s2, s3, s4⟩
            go_simp
            with_reducible rfl
           rotate_left
           ·simp only [Act.put, s_t, s_z, s_s, i64_w, i32_w]
            rfl
           refine take_ (i := 9) (N := some 53) (v := ?_) (a' := ?_) chaseref1_keptOf.D54 rfl rfl (take_ofW HT_.out HW_.out (by kernel_rfl)) (fun _ _ _ h => h) (Or.inl ⟨by rfl, ?_⟩) hHeld ?_ ?_
           rotate_left
           ·rintro w' ⟨s0, s1, s2, s3, s4⟩
            go_simp
            with_reducible rfl
           rotate_left
           ·simp only [Act.put, s_t, s_z, s_s, i64_w, i32_w]
            rfl
           refine px_ 11 55 ?_ ?_ chaseref1_keptOf.D57 HT_.out ?_ ?_ ?_; rotate_left 2; intro w'; go_simp; with_reducible rfl; simp only [Act.put, s_t, s_z, s_s, i64_w, i32_w]; rfl
           refine take_ (i := 12) (N := some 56) (v := ?_) (a' := ?_) chaseref1_keptOf.D69 rfl rfl (take_ofW HT_.out HW_.out (by kernel_rfl)) (fun _ _ _ h => h) (Or.inl ⟨by rfl, ?_⟩) hHeld ?_ ?_
           rotate_left
           ·rintro w' ⟨s0, s1, s2, s3, s4⟩
            go_simp
            with_reducible rfl
           rotate_left
           ·simp only [Act.put, s_t, s_z, s_s, i64_w, i32_w]
            rfl
           refine take_ (i := 16) (N := some 60) (v := ?_) (a' := ?_) chaseref1_keptOf.D76 rfl rfl (take_ofW HT_.out HW_.out (by kernel_rfl)) (fun _ _ _ h => h) (Or.inl ⟨by rfl, ?_⟩) hHeld ?_ ?_
           rotate_left
           ·rintro w' ⟨s0, s1, s2, s3, s4⟩
            go_simp
            with_reducible rfl
           rotate_left
           ·simp only [Act.put, s_t, s_z, s_s, i64_w, i32_w]
            rfl
           refine px_ 19 63 ?_ ?_ chaseref1_keptOf.D80 HT_.out ?_ ?_ ?_; rotate_left 2; intro w'; go_simp; with_reducible rfl; simp only [Act.put, s_t, s_z, s_s, i64_w, i32_w]; rfl
           refine take_ (i := 20) (N := some 64) (v := ?_) (a' := ?_) chaseref1_keptOf.D83 rfl rfl (take_ofW HT_.out HW_.out (by kernel_rfl)) (fun _ _ _ h => h) (Or.inl ⟨by rfl, ?_⟩) hHeld ?_ ?_
           rotate_left
           ·rintro w' ⟨s0, s1, s2, s3, s4⟩
            go_simp
            with_reducible rfl
           rotate_left
           ·simp only [Act.put, s_t, s_z, s_s, i64_w, i32_w]
            rfl
           refine px_ 21 65 ?_ ?_ chaseref1_keptOf.D86 HT_.out ?_ ?_ ?_; rotate_left 2; intro w'; go_simp; with_reducible rfl; simp only [Act.put, s_t, s_z, s_s, i64_w, i32_w]; rfl
           refine px_ 22 66 ?_ ?_ chaseref1_keptOf.D90 HT_.out ?_ ?_ ?_; rotate_left 2; intro w'; go_simp; with_reducible rfl; simp only [Act.put, s_t, s_z, s_s, i64_w, i32_w]; rfl
           refine last_ (i := 23) (N := none) chaseref1_keptOf.D99 rfl rfl (one_of HT_.out (by kernel_rfl)) (by decide) (fun K hK => ?_)
           refine skip_ (w1 := ?_) (by rfl) rfl ?_ ?_
           rotate_left
           ·go_simp
            rfl
           refine hK.out _ _ ?_
           clear hK K
           refine done_ (done_of HT_.out (by kernel_rfl)) ?_
           try go_wp2
           have n0_ : Aside0 (Kd.S (Kd.slice 3 (Kd.int .i64)) 22 (w42.setCell ⟨go34, (x8_3 : Int).toNat, none⟩ (.int .i64 ji32)) w.heap.size (fun _ => True) (.slice (some ad141) x5_3.length co8) y148) := ⟨by (with_reducible repeat (first | apply q1_ | apply q2_ | apply q3_)); exact HQ43.out⟩
           have n1_ : Aside0 (Below w.heap.size w (w42.setCell ⟨go34, (x8_3 : Int).toNat, none⟩ (.int .i64 ji32))) := ⟨by repeat (first | (with_reducible first | exact HB.out | apply b3_ | apply b1_ | apply b2_ | refine below_set ?_ GB34.out) | exact HB.out)⟩
           (try clear HO_5)
           (try clear HB)
           generalize (w42.setCell ⟨go34, (x8_3 : Int).toNat, none⟩ (.int .i64 ji32)) = w45 at n0_ n1_ ⊢
           have HO_5 := n0_; have HB := n1_; clear n0_ n1_
           have n0_ := am_ (q3_ HO_5.out)
           have n1_ := am_ (b2_ HB.out)
           clear HO_5; clear HB; have HO_5 := n0_; have HB := n1_; clear n0_ n1_; have p149 : 0 ≤ (x7_2 : Int) := ode_; have q149 : x7_2 < (l0.length : Int) := ode_
           obtain ⟨ad149, e149, hx149_0⟩ := Kd.at_string HR0.out x7_2 p149 q149
           have hw149_0 := hx149_0
           cases e149
           first | replace hx149_0 := (HB.out.cell (World.block_lt_of_cell? w _ hx149_0)).trans hx149_0 | skip
           replace p149 := eq_true p149; replace q149 := eq_true q149; have p150 : 0 ≤ (x8_3 : Int) := ode_; have q150 : x8_3 < (l1.length : Int) := ode_
           obtain ⟨ad150, e150, hx150_0⟩ := Kd.at_string HR1.out x8_3 p150 q150
           have hw150_0 := hx150_0
           cases e150
           first | replace hx150_0 := (HB.out.cell (World.block_lt_of_cell? w _ hx150_0)).trans hx150_0 | skip
           replace p150 := eq_true p150; replace q150 := eq_true q150
           refine start_ (n := 9) (S := fun w' => w'.cell? (ad149.add (x7_2).toNat) = some (.string (rdOf ByteArray.empty l0 x7_2)) ∧ w'.cell? (ad150.add (x8_3).toNat) = some (.string (rdOf ByteArray.empty l1 x8_3))) (ds := []) chaseref1_keptOf.D3 (by kernel_rfl) rfl rfl ⟨((HB.out.cell (World.block_lt_of_cell? w _ hw149_0)).trans hw149_0), ((HB.out.cell (World.block_lt_of_cell? w _ hw150_0)).trans hw150_0)⟩ (fun hHeld => ?_); refine with_tabW chaseref1_keptOf.tab14 chaseref1_keptOf.bits14 (fun HT_ HW_ => ?_)
           generalize w45.drew = w46 at HO_5 HB HQ43 hx149_0 hx150_0 hHeld ⊢
           refine px_ 0 67 ?_ ?_ chaseref1_keptOf.D7 HT_.out ?_ ?_ ?_; rotate_left 2; intro w'; go_simp; with_reducible rfl; simp only [Act.put, s_t, s_z, s_s, i64_w, i32_w]; rfl
           refine px_ 1 68 ?_ ?_ chaseref1_keptOf.D11 HT_.out ?_ ?_ ?_; rotate_left 2; intro w'; go_simp; with_reducible rfl; simp only [Act.put, s_t, s_z, s_s, i64_w, i32_w]; rfl
           refine px_ 2 69 ?_ ?_ chaseref1_keptOf.D15 HT_.out ?_ ?_ ?_; rotate_left 2; intro w'; go_simp; with_reducible rfl; simp only [Act.put, s_t, s_z, s_s, i64_w, i32_w]; rfl
           refine px_ 4 71 ?_ ?_ chaseref1_keptOf.D19 HT_.out ?_ ?_ ?_; rotate_left 2; intro w'; go_simp; with_reducible rfl; simp only [Act.put, s_t, s_z, s_s, i64_w, i32_w]; rfl
           refine px_ 5 72 ?_ ?_ chaseref1_keptOf.D23 HT_.out ?_ ?_ ?_; rotate_left 2; intro w'; go_simp; with_reducible rfl; simp only [Act.put, s_t, s_z, s_s, i64_w, i32_w]; rfl
           refine px_ 6 73 ?_ ?_ chaseref1_keptOf.D27 HT_.out ?_ ?_ ?_; rotate_left 2; intro w'; go_simp; with_reducible rfl; simp only [Act.put, s_t, s_z, s_s, i64_w, i32_w]; rfl
           refine take_ (i := 3) (N := some 70) (v := ?_) (a' := ?_) chaseref1_keptOf.D45 rfl rfl (take_ofW HT_.out HW_.out (by kernel_rfl)) (fun _ _ _ h => h) (Or.inl ⟨by rfl, ?_⟩) hHeld ?_ ?_
           rotate_left
           ·rintro w' ⟨s0, s1⟩
            go_simp
            with_reducible rfl
           rotate_left
           ·simp only [Act.put, s_t, s_z, s_s, i64_w, i32_w]
            rfl
           refine take_ (i := 7) (N := some 74) (v := ?_) (a' := ?_) chaseref1_keptOf.D48 rfl rfl (take_ofW HT_.out HW_.out (by kernel_rfl)) (fun _ _ _ h => h) (Or.inl ⟨by rfl, ?_⟩) hHeld ?_ ?_
           rotate_left
           ·rintro w' ⟨s0, s1⟩
            go_simp
            with_reducible rfl
           rotate_left
           ·simp only [Act.put, s_t, s_z, s_s, i64_w, i32_w]
            rfl
           refine px_ 8 75 ?_ ?_ chaseref1_keptOf.D100 HT_.out ?_ ?_ ?_; rotate_left 2; intro w'; go_simp; with_reducible rfl; simp only [Act.put, s_t, s_z, s_s, i64_w, i32_w]; rfl
           refine done_ (done_of HT_.out (by kernel_rfl)) ?_
           try go_wp2
           have n0_ := am_ (q3_ HO_5.out)
           have n1_ := am_ (b2_ HB.out)
           clear HO_5; clear HB; have HO_5 := n0_; have HB := n1_; clear n0_ n1_; have p151 : 0 ≤ (x7_2 : Int) := ode_
           have q151 : x7_2 < (y148.length : Int) := (by have h_ : (x7_2 : Int) < ((x5_3.length : Int) : Int) := ode_; first | (have e_ := (Kd.S_reads' HO_5.out).1; omega) | simpa only [Ny148.out, List.length_set] using h_)
           have ql151 : ((x7_2 : Int) < ((x5_3.length : Int) : Int)) = True := eq_true (ode_)
           obtain ⟨ad151, A151_0, c151_0, e151, hx151_0, hl151_0, hi151_0⟩ := at_L2 (Kd.S_reads' HO_5.out).2.2 x7_2 p151 q151
           obtain rfl : ad141 = ad151 := (by injection e151)
           obtain ⟨ce151, hce151, hMe151, hcc151⟩ := Kd.S_get HO_5.out [] x7_2 p151 (by first | exact q151 | exact ode_ | (have e_ := (Kd.S_reads' HO_5.out).1; omega))
           obtain ⟨ve151_0, rfl, ge151_0⟩ := hMe151
           have hv151_0 := hcc151 0 _ rfl
           rw [Nat.add_zero, show ((Kd.slice 3 (Kd.int .i64))).sz = 1 from rfl, Nat.mul_one] at hv151_0
           replace hv151_0 := Option.some.inj (hv151_0.symm.trans hx151_0)
           rw [hv151_0] at ge151_0
           have HL151_0 := am_ (show Kd.R (Kd.int .i64) 3 _ _ _ _ (rd_L2 y148 x7_2) from ge151_0)
           clear hv151_0 ge151_0; have HX151_0 := am_ hx151_0; clear hcc151 hce151; have HR151_0 := am_ hi151_0; have HC151_0 := am_ hl151_0; clear hi151_0 hl151_0; replace p151 := eq_true p151; replace q151 := eq_true q151; have p152 : 0 ≤ (x7_2 : Int) := ode_
           have q152 : x7_2 < (y148.length : Int) := (by have h_ : (x7_2 : Int) < ((x5_3.length : Int) : Int) := ode_; first | (have e_ := (Kd.S_reads' HO_5.out).1; omega) | simpa only [Ny148.out, List.length_set] using h_)
           have ql152 : ((x7_2 : Int) < ((x5_3.length : Int) : Int)) = True := eq_true (ode_)
           obtain ⟨ad152, A152_0, c152_0, e152, hx152_0, hl152_0, hi152_0⟩ := at_L2 (Kd.S_reads' HO_5.out).2.2 x7_2 p152 q152
           obtain rfl : ad141 = ad152 := (by injection e152)
           obtain ⟨ce152, hce152, hMe152, hcc152⟩ := Kd.S_get HO_5.out [] x7_2 p152 (by first | exact q152 | exact ode_ | (have e_ := (Kd.S_reads' HO_5.out).1; omega))
           obtain ⟨ve152_0, rfl, ge152_0⟩ := hMe152
           have hv152_0 := hcc152 0 _ rfl
           rw [Nat.add_zero, show ((Kd.slice 3 (Kd.int .i64))).sz = 1 from rfl, Nat.mul_one] at hv152_0
           replace hv152_0 := Option.some.inj (hv152_0.symm.trans hx152_0)
           rw [hv152_0] at ge152_0
           have HL152_0 := am_ (show Kd.R (Kd.int .i64) 3 _ _ _ _ (rd_L2 y148 x7_2) from ge152_0)
           clear hv152_0 ge152_0; have HX152_0 := am_ hx152_0; clear hcc152 hce152; have HR152_0 := am_ hi152_0; have HC152_0 := am_ hl152_0; clear hi152_0 hl152_0; replace p152 := eq_true p152; replace q152 := eq_true q152
           have ea_ := Option.some.inj (hx151_0.symm.trans hx152_0)
           injection ea_ with ea_ en_ ec_; subst ea_; subst ec_; clear en_; have p153 : 0 ≤ (x8_3 : Int) := ode_; have q153 : x8_3 < ((rd_L2 y148 x7_2).length : Int) := ode_
           obtain ⟨ad153, e153, hx153_0⟩ := Kd.at_int (by repeat (first | (with_reducible first | exact HR152_0.out | refine Kd.C_alloc ?_ _ | refine Kd.C_drewN ?_ _ | refine Kd.C_drew ?_) | exact HR152_0.out)) x8_3 p153 q153
           cases e153; replace p153 := eq_true p153; replace q153 := eq_true q153; have p154 : 0 ≤ ((ji24) : Int) := ode_
           have q154 : (ji24) < (y148.length : Int) := (by have h_ : ((ji24) : Int) < ((x5_3.length : Int) : Int) := ode_; first | (have e_ := (Kd.S_reads' HO_5.out).1; omega) | simpa only [Ny148.out, List.length_set] using h_)
           have ql154 : (((ji24) : Int) < ((x5_3.length : Int) : Int)) = True := eq_true (ode_)
           obtain ⟨ad154, A154_0, c154_0, e154, hx154_0, hl154_0, hi154_0⟩ := at_L2 (Kd.S_reads' HO_5.out).2.2 (ji24) p154 q154
           obtain rfl : ad141 = ad154 := (by injection e154)
           obtain ⟨ce154, hce154, hMe154, hcc154⟩ := Kd.S_get HO_5.out [] (ji24) p154 (by first | exact q154 | exact ode_ | (have e_ := (Kd.S_reads' HO_5.out).1; omega))
           obtain ⟨ve154_0, rfl, ge154_0⟩ := hMe154
           have hv154_0 := hcc154 0 _ rfl
           rw [Nat.add_zero, show ((Kd.slice 3 (Kd.int .i64))).sz = 1 from rfl, Nat.mul_one] at hv154_0
           replace hv154_0 := Option.some.inj (hv154_0.symm.trans hx154_0)
           rw [hv154_0] at ge154_0
           have HL154_0 := am_ (show Kd.R (Kd.int .i64) 3 _ _ _ _ (rd_L2 y148 (ji24)) from ge154_0)
           clear hv154_0 ge154_0; have HX154_0 := am_ hx154_0; clear hcc154 hce154; have HR154_0 := am_ hi154_0; have HC154_0 := am_ hl154_0; clear hi154_0 hl154_0; replace p154 := eq_true p154; replace q154 := eq_true q154; have p155 : 0 ≤ ((ji29) : Int) := ode_; have q155 : (ji29) < ((rd_L2 y148 (ji24)).length : Int) := ode_
           obtain ⟨ad155, e155, hx155_0⟩ := Kd.at_int (by repeat (first | (with_reducible first | exact HR154_0.out | refine Kd.C_alloc ?_ _ | refine Kd.C_drewN ?_ _ | refine Kd.C_drew ?_) | exact HR154_0.out)) (ji29) p155 q155
           cases e155; replace p155 := eq_true p155; replace q155 := eq_true q155; have p41 : 0 ≤ (x8_3 : Int) := ode_; have q41 : (x8_3 : Int) < (((rd_L2 y148 x7_2).length : Int) : Int) := ode_
           obtain ⟨go41, co41, eo41, gb41, gl41, cl41, HG41⟩ := Kd.R_form HL151_0.out (by omega)
           (first | cases eo41 | (injection eo41 with ea_ en_ ec_; (first | subst ea_ | (injection ea_ with ea_; subst ea_)); subst ec_; clear en_))
           have GB41 := am_ gb41; have GG41 := am_ HG41; clear gb41 gl41 HG41; (first | simp only [add_plain] at hx153_0 | skip)
           obtain ⟨hx41_0, hf41_0⟩ := Kd.R_celln 0 HL151_0.out (x8_3 : Int) p41 q41
           replace p41 := eq_true p41; replace q41 := eq_true q41
           have hq48 : (x7_2 : Int) < (y148.length : Int) := (by have h_ : (x7_2 : Int) < ((x5_3.length : Int) : Int) := ode_; first | exact h_ | (have e_ := (Kd.S_reads' HO_5.out).1; omega) | simpa only [Ny148.out, List.length_set] using h_)
           obtain ⟨oki48, ce48, hcl48, hM48, hcc48, hok48, hbk48⟩ := Kd.S_borrow HO_5.out [] (x7_2 : Int) (ode_) (by first | exact hq48 | exact ode_ | (have e_ := (Kd.S_reads' HO_5.out).1; omega))
           obtain ⟨ve48_0, rfl, ge48_0⟩ := hM48
           have hv48 := hcc48 0 _ rfl
           rw [Nat.add_zero, show ((Kd.slice 3 (Kd.int .i64))).sz = 1 from rfl, Nat.mul_one] at hv48
           replace hv48 := Option.some.inj (hv48.symm.trans HX151_0.out)
           subst hv48; clear hcc48 hcl48
           replace ge48_0 := (show Kd.R (Kd.int .i64) 3 _ _ _ _ (rd_L2 y148 x7_2) from ge48_0)
           have HP48 := Kd.R_putg ge48_0 (x8_3 : Int) ji40
           rw [← Ny156.out] at HP48
           have HS48 := hbk48 HP48.2 (fun k_ e_ => by injection e_ with e_; subst e_; exact ge48_0.1 _ rfl) (x' := y156) (Kd.M_row HP48.1)
           rw [← Ny158.out] at HS48
           have HQ48 := am_ HS48; clear HP48 HS48 hbk48 hok48
           refine start_ (n := 25) (S := fun w' => w'.cell? (ad141.add (x7_2).toNat) = some (.slice (some ⟨go41, 0, none⟩) (rd_L2 y148 x7_2).length c151_0) ∧ w'.cell? (ad141.add (x7_2).toNat) = some (.slice (some ⟨go41, 0, none⟩) (rd_L2 y148 x7_2).length c151_0) ∧ w'.cell? ⟨go41, (x8_3).toNat, none⟩ = some (.int .i64 (rd (rd_L2 y148 x7_2) x8_3)) ∧ w'.cell? (ad141.add ((ji24)).toNat) = some (.slice (some ad155) (rd_L2 y148 (ji24)).length c154_0) ∧ w'.cell? (ad155.add ((ji29)).toNat) = some (.int .i64 (rd (rd_L2 y148 (ji24)) (ji29)))) (ds := [24]) chaseref1_keptOf.D1 (by kernel_rfl) rfl rfl ⟨hx151_0, hx152_0, hx153_0, hx154_0, hx155_0⟩ (fun hHeld => ?_); refine with_tabW chaseref1_keptOf.tab15 chaseref1_keptOf.bits15 (fun HT_ HW_ => ?_)
           generalize w46.drew = w47 at HO_5 HB GG41 HL151_0 HL152_0 HL154_0 HQ48 HR151_0 HR152_0 HR154_0 HX151_0 HX152_0 HX154_0 hf41_0 hx151_0 hx152_0 hx153_0 hx154_0 hx155_0 hx41_0 hHeld ⊢
           refine px_ 0 76 ?_ ?_ chaseref1_keptOf.D5 HT_.out ?_ ?_ ?_; rotate_left 2; intro w'; go_simp; with_reducible rfl; simp only [Act.put, s_t, s_z, s_s, i64_w, i32_w]; rfl
           refine px_ 1 77 ?_ ?_ chaseref1_keptOf.D9 HT_.out ?_ ?_ ?_; rotate_left 2; intro w'; go_simp; with_reducible rfl; simp only [Act.put, s_t, s_z, s_s, i64_w, i32_w]; rfl
           refine px_ 2 78 ?_ ?_ chaseref1_keptOf.D13 HT_.out ?_ ?_ ?_; rotate_left 2; intro w'; go_simp; with_reducible rfl; simp only [Act.put, s_t, s_z, s_s, i64_w, i32_w]; rfl
           refine px_ 4 80 ?_ ?_ chaseref1_keptOf.D17 HT_.out ?_ ?_ ?_; rotate_left 2; intro w'; go_simp; with_reducible rfl; simp only [Act.put, s_t, s_z, s_s, i64_w, i32_w]; rfl
           refine px_ 5 81 ?_ ?_ chaseref1_keptOf.D21 HT_.out ?_ ?_ ?_; rotate_left 2; intro w'; go_simp; with_reducible rfl; simp only [Act.put, s_t, s_z, s_s, i64_w, i32_w]; rfl
           refine px_ 6 82 ?_ ?_ chaseref1_keptOf.D25 HT_.out ?_ ?_ ?_; rotate_left 2; intro w'; go_simp; with_reducible rfl; simp only [Act.put, s_t, s_z, s_s, i64_w, i32_w]; rfl
           refine px_ 7 83 ?_ ?_ chaseref1_keptOf.D28 HT_.out ?_ ?_ ?_; rotate_left 2; intro w'; go_simp; with_reducible rfl; simp only [Act.put, s_t, s_z, s_s, i64_w, i32_w]; rfl
           refine px_ 9 85 ?_ ?_ chaseref1_keptOf.D30 HT_.out ?_ ?_ ?_; rotate_left 2; intro w'; go_simp; with_reducible rfl; simp only [Act.put, s_t, s_z, s_s, i64_w, i32_w]; rfl
           refine px_ 12 88 ?_ ?_ chaseref1_keptOf.D31 HT_.out ?_ ?_ ?_; rotate_left 2; intro w'; go_simp; with_reducible rfl; simp only [Act.put, s_t, s_z, s_s, i64_w, i32_w]; rfl
           refine px_ 13 89 ?_ ?_ chaseref1_keptOf.D32 HT_.out ?_ ?_ ?_; rotate_left 2; intro w'; go_simp; with_reducible rfl; simp only [Act.put, s_t, s_z, s_s, i64_w, i32_w]; rfl
           refine px_ 14 90 ?_ ?_ chaseref1_keptOf.D33 HT_.out ?_ ?_ ?_; rotate_left 2; intro w'; go_simp; with_reducible rfl; simp only [Act.put, s_t, s_z, s_s, i64_w, i32_w]; rfl
           refine px_ 15 91 ?_ ?_ chaseref1_keptOf.D34 HT_.out ?_ ?_ ?_; rotate_left 2; intro w'; go_simp; with_reducible rfl; simp only [Act.put, s_t, s_z, s_s, i64_w, i32_w]; rfl
           refine px_ 17 93 ?_ ?_ chaseref1_keptOf.D35 HT_.out ?_ ?_ ?_; rotate_left 2; intro w'; go_simp; with_reducible rfl; simp only [Act.put, s_t, s_z, s_s, i64_w, i32_w]; rfl
           refine px_ 18 94 ?_ ?_ chaseref1_keptOf.D36 HT_.out ?_ ?_ ?_; rotate_left 2; intro w'; go_simp; with_reducible rfl; simp only [Act.put, s_t, s_z, s_s, i64_w, i32_w]; rfl
           refine take_ (i := 3) (N := some 79) (v := ?_) (a' := ?_) chaseref1_keptOf.D47 rfl rfl (take_ofW HT_.out HW_.out (by kernel_rfl)) (fun _ _ _ h => h) (Or.inl ⟨by rfl, ?_⟩) hHeld ?_ ?_
           rotate_left
           ·rintro w' ⟨s0, s1, s2, s3, s4⟩
            go_simp
            with_reducible rfl
           rotate_left
           ·simp only [Act.put, s_t, s_z, s_s, i64_w, i32_w]
            rfl
           refine take_ (i := 8) (N := some 84) (v := ?_) (a' := ?_) chaseref1_keptOf.D52 rfl rfl (take_ofW HT_.out HW_.out (by kernel_rfl)) (fun _ _ _ h => h) (Or.inl ⟨by rfl, ?_⟩) hHeld ?_ ?_
           rotate_left
           ·rintro w' ⟨s0, s1, s2, s3, s4⟩
            go_simp
            with_reducible rfl
           rotate_left
           ·simp only [Act.put, s_t, s_z, s_s, i64_w, i32_w]
            rfl
           refine px_ 10 86 ?_ ?_ chaseref1_keptOf.D55 HT_.out ?_ ?_ ?_; rotate_left 2; intro w'; go_simp; with_reducible rfl; simp only [Act.put, s_t, s_z, s_s, i64_w, i32_w]; rfl
           refine take_ (i := 11) (N := some 87) (v := ?_) (a' := ?_) chaseref1_keptOf.D68 rfl rfl (take_ofW HT_.out HW_.out (by kernel_rfl)) (fun _ _ _ h => h) (Or.inl ⟨by rfl, ?_⟩) hHeld ?_ ?_
           rotate_left
           ·rintro w' ⟨s0, s1, s2, s3, s4⟩
            go_simp
            with_reducible rfl
           rotate_left
           ·simp only [Act.put, s_t, s_z, s_s, i64_w, i32_w]
            rfl
           refine take_ (i := 16) (N := some 92) (v := ?_) (a' := ?_) chaseref1_keptOf.D75 rfl rfl (take_ofW HT_.out HW_.out (by kernel_rfl)) (fun _ _ _ h => h) (Or.inl ⟨by rfl, ?_⟩) hHeld ?_ ?_
           rotate_left
           ·rintro w' ⟨s0, s1, s2, s3, s4⟩
            go_simp
            with_reducible rfl
           rotate_left
           ·simp only [Act.put, s_t, s_z, s_s, i64_w, i32_w]
            rfl
           refine px_ 19 95 ?_ ?_ chaseref1_keptOf.D79 HT_.out ?_ ?_ ?_; rotate_left 2; intro w'; go_simp; with_reducible rfl; simp only [Act.put, s_t, s_z, s_s, i64_w, i32_w]; rfl
           refine take_ (i := 20) (N := some 96) (v := ?_) (a' := ?_) chaseref1_keptOf.D82 rfl rfl (take_ofW HT_.out HW_.out (by kernel_rfl)) (fun _ _ _ h => h) (Or.inl ⟨by rfl, ?_⟩) hHeld ?_ ?_
           rotate_left
           ·rintro w' ⟨s0, s1, s2, s3, s4⟩
            go_simp
            with_reducible rfl
           rotate_left
           ·simp only [Act.put, s_t, s_z, s_s, i64_w, i32_w]
            rfl
           refine px_ 21 97 ?_ ?_ chaseref1_keptOf.D85 HT_.out ?_ ?_ ?_; rotate_left 2; intro w'; go_simp; with_reducible rfl; simp only [Act.put, s_t, s_z, s_s, i64_w, i32_w]; rfl
           refine px_ 22 98 ?_ ?_ chaseref1_keptOf.D88 HT_.out ?_ ?_ ?_; rotate_left 2; intro w'; go_simp; with_reducible rfl; simp only [Act.put, s_t, s_z, s_s, i64_w, i32_w]; rfl
           refine px_ 23 99 ?_ ?_ chaseref1_keptOf.D92 HT_.out ?_ ?_ ?_; rotate_left 2; intro w'; go_simp; with_reducible rfl; simp only [Act.put, s_t, s_z, s_s, i64_w, i32_w]; rfl
           refine last_ (i := 24) (N := none) chaseref1_keptOf.D98 rfl rfl (one_of HT_.out (by kernel_rfl)) (by decide) (fun K hK => ?_)
           refine skip_ (w1 := ?_) (by rfl) rfl ?_ ?_
           rotate_left
           ·go_simp
            rfl
           refine hK.out _ _ ?_
           clear hK K
           refine done_ (done_of HT_.out (by kernel_rfl)) ?_
           try go_wp2
           (try simp only [← hl5_3])
           go_roundg k3
           case measure => have := HK1.out; have := HK2.out; have := HK3.out; omega
           case rel => exact ⟨(y158), (wrap64 (x8_3 - 1)), (by first | rfl | (simp; done) | (simp [*]; done)), H', ⟨by have := HK1.out; have := HK2.out; have := HK3.out; omega⟩, ⟨by (try simp only [hl5_1]); (try simp only [hl5_2]); (try simp only [hl5_3]); (with_reducible repeat (first | apply q1_ | apply q2_ | apply q3_)); exact HQ48.out⟩, ⟨by repeat (first | (with_reducible first | exact HB.out | apply b3_ | apply b1_ | apply b2_ | refine below_set ?_ GB41.out) | exact HB.out)⟩⟩
          ·rw [if_neg c37] at H
           have c37b0 : ((rdOf ByteArray.empty l0 x7_2).toList == (rdOf ByteArray.empty l1 x8_3).toList) = false := beq_eq_false_iff_ne.mpr c37
           have c37b1 : ((rdOf ByteArray.empty l0 x7_2).toList != (rdOf ByteArray.empty l1 x8_3).toList) = true := bne_iff_ne.mpr c37
           have H' := am_ H
           clear H
           try go_wp2
           have n0_ := am_ (q3_ HO_5.out)
           have n1_ := am_ (b2_ HB.out)
           clear HO_5; clear HB; have HO_5 := n0_; have HB := n1_; clear n0_ n1_; have p141 : 0 ≤ (x7_2 : Int) := ode_; have q141 : x7_2 < (x5_3.length : Int) := ode_
           obtain ⟨ad141, A141_0, c141_0, e141, hx141_0, hl141_0, hi141_0⟩ := at_L2 (Kd.S_reads' HO_5.out).2.2 x7_2 p141 q141
           cases e141
           obtain ⟨ce141, hce141, hMe141, hcc141⟩ := Kd.S_get HO_5.out [] x7_2 p141 (by first | exact q141 | exact ode_ | (have e_ := (Kd.S_reads' HO_5.out).1; omega))
           obtain ⟨ve141_0, rfl, ge141_0⟩ := hMe141
           have hv141_0 := hcc141 0 _ rfl
           rw [Nat.add_zero, show ((Kd.slice 3 (Kd.int .i64))).sz = 1 from rfl, Nat.mul_one] at hv141_0
           replace hv141_0 := Option.some.inj (hv141_0.symm.trans hx141_0)
           rw [hv141_0] at ge141_0
           have HL141_0 := am_ (show Kd.R (Kd.int .i64) 3 _ _ _ _ (rd_L2 x5_3 x7_2) from ge141_0)
           clear hv141_0 ge141_0; have HX141_0 := am_ hx141_0; clear hcc141 hce141; have HR141_0 := am_ hi141_0; have HC141_0 := am_ hl141_0; clear hi141_0 hl141_0; replace p141 := eq_true p141; replace q141 := eq_true q141; have p142 : 0 ≤ ((ji24) : Int) := ode_; have q142 : (ji24) < (x5_3.length : Int) := ode_
           obtain ⟨ad142, A142_0, c142_0, e142, hx142_0, hl142_0, hi142_0⟩ := at_L2 (Kd.S_reads' HO_5.out).2.2 (ji24) p142 q142
           obtain rfl : ad141 = ad142 := (by injection e142)
           obtain ⟨ce142, hce142, hMe142, hcc142⟩ := Kd.S_get HO_5.out [] (ji24) p142 (by first | exact q142 | exact ode_ | (have e_ := (Kd.S_reads' HO_5.out).1; omega))
           obtain ⟨ve142_0, rfl, ge142_0⟩ := hMe142
           have hv142_0 := hcc142 0 _ rfl
           rw [Nat.add_zero, show ((Kd.slice 3 (Kd.int .i64))).sz = 1 from rfl, Nat.mul_one] at hv142_0
           replace hv142_0 := Option.some.inj (hv142_0.symm.trans hx142_0)
           rw [hv142_0] at ge142_0
           have HL142_0 := am_ (show Kd.R (Kd.int .i64) 3 _ _ _ _ (rd_L2 x5_3 (ji24)) from ge142_0)
           clear hv142_0 ge142_0; have HX142_0 := am_ hx142_0; clear hcc142 hce142; have HR142_0 := am_ hi142_0; have HC142_0 := am_ hl142_0; clear hi142_0 hl142_0; replace p142 := eq_true p142; replace q142 := eq_true q142; have p143 : 0 ≤ (x8_3 : Int) := ode_; have q143 : x8_3 < ((rd_L2 x5_3 (ji24)).length : Int) := ode_
           obtain ⟨ad143, e143, hx143_0⟩ := Kd.at_int (by repeat (first | (with_reducible first | exact HR142_0.out | refine Kd.C_alloc ?_ _ | refine Kd.C_drewN ?_ _ | refine Kd.C_drew ?_) | exact HR142_0.out)) x8_3 p143 q143
           cases e143; replace p143 := eq_true p143; replace q143 := eq_true q143; have p144 : 0 ≤ (x7_2 : Int) := ode_; have q144 : x7_2 < (x5_3.length : Int) := ode_
           obtain ⟨ad144, A144_0, c144_0, e144, hx144_0, hl144_0, hi144_0⟩ := at_L2 (Kd.S_reads' HO_5.out).2.2 x7_2 p144 q144
           obtain rfl : ad141 = ad144 := (by injection e144)
           obtain ⟨ce144, hce144, hMe144, hcc144⟩ := Kd.S_get HO_5.out [] x7_2 p144 (by first | exact q144 | exact ode_ | (have e_ := (Kd.S_reads' HO_5.out).1; omega))
           obtain ⟨ve144_0, rfl, ge144_0⟩ := hMe144
           have hv144_0 := hcc144 0 _ rfl
           rw [Nat.add_zero, show ((Kd.slice 3 (Kd.int .i64))).sz = 1 from rfl, Nat.mul_one] at hv144_0
           replace hv144_0 := Option.some.inj (hv144_0.symm.trans hx144_0)
           rw [hv144_0] at ge144_0
           have HL144_0 := am_ (show Kd.R (Kd.int .i64) 3 _ _ _ _ (rd_L2 x5_3 x7_2) from ge144_0)
           clear hv144_0 ge144_0; have HX144_0 := am_ hx144_0; clear hcc144 hce144; have HR144_0 := am_ hi144_0; have HC144_0 := am_ hl144_0; clear hi144_0 hl144_0; replace p144 := eq_true p144; replace q144 := eq_true q144
           have ea_ := Option.some.inj (hx141_0.symm.trans hx144_0)
           injection ea_ with ea_ en_ ec_; subst ea_; subst ec_; clear en_; have p145 : 0 ≤ ((ji29) : Int) := ode_; have q145 : (ji29) < ((rd_L2 x5_3 x7_2).length : Int) := ode_
           obtain ⟨ad145, e145, hx145_0⟩ := Kd.at_int (by repeat (first | (with_reducible first | exact HR144_0.out | refine Kd.C_alloc ?_ _ | refine Kd.C_drewN ?_ _ | refine Kd.C_drew ?_) | exact HR144_0.out)) (ji29) p145 q145
           cases e145; replace p145 := eq_true p145; replace q145 := eq_true q145; have p34 : 0 ≤ (x8_3 : Int) := ode_; have q34 : (x8_3 : Int) < (((rd_L2 x5_3 x7_2).length : Int) : Int) := ode_
           obtain ⟨go34, co34, eo34, gb34, gl34, cl34, HG34⟩ := Kd.R_form HL141_0.out (by omega)
           (first | cases eo34 | (injection eo34 with ea_ en_ ec_; (first | subst ea_ | (injection ea_ with ea_; subst ea_)); subst ec_; clear en_))
           have GB34 := am_ gb34; have GG34 := am_ HG34; clear gb34 gl34 HG34; (first | simp only [add_plain] at hx145_0 | skip)
           obtain ⟨hx34_0, hf34_0⟩ := Kd.R_celln 0 HL141_0.out (x8_3 : Int) p34 q34
           replace p34 := eq_true p34; replace q34 := eq_true q34
           have hq51 : (x7_2 : Int) < (x5_3.length : Int) := (by have h_ : (x7_2 : Int) < ((x5_3.length : Int) : Int) := ode_; first | exact h_ | (have e_ := (Kd.S_reads' HO_5.out).1; omega) | simpa only [List.length_set, List.length_set] using h_)
           obtain ⟨oki51, ce51, hcl51, hM51, hcc51, hok51, hbk51⟩ := Kd.S_borrow HO_5.out [] (x7_2 : Int) (ode_) (by first | exact hq51 | exact ode_ | (have e_ := (Kd.S_reads' HO_5.out).1; omega))
           obtain ⟨ve51_0, rfl, ge51_0⟩ := hM51
           have hv51 := hcc51 0 _ rfl
           rw [Nat.add_zero, show ((Kd.slice 3 (Kd.int .i64))).sz = 1 from rfl, Nat.mul_one] at hv51
           replace hv51 := Option.some.inj (hv51.symm.trans HX141_0.out)
           subst hv51; clear hcc51 hcl51
           replace ge51_0 := (show Kd.R (Kd.int .i64) 3 _ _ _ _ (rd_L2 x5_3 x7_2) from ge51_0)
           have HP51 := Kd.R_putg ge51_0 (x8_3 : Int) ji32
           rw [← Ny146.out] at HP51
           have HS51 := hbk51 HP51.2 (fun k_ e_ => by injection e_ with e_; subst e_; exact ge51_0.1 _ rfl) (x' := y146) (Kd.M_row HP51.1)
           rw [← Ny148.out] at HS51
           have HQ51 := am_ HS51; clear HP51 HS51 hbk51 hok51
           refine start_ (n := 24) (S := fun w' => w'.cell? (ad141.add (x7_2).toNat) = some (.slice (some ⟨go34, 0, none⟩) (rd_L2 x5_3 x7_2).length c141_0) ∧ w'.cell? (ad141.add ((ji24)).toNat) = some (.slice (some ad143) (rd_L2 x5_3 (ji24)).length c142_0) ∧ w'.cell? (ad143.add (x8_3).toNat) = some (.int .i64 (rd (rd_L2 x5_3 (ji24)) x8_3)) ∧ w'.cell? (ad141.add (x7_2).toNat) = some (.slice (some ⟨go34, 0, none⟩) (rd_L2 x5_3 x7_2).length c141_0) ∧ w'.cell? ⟨go34, ((ji29)).toNat, none⟩ = some (.int .i64 (rd (rd_L2 x5_3 x7_2) (ji29)))) (ds := [23]) chaseref1_keptOf.D2 (by kernel_rfl) rfl rfl ⟨hx141_0, hx142_0, hx143_0, hx144_0, hx145_0⟩ (fun hHeld => ?_); refine with_tabW chaseref1_keptOf.tab13 chaseref1_keptOf.bits13 (fun HT_ HW_ => ?_)
           generalize wr.drew = w50 at HO_5 HB GG34 HL141_0 HL142_0 HL144_0 HQ51 HR141_0 HR142_0 HR144_0 HX141_0 HX142_0 HX144_0 hf34_0 hx141_0 hx142_0 hx143_0 hx144_0 hx145_0 hx34_0 hHeld ⊢
           refine px_ 0 44 ?_ ?_ chaseref1_keptOf.D6 HT_.out ?_ ?_ ?_; rotate_left 2; intro w'; go_simp; with_reducible rfl; simp only [Act.put, s_t, s_z, s_s, i64_w, i32_w]; rfl
           refine px_ 1 45 ?_ ?_ chaseref1_keptOf.D10 HT_.out ?_ ?_ ?_; rotate_left 2; intro w'; go_simp; with_reducible rfl; simp only [Act.put, s_t, s_z, s_s, i64_w, i32_w]; rfl
           refine px_ 2 46 ?_ ?_ chaseref1_keptOf.D14 HT_.out ?_ ?_ ?_; rotate_left 2; intro w'; go_simp; with_reducible rfl; simp only [Act.put, s_t, s_z, s_s, i64_w, i32_w]; rfl
           refine px_ 4 48 ?_ ?_ chaseref1_keptOf.D18 HT_.out ?_ ?_ ?_; rotate_left 2; intro w'; go_simp; with_reducible rfl; simp only [Act.put, s_t, s_z, s_s, i64_w, i32_w]; rfl
           refine px_ 5 49 ?_ ?_ chaseref1_keptOf.D22 HT_.out ?_ ?_ ?_; rotate_left 2; intro w'; go_simp; with_reducible rfl; simp only [Act.put, s_t, s_z, s_s, i64_w, i32_w]; rfl
           refine px_ 6 50 ?_ ?_ chaseref1_keptOf.D26 HT_.out ?_ ?_ ?_; rotate_left 2; intro w'; go_simp; with_reducible rfl; simp only [Act.put, s_t, s_z, s_s, i64_w, i32_w]; rfl
           refine px_ 7 51 ?_ ?_ chaseref1_keptOf.D29 HT_.out ?_ ?_ ?_; rotate_left 2; intro w'; go_simp; with_reducible rfl; simp only [Act.put, s_t, s_z, s_s, i64_w, i32_w]; rfl
           refine px_ 8 52 ?_ ?_ chaseref1_keptOf.D37 HT_.out ?_ ?_ ?_; rotate_left 2; intro w'; go_simp; with_reducible rfl; simp only [Act.put, s_t, s_z, s_s, i64_w, i32_w]; rfl
           refine px_ 10 54 ?_ ?_ chaseref1_keptOf.D38 HT_.out ?_ ?_ ?_; rotate_left 2; intro w'; go_simp; with_reducible rfl; simp only [Act.put, s_t, s_z, s_s, i64_w, i32_w]; rfl
           refine px_ 13 57 ?_ ?_ chaseref1_keptOf.D39 HT_.out ?_ ?_ ?_; rotate_left 2; intro w'; go_simp; with_reducible rfl; simp only [Act.put, s_t, s_z, s_s, i64_w, i32_w]; rfl
           refine px_ 14 58 ?_ ?_ chaseref1_keptOf.D40 HT_.out ?_ ?_ ?_; rotate_left 2; intro w'; go_simp; with_reducible rfl; simp only [Act.put, s_t, s_z, s_s, i64_w, i32_w]; rfl
           refine px_ 15 59 ?_ ?_ chaseref1_keptOf.D41 HT_.out ?_ ?_ ?_; rotate_left 2; intro w'; go_simp; with_reducible rfl; simp only [Act.put, s_t, s_z, s_s, i64_w, i32_w]; rfl
           refine px_ 17 61 ?_ ?_ chaseref1_keptOf.D42 HT_.out ?_ ?_ ?_; rotate_left 2; intro w'; go_simp; with_reducible rfl; simp only [Act.put, s_t, s_z, s_s, i64_w, i32_w]; rfl
           refine px_ 18 62 ?_ ?_ chaseref1_keptOf.D43 HT_.out ?_ ?_ ?_; rotate_left 2; intro w'; go_simp; with_reducible rfl; simp only [Act.put, s_t, s_z, s_s, i64_w, i32_w]; rfl
           refine take_ (i := 3) (N := some 47) (v := ?_) (a' := ?_) chaseref1_keptOf.D50 rfl rfl (take_ofW HT_.out HW_.out (by kernel_rfl)) (fun _ _ _ h => h) (Or.inl ⟨by rfl, ?_⟩) hHeld ?_ ?_
           rotate_left
           ·rintro w' ⟨s0, s1, s2, s3, s4⟩
            go_simp
            with_reducible rfl
           rotate_left
           ·simp only [Act.put, s_t, s_z, s_s, i64_w, i32_w]
            rfl
           refine take_ (i := 9) (N := some 53) (v := ?_) (a' := ?_) chaseref1_keptOf.D54 rfl rfl (take_ofW HT_.out HW_.out (by kernel_rfl)) (fun _ _ _ h => h) (Or.inl ⟨by rfl, ?_⟩) hHeld ?_ ?_
           rotate_left
           ·rintro w' ⟨s0, s1, s2, s3, s4⟩
            go_simp
            with_reducible rfl
           rotate_left
           ·simp only [Act.put, s_t, s_z, s_s, i64_w, i32_w]
            rfl
           refine px_ 11 55 ?_ ?_ chaseref1_keptOf.D57 HT_.out ?_ ?_ ?_; rotate_left 2; intro w'; go_simp; with_reducible rfl; simp only [Act.put, s_t, s_z, s_s, i64_w, i32_w]; rfl
           refine take_ (i := 12) (N := some 56) (v := ?_) (a' := ?_) chaseref1_keptOf.D69 rfl rfl (take_ofW HT_.out HW_.out (by kernel_rfl)) (fun _ _ _ h => h) (Or.inl ⟨by rfl, ?_⟩) hHeld ?_ ?_
           rotate_left
           ·rintro w' ⟨s0, s1, s2, s3, s4⟩
            go_simp
            with_reducible rfl
           rotate_left
           ·simp only [Act.put, s_t, s_z, s_s, i64_w, i32_w]
            rfl
           refine take_ (i := 16) (N := some 60) (v := ?_) (a' := ?_) chaseref1_keptOf.D76 rfl rfl (take_ofW HT_.out HW_.out (by kernel_rfl)) (fun _ _ _ h => h) (Or.inl ⟨by rfl, ?_⟩) hHeld ?_ ?_
           rotate_left
           ·rintro w' ⟨s0, s1, s2, s3, s4⟩
            go_simp
            with_reducible rfl
           rotate_left
           ·simp only [Act.put, s_t, s_z, s_s, i64_w, i32_w]
            rfl
           refine px_ 19 63 ?_ ?_ chaseref1_keptOf.D80 HT_.out ?_ ?_ ?_; rotate_left 2; intro w'; go_simp; with_reducible rfl; simp only [Act.put, s_t, s_z, s_s, i64_w, i32_w]; rfl
           refine take_ (i := 20) (N := some 64) (v := ?_) (a' := ?_) chaseref1_keptOf.D83 rfl rfl (take_ofW HT_.out HW_.out (by kernel_rfl)) (fun _ _ _ h => h) (Or.inl ⟨by rfl, ?_⟩) hHeld ?_ ?_
           rotate_left
           ·rintro w' ⟨s0, s1, s2, s3, s4⟩
            go_simp
            with_reducible rfl
           rotate_left
           ·simp only [Act.put, s_t, s_z, s_s, i64_w, i32_w]
            rfl
           refine px_ 21 65 ?_ ?_ chaseref1_keptOf.D86 HT_.out ?_ ?_ ?_; rotate_left 2; intro w'; go_simp; with_reducible rfl; simp only [Act.put, s_t, s_z, s_s, i64_w, i32_w]; rfl
           refine px_ 22 66 ?_ ?_ chaseref1_keptOf.D90 HT_.out ?_ ?_ ?_; rotate_left 2; intro w'; go_simp; with_reducible rfl; simp only [Act.put, s_t, s_z, s_s, i64_w, i32_w]; rfl
           refine last_ (i := 23) (N := none) chaseref1_keptOf.D99 rfl rfl (one_of HT_.out (by kernel_rfl)) (by decide) (fun K hK => ?_)
           refine skip_ (w1 := ?_) (by rfl) rfl ?_ ?_
           rotate_left
           ·go_simp
            rfl
           refine hK.out _ _ ?_
           clear hK K
           refine done_ (done_of HT_.out (by kernel_rfl)) ?_
           try go_wp2
           have n0_ : Aside0 (Kd.S (Kd.slice 3 (Kd.int .i64)) 22 (w50.setCell ⟨go34, (x8_3 : Int).toNat, none⟩ (.int .i64 ji32)) w.heap.size (fun _ => True) (.slice (some ad141) x5_3.length co8) y148) := ⟨by (with_reducible repeat (first | apply q1_ | apply q2_ | apply q3_)); exact HQ51.out⟩
           have n1_ : Aside0 (Below w.heap.size w (w50.setCell ⟨go34, (x8_3 : Int).toNat, none⟩ (.int .i64 ji32))) := ⟨by repeat (first | (with_reducible first | exact HB.out | apply b3_ | apply b1_ | apply b2_ | refine below_set ?_ GB34.out) | exact HB.out)⟩
           (try clear HO_5)
           (try clear HB)
           generalize (w50.setCell ⟨go34, (x8_3 : Int).toNat, none⟩ (.int .i64 ji32)) = w53 at n0_ n1_ ⊢
           have HO_5 := n0_; have HB := n1_; clear n0_ n1_
           have n0_ := am_ (q3_ HO_5.out)
           have n1_ := am_ (b2_ HB.out)
           clear HO_5; clear HB; have HO_5 := n0_; have HB := n1_; clear n0_ n1_; have p149 : 0 ≤ (x7_2 : Int) := ode_; have q149 : x7_2 < (l0.length : Int) := ode_
           obtain ⟨ad149, e149, hx149_0⟩ := Kd.at_string HR0.out x7_2 p149 q149
           have hw149_0 := hx149_0
           cases e149
           first | replace hx149_0 := (HB.out.cell (World.block_lt_of_cell? w _ hx149_0)).trans hx149_0 | skip
           replace p149 := eq_true p149; replace q149 := eq_true q149; have p150 : 0 ≤ (x8_3 : Int) := ode_; have q150 : x8_3 < (l1.length : Int) := ode_
           obtain ⟨ad150, e150, hx150_0⟩ := Kd.at_string HR1.out x8_3 p150 q150
           have hw150_0 := hx150_0
           cases e150
           first | replace hx150_0 := (HB.out.cell (World.block_lt_of_cell? w _ hx150_0)).trans hx150_0 | skip
           replace p150 := eq_true p150; replace q150 := eq_true q150
           refine start_ (n := 9) (S := fun w' => w'.cell? (ad149.add (x7_2).toNat) = some (.string (rdOf ByteArray.empty l0 x7_2)) ∧ w'.cell? (ad150.add (x8_3).toNat) = some (.string (rdOf ByteArray.empty l1 x8_3))) (ds := []) chaseref1_keptOf.D3 (by kernel_rfl) rfl rfl ⟨((HB.out.cell (World.block_lt_of_cell? w _ hw149_0)).trans hw149_0), ((HB.out.cell (World.block_lt_of_cell? w _ hw150_0)).trans hw150_0)⟩ (fun hHeld => ?_); refine with_tabW chaseref1_keptOf.tab14 chaseref1_keptOf.bits14 (fun HT_ HW_ => ?_)
           generalize w53.drew = w54 at HO_5 HB HQ51 hx149_0 hx150_0 hHeld ⊢
           refine px_ 0 67 ?_ ?_ chaseref1_keptOf.D7 HT_.out ?_ ?_ ?_; rotate_left 2; intro w'; go_simp; with_reducible rfl; simp only [Act.put, s_t, s_z, s_s, i64_w, i32_w]; rfl
           refine px_ 1 68 ?_ ?_ chaseref1_keptOf.D11 HT_.out ?_ ?_ ?_; rotate_left 2; intro w'; go_simp; with_reducible rfl; simp only [Act.put, s_t, s_z, s_s, i64_w, i32_w]; rfl
           refine px_ 2 69 ?_ ?_ chaseref1_keptOf.D15 HT_.out ?_ ?_ ?_; rotate_left 2; intro w'; go_simp; with_reducible rfl; simp only [Act.put, s_t, s_z, s_s, i64_w, i32_w]; rfl
           refine px_ 4 71 ?_ ?_ chaseref1_keptOf.D19 HT_.out ?_ ?_ ?_; rotate_left 2; intro w'; go_simp; with_reducible rfl; simp only [Act.put, s_t, s_z, s_s, i64_w, i32_w]; rfl
           refine px_ 5 72 ?_ ?_ chaseref1_keptOf.D23 HT_.out ?_ ?_ ?_; rotate_left 2; intro w'; go_simp; with_reducible rfl; simp only [Act.put, s_t, s_z, s_s, i64_w, i32_w]; rfl
           refine px_ 6 73 ?_ ?_ chaseref1_keptOf.D27 HT_.out ?_ ?_ ?_; rotate_left 2; intro w'; go_simp; with_reducible rfl; simp only [Act.put, s_t, s_z, s_s, i64_w, i32_w]; rfl
           refine take_ (i := 3) (N := some 70) (v := ?_) (a' := ?_) chaseref1_keptOf.D45 rfl rfl (take_ofW HT_.out HW_.out (by kernel_rfl)) (fun _ _ _ h => h) (Or.inl ⟨by rfl, ?_⟩) hHeld ?_ ?_
           rotate_left
           ·rintro w' ⟨s0, s1⟩
            go_simp
            with_reducible rfl
           rotate_left
           ·simp only [Act.put, s_t, s_z, s_s, i64_w, i32_w]
            rfl
           refine take_ (i := 7) (N := some 74) (v := ?_) (a' := ?_) chaseref1_keptOf.D48 rfl rfl (take_ofW HT_.out HW_.out (by kernel_rfl)) (fun _ _ _ h => h) (Or.inl ⟨by rfl, ?_⟩) hHeld ?_ ?_
           rotate_left
           ·rintro w' ⟨s0, s1⟩
            go_simp
            with_reducible rfl
           rotate_left
           ·simp only [Act.put, s_t, s_z, s_s, i64_w, i32_w]
            rfl
           refine px_ 8 75 ?_ ?_ chaseref1_keptOf.D100 HT_.out ?_ ?_ ?_; rotate_left 2; intro w'; go_simp; with_reducible rfl; simp only [Act.put, s_t, s_z, s_s, i64_w, i32_w]; rfl
           refine done_ (done_of HT_.out (by kernel_rfl)) ?_
           try go_wp2
           (try simp only [← hl5_3])
           go_roundg k3
           case measure => have := HK1.out; have := HK2.out; have := HK3.out; omega
           case rel => exact ⟨(y148), (wrap64 (x8_3 - 1)), (by first | rfl | (simp; done) | (simp [*]; done)), H', ⟨by have := HK1.out; have := HK2.out; have := HK3.out; omega⟩, ⟨by (try simp only [hl5_1]); (try simp only [hl5_2]); (try simp only [hl5_3]); (with_reducible repeat (first | apply q1_ | apply q2_ | apply q3_)); exact HO_5.out⟩, ⟨by repeat (first | (with_reducible first | exact HB.out | apply b3_ | apply b1_ | apply b2_) | exact HB.out)⟩⟩
         ·rw [if_neg c21] at H
          have c21b0 : decide (0 ≤ x8_3) = false := decide_eq_false c21
          clear c21
          have H' := am_ H
          clear H
          go_wp2
          (try simp only [← hl5_2, ← hl5_3])
          go_roundg k3
          case measure => have := HK1.out; have := HK2.out; have := HK3.out; omega
          case rel => exact ⟨(x5_3), (wrap64 (x7_2 - 1)), (by first | rfl | (simp; done) | (simp [*]; done)), H', ⟨by have := HK1.out; have := HK2.out; have := HK3.out; omega⟩, ⟨by (try simp only [hl5_1]); (try simp only [hl5_2]); (try simp only [hl5_3]); (with_reducible repeat (first | apply q1_ | apply q2_ | apply q3_)); exact HO_5.out⟩, ⟨by repeat (first | (with_reducible first | exact HB.out | apply b3_ | apply b1_ | apply b2_) | exact HB.out)⟩⟩
      ·rw [if_neg c20] at H
       have c20b0 : decide (0 ≤ x7_2) = false := decide_eq_false c20
       clear c20
       have H' := am_ H
       clear H
       go_wp2
       go_loopg [9, 10, 102] k2 (fun kq v9 v10 v102 w' => ∃ (x9_3 : List (S76)) (x10_3 : Int) (x102_3 : Int), v10 = .int .i64 x10_3 ∧ v102 = .int .i64 x102_3 ∧ Aside0 (chaseref1_keptOf.l3 kq l0 l1 x5_2 x9_3 x10_3 (l0.length : Int) x102_3 = some r) ∧ Aside0 (kq ≤ k2) ∧ Aside0 (Kd.S (Kd.slice 3 (Kd.int .i64)) 22 w' w.heap.size (fun _ => True) (.slice Ao8 x5_2.length co8) x5_2) ∧ Aside0 (Kd.R k76 76 w' w.heap.size (fun _ => True) v9 x9_3) ∧ Aside0 (Below w.heap.size w w'))
       case atStart => exact ⟨(([] : List (S76))), (0), (0), (by first | rfl | (simp; done) | (simp [*]; done)), (by first | rfl | (simp; done) | (simp [*]; done)), H', ⟨Nat.le_refl _⟩, ⟨by (try simp only [hl5_1]); (try simp only [hl5_2]); (with_reducible repeat (first | apply q1_ | apply q2_ | apply q3_)); exact HO_5.out⟩, ⟨by (try simp only [hl5_1]); (try simp only [hl5_2]); first | exact Kd.R_nil _ _ _ _ _ | exact Kd.N_nil _ _ _ _ _ | exact Kd.V_nil _ _ _ _ _ | exact Kd.Q_nil _ _ _ _ _ | exact Kd.S_nil _ _ _ _ _⟩, ⟨by repeat (first | (with_reducible first | exact HB.out | apply b3_ | apply b1_ | apply b2_) | exact HB.out)⟩⟩
       case round =>
        clear H'; (try clear c1); (try clear p1); (try clear q1); (try clear hx1); (try clear c2); (try clear p2); (try clear c3); (try clear p3); (try clear q3); (try clear hx3); (try clear hf3); (try clear c5); (try clear q5); (try clear p6); (try clear c14); (try clear p14); (try clear q14); (try clear hx14); (try clear p15); (try clear q15); (try clear hx15); (try clear c20); (try clear c20b0); (try clear c21); (try clear c21b0); (try clear c22); (try clear c23); (try clear c25); (try clear c26); (try clear c27); (try clear c28); (try clear c30); (try clear c31); (try clear c33); (try clear p34); (try clear q34); (try clear hx34); (try clear hf34); (try clear c35); (try clear c36); (try clear c37); (try clear c37b0); (try clear c37b1); (try clear c38); (try clear c39); (try clear c51); (try clear q51); (try clear hx141_0); (try clear hx142_0); (try clear hx143_0); (try clear hx144_0); (try clear hx145_0); (try clear hx149_0); (try clear hx150_0); (try clear hx34_0); (try clear p141); (try clear p142); (try clear p143); (try clear p144); (try clear p145); (try clear p149); (try clear p150); (try clear p34); (try clear q141); (try clear q142); (try clear q143); (try clear q144); (try clear q145); (try clear q149); (try clear q150); (try clear q34); obtain ⟨x9_3, x10_3, x102_3, rfl, rfl, HA, HK3, HO_5, HO_9, HB⟩ := hrel
        cases gk with
        | zero => exact absurd HA.out (by simp [chaseref1_keptOf.l3])
        | succ k3 =>
         have H := HA.out
         clear HA
         simp only [chaseref1_keptOf.l3] at H
         by_cases c55 : x102_3 < (l0.length : Int)
         ·rw [if_pos c55] at H
          have c55b0 := decide_eq_true c55; clear c55
          have H' := am_ H
          clear H
          go_wp2
          go_loopg [9, 10, 12] k3 (fun kq v9 v10 v12 w' => ∃ (x9_4 : List (S76)) (x10_4 : Int) (x12_4 : Int), v10 = .int .i64 x10_4 ∧ v12 = .int .i64 x12_4 ∧ Aside0 (chaseref1_keptOf.l4 kq l0 l1 x5_2 x9_4 x10_4 x102_3 x12_4 (l0.length : Int) x102_3 = some r) ∧ Aside0 (kq ≤ k3) ∧ Aside0 (Kd.S (Kd.slice 3 (Kd.int .i64)) 22 w' w.heap.size (fun _ => True) (.slice Ao8 x5_2.length co8) x5_2) ∧ Aside0 (Kd.R k76 76 w' w.heap.size (fun _ => True) v9 x9_4) ∧ Aside0 (Below w.heap.size w w'))
          case atStart => exact ⟨(x9_3), (x10_3), (x10_3), (by first | rfl | (simp; done) | (simp [*]; done)), (by first | rfl | (simp; done) | (simp [*]; done)), H', ⟨Nat.le_refl _⟩, ⟨by (try simp only [hl5_1]); (try simp only [hl5_2]); (with_reducible repeat (first | apply q1_ | apply q2_ | apply q3_)); exact HO_5.out⟩, ⟨by (try simp only [hl5_1]); (try simp only [hl5_2]); (with_reducible repeat (first | apply r1_ | apply r2_ | apply r3_)); exact HO_9.out⟩, ⟨by repeat (first | (with_reducible first | exact HB.out | apply b3_ | apply b1_ | apply b2_) | exact HB.out)⟩⟩
          case round =>
           clear H'; (try clear c1); (try clear p1); (try clear q1); (try clear hx1); (try clear c2); (try clear p2); (try clear c3); (try clear p3); (try clear q3); (try clear hx3); (try clear hf3); (try clear c5); (try clear q5); (try clear p6); (try clear c14); (try clear p14); (try clear q14); (try clear hx14); (try clear p15); (try clear q15); (try clear hx15); (try clear c20); (try clear c20b0); (try clear c21); (try clear c21b0); (try clear c22); (try clear c23); (try clear c25); (try clear c26); (try clear c27); (try clear c28); (try clear c30); (try clear c31); (try clear c33); (try clear p34); (try clear q34); (try clear hx34); (try clear hf34); (try clear c35); (try clear c36); (try clear c37); (try clear c37b0); (try clear c37b1); (try clear c38); (try clear c39); (try clear c51); (try clear q51); (try clear c55); (try clear c55b0); (try clear hx141_0); (try clear hx142_0); (try clear hx143_0); (try clear hx144_0); (try clear hx145_0); (try clear hx149_0); (try clear hx150_0); (try clear hx34_0); (try clear p1); (try clear p14); (try clear p141); (try clear p142); (try clear p143); (try clear p144); (try clear p145); (try clear p149); (try clear p15); (try clear p150); (try clear p2); (try clear p3); (try clear p34); (try clear p6); (try clear q1); (try clear q14); (try clear q141); (try clear q142); (try clear q143); (try clear q144); (try clear q145); (try clear q149); (try clear q15); (try clear q150); (try clear q3); (try clear q34); (try clear q5); (try clear q51); obtain ⟨x9_4, x10_4, x12_4, rfl, rfl, HA, HK4, HO_5, HO_9, HB⟩ := hrel
           cases gk with
           | zero => exact absurd HA.out (by simp [chaseref1_keptOf.l4])
           | succ k4 =>
            have H := HA.out
            clear HA
            simp only [chaseref1_keptOf.l4] at H
            by_cases c56 : x12_4 < (l1.length : Int)
            ·rw [if_pos c56] at H
             have c56b0 := decide_eq_true c56; clear c56
             by_cases c57 : 0 ≤ x102_3
             case neg => exact (nn_ c57 H).elim
             rw [if_pos c57] at H; have c57b0 := decide_eq_true c57; clear c57
             by_cases c58 : x102_3 < (l0.length : Int)
             case neg => exact (nn_ c58 H).elim
             rw [if_pos c58] at H; have c58b0 := decide_eq_true c58; clear c58
             by_cases c59 : 0 ≤ x12_4
             case neg => exact (nn_ c59 H).elim
             rw [if_pos c59] at H; have c59b0 := decide_eq_true c59; clear c59
             by_cases c60 : (rdOf ByteArray.empty l0 x102_3).toList = (rdOf ByteArray.empty l1 x12_4).toList
             ·rw [if_pos c60] at H
              have c60b0 : ((rdOf ByteArray.empty l0 x102_3).toList == (rdOf ByteArray.empty l1 x12_4).toList) = true := beq_iff_eq.mpr c60
              have c60b1 : ((rdOf ByteArray.empty l0 x102_3).toList != (rdOf ByteArray.empty l1 x12_4).toList) = false := bne_eq_false_iff_eq.mpr c60
              clear c60
              obtain ⟨ji61, hji61⟩ : ∃ j_ : Int, (wrap64 (x102_3 + 1)) = j_ := ⟨_, rfl⟩
              replace H : (if 0 ≤ (ji61) then (if (ji61) < (x5_2.length : Int) then (if 0 ≤ (wrap64 (x12_4 + 1)) then (if (wrap64 (x12_4 + 1)) < ((rd_L2 x5_2 (ji61)).length : Int) then (if x102_3 < (x5_2.length : Int) then (if 0 ≤ x10_4 then (if x10_4 < ((rd_L2 x5_2 x102_3).length : Int) then (if (wrap64 ((rd (rd_L2 x5_2 (ji61)) (wrap64 (x12_4 + 1))) + 1)) = (rd (rd_L2 x5_2 x102_3) x10_4) then (if x9_4.length < 8796093022208 then (chaseref1_keptOf.l3 k4 l0 l1 x5_2 (x9_4 ++ [(⟨x102_3, x12_4⟩ : S76)]) (wrap64 (x12_4 + 1)) (l0.length : Int) ji61) else (none)) else (chaseref1_keptOf.l4 k4 l0 l1 x5_2 x9_4 x10_4 x102_3 (wrap64 (x12_4 + 1)) (l0.length : Int) x102_3)) else (none)) else (none)) else (none)) else (none)) else (none)) else (none)) else (none)) = some r := by first | (rw [hji61] at H; exact H) | (simp only [hji61] at H ⊢; exact H)
              have hji61w : (IntKind.i64.wrap (x102_3 + 1)) = ji61 := (i64_w _).trans hji61
              by_cases c62 : 0 ≤ (ji61)
              case neg => exact (nn_ c62 H).elim
              rw [if_pos c62] at H; have c62b0 := decide_eq_true c62; clear c62
              by_cases c63 : (ji61) < (x5_2.length : Int)
              case neg => exact (nn_ c63 H).elim
              rw [if_pos c63] at H; have c63b0 := decide_eq_true c63; clear c63
              obtain ⟨ji64, hji64⟩ : ∃ j_ : Int, (wrap64 (x12_4 + 1)) = j_ := ⟨_, rfl⟩
              replace H : (if 0 ≤ (ji64) then (if (ji64) < ((rd_L2 x5_2 (ji61)).length : Int) then (if x102_3 < (x5_2.length : Int) then (if 0 ≤ x10_4 then (if x10_4 < ((rd_L2 x5_2 x102_3).length : Int) then (if (wrap64 ((rd (rd_L2 x5_2 (ji61)) (ji64)) + 1)) = (rd (rd_L2 x5_2 x102_3) x10_4) then (if x9_4.length < 8796093022208 then (chaseref1_keptOf.l3 k4 l0 l1 x5_2 (x9_4 ++ [(⟨x102_3, x12_4⟩ : S76)]) ji64 (l0.length : Int) ji61) else (none)) else (chaseref1_keptOf.l4 k4 l0 l1 x5_2 x9_4 x10_4 x102_3 ji64 (l0.length : Int) x102_3)) else (none)) else (none)) else (none)) else (none)) else (none)) = some r := by first | (rw [hji64] at H; exact H) | (simp only [hji64] at H ⊢; exact H)
              have hji64w : (IntKind.i64.wrap (x12_4 + 1)) = ji64 := (i64_w _).trans hji64
              by_cases c65 : 0 ≤ (ji64)
              case neg => exact (nn_ c65 H).elim
              rw [if_pos c65] at H; have c65b0 := decide_eq_true c65; clear c65
              by_cases c66 : (ji64) < ((rd_L2 x5_2 (ji61)).length : Int)
              case neg => exact (nn_ c66 H).elim
              rw [if_pos c66] at H; have c66b0 := decide_eq_true c66; clear c66
              by_cases c67 : x102_3 < (x5_2.length : Int)
              case neg => exact (nn_ c67 H).elim
              rw [if_pos c67] at H; have c67b0 := decide_eq_true c67; clear c67
              by_cases c68 : 0 ≤ x10_4
              case neg => exact (nn_ c68 H).elim
              rw [if_pos c68] at H; have c68b0 := decide_eq_true c68; clear c68
              by_cases c69 : x10_4 < ((rd_L2 x5_2 x102_3).length : Int)
              case neg => exact (nn_ c69 H).elim
              rw [if_pos c69] at H; have c69b0 := decide_eq_true c69; clear c69
              by_cases c70 : (wrap64 ((rd (rd_L2 x5_2 (ji61)) (ji64)) + 1)) = (rd (rd_L2 x5_2 x102_3) x10_4)
              ·rw [if_pos c70] at H
               have c70b0 : ((wrap64 ((rd (rd_L2 x5_2 (ji61)) (ji64)) + 1)) == (rd (rd_L2 x5_2 x102_3) x10_4)) = true := beq_iff_eq.mpr c70
               have c70b1 : ((wrap64 ((rd (rd_L2 x5_2 (ji61)) (ji64)) + 1)) != (rd (rd_L2 x5_2 x102_3) x10_4)) = false := bne_eq_false_iff_eq.mpr c70
               clear c70
               by_cases c71 : x9_4.length < 8796093022208
               case neg => exact (nn_ c71 H).elim
               rw [if_pos c71] at H; have LMc71 := am_ c71; clear c71
               obtain ⟨y165, hy165⟩ : ∃ y_ : List (S76), y_ = (x9_4 ++ [(⟨x102_3, x12_4⟩ : S76)]) := ⟨_, rfl⟩
               replace H : (chaseref1_keptOf.l3 k4 l0 l1 x5_2 y165 ji64 (l0.length : Int) ji61) = some r := by first | (rw [hy165]; with_reducible exact H) | (have H2_ := (Option.bind_some _ _).symm.trans H; rw [hy165]; with_reducible exact H2_) | (have H2_ := (Option.bind_some _ _).symm.trans H; with_reducible exact H2_) | with_reducible exact H | (rw [hy165]; exact H) | exact H
               have Ny165 := am_ hy165; clear hy165
               have H' := am_ H
               clear H
               try go_wp2
               have n0_ := am_ (q3_ HO_5.out)
               have n1_ := am_ (r3_ HO_9.out)
               have n2_ := am_ (b2_ HB.out)
               clear HO_5; clear HO_9; clear HB; have HO_5 := n0_; have HO_9 := n1_; have HB := n2_; clear n0_ n1_ n2_; have p159 : 0 ≤ (x102_3 : Int) := ode_; have q159 : x102_3 < (l0.length : Int) := ode_
               obtain ⟨ad159, e159, hx159_0⟩ := Kd.at_string HR0.out x102_3 p159 q159
               have hw159_0 := hx159_0
               cases e159
               first | replace hx159_0 := (HB.out.cell (World.block_lt_of_cell? w _ hx159_0)).trans hx159_0 | skip
               replace p159 := eq_true p159; replace q159 := eq_true q159; have p160 : 0 ≤ (x12_4 : Int) := ode_; have q160 : x12_4 < (l1.length : Int) := ode_
               obtain ⟨ad160, e160, hx160_0⟩ := Kd.at_string HR1.out x12_4 p160 q160
               have hw160_0 := hx160_0
               cases e160
               first | replace hx160_0 := (HB.out.cell (World.block_lt_of_cell? w _ hx160_0)).trans hx160_0 | skip
               replace p160 := eq_true p160; replace q160 := eq_true q160; have p161 : 0 ≤ ((ji61) : Int) := ode_; have q161 : (ji61) < (x5_2.length : Int) := ode_
               obtain ⟨ad161, A161_0, c161_0, e161, hx161_0, hl161_0, hi161_0⟩ := at_L2 (Kd.S_reads' HO_5.out).2.2 (ji61) p161 q161
               cases e161
               obtain ⟨ce161, hce161, hMe161, hcc161⟩ := Kd.S_get HO_5.out [] (ji61) p161 (by first | exact q161 | exact ode_ | (have e_ := (Kd.S_reads' HO_5.out).1; omega))
               obtain ⟨ve161_0, rfl, ge161_0⟩ := hMe161
               have hv161_0 := hcc161 0 _ rfl
               rw [Nat.add_zero, show ((Kd.slice 3 (Kd.int .i64))).sz = 1 from rfl, Nat.mul_one] at hv161_0
               replace hv161_0 := Option.some.inj (hv161_0.symm.trans hx161_0)
               rw [hv161_0] at ge161_0
               have HL161_0 := am_ (show Kd.R (Kd.int .i64) 3 _ _ _ _ (rd_L2 x5_2 (ji61)) from ge161_0)
               clear hv161_0 ge161_0; have HX161_0 := am_ hx161_0; clear hcc161 hce161; have HR161_0 := am_ hi161_0; have HC161_0 := am_ hl161_0; clear hi161_0 hl161_0; replace p161 := eq_true p161; replace q161 := eq_true q161; have p162 : 0 ≤ ((ji64) : Int) := ode_; have q162 : (ji64) < ((rd_L2 x5_2 (ji61)).length : Int) := ode_
               obtain ⟨ad162, e162, hx162_0⟩ := Kd.at_int (by repeat (first | (with_reducible first | exact HR161_0.out | refine Kd.C_alloc ?_ _ | refine Kd.C_drewN ?_ _ | refine Kd.C_drew ?_) | exact HR161_0.out)) (ji64) p162 q162
               cases e162; replace p162 := eq_true p162; replace q162 := eq_true q162; have p163 : 0 ≤ (x102_3 : Int) := ode_; have q163 : x102_3 < (x5_2.length : Int) := ode_
               obtain ⟨ad163, A163_0, c163_0, e163, hx163_0, hl163_0, hi163_0⟩ := at_L2 (Kd.S_reads' HO_5.out).2.2 x102_3 p163 q163
               obtain rfl : ad161 = ad163 := (by injection e163)
               obtain ⟨ce163, hce163, hMe163, hcc163⟩ := Kd.S_get HO_5.out [] x102_3 p163 (by first | exact q163 | exact ode_ | (have e_ := (Kd.S_reads' HO_5.out).1; omega))
               obtain ⟨ve163_0, rfl, ge163_0⟩ := hMe163
               have hv163_0 := hcc163 0 _ rfl
               rw [Nat.add_zero, show ((Kd.slice 3 (Kd.int .i64))).sz = 1 from rfl, Nat.mul_one] at hv163_0
               replace hv163_0 := Option.some.inj (hv163_0.symm.trans hx163_0)
               rw [hv163_0] at ge163_0
               have HL163_0 := am_ (show Kd.R (Kd.int .i64) 3 _ _ _ _ (rd_L2 x5_2 x102_3) from ge163_0)
               clear hv163_0 ge163_0; have HX163_0 := am_ hx163_0; clear hcc163 hce163; have HR163_0 := am_ hi163_0; have HC163_0 := am_ hl163_0; clear hi163_0 hl163_0; replace p163 := eq_true p163; replace q163 := eq_true q163; have p164 : 0 ≤ (x10_4 : Int) := ode_; have q164 : x10_4 < ((rd_L2 x5_2 x102_3).length : Int) := ode_
               obtain ⟨ad164, e164, hx164_0⟩ := Kd.at_int (by repeat (first | (with_reducible first | exact HR163_0.out | refine Kd.C_alloc ?_ _ | refine Kd.C_drewN ?_ _ | refine Kd.C_drew ?_) | exact HR163_0.out)) x10_4 p164 q164
               cases e164; replace p164 := eq_true p164; replace q164 := eq_true q164
               refine start_ (n := 29) (S := fun w' => w'.cell? (ad159.add (x102_3).toNat) = some (.string (rdOf ByteArray.empty l0 x102_3)) ∧ w'.cell? (ad160.add (x12_4).toNat) = some (.string (rdOf ByteArray.empty l1 x12_4)) ∧ w'.cell? (ad161.add ((ji61)).toNat) = some (.slice (some ad162) (rd_L2 x5_2 (ji61)).length c161_0) ∧ w'.cell? (ad162.add ((ji64)).toNat) = some (.int .i64 (rd (rd_L2 x5_2 (ji61)) (ji64))) ∧ w'.cell? (ad161.add (x102_3).toNat) = some (.slice (some ad164) (rd_L2 x5_2 x102_3).length c163_0) ∧ w'.cell? (ad164.add (x10_4).toNat) = some (.int .i64 (rd (rd_L2 x5_2 x102_3) x10_4))) (ds := []) chaseref1_keptOf.D0 (by kernel_rfl) rfl rfl ⟨((HB.out.cell (World.block_lt_of_cell? w _ hw159_0)).trans hw159_0), ((HB.out.cell (World.block_lt_of_cell? w _ hw160_0)).trans hw160_0), hx161_0, hx162_0, hx163_0, hx164_0⟩ (fun hHeld => ?_); refine with_tabW chaseref1_keptOf.tab24 chaseref1_keptOf.bits24 (fun HT_ HW_ => ?_)
               generalize wr.drew = w72 at HO_5 HO_9 HB HL161_0 HL163_0 HR161_0 HR163_0 HX161_0 HX163_0 hx159_0 hx160_0 hx161_0 hx162_0 hx163_0 hx164_0 hHeld ⊢
               refine px_ 0 112 ?_ ?_ chaseref1_keptOf.D4 HT_.out ?_ ?_ ?_; rotate_left 2; intro w'; go_simp; with_reducible rfl; simp only [Act.put, s_t, s_z, s_s, i64_w, i32_w]; rfl
               refine px_ 1 113 ?_ ?_ chaseref1_keptOf.D8 HT_.out ?_ ?_ ?_; rotate_left 2; intro w'; go_simp; with_reducible rfl; simp only [Act.put, s_t, s_z, s_s, i64_w, i32_w]; rfl
               refine px_ 2 114 ?_ ?_ chaseref1_keptOf.D12 HT_.out ?_ ?_ ?_; rotate_left 2; intro w'; go_simp; with_reducible rfl; simp only [Act.put, s_t, s_z, s_s, i64_w, i32_w]; rfl
               refine px_ 4 116 ?_ ?_ chaseref1_keptOf.D16 HT_.out ?_ ?_ ?_; rotate_left 2; intro w'; go_simp; with_reducible rfl; simp only [Act.put, s_t, s_z, s_s, i64_w, i32_w]; rfl
               refine px_ 5 117 ?_ ?_ chaseref1_keptOf.D20 HT_.out ?_ ?_ ?_; rotate_left 2; intro w'; go_simp; with_reducible rfl; simp only [Act.put, s_t, s_z, s_s, i64_w, i32_w]; rfl
               refine px_ 6 118 ?_ ?_ chaseref1_keptOf.D24 HT_.out ?_ ?_ ?_; rotate_left 2; intro w'; go_simp; with_reducible rfl; simp only [Act.put, s_t, s_z, s_s, i64_w, i32_w]; rfl
               refine take_ (i := 3) (N := some 115) (v := ?_) (a' := ?_) chaseref1_keptOf.D44 rfl rfl (take_ofW HT_.out HW_.out (by kernel_rfl)) (fun _ _ _ h => h) (Or.inl ⟨by rfl, ?_⟩) hHeld ?_ ?_
               rotate_left
               ·rintro w' ⟨s0, s1, s2, s3, s4, s5⟩
                go_simp
                with_reducible rfl
               rotate_left
               ·simp only [Act.put, s_t, s_z, s_s, i64_w, i32_w]
                rfl
               refine take_ (i := 7) (N := some 119) (v := ?_) (a' := ?_) chaseref1_keptOf.D46 rfl rfl (take_ofW HT_.out HW_.out (by kernel_rfl)) (fun _ _ _ h => h) (Or.inl ⟨by rfl, ?_⟩) hHeld ?_ ?_
               rotate_left
               ·rintro w' ⟨s0, s1, s2, s3, s4, s5⟩
                go_simp
                with_reducible rfl
               rotate_left
               ·simp only [Act.put, s_t, s_z, s_s, i64_w, i32_w]
                rfl
               refine px_ 8 120 ?_ ?_ chaseref1_keptOf.D49 HT_.out ?_ ?_ ?_; rotate_left 2; intro w'; go_simp; with_reducible rfl; simp only [Act.put, s_t, s_z, s_s, i64_w, i32_w]; rfl
               refine px_ 9 121 ?_ ?_ chaseref1_keptOf.D51 HT_.out ?_ ?_ ?_; rotate_left 2; intro w'; go_simp; with_reducible rfl; simp only [Act.put, s_t, s_z, s_s, i64_w, i32_w]; rfl
               refine px_ 10 122 ?_ ?_ chaseref1_keptOf.D53 HT_.out ?_ ?_ ?_; rotate_left 2; intro w'; go_simp; with_reducible rfl; simp only [Act.put, s_t, s_z, s_s, i64_w, i32_w]; rfl
               refine px_ 11 123 ?_ ?_ chaseref1_keptOf.D56 HT_.out ?_ ?_ ?_; rotate_left 2; intro w'; go_simp; with_reducible rfl; simp only [Act.put, s_t, s_z, s_s, i64_w, i32_w]; rfl
               refine px_ 12 124 ?_ ?_ chaseref1_keptOf.D58 HT_.out ?_ ?_ ?_; rotate_left 2; intro w'; go_simp; with_reducible rfl; simp only [Act.put, s_t, s_z, s_s, i64_w, i32_w]; rfl
               refine px_ 13 125 ?_ ?_ chaseref1_keptOf.D59 HT_.out ?_ ?_ ?_; rotate_left 2; intro w'; go_simp; with_reducible rfl; simp only [Act.put, s_t, s_z, s_s, i64_w, i32_w]; rfl
               refine px_ 15 127 ?_ ?_ chaseref1_keptOf.D60 HT_.out ?_ ?_ ?_; rotate_left 2; intro w'; go_simp; with_reducible rfl; simp only [Act.put, s_t, s_z, s_s, i64_w, i32_w]; rfl
               refine px_ 16 128 ?_ ?_ chaseref1_keptOf.D61 HT_.out ?_ ?_ ?_; rotate_left 2; intro w'; go_simp; with_reducible rfl; simp only [Act.put, s_t, s_z, s_s, i64_w, i32_w]; rfl
               refine px_ 20 132 ?_ ?_ chaseref1_keptOf.D62 HT_.out ?_ ?_ ?_; rotate_left 2; intro w'; go_simp; with_reducible rfl; simp only [Act.put, s_t, s_z, s_s, i64_w, i32_w]; rfl
               refine px_ 21 133 ?_ ?_ chaseref1_keptOf.D63 HT_.out ?_ ?_ ?_; rotate_left 2; intro w'; go_simp; with_reducible rfl; simp only [Act.put, s_t, s_z, s_s, i64_w, i32_w]; rfl
               refine px_ 22 134 ?_ ?_ chaseref1_keptOf.D64 HT_.out ?_ ?_ ?_; rotate_left 2; intro w'; go_simp; with_reducible rfl; simp only [Act.put, s_t, s_z, s_s, i64_w, i32_w]; rfl
               refine px_ 24 136 ?_ ?_ chaseref1_keptOf.D65 HT_.out ?_ ?_ ?_; rotate_left 2; intro w'; go_simp; with_reducible rfl; simp only [Act.put, s_t, s_z, s_s, i64_w, i32_w]; rfl
               refine take_ (i := 14) (N := some 126) (v := ?_) (a' := ?_) chaseref1_keptOf.D71 rfl rfl (take_ofW HT_.out HW_.out (by kernel_rfl)) (fun _ _ _ h => h) (Or.inl ⟨by rfl, ?_⟩) hHeld ?_ ?_
               rotate_left
               ·rintro w' ⟨s0, s1, s2, s3, s4, s5⟩
                go_simp
                with_reducible rfl
               rotate_left
               ·simp only [Act.put, s_t, s_z, s_s, i64_w, i32_w]
                rfl
               refine px_ 17 129 ?_ ?_ chaseref1_keptOf.D73 HT_.out ?_ ?_ ?_; rotate_left 2; intro w'; go_simp; with_reducible rfl; simp only [Act.put, s_t, s_z, s_s, i64_w, i32_w]; rfl
               refine take_ (i := 18) (N := some 130) (v := ?_) (a' := ?_) chaseref1_keptOf.D77 rfl rfl (take_ofW HT_.out HW_.out (by kernel_rfl)) (fun _ _ _ h => h) (Or.inl ⟨by rfl, ?_⟩) hHeld ?_ ?_
               rotate_left
               ·rintro w' ⟨s0, s1, s2, s3, s4, s5⟩
                go_simp
                with_reducible rfl
               rotate_left
               ·simp only [Act.put, s_t, s_z, s_s, i64_w, i32_w]
                rfl
               refine px_ 19 131 ?_ ?_ chaseref1_keptOf.D89 HT_.out ?_ ?_ ?_; rotate_left 2; intro w'; go_simp; with_reducible rfl; simp only [Act.put, s_t, s_z, s_s, i64_w, i32_w]; rfl
               refine take_ (i := 23) (N := some 135) (v := ?_) (a' := ?_) chaseref1_keptOf.D93 rfl rfl (take_ofW HT_.out HW_.out (by kernel_rfl)) (fun _ _ _ h => h) (Or.inl ⟨by rfl, ?_⟩) hHeld ?_ ?_
               rotate_left
               ·rintro w' ⟨s0, s1, s2, s3, s4, s5⟩
                go_simp
                with_reducible rfl
               rotate_left
               ·simp only [Act.put, s_t, s_z, s_s, i64_w, i32_w]
                rfl
               refine px_ 25 137 ?_ ?_ chaseref1_keptOf.D94 HT_.out ?_ ?_ ?_; rotate_left 2; intro w'; go_simp; with_reducible rfl; simp only [Act.put, s_t, s_z, s_s, i64_w, i32_w]; rfl
               refine take_ (i := 26) (N := some 138) (v := ?_) (a' := ?_) chaseref1_keptOf.D95 rfl rfl (take_ofW HT_.out HW_.out (by kernel_rfl)) (fun _ _ _ h => h) (Or.inl ⟨by rfl, ?_⟩) hHeld ?_ ?_
               rotate_left
               ·rintro w' ⟨s0, s1, s2, s3, s4, s5⟩
                go_simp
                with_reducible rfl
               rotate_left
               ·simp only [Act.put, s_t, s_z, s_s, i64_w, i32_w]
                rfl
               refine px_ 27 139 ?_ ?_ chaseref1_keptOf.D96 HT_.out ?_ ?_ ?_; rotate_left 2; intro w'; go_simp; with_reducible rfl; simp only [Act.put, s_t, s_z, s_s, i64_w, i32_w]; rfl
               refine px_ 28 140 ?_ ?_ chaseref1_keptOf.D97 HT_.out ?_ ?_ ?_; rotate_left 2; intro w'; go_simp; with_reducible rfl; simp only [Act.put, s_t, s_z, s_s, i64_w, i32_w]; rfl
               refine done_ (done_of HT_.out (by kernel_rfl)) ?_
               try go_wp2_with (first | ((with_reducible refine gate_builtin (b := .append) (xs := #[.tmp 141, .tmp 145]) rfl ?_); at_builtin; refine Kd.R_append k76 (w0 := w) w.heap.size rfl (.tmp 141) (.tmp 145) 74 76 (.agg #[(.int .i64 0), (.int .i64 0)]) 16 rfl Tryz.underlying74 info76 rfl (by decide) (by omega) u9 x9_4 (⟨x102_3, x12_4⟩ : S76) [.int .i64 x102_3, .int .i64 x12_4] (fun _ => True) (fun _ => False) rfl rfl ?aP (fun _ hk => hk.elim) ?aF ?aO ?aB ?aS ?aL ?_; (case aP => exact k76_mkM _ _ _ (⟨x102_3, x12_4⟩ : S76)); (case aB => exact (by repeat (first | (with_reducible first | exact HB.out | apply b3_ | apply b1_ | apply b2_) | exact HB.out))); (case aF => exact (fun _ _ => trivial)); (case aO => exact (by (with_reducible repeat (first | apply r1_ | apply r2_ | apply r3_)); exact HO_9.out)); (case aS => exact (below_size (by repeat (first | (with_reducible first | exact HB.out | apply b3_ | apply b1_ | apply b2_) | exact HB.out)))); (case aL => have := LMc71.out; omega); intro v166 w73 ho hb hg hat; rw [← Ny165.out] at ho; have n0_ := am_ (Kd.S_over' (by (with_reducible repeat (first | apply q1_ | apply q2_ | apply q3_)); exact HO_5.out) (Kd.R_typed (by (with_reducible repeat (first | apply r1_ | apply r2_ | apply r3_)); exact HO_9.out)) (by decide) hg); have n1_ := am_ (Kd.R_over' (by (with_reducible repeat (first | apply r1_ | apply r2_ | apply r3_)); exact HL161_0.out) (Kd.R_typed (by (with_reducible repeat (first | apply r1_ | apply r2_ | apply r3_)); exact HO_9.out)) (by decide) hg); have n2_ := am_ (Kd.R_over' (by (with_reducible repeat (first | apply r1_ | apply r2_ | apply r3_)); exact HL163_0.out) (Kd.R_typed (by (with_reducible repeat (first | apply r1_ | apply r2_ | apply r3_)); exact HO_9.out)) (by decide) hg); have n3_ := am_ (hb); have n4_ := am_ (ho); clear HO_5; clear HL161_0; clear HL163_0; clear HB; clear HO_9; have HO_5 := n0_; have HL161_0 := n1_; have HL163_0 := n2_; have HB := n3_; have HO167 := n4_; clear n0_ n1_ n2_ n3_ n4_; clear ho hb hg hat))
               go_roundg k4
               case measure => have := HK1.out; have := HK2.out; have := HK3.out; have := HK4.out; omega
               case rel => exact ⟨(y165), (ji64), (ji61), (by first | rfl | (simp; done) | (simp only [← hji64] <;> (first | rfl | simp)) | (simp [*]; done)), (by first | rfl | (simp; done) | (simp only [← hji61] <;> (first | rfl | simp)) | (simp [*]; done)), H', ⟨by have := HK1.out; have := HK2.out; have := HK3.out; have := HK4.out; omega⟩, ⟨by (try simp only [hl5_1]); (try simp only [hl5_2]); (with_reducible repeat (first | apply q1_ | apply q2_ | apply q3_)); exact HO_5.out⟩, ⟨by (try simp only [hl5_1]); (try simp only [hl5_2]); (with_reducible repeat (first | apply r1_ | apply r2_ | apply r3_)); exact HO167.out⟩, ⟨by repeat (first | (with_reducible first | exact HB.out | apply b3_ | apply b1_ | apply b2_) | exact HB.out)⟩⟩
              ·rw [if_neg c70] at H
               have c70b0 : ((wrap64 ((rd (rd_L2 x5_2 (ji61)) (ji64)) + 1)) == (rd (rd_L2 x5_2 x102_3) x10_4)) = false := beq_eq_false_iff_ne.mpr c70
               have c70b1 : ((wrap64 ((rd (rd_L2 x5_2 (ji61)) (ji64)) + 1)) != (rd (rd_L2 x5_2 x102_3) x10_4)) = true := bne_iff_ne.mpr c70
               have H' := am_ H
               clear H
               try go_wp2
               have n0_ := am_ (q3_ HO_5.out)
               have n1_ := am_ (r3_ HO_9.out)
               have n2_ := am_ (b2_ HB.out)
               clear HO_5; clear HO_9; clear HB; have HO_5 := n0_; have HO_9 := n1_; have HB := n2_; clear n0_ n1_ n2_; have p159 : 0 ≤ (x102_3 : Int) := ode_; have q159 : x102_3 < (l0.length : Int) := ode_
               obtain ⟨ad159, e159, hx159_0⟩ := Kd.at_string HR0.out x102_3 p159 q159
               have hw159_0 := hx159_0
               cases e159
               first | replace hx159_0 := (HB.out.cell (World.block_lt_of_cell? w _ hx159_0)).trans hx159_0 | skip
               replace p159 := eq_true p159; replace q159 := eq_true q159; have p160 : 0 ≤ (x12_4 : Int) := ode_; have q160 : x12_4 < (l1.length : Int) := ode_
               obtain ⟨ad160, e160, hx160_0⟩ := Kd.at_string HR1.out x12_4 p160 q160
               have hw160_0 := hx160_0
               cases e160
               first | replace hx160_0 := (HB.out.cell (World.block_lt_of_cell? w _ hx160_0)).trans hx160_0 | skip
               replace p160 := eq_true p160; replace q160 := eq_true q160; have p161 : 0 ≤ ((ji61) : Int) := ode_; have q161 : (ji61) < (x5_2.length : Int) := ode_
               obtain ⟨ad161, A161_0, c161_0, e161, hx161_0, hl161_0, hi161_0⟩ := at_L2 (Kd.S_reads' HO_5.out).2.2 (ji61) p161 q161
               cases e161
               obtain ⟨ce161, hce161, hMe161, hcc161⟩ := Kd.S_get HO_5.out [] (ji61) p161 (by first | exact q161 | exact ode_ | (have e_ := (Kd.S_reads' HO_5.out).1; omega))
               obtain ⟨ve161_0, rfl, ge161_0⟩ := hMe161
               have hv161_0 := hcc161 0 _ rfl
               rw [Nat.add_zero, show ((Kd.slice 3 (Kd.int .i64))).sz = 1 from rfl, Nat.mul_one] at hv161_0
               replace hv161_0 := Option.some.inj (hv161_0.symm.trans hx161_0)
               rw [hv161_0] at ge161_0
               have HL161_0 := am_ (show Kd.R (Kd.int .i64) 3 _ _ _ _ (rd_L2 x5_2 (ji61)) from ge161_0)
               clear hv161_0 ge161_0; have HX161_0 := am_ hx161_0; clear hcc161 hce161; have HR161_0 := am_ hi161_0; have HC161_0 := am_ hl161_0; clear hi161_0 hl161_0; replace p161 := eq_true p161; replace q161 := eq_true q161; have p162 : 0 ≤ ((ji64) : Int) := ode_; have q162 : (ji64) < ((rd_L2 x5_2 (ji61)).length : Int) := ode_
               obtain ⟨ad162, e162, hx162_0⟩ := Kd.at_int (by repeat (first | (with_reducible first | exact HR161_0.out | refine Kd.C_alloc ?_ _ | refine Kd.C_drewN ?_ _ | refine Kd.C_drew ?_) | exact HR161_0.out)) (ji64) p162 q162
               cases e162; replace p162 := eq_true p162; replace q162 := eq_true q162; have p163 : 0 ≤ (x102_3 : Int) := ode_; have q163 : x102_3 < (x5_2.length : Int) := ode_
               obtain ⟨ad163, A163_0, c163_0, e163, hx163_0, hl163_0, hi163_0⟩ := at_L2 (Kd.S_reads' HO_5.out).2.2 x102_3 p163 q163
               obtain rfl : ad161 = ad163 := (by injection e163)
               obtain ⟨ce163, hce163, hMe163, hcc163⟩ := Kd.S_get HO_5.out [] x102_3 p163 (by first | exact q163 | exact ode_ | (have e_ := (Kd.S_reads' HO_5.out).1; omega))
               obtain ⟨ve163_0, rfl, ge163_0⟩ := hMe163
               have hv163_0 := hcc163 0 _ rfl
               rw [Nat.add_zero, show ((Kd.slice 3 (Kd.int .i64))).sz = 1 from rfl, Nat.mul_one] at hv163_0
               replace hv163_0 := Option.some.inj (hv163_0.symm.trans hx163_0)
               rw [hv163_0] at ge163_0
               have HL163_0 := am_ (show Kd.R (Kd.int .i64) 3 _ _ _ _ (rd_L2 x5_2 x102_3) from ge163_0)
               clear hv163_0 ge163_0; have HX163_0 := am_ hx163_0; clear hcc163 hce163; have HR163_0 := am_ hi163_0; have HC163_0 := am_ hl163_0; clear hi163_0 hl163_0; replace p163 := eq_true p163; replace q163 := eq_true q163; have p164 : 0 ≤ (x10_4 : Int) := ode_; have q164 : x10_4 < ((rd_L2 x5_2 x102_3).length : Int) := ode_
               obtain ⟨ad164, e164, hx164_0⟩ := Kd.at_int (by repeat (first | (with_reducible first | exact HR163_0.out | refine Kd.C_alloc ?_ _ | refine Kd.C_drewN ?_ _ | refine Kd.C_drew ?_) | exact HR163_0.out)) x10_4 p164 q164
               cases e164; replace p164 := eq_true p164; replace q164 := eq_true q164
               refine start_ (n := 29) (S := fun w' => w'.cell? (ad159.add (x102_3).toNat) = some (.string (rdOf ByteArray.empty l0 x102_3)) ∧ w'.cell? (ad160.add (x12_4).toNat) = some (.string (rdOf ByteArray.empty l1 x12_4)) ∧ w'.cell? (ad161.add ((ji61)).toNat) = some (.slice (some ad162) (rd_L2 x5_2 (ji61)).length c161_0) ∧ w'.cell? (ad162.add ((ji64)).toNat) = some (.int .i64 (rd (rd_L2 x5_2 (ji61)) (ji64))) ∧ w'.cell? (ad161.add (x102_3).toNat) = some (.slice (some ad164) (rd_L2 x5_2 x102_3).length c163_0) ∧ w'.cell? (ad164.add (x10_4).toNat) = some (.int .i64 (rd (rd_L2 x5_2 x102_3) x10_4))) (ds := []) chaseref1_keptOf.D0 (by kernel_rfl) rfl rfl ⟨((HB.out.cell (World.block_lt_of_cell? w _ hw159_0)).trans hw159_0), ((HB.out.cell (World.block_lt_of_cell? w _ hw160_0)).trans hw160_0), hx161_0, hx162_0, hx163_0, hx164_0⟩ (fun hHeld => ?_); refine with_tabW chaseref1_keptOf.tab24 chaseref1_keptOf.bits24 (fun HT_ HW_ => ?_)
               generalize wr.drew = w74 at HO_5 HO_9 HB HL161_0 HL163_0 HR161_0 HR163_0 HX161_0 HX163_0 hx159_0 hx160_0 hx161_0 hx162_0 hx163_0 hx164_0 hHeld ⊢
               refine px_ 0 112 ?_ ?_ chaseref1_keptOf.D4 HT_.out ?_ ?_ ?_; rotate_left 2; intro w'; go_simp; with_reducible rfl; simp only [Act.put, s_t, s_z, s_s, i64_w, i32_w]; rfl
               refine px_ 1 113 ?_ ?_ chaseref1_keptOf.D8 HT_.out ?_ ?_ ?_; rotate_left 2; intro w'; go_simp; with_reducible rfl; simp only [Act.put, s_t, s_z, s_s, i64_w, i32_w]; rfl
               refine px_ 2 114 ?_ ?_ chaseref1_keptOf.D12 HT_.out ?_ ?_ ?_; rotate_left 2; intro w'; go_simp; with_reducible rfl; simp only [Act.put, s_t, s_z, s_s, i64_w, i32_w]; rfl
               refine px_ 4 116 ?_ ?_ chaseref1_keptOf.D16 HT_.out ?_ ?_ ?_; rotate_left 2; intro w'; go_simp; with_reducible rfl; simp only [Act.put, s_t, s_z, s_s, i64_w, i32_w]; rfl
               refine px_ 5 117 ?_ ?_ chaseref1_keptOf.D20 HT_.out ?_ ?_ ?_; rotate_left 2; intro w'; go_simp; with_reducible rfl; simp only [Act.put, s_t, s_z, s_s, i64_w, i32_w]; rfl
               refine px_ 6 118 ?_ ?_ chaseref1_keptOf.D24 HT_.out ?_ ?_ ?_; rotate_left 2; intro w'; go_simp; with_reducible rfl; simp only [Act.put, s_t, s_z, s_s, i64_w, i32_w]; rfl
               refine take_ (i := 3) (N := some 115) (v := ?_) (a' := ?_) chaseref1_keptOf.D44 rfl rfl (take_ofW HT_.out HW_.out (by kernel_rfl)) (fun _ _ _ h => h) (Or.inl ⟨by rfl, ?_⟩) hHeld ?_ ?_
               rotate_left
               ·rintro w' ⟨s0, s1, s2, s3, s4, s5⟩
                go_simp
                with_reducible rfl
               rotate_left
               ·simp only [Act.put, s_t, s_z, s_s, i64_w, i32_w]
                rfl
               refine take_ (i := 7) (N := some 119) (v := ?_) (a' := ?_) chaseref1_keptOf.D46 rfl rfl (take_ofW HT_.out HW_.out (by kernel_rfl)) (fun _ _ _ h => h) (Or.inl ⟨by rfl, ?_⟩) hHeld ?_ ?_
               rotate_left
               ·rintro w' ⟨s0, s1, s2, s3, s4, s5⟩
                go_simp
                with_reducible rfl
               rotate_left
               ·simp only [Act.put, s_t, s_z, s_s, i64_w, i32_w]
                rfl
               refine px_ 8 120 ?_ ?_ chaseref1_keptOf.D49 HT_.out ?_ ?_ ?_; rotate_left 2; intro w'; go_simp; with_reducible rfl; simp only [Act.put, s_t, s_z, s_s, i64_w, i32_w]; rfl
               refine px_ 9 121 ?_ ?_ chaseref1_keptOf.D51 HT_.out ?_ ?_ ?_; rotate_left 2; intro w'; go_simp; with_reducible rfl; simp only [Act.put, s_t, s_z, s_s, i64_w, i32_w]; rfl
               refine px_ 10 122 ?_ ?_ chaseref1_keptOf.D53 HT_.out ?_ ?_ ?_; rotate_left 2; intro w'; go_simp; with_reducible rfl; simp only [Act.put, s_t, s_z, s_s, i64_w, i32_w]; rfl
               refine px_ 11 123 ?_ ?_ chaseref1_keptOf.D56 HT_.out ?_ ?_ ?_; rotate_left 2; intro w'; go_simp; with_reducible rfl; simp only [Act.put, s_t, s_z, s_s, i64_w, i32_w]; rfl
               refine px_ 12 124 ?_ ?_ chaseref1_keptOf.D58 HT_.out ?_ ?_ ?_; rotate_left 2; intro w'; go_simp; with_reducible rfl; simp only [Act.put, s_t, s_z, s_s, i64_w, i32_w]; rfl
               refine px_ 13 125 ?_ ?_ chaseref1_keptOf.D59 HT_.out ?_ ?_ ?_; rotate_left 2; intro w'; go_simp; with_reducible rfl; simp only [Act.put, s_t, s_z, s_s, i64_w, i32_w]; rfl
               refine px_ 15 127 ?_ ?_ chaseref1_keptOf.D60 HT_.out ?_ ?_ ?_; rotate_left 2; intro w'; go_simp; with_reducible rfl; simp only [Act.put, s_t, s_z, s_s, i64_w, i32_w]; rfl
               refine px_ 16 128 ?_ ?_ chaseref1_keptOf.D61 HT_.out ?_ ?_ ?_; rotate_left 2; intro w'; go_simp; with_reducible rfl; simp only [Act.put, s_t, s_z, s_s, i64_w, i32_w]; rfl
               refine px_ 20 132 ?_ ?_ chaseref1_keptOf.D62 HT_.out ?_ ?_ ?_; rotate_left 2; intro w'; go_simp; with_reducible rfl; simp only [Act.put, s_t, s_z, s_s, i64_w, i32_w]; rfl
               refine px_ 21 133 ?_ ?_ chaseref1_keptOf.D63 HT_.out ?_ ?_ ?_; rotate_left 2; intro w'; go_simp; with_reducible rfl; simp only [Act.put, s_t, s_z, s_s, i64_w, i32_w]; rfl
               refine px_ 22 134 ?_ ?_ chaseref1_keptOf.D64 HT_.out ?_ ?_ ?_; rotate_left 2; intro w'; go_simp; with_reducible rfl; simp only [Act.put, s_t, s_z, s_s, i64_w, i32_w]; rfl
               refine px_ 24 136 ?_ ?_ chaseref1_keptOf.D65 HT_.out ?_ ?_ ?_; rotate_left 2; intro w'; go_simp; with_reducible rfl; simp only [Act.put, s_t, s_z, s_s, i64_w, i32_w]; rfl
               refine take_ (i := 14) (N := some 126) (v := ?_) (a' := ?_) chaseref1_keptOf.D71 rfl rfl (take_ofW HT_.out HW_.out (by kernel_rfl)) (fun _ _ _ h => h) (Or.inl ⟨by rfl, ?_⟩) hHeld ?_ ?_
               rotate_left
               ·rintro w' ⟨s0, s1, s2, s3, s4, s5⟩
                go_simp
                with_reducible rfl
               rotate_left
               ·simp only [Act.put, s_t, s_z, s_s, i64_w, i32_w]
                rfl
               refine px_ 17 129 ?_ ?_ chaseref1_keptOf.D73 HT_.out ?_ ?_ ?_; rotate_left 2; intro w'; go_simp; with_reducible rfl; simp only [Act.put, s_t, s_z, s_s, i64_w, i32_w]; rfl
               refine take_ (i := 18) (N := some 130) (v := ?_) (a' := ?_) chaseref1_keptOf.D77 rfl rfl (take_ofW HT_.out HW_.out (by kernel_rfl)) (fun _ _ _ h => h) (Or.inl ⟨by rfl, ?_⟩) hHeld ?_ ?_
               rotate_left
               ·rintro w' ⟨s0, s1, s2, s3, s4, s5⟩
                go_simp
                with_reducible rfl
               rotate_left
               ·simp only [Act.put, s_t, s_z, s_s, i64_w, i32_w]
                rfl
               refine px_ 19 131 ?_ ?_ chaseref1_keptOf.D89 HT_.out ?_ ?_ ?_; rotate_left 2; intro w'; go_simp; with_reducible rfl; simp only [Act.put, s_t, s_z, s_s, i64_w, i32_w]; rfl
               refine take_ (i := 23) (N := some 135) (v := ?_) (a' := ?_) chaseref1_keptOf.D93 rfl rfl (take_ofW HT_.out HW_.out (by kernel_rfl)) (fun _ _ _ h => h) (Or.inl ⟨by rfl, ?_⟩) hHeld ?_ ?_
               rotate_left
               ·rintro w' ⟨s0, s1, s2, s3, s4, s5⟩
                go_simp
                with_reducible rfl
               rotate_left
               ·simp only [Act.put, s_t, s_z, s_s, i64_w, i32_w]
                rfl
               refine px_ 25 137 ?_ ?_ chaseref1_keptOf.D94 HT_.out ?_ ?_ ?_; rotate_left 2; intro w'; go_simp; with_reducible rfl; simp only [Act.put, s_t, s_z, s_s, i64_w, i32_w]; rfl
               refine take_ (i := 26) (N := some 138) (v := ?_) (a' := ?_) chaseref1_keptOf.D95 rfl rfl (take_ofW HT_.out HW_.out (by kernel_rfl)) (fun _ _ _ h => h) (Or.inl ⟨by rfl, ?_⟩) hHeld ?_ ?_
               rotate_left
               ·rintro w' ⟨s0, s1, s2, s3, s4, s5⟩
                go_simp
                with_reducible rfl
               rotate_left
               ·simp only [Act.put, s_t, s_z, s_s, i64_w, i32_w]
                rfl
               refine px_ 27 139 ?_ ?_ chaseref1_keptOf.D96 HT_.out ?_ ?_ ?_; rotate_left 2; intro w'; go_simp; with_reducible rfl; simp only [Act.put, s_t, s_z, s_s, i64_w, i32_w]; rfl
               refine px_ 28 140 ?_ ?_ chaseref1_keptOf.D97 HT_.out ?_ ?_ ?_; rotate_left 2; intro w'; go_simp; with_reducible rfl; simp only [Act.put, s_t, s_z, s_s, i64_w, i32_w]; rfl
               refine done_ (done_of HT_.out (by kernel_rfl)) ?_
               try go_wp2
               go_roundg k4
               case measure => have := HK1.out; have := HK2.out; have := HK3.out; have := HK4.out; omega
               case rel => exact ⟨(x9_4), (x10_4), (ji64), (by first | rfl | (simp; done) | (simp [*]; done)), (by first | rfl | (simp; done) | (simp only [← hji64] <;> (first | rfl | simp)) | (simp [*]; done)), H', ⟨by have := HK1.out; have := HK2.out; have := HK3.out; have := HK4.out; omega⟩, ⟨by (try simp only [hl5_1]); (try simp only [hl5_2]); (with_reducible repeat (first | apply q1_ | apply q2_ | apply q3_)); exact HO_5.out⟩, ⟨by (try simp only [hl5_1]); (try simp only [hl5_2]); (with_reducible repeat (first | apply r1_ | apply r2_ | apply r3_)); exact HO_9.out⟩, ⟨by repeat (first | (with_reducible first | exact HB.out | apply b3_ | apply b1_ | apply b2_) | exact HB.out)⟩⟩
             ·rw [if_neg c60] at H
              have c60b0 : ((rdOf ByteArray.empty l0 x102_3).toList == (rdOf ByteArray.empty l1 x12_4).toList) = false := beq_eq_false_iff_ne.mpr c60
              have c60b1 : ((rdOf ByteArray.empty l0 x102_3).toList != (rdOf ByteArray.empty l1 x12_4).toList) = true := bne_iff_ne.mpr c60
              have H' := am_ H
              clear H
              try go_wp2
              have n0_ := am_ (q3_ HO_5.out)
              have n1_ := am_ (r3_ HO_9.out)
              have n2_ := am_ (b2_ HB.out)
              clear HO_5; clear HO_9; clear HB; have HO_5 := n0_; have HO_9 := n1_; have HB := n2_; clear n0_ n1_ n2_; have p159 : 0 ≤ (x102_3 : Int) := ode_; have q159 : x102_3 < (l0.length : Int) := ode_
              obtain ⟨ad159, e159, hx159_0⟩ := Kd.at_string HR0.out x102_3 p159 q159
              have hw159_0 := hx159_0
              cases e159
              first | replace hx159_0 := (HB.out.cell (World.block_lt_of_cell? w _ hx159_0)).trans hx159_0 | skip
              replace p159 := eq_true p159; replace q159 := eq_true q159; have p160 : 0 ≤ (x12_4 : Int) := ode_; have q160 : x12_4 < (l1.length : Int) := ode_
              obtain ⟨ad160, e160, hx160_0⟩ := Kd.at_string HR1.out x12_4 p160 q160
              have hw160_0 := hx160_0
              cases e160
              first | replace hx160_0 := (HB.out.cell (World.block_lt_of_cell? w _ hx160_0)).trans hx160_0 | skip
              replace p160 := eq_true p160; replace q160 := eq_true q160
              refine start_ (n := 29) (S := fun w' => w'.cell? (ad159.add (x102_3).toNat) = some (.string (rdOf ByteArray.empty l0 x102_3)) ∧ w'.cell? (ad160.add (x12_4).toNat) = some (.string (rdOf ByteArray.empty l1 x12_4))) (ds := []) chaseref1_keptOf.D0 (by kernel_rfl) rfl rfl ⟨((HB.out.cell (World.block_lt_of_cell? w _ hw159_0)).trans hw159_0), ((HB.out.cell (World.block_lt_of_cell? w _ hw160_0)).trans hw160_0)⟩ (fun hHeld => ?_); refine with_tabW chaseref1_keptOf.tab24 chaseref1_keptOf.bits24 (fun HT_ HW_ => ?_)
              generalize wr.drew = w75 at HO_5 HO_9 HB hx159_0 hx160_0 hHeld ⊢
              refine px_ 0 112 ?_ ?_ chaseref1_keptOf.D4 HT_.out ?_ ?_ ?_; rotate_left 2; intro w'; go_simp; with_reducible rfl; simp only [Act.put, s_t, s_z, s_s, i64_w, i32_w]; rfl
              refine px_ 1 113 ?_ ?_ chaseref1_keptOf.D8 HT_.out ?_ ?_ ?_; rotate_left 2; intro w'; go_simp; with_reducible rfl; simp only [Act.put, s_t, s_z, s_s, i64_w, i32_w]; rfl
              refine px_ 2 114 ?_ ?_ chaseref1_keptOf.D12 HT_.out ?_ ?_ ?_; rotate_left 2; intro w'; go_simp; with_reducible rfl; simp only [Act.put, s_t, s_z, s_s, i64_w, i32_w]; rfl
              refine px_ 4 116 ?_ ?_ chaseref1_keptOf.D16 HT_.out ?_ ?_ ?_; rotate_left 2; intro w'; go_simp; with_reducible rfl; simp only [Act.put, s_t, s_z, s_s, i64_w, i32_w]; rfl
              refine px_ 5 117 ?_ ?_ chaseref1_keptOf.D20 HT_.out ?_ ?_ ?_; rotate_left 2; intro w'; go_simp; with_reducible rfl; simp only [Act.put, s_t, s_z, s_s, i64_w, i32_w]; rfl
              refine px_ 6 118 ?_ ?_ chaseref1_keptOf.D24 HT_.out ?_ ?_ ?_; rotate_left 2; intro w'; go_simp; with_reducible rfl; simp only [Act.put, s_t, s_z, s_s, i64_w, i32_w]; rfl
              refine take_ (i := 3) (N := some 115) (v := ?_) (a' := ?_) chaseref1_keptOf.D44 rfl rfl (take_ofW HT_.out HW_.out (by kernel_rfl)) (fun _ _ _ h => h) (Or.inl ⟨by rfl, ?_⟩) hHeld ?_ ?_
              rotate_left
              ·rintro w' ⟨s0, s1⟩
               go_simp
               with_reducible rfl
              rotate_left
              ·simp only [Act.put, s_t, s_z, s_s, i64_w, i32_w]
               rfl
              refine take_ (i := 7) (N := some 119) (v := ?_) (a' := ?_) chaseref1_keptOf.D46 rfl rfl (take_ofW HT_.out HW_.out (by kernel_rfl)) (fun _ _ _ h => h) (Or.inl ⟨by rfl, ?_⟩) hHeld ?_ ?_
              rotate_left
              ·rintro w' ⟨s0, s1⟩
               go_simp
               with_reducible rfl
              rotate_left
              ·simp only [Act.put, s_t, s_z, s_s, i64_w, i32_w]
               rfl
              refine px_ 8 120 ?_ ?_ chaseref1_keptOf.D49 HT_.out ?_ ?_ ?_; rotate_left 2; intro w'; go_simp; with_reducible rfl; simp only [Act.put, s_t, s_z, s_s, i64_w, i32_w]; rfl
              refine px_ 9 121 ?_ ?_ chaseref1_keptOf.D51 HT_.out ?_ ?_ ?_; rotate_left 2; intro w'; go_simp; with_reducible rfl; simp only [Act.put, s_t, s_z, s_s, i64_w, i32_w]; rfl
              refine pv_ (i := 10) (N := some 122) (a' := ?_) chaseref1_keptOf.D53 (any_of HT_.out (by kernel_rfl)) ?_ ?_; rotate_left
              ·simp only [Act.put, s_t, s_z, s_s, i64_w, i32_w]; rfl
              refine pv_ (i := 11) (N := some 123) (a' := ?_) chaseref1_keptOf.D56 (any_of HT_.out (by kernel_rfl)) ?_ ?_; rotate_left
              ·simp only [Act.put, s_t, s_z, s_s, i64_w, i32_w]; rfl
              refine pv_ (i := 12) (N := some 124) (a' := ?_) chaseref1_keptOf.D58 (any_of HT_.out (by kernel_rfl)) ?_ ?_; rotate_left
              ·simp only [Act.put, s_t, s_z, s_s, i64_w, i32_w]; rfl
              refine pv_ (i := 13) (N := some 125) (a' := ?_) chaseref1_keptOf.D59 (any_of HT_.out (by kernel_rfl)) ?_ ?_; rotate_left
              ·simp only [Act.put, s_t, s_z, s_s, i64_w, i32_w]; rfl
              refine pv_ (i := 14) (N := some 126) (a' := ?_) chaseref1_keptOf.D66 (any_of HT_.out (by kernel_rfl)) ?_ ?_; rotate_left
              ·simp only [Act.put, s_t, s_z, s_s, i64_w, i32_w]; rfl
              refine pv_ (i := 15) (N := some 127) (a' := ?_) chaseref1_keptOf.D67 (any_of HT_.out (by kernel_rfl)) ?_ ?_; rotate_left
              ·simp only [Act.put, s_t, s_z, s_s, i64_w, i32_w]; rfl
              refine pv_ (i := 16) (N := some 128) (a' := ?_) chaseref1_keptOf.D70 (any_of HT_.out (by kernel_rfl)) ?_ ?_; rotate_left
              ·simp only [Act.put, s_t, s_z, s_s, i64_w, i32_w]; rfl
              refine pv_ (i := 17) (N := some 129) (a' := ?_) chaseref1_keptOf.D72 (any_of HT_.out (by kernel_rfl)) ?_ ?_; rotate_left
              ·simp only [Act.put, s_t, s_z, s_s, i64_w, i32_w]; rfl
              refine pv_ (i := 18) (N := some 130) (a' := ?_) chaseref1_keptOf.D74 (any_of HT_.out (by kernel_rfl)) ?_ ?_; rotate_left
              ·simp only [Act.put, s_t, s_z, s_s, i64_w, i32_w]; rfl
              refine pv_ (i := 19) (N := some 131) (a' := ?_) chaseref1_keptOf.D78 (any_of HT_.out (by kernel_rfl)) ?_ ?_; rotate_left
              ·simp only [Act.put, s_t, s_z, s_s, i64_w, i32_w]; rfl
              refine pv_ (i := 20) (N := some 132) (a' := ?_) chaseref1_keptOf.D81 (any_of HT_.out (by kernel_rfl)) ?_ ?_; rotate_left
              ·simp only [Act.put, s_t, s_z, s_s, i64_w, i32_w]; rfl
              refine pv_ (i := 21) (N := some 133) (a' := ?_) chaseref1_keptOf.D84 (any_of HT_.out (by kernel_rfl)) ?_ ?_; rotate_left
              ·simp only [Act.put, s_t, s_z, s_s, i64_w, i32_w]; rfl
              refine pv_ (i := 22) (N := some 134) (a' := ?_) chaseref1_keptOf.D87 (any_of HT_.out (by kernel_rfl)) ?_ ?_; rotate_left
              ·simp only [Act.put, s_t, s_z, s_s, i64_w, i32_w]; rfl
              refine pv_ (i := 23) (N := some 135) (a' := ?_) chaseref1_keptOf.D91 (any_of HT_.out (by kernel_rfl)) ?_ ?_; rotate_left
              ·simp only [Act.put, s_t, s_z, s_s, i64_w, i32_w]; rfl
              refine pv_ (i := 24) (N := some 136) (a' := ?_) chaseref1_keptOf.D93 (any_of HT_.out (by kernel_rfl)) ?_ ?_; rotate_left
              ·simp only [Act.put, s_t, s_z, s_s, i64_w, i32_w]; rfl
              refine pv_ (i := 25) (N := some 137) (a' := ?_) chaseref1_keptOf.D94 (any_of HT_.out (by kernel_rfl)) ?_ ?_; rotate_left
              ·simp only [Act.put, s_t, s_z, s_s, i64_w, i32_w]; rfl
              refine pv_ (i := 26) (N := some 138) (a' := ?_) chaseref1_keptOf.D95 (any_of HT_.out (by kernel_rfl)) ?_ ?_; rotate_left
              ·simp only [Act.put, s_t, s_z, s_s, i64_w, i32_w]; rfl
              refine pv_ (i := 27) (N := some 139) (a' := ?_) chaseref1_keptOf.D96 (any_of HT_.out (by kernel_rfl)) ?_ ?_; rotate_left
              ·simp only [Act.put, s_t, s_z, s_s, i64_w, i32_w]; rfl
              refine px_ 28 140 ?_ ?_ chaseref1_keptOf.D97 HT_.out ?_ ?_ ?_; rotate_left 2; intro w'; go_simp; with_reducible rfl; simp only [Act.put, s_t, s_z, s_s, i64_w, i32_w]; rfl
              refine done_ (done_of HT_.out (by kernel_rfl)) ?_
              try go_wp2
              go_roundg k4
              case measure => have := HK1.out; have := HK2.out; have := HK3.out; have := HK4.out; omega
              case rel => exact ⟨(x9_4), (x10_4), (wrap64 (x12_4 + 1)), (by first | rfl | (simp; done) | (simp [*]; done)), (by first | rfl | (simp; done) | (simp [*]; done)), H', ⟨by have := HK1.out; have := HK2.out; have := HK3.out; have := HK4.out; omega⟩, ⟨by (try simp only [hl5_1]); (try simp only [hl5_2]); (with_reducible repeat (first | apply q1_ | apply q2_ | apply q3_)); exact HO_5.out⟩, ⟨by (try simp only [hl5_1]); (try simp only [hl5_2]); (with_reducible repeat (first | apply r1_ | apply r2_ | apply r3_)); exact HO_9.out⟩, ⟨by repeat (first | (with_reducible first | exact HB.out | apply b3_ | apply b1_ | apply b2_) | exact HB.out)⟩⟩
            ·rw [if_neg c56] at H
             have c56b0 : decide (x12_4 < (l1.length : Int)) = false := decide_eq_false c56
             (try simp only [hl5_3] at c56b0); clear c56
             have H' := am_ H
             clear H
             go_wp2
             go_roundg k4
             case measure => have := HK1.out; have := HK2.out; have := HK3.out; have := HK4.out; omega
             case rel => exact ⟨(x9_4), (x10_4), (wrap64 (x102_3 + 1)), (by first | rfl | (simp; done) | (simp [*]; done)), (by first | rfl | (simp; done) | (simp [*]; done)), H', ⟨by have := HK1.out; have := HK2.out; have := HK3.out; have := HK4.out; omega⟩, ⟨by (try simp only [hl5_1]); (try simp only [hl5_2]); (with_reducible repeat (first | apply q1_ | apply q2_ | apply q3_)); exact HO_5.out⟩, ⟨by (try simp only [hl5_1]); (try simp only [hl5_2]); (with_reducible repeat (first | apply r1_ | apply r2_ | apply r3_)); exact HO_9.out⟩, ⟨by repeat (first | (with_reducible first | exact HB.out | apply b3_ | apply b1_ | apply b2_) | exact HB.out)⟩⟩
         ·rw [if_neg c55] at H
          have c55b0 : decide (x102_3 < (l0.length : Int)) = false := decide_eq_false c55
          (try simp only [hl5_3] at c55b0); clear c55
          obtain rfl := Option.some.inj H
          go_wp2
          go_ret
          exact ⟨_, by first | rfl | (simp [errW_none, errW_some] <;> rfl) | (simp only [← hji3]; first | rfl | (simp [errW_none, errW_some] <;> rfl)) | (simp [*, errW_none, errW_some] <;> rfl), by (with_reducible repeat (first | apply r1_ | apply r2_ | apply r3_)); exact HO_9.out, by repeat (first | (with_reducible first | exact HB.out | apply b3_ | apply b1_ | apply b2_) | exact HB.out)⟩
end Go.Proofs.YtenphgclongphaaGreatDoor.Pk
