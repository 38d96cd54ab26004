/- A part of the proof of textsCovered. No conditions. Laid by program over the kit's print and words. -/
import Derived.Test.YtolcpmdojlbhcaaDoorZyPxx0
import Derived.Test.YtolcpmdojlbhcaaDoorZyPxx9
import Derived.Test.YtolcpmdojlbhcaaDoorZyPxx12
namespace Go.Proofs.YtolcpmdojlbhcaaDoor.Px
open Go.RowKit Go.Proofs.YtolcpmdojlbhcaaDoor.GBase Go.Proofs.YtolcpmdojlbhcaaDoorW.PrintWords Go.Proofs.YtolcpmdojlbhcaaDoorW.PrintLast Go.Proofs.YtolcpmdojlbhcaaDoorW.PrintMore
attribute [local go_sem] str_leq max2_int min2_int max_two min_two max_three min_three max_four min_four
set_option linter.unusedVariables false
set_option linter.unusedSimpArgs false
set_option maxHeartbeats 8000000 in
set_option maxRecDepth 100000 in
theorem Z14.calls (k : Nat) (a0 : ByteArray) (A1 : Option Addr) (c1 : Nat) (l1 : List (S46)) (r : List Bool) (w : World) (hr1 : Kd.C k46 w A1 l1.length l1) (hc1 : l1.length ≤ c1) (hGl : Wd w) (h : Z14.f k a0 l1 = some r) :
  Calls Tryd.prog 65 #[.string a0, .slice A1 l1.length c1] w fun e w' => ∃ v0_ : Value, e = .returned (v0_) ∧ Kd.R Kd.bool 4 w' w.heap.size (fun _ => True) v0_ r ∧ Below w.heap.size w w' := by
 have HGl := am_ hGl; clear hGl; have HR1 := am_ hr1; have HC1 := am_ hc1; clear hr1 hc1
 have HB := am_ (Below.refl w.heap.size w)
 have H : ((Z20.f k l1 (a0.size : Int)).bind fun t351 => (if 0 ≤ (a0.size : Int) then (if ((a0.size : Int) : Int).toNat ≤ 281474976710656 then (Z14.l0 k a0 t351 (List.replicate ((a0.size : Int) : Int).toNat false) 0) else (none)) else (none))) = some r := h
 clear h; replace H := Option.bind_eq_some_iff.mp H; obtain ⟨t351, A30, H⟩ := H; have A3 := am_ A30; clear A30
 by_cases c4 : 0 ≤ (a0.size : Int)
 case neg => exact (nn_ c4 H).elim
 rw [if_pos c4] at H; have c4b0 := eq_true c4; have c4b1 := decide_eq_true c4; clear c4
 by_cases c5 : ((a0.size : Int) : Int).toNat ≤ 281474976710656
 case neg => exact (nn_ c5 H).elim
 rw [if_pos c5] at H; have c5b0 := eq_true c5; have c5b1 := decide_eq_true c5; clear c5
 obtain ⟨y354, hy354⟩ : ∃ y_ : List Bool, y_ = (List.replicate ((a0.size : Int) : Int).toNat false) := ⟨_, rfl⟩
 replace H : (Z14.l0 k a0 t351 y354 0) = some r := by first | (rw [hy354]; with_reducible exact H) | (have H2_ := (Option.bind_some _ _).symm.trans H; rw [hy354]; with_reducible exact H2_) | (have H2_ := (Option.bind_some _ _).symm.trans H; with_reducible exact H2_) | with_reducible exact H | (rw [hy354]; exact H) | exact H
 have Ny354 := am_ hy354; clear hy354
 have H' := am_ H
 clear H
 go_enter Tryd.func65, Tryd.ntmps65
 go_wp2_with (first | ((with_reducible refine gate_callee (f := 96) rfl ?_); refine goesL_ (some 15) rfl rfl Tryd.func96 (by kernel_rfl) rfl #[.slice A1 l1.length c1, .int .i64 (a0.size : Int)] rfl gl_ ?_; (with_reducible refine (Z20.calls k _ _ l1 (a0.size : Int) t351 _ ?side1 ?side2 A3.out).mono ?_); (case side1 => exact cc_ HR1.out); (case side2 => exact HC1.out); rintro e w6 ⟨v352, rfl, ho0, hb⟩; refine ⟨_, rfl, ?_⟩; have n0_ := am_ (Kd.R_lower ho0 (below_size (bw_ HB.out))); have n1_ := am_ (below_step (bw_ HB.out) hb); clear HB; have HO353 := n0_; have HB := n1_; clear n0_ n1_; (try clear hb); (try clear hb2); (try clear hk); (try clear hi); (try clear ho0)) | ((with_reducible refine gate_dst (N := 18) rfl ?_); refine Kd.R_make Kd.bool _ 4 rfl (N := 18) rfl 81 _ _ rfl (a0.size : Int) rfl rfl Tryd.underlying81 (.bool false) 1 info4 rfl (by decide) (by omega) false (ok := fun _ => True) (okp := fun _ => True) rfl (fun _ hk => hk) trivial (ode_) (Nat.le_trans (Nat.mul_le_mul_right _ (ode_ : (a0.size : Int).toNat ≤ 281474976710656)) (by omega)) (Below.refl _ _) (Nat.le_refl _) ?_; intro v355 w7 ho8 hb hg_ hnew_; clear hg_ hnew_; (first | rw [← Ny354.out] at ho8 | (simp only [Int.reduceToNat] at ho8; rw [← Ny354.out] at ho8)); have n0_ := am_ (Kd.R_elder' (rr_ HO353.out) (Kd.R_base ho8) hb); have n1_ := am_ (Kd.R_lower (Kd.R_new' ho8 (Kd.R_lt (rr_ HO353.out))) (below_size (bw_ HB.out))); have n2_ := am_ (below_step (bw_ HB.out) hb); clear HO353; clear HB; have HO353 := n0_; have HO356 := n1_; have HB := n2_; clear n0_ n1_ n2_; clear hb ho8))
 go_loopg [7] k (fun kq v7 w' => ∃ (x6_1 : List Bool) (x7_1 : Int), v7 = .int .i64 x7_1 ∧ Aside0 (Z14.l0 kq a0 t351 x6_1 x7_1 = some r) ∧ Aside0 (kq ≤ k) ∧ Aside0 (Kd.R Kd.bool 4 w' w.heap.size (fun k_ => some k_ ≠ (v355 : Value).ownBlock) v352 t351) ∧ Aside0 (Kd.R Kd.bool 4 w' w.heap.size (fun k_ => some k_ ≠ (v352 : Value).ownBlock) v355 x6_1) ∧ Aside0 (Below w.heap.size w w'))
 case atStart => exact ⟨(y354), (0), tr_, H', ⟨Nat.le_refl _⟩, ⟨by (with_reducible repeat (first | apply r1_ | apply r2_ | apply r3_)); exact Kd.R_mono HO353.out (fun _ hk => hk.2)⟩, ⟨by (with_reducible repeat (first | apply r1_ | apply r2_ | apply r3_)); exact Kd.R_mono HO356.out (fun _ hk => hk.2)⟩, ⟨bw_ HB.out⟩⟩
 case round =>
  clear H'; (try clear c1); (try clear p2); (try clear c4); (try clear c4b0); (try clear c4b1); (try clear c5); (try clear c5b0); (try clear c5b1); (try clear c6); obtain ⟨x6_1, x7_1, rfl, HA, HK1, HO_5, HO_6, HB⟩ := hrel
  cases gk with
  | zero => exact absurd HA.out (by simp [Z14.l0])
  | succ k1 =>
   have H := HA.out
   clear HA
   simp only [Z14.l0] at H
   by_cases c9 : x7_1 < (a0.size : Int)
   ·rw [if_pos c9] at H
    have c9b0 := decide_eq_true c9; clear c9
    by_cases c10 : 0 ≤ x7_1
    case neg => exact (nn_ c10 H).elim
    rw [if_pos c10] at H; have c10b0 := eq_true c10; have c10b1 := decide_eq_true c10; clear c10
    by_cases c11 : x7_1 ≤ (a0.size : Int)
    case neg => exact (nn_ c11 H).elim
    rw [if_pos c11] at H; have c11b0 := eq_true c11; have c11b1 := decide_eq_true c11; clear c11; replace H := Option.bind_eq_some_iff.mp H
    obtain ⟨⟨t357, t358⟩, A120, H⟩ := H
    replace H : (if x7_1 ≤ (wrap64 (x7_1 + t358)) then (if (wrap64 (x7_1 + t358)) ≤ (t351.length : Int) then ((Z37.f k1 ((t351.take ((wrap64 (x7_1 + t358)) : Int).toNat).drop (x7_1 : Int).toNat) true).bind fun t363 => (Z14.l1 k1 a0 t351 x6_1 x7_1 t358 t363 t358 0)) else (none)) else (none)) = some r := H
    have A12 := am_ A120; clear A120
    have c13b0 := eq_true (ode_ : 0 ≤ x7_1)
    by_cases c14 : x7_1 ≤ (wrap64 (x7_1 + t358))
    case neg => exact (nn_ c14 H).elim
    rw [if_pos c14] at H; have c14b0 := eq_true c14; have c14b1 := decide_eq_true c14
    by_cases c15 : (wrap64 (x7_1 + t358)) ≤ (t351.length : Int)
    case neg => exact (nn_ c15 H).elim
    rw [if_pos c15] at H; have c15b0 := eq_true c15; have c15b1 := decide_eq_true c15
    obtain ⟨y359, hy359⟩ : ∃ y_ : List Bool, y_ = ((t351.take ((wrap64 (x7_1 + t358)) : Int).toNat).drop (x7_1 : Int).toNat) := ⟨_, rfl⟩
    replace H : ((Z37.f k1 y359 true).bind fun t363 => (Z14.l1 k1 a0 t351 x6_1 x7_1 t358 t363 t358 0)) = some r := by first | (rw [hy359]; with_reducible exact H) | (have H2_ := (Option.bind_some _ _).symm.trans H; rw [hy359]; with_reducible exact H2_) | (have H2_ := (Option.bind_some _ _).symm.trans H; with_reducible exact H2_) | with_reducible exact H | (rw [hy359]; exact H) | exact H
    have Ny359 := am_ hy359; clear hy359; replace H := Option.bind_eq_some_iff.mp H; obtain ⟨t363, A160, H⟩ := H; have A16 := am_ A160; clear A160
    have H' := am_ H
    clear H
    go_wp2_with (first | ((with_reducible refine gate_callee (f := 97) rfl ?_); refine goesL_ (some 27) rfl rfl Tryd.func97 (by kernel_rfl) rfl #[.string (a0.extract (x7_1 : Int).toNat a0.size)] rfl gl_ ?_; (with_reducible refine (Z58.calls (a0.extract (x7_1 : Int).toNat a0.size) t357 t358 _ ?side1 A12.out).mono ?_); (case side1 => exact Wd.below HGl.out (bw_ HB.out)); rintro e w17 ⟨rfl, hb⟩; refine ⟨_, rfl, ?_⟩; have n0_ := am_ (Kd.R_below (rr_ HO_5.out) hb); have n1_ := am_ (Kd.R_below (rr_ HO_6.out) hb); have n2_ := am_ (below_step (bw_ HB.out) hb); clear HO_5; clear HO_6; clear HB; have HO_5 := n0_; have HO_6 := n1_; have HB := n2_; clear n0_ n1_ n2_; (try clear hb); (try clear hb2); (try clear hk); (try clear hi); obtain ⟨Ao19, co19, eo19⟩ := Kd.R_slice HO_5.out; subst eo19; have q18 : ((wrap64 (x7_1 + t358)) : Int) ≤ ((t351.length : Int) : Int) := ode_; obtain ⟨i018, hi018, _, hsz18, _⟩ := info_parts info4; have hroom18 : t351.length ≤ co19 := (Kd.R_reads' HO_5.out).2.1; have hC18 : Kd.C Kd.bool _ Ao19 t351.length t351 := (Kd.R_reads' HO_5.out).2.2; have ql18 : (x7_1 : Int) ≤ ((wrap64 (x7_1 + t358)) : Int) := ode_; have q018 : (0 : Int) ≤ (x7_1 : Int) := ode_; have hcut18 := cut_mid (P := Tryd.prog) 81 4 .i64 .i64 Tryd.underlying81 hi018 1 hsz18 Ao19 t351.length co19 x7_1 (wrap64 (x7_1 + t358)) q018 ql18 q18 hroom18; have hr18 := Kd.C_mid (lo := (x7_1 : Int).toNat) (hi := ((wrap64 (x7_1 + t358)) : Int).toNat) (c := co19) hC18 (by omega) (by omega) hroom18; obtain ⟨A18, hA18⟩ : ∃ A1, A1 = (if co19 = (x7_1 : Int).toNat then Ao19 else (Ao19 : Option Addr).map (·.add ((x7_1 : Int).toNat * 1))) := ⟨_, rfl⟩; obtain ⟨c18, hc18⟩ : ∃ c1, c1 = co19 - (x7_1 : Int).toNat := ⟨_, rfl⟩; have hy18 : y359.length = ((wrap64 (x7_1 + t358)) : Int).toNat - (x7_1 : Int).toNat := (by rw [Ny359.out, List.length_drop, List.length_take] <;> omega); rw [show ((t351).take ((wrap64 (x7_1 + t358)) : Int).toNat).drop (x7_1 : Int).toNat = y359 from Ny359.out.symm] at hr18; replace hr18 : Kd.C Kd.bool _ A18 y359.length y359 := (by rw [hA18]; exact hr18); rw [← hy18, ← hA18, ← hc18] at hcut18; have HR362 := am_ hr18; have HC362 := am_ (show y359.length ≤ c18 from by rw [hy18, hc18]; exact Nat.sub_le_sub_right (Nat.le_trans (by omega) hroom18) _); clear hr18 hC18 hroom18 hi018 hsz18 hc18; have KY18 := am_ hy18; have KA18 := am_ hA18; clear hy18 hA18; have KL18 := am_ (show ((wrap64 (x7_1 + t358)) : Int).toNat ≤ t351.length from by omega); have KM18 := am_ (show (x7_1 : Int).toNat ≤ ((wrap64 (x7_1 + t358)) : Int).toNat from by omega); replace q18 := eq_true q18) | ((with_reducible refine gate_callee (f := 62) rfl ?_); refine goesL_ (some 36) rfl rfl Tryd.func62 (by kernel_rfl) rfl #[.slice A18 y359.length c18, .bool true] rfl gl_ ?_; (with_reducible refine (Z37.calls k1 _ _ y359 true t363 _ ?side1 ?side2 A16.out).mono ?_); (case side1 => repeat (first | exact (by repeat (first | (with_reducible first | exact HR362.out | refine Kd.C_alloc ?_ _ | refine Kd.C_drewN ?_ _ | refine Kd.C_drew ?_) | exact HR362.out)) | (with_reducible refine Kd.C_alloc ?_ _) | (with_reducible refine Kd.C_drewN ?_ _) | (with_reducible refine Kd.C_drew ?_))); (case side2 => exact HC362.out); rintro e w' ⟨rfl, ⟨nd, rfl⟩⟩; refine ⟨_, rfl, ?_⟩))
    go_loopg [38] k1 (fun kq v38 w' => ∃ (x6_2 : List Bool) (x38_2 : Int), v38 = .int .i64 x38_2 ∧ Aside0 (Z14.l1 kq a0 t351 x6_2 x7_1 t358 t363 t358 x38_2 = some r) ∧ Aside0 (kq ≤ k1) ∧ Aside0 (Kd.R Kd.bool 4 w' w.heap.size (fun k_ => some k_ ≠ (v355 : Value).ownBlock) (.slice Ao19 t351.length co19) t351) ∧ Aside0 (Kd.R Kd.bool 4 w' w.heap.size (fun k_ => some k_ ≠ ((.slice Ao19 t351.length co19) : Value).ownBlock) v355 x6_2) ∧ Aside0 (Below w.heap.size w w'))
    case atStart => exact ⟨(x6_1), (0), tr_, H', ⟨Nat.le_refl _⟩, ⟨rr_ HO_5.out⟩, ⟨rr_ HO_6.out⟩, ⟨bw_ HB.out⟩⟩
    case round =>
     clear H'; (try clear c1); (try clear q1); (try clear p2); (try clear c4); (try clear c4b0); (try clear c4b1); (try clear c5); (try clear c5b0); (try clear c5b1); (try clear c6); (try clear p6); (try clear c9); (try clear c9b0); (try clear c10); (try clear c10b0); (try clear c10b1); (try clear c11); (try clear c11b0); (try clear c11b1); (try clear c13); (try clear c13b0); (try clear c14); (try clear c14b0); (try clear c14b1); (try clear c15); (try clear c15b0); (try clear c15b1); (try clear c18); (try clear q18); (try clear p2); (try clear q018); (try clear q18); obtain ⟨x6_2, x38_2, rfl, HA, HK2, HO_5, HO_6, HB⟩ := hrel
     cases gk with
     | zero => exact absurd HA.out (by simp [Z14.l1])
     | succ k2 =>
      have H := HA.out
      clear HA
      simp only [Z14.l1] at H
      by_cases c20 : x38_2 < t358
      ·rw [if_pos c20] at H
       have c20b0 := decide_eq_true c20; clear c20
       obtain ⟨ji21, hji21⟩ : ∃ j_ : Int, (wrap64 (x7_1 + x38_2)) = j_ := ⟨_, rfl⟩
       replace H : (if 0 ≤ (ji21) then (if (ji21) < (x6_2.length : Int) then (Z14.l1 k2 a0 t351 (x6_2.set ((ji21) : Int).toNat t363) x7_1 t358 t363 t358 (wrap64 (x38_2 + 1))) else (none)) else (none)) = some r := by first | (rw [hji21] at H; exact H) | (simp only [hji21] at H ⊢; exact H)
       have hji21w : (IntKind.i64.wrap (x7_1 + x38_2)) = ji21 := (i64_w _).trans hji21
       by_cases c22 : 0 ≤ (ji21)
       case neg => exact (nn_ c22 H).elim
       rw [if_pos c22] at H; have c22b0 := decide_eq_true c22; clear c22
       by_cases c23 : (ji21) < (x6_2.length : Int)
       case neg => exact (nn_ c23 H).elim
       rw [if_pos c23] at H; have c23b0 := decide_eq_true c23; clear c23
       obtain ⟨y364, hy364⟩ : ∃ y_ : List Bool, y_ = (x6_2.set ((ji21) : Int).toNat t363) := ⟨_, rfl⟩
       replace H : (Z14.l1 k2 a0 t351 y364 x7_1 t358 t363 t358 (wrap64 (x38_2 + 1))) = some r := by first | (rw [hy364]; with_reducible exact H) | (have H2_ := (Option.bind_some _ _).symm.trans H; rw [hy364]; with_reducible exact H2_) | (have H2_ := (Option.bind_some _ _).symm.trans H; with_reducible exact H2_) | with_reducible exact H | (rw [hy364]; exact H) | exact H
       have Ny364 := am_ hy364; clear hy364
       have H' := am_ H
       clear H; have p24 : 0 ≤ ((ji21) : Int) := ode_; have q24 : ((ji21) : Int) < ((x6_2.length : Int) : Int) := ode_
       obtain ⟨go24, co24, eo24, gb24, gl24, cl24, HG24⟩ := Kd.R_form HO_6.out (by omega)
       (first | cases eo24 | (injection eo24 with ea_ en_ ec_; (first | subst ea_ | (injection ea_ with ea_; subst ea_)); subst ec_; clear en_))
       have GB24 := am_ gb24; have GG24 := am_ HG24; clear gb24 gl24 HG24
       obtain ⟨hx24_0, hf24_0⟩ := Kd.R_celln false HO_6.out ((ji21) : Int) p24 q24
       replace p24 := eq_true p24; replace q24 := eq_true q24
       have HP25 := Kd.R_putg HO_6.out ((ji21) : Int) t363
       go_wp2_with (first | ((with_reducible refine gate_store (t := 4) (p := 46) rfl ?_); refine store_event (t := 4) (p := 46) (v := ?vo_w26) (w1 := (wr.setCell ⟨go24, ((ji21) : Int).toNat, none⟩ (.bool t363))) ?hg ?ho ?hn ?hr ?_; (case ho => rfl); (case hg => rfl); (case hn => rfl); (case hr => first | (go_simp; done) | (go_simp; rfl)); intro w26 hw; have hg : wr.grownBy w26 (some go24) := (by rw [hw]; exact HP25.2); have hp_ : Kd.R Kd.bool 4 w26 w.heap.size (fun k_ => some k_ ≠ (.slice Ao19 t351.length co19 : Value).ownBlock) (.slice (some ⟨go24, 0, none⟩) x6_2.length co24) y364 := (by rw [hw, Ny364.out]; exact HP25.1); clear HP25; have n0_ := am_ (Kd.R_after (v := (.slice (some ⟨go24, 0, none⟩) x6_2.length co24)) (v1 := (.slice (some ⟨go24, 0, none⟩) x6_2.length co24)) (ok := (fun _ => True)) (by (with_reducible repeat (first | apply r1_ | apply r2_ | apply r3_)); exact Kd.R_mono HO_5.out (fun _ hk => ⟨trivial, hk⟩)) hg (.inl rfl)); have n1_ := am_ (hp_); have n2_ := am_ ((by rw [hw]; exact below_set (HB.out) GB24.out : Below w.heap.size w w26)); have n3_ := am_ ((show Kd.C Kd.bool w26 A18 y359.length y359 from by rw [Ny359.out, KA18.out]; exact Kd.C_mid (lo := (x7_1 : Int).toNat) (hi := ((wrap64 (x7_1 + t358)) : Int).toNat) (c := co19) ((Kd.R_reads' (Kd.R_after (v := (.slice (some ⟨go24, 0, none⟩) x6_2.length co24)) (v1 := (.slice (some ⟨go24, 0, none⟩) x6_2.length co24)) (ok := (fun _ => True)) (by (with_reducible repeat (first | apply r1_ | apply r2_ | apply r3_)); exact Kd.R_mono HO_5.out (fun _ hk => ⟨trivial, hk⟩)) hg (.inl rfl))).2.2) KM18.out KL18.out ((Kd.R_reads' (Kd.R_after (v := (.slice (some ⟨go24, 0, none⟩) x6_2.length co24)) (v1 := (.slice (some ⟨go24, 0, none⟩) x6_2.length co24)) (ok := (fun _ => True)) (by (with_reducible repeat (first | apply r1_ | apply r2_ | apply r3_)); exact Kd.R_mono HO_5.out (fun _ hk => ⟨trivial, hk⟩)) hg (.inl rfl))).2.1))); clear HO_5; clear HO_6; clear HB; clear HR362; have HO_5 := n0_; have HO_6 := n1_; have HB := n2_; have HR362 := n3_; clear n0_ n1_ n2_ n3_; clear hg hw hp_))
       go_roundg k2
       case measure => have := HK1.out; have := HK2.out; omega
       case rel => exact ⟨(y364), (wrap64 (x38_2 + 1)), tr_, H', ⟨by have := HK1.out; have := HK2.out; omega⟩, ⟨by (with_reducible repeat (first | apply r1_ | apply r2_ | apply r3_)); exact Kd.R_mono HO_5.out (fun _ hk => hk.2)⟩, ⟨rr_ HO_6.out⟩, ⟨bw_ HB.out⟩⟩
      ·rw [if_neg c20] at H
       have c20b0 : decide (x38_2 < t358) = false := decide_eq_false c20
       clear c20
       have H' := am_ H
       clear H
       go_wp2
       go_roundg k2
       case measure => have := HK1.out; have := HK2.out; omega
       case rel => exact ⟨(x6_2), (wrap64 (x7_1 + t358)), tr_, H', ⟨by have := HK1.out; have := HK2.out; omega⟩, ⟨rr_ HO_5.out⟩, ⟨rr_ HO_6.out⟩, ⟨bw_ HB.out⟩⟩
   ·rw [if_neg c9] at H
    have c9b0 : decide (x7_1 < (a0.size : Int)) = false := decide_eq_false c9
    clear c9
    obtain rfl := Option.some.inj H
    go_wp2
    go_ret
    exact ⟨_, by first | rfl | (simp [errW_none, errW_some] <;> rfl) | (simp [*, errW_none, errW_some] <;> rfl), by (with_reducible repeat (first | apply r1_ | apply r2_ | apply r3_)); exact Kd.R_mono HO_6.out (fun _ hk => trivial), bw_ HB.out⟩
def Z59.f (l0 : List (S46)) : Option ((List (S46)) × Int) := if (l0.length : Int) > 1000 then (some (([] : List (S46)), 2)) else (some (l0, 0))
set_option maxHeartbeats 8000000 in
set_option maxRecDepth 100000 in
theorem Z59.calls (P0_ : Nat → Prop) (u9000_ : Value) (l0 : List (S46)) (r1 : List (S46)) (r2 : Int) (w0 w : World) (hB : Below w0.heap.size w0 w) (ho0 : Kd.R k46 46 w w0.heap.size P0_ u9000_ l0) (h : Z59.f l0 = some (r1, r2)) :
  Calls Tryd.prog 68 #[u9000_] w fun e w' => ∃ v0_ : Value, e = .returned (.tuple #[v0_, .int .i64 r2]) ∧ Kd.R k46 46 w' w0.heap.size (fun k_ => (P0_ k_ ∨ w.heap.size ≤ k_)) v0_ r1 ∧ Below w0.heap.size w0 w' ∧ Kept w w' (fun k_ => P0_ k_) := by
 have HO0 := am_ (show Kd.R k46 46 w w0.heap.size (fun k_ => (P0_ k_ ∨ w.heap.size ≤ k_)) u9000_ l0 from Kd.R_mono ho0 (fun k_ hk => (.inl hk)))
 have HK := am_ (Kept.refl w (fun k_ => P0_ k_))
 have HW0 := am_ hB.size; have HB := am_ hB; clear hB
 have H : (if (l0.length : Int) > 1000 then (some (([] : List (S46)), 2)) else (some (l0, 0))) = some (r1, r2) := h
 clear h
 by_cases c2 : (l0.length : Int) > 1000
 ·rw [if_pos c2] at H
  have c2b0 : decide (1000 < (l0.length : Int)) = true := decide_eq_true c2
  have c2b1 : decide (1000 < l0.length) = true := decide_eq_true (by omega)
  clear c2
  simp only [Option.some.injEq, Prod.mk.injEq] at H
  obtain ⟨rfl, rfl⟩ := H
  obtain ⟨Ao3, co3, eo3⟩ := Kd.R_slice HO0.out
  subst eo3
  go_enter Tryd.func68, Tryd.ntmps68
  go_wp2
  go_ret2
  exact ⟨_, by first | rfl | (simp [errW_none, errW_some] <;> rfl) | (simp [*, errW_none, errW_some] <;> rfl), by first | exact Kd.R_nil _ _ _ _ _ | exact Kd.N_nil _ _ _ _ _ | exact Kd.V_nil _ _ _ _ _ | exact Kd.Q_nil _ _ _ _ _ | exact Kd.S_nil _ _ _ _ _, bw_ HB.out, by repeat (first | (with_reducible first | exact HK.out | apply Kept.alloc | apply Kept.drewN | apply Kept.drew) | exact HK.out)⟩
 ·rw [if_neg c2] at H
  have c2b0 : decide (1000 < (l0.length : Int)) = false := decide_eq_false c2
  have c2b1 : decide (1000 < l0.length) = false := decide_eq_false (by omega)
  clear c2
  simp only [Option.some.injEq, Prod.mk.injEq] at H
  obtain ⟨rfl, rfl⟩ := H
  obtain ⟨Ao4, co4, eo4⟩ := Kd.R_slice HO0.out
  subst eo4
  go_enter Tryd.func68, Tryd.ntmps68
  go_wp2
  go_ret2
  exact ⟨_, by first | rfl | (simp [errW_none, errW_some] <;> rfl) | (simp [*, errW_none, errW_some] <;> rfl), by (with_reducible repeat (first | apply r1_ | apply r2_ | apply r3_)); exact HO0.out, bw_ HB.out, by repeat (first | (with_reducible first | exact HK.out | apply Kept.alloc | apply Kept.drewN | apply Kept.drew) | exact HK.out)⟩
theorem Z6.info : (Tryd.prog.info? 4).map (fun i => (i.zero, i.size, i.bytes)) = some (some (.bool false), 1, 1) := by kernel_rfl
def Z6.parts (cs : List Bool) (s : ByteArray) : Nat → Nat → ByteArray → Option ByteArray
  | 0, _, t => some t
  | m + 1, j, t => if cs.getD j false = true then (if j + 1 ≤ s.size ∧ t.size + 1 ≤ 140737488355328 then Z6.parts cs s m (j + 1) (t ++ s.extract j (j + 1)) else none) else Z6.parts cs s m (j + 1) t
def Z6.gather (k : Nat) (s : ByteArray) : List S46 → List (List UInt8) → Option (List (List UInt8))
  | [], S => some S
  | p :: r, S => (Z14.f k s [p]).bind fun cs => ((Z6.parts cs s cs.length 0 ⟨#[]⟩).bind fun t => ((Z31.f k t).bind fun ws => (if S.length + ws.length < 4611686018427387904 ∧ (ws.all fun x => decide (x.size ≤ 9223372036854775807)) = true then (Z6.gather k s r (S ++ ws.map (·.data.toList))) else none)))
def Z6.scan (k : Nat) (s : ByteArray) (c : List Bool) (S : List (List UInt8)) : List S46 → List S46 → Option (List S46)
  | [], o => some o
  | p :: r, o => if 4 ≤ wrap64 (p.f1 - p.f0) then (if 0 ≤ p.f0 ∧ p.f0 ≤ p.f1 ∧ p.f1 ≤ (c.length : Int) ∧ p.f1 ≤ (s.size : Int) then ((Z37.f k ((c.take p.f1.toNat).drop p.f0.toNat) true).bind fun b => (if b = true then Z6.scan k s c S r o else (if decide ((lowA (s.extract p.f0.toNat p.f1.toNat)).data.toList ∈ S) = true then (if o.length < 8796093022208 then Z6.scan k s c S r (o ++ [p]) else none) else Z6.scan k s c S r o))) else none) else Z6.scan k s c S r o
theorem Z6.gather_mono (k : Nat) (s : ByteArray) : ∀ (l : List S46) (S : List (List UInt8)), LeO (Z6.gather k s l S) (Z6.gather (k + 1) s l S)
  | [], _ => LeO.refl _
  | p :: r, S => by
    unfold Z6.gather
    refine LeO.bind (Z14.mono _ _ _) (fun cs => LeO.bind (LeO.refl _) (fun t => LeO.bind (Z31.mono _ _) (fun ws => LeO.ite (Z6.gather_mono k s r _) (LeO.refl _))))
theorem Z6.scan_mono (k : Nat) (s : ByteArray) (c : List Bool) (S : List (List UInt8)) : ∀ (l o : List S46), LeO (Z6.scan k s c S l o) (Z6.scan (k + 1) s c S l o)
  | [], _ => LeO.refl _
  | p :: r, o => by
    have ih := Z6.scan_mono k s c S r
    unfold Z6.scan
    exact LeO.ite (LeO.ite (LeO.bind (Z37.mono _ _ _) (fun b => LeO.ite (ih _) (LeO.ite (LeO.ite (ih _) (LeO.refl _)) (ih _)))) (LeO.refl _)) (ih _)
theorem Z6.one_C (w : World) (b : Nat) (x : S46) (h : w.heap[b]? = some (.cells #[.int .i64 x.f0, .int .i64 x.f1] 46 (0, 0))) : Kd.C k46 w (some ⟨b, 0, none⟩) 1 [x] := ⟨rfl, by decide, fun _ => ⟨⟨b, 0, none⟩, rfl, fun j p hp => by
  have hj : j = 0 := by
    rcases Nat.eq_zero_or_pos j with q | q
    · exact q
    · rw [List.getElem?_eq_none (by simp only [List.length_cons, List.length_nil]; omega)] at hp
      exact absurd hp (by simp)
  subst hj
  obtain rfl : x = p := by simpa using hp
  refine ⟨[.int .i64 x.f0, .int .i64 x.f1], rfl, k46_mk w x, fun i u hu => ?_⟩
  rw [add_plain, blk_cell h]
  match i, hu with
  | 0, hu => simpa using hu
  | 1, hu => simpa using hu
  | i + 2, hu => simp at hu⟩⟩
theorem Z6.wrap2 (n N : Nat) (h : n < N) (hN : N ≤ 9223372036854775807) : wrap64 ((n : Int) + 1) = ((n + 1 : Nat) : Int) := (wr64 (by omega) (by omega)).trans (by omega)
theorem Z6.meas3 (m N : Nat) (h : m < N) : N - (intOf (.int .i64 ((m : Int) + 1))).toNat < N - (intOf (.int .i64 (m : Int))).toNat := by
  show N - ((m : Int) + 1).toNat < N - (m : Int).toNat
  omega
theorem Z6.meas2 (m N : Nat) (h : m < N) (hw : wrap64 ((m : Int) + 1) = ((m + 1 : Nat) : Int)) : N - (intOf (.int .i64 (wrap64 ((m : Int) + 1)))).toNat < N - (intOf (.int .i64 (m : Int))).toNat := by
  rw [hw]
  simp only [intOf, Int.toNat_natCast]
  omega
theorem Z6.zero (w : World) : (zeroValue 4).run Tryd.prog w = .ok (.bool false) w := Tryd.zeroValue4 w
theorem Z6.low_le (s : ByteArray) (f i : Nat) (h : s.size ≤ 140737488355328) : (lowA (s.extract f i)).size ≤ 9223372036854775807 := by
  have e : (lowA (s.extract f i)).size = (s.extract f i).size := by
    show ((s.extract f i).data.map lowB).size = (s.extract f i).data.size
    exact Array.size_map
  rw [e, ByteArray.size_extract]
  omega
def Z6.Inv (w wr : World) (mb : Nat) (v : Value) (c : List Bool) (S : List (List UInt8)) : Prop :=
  Below w.heap.size w wr ∧ Kd.R Kd.bool 4 wr w.heap.size (fun k_ => k_ < mb) v c ∧ SetAt Tryd.prog 9 wr mb S ∧ w.heap.size ≤ mb
theorem Z6.Inv.below {w wr w' : World} {mb : Nat} {v : Value} {c : List Bool} {S : List (List UInt8)} (h : Z6.Inv w wr mb v c S) (hb : Below wr.heap.size wr w') : Z6.Inv w w' mb v c S := by
  obtain ⟨h1, h2, h3, h4⟩ := h
  exact ⟨below_step h1 hb, Kd.R_below h2 hb, h3.below hb, h4⟩
theorem Z6.below_grown {B : Nat} {w wr w' : World} {b : Nat} (h : Below B w wr) (hg : wr.grownBy w' (some b)) (hb : B ≤ b) (hB : B ≤ wr.heap.size) : Below B w w' :=
  h.trans ⟨hg.os, hg.tape, hg.output, hg.size, fun i hi => hg.block i (by omega) (by simp; omega)⟩
theorem Z6.Inv.put {w wr w' : World} {mb : Nat} {v : Value} {c : List Bool} {S S' : List (List UInt8)} (h : Z6.Inv w wr mb v c S) (hs : SetAt Tryd.prog 9 w' mb S') (hg : wr.grownBy w' (some mb)) : Z6.Inv w w' mb v c S' := by
  obtain ⟨h1, h2, h3, h4⟩ := h
  exact ⟨Z6.below_grown h1 hg h4 h1.size, Kd.R_grown h2 hg (fun k hk e => by injection e with e; omega), hs, h4⟩
theorem Z6.Inv.more {w wr w' : World} {mb : Nat} {v vo : Value} {c : List Bool} {S : List (List UInt8)} (h : Z6.Inv w wr mb v c S) (hlt : ∀ k, vo.ownBlock = some k → mb < k) (hb : Below w.heap.size w w') (hg : wr.grownBy w' vo.ownBlock) : Z6.Inv w w' mb v c S := by
  obtain ⟨h1, h2, h3, h4⟩ := h
  exact ⟨hb, Kd.R_grown h2 hg (fun k hk e => by have := hlt k e.symm; omega), h3.kept hg (fun e => by have := hlt mb e.symm; omega), h4⟩
def Z6.f (k : Nat) (a0 : ByteArray) (l1 : List S46) : Option (List S46 × Int) := if a0.size ≤ 140737488355328 then ((Z14.f k a0 l1).bind fun t1 => ((Z6.gather k a0 l1 []).bind fun t2 => ((Z18.f k a0).bind fun t3 => ((Z6.scan k a0 t1 t2 t3 []).bind fun t4 => (Z59.f t4))))) else (none)
theorem Z6.mono : ∀ a0 a1 k, LeO (Z6.f k a0 a1) (Z6.f (k + 1) a0 a1) := by
  intro a0 a1 k
  unfold Z6.f
  repeat' first
      | exact Z6.gather_mono _ _ _ _
      | exact Z6.scan_mono _ _ _ _ _ _
      | (with_reducible exact Z14.mono _ _ _)
      | (with_reducible exact Z18.mono _ _)
      | (with_reducible exact LeO.refl _)
      | (with_reducible exact LeO.none _)
      | (with_reducible refine LeO.ite ?_ ?_)
      | (with_reducible refine LeO.bind ?_ (fun _ => ?_))
      | exact LeO.none _
      | refine LeO.ite ?_ ?_
      | refine LeO.bind ?_ (fun _ => ?_)
set_option maxHeartbeats 8000000 in
set_option maxRecDepth 100000 in
theorem Z6.calls (k : Nat) (a0 : ByteArray) (A1 : Option Addr) (c1 : Nat) (l1 : List (S46)) (r1 : List (S46)) (r2 : Int) (w : World) (hr1 : Kd.C k46 w A1 l1.length l1) (hc1 : l1.length ≤ c1) (hGl : Wd w) (h : Z6.f k a0 l1 = some (r1, r2)) :
    Calls Tryd.prog 30 #[.string a0, .slice A1 l1.length c1] w fun e w' => ∃ v0_ : Value, e = .returned (.tuple #[v0_, .int .i64 r2]) ∧ Kd.R k46 46 w' w.heap.size (fun _ => True) v0_ r1 ∧ Below w.heap.size w w' := by
  unfold Z6.f at h
  have hz : a0.size ≤ 140737488355328 := by
    rcases Nat.lt_or_ge 140737488355328 a0.size with hz | hz
    · rw [if_neg (by omega)] at h
      exact absurd h (by simp)
    · exact hz
  rw [if_pos hz] at h
  cases h1 : Z14.f k a0 l1 with
  | none => rw [h1] at h; exact absurd h (by simp)
  | some c =>
  rw [h1, Option.bind_some] at h
  cases h2 : Z6.gather k a0 l1 [] with
  | none => rw [h2] at h; exact absurd h (by simp)
  | some S =>
  rw [h2, Option.bind_some] at h
  cases h3 : Z18.f k a0 with
  | none => rw [h3] at h; exact absurd h (by simp)
  | some ps =>
  rw [h3, Option.bind_some] at h
  cases h4 : Z6.scan k a0 c S ps [] with
  | none => rw [h4] at h; exact absurd h (by simp)
  | some out =>
  rw [h4, Option.bind_some] at h
  have H4 := am_ h4; have H2 := am_ h2; have HF := am_ h; have HC := am_ hr1; have HGL := am_ hGl; have HZ := am_ hz
  have HP : Aside0 (Calls Tryd.prog 65 #[.string a0, .slice A1 l1.length c1] w fun e w'' => ∃ v0_ : Value, e = .returned (v0_) ∧ Kd.R Kd.bool 4 w'' w.heap.size (fun _ => True) v0_ c ∧ Below w.heap.size w w'') := am_ (Z14.calls k a0 A1 c1 l1 c w hr1 hc1 hGl h1)
  have HPS : Aside0 (∀ W : World, Calls Tryd.prog 66 #[.string a0] W fun e w'' => ∃ v0_ : Value, e = .returned (v0_) ∧ Kd.R k46 46 w'' W.heap.size (fun _ => True) v0_ ps ∧ Below W.heap.size W w'') := am_ fun W => Z18.calls k a0 ps W h3
  have hmaxp : l1.length ≤ 9223372036854775807 := Kd.C_max hr1
  have HMP := am_ hmaxp; clear h h1 h2 h3 h4 hr1 hGl
  have hmm := @run_makeMap Tryd.prog
  go_enter Tryd.func30, Tryd.ntmps30
  go_wp2_with (go_at_call 65; refine HP.out.mono ?_; rintro e w1 ⟨v1, rfl, hR1, hb1⟩)
  have HI : Aside0 (Z6.Inv w (w1.alloc (.map #[] 0)) w1.heap.size v1 c []) := ⟨⟨hb1.alloc hb1.size _, r1_ (Kd.R_mono (Kd.R_bound hR1) (fun k_ hk => hk.2.2.1)) _, SetAt.made _ _ w1, hb1.size⟩⟩
  clear hR1 hb1 HP hmm
  generalize w1.alloc (.map #[] 0) = wa at *
  generalize w1.heap.size = mb at *
  clear w1
  go_loopw [25] (fun i wr => ∃ (j : Nat) (S1 : List (List UInt8)), i = .int .i64 j ∧ Aside0 (j ≤ l1.length) ∧ Aside0 (Z6.gather k a0 (l1.drop j) S1 = some S) ∧ Aside0 (Z6.Inv w wr mb v1 c S1)) (fun i _ => l1.length - (intOf i).toNat)
  case atStart => exact ⟨0, [], rfl, ⟨Nat.zero_le _⟩, H2, HI⟩
  case round =>
    obtain ⟨j, S1, rfl, HJ, HG, HIw⟩ := hrel; clear HI H2
    by_cases hlt : j < l1.length
    · have hd : l1.drop j = rd_T46 l1 j :: l1.drop (j + 1) := by
        rw [List.drop_eq_getElem_cons hlt]
        simp [rd_T46, List.getD_eq_getElem?_getD, List.getElem?_eq_getElem hlt]
      obtain ⟨ad, eA, hx0, hx1⟩ := at_T46 (Kd.C_below HC.out HIw.out.1) (j : Int) (by omega) (by omega)
      subst eA
      simp only [Int.toNat_natCast] at hx0 hx1
      have h4 := HG.out
      rw [hd] at h4
      simp only [Z6.gather] at h4
      obtain ⟨⟨f0, f1⟩, hp⟩ : ∃ p, rd_T46 l1 (j : Int) = p := ⟨_, rfl⟩
      rw [hp] at h4 hx0 hx1
      simp only [] at hx0 hx1
      clear hp hd
      cases h5 : Z14.f k a0 [⟨f0, f1⟩] with
      | none => rw [h5] at h4; exact absurd h4 (by simp)
      | some cs =>
      rw [h5, Option.bind_some] at h4
      cases h6 : Z6.parts cs a0 cs.length 0 ⟨#[]⟩ with
      | none => rw [h6] at h4; exact absurd h4 (by simp)
      | some t =>
      rw [h6, Option.bind_some] at h4
      cases h7 : Z31.f k t with
      | none => rw [h7] at h4; exact absurd h4 (by simp)
      | some ws =>
      rw [h7, Option.bind_some] at h4
      by_cases hb7 : S1.length + ws.length < 4611686018427387904 ∧ (ws.all fun x => decide (x.size ≤ 9223372036854775807)) = true
      · rw [if_pos hb7] at h4
        have H7 := am_ h4
        have H6 : Aside0 (Z6.parts cs a0 (cs.length - 0) 0 ⟨#[]⟩ = some t) := ⟨h6⟩
        have HSZ : Aside0 (S1.length + ws.length < 4611686018427387904 ∧ ∀ x ∈ ws, x.size ≤ 9223372036854775807) := ⟨hb7.1, fun x hx => of_decide_eq_true (List.all_eq_true.1 hb7.2 x hx)⟩
        have HPC : Aside0 (∀ (W : World) (b : Nat), Below w.heap.size w W → W.heap[b]? = some (.cells #[.int .i64 f0, .int .i64 f1] 46 (0, 0)) → Calls Tryd.prog 65 #[.string a0, .slice (some ⟨b, 0, none⟩) 1 1] W fun e w'' => ∃ v0_ : Value, e = .returned (v0_) ∧ Kd.R Kd.bool 4 w'' W.heap.size (fun _ => True) v0_ cs ∧ Below W.heap.size W w'') := ⟨fun W b hb hk => Z14.calls k a0 (some ⟨b, 0, none⟩) 1 [⟨f0, f1⟩] cs W (Z6.one_C W b ⟨f0, f1⟩ hk) (Nat.le_refl _) (Wd.below HGL.out hb) h5⟩
        have HWC : Aside0 (∀ W : World, Calls Tryd.prog 40 #[.string t] W fun e w' => ∃ v0_ : Value, e = .returned (v0_) ∧ Kd.R Kd.string 9 w' W.heap.size (fun _ => True) v0_ ws ∧ Below W.heap.size W w') := ⟨fun W => Z31.calls k _ ws W h7⟩
        clear h4 h5 h6 h7 hb7 HG HJ
        have HW3 := HPC.out ((wr.alloc (.cells #[.int .i64 f0, .int .i64 f1] 46)).alloc (.cells #[.int .i64 f0, .int .i64 f1] 46)) (wr.heap.size + 1) (HIw.out.below (((Below.refl _ wr).alloc (Nat.le_refl _) _).alloc (by rw [World.size_alloc]; omega) _)).1 (by
          have := blk_new (wr.alloc (.cells #[.int .i64 f0, .int .i64 f1] 46)) (.cells #[.int .i64 f0, .int .i64 f1] 46)
          rw [World.size_alloc] at this
          exact this)
        go_wp2_with (go_at_call 65; refine HW3.mono ?_; rintro e w3 ⟨v3, rfl, hR3, hb3⟩; obtain ⟨A3, c3, rfl, hlc3, hC3⟩ := Kd.R_reads hR3)
        have HBW : Below wr.heap.size wr w3 := below_step (((Below.refl _ wr).alloc (Nat.le_refl _) (.cells #[.int .i64 f0, .int .i64 f1] 46)).alloc (by rw [World.size_alloc]; omega) (.cells #[.int .i64 f0, .int .i64 f1] 46)) hb3
        have HI3 := am_ (HIw.out.below HBW)
        have HR3 : Aside0 (Kd.R Kd.bool 4 w3 w.heap.size (fun k_ => mb < k_) (.slice A3 cs.length c3) cs) := ⟨Kd.R_lower (Kd.R_mono (Kd.R_bound hR3) (fun k_ hk => by
          have h1 := HIw.out.2.2.1.lt
          have h2 := hk.2.1
          rw [World.size_alloc, World.size_alloc] at h2
          omega)) (by
          have := HIw.out.1.size
          rw [World.size_alloc, World.size_alloc]
          omega)⟩
        have hmax3 : cs.length ≤ 9223372036854775807 := Kd.C_max hC3
        have HM3 := am_ hmax3; clear hR3 hb3 hC3 hlc3 HBW HW3 HPC hx0 hx1 HIw hmax3
        go_loopw [35, 10] (fun v35 v10 wq => ∃ (m : Nat) (tq : ByteArray), v35 = .int .i64 m ∧ v10 = .string tq ∧ Aside0 (m ≤ cs.length) ∧ Aside0 (Z6.parts cs a0 (cs.length - m) m tq = some t) ∧ Aside0 (Z6.Inv w wq mb v1 c S1) ∧ Aside0 (Kd.R Kd.bool 4 wq w.heap.size (fun k_ => mb < k_) (.slice A3 cs.length c3) cs)) (fun v35 _ _ => cs.length - (intOf v35).toNat)
        case atStart => exact ⟨0, _, rfl, rfl, ⟨Nat.zero_le _⟩, H6, HI3, HR3⟩
        case round =>
          obtain ⟨m, tq, rfl, rfl, HM, HPt, HI5, HR5⟩ := hrel; clear HI3 HR3 H6
          by_cases hlm : m < cs.length
          · obtain ⟨gq, cq, eF, _, _, _⟩ := Kd.R_form HR5.out (by omega)
            injection eF with e1 e2 e3; subst e1; subst e3; clear e2
            have hcz := (Kd.R_cell false HR5.out (m : Int) (by omega) (by omega)).1
            have er : rdOf false cs (m : Int) = cs[m] := by simp [rdOf, List.getD_eq_getElem?_getD, List.getElem?_eq_getElem hlm]
            rw [er, Int.toNat_natCast] at hcz
            obtain ⟨q, hq⟩ : ∃ q, cs.length - m = q + 1 := ⟨cs.length - m - 1, by omega⟩
            have h6 := HPt.out
            rw [hq] at h6
            simp only [Z6.parts] at h6
            have hq2 : cs.length - (m + 1) = q := by omega
            have ec : cs.getD m false = cs[m] := by rw [List.getD_eq_getElem?_getD, List.getElem?_eq_getElem hlm]; rfl
            rw [ec, ← hq2] at h6
            have HX : Aside0 (m + 1 ≤ cs.length) := ⟨by omega⟩
            have hlz : ((m : Int) < (cs.length : Int)) = True := eq_true (by omega)
            have HWM := am_ (Z6.wrap2 m _ hlm HM3.out)
            clear HPt er hq hq2 ec HM
            cases hb : cs[m] with
            | false =>
              rw [hb] at hcz h6
              rw [if_neg (by decide)] at h6
              have HH6 := am_ h6; clear h6 hb
              have hwm := HWM.out
              go_wp2
              go_roundw
              case rel => exact ⟨m + 1, tq, by go_num, rfl, HX, HH6, HI5, HR5⟩
              case measure => first | exact Z6.meas2 m _ hlm hwm | exact Z6.meas3 m _ hlm
            | true =>
              rw [hb] at hcz h6
              rw [if_pos rfl] at h6
              by_cases hs : m + 1 ≤ a0.size ∧ tq.size + 1 ≤ 140737488355328
              · rw [if_pos hs] at h6
                have HH6 := am_ h6
                have hs1 : (0 ≤ (m : Int)) = True := eq_true (by omega)
                have hs2 : ((m : Int) ≤ (m : Int) + 1) = True := eq_true (by omega)
                have hs3 : ((m : Int) + 1 ≤ (a0.size : Int)) = True := eq_true (by omega)
                have hto : ((m : Int) + 1).toNat = m + 1 := by omega
                have hes : (a0.extract m (m + 1)).size = 1 := by rw [ByteArray.size_extract]; omega
                have hcat : tq.size + (a0.extract m (m + 1)).size ≤ 9223372036854775807 := by rw [hes]; omega
                clear h6 hb hes hs
                have hwm := HWM.out
                go_wp2
                go_roundw
                case rel => exact ⟨m + 1, tq ++ a0.extract m (m + 1), by go_num, rfl, HX, HH6, HI5, HR5⟩
                case measure => first | exact Z6.meas2 m _ hlm hwm | exact Z6.meas3 m _ hlm
              · rw [if_neg hs] at h6
                exact absurd h6 (by simp)
          · obtain rfl : m = cs.length := by have := HM.out; omega
            have h6 := HPt.out
            rw [Nat.sub_self] at h6
            simp only [Z6.parts] at h6
            obtain rfl := Option.some.inj h6
            have hlz : ((cs.length : Int) < (cs.length : Int)) = False := eq_false (by omega)
            clear h6 HPt HM
            go_wp2_with (go_at_call 40; refine (HWC.out _).mono ?_; rintro e w4 ⟨v4, rfl, hR4, hb4⟩; obtain ⟨A4, c4, rfl, hlc4, hC4⟩ := Kd.R_reads hR4)
            have HI4 : Aside0 (Z6.Inv w w4 mb v1 c (S1 ++ (ws.take 0).map (·.data.toList))) := ⟨by
              rw [List.take_zero, List.map_nil, List.append_nil]
              exact HI5.out.below hb4⟩
            have HR4 : Aside0 (Kd.R Kd.string 9 w4 w.heap.size (fun k_ => mb < k_) (.slice A4 ws.length c4) ws) := ⟨Kd.R_lower (Kd.R_mono (Kd.R_bound hR4) (fun k_ hk => Nat.lt_of_lt_of_le HI5.out.2.2.1.lt hk.2.1)) HI5.out.1.size⟩
            have hmaxw : ws.length ≤ 9223372036854775807 := Kd.C_max hC4
            have HMW := am_ hmaxw; clear hR4 hb4 hC4 hlc4 HI5 HR5 HWC hmaxw hlz
            go_loopw [52] (fun i wq => ∃ (m : Nat), i = .int .i64 m ∧ Aside0 (m ≤ ws.length) ∧ Aside0 (Z6.Inv w wq mb v1 c (S1 ++ (ws.take m).map (·.data.toList))) ∧ Aside0 (Kd.R Kd.string 9 wq w.heap.size (fun k_ => mb < k_) (.slice A4 ws.length c4) ws)) (fun i _ => ws.length - (intOf i).toNat)
            case atStart => exact ⟨0, rfl, ⟨Nat.zero_le _⟩, HI4, HR4⟩
            case round =>
              obtain ⟨m, rfl, HMm, HI5, HR5⟩ := hrel; clear HI4 HR4
              by_cases hlw : m < ws.length
              · obtain ⟨b, o, rfl, hbk, hcell⟩ := C_cells (Kd.R_reads' HR5.out).2.2 (Nat.lt_of_le_of_lt (Nat.zero_le _) hlw)
                have hx5 := hcell m ws[m] (List.getElem?_eq_getElem hlw)
                have hsz := HSZ.out.2 ws[m] (List.getElem_mem hlw)
                have hlen : (S1 ++ (ws.take m).map (·.data.toList)).length < 9223372036854775807 := by
                  have := HSZ.out.1
                  rw [List.length_append, List.length_map, List.length_take]
                  omega
                have etk : S1 ++ (ws.take (m + 1)).map (·.data.toList) = (S1 ++ (ws.take m).map (·.data.toList)) ++ [ws[m].data.toList] := by
                  rw [List.take_add_one, List.getElem?_eq_getElem hlw, List.map_append, ← List.append_assoc]
                  rfl
                obtain ⟨W2, hrun, hset, hgr⟩ := SetAt.put HI5.out.2.2.1 Tryd.underlying82 Tryd.underlying9 ws[m] hsz hlen
                rw [← etk] at hset
                have HI6 := am_ (HI5.out.put hset hgr)
                have HR6 := am_ (Kd.R_grown HR5.out hgr (fun k_ hk e => by injection e with e; omega))
                have hlz : (m : Int) < (ws.length : Int) := by omega
                have hwm : wrap64 ((m : Int) + 1) = ((m + 1 : Nat) : Int) := Z6.wrap2 m _ hlw HMW.out
                clear hcell hsz hlen etk hset hgr HI5 HR5 HMm
                generalize ws[m] = x5 at *
                go_wp2
                go_roundw
                case rel => exact ⟨m + 1, by go_num, ⟨by omega⟩, HI6, HR6⟩
                case measure => first | exact Z6.meas2 m _ hlw hwm | exact Z6.meas3 m _ hlw
              · obtain rfl : m = ws.length := by have := HMm.out; omega
                have HI7 := HI5
                rw [List.take_length] at HI7
                have hlz : ¬ (ws.length : Int) < (ws.length : Int) := by omega
                have hwj : wrap64 ((j : Int) + 1) = ((j + 1 : Nat) : Int) := Z6.wrap2 j _ hlt HMP.out
                go_wp2
                go_roundw
                case rel => exact ⟨j + 1, _, by go_num, ⟨by omega⟩, H7, HI7⟩
                case measure => first | exact Z6.meas3 j _ hlt | exact Z6.meas2 j _ hlt hwj
      · rw [if_neg hb7] at h4
        exact absurd h4 (by simp)
    · obtain rfl : j = l1.length := by have := HJ.out; omega
      have h4 := HG.out
      rw [List.drop_eq_nil_of_le (Nat.le_refl _)] at h4
      simp only [Z6.gather, Option.some.injEq] at h4
      subst h4
      obtain ⟨Ao, co, rfl⟩ := Kd.R_slice HIw.out.2.1
      have hroom : c.length ≤ co := (Kd.R_reads' HIw.out.2.1).2.1
      have HK := am_ hroom
      have hlz0 : ((l1.length : Int) < (l1.length : Int)) = False := eq_false (by omega)
      clear HG HJ hroom hlt
      go_wp2_with (go_at_call 66; refine (HPS.out _).mono ?_; rintro e w5 ⟨v5, rfl, hR5, hb5⟩; obtain ⟨Aps, cps, rfl, hlc5, hC5⟩ := Kd.R_reads hR5)
      have HI5 : Aside0 (Z6.Inv w w5 mb (.slice Ao c.length co) c S1) := ⟨HIw.out.below hb5⟩
      have HRp : Aside0 (Kd.R k46 46 w5 w.heap.size (fun k_ => mb < k_ ∧ some k_ ≠ (.slice none 0 0 : Value).ownBlock) (.slice Aps ps.length cps) ps) := ⟨Kd.R_lower (Kd.R_mono (Kd.R_bound hR5) (fun k_ hk => ⟨Nat.lt_of_lt_of_le HIw.out.2.2.1.lt hk.2.1, by simp [Value.ownBlock]⟩)) HIw.out.1.size⟩
      have HRo : Aside0 (Kd.R k46 46 w5 w.heap.size (fun k_ => mb < k_ ∧ some k_ ≠ (.slice Aps ps.length cps : Value).ownBlock) (.slice none 0 0) ([] : List S46)) := ⟨⟨fun k_ hk => by simp [Value.ownBlock] at hk, OwnRow.none_ _ _ _ _ _⟩⟩
      have hmax5 : ps.length ≤ 9223372036854775807 := Kd.C_max hC5
      have HM5 := am_ hmax5; clear hR5 hb5 hC5 hlc5 hmax5 HIw HPS hlz0
      go_loopw [63, 16] (fun v63 v16 wq => ∃ (vo : Value) (m : Nat) (o1 : List S46), vo = v16 ∧ v63 = .int .i64 m ∧ Aside0 (m ≤ ps.length) ∧ Aside0 (Z6.scan k a0 c S1 (ps.drop m) o1 = some out) ∧ Aside0 (Z6.Inv w wq mb (.slice Ao c.length co) c S1) ∧ Aside0 (Kd.R k46 46 wq w.heap.size (fun k_ => mb < k_ ∧ some k_ ≠ vo.ownBlock) (.slice Aps ps.length cps) ps) ∧ Aside0 (Kd.R k46 46 wq w.heap.size (fun k_ => mb < k_ ∧ some k_ ≠ (.slice Aps ps.length cps : Value).ownBlock) vo o1)) (fun v63 _ _ => ps.length - (intOf v63).toNat)
      case atStart => exact ⟨_, 0, [], rfl, rfl, ⟨Nat.zero_le _⟩, H4, HI5, HRp, HRo⟩
      case round =>
        obtain ⟨vo, m, o1, rfl, rfl, HM, HSc, HIq, HRq, HOq⟩ := hrel; clear HI5 HRp HRo H4
        have h7 := HSc.out
        by_cases hlm : m < ps.length
        · have hd : ps.drop m = rd_T46 ps m :: ps.drop (m + 1) := by
            rw [List.drop_eq_getElem_cons hlm]
            simp [rd_T46, List.getD_eq_getElem?_getD, List.getElem?_eq_getElem hlm]
          obtain ⟨ad5, eA, hx0, hx1⟩ := at_T46 (Kd.R_reads' HRq.out).2.2 (m : Int) (by omega) (by omega)
          cases eA
          simp only [Int.toNat_natCast] at hx0 hx1
          rw [hd] at h7
          simp only [Z6.scan] at h7
          obtain ⟨⟨f0, f1⟩, hp⟩ : ∃ p, rd_T46 ps (m : Int) = p := ⟨_, rfl⟩
          rw [hp] at h7 hx0 hx1
          simp only [] at h7 hx0 hx1
          have hwm : wrap64 ((m : Int) + 1) = ((m + 1 : Nat) : Int) := Z6.wrap2 m _ hlm HM5.out
          have hlz : ((m : Int) < (ps.length : Int)) = True := eq_true (by omega)
          have HX : Aside0 (m + 1 ≤ ps.length) := ⟨by omega⟩
          clear hp hd HSc HM
          by_cases h4 : 4 ≤ wrap64 (f1 - f0)
          · rw [if_pos h4] at h7
            by_cases hs : 0 ≤ f0 ∧ f0 ≤ f1 ∧ f1 ≤ (c.length : Int) ∧ f1 ≤ (a0.size : Int)
            · rw [if_pos hs] at h7
              obtain ⟨hs1, hs2, hs3, hs4⟩ := hs
              obtain ⟨F, rfl⟩ := Int.eq_ofNat_of_zero_le hs1
              obtain ⟨E, rfl⟩ := Int.eq_ofNat_of_zero_le (show 0 ≤ f1 by omega)
              replace h7 : ((Z37.f k ((c.take E).drop F) true).bind fun b => (if b = true then Z6.scan k a0 c S1 (ps.drop (m + 1)) o1 else (if decide ((lowA (a0.extract F E)).data.toList ∈ S1) = true then (if o1.length < 8796093022208 then Z6.scan k a0 c S1 (ps.drop (m + 1)) (o1 ++ [⟨(F : Int), (E : Int)⟩]) else none) else Z6.scan k a0 c S1 (ps.drop (m + 1)) o1))) = some out := h7
              have h4t : ((4 : Int) ≤ wrap64 ((E : Int) - (F : Int))) = True := eq_true h4
              cases hcn : Z37.f k ((c.take E).drop F) true with
              | none => rw [hcn] at h7; exact absurd h7 (by simp)
              | some b =>
              rw [hcn, Option.bind_some] at h7
              obtain ⟨i04, hi04, _, hsz04, _⟩ := info_parts Z6.info
              have hcut := cut_mid (P := Tryd.prog) 81 4 .i64 .i64 Tryd.underlying81 hi04 1 hsz04 Ao c.length co (F : Int) (E : Int) (by omega) (by omega) (by omega) HK.out
              have HCC : Aside0 (∀ W : World, Below wr.heap.size wr W → Kd.C Kd.bool W (if co = F then Ao else Ao.map (·.add (F * 1))) ((c.take E).drop F).length ((c.take E).drop F)) := ⟨fun W hb => Kd.C_mid (lo := F) (hi := E) (c := co) (Kd.R_reads' (HIq.out.below hb).2.1).2.2 (by omega) (by omega) HK.out⟩
              have hly : ((c.take E).drop F).length = E - F := by rw [List.length_drop, List.length_take]; omega
              simp only [Int.toNat_natCast, ← hly] at hcut
              generalize (if co = F then Ao else Ao.map (·.add (F * 1))) = A5 at *
              generalize hcy : (c.take E).drop F = cy at *
              have hcc5 : cy.length ≤ co - F := by have := HK.out; omega
              have HCT : Aside0 (∀ W : World, Below wr.heap.size wr W → Calls Tryd.prog 62 #[.slice A5 cy.length (co - F), .bool true] W fun e w' => e = .returned (.bool b) ∧ Drawn0 W w') := ⟨fun W hb => Z37.calls k A5 (co - F) cy true b W (HCC.out W hb) hcc5 hcn⟩
              rw [hly] at hcut HCT
              have hff0 : (0 ≤ (F : Int)) = True := eq_true (by omega)
              have hff : ((F : Int) ≤ (E : Int)) = True := eq_true (by omega)
              have hfs : ((E : Int) ≤ (a0.size : Int)) = True := eq_true (by omega)
              have hfc : ((E : Int) ≤ (c.length : Int)) = True := eq_true (by omega)
              clear hi04 hsz04 HCC hly hcy hcc5 hcn hs1 hs2 hs3 hs4 h4
              cases b with
              | true =>
                rw [if_pos rfl] at h7
                have H7 := am_ h7; clear h7
                go_wp2_with (go_at_call 62; refine (HCT.out _ (by repeat (first | exact Below.refl _ _ | apply b1_ | apply b2_ | apply b3_))).mono ?_; rintro e w6 ⟨rfl, ⟨nd2_, rfl⟩⟩)
                go_roundw
                case rel => exact ⟨vo, m + 1, o1, rfl, by go_num, HX, H7, ⟨HIq.out.below (by repeat (first | exact Below.refl _ _ | apply b1_ | apply b2_ | apply b3_))⟩, ⟨Kd.R_below HRq.out (by repeat (first | exact Below.refl _ _ | apply b1_ | apply b2_ | apply b3_))⟩, ⟨Kd.R_below HOq.out (by repeat (first | exact Below.refl _ _ | apply b1_ | apply b2_ | apply b3_))⟩⟩
                case measure => first | exact Z6.meas2 m _ hlm hwm | exact Z6.meas3 m _ hlm
              | false =>
                rw [if_neg (by decide)] at h7
                have hlw : Z48.f (a0.extract F E) = some (lowA (a0.extract F E)) := by
                  unfold Z48.f
                  rw [if_pos (by have := HZ.out; rw [ByteArray.size_extract]; omega)]
                have hls : (lowA (a0.extract F E)).size ≤ 9223372036854775807 := Z6.low_le a0 F E HZ.out
                have HLW : Aside0 (∀ W : World, Calls Tryd.prog 67 #[.string (a0.extract F E)] W fun e w' => e = .returned (.string (lowA (a0.extract F E))) ∧ Below W.heap.size W w') := ⟨fun W => Z48.calls _ _ W hlw⟩
                have HLS : Aside0 (∀ W : World, Below wr.heap.size wr W → (Instr.lookup 82 (.map (some mb)) (.string (lowA (a0.extract F E))) false).run Tryd.prog W = .ok (.bool (decide ((lowA (a0.extract F E)).data.toList ∈ S1))) W) := ⟨fun W hb => SetAt.look (HIq.out.below hb).2.2.1 Tryd.underlying82 Tryd.underlying9 (Z6.zero W) _ hls⟩
                clear hlw hls
                generalize lowA (a0.extract F E) = x7 at h7 HLW HLS
                cases hd : decide (x7.data.toList ∈ S1) with
                | true =>
                  rw [hd] at h7 HLS
                  rw [if_pos rfl] at h7
                  by_cases ho : o1.length < 8796093022208
                  · rw [if_pos ho] at h7
                    have H7 := am_ h7; have HO := am_ ho; clear h7 hd ho
                    go_wp2_with (first | (go_at_call 62; refine (HCT.out _ (by repeat (first | exact Below.refl _ _ | apply b1_ | apply b2_ | apply b3_))).mono ?_; rintro e w6 ⟨rfl, ⟨nd2_, rfl⟩⟩) | (go_at_call 67; refine (HLW.out _).mono ?_; rintro e w6 ⟨rfl, hb6⟩; have HB6 : Aside0 (Below wr.heap.size wr w6) := ⟨below_step (by repeat (first | exact Below.refl _ _ | apply b1_ | apply b2_ | apply b3_)) hb6⟩; have hlook := HLS.out _ HB6.out; have hq0 : w6.cell? ⟨wr.heap.size, 0, none⟩ = some (.int .i64 (F : Int)) := (hb6.cell (p := ⟨wr.heap.size, 0, none⟩) (by simp)).trans (by simp); have hq1 : w6.cell? ⟨wr.heap.size, 1, none⟩ = some (.int .i64 (E : Int)) := (hb6.cell (p := ⟨wr.heap.size, 1, none⟩) (by simp)).trans (by simp); clear hb6) | ((with_reducible refine gate_builtin (b := .append) (xs := #[.tmp 94, .tmp 96]) rfl ?_); at_builtin; refine Kd.R_append k46 (w0 := w) w.heap.size rfl (.tmp 94) (.tmp 96) 38 46 (.agg #[(.int .i64 0), (.int .i64 0)]) 16 rfl Tryd.underlying38 info46 rfl (by decide) (by omega) vo o1 (⟨(F : Int), (E : Int)⟩ : S46) [.int .i64 (F : Int), .int .i64 (E : Int)] (fun k_ => mb < k_ ∧ some k_ ≠ (.slice (some ad5) ps.length cps : Value).ownBlock) (fun _ => False) rfl rfl (k46_mkM _ _ _ (⟨(F : Int), (E : Int)⟩ : S46)) (fun _ hk => hk.elim) (fun k_ hk => ⟨Nat.lt_of_lt_of_le (HIq.out.below HB6.out).2.2.1.lt hk, fun e_ => by obtain ⟨_, hoq_⟩ := Kd.R_own (Kd.R_below HRq.out HB6.out); have := own_lt hoq_ k_ e_.symm; omega⟩) (Kd.R_below HOq.out HB6.out) (HIq.out.below HB6.out).1 (HIq.out.below HB6.out).1.size (by have := HO.out; omega) ?_; intro v7 w7 ho7 hb7 hg7 hat7; have HI7 : Aside0 (Z6.Inv w w7 mb (.slice Ao c.length co) c S1) := ⟨Z6.Inv.more (HIq.out.below HB6.out) (fun k_ e_ => (HOq.out.1 k_ e_).1) hb7 hg7⟩; have HR7 := am_ (Kd.R_after (Kd.R_below HRq.out HB6.out) hg7 hat7); have HO7 := am_ ho7; clear ho7 hb7 hg7 hat7))
                    go_roundw
                    case rel => exact ⟨v7, m + 1, _, rfl, by go_num, HX, H7, HI7, HR7, HO7⟩
                    case measure => first | exact Z6.meas2 m _ hlm hwm | exact Z6.meas3 m _ hlm
                  · rw [if_neg ho] at h7
                    exact absurd h7 (by simp)
                | false =>
                  rw [hd] at h7 HLS
                  rw [if_neg (by decide)] at h7
                  have H7 := am_ h7; clear h7 hd
                  go_wp2_with (first | (go_at_call 62; refine (HCT.out _ (by repeat (first | exact Below.refl _ _ | apply b1_ | apply b2_ | apply b3_))).mono ?_; rintro e w6 ⟨rfl, ⟨nd2_, rfl⟩⟩) | (go_at_call 67; refine (HLW.out _).mono ?_; rintro e w6 ⟨rfl, hb6⟩; have HB6 : Aside0 (Below wr.heap.size wr w6) := ⟨below_step (by repeat (first | exact Below.refl _ _ | apply b1_ | apply b2_ | apply b3_)) hb6⟩; have hlook := HLS.out _ HB6.out; clear hb6))
                  go_roundw
                  case rel => exact ⟨vo, m + 1, o1, rfl, by go_num, HX, H7, ⟨HIq.out.below HB6.out⟩, ⟨Kd.R_below HRq.out HB6.out⟩, ⟨Kd.R_below HOq.out HB6.out⟩⟩
                  case measure => first | exact Z6.meas2 m _ hlm hwm | exact Z6.meas3 m _ hlm
            · rw [if_neg hs] at h7
              exact absurd h7 (by simp)
          · rw [if_neg h4] at h7
            have h4f : ((4 : Int) ≤ wrap64 (f1 - f0)) = False := eq_false h4
            have H7 := am_ h7; clear h7 h4
            go_wp2
            go_roundw
            case rel => exact ⟨vo, m + 1, o1, rfl, by go_num, HX, H7, ⟨HIq.out.below (by repeat (first | exact Below.refl _ _ | apply b3_))⟩, ⟨r1_ HRq.out _⟩, ⟨r1_ HOq.out _⟩⟩
            case measure => first | exact Z6.meas2 m _ hlm hwm | exact Z6.meas3 m _ hlm
        · obtain rfl : m = ps.length := by have := HM.out; omega
          rw [List.drop_eq_nil_of_le (Nat.le_refl _)] at h7
          simp only [Z6.scan, Option.some.injEq] at h7
          subst h7
          have hlz : ((ps.length : Int) < (ps.length : Int)) = False := eq_false (by omega)
          clear HSc HM hlm
          go_wp2_with (go_at_call 68; refine (Z59.calls _ vo o1 r1 r2 w _ HIq.out.1 HOq.out HF.out).mono ?_; rintro e w8 ⟨v8, rfl, hR8, hb8, _⟩)
          go_ret2
          exact ⟨_, rfl, Kd.R_mono hR8 (fun _ _ => trivial), hb8⟩
def Z38.f (a0 : ByteArray) (a1 : Int) : Option (Bool) := if a1 = (a0.size : Int) then (some true) else (if 0 ≤ a1 then (if a1 < (a0.size : Int) then (some ((Go.bits .and .u8 (bt a0 a1) 192) != 128)) else (none)) else (none))
set_option maxHeartbeats 8000000 in
set_option maxRecDepth 100000 in
theorem Z38.calls (a0 : ByteArray) (a1 : Int) (r : Bool) (w : World) (h : Z38.f a0 a1 = some r) :
    Calls Tryd.prog 70 #[.string a0, .int .i64 a1] w fun e w' => e = .returned (.bool r) ∧ Drawn0 w w' := by
  have H : (if a1 = (a0.size : Int) then (some true) else (if 0 ≤ a1 then (if a1 < (a0.size : Int) then (some ((Go.bits .and .u8 (bt a0 a1) 192) != 128)) else (none)) else (none))) = some r := h
  clear h
  by_cases c3 : a1 = (a0.size : Int)
  · rw [if_pos c3] at H
    have c3b0 : (a1 == (a0.size : Int)) = true := beq_iff_eq.mpr c3
    have c3b1 : (a1 != (a0.size : Int)) = false := bne_eq_false_iff_eq.mpr c3
    clear c3
    obtain rfl := Option.some.inj H
    go_enter Tryd.func70, Tryd.ntmps70
    go_wp2
    go_ret
    exact ⟨by first | rfl | (simp; done) | (simp [*]; done), by repeat (first | exact Drawn0.refl _ | apply Drawn0.step)⟩
  · rw [if_neg c3] at H
    have c3b0 : (a1 == (a0.size : Int)) = false := beq_eq_false_iff_ne.mpr c3
    have c3b1 : (a1 != (a0.size : Int)) = true := bne_iff_ne.mpr c3
    by_cases c4 : 0 ≤ a1
    · rw [if_pos c4] at H
      have c4b0 := decide_eq_true c4; clear c4
      by_cases c5 : a1 < (a0.size : Int)
      · rw [if_pos c5] at H
        have c5b0 := decide_eq_true c5; clear c5
        obtain rfl := Option.some.inj H
        have p6 : 0 ≤ (a1 : Int) := ode_; have q6 : a1 < (a0.size : Int) := ode_
        have hx6 := bt_at a0 a1
        replace p6 := eq_true p6; replace q6 := eq_true q6
        go_enter Tryd.func70, Tryd.ntmps70
        go_wp2
        go_ret
        exact ⟨by first | rfl | (simp; done) | (simp [*]; done), by repeat (first | exact Drawn0.refl _ | apply Drawn0.step)⟩
      · rw [if_neg c5] at H
        exact absurd H (by simp)
    · rw [if_neg c4] at H
      exact absurd H (by simp)
mutual
def Z10.l0 : Nat → List Bool → List (S46) → List Bool → Int → Int → Option ((List (S46)))
  | 0, _, _, _, _, _ => none
  | k + 1, x0, x3, x6, x7, x8 => if x8 < x7 then (if 0 ≤ x8 then (if x8 < (x6.length : Int) then (if rdOf false x6 x8 = true then (if x8 = 0 then (Z10.j1 k x0 x3 x8 true x6 x7 x8 true) else (if 0 ≤ (wrap64 (x8 - 1)) then (if (wrap64 (x8 - 1)) < (x0.length : Int) then (Z10.j1 k x0 x3 x8 true x6 x7 x8 (!(rdOf false x0 (wrap64 (x8 - 1))))) else (none)) else (none))) else (Z10.j1 k x0 x3 x8 false x6 x7 x8 false)) else (none)) else (none)) else (some x3)
def Z10.j1 : Nat → List Bool → List (S46) → Int → Bool → List Bool → Int → Int → Bool → Option ((List (S46)))
  | 0, _, _, _, _, _, _, _, _ => none
  | k + 1, x0, x3, x4, x5, x6, x7, x8, x25 => if x25 = true then (if x3.length < 8796093022208 then ((some (x3 ++ [(⟨x4, 0⟩ : S46)] : List (S46))).bind fun y367 => (if x5 = true then (if 0 ≤ (wrap64 ((y367.length : Int) - 1)) then (if (wrap64 ((y367.length : Int) - 1)) < (y367.length : Int) then (Z10.l0 k x0 (y367.set ((wrap64 ((y367.length : Int) - 1)) : Int).toNat (⟨(rd_T46 y367 (wrap64 ((y367.length : Int) - 1))).f0, wrap64 (x4 + 1)⟩ : S46)) x6 x7 (wrap64 (x8 + 1))) else (none)) else (none)) else (Z10.l0 k x0 y367 x6 x7 (wrap64 (x8 + 1))))) else (none)) else (if x5 = true then (if 0 ≤ (wrap64 ((x3.length : Int) - 1)) then (if (wrap64 ((x3.length : Int) - 1)) < (x3.length : Int) then (Z10.l0 k x0 (x3.set ((wrap64 ((x3.length : Int) - 1)) : Int).toNat (⟨(rd_T46 x3 (wrap64 ((x3.length : Int) - 1))).f0, wrap64 (x4 + 1)⟩ : S46)) x6 x7 (wrap64 (x8 + 1))) else (none)) else (none)) else (Z10.l0 k x0 x3 x6 x7 (wrap64 (x8 + 1))))
end
def Z10.f (k : Nat) (l0 : List Bool) : Option ((List (S46))) := Z10.l0 k l0 ([] : List (S46)) l0 (l0.length : Int) 0
theorem Z10.mono_l : ∀ k, (∀ y0 y1 y2 y3 y4, LeO (Z10.l0 k y0 y1 y2 y3 y4) (Z10.l0 (k + 1) y0 y1 y2 y3 y4)) ∧ (∀ y0 y1 y2 y3 y4 y5 y6 y7, LeO (Z10.j1 k y0 y1 y2 y3 y4 y5 y6 y7) (Z10.j1 (k + 1) y0 y1 y2 y3 y4 y5 y6 y7))
  | 0 => ⟨fun _ _ _ _ _ r h => by simp [Z10.l0] at h, fun _ _ _ _ _ _ _ _ r h => by simp [Z10.j1] at h⟩
  | k + 1 => by
    obtain ⟨ih0, ih1⟩ := Z10.mono_l k
    refine ⟨?_, ?_⟩
    · intro y0 y1 y2 y3 y4
      unfold Z10.l0
      repeat' first
      | (with_reducible exact ih0 _ _ _ _ _)
      | (with_reducible exact ih1 _ _ _ _ _ _ _ _)
      | (with_reducible exact LeO.refl _)
      | (with_reducible exact LeO.none _)
      | (with_reducible refine LeO.ite ?_ ?_)
      | (with_reducible refine LeO.bind ?_ (fun _ => ?_))
      | exact ih0 _ _ _ _ _
      | exact ih1 _ _ _ _ _ _ _ _
      | exact LeO.none _
      | refine LeO.ite ?_ ?_
      | refine LeO.bind ?_ (fun _ => ?_)
    · intro y0 y1 y2 y3 y4 y5 y6 y7
      unfold Z10.j1
      repeat' first
      | (with_reducible exact ih0 _ _ _ _ _)
      | (with_reducible exact ih1 _ _ _ _ _ _ _ _)
      | (with_reducible exact LeO.refl _)
      | (with_reducible exact LeO.none _)
      | (with_reducible refine LeO.ite ?_ ?_)
      | (with_reducible refine LeO.bind ?_ (fun _ => ?_))
      | exact ih0 _ _ _ _ _
      | exact ih1 _ _ _ _ _ _ _ _
      | exact LeO.none _
      | refine LeO.ite ?_ ?_
      | refine LeO.bind ?_ (fun _ => ?_)
theorem Z10.mono : ∀ a0 k, LeO (Z10.f k a0) (Z10.f (k + 1) a0) := by
  intro a0 k
  obtain ⟨ih0, ih1⟩ := Z10.mono_l k
  unfold Z10.f
  repeat' first
      | (with_reducible exact ih0 _ _ _ _ _)
      | (with_reducible exact ih1 _ _ _ _ _ _ _ _)
      | (with_reducible exact LeO.refl _)
      | (with_reducible exact LeO.none _)
      | (with_reducible refine LeO.ite ?_ ?_)
      | (with_reducible refine LeO.bind ?_ (fun _ => ?_))
      | exact ih0 _ _ _ _ _
      | exact ih1 _ _ _ _ _ _ _ _
      | exact LeO.none _
      | refine LeO.ite ?_ ?_
      | refine LeO.bind ?_ (fun _ => ?_)
end Go.Proofs.YtolcpmdojlbhcaaDoor.Px
