/- Part of the proof that the law patchesLead is true for every input. No conditions. Laid by a program of this session over the kit's print and words; declarations that nothing names are left out. -/
import Derived.Test.YtomamgapdeggjaaDoorZlPlx0
import Derived.Test.YtomamgapdeggjaaDoorZlPlx2
namespace Go.Proofs.YtomamgapdeggjaaDoor.Pl
open Go.RowKit Go.Proofs.YtomamgapdeggjaaDoor.GBase Go.Proofs.YtomamgapdeggjaaDoorW.PrintWords Go.Proofs.YtomamgapdeggjaaDoorW.PrintLast Go.Proofs.YtomamgapdeggjaaDoorW.PrintMore
attribute [local go_sem] str_leq max2_int min2_int max_two min_two max_three min_three max_four min_four
set_option linter.unusedVariables false
set_option linter.unusedSimpArgs false
set_option maxHeartbeats 8000000 in
set_option maxRecDepth 100000 in
theorem near_kept.calls (k : Nat) (A0 : Option Addr) (c0 : Nat) (l0 : List ByteArray) (A1 : Option Addr) (c1 : Nat) (l1 : List ByteArray) (r : List (S166)) (w : World) (hr0 : Kd.C Kd.string w A0 l0.length l0) (hc0 : l0.length ≤ c0) (hr1 : Kd.C Kd.string w A1 l1.length l1) (hc1 : l1.length ≤ c1) (h : near_kept.f k l0 l1 = some r) :
  Calls Tryd.prog 101 #[.slice A0 l0.length c0, .slice A1 l1.length c1] w fun e w' => ∃ v0_ : Value, e = .returned (v0_) ∧ Kd.R k166 166 w' w.heap.size (fun _ => True) v0_ r ∧ Below w.heap.size w w' := by
 have hu166 := Tryd.underlying166
 have HR0 := Aside0.mk hr0
 have HC0 := Aside0.mk hc0
 clear hr0 hc0
 have HR1 := Aside0.mk hr1
 have HC1 := Aside0.mk hc1
 clear hr1 hc1
 have HB := Aside0.mk (Below.refl w.heap.size w)
 have H : (if 0 ≤ (wrap64 ((wrap64 ((l0.length : Int) + 1)) * (wrap64 ((l1.length : Int) + 1)))) then (if (wrap64 ((wrap64 ((l0.length : Int) + 1)) * (wrap64 ((l1.length : Int) + 1))) : Int).toNat ≤ 35184372088832 then (near_kept.l0 k l0 l1 (wrap64 ((l1.length : Int) + 1)) (List.replicate (wrap64 ((wrap64 ((l0.length : Int) + 1)) * (wrap64 ((l1.length : Int) + 1))) : Int).toNat 0) (wrap64 ((l0.length : Int) - 1))) else (none)) else (none)) = some r := h
 clear h
 obtain ⟨ji3, hji3⟩ : ∃ j_ : Int, (wrap64 ((wrap64 ((l0.length : Int) + 1)) * (wrap64 ((l1.length : Int) + 1)))) = j_ := ⟨_, rfl⟩
 replace H : (if 0 ≤ (ji3) then (if (ji3 : Int).toNat ≤ 35184372088832 then (near_kept.l0 k l0 l1 (wrap64 ((l1.length : Int) + 1)) (List.replicate (ji3 : Int).toNat 0) (wrap64 ((l0.length : Int) - 1))) else (none)) else (none)) = some r := by first | (rw [hji3] at H; exact H) | (simp only [hji3] at H ⊢; exact H)
 have hji3w : (IntKind.i64.wrap ((wrap64 ((l0.length : Int) + 1)) * (wrap64 ((l1.length : Int) + 1)))) = ji3 := (i64_w _).trans hji3
 by_cases c4 : 0 ≤ (ji3)
 ·rw [if_pos c4] at H
  have c4b0 := eq_true c4
  have c4b1 : decide (0 ≤ (ji3)) = true := decide_eq_true c4
  clear c4
  by_cases c5 : (ji3 : Int).toNat ≤ 35184372088832
  ·rw [if_pos c5] at H
   have c5b0 := eq_true c5
   have c5b1 : decide ((ji3 : Int).toNat ≤ 35184372088832) = true := decide_eq_true c5
   clear c5
   obtain ⟨y155, hy155⟩ : ∃ y_ : List Int, y_ = (List.replicate (ji3 : Int).toNat 0) := ⟨_, rfl⟩
   replace H : (near_kept.l0 k l0 l1 (wrap64 ((l1.length : Int) + 1)) y155 (wrap64 ((l0.length : Int) - 1))) = some r := by first | (rw [hy155]; with_reducible exact H) | (have H2_ := (Option.bind_some _ _).symm.trans H; rw [hy155]; with_reducible exact H2_) | (have H2_ := (Option.bind_some _ _).symm.trans H; with_reducible exact H2_) | with_reducible exact H | (rw [hy155]; exact H) | exact H
   have Ny155 := Aside0.mk hy155
   clear hy155
   have H' := Aside0.mk H
   clear H
   go_enter Tryd.func101, Tryd.ntmps101
   go_wp2_with (first | ((with_reducible refine gate_dst (N := 21) rfl ?_); refine Kd.R_make (Kd.int .i64) _ 3 rfl (N := 21) rfl 22 _ _ rfl ji3 rfl rfl Tryd.underlying22 (.int .i64 0) 8 info3 rfl (by decide) (by omega) 0 (ok := fun _ => True) (okp := fun _ => True) rfl (fun _ hk => hk) trivial (of_decide_eq_true (by first | (with_reducible assumption) | assumption)) (Nat.le_trans (Nat.mul_le_mul_right _ (of_decide_eq_true (by first | (with_reducible assumption) | assumption) : ji3.toNat ≤ 35184372088832)) (by omega)) (Below.refl _ _) (Nat.le_refl _) ?_; intro v156 w6 ho7 hb hg_ hnew_; clear hg_ hnew_; (first | rw [← Ny155.out] at ho7 | (simp only [Int.reduceToNat] at ho7; rw [← Ny155.out] at ho7)); have n0_ := Aside0.mk (Kd.R_lower ho7 (below_size (by repeat (first | (with_reducible first | exact HB.out | apply below_alloc | apply pw_below_drewN | apply below_drew1) | exact HB.out)))); have n1_ := Aside0.mk (below_step (by repeat (first | (with_reducible first | exact HB.out | apply below_alloc | apply pw_below_drewN | apply below_drew1) | exact HB.out)) hb); clear HB; have HO157 := n0_; have HB := n1_; clear n0_ n1_; clear hb ho7))
   go_loopg [7] k (fun kq v7 w' => ∃ (x6_1 : List Int) (x7_1 : Int), v7 = .int .i64 x7_1 ∧ Aside0 (near_kept.l0 kq l0 l1 (wrap64 ((l1.length : Int) + 1)) x6_1 x7_1 = some r) ∧ Aside0 (kq ≤ k) ∧ Aside0 (Kd.R (Kd.int .i64) 3 w' w.heap.size (fun _ => True) v156 x6_1) ∧ Aside0 (Below w.heap.size w w'))
   case atStart => exact ⟨(y155), (wrap64 ((l0.length : Int) - 1)), (by first | rfl | (simp; done) | (simp [*]; done)), H', ⟨Nat.le_refl _⟩, ⟨by (with_reducible repeat (first | apply Kd.R_alloc | apply Kd.R_drewN | apply Kd.R_drew)); exact HO157.out⟩, ⟨by repeat (first | (with_reducible first | exact HB.out | apply below_alloc | apply pw_below_drewN | apply below_drew1) | exact HB.out)⟩⟩
   case round =>
    clear H'
    try clear c1
    try clear p2
    try clear c4
    try clear c4b0
    try clear c4b1
    try clear c5
    try clear c5b0
    try clear c5b1
    try clear p6
    obtain ⟨x6_1, x7_1, rfl, HA, HK1, HO_6, HB⟩ := hrel
    cases gk with
    | zero => exact absurd HA.out (by simp [near_kept.l0])
    | succ k1 =>
     have H := HA.out
     clear HA
     simp only [near_kept.l0] at H
     by_cases c8 : x7_1 ≥ 0
     ·rw [if_pos c8] at H
      have c8b0 : decide (0 ≤ x7_1) = true := decide_eq_true c8
      clear c8
      have H' := Aside0.mk H
      clear H
      go_wp2
      go_loopg [8] k1 (fun kq v8 w' => ∃ (x6_2 : List Int) (x8_2 : Int), v8 = .int .i64 x8_2 ∧ Aside0 (near_kept.l1 kq l0 l1 (wrap64 ((l1.length : Int) + 1)) x6_2 x7_1 x8_2 = some r) ∧ Aside0 (kq ≤ k1) ∧ Aside0 (Kd.R (Kd.int .i64) 3 w' w.heap.size (fun _ => True) v156 x6_2) ∧ Aside0 (Below w.heap.size w w'))
      case atStart => exact ⟨(x6_1), (wrap64 ((l1.length : Int) - 1)), (by first | rfl | (simp; done) | (simp [*]; done)), H', ⟨Nat.le_refl _⟩, ⟨by (with_reducible repeat (first | apply Kd.R_alloc | apply Kd.R_drewN | apply Kd.R_drew)); exact HO_6.out⟩, ⟨by repeat (first | (with_reducible first | exact HB.out | apply below_alloc | apply pw_below_drewN | apply below_drew1) | exact HB.out)⟩⟩
      case round =>
       clear H'
       try clear c1
       try clear p2
       try clear c4
       try clear c4b0
       try clear c4b1
       try clear c5
       try clear c5b0
       try clear c5b1
       try clear p6
       try clear c8
       try clear c8b0
       try clear p2
       try clear p6
       obtain ⟨x6_2, x8_2, rfl, HA, HK2, HO_6, HB⟩ := hrel
       cases gk with
       | zero => exact absurd HA.out (by simp [near_kept.l1])
       | succ k2 =>
        have H := HA.out
        clear HA
        simp only [near_kept.l1] at H
        by_cases c9 : x8_2 ≥ 0
        ·rw [if_pos c9] at H
         have c9b0 : decide (0 ≤ x8_2) = true := decide_eq_true c9
         clear c9
         by_cases c10 : 0 ≤ x7_1
         ·rw [if_pos c10] at H
          have c10b0 : decide (0 ≤ x7_1) = true := decide_eq_true c10
          clear c10
          by_cases c11 : x7_1 < (l0.length : Int)
          ·rw [if_pos c11] at H
           have c11b0 : decide (x7_1 < (l0.length : Int)) = true := decide_eq_true c11
           clear c11
           by_cases c12 : 0 ≤ x8_2
           ·rw [if_pos c12] at H
            have c12b0 : decide (0 ≤ x8_2) = true := decide_eq_true c12
            clear c12
            by_cases c13 : x8_2 < (l1.length : Int)
            ·rw [if_pos c13] at H
             have c13b0 : decide (x8_2 < (l1.length : Int)) = true := decide_eq_true c13
             clear c13
             by_cases c14 : (rdOf ByteArray.empty l0 x7_1).toList = (rdOf ByteArray.empty l1 x8_2).toList
             ·rw [if_pos c14] at H
              have c14b0 : ((rdOf ByteArray.empty l0 x7_1).toList == (rdOf ByteArray.empty l1 x8_2).toList) = true := beq_iff_eq.mpr c14
              have c14b1 : ((rdOf ByteArray.empty l0 x7_1).toList != (rdOf ByteArray.empty l1 x8_2).toList) = false := bne_eq_false_iff_eq.mpr c14
              clear c14
              obtain ⟨ji15, hji15⟩ : ∃ j_ : Int, (wrap64 ((wrap64 ((wrap64 ((wrap64 (x7_1 + 1)) * (wrap64 ((l1.length : Int) + 1)))) + x8_2)) + 1)) = j_ := ⟨_, rfl⟩
              replace H : (if 0 ≤ (ji15) then (if (ji15) < (x6_2.length : Int) then (if 0 ≤ (wrap64 ((wrap64 (x7_1 * (wrap64 ((l1.length : Int) + 1)))) + x8_2)) then (if (wrap64 ((wrap64 (x7_1 * (wrap64 ((l1.length : Int) + 1)))) + x8_2)) < (x6_2.length : Int) then (near_kept.l1 k2 l0 l1 (wrap64 ((l1.length : Int) + 1)) (x6_2.set ((wrap64 ((wrap64 (x7_1 * (wrap64 ((l1.length : Int) + 1)))) + x8_2)) : Int).toNat (wrap64 ((rd x6_2 (ji15)) + 1))) x7_1 (wrap64 (x8_2 - 1))) else (none)) else (none)) else (none)) else (none)) = some r := by first | (rw [hji15] at H; exact H) | (simp only [hji15] at H ⊢; exact H)
              have hji15w : (IntKind.i64.wrap ((wrap64 ((wrap64 ((wrap64 (x7_1 + 1)) * (wrap64 ((l1.length : Int) + 1)))) + x8_2)) + 1)) = ji15 := (i64_w _).trans hji15
              by_cases c16 : 0 ≤ (ji15)
              ·rw [if_pos c16] at H
               have c16b0 : decide (0 ≤ (ji15)) = true := decide_eq_true c16
               clear c16
               by_cases c17 : (ji15) < (x6_2.length : Int)
               ·rw [if_pos c17] at H
                have c17b0 : decide ((ji15) < (x6_2.length : Int)) = true := decide_eq_true c17
                clear c17
                obtain ⟨ji18, hji18⟩ : ∃ j_ : Int, (wrap64 ((wrap64 (x7_1 * (wrap64 ((l1.length : Int) + 1)))) + x8_2)) = j_ := ⟨_, rfl⟩
                replace H : (if 0 ≤ (ji18) then (if (ji18) < (x6_2.length : Int) then (near_kept.l1 k2 l0 l1 (wrap64 ((l1.length : Int) + 1)) (x6_2.set ((ji18) : Int).toNat (wrap64 ((rd x6_2 (ji15)) + 1))) x7_1 (wrap64 (x8_2 - 1))) else (none)) else (none)) = some r := by first | (rw [hji18] at H; exact H) | (simp only [hji18] at H ⊢; exact H)
                have hji18w : (IntKind.i64.wrap ((wrap64 (x7_1 * (wrap64 ((l1.length : Int) + 1)))) + x8_2)) = ji18 := (i64_w _).trans hji18
                by_cases c19 : 0 ≤ (ji18)
                ·rw [if_pos c19] at H
                 have c19b0 : decide (0 ≤ (ji18)) = true := decide_eq_true c19
                 clear c19
                 by_cases c20 : (ji18) < (x6_2.length : Int)
                 ·rw [if_pos c20] at H
                  have c20b0 : decide ((ji18) < (x6_2.length : Int)) = true := decide_eq_true c20
                  clear c20
                  obtain ⟨y161, hy161⟩ : ∃ y_ : List Int, y_ = (x6_2.set ((ji18) : Int).toNat (wrap64 ((rd x6_2 (ji15)) + 1))) := ⟨_, rfl⟩
                  replace H : (near_kept.l1 k2 l0 l1 (wrap64 ((l1.length : Int) + 1)) y161 x7_1 (wrap64 (x8_2 - 1))) = some r := by first | (rw [hy161]; with_reducible exact H) | (have H2_ := (Option.bind_some _ _).symm.trans H; rw [hy161]; with_reducible exact H2_) | (have H2_ := (Option.bind_some _ _).symm.trans H; with_reducible exact H2_) | with_reducible exact H | (rw [hy161]; exact H) | exact H
                  have Ny161 := Aside0.mk hy161
                  clear hy161
                  have H' := Aside0.mk H
                  clear H
                  try go_wp2
                  have n0_ := Aside0.mk (Kd.R_drew HO_6.out)
                  have n1_ := Aside0.mk (below_drew1 HB.out)
                  clear HO_6
                  clear HB
                  have HO_6 := n0_
                  have HB := n1_
                  clear n0_ n1_
                  have p158 : 0 ≤ (x7_1 : Int) := of_decide_eq_true (by first | (with_reducible assumption) | assumption)
                  have q158 : x7_1 < (l0.length : Int) := of_decide_eq_true (by first | (with_reducible assumption) | assumption)
                  obtain ⟨ad158, e158, hx158_0⟩ := Kd.at_string HR0.out x7_1 p158 q158
                  have hw158_0 := hx158_0
                  cases e158
                  first | replace hx158_0 := (HB.out.cell (World.block_lt_of_cell? w _ hx158_0)).trans hx158_0 | skip
                  replace p158 := eq_true p158
                  replace q158 := eq_true q158
                  have p159 : 0 ≤ (x8_2 : Int) := of_decide_eq_true (by first | (with_reducible assumption) | assumption)
                  have q159 : x8_2 < (l1.length : Int) := of_decide_eq_true (by first | (with_reducible assumption) | assumption)
                  obtain ⟨ad159, e159, hx159_0⟩ := Kd.at_string HR1.out x8_2 p159 q159
                  have hw159_0 := hx159_0
                  cases e159
                  first | replace hx159_0 := (HB.out.cell (World.block_lt_of_cell? w _ hx159_0)).trans hx159_0 | skip
                  replace p159 := eq_true p159
                  replace q159 := eq_true q159
                  refine start_ (n := 9) (S := fun w' => w'.cell? (ad158.add (x7_1).toNat) = some (.string (rdOf ByteArray.empty l0 x7_1)) ∧ w'.cell? (ad159.add (x8_2).toNat) = some (.string (rdOf ByteArray.empty l1 x8_2))) (ds := []) near_kept.D2 (by kernel_rfl) rfl rfl ⟨((HB.out.cell (World.block_lt_of_cell? w _ hw158_0)).trans hw158_0), ((HB.out.cell (World.block_lt_of_cell? w _ hw159_0)).trans hw159_0)⟩ (fun hHeld => ?_); refine with_tabW near_kept.tab9 near_kept.bits9 (fun HT_ HW_ => ?_)
                  generalize wr.drew = w22 at HO_6 HB hx158_0 hx159_0 hHeld ⊢
                  refine pu_ (i := 0) (N := some 36) (v := ?_) (a' := ?_) near_kept.D5 (any_of HT_.out (by kernel_rfl)) ?_ ?_ ?_; rotate_left 2
                  ·intro w'; go_simp; with_reducible rfl
                  ·simp only [Act.put, s_t, s_z, s_s, i64_w, i32_w]; rfl
                  refine pu_ (i := 1) (N := some 37) (v := ?_) (a' := ?_) near_kept.D8 (any_of HT_.out (by kernel_rfl)) ?_ ?_ ?_; rotate_left 2
                  ·intro w'; go_simp; with_reducible rfl
                  ·simp only [Act.put, s_t, s_z, s_s, i64_w, i32_w]; rfl
                  refine pu_ (i := 2) (N := some 38) (v := ?_) (a' := ?_) near_kept.D11 (any_of HT_.out (by kernel_rfl)) ?_ ?_ ?_; rotate_left 2
                  ·intro w'; go_simp; with_reducible rfl
                  ·simp only [Act.put, s_t, s_z, s_s, i64_w, i32_w]; rfl
                  refine pu_ (i := 4) (N := some 40) (v := ?_) (a' := ?_) near_kept.D12 (any_of HT_.out (by kernel_rfl)) ?_ ?_ ?_; rotate_left 2
                  ·intro w'; go_simp; with_reducible rfl
                  ·simp only [Act.put, s_t, s_z, s_s, i64_w, i32_w]; rfl
                  refine pu_ (i := 5) (N := some 41) (v := ?_) (a' := ?_) near_kept.D13 (any_of HT_.out (by kernel_rfl)) ?_ ?_ ?_; rotate_left 2
                  ·intro w'; go_simp; with_reducible rfl
                  ·simp only [Act.put, s_t, s_z, s_s, i64_w, i32_w]; rfl
                  refine pu_ (i := 6) (N := some 42) (v := ?_) (a' := ?_) near_kept.D14 (any_of HT_.out (by kernel_rfl)) ?_ ?_ ?_; rotate_left 2
                  ·intro w'; go_simp; with_reducible rfl
                  ·simp only [Act.put, s_t, s_z, s_s, i64_w, i32_w]; rfl
                  refine take_ (i := 3) (N := some 39) (v := ?_) (a' := ?_) near_kept.D26 rfl rfl (take_ofW HT_.out HW_.out (by kernel_rfl)) (fun _ _ _ h => h) (Or.inl ⟨by rfl, ?_⟩) hHeld ?_ ?_
                  rotate_left
                  ·rintro w' ⟨s0, s1⟩
                   go_simp
                   with_reducible rfl
                  rotate_left
                  ·simp only [Act.put, List.setIfInBounds_toArray, List.set_cons_zero, List.set_cons_succ, i64_w, i32_w]
                   rfl
                  refine take_ (i := 7) (N := some 43) (v := ?_) (a' := ?_) near_kept.D29 rfl rfl (take_ofW HT_.out HW_.out (by kernel_rfl)) (fun _ _ _ h => h) (Or.inl ⟨by rfl, ?_⟩) hHeld ?_ ?_
                  rotate_left
                  ·rintro w' ⟨s0, s1⟩
                   go_simp
                   with_reducible rfl
                  rotate_left
                  ·simp only [Act.put, List.setIfInBounds_toArray, List.set_cons_zero, List.set_cons_succ, i64_w, i32_w]
                   rfl
                  refine pu_ (i := 8) (N := some 44) (v := ?_) (a' := ?_) near_kept.D75 (any_of HT_.out (by kernel_rfl)) ?_ ?_ ?_; rotate_left 2
                  ·intro w'; go_simp; with_reducible rfl
                  ·simp only [Act.put, s_t, s_z, s_s, i64_w, i32_w]; rfl
                  refine done_ (done_of HT_.out (by kernel_rfl)) ?_
                  obtain ⟨Ao23, co23, eo23⟩ := Kd.R_slice HO_6.out
                  subst eo23
                  have p160 : 0 ≤ ((ji15) : Int) := of_decide_eq_true (by first | (with_reducible assumption) | assumption)
                  have q160 : (ji15) < (x6_2.length : Int) := of_decide_eq_true (by first | (with_reducible assumption) | assumption)
                  obtain ⟨ad160, e160, hx160_0⟩ := Kd.at_int (Kd.R_reads' HO_6.out).2.2 (ji15) p160 q160
                  cases e160
                  replace p160 := eq_true p160
                  replace q160 := eq_true q160
                  have p21 : 0 ≤ ((ji18) : Int) := of_decide_eq_true (by first | (with_reducible assumption) | assumption)
                  have q21 : ((ji18) : Int) < ((x6_2.length : Int) : Int) := of_decide_eq_true (by first | (with_reducible assumption) | assumption)
                  obtain ⟨go21, co21, eo21, gb21, gl21, cl21, HG21⟩ := Kd.R_form HO_6.out (by omega)
                  (first | cases eo21 | (injection eo21 with ea_ en_ ec_; (first | subst ea_ | (injection ea_ with ea_; subst ea_)); subst ec_; clear en_))
                  have GB21 := Aside0.mk gb21
                  have GG21 := Aside0.mk HG21
                  clear gb21 gl21 HG21
                  (first | simp only [add_plain] at hx160_0 | skip)
                  obtain ⟨hx21_0, hf21_0⟩ := Kd.R_celln 0 HO_6.out ((ji18) : Int) p21 q21
                  replace p21 := eq_true p21
                  replace q21 := eq_true q21
                  obtain ⟨hy24_, hz24_⟩ := Kd.R_celln 0 HO_6.out ((ji18) : Int) (of_decide_eq_true (by first | (with_reducible assumption) | assumption)) (of_decide_eq_true (by first | (with_reducible assumption) | assumption))
                  have HP24 := Kd.R_putg HO_6.out ((ji18) : Int) (wrap64 ((rd x6_2 (ji15)) + 1))
                  try go_wp2_with (first | ((with_reducible refine gate_store (t := 3) (p := 62) rfl ?_); refine store_event (t := 3) (p := 62) (v := ?vo_w25) (w1 := (w22.setCell ⟨go21, ((ji18) : Int).toNat, none⟩ (.int .i64 (wrap64 ((rd x6_2 (ji15)) + 1))))) ?hg ?ho ?hn ?hr ?_; (case ho => rfl); (case hg => rfl); (case hn => rfl); (case hr => first | (go_simp; done) | (go_simp; rfl)); intro w25 hw; have hg : w22.grownBy w25 (some go21) := (by rw [hw]; exact HP24.2); have hp_ : Kd.R (Kd.int .i64) 3 w25 w.heap.size (fun _ => True) (.slice (some ⟨go21, 0, none⟩) x6_2.length co23) y161 := (by rw [hw, Ny161.out]; exact HP24.1); clear HP24; have n0_ := Aside0.mk (hp_); have n1_ := Aside0.mk ((by rw [hw]; exact below_set (HB.out) GB21.out : Below w.heap.size w w25)); clear HO_6; clear HB; have HO_6 := n0_; have HB := n1_; clear n0_ n1_; clear hg hw hp_))
                  go_roundg k2
                  case measure => have := HK1.out; have := HK2.out; omega
                  case rel => exact ⟨(y161), (wrap64 (x8_2 - 1)), (by first | rfl | (simp; done) | (simp [*]; done)), H', ⟨by have := HK1.out; have := HK2.out; omega⟩, ⟨by (with_reducible repeat (first | apply Kd.R_alloc | apply Kd.R_drewN | apply Kd.R_drew)); exact HO_6.out⟩, ⟨by repeat (first | (with_reducible first | exact HB.out | apply below_alloc | apply pw_below_drewN | apply below_drew1) | exact HB.out)⟩⟩
                 ·rw [if_neg c20] at H
                  exact absurd H (by simp)
                ·rw [if_neg c19] at H
                 exact absurd H (by simp)
               ·rw [if_neg c17] at H
                exact absurd H (by simp)
              ·rw [if_neg c16] at H
               exact absurd H (by simp)
             ·rw [if_neg c14] at H
              have c14b0 : ((rdOf ByteArray.empty l0 x7_1).toList == (rdOf ByteArray.empty l1 x8_2).toList) = false := beq_eq_false_iff_ne.mpr c14
              have c14b1 : ((rdOf ByteArray.empty l0 x7_1).toList != (rdOf ByteArray.empty l1 x8_2).toList) = true := bne_iff_ne.mpr c14
              obtain ⟨ji26, hji26⟩ : ∃ j_ : Int, (wrap64 ((wrap64 ((wrap64 (x7_1 + 1)) * (wrap64 ((l1.length : Int) + 1)))) + x8_2)) = j_ := ⟨_, rfl⟩
              replace H : (if 0 ≤ (ji26) then (if (ji26) < (x6_2.length : Int) then (if 0 ≤ (wrap64 ((wrap64 ((wrap64 (x7_1 * (wrap64 ((l1.length : Int) + 1)))) + x8_2)) + 1)) then (if (wrap64 ((wrap64 ((wrap64 (x7_1 * (wrap64 ((l1.length : Int) + 1)))) + x8_2)) + 1)) < (x6_2.length : Int) then (if 0 ≤ (wrap64 ((wrap64 (x7_1 * (wrap64 ((l1.length : Int) + 1)))) + x8_2)) then (if (wrap64 ((wrap64 (x7_1 * (wrap64 ((l1.length : Int) + 1)))) + x8_2)) < (x6_2.length : Int) then (near_kept.l1 k2 l0 l1 (wrap64 ((l1.length : Int) + 1)) (x6_2.set ((wrap64 ((wrap64 (x7_1 * (wrap64 ((l1.length : Int) + 1)))) + x8_2)) : Int).toNat (mx (rd x6_2 (ji26)) (rd x6_2 (wrap64 ((wrap64 ((wrap64 (x7_1 * (wrap64 ((l1.length : Int) + 1)))) + x8_2)) + 1))))) x7_1 (wrap64 (x8_2 - 1))) else (none)) else (none)) else (none)) else (none)) else (none)) else (none)) = some r := by first | (rw [hji26] at H; exact H) | (simp only [hji26] at H ⊢; exact H)
              have hji26w : (IntKind.i64.wrap ((wrap64 ((wrap64 (x7_1 + 1)) * (wrap64 ((l1.length : Int) + 1)))) + x8_2)) = ji26 := (i64_w _).trans hji26
              (try simp only [hji26] at hji15)
              (try simp only [hji26] at hji15w)
              by_cases c27 : 0 ≤ (ji26)
              ·rw [if_pos c27] at H
               have c27b0 : decide (0 ≤ (ji26)) = true := decide_eq_true c27
               clear c27
               by_cases c28 : (ji26) < (x6_2.length : Int)
               ·rw [if_pos c28] at H
                have c28b0 : decide ((ji26) < (x6_2.length : Int)) = true := decide_eq_true c28
                clear c28
                obtain ⟨ji29, hji29⟩ : ∃ j_ : Int, (wrap64 ((wrap64 ((wrap64 (x7_1 * (wrap64 ((l1.length : Int) + 1)))) + x8_2)) + 1)) = j_ := ⟨_, rfl⟩
                replace H : (if 0 ≤ (ji29) then (if (ji29) < (x6_2.length : Int) then (if 0 ≤ (wrap64 ((wrap64 (x7_1 * (wrap64 ((l1.length : Int) + 1)))) + x8_2)) then (if (wrap64 ((wrap64 (x7_1 * (wrap64 ((l1.length : Int) + 1)))) + x8_2)) < (x6_2.length : Int) then (near_kept.l1 k2 l0 l1 (wrap64 ((l1.length : Int) + 1)) (x6_2.set ((wrap64 ((wrap64 (x7_1 * (wrap64 ((l1.length : Int) + 1)))) + x8_2)) : Int).toNat (mx (rd x6_2 (ji26)) (rd x6_2 (ji29)))) x7_1 (wrap64 (x8_2 - 1))) else (none)) else (none)) else (none)) else (none)) = some r := by first | (rw [hji29] at H; exact H) | (simp only [hji29] at H ⊢; exact H)
                have hji29w : (IntKind.i64.wrap ((wrap64 ((wrap64 (x7_1 * (wrap64 ((l1.length : Int) + 1)))) + x8_2)) + 1)) = ji29 := (i64_w _).trans hji29
                by_cases c30 : 0 ≤ (ji29)
                ·rw [if_pos c30] at H
                 have c30b0 : decide (0 ≤ (ji29)) = true := decide_eq_true c30
                 clear c30
                 by_cases c31 : (ji29) < (x6_2.length : Int)
                 ·rw [if_pos c31] at H
                  have c31b0 : decide ((ji29) < (x6_2.length : Int)) = true := decide_eq_true c31
                  clear c31
                  obtain ⟨ji32, hji32⟩ : ∃ j_ : Int, (mx (rd x6_2 (ji26)) (rd x6_2 (ji29))) = j_ := ⟨_, rfl⟩
                  replace H : (if 0 ≤ (wrap64 ((wrap64 (x7_1 * (wrap64 ((l1.length : Int) + 1)))) + x8_2)) then (if (wrap64 ((wrap64 (x7_1 * (wrap64 ((l1.length : Int) + 1)))) + x8_2)) < (x6_2.length : Int) then (near_kept.l1 k2 l0 l1 (wrap64 ((l1.length : Int) + 1)) (x6_2.set ((wrap64 ((wrap64 (x7_1 * (wrap64 ((l1.length : Int) + 1)))) + x8_2)) : Int).toNat (ji32)) x7_1 (wrap64 (x8_2 - 1))) else (none)) else (none)) = some r := by first | (rw [hji32] at H; exact H) | (simp only [hji32] at H ⊢; exact H)
                  have hji32_ : (if (rd x6_2 (ji26)) < (rd x6_2 (ji29)) then (rd x6_2 (ji29)) else (rd x6_2 (ji26))) = ji32 := hji32
                  obtain ⟨ji33, hji33⟩ : ∃ j_ : Int, (wrap64 ((wrap64 (x7_1 * (wrap64 ((l1.length : Int) + 1)))) + x8_2)) = j_ := ⟨_, rfl⟩
                  replace H : (if 0 ≤ (ji33) then (if (ji33) < (x6_2.length : Int) then (near_kept.l1 k2 l0 l1 (wrap64 ((l1.length : Int) + 1)) (x6_2.set ((ji33) : Int).toNat (ji32)) x7_1 (wrap64 (x8_2 - 1))) else (none)) else (none)) = some r := by first | (rw [hji33] at H; exact H) | (simp only [hji33] at H ⊢; exact H)
                  have hji33w : (IntKind.i64.wrap ((wrap64 (x7_1 * (wrap64 ((l1.length : Int) + 1)))) + x8_2)) = ji33 := (i64_w _).trans hji33
                  (try simp only [hji33] at hji18)
                  (try simp only [hji33] at hji18w)
                  (try simp only [hji33] at hji29)
                  (try simp only [hji33] at hji29w)
                  by_cases c34 : 0 ≤ (ji33)
                  ·rw [if_pos c34] at H
                   have c34b0 : decide (0 ≤ (ji33)) = true := decide_eq_true c34
                   clear c34
                   by_cases c35 : (ji33) < (x6_2.length : Int)
                   ·rw [if_pos c35] at H
                    have c35b0 : decide ((ji33) < (x6_2.length : Int)) = true := decide_eq_true c35
                    clear c35
                    obtain ⟨y164, hy164⟩ : ∃ y_ : List Int, y_ = (x6_2.set ((ji33) : Int).toNat (ji32)) := ⟨_, rfl⟩
                    replace H : (near_kept.l1 k2 l0 l1 (wrap64 ((l1.length : Int) + 1)) y164 x7_1 (wrap64 (x8_2 - 1))) = some r := by first | (rw [hy164]; with_reducible exact H) | (have H2_ := (Option.bind_some _ _).symm.trans H; rw [hy164]; with_reducible exact H2_) | (have H2_ := (Option.bind_some _ _).symm.trans H; with_reducible exact H2_) | with_reducible exact H | (rw [hy164]; exact H) | exact H
                    have Ny164 := Aside0.mk hy164
                    clear hy164
                    have H' := Aside0.mk H
                    clear H
                    try go_wp2
                    have n0_ := Aside0.mk (Kd.R_drew HO_6.out)
                    have n1_ := Aside0.mk (below_drew1 HB.out)
                    clear HO_6
                    clear HB
                    have HO_6 := n0_
                    have HB := n1_
                    clear n0_ n1_
                    have p158 : 0 ≤ (x7_1 : Int) := of_decide_eq_true (by first | (with_reducible assumption) | assumption)
                    have q158 : x7_1 < (l0.length : Int) := of_decide_eq_true (by first | (with_reducible assumption) | assumption)
                    obtain ⟨ad158, e158, hx158_0⟩ := Kd.at_string HR0.out x7_1 p158 q158
                    have hw158_0 := hx158_0
                    cases e158
                    first | replace hx158_0 := (HB.out.cell (World.block_lt_of_cell? w _ hx158_0)).trans hx158_0 | skip
                    replace p158 := eq_true p158
                    replace q158 := eq_true q158
                    have p159 : 0 ≤ (x8_2 : Int) := of_decide_eq_true (by first | (with_reducible assumption) | assumption)
                    have q159 : x8_2 < (l1.length : Int) := of_decide_eq_true (by first | (with_reducible assumption) | assumption)
                    obtain ⟨ad159, e159, hx159_0⟩ := Kd.at_string HR1.out x8_2 p159 q159
                    have hw159_0 := hx159_0
                    cases e159
                    first | replace hx159_0 := (HB.out.cell (World.block_lt_of_cell? w _ hx159_0)).trans hx159_0 | skip
                    replace p159 := eq_true p159
                    replace q159 := eq_true q159
                    refine start_ (n := 9) (S := fun w' => w'.cell? (ad158.add (x7_1).toNat) = some (.string (rdOf ByteArray.empty l0 x7_1)) ∧ w'.cell? (ad159.add (x8_2).toNat) = some (.string (rdOf ByteArray.empty l1 x8_2))) (ds := []) near_kept.D2 (by kernel_rfl) rfl rfl ⟨((HB.out.cell (World.block_lt_of_cell? w _ hw158_0)).trans hw158_0), ((HB.out.cell (World.block_lt_of_cell? w _ hw159_0)).trans hw159_0)⟩ (fun hHeld => ?_); refine with_tabW near_kept.tab9 near_kept.bits9 (fun HT_ HW_ => ?_)
                    generalize wr.drew = w37 at HO_6 HB hx158_0 hx159_0 hHeld ⊢
                    refine pu_ (i := 0) (N := some 36) (v := ?_) (a' := ?_) near_kept.D5 (any_of HT_.out (by kernel_rfl)) ?_ ?_ ?_; rotate_left 2
                    ·intro w'; go_simp; with_reducible rfl
                    ·simp only [Act.put, s_t, s_z, s_s, i64_w, i32_w]; rfl
                    refine pu_ (i := 1) (N := some 37) (v := ?_) (a' := ?_) near_kept.D8 (any_of HT_.out (by kernel_rfl)) ?_ ?_ ?_; rotate_left 2
                    ·intro w'; go_simp; with_reducible rfl
                    ·simp only [Act.put, s_t, s_z, s_s, i64_w, i32_w]; rfl
                    refine pu_ (i := 2) (N := some 38) (v := ?_) (a' := ?_) near_kept.D11 (any_of HT_.out (by kernel_rfl)) ?_ ?_ ?_; rotate_left 2
                    ·intro w'; go_simp; with_reducible rfl
                    ·simp only [Act.put, s_t, s_z, s_s, i64_w, i32_w]; rfl
                    refine pu_ (i := 4) (N := some 40) (v := ?_) (a' := ?_) near_kept.D12 (any_of HT_.out (by kernel_rfl)) ?_ ?_ ?_; rotate_left 2
                    ·intro w'; go_simp; with_reducible rfl
                    ·simp only [Act.put, s_t, s_z, s_s, i64_w, i32_w]; rfl
                    refine pu_ (i := 5) (N := some 41) (v := ?_) (a' := ?_) near_kept.D13 (any_of HT_.out (by kernel_rfl)) ?_ ?_ ?_; rotate_left 2
                    ·intro w'; go_simp; with_reducible rfl
                    ·simp only [Act.put, s_t, s_z, s_s, i64_w, i32_w]; rfl
                    refine pu_ (i := 6) (N := some 42) (v := ?_) (a' := ?_) near_kept.D14 (any_of HT_.out (by kernel_rfl)) ?_ ?_ ?_; rotate_left 2
                    ·intro w'; go_simp; with_reducible rfl
                    ·simp only [Act.put, s_t, s_z, s_s, i64_w, i32_w]; rfl
                    refine take_ (i := 3) (N := some 39) (v := ?_) (a' := ?_) near_kept.D26 rfl rfl (take_ofW HT_.out HW_.out (by kernel_rfl)) (fun _ _ _ h => h) (Or.inl ⟨by rfl, ?_⟩) hHeld ?_ ?_
                    rotate_left
                    ·rintro w' ⟨s0, s1⟩
                     go_simp
                     with_reducible rfl
                    rotate_left
                    ·simp only [Act.put, List.setIfInBounds_toArray, List.set_cons_zero, List.set_cons_succ, i64_w, i32_w]
                     rfl
                    refine take_ (i := 7) (N := some 43) (v := ?_) (a' := ?_) near_kept.D29 rfl rfl (take_ofW HT_.out HW_.out (by kernel_rfl)) (fun _ _ _ h => h) (Or.inl ⟨by rfl, ?_⟩) hHeld ?_ ?_
                    rotate_left
                    ·rintro w' ⟨s0, s1⟩
                     go_simp
                     with_reducible rfl
                    rotate_left
                    ·simp only [Act.put, List.setIfInBounds_toArray, List.set_cons_zero, List.set_cons_succ, i64_w, i32_w]
                     rfl
                    refine pu_ (i := 8) (N := some 44) (v := ?_) (a' := ?_) near_kept.D75 (any_of HT_.out (by kernel_rfl)) ?_ ?_ ?_; rotate_left 2
                    ·intro w'; go_simp; with_reducible rfl
                    ·simp only [Act.put, s_t, s_z, s_s, i64_w, i32_w]; rfl
                    refine done_ (done_of HT_.out (by kernel_rfl)) ?_
                    try go_wp2
                    have n0_ := Aside0.mk (Kd.R_drew HO_6.out)
                    have n1_ := Aside0.mk (below_drew1 HB.out)
                    clear HO_6
                    clear HB
                    have HO_6 := n0_
                    have HB := n1_
                    clear n0_ n1_
                    obtain ⟨Ao39, co39, eo39⟩ := Kd.R_slice HO_6.out
                    (first | subst eo39 | (injection eo39 with f1_ f2_ f3_; have f4_ := f1_.symm; have f5_ := f3_.symm; clear f1_ f2_ f3_; subst f4_; subst f5_))
                    have p162 : 0 ≤ ((ji26) : Int) := of_decide_eq_true (by first | (with_reducible assumption) | assumption)
                    have q162 : (ji26) < (x6_2.length : Int) := of_decide_eq_true (by first | (with_reducible assumption) | assumption)
                    obtain ⟨ad162, e162, hx162_0⟩ := Kd.at_int (Kd.R_reads' HO_6.out).2.2 (ji26) p162 q162
                    cases e162
                    replace p162 := eq_true p162
                    replace q162 := eq_true q162
                    have p163 : 0 ≤ ((ji29) : Int) := of_decide_eq_true (by first | (with_reducible assumption) | assumption)
                    have q163 : (ji29) < (x6_2.length : Int) := of_decide_eq_true (by first | (with_reducible assumption) | assumption)
                    obtain ⟨ad163, e163, hx163_0⟩ := Kd.at_int (Kd.R_reads' HO_6.out).2.2 (ji29) p163 q163
                    obtain rfl : ad162 = ad163 := (by injection e163)
                    replace p163 := eq_true p163
                    replace q163 := eq_true q163
                    have p36 : 0 ≤ ((ji33) : Int) := of_decide_eq_true (by first | (with_reducible assumption) | assumption)
                    have q36 : ((ji33) : Int) < ((x6_2.length : Int) : Int) := of_decide_eq_true (by first | (with_reducible assumption) | assumption)
                    obtain ⟨go36, co36, eo36, gb36, gl36, cl36, HG36⟩ := Kd.R_form HO_6.out (by omega)
                    (first | cases eo36 | (injection eo36 with ea_ en_ ec_; (first | subst ea_ | (injection ea_ with ea_; subst ea_)); subst ec_; clear en_))
                    have GB36 := Aside0.mk gb36
                    have GG36 := Aside0.mk HG36
                    clear gb36 gl36 HG36
                    (first | simp only [add_plain] at hx162_0 | skip)
                    (first | simp only [add_plain] at hx163_0 | skip)
                    obtain ⟨hx36_0, hf36_0⟩ := Kd.R_celln 0 HO_6.out ((ji33) : Int) p36 q36
                    replace p36 := eq_true p36
                    replace q36 := eq_true q36
                    have HP40 := Kd.R_putn HO_6.out ((ji33) : Int) ji32
                    rw [← Ny164.out] at HP40
                    have HQ40 := Aside0.mk HP40
                    clear HP40
                    refine start_ (n := 27) (S := fun w' => w'.cell? ⟨go36, ((ji26)).toNat, none⟩ = some (.int .i64 (rd x6_2 (ji26))) ∧ w'.cell? ⟨go36, ((ji29)).toNat, none⟩ = some (.int .i64 (rd x6_2 (ji29)))) (ds := [26]) near_kept.D0 (by kernel_rfl) rfl rfl ⟨hx162_0, hx163_0⟩ (fun hHeld => ?_); refine with_tabW near_kept.tab11 near_kept.bits11 (fun HT_ HW_ => ?_)
                    generalize w37.drew = w38 at HO_6 HB GG36 HQ40 hf36_0 hx162_0 hx163_0 hx36_0 hHeld ⊢
                    refine pu_ (i := 0) (N := some 63) (v := ?_) (a' := ?_) near_kept.D3 (any_of HT_.out (by kernel_rfl)) ?_ ?_ ?_; rotate_left 2
                    ·intro w'; go_simp; with_reducible rfl
                    ·simp only [Act.put, s_t, s_z, s_s, i64_w, i32_w]; rfl
                    refine pu_ (i := 1) (N := some 64) (v := ?_) (a' := ?_) near_kept.D6 (any_of HT_.out (by kernel_rfl)) ?_ ?_ ?_; rotate_left 2
                    ·intro w'; go_simp; with_reducible rfl
                    ·simp only [Act.put, s_t, s_z, s_s, i64_w, i32_w]; rfl
                    refine pu_ (i := 2) (N := some 65) (v := ?_) (a' := ?_) near_kept.D9 (any_of HT_.out (by kernel_rfl)) ?_ ?_ ?_; rotate_left 2
                    ·intro w'; go_simp; with_reducible rfl
                    ·simp only [Act.put, s_t, s_z, s_s, i64_w, i32_w]; rfl
                    refine pu_ (i := 3) (N := some 66) (v := ?_) (a' := ?_) near_kept.D15 (any_of HT_.out (by kernel_rfl)) ?_ ?_ ?_; rotate_left 2
                    ·intro w'; go_simp; with_reducible rfl
                    ·simp only [Act.put, s_t, s_z, s_s, i64_w, i32_w]; rfl
                    refine pu_ (i := 4) (N := some 67) (v := ?_) (a' := ?_) near_kept.D18 (any_of HT_.out (by kernel_rfl)) ?_ ?_ ?_; rotate_left 2
                    ·intro w'; go_simp; with_reducible rfl
                    ·simp only [Act.put, s_t, s_z, s_s, i64_w, i32_w]; rfl
                    refine pu_ (i := 5) (N := some 68) (v := ?_) (a' := ?_) near_kept.D21 (any_of HT_.out (by kernel_rfl)) ?_ ?_ ?_; rotate_left 2
                    ·intro w'; go_simp; with_reducible rfl
                    ·simp only [Act.put, s_t, s_z, s_s, i64_w, i32_w]; rfl
                    refine pu_ (i := 6) (N := some 69) (v := ?_) (a' := ?_) near_kept.D24 (any_of HT_.out (by kernel_rfl)) ?_ ?_ ?_; rotate_left 2
                    ·intro w'; go_simp; with_reducible rfl
                    ·simp only [Act.put, s_t, s_z, s_s, i64_w, i32_w]; rfl
                    refine pu_ (i := 7) (N := some 70) (v := ?_) (a' := ?_) near_kept.D27 (any_of HT_.out (by kernel_rfl)) ?_ ?_ ?_; rotate_left 2
                    ·intro w'; go_simp; with_reducible rfl
                    ·simp only [Act.put, s_t, s_z, s_s, i64_w, i32_w]; rfl
                    refine pu_ (i := 8) (N := some 71) (v := ?_) (a' := ?_) near_kept.D30 (any_of HT_.out (by kernel_rfl)) ?_ ?_ ?_; rotate_left 2
                    ·intro w'; go_simp; with_reducible rfl
                    ·simp only [Act.put, s_t, s_z, s_s, i64_w, i32_w]; rfl
                    refine pu_ (i := 9) (N := some 72) (v := ?_) (a' := ?_) near_kept.D32 (any_of HT_.out (by kernel_rfl)) ?_ ?_ ?_; rotate_left 2
                    ·intro w'; go_simp; with_reducible rfl
                    ·simp only [Act.put, s_t, s_z, s_s, i64_w, i32_w]; rfl
                    refine pu_ (i := 10) (N := some 73) (v := ?_) (a' := ?_) near_kept.D34 (any_of HT_.out (by kernel_rfl)) ?_ ?_ ?_; rotate_left 2
                    ·intro w'; go_simp; with_reducible rfl
                    ·simp only [Act.put, s_t, s_z, s_s, i64_w, i32_w]; rfl
                    refine pu_ (i := 11) (N := some 74) (v := ?_) (a' := ?_) near_kept.D36 (any_of HT_.out (by kernel_rfl)) ?_ ?_ ?_; rotate_left 2
                    ·intro w'; go_simp; with_reducible rfl
                    ·simp only [Act.put, s_t, s_z, s_s, i64_w, i32_w]; rfl
                    refine pu_ (i := 12) (N := some 75) (v := ?_) (a' := ?_) near_kept.D38 (any_of HT_.out (by kernel_rfl)) ?_ ?_ ?_; rotate_left 2
                    ·intro w'; go_simp; with_reducible rfl
                    ·simp only [Act.put, s_t, s_z, s_s, i64_w, i32_w]; rfl
                    refine pu_ (i := 13) (N := some 76) (v := ?_) (a' := ?_) near_kept.D40 (any_of HT_.out (by kernel_rfl)) ?_ ?_ ?_; rotate_left 2
                    ·intro w'; go_simp; with_reducible rfl
                    ·simp only [Act.put, s_t, s_z, s_s, i64_w, i32_w]; rfl
                    refine pu_ (i := 15) (N := some 78) (v := ?_) (a' := ?_) near_kept.D49 (any_of HT_.out (by kernel_rfl)) ?_ ?_ ?_; rotate_left 2
                    ·intro w'; go_simp; with_reducible rfl
                    ·simp only [Act.put, s_t, s_z, s_s, i64_w, i32_w]; rfl
                    refine pu_ (i := 16) (N := some 79) (v := ?_) (a' := ?_) near_kept.D50 (any_of HT_.out (by kernel_rfl)) ?_ ?_ ?_; rotate_left 2
                    ·intro w'; go_simp; with_reducible rfl
                    ·simp only [Act.put, s_t, s_z, s_s, i64_w, i32_w]; rfl
                    refine pu_ (i := 17) (N := some 80) (v := ?_) (a' := ?_) near_kept.D51 (any_of HT_.out (by kernel_rfl)) ?_ ?_ ?_; rotate_left 2
                    ·intro w'; go_simp; with_reducible rfl
                    ·simp only [Act.put, s_t, s_z, s_s, i64_w, i32_w]; rfl
                    refine pu_ (i := 18) (N := some 81) (v := ?_) (a' := ?_) near_kept.D52 (any_of HT_.out (by kernel_rfl)) ?_ ?_ ?_; rotate_left 2
                    ·intro w'; go_simp; with_reducible rfl
                    ·simp only [Act.put, s_t, s_z, s_s, i64_w, i32_w]; rfl
                    refine pu_ (i := 19) (N := some 82) (v := ?_) (a' := ?_) near_kept.D53 (any_of HT_.out (by kernel_rfl)) ?_ ?_ ?_; rotate_left 2
                    ·intro w'; go_simp; with_reducible rfl
                    ·simp only [Act.put, s_t, s_z, s_s, i64_w, i32_w]; rfl
                    refine pu_ (i := 20) (N := some 83) (v := ?_) (a' := ?_) near_kept.D54 (any_of HT_.out (by kernel_rfl)) ?_ ?_ ?_; rotate_left 2
                    ·intro w'; go_simp; with_reducible rfl
                    ·simp only [Act.put, s_t, s_z, s_s, i64_w, i32_w]; rfl
                    refine pu_ (i := 21) (N := some 84) (v := ?_) (a' := ?_) near_kept.D55 (any_of HT_.out (by kernel_rfl)) ?_ ?_ ?_; rotate_left 2
                    ·intro w'; go_simp; with_reducible rfl
                    ·simp only [Act.put, s_t, s_z, s_s, i64_w, i32_w]; rfl
                    refine pu_ (i := 22) (N := some 85) (v := ?_) (a' := ?_) near_kept.D56 (any_of HT_.out (by kernel_rfl)) ?_ ?_ ?_; rotate_left 2
                    ·intro w'; go_simp; with_reducible rfl
                    ·simp only [Act.put, s_t, s_z, s_s, i64_w, i32_w]; rfl
                    refine take_ (i := 14) (N := some 77) (v := ?_) (a' := ?_) near_kept.D66 rfl rfl (take_ofW HT_.out HW_.out (by kernel_rfl)) (fun _ _ _ h => h) (Or.inl ⟨by rfl, ?_⟩) hHeld ?_ ?_
                    rotate_left
                    ·rintro w' ⟨s0, s1⟩
                     go_simp
                     with_reducible rfl
                    rotate_left
                    ·simp only [Act.put, List.setIfInBounds_toArray, List.set_cons_zero, List.set_cons_succ, i64_w, i32_w]
                     rfl
                    refine take_ (i := 23) (N := some 86) (v := ?_) (a' := ?_) near_kept.D68 rfl rfl (take_ofW HT_.out HW_.out (by kernel_rfl)) (fun _ _ _ h => h) (Or.inl ⟨by rfl, ?_⟩) hHeld ?_ ?_
                    rotate_left
                    ·rintro w' ⟨s0, s1⟩
                     go_simp
                     with_reducible rfl
                    rotate_left
                    ·simp only [Act.put, List.setIfInBounds_toArray, List.set_cons_zero, List.set_cons_succ, i64_w, i32_w]
                     rfl
                    refine pu_ (i := 24) (N := some 87) (v := ?_) (a' := ?_) near_kept.D70 (any_of HT_.out (by kernel_rfl)) ?_ ?_ ?_; rotate_left 2
                    ·intro w'; go_simp; with_reducible rfl
                    ·simp only [Act.put, s_t, s_z, s_s, i64_w, i32_w]; rfl
                    refine pu_ (i := 25) (N := some 88) (v := ?_) (a' := ?_) near_kept.D72 (any_of HT_.out (by kernel_rfl)) ?_ ?_ ?_; rotate_left 2
                    ·intro w'; go_simp; with_reducible rfl
                    ·simp only [Act.put, s_t, s_z, s_s, i64_w, i32_w]; rfl
                    refine last_ (i := 26) (N := none) near_kept.D73 rfl rfl (one_of HT_.out (by kernel_rfl)) (by decide) (fun K hK => ?_)
                    refine skip_ (w1 := ?_) (by rfl) rfl ?_ ?_
                    rotate_left
                    ·go_simp
                     rfl
                    refine hK.out _ _ ?_
                    clear hK K
                    refine done_ (done_of HT_.out (by kernel_rfl)) ?_
                    try go_wp2
                    go_roundg k2
                    case measure => have := HK1.out; have := HK2.out; omega
                    case rel => exact ⟨(y164), (wrap64 (x8_2 - 1)), (by first | rfl | (simp; done) | (simp [*]; done)), H', ⟨by have := HK1.out; have := HK2.out; omega⟩, ⟨by (with_reducible repeat (first | apply Kd.R_alloc | apply Kd.R_drewN | apply Kd.R_drew)); exact HQ40.out⟩, ⟨by repeat (first | (with_reducible first | exact HB.out | apply below_alloc | apply pw_below_drewN | apply below_drew1 | refine below_set ?_ GB36.out) | exact HB.out)⟩⟩
                   ·rw [if_neg c35] at H
                    exact absurd H (by simp)
                  ·rw [if_neg c34] at H
                   exact absurd H (by simp)
                 ·rw [if_neg c31] at H
                  exact absurd H (by simp)
                ·rw [if_neg c30] at H
                 exact absurd H (by simp)
               ·rw [if_neg c28] at H
                exact absurd H (by simp)
              ·rw [if_neg c27] at H
               exact absurd H (by simp)
            ·rw [if_neg c13] at H
             exact absurd H (by simp)
           ·rw [if_neg c12] at H
            exact absurd H (by simp)
          ·rw [if_neg c11] at H
           exact absurd H (by simp)
         ·rw [if_neg c10] at H
          exact absurd H (by simp)
        ·rw [if_neg c9] at H
         have c9b0 : decide (0 ≤ x8_2) = false := decide_eq_false c9
         clear c9
         have H' := Aside0.mk H
         clear H
         go_wp2
         go_roundg k2
         case measure => have := HK1.out; have := HK2.out; omega
         case rel => exact ⟨(x6_2), (wrap64 (x7_1 - 1)), (by first | rfl | (simp; done) | (simp [*]; done)), H', ⟨by have := HK1.out; have := HK2.out; omega⟩, ⟨by (with_reducible repeat (first | apply Kd.R_alloc | apply Kd.R_drewN | apply Kd.R_drew)); exact HO_6.out⟩, ⟨by repeat (first | (with_reducible first | exact HB.out | apply below_alloc | apply pw_below_drewN | apply below_drew1) | exact HB.out)⟩⟩
     ·rw [if_neg c8] at H
      have c8b0 : decide (0 ≤ x7_1) = false := decide_eq_false c8
      clear c8
      have H' := Aside0.mk H
      clear H
      go_wp2
      go_loopg [9, 10, 11] k1 (fun kq v9 v10 v11 w' => ∃ (x9_2 : List (S166)) (x10_2 : Int) (x11_2 : Int), v10 = .int .i64 x10_2 ∧ v11 = .int .i64 x11_2 ∧ Aside0 (near_kept.l2 kq l0 l1 (wrap64 ((l1.length : Int) + 1)) x6_1 x9_2 x10_2 x11_2 = some r) ∧ Aside0 (kq ≤ k1) ∧ Aside0 (Kd.R (Kd.int .i64) 3 w' w.heap.size (fun _ => True) v156 x6_1) ∧ Aside0 (Kd.R k166 166 w' w.heap.size (fun _ => True) v9 x9_2) ∧ Aside0 (Below w.heap.size w w'))
      case atStart => exact ⟨(([] : List (S166))), (0), (0), (by first | rfl | (simp; done) | (simp [*]; done)), (by first | rfl | (simp; done) | (simp [*]; done)), H', ⟨Nat.le_refl _⟩, ⟨by (with_reducible repeat (first | apply Kd.R_alloc | apply Kd.R_drewN | apply Kd.R_drew)); exact HO_6.out⟩, ⟨by first | exact Kd.R_nil _ _ _ _ _ | exact Kd.N_nil _ _ _ _ _ | exact Kd.V_nil _ _ _ _ _ | exact Kd.Q_nil _ _ _ _ _ | exact Kd.S_nil _ _ _ _ _⟩, ⟨by repeat (first | (with_reducible first | exact HB.out | apply below_alloc | apply pw_below_drewN | apply below_drew1) | exact HB.out)⟩⟩
      case round =>
       clear H'
       try clear c1
       try clear p1
       try clear q1
       try clear hx1
       try clear c2
       try clear p2
       try clear q2
       try clear hx2
       try clear hf2
       try clear c3
       try clear p3
       try clear q3
       try clear hx3
       try clear hf3
       try clear p6
       try clear c8
       try clear c8b0
       try clear c9
       try clear c9b0
       try clear c10
       try clear c11
       try clear c12
       try clear c13
       try clear c14
       try clear c14b0
       try clear c14b1
       try clear p15
       try clear q15
       try clear hx15
       try clear c16
       try clear c16b0
       try clear p16
       try clear q16
       try clear hx16
       try clear c17
       try clear c17b0
       try clear c19
       try clear c19b0
       try clear c20
       try clear c20b0
       try clear p21
       try clear q21
       try clear hx21
       try clear hf21
       try clear c27
       try clear c27b0
       try clear c28
       try clear c28b0
       try clear c30
       try clear c30b0
       try clear c31
       try clear c31b0
       try clear c34
       try clear c34b0
       try clear c35
       try clear c35b0
       try clear p36
       try clear q36
       try clear hx36
       try clear hf36
       try clear hx158_0
       try clear hx159_0
       try clear hx160_0
       try clear hx162_0
       try clear hx163_0
       try clear hx21_0
       try clear hx36_0
       try clear p158
       try clear p159
       try clear p160
       try clear p162
       try clear p163
       try clear p21
       try clear p36
       try clear q158
       try clear q159
       try clear q160
       try clear q162
       try clear q163
       try clear q21
       try clear q36
       obtain ⟨x9_2, x10_2, x11_2, rfl, rfl, HA, HK2, HO_6, HO_9, HB⟩ := hrel
       cases gk with
       | zero => exact absurd HA.out (by simp [near_kept.l2])
       | succ k2 =>
        have H := HA.out
        clear HA
        simp only [near_kept.l2] at H
        have HC41 := Aside0.mk H
        clear H
        go_upto_region 14 with (fail)
        go_cut [103] (fun v103 wc => ∃ (kq : Nat) (x103_40 : Bool), v103 = .bool x103_40 ∧ Aside0 (near_kept.j3 kq l0 l1 (wrap64 ((l1.length : Int) + 1)) x6_1 x9_2 x10_2 x11_2 x103_40 = some r) ∧ Aside0 (kq ≤ k2) ∧ Aside0 (Kd.R (Kd.int .i64) 3 wc w.heap.size (fun _ => True) v156 x6_1) ∧ Aside0 (Kd.R k166 166 wc w.heap.size (fun _ => True) u9 x9_2) ∧ Aside0 (Below w.heap.size w wc))
        case first =>
         have H := HC41.out
         clear HC41
         by_cases c42 : x10_2 < (l0.length : Int)
         ·rw [if_pos c42] at H
          have c42b0 : decide (x10_2 < (l0.length : Int)) = true := decide_eq_true c42
          clear c42
          (first | rw [c42b0] | (simp only [i64_w, i32_w]; rw [c42b0]) | skip)
          obtain ⟨ji43, hji43⟩ : ∃ j_ : Int, (wrap64 ((wrap64 (x10_2 * (wrap64 ((l1.length : Int) + 1)))) + x11_2)) = j_ := ⟨_, rfl⟩
          replace H : (if 0 ≤ (ji43) then (if (ji43) < (x6_1.length : Int) then (near_kept.j3 k2 l0 l1 (wrap64 ((l1.length : Int) + 1)) x6_1 x9_2 x10_2 x11_2 (decide ((rd x6_1 (ji43)) > 0))) else (none)) else (none)) = some r := by first | (rw [hji43] at H; exact H) | (simp only [hji43] at H ⊢; exact H)
          have hji43w : (IntKind.i64.wrap ((wrap64 (x10_2 * (wrap64 ((l1.length : Int) + 1)))) + x11_2)) = ji43 := (i64_w _).trans hji43
          by_cases c44 : 0 ≤ (ji43)
          ·rw [if_pos c44] at H
           have c44b0 : decide (0 ≤ (ji43)) = true := decide_eq_true c44
           clear c44
           by_cases c45 : (ji43) < (x6_1.length : Int)
           ·rw [if_pos c45] at H
            have c45b0 : decide ((ji43) < (x6_1.length : Int)) = true := decide_eq_true c45
            clear c45
            have H' := Aside0.mk H
            clear H
            obtain ⟨Ao46, co46, eo46⟩ := Kd.R_slice HO_6.out
            subst eo46
            have p165 : 0 ≤ ((ji43) : Int) := of_decide_eq_true (by first | (with_reducible assumption) | assumption)
            have q165 : (ji43) < (x6_1.length : Int) := of_decide_eq_true (by first | (with_reducible assumption) | assumption)
            obtain ⟨ad165, e165, hx165_0⟩ := Kd.at_int (Kd.R_reads' HO_6.out).2.2 (ji43) p165 q165
            cases e165
            replace p165 := eq_true p165
            replace q165 := eq_true q165
            go_wp2
            go_meet
            case rel => exact ⟨_, (decide ((rd x6_1 (ji43)) > 0)), (by first | rfl | (simp; done) | (simp only [← hji43] <;> (first | rfl | simp)) | (simp [*]; done)), H', ⟨by have := HK1.out; have := HK2.out; first | omega | exact Nat.le_refl _⟩, ⟨by (with_reducible repeat (first | apply Kd.R_alloc | apply Kd.R_drewN | apply Kd.R_drew)); exact HO_6.out⟩, ⟨by (with_reducible repeat (first | apply Kd.R_alloc | apply Kd.R_drewN | apply Kd.R_drew)); exact HO_9.out⟩, ⟨by repeat (first | (with_reducible first | exact HB.out | apply below_alloc | apply pw_below_drewN | apply below_drew1) | exact HB.out)⟩⟩
           ·rw [if_neg c45] at H
            exact absurd H (by simp)
          ·rw [if_neg c44] at H
           exact absurd H (by simp)
         ·rw [if_neg c42] at H
          have c42b0 : decide (x10_2 < (l0.length : Int)) = false := decide_eq_false c42
          clear c42
          (first | rw [c42b0] | (simp only [i64_w, i32_w]; rw [c42b0]) | skip)
          have H' := Aside0.mk H
          clear H
          go_wp2
          go_meet
          case rel => exact ⟨_, (false), (by first | rfl | (simp; done) | (simp [*]; done)), H', ⟨by have := HK1.out; have := HK2.out; first | omega | exact Nat.le_refl _⟩, ⟨by (with_reducible repeat (first | apply Kd.R_alloc | apply Kd.R_drewN | apply Kd.R_drew)); exact HO_6.out⟩, ⟨by (with_reducible repeat (first | apply Kd.R_alloc | apply Kd.R_drewN | apply Kd.R_drew)); exact HO_9.out⟩, ⟨by repeat (first | (with_reducible first | exact HB.out | apply below_alloc | apply pw_below_drewN | apply below_drew1) | exact HB.out)⟩⟩
        case rest =>
         clear HC41
         try clear c1
         try clear p1
         try clear q1
         try clear hx1
         try clear c2
         try clear p2
         try clear q2
         try clear hx2
         try clear hf2
         try clear c3
         try clear p3
         try clear q3
         try clear hx3
         try clear hf3
         try clear c4
         try clear p6
         try clear c8
         try clear c8b0
         try clear c9
         try clear c9b0
         try clear c10
         try clear c11
         try clear c12
         try clear c13
         try clear c14
         try clear c14b0
         try clear c14b1
         try clear p15
         try clear q15
         try clear hx15
         try clear c16
         try clear c16b0
         try clear p16
         try clear q16
         try clear hx16
         try clear c17
         try clear c17b0
         try clear c19
         try clear c19b0
         try clear c20
         try clear c20b0
         try clear p21
         try clear q21
         try clear hx21
         try clear hf21
         try clear c27
         try clear c27b0
         try clear c28
         try clear c28b0
         try clear c30
         try clear c30b0
         try clear c31
         try clear c31b0
         try clear c34
         try clear c34b0
         try clear c35
         try clear c35b0
         try clear p36
         try clear q36
         try clear hx36
         try clear hf36
         try clear c42
         try clear c42b0
         try clear c44
         try clear c44b0
         try clear c45
         try clear c45b0
         try clear hx158_0
         try clear hx159_0
         try clear hx160_0
         try clear hx162_0
         try clear hx163_0
         try clear hx165_0
         try clear hx21_0
         try clear hx36_0
         try clear p1
         try clear p15
         try clear p158
         try clear p159
         try clear p16
         try clear p160
         try clear p162
         try clear p163
         try clear p165
         try clear p2
         try clear p21
         try clear p3
         try clear p36
         try clear p6
         try clear q1
         try clear q15
         try clear q158
         try clear q159
         try clear q16
         try clear q160
         try clear q162
         try clear q163
         try clear q165
         try clear q2
         try clear q21
         try clear q3
         try clear q36
         obtain ⟨kq, x103_40, rfl, HA, HJ40, HO_6, HO_9, HB⟩ := hcut
         cases kq with
         | zero => exact absurd HA.out (by simp [near_kept.j3])
         | succ kj40 =>
          have H := HA.out
          clear HA
          simp only [near_kept.j3] at H
          by_cases c47 : x103_40 = true
          ·subst c47
           have H1 : (if 0 ≤ x11_2 then (if x11_2 ≤ (l1.length : Int) then (if 0 ≤ x10_2 then (if x10_2 < (l0.length : Int) then ((slices_Index_string_string.f kj40 (l1.drop (x11_2 : Int).toNat) (rdOf ByteArray.empty l0 x10_2)).bind fun t168 => (if t168 ≥ 0 then (if 0 ≤ (wrap64 ((wrap64 ((wrap64 ((wrap64 ((wrap64 (x10_2 + 1)) * (wrap64 ((l1.length : Int) + 1)))) + x11_2)) + t168)) + 1)) then (if (wrap64 ((wrap64 ((wrap64 ((wrap64 ((wrap64 (x10_2 + 1)) * (wrap64 ((l1.length : Int) + 1)))) + x11_2)) + t168)) + 1)) < (x6_1.length : Int) then (if 0 ≤ (wrap64 ((wrap64 (x10_2 * (wrap64 ((l1.length : Int) + 1)))) + x11_2)) then (if (wrap64 ((wrap64 (x10_2 * (wrap64 ((l1.length : Int) + 1)))) + x11_2)) < (x6_1.length : Int) then (if (wrap64 ((rd x6_1 (wrap64 ((wrap64 ((wrap64 ((wrap64 ((wrap64 (x10_2 + 1)) * (wrap64 ((l1.length : Int) + 1)))) + x11_2)) + t168)) + 1))) + 1)) = (rd x6_1 (wrap64 ((wrap64 (x10_2 * (wrap64 ((l1.length : Int) + 1)))) + x11_2))) then (if x9_2.length < 8796093022208 then (near_kept.l2 kj40 l0 l1 (wrap64 ((l1.length : Int) + 1)) x6_1 (x9_2 ++ [(⟨x10_2, wrap64 (x11_2 + t168)⟩ : S166)]) (wrap64 (x10_2 + 1)) (wrap64 (x11_2 + (wrap64 (t168 + 1))))) else (none)) else (near_kept.l2 kj40 l0 l1 (wrap64 ((l1.length : Int) + 1)) x6_1 x9_2 (wrap64 (x10_2 + 1)) x11_2)) else (none)) else (none)) else (none)) else (none)) else (near_kept.l2 kj40 l0 l1 (wrap64 ((l1.length : Int) + 1)) x6_1 x9_2 (wrap64 (x10_2 + 1)) x11_2))) else (none)) else (none)) else (none)) else (none)) = some r := by rw [if_pos rfl] at H; exact H
           clear H
           have H := H1
           clear H1
           by_cases c48 : 0 ≤ x11_2
           ·rw [if_pos c48] at H
            have c48b0 := eq_true c48
            have c48b1 : decide (0 ≤ x11_2) = true := decide_eq_true c48
            clear c48
            by_cases c49 : x11_2 ≤ (l1.length : Int)
            ·rw [if_pos c49] at H
             have c49b0 := eq_true c49
             have c49b1 : decide (x11_2 ≤ (l1.length : Int)) = true := decide_eq_true c49
             clear c49
             by_cases c50 : 0 ≤ x10_2
             ·rw [if_pos c50] at H
              have c50b0 : decide (0 ≤ x10_2) = true := decide_eq_true c50
              clear c50
              by_cases c51 : x10_2 < (l0.length : Int)
              ·rw [if_pos c51] at H
               have c51b0 : decide (x10_2 < (l0.length : Int)) = true := decide_eq_true c51
               clear c51
               replace H := Option.bind_eq_some_iff.mp H
               obtain ⟨t168, A520, H⟩ := H
               replace H : (if t168 ≥ 0 then (if 0 ≤ (wrap64 ((wrap64 ((wrap64 ((wrap64 ((wrap64 (x10_2 + 1)) * (wrap64 ((l1.length : Int) + 1)))) + x11_2)) + t168)) + 1)) then (if (wrap64 ((wrap64 ((wrap64 ((wrap64 ((wrap64 (x10_2 + 1)) * (wrap64 ((l1.length : Int) + 1)))) + x11_2)) + t168)) + 1)) < (x6_1.length : Int) then (if 0 ≤ (wrap64 ((wrap64 (x10_2 * (wrap64 ((l1.length : Int) + 1)))) + x11_2)) then (if (wrap64 ((wrap64 (x10_2 * (wrap64 ((l1.length : Int) + 1)))) + x11_2)) < (x6_1.length : Int) then (if (wrap64 ((rd x6_1 (wrap64 ((wrap64 ((wrap64 ((wrap64 ((wrap64 (x10_2 + 1)) * (wrap64 ((l1.length : Int) + 1)))) + x11_2)) + t168)) + 1))) + 1)) = (rd x6_1 (wrap64 ((wrap64 (x10_2 * (wrap64 ((l1.length : Int) + 1)))) + x11_2))) then (if x9_2.length < 8796093022208 then (near_kept.l2 kj40 l0 l1 (wrap64 ((l1.length : Int) + 1)) x6_1 (x9_2 ++ [(⟨x10_2, wrap64 (x11_2 + t168)⟩ : S166)]) (wrap64 (x10_2 + 1)) (wrap64 (x11_2 + (wrap64 (t168 + 1))))) else (none)) else (near_kept.l2 kj40 l0 l1 (wrap64 ((l1.length : Int) + 1)) x6_1 x9_2 (wrap64 (x10_2 + 1)) x11_2)) else (none)) else (none)) else (none)) else (none)) else (near_kept.l2 kj40 l0 l1 (wrap64 ((l1.length : Int) + 1)) x6_1 x9_2 (wrap64 (x10_2 + 1)) x11_2)) = some r := H
               have A52 := Aside0.mk A520
               clear A520
               by_cases c53 : t168 ≥ 0
               ·rw [if_pos c53] at H
                have c53b0 : decide (0 ≤ t168) = true := decide_eq_true c53
                clear c53
                obtain ⟨ji54, hji54⟩ : ∃ j_ : Int, (wrap64 ((wrap64 ((wrap64 ((wrap64 ((wrap64 (x10_2 + 1)) * (wrap64 ((l1.length : Int) + 1)))) + x11_2)) + t168)) + 1)) = j_ := ⟨_, rfl⟩
                replace H : (if 0 ≤ (ji54) then (if (ji54) < (x6_1.length : Int) then (if 0 ≤ (wrap64 ((wrap64 (x10_2 * (wrap64 ((l1.length : Int) + 1)))) + x11_2)) then (if (wrap64 ((wrap64 (x10_2 * (wrap64 ((l1.length : Int) + 1)))) + x11_2)) < (x6_1.length : Int) then (if (wrap64 ((rd x6_1 (ji54)) + 1)) = (rd x6_1 (wrap64 ((wrap64 (x10_2 * (wrap64 ((l1.length : Int) + 1)))) + x11_2))) then (if x9_2.length < 8796093022208 then (near_kept.l2 kj40 l0 l1 (wrap64 ((l1.length : Int) + 1)) x6_1 (x9_2 ++ [(⟨x10_2, wrap64 (x11_2 + t168)⟩ : S166)]) (wrap64 (x10_2 + 1)) (wrap64 (x11_2 + (wrap64 (t168 + 1))))) else (none)) else (near_kept.l2 kj40 l0 l1 (wrap64 ((l1.length : Int) + 1)) x6_1 x9_2 (wrap64 (x10_2 + 1)) x11_2)) else (none)) else (none)) else (none)) else (none)) = some r := by first | (rw [hji54] at H; exact H) | (simp only [hji54] at H ⊢; exact H)
                (try rw [hji54] at A52)
                have hji54w : (IntKind.i64.wrap ((wrap64 ((wrap64 ((wrap64 ((wrap64 (x10_2 + 1)) * (wrap64 ((l1.length : Int) + 1)))) + x11_2)) + t168)) + 1)) = ji54 := (i64_w _).trans hji54
                by_cases c55 : 0 ≤ (ji54)
                ·rw [if_pos c55] at H
                 have c55b0 : decide (0 ≤ (ji54)) = true := decide_eq_true c55
                 clear c55
                 by_cases c56 : (ji54) < (x6_1.length : Int)
                 ·rw [if_pos c56] at H
                  have c56b0 : decide ((ji54) < (x6_1.length : Int)) = true := decide_eq_true c56
                  clear c56
                  obtain ⟨ji57, hji57⟩ : ∃ j_ : Int, (wrap64 ((wrap64 (x10_2 * (wrap64 ((l1.length : Int) + 1)))) + x11_2)) = j_ := ⟨_, rfl⟩
                  replace H : (if 0 ≤ (ji57) then (if (ji57) < (x6_1.length : Int) then (if (wrap64 ((rd x6_1 (ji54)) + 1)) = (rd x6_1 (ji57)) then (if x9_2.length < 8796093022208 then (near_kept.l2 kj40 l0 l1 (wrap64 ((l1.length : Int) + 1)) x6_1 (x9_2 ++ [(⟨x10_2, wrap64 (x11_2 + t168)⟩ : S166)]) (wrap64 (x10_2 + 1)) (wrap64 (x11_2 + (wrap64 (t168 + 1))))) else (none)) else (near_kept.l2 kj40 l0 l1 (wrap64 ((l1.length : Int) + 1)) x6_1 x9_2 (wrap64 (x10_2 + 1)) x11_2)) else (none)) else (none)) = some r := by first | (rw [hji57] at H; exact H) | (simp only [hji57] at H ⊢; exact H)
                  (try rw [hji57] at A52)
                  have hji57w : (IntKind.i64.wrap ((wrap64 (x10_2 * (wrap64 ((l1.length : Int) + 1)))) + x11_2)) = ji57 := (i64_w _).trans hji57
                  (try simp only [hji57] at hji43)
                  (try simp only [hji57] at hji43w)
                  by_cases c58 : 0 ≤ (ji57)
                  ·rw [if_pos c58] at H
                   have c58b0 : decide (0 ≤ (ji57)) = true := decide_eq_true c58
                   clear c58
                   by_cases c59 : (ji57) < (x6_1.length : Int)
                   ·rw [if_pos c59] at H
                    have c59b0 : decide ((ji57) < (x6_1.length : Int)) = true := decide_eq_true c59
                    clear c59
                    by_cases c60 : (wrap64 ((rd x6_1 (ji54)) + 1)) = (rd x6_1 (ji57))
                    ·rw [if_pos c60] at H
                     have c60b0 : ((wrap64 ((rd x6_1 (ji54)) + 1)) == (rd x6_1 (ji57))) = true := beq_iff_eq.mpr c60
                     have c60b1 : ((wrap64 ((rd x6_1 (ji54)) + 1)) != (rd x6_1 (ji57))) = false := bne_eq_false_iff_eq.mpr c60
                     clear c60
                     by_cases c61 : x9_2.length < 8796093022208
                     ·rw [if_pos c61] at H
                      have LMc61 := Aside0.mk c61
                      clear c61
                      obtain ⟨y171, hy171⟩ : ∃ y_ : List (S166), y_ = (x9_2 ++ [(⟨x10_2, wrap64 (x11_2 + t168)⟩ : S166)]) := ⟨_, rfl⟩
                      replace H : (near_kept.l2 kj40 l0 l1 (wrap64 ((l1.length : Int) + 1)) x6_1 y171 (wrap64 (x10_2 + 1)) (wrap64 (x11_2 + (wrap64 (t168 + 1))))) = some r := by first | (rw [hy171]; with_reducible exact H) | (have H2_ := (Option.bind_some _ _).symm.trans H; rw [hy171]; with_reducible exact H2_) | (have H2_ := (Option.bind_some _ _).symm.trans H; with_reducible exact H2_) | with_reducible exact H | (rw [hy171]; exact H) | exact H
                      have Ny171 := Aside0.mk hy171
                      clear hy171
                      have H' := Aside0.mk H
                      clear H
                      try go_wp2
                      have n0_ := Aside0.mk (Kd.R_drew HO_6.out)
                      have n1_ := Aside0.mk (Kd.R_drew HO_9.out)
                      have n2_ := Aside0.mk (below_drew1 HB.out)
                      clear HO_6
                      clear HO_9
                      clear HB
                      have HO_6 := n0_
                      have HO_9 := n1_
                      have HB := n2_
                      clear n0_ n1_ n2_
                      obtain ⟨i063, hi063, _, hsz63, _⟩ := info_parts info9
                      obtain ⟨A63, hcut63, hA63, hC63⟩ := print_drop_of (P := Tryd.prog) Value.string (⟨#[]⟩ : ByteArray) 26 9 .i64 Tryd.underlying26 hi063 hsz63 A1 c1 l1 x11_2 (of_decide_eq_true (by first | (with_reducible assumption) | assumption)) (of_decide_eq_true (by first | (with_reducible assumption) | assumption)) HC1.out
                      have HR166 := Aside0.mk (Kd.C_of_reads (h1 := fun _ => rfl) (hA63 _ (Kd.reads_of_C HR1.out)))
                      have HC166 := Aside0.mk hC63
                      clear hA63 hC63 hi063 hsz63
                      have p167 : 0 ≤ (x10_2 : Int) := of_decide_eq_true (by first | (with_reducible assumption) | assumption)
                      have q167 : x10_2 < (l0.length : Int) := of_decide_eq_true (by first | (with_reducible assumption) | assumption)
                      obtain ⟨ad167, e167, hx167_0⟩ := Kd.at_string HR0.out x10_2 p167 q167
                      have hw167_0 := hx167_0
                      cases e167
                      first | replace hx167_0 := (HB.out.cell (World.block_lt_of_cell? w _ hx167_0)).trans hx167_0 | skip
                      replace p167 := eq_true p167
                      replace q167 := eq_true q167
                      refine start_ (n := 9) (S := fun w' => w'.cell? (ad167.add (x10_2).toNat) = some (.string (rdOf ByteArray.empty l0 x10_2))) (ds := []) near_kept.D2 (by kernel_rfl) rfl rfl (((HB.out.cell (World.block_lt_of_cell? w _ hw167_0)).trans hw167_0)) (fun hHeld => ?_); refine with_tabW near_kept.tab16 near_kept.bits16 (fun HT_ HW_ => ?_)
                      generalize wc.drew = w62 at HO_6 HO_9 HB HR166 hx167_0 hHeld ⊢
                      refine pu_ (i := 0) (N := some 106) (v := ?_) (a' := ?_) near_kept.D5 (any_of HT_.out (by kernel_rfl)) ?_ ?_ ?_; rotate_left 2
                      ·intro w'; go_simp; with_reducible rfl
                      ·simp only [Act.put, s_t, s_z, s_s, i64_w, i32_w]; rfl
                      refine pu_ (i := 1) (N := some 107) (v := ?_) (a' := ?_) near_kept.D8 (any_of HT_.out (by kernel_rfl)) ?_ ?_ ?_; rotate_left 2
                      ·intro w'; go_simp; with_reducible rfl
                      ·simp only [Act.put, s_t, s_z, s_s, i64_w, i32_w]; rfl
                      refine pu_ (i := 2) (N := some 108) (v := ?_) (a' := ?_) near_kept.D11 (any_of HT_.out (by kernel_rfl)) ?_ ?_ ?_; rotate_left 2
                      ·intro w'; go_simp; with_reducible rfl
                      ·simp only [Act.put, s_t, s_z, s_s, i64_w, i32_w]; rfl
                      refine pu_ (i := 3) (N := some 109) (v := ?_) (a' := ?_) near_kept.D17 (any_of HT_.out (by kernel_rfl)) ?_ ?_ ?_; rotate_left 2
                      ·intro w'; go_simp; with_reducible rfl
                      ·simp only [Act.put, s_t, s_z, s_s, i64_w, i32_w]; rfl
                      refine pu_ (i := 4) (N := some 110) (v := ?_) (a' := ?_) near_kept.D20 (any_of HT_.out (by kernel_rfl)) ?_ ?_ ?_; rotate_left 2
                      ·intro w'; go_simp; with_reducible rfl
                      ·simp only [Act.put, s_t, s_z, s_s, i64_w, i32_w]; rfl
                      refine pu_ (i := 5) (N := some 111) (v := ?_) (a' := ?_) near_kept.D23 (any_of HT_.out (by kernel_rfl)) ?_ ?_ ?_; rotate_left 2
                      ·intro w'; go_simp; with_reducible rfl
                      ·simp only [Act.put, s_t, s_z, s_s, i64_w, i32_w]; rfl
                      refine take_ (i := 6) (N := some 112) (v := ?_) (a' := ?_) near_kept.D26 rfl rfl (take_ofW HT_.out HW_.out (by kernel_rfl)) (fun _ _ _ h => h) (Or.inl ⟨by rfl, ?_⟩) hHeld ?_ ?_
                      rotate_left
                      ·intro w' s0
                       go_simp
                       with_reducible rfl
                      rotate_left
                      ·simp only [Act.put, List.setIfInBounds_toArray, List.set_cons_zero, List.set_cons_succ, i64_w, i32_w]
                       rfl
                      refine one_ (i := 7) (N := some 113) near_kept.D29 rfl rfl (one_of HT_.out (by kernel_rfl)) (by decide) (fun K hK => ?_)
                      refine goes_ Tryd.func93 (by kernel_rfl) rfl #[.slice A63 (l1.drop (x11_2 : Int).toNat).length (c1 - x11_2.toNat), .string (rdOf ByteArray.empty l0 x10_2)] (by rfl) rfl rfl (by (try simp only [List.map_toArray, List.map_cons, List.map_nil]); first | done | (rw [show (l1.drop (x11_2 : Int).toNat).length = (l1.length - x11_2.toNat) from List.length_drop] <;> rfl) | rfl | (simp only [List.length_drop, List.length_take]; rfl)) ?_
                      with_reducible refine (slices_Index_string_string.calls kj40 _ _ (l1.drop (x11_2 : Int).toNat) (rdOf ByteArray.empty l0 x10_2) t168 _ ?side1 ?side2 A52.out).mono ?_
                      (case side1 => repeat (first | exact (Kd.C_below HR166.out HB.out) | (with_reducible refine Kd.C_alloc ?_ _) | (with_reducible refine Kd.C_drewN ?_ _) | (with_reducible refine Kd.C_drew ?_)))
                      (case side2 => exact HC166.out)
                      rintro e w' ⟨rfl, ⟨nd, rfl⟩⟩
                      refine ⟨_, rfl, ?_⟩
                      refine hK.out _ _ (((HB.out.cell (World.block_lt_of_cell? w _ hw167_0)).trans hw167_0)) (fun hHeld => ?_)
                      clear hK K
                      refine norm_ (a' := ?_) ?_ ?_
                      rotate_left
                      ·show Act.put _ (some 113) _ = _
                       simp only [Act.put, List.setIfInBounds_toArray, List.set_cons_zero, List.set_cons_succ, i64_w, i32_w]
                       rfl
                      refine pu_ (i := 8) (N := some 12) (v := ?_) (a' := ?_) near_kept.D75 (any_of HT_.out (by kernel_rfl)) ?_ ?_ ?_; rotate_left 2
                      ·intro w'; go_simp; with_reducible rfl
                      ·simp only [Act.put, s_t, s_z, s_s, i64_w, i32_w]; rfl
                      refine done_ (done_of HT_.out (by kernel_rfl)) ?_
                      try go_wp2
                      (try (rw [drewN_self w62]; generalize hq_ : World.drewN w62 _ = w62; have n0_ : Aside0 (Kd.R (Kd.int .i64) 3 w62 w.heap.size (fun _ => True) v156 x6_1) := ⟨by rw [← hq_]; exact (by (with_reducible repeat (first | apply Kd.R_alloc | apply Kd.R_drewN | apply Kd.R_drew)); exact HO_6.out)⟩; have n1_ : Aside0 (Kd.R k166 166 w62 w.heap.size (fun _ => True) u9 x9_2) := ⟨by rw [← hq_]; exact (by (with_reducible repeat (first | apply Kd.R_alloc | apply Kd.R_drewN | apply Kd.R_drew)); exact HO_9.out)⟩; have n2_ : Aside0 (Below w.heap.size w w62) := ⟨by rw [← hq_]; exact (by repeat (first | (with_reducible first | exact HB.out | apply below_alloc | apply pw_below_drewN | apply below_drew1) | exact HB.out))⟩; clear HO_6 HO_9 HB hq_; have HO_6 := n0_; have HO_9 := n1_; have HB := n2_; clear n0_ n1_ n2_))
                      have n0_ := Aside0.mk (Kd.R_drew HO_6.out)
                      have n1_ := Aside0.mk (Kd.R_drew HO_9.out)
                      have n2_ := Aside0.mk (below_drew1 HB.out)
                      clear HO_6
                      clear HO_9
                      clear HB
                      have HO_6 := n0_
                      have HO_9 := n1_
                      have HB := n2_
                      clear n0_ n1_ n2_
                      obtain ⟨Ao65, co65, eo65⟩ := Kd.R_slice HO_6.out
                      (first | subst eo65 | (injection eo65 with f1_ f2_ f3_; have f4_ := f1_.symm; have f5_ := f3_.symm; clear f1_ f2_ f3_; subst f4_; subst f5_))
                      have p169 : 0 ≤ ((ji54) : Int) := of_decide_eq_true (by first | (with_reducible assumption) | assumption)
                      have q169 : (ji54) < (x6_1.length : Int) := of_decide_eq_true (by first | (with_reducible assumption) | assumption)
                      obtain ⟨ad169, e169, hx169_0⟩ := Kd.at_int (Kd.R_reads' HO_6.out).2.2 (ji54) p169 q169
                      cases e169
                      replace p169 := eq_true p169
                      replace q169 := eq_true q169
                      have p170 : 0 ≤ ((ji57) : Int) := of_decide_eq_true (by first | (with_reducible assumption) | assumption)
                      have q170 : (ji57) < (x6_1.length : Int) := of_decide_eq_true (by first | (with_reducible assumption) | assumption)
                      obtain ⟨ad170, e170, hx170_0⟩ := Kd.at_int (Kd.R_reads' HO_6.out).2.2 (ji57) p170 q170
                      obtain rfl : ad169 = ad170 := (by injection e170)
                      replace p170 := eq_true p170
                      replace q170 := eq_true q170
                      refine start_ (n := 26) (S := fun w' => w'.cell? (ad169.add ((ji54)).toNat) = some (.int .i64 (rd x6_1 (ji54))) ∧ w'.cell? (ad169.add ((ji57)).toNat) = some (.int .i64 (rd x6_1 (ji57)))) (ds := []) near_kept.D1 (by kernel_rfl) rfl rfl ⟨hx169_0, hx170_0⟩ (fun hHeld => ?_); refine with_tabW near_kept.tab17 near_kept.bits17 (fun HT_ HW_ => ?_)
                      generalize w62.drew = w64 at HO_6 HO_9 HB hx169_0 hx170_0 hHeld ⊢
                      refine pu_ (i := 0) (N := some 114) (v := ?_) (a' := ?_) near_kept.D4 (any_of HT_.out (by kernel_rfl)) ?_ ?_ ?_; rotate_left 2
                      ·intro w'; go_simp; with_reducible rfl
                      ·simp only [Act.put, s_t, s_z, s_s, i64_w, i32_w]; rfl
                      refine pu_ (i := 1) (N := some 115) (v := ?_) (a' := ?_) near_kept.D7 (any_of HT_.out (by kernel_rfl)) ?_ ?_ ?_; rotate_left 2
                      ·intro w'; go_simp; with_reducible rfl
                      ·simp only [Act.put, s_t, s_z, s_s, i64_w, i32_w]; rfl
                      refine pu_ (i := 2) (N := some 116) (v := ?_) (a' := ?_) near_kept.D10 (any_of HT_.out (by kernel_rfl)) ?_ ?_ ?_; rotate_left 2
                      ·intro w'; go_simp; with_reducible rfl
                      ·simp only [Act.put, s_t, s_z, s_s, i64_w, i32_w]; rfl
                      refine pu_ (i := 3) (N := some 117) (v := ?_) (a' := ?_) near_kept.D16 (any_of HT_.out (by kernel_rfl)) ?_ ?_ ?_; rotate_left 2
                      ·intro w'; go_simp; with_reducible rfl
                      ·simp only [Act.put, s_t, s_z, s_s, i64_w, i32_w]; rfl
                      refine pu_ (i := 4) (N := some 118) (v := ?_) (a' := ?_) near_kept.D19 (any_of HT_.out (by kernel_rfl)) ?_ ?_ ?_; rotate_left 2
                      ·intro w'; go_simp; with_reducible rfl
                      ·simp only [Act.put, s_t, s_z, s_s, i64_w, i32_w]; rfl
                      refine pu_ (i := 5) (N := some 119) (v := ?_) (a' := ?_) near_kept.D22 (any_of HT_.out (by kernel_rfl)) ?_ ?_ ?_; rotate_left 2
                      ·intro w'; go_simp; with_reducible rfl
                      ·simp only [Act.put, s_t, s_z, s_s, i64_w, i32_w]; rfl
                      refine pu_ (i := 6) (N := some 120) (v := ?_) (a' := ?_) near_kept.D25 (any_of HT_.out (by kernel_rfl)) ?_ ?_ ?_; rotate_left 2
                      ·intro w'; go_simp; with_reducible rfl
                      ·simp only [Act.put, s_t, s_z, s_s, i64_w, i32_w]; rfl
                      refine pu_ (i := 7) (N := some 121) (v := ?_) (a' := ?_) near_kept.D28 (any_of HT_.out (by kernel_rfl)) ?_ ?_ ?_; rotate_left 2
                      ·intro w'; go_simp; with_reducible rfl
                      ·simp only [Act.put, s_t, s_z, s_s, i64_w, i32_w]; rfl
                      refine pu_ (i := 8) (N := some 122) (v := ?_) (a' := ?_) near_kept.D31 (any_of HT_.out (by kernel_rfl)) ?_ ?_ ?_; rotate_left 2
                      ·intro w'; go_simp; with_reducible rfl
                      ·simp only [Act.put, s_t, s_z, s_s, i64_w, i32_w]; rfl
                      refine pu_ (i := 9) (N := some 123) (v := ?_) (a' := ?_) near_kept.D33 (any_of HT_.out (by kernel_rfl)) ?_ ?_ ?_; rotate_left 2
                      ·intro w'; go_simp; with_reducible rfl
                      ·simp only [Act.put, s_t, s_z, s_s, i64_w, i32_w]; rfl
                      refine pu_ (i := 10) (N := some 124) (v := ?_) (a' := ?_) near_kept.D35 (any_of HT_.out (by kernel_rfl)) ?_ ?_ ?_; rotate_left 2
                      ·intro w'; go_simp; with_reducible rfl
                      ·simp only [Act.put, s_t, s_z, s_s, i64_w, i32_w]; rfl
                      refine pu_ (i := 11) (N := some 125) (v := ?_) (a' := ?_) near_kept.D37 (any_of HT_.out (by kernel_rfl)) ?_ ?_ ?_; rotate_left 2
                      ·intro w'; go_simp; with_reducible rfl
                      ·simp only [Act.put, s_t, s_z, s_s, i64_w, i32_w]; rfl
                      refine pu_ (i := 12) (N := some 126) (v := ?_) (a' := ?_) near_kept.D39 (any_of HT_.out (by kernel_rfl)) ?_ ?_ ?_; rotate_left 2
                      ·intro w'; go_simp; with_reducible rfl
                      ·simp only [Act.put, s_t, s_z, s_s, i64_w, i32_w]; rfl
                      refine pu_ (i := 13) (N := some 127) (v := ?_) (a' := ?_) near_kept.D41 (any_of HT_.out (by kernel_rfl)) ?_ ?_ ?_; rotate_left 2
                      ·intro w'; go_simp; with_reducible rfl
                      ·simp only [Act.put, s_t, s_z, s_s, i64_w, i32_w]; rfl
                      refine pu_ (i := 16) (N := some 130) (v := ?_) (a' := ?_) near_kept.D42 (any_of HT_.out (by kernel_rfl)) ?_ ?_ ?_; rotate_left 2
                      ·intro w'; go_simp; with_reducible rfl
                      ·simp only [Act.put, s_t, s_z, s_s, i64_w, i32_w]; rfl
                      refine pu_ (i := 17) (N := some 131) (v := ?_) (a' := ?_) near_kept.D43 (any_of HT_.out (by kernel_rfl)) ?_ ?_ ?_; rotate_left 2
                      ·intro w'; go_simp; with_reducible rfl
                      ·simp only [Act.put, s_t, s_z, s_s, i64_w, i32_w]; rfl
                      refine pu_ (i := 18) (N := some 132) (v := ?_) (a' := ?_) near_kept.D44 (any_of HT_.out (by kernel_rfl)) ?_ ?_ ?_; rotate_left 2
                      ·intro w'; go_simp; with_reducible rfl
                      ·simp only [Act.put, s_t, s_z, s_s, i64_w, i32_w]; rfl
                      refine pu_ (i := 19) (N := some 133) (v := ?_) (a' := ?_) near_kept.D45 (any_of HT_.out (by kernel_rfl)) ?_ ?_ ?_; rotate_left 2
                      ·intro w'; go_simp; with_reducible rfl
                      ·simp only [Act.put, s_t, s_z, s_s, i64_w, i32_w]; rfl
                      refine pu_ (i := 20) (N := some 134) (v := ?_) (a' := ?_) near_kept.D46 (any_of HT_.out (by kernel_rfl)) ?_ ?_ ?_; rotate_left 2
                      ·intro w'; go_simp; with_reducible rfl
                      ·simp only [Act.put, s_t, s_z, s_s, i64_w, i32_w]; rfl
                      refine pu_ (i := 21) (N := some 135) (v := ?_) (a' := ?_) near_kept.D47 (any_of HT_.out (by kernel_rfl)) ?_ ?_ ?_; rotate_left 2
                      ·intro w'; go_simp; with_reducible rfl
                      ·simp only [Act.put, s_t, s_z, s_s, i64_w, i32_w]; rfl
                      refine pu_ (i := 22) (N := some 136) (v := ?_) (a' := ?_) near_kept.D48 (any_of HT_.out (by kernel_rfl)) ?_ ?_ ?_; rotate_left 2
                      ·intro w'; go_simp; with_reducible rfl
                      ·simp only [Act.put, s_t, s_z, s_s, i64_w, i32_w]; rfl
                      refine take_ (i := 14) (N := some 128) (v := ?_) (a' := ?_) near_kept.D58 rfl rfl (take_ofW HT_.out HW_.out (by kernel_rfl)) (fun _ _ _ h => h) (Or.inl ⟨by rfl, ?_⟩) hHeld ?_ ?_
                      rotate_left
                      ·rintro w' ⟨s0, s1⟩
                       go_simp
                       with_reducible rfl
                      rotate_left
                      ·simp only [Act.put, List.setIfInBounds_toArray, List.set_cons_zero, List.set_cons_succ, i64_w, i32_w]
                       rfl
                      refine pu_ (i := 15) (N := some 129) (v := ?_) (a' := ?_) near_kept.D67 (any_of HT_.out (by kernel_rfl)) ?_ ?_ ?_; rotate_left 2
                      ·intro w'; go_simp; with_reducible rfl
                      ·simp only [Act.put, s_t, s_z, s_s, i64_w, i32_w]; rfl
                      refine take_ (i := 23) (N := some 137) (v := ?_) (a' := ?_) near_kept.D69 rfl rfl (take_ofW HT_.out HW_.out (by kernel_rfl)) (fun _ _ _ h => h) (Or.inl ⟨by rfl, ?_⟩) hHeld ?_ ?_
                      rotate_left
                      ·rintro w' ⟨s0, s1⟩
                       go_simp
                       with_reducible rfl
                      rotate_left
                      ·simp only [Act.put, List.setIfInBounds_toArray, List.set_cons_zero, List.set_cons_succ, i64_w, i32_w]
                       rfl
                      refine pu_ (i := 24) (N := some 138) (v := ?_) (a' := ?_) near_kept.D71 (any_of HT_.out (by kernel_rfl)) ?_ ?_ ?_; rotate_left 2
                      ·intro w'; go_simp; with_reducible rfl
                      ·simp only [Act.put, s_t, s_z, s_s, i64_w, i32_w]; rfl
                      refine pu_ (i := 25) (N := some 139) (v := ?_) (a' := ?_) near_kept.D74 (any_of HT_.out (by kernel_rfl)) ?_ ?_ ?_; rotate_left 2
                      ·intro w'; go_simp; with_reducible rfl
                      ·simp only [Act.put, s_t, s_z, s_s, i64_w, i32_w]; rfl
                      refine done_ (done_of HT_.out (by kernel_rfl)) ?_
                      try go_wp2_with (first | ((with_reducible refine gate_builtin (b := .append) (xs := #[.tmp 140, .tmp 146]) rfl ?_); at_builtin; refine Kd.R_append k166 (w0 := w) w.heap.size rfl (.tmp 140) (.tmp 146) 119 166 (.agg #[(.int .i64 0), (.int .i64 0)]) 16 rfl Tryd.underlying119 info166 rfl (by decide) (by omega) u9 x9_2 (⟨x10_2, wrap64 (x11_2 + t168)⟩ : S166) [.int .i64 x10_2, .int .i64 (wrap64 (x11_2 + t168))] (fun _ => True) (fun _ => False) rfl rfl ?aP (fun _ hk => hk.elim) ?aF ?aO ?aB ?aS ?aL ?_; (case aP => exact k166_mkM _ _ _ (⟨x10_2, wrap64 (x11_2 + t168)⟩ : S166)); (case aB => exact (by repeat (first | (with_reducible first | exact HB.out | apply below_alloc | apply pw_below_drewN | apply below_drew1) | exact HB.out))); (case aF => exact (fun _ _ => trivial)); (case aO => exact (by (with_reducible repeat (first | apply Kd.R_alloc | apply Kd.R_drewN | apply Kd.R_drew)); exact HO_9.out)); (case aS => exact (below_size (by repeat (first | (with_reducible first | exact HB.out | apply below_alloc | apply pw_below_drewN | apply below_drew1) | exact HB.out)))); (case aL => have := LMc61.out; omega); intro v172 w66 ho hb hg hat; rw [← Ny171.out] at ho; have n0_ := Aside0.mk (Kd.R_over' (by (with_reducible repeat (first | apply Kd.R_alloc | apply Kd.R_drewN | apply Kd.R_drew)); exact HO_6.out) (Kd.R_typed (by (with_reducible repeat (first | apply Kd.R_alloc | apply Kd.R_drewN | apply Kd.R_drew)); exact HO_9.out)) (by decide) hg); have n1_ := Aside0.mk (hb); have n2_ := Aside0.mk (ho); clear HO_6; clear HB; clear HO_9; have HO_6 := n0_; have HB := n1_; have HO173 := n2_; clear n0_ n1_ n2_; clear ho hb hg hat))
                      go_roundg kj40
                      case measure => have := HK1.out; have := HK2.out; have := HJ40.out; omega
                      case rel => exact ⟨(y171), (wrap64 (x10_2 + 1)), (wrap64 (x11_2 + (wrap64 (t168 + 1)))), (by first | rfl | (simp; done) | (simp [*]; done)), (by first | rfl | (simp; done) | (simp [*]; done)), H', ⟨by have := HK1.out; have := HK2.out; have := HJ40.out; omega⟩, ⟨by (with_reducible repeat (first | apply Kd.R_alloc | apply Kd.R_drewN | apply Kd.R_drew)); exact HO_6.out⟩, ⟨by (with_reducible repeat (first | apply Kd.R_alloc | apply Kd.R_drewN | apply Kd.R_drew)); exact HO173.out⟩, ⟨by repeat (first | (with_reducible first | exact HB.out | apply below_alloc | apply pw_below_drewN | apply below_drew1) | exact HB.out)⟩⟩
                     ·rw [if_neg c61] at H
                      exact absurd H (by simp)
                    ·rw [if_neg c60] at H
                     have c60b0 : ((wrap64 ((rd x6_1 (ji54)) + 1)) == (rd x6_1 (ji57))) = false := beq_eq_false_iff_ne.mpr c60
                     have c60b1 : ((wrap64 ((rd x6_1 (ji54)) + 1)) != (rd x6_1 (ji57))) = true := bne_iff_ne.mpr c60
                     have H' := Aside0.mk H
                     clear H
                     try go_wp2
                     have n0_ := Aside0.mk (Kd.R_drew HO_6.out)
                     have n1_ := Aside0.mk (Kd.R_drew HO_9.out)
                     have n2_ := Aside0.mk (below_drew1 HB.out)
                     clear HO_6
                     clear HO_9
                     clear HB
                     have HO_6 := n0_
                     have HO_9 := n1_
                     have HB := n2_
                     clear n0_ n1_ n2_
                     obtain ⟨i068, hi068, _, hsz68, _⟩ := info_parts info9
                     obtain ⟨A68, hcut68, hA68, hC68⟩ := print_drop_of (P := Tryd.prog) Value.string (⟨#[]⟩ : ByteArray) 26 9 .i64 Tryd.underlying26 hi068 hsz68 A1 c1 l1 x11_2 (of_decide_eq_true (by first | (with_reducible assumption) | assumption)) (of_decide_eq_true (by first | (with_reducible assumption) | assumption)) HC1.out
                     have HR166 := Aside0.mk (Kd.C_of_reads (h1 := fun _ => rfl) (hA68 _ (Kd.reads_of_C HR1.out)))
                     have HC166 := Aside0.mk hC68
                     clear hA68 hC68 hi068 hsz68
                     have p167 : 0 ≤ (x10_2 : Int) := of_decide_eq_true (by first | (with_reducible assumption) | assumption)
                     have q167 : x10_2 < (l0.length : Int) := of_decide_eq_true (by first | (with_reducible assumption) | assumption)
                     obtain ⟨ad167, e167, hx167_0⟩ := Kd.at_string HR0.out x10_2 p167 q167
                     have hw167_0 := hx167_0
                     cases e167
                     first | replace hx167_0 := (HB.out.cell (World.block_lt_of_cell? w _ hx167_0)).trans hx167_0 | skip
                     replace p167 := eq_true p167
                     replace q167 := eq_true q167
                     refine start_ (n := 9) (S := fun w' => w'.cell? (ad167.add (x10_2).toNat) = some (.string (rdOf ByteArray.empty l0 x10_2))) (ds := []) near_kept.D2 (by kernel_rfl) rfl rfl (((HB.out.cell (World.block_lt_of_cell? w _ hw167_0)).trans hw167_0)) (fun hHeld => ?_); refine with_tabW near_kept.tab16 near_kept.bits16 (fun HT_ HW_ => ?_)
                     generalize wc.drew = w67 at HO_6 HO_9 HB HR166 hx167_0 hHeld ⊢
                     refine pu_ (i := 0) (N := some 106) (v := ?_) (a' := ?_) near_kept.D5 (any_of HT_.out (by kernel_rfl)) ?_ ?_ ?_; rotate_left 2
                     ·intro w'; go_simp; with_reducible rfl
                     ·simp only [Act.put, s_t, s_z, s_s, i64_w, i32_w]; rfl
                     refine pu_ (i := 1) (N := some 107) (v := ?_) (a' := ?_) near_kept.D8 (any_of HT_.out (by kernel_rfl)) ?_ ?_ ?_; rotate_left 2
                     ·intro w'; go_simp; with_reducible rfl
                     ·simp only [Act.put, s_t, s_z, s_s, i64_w, i32_w]; rfl
                     refine pu_ (i := 2) (N := some 108) (v := ?_) (a' := ?_) near_kept.D11 (any_of HT_.out (by kernel_rfl)) ?_ ?_ ?_; rotate_left 2
                     ·intro w'; go_simp; with_reducible rfl
                     ·simp only [Act.put, s_t, s_z, s_s, i64_w, i32_w]; rfl
                     refine pu_ (i := 3) (N := some 109) (v := ?_) (a' := ?_) near_kept.D17 (any_of HT_.out (by kernel_rfl)) ?_ ?_ ?_; rotate_left 2
                     ·intro w'; go_simp; with_reducible rfl
                     ·simp only [Act.put, s_t, s_z, s_s, i64_w, i32_w]; rfl
                     refine pu_ (i := 4) (N := some 110) (v := ?_) (a' := ?_) near_kept.D20 (any_of HT_.out (by kernel_rfl)) ?_ ?_ ?_; rotate_left 2
                     ·intro w'; go_simp; with_reducible rfl
                     ·simp only [Act.put, s_t, s_z, s_s, i64_w, i32_w]; rfl
                     refine pu_ (i := 5) (N := some 111) (v := ?_) (a' := ?_) near_kept.D23 (any_of HT_.out (by kernel_rfl)) ?_ ?_ ?_; rotate_left 2
                     ·intro w'; go_simp; with_reducible rfl
                     ·simp only [Act.put, s_t, s_z, s_s, i64_w, i32_w]; rfl
                     refine take_ (i := 6) (N := some 112) (v := ?_) (a' := ?_) near_kept.D26 rfl rfl (take_ofW HT_.out HW_.out (by kernel_rfl)) (fun _ _ _ h => h) (Or.inl ⟨by rfl, ?_⟩) hHeld ?_ ?_
                     rotate_left
                     ·intro w' s0
                      go_simp
                      with_reducible rfl
                     rotate_left
                     ·simp only [Act.put, List.setIfInBounds_toArray, List.set_cons_zero, List.set_cons_succ, i64_w, i32_w]
                      rfl
                     refine one_ (i := 7) (N := some 113) near_kept.D29 rfl rfl (one_of HT_.out (by kernel_rfl)) (by decide) (fun K hK => ?_)
                     refine goes_ Tryd.func93 (by kernel_rfl) rfl #[.slice A68 (l1.drop (x11_2 : Int).toNat).length (c1 - x11_2.toNat), .string (rdOf ByteArray.empty l0 x10_2)] (by rfl) rfl rfl (by (try simp only [List.map_toArray, List.map_cons, List.map_nil]); first | done | (rw [show (l1.drop (x11_2 : Int).toNat).length = (l1.length - x11_2.toNat) from List.length_drop] <;> rfl) | rfl | (simp only [List.length_drop, List.length_take]; rfl)) ?_
                     with_reducible refine (slices_Index_string_string.calls kj40 _ _ (l1.drop (x11_2 : Int).toNat) (rdOf ByteArray.empty l0 x10_2) t168 _ ?side1 ?side2 A52.out).mono ?_
                     (case side1 => repeat (first | exact (Kd.C_below HR166.out HB.out) | (with_reducible refine Kd.C_alloc ?_ _) | (with_reducible refine Kd.C_drewN ?_ _) | (with_reducible refine Kd.C_drew ?_)))
                     (case side2 => exact HC166.out)
                     rintro e w' ⟨rfl, ⟨nd, rfl⟩⟩
                     refine ⟨_, rfl, ?_⟩
                     refine hK.out _ _ (((HB.out.cell (World.block_lt_of_cell? w _ hw167_0)).trans hw167_0)) (fun hHeld => ?_)
                     clear hK K
                     refine norm_ (a' := ?_) ?_ ?_
                     rotate_left
                     ·show Act.put _ (some 113) _ = _
                      simp only [Act.put, List.setIfInBounds_toArray, List.set_cons_zero, List.set_cons_succ, i64_w, i32_w]
                      rfl
                     refine pu_ (i := 8) (N := some 12) (v := ?_) (a' := ?_) near_kept.D75 (any_of HT_.out (by kernel_rfl)) ?_ ?_ ?_; rotate_left 2
                     ·intro w'; go_simp; with_reducible rfl
                     ·simp only [Act.put, s_t, s_z, s_s, i64_w, i32_w]; rfl
                     refine done_ (done_of HT_.out (by kernel_rfl)) ?_
                     try go_wp2
                     (try (rw [drewN_self w67]; generalize hq_ : World.drewN w67 _ = w67; have n0_ : Aside0 (Kd.R (Kd.int .i64) 3 w67 w.heap.size (fun _ => True) v156 x6_1) := ⟨by rw [← hq_]; exact (by (with_reducible repeat (first | apply Kd.R_alloc | apply Kd.R_drewN | apply Kd.R_drew)); exact HO_6.out)⟩; have n1_ : Aside0 (Kd.R k166 166 w67 w.heap.size (fun _ => True) u9 x9_2) := ⟨by rw [← hq_]; exact (by (with_reducible repeat (first | apply Kd.R_alloc | apply Kd.R_drewN | apply Kd.R_drew)); exact HO_9.out)⟩; have n2_ : Aside0 (Below w.heap.size w w67) := ⟨by rw [← hq_]; exact (by repeat (first | (with_reducible first | exact HB.out | apply below_alloc | apply pw_below_drewN | apply below_drew1) | exact HB.out))⟩; clear HO_6 HO_9 HB hq_; have HO_6 := n0_; have HO_9 := n1_; have HB := n2_; clear n0_ n1_ n2_))
                     have n0_ := Aside0.mk (Kd.R_drew HO_6.out)
                     have n1_ := Aside0.mk (Kd.R_drew HO_9.out)
                     have n2_ := Aside0.mk (below_drew1 HB.out)
                     clear HO_6
                     clear HO_9
                     clear HB
                     have HO_6 := n0_
                     have HO_9 := n1_
                     have HB := n2_
                     clear n0_ n1_ n2_
                     obtain ⟨Ao70, co70, eo70⟩ := Kd.R_slice HO_6.out
                     (first | subst eo70 | (injection eo70 with f1_ f2_ f3_; have f4_ := f1_.symm; have f5_ := f3_.symm; clear f1_ f2_ f3_; subst f4_; subst f5_))
                     have p169 : 0 ≤ ((ji54) : Int) := of_decide_eq_true (by first | (with_reducible assumption) | assumption)
                     have q169 : (ji54) < (x6_1.length : Int) := of_decide_eq_true (by first | (with_reducible assumption) | assumption)
                     obtain ⟨ad169, e169, hx169_0⟩ := Kd.at_int (Kd.R_reads' HO_6.out).2.2 (ji54) p169 q169
                     cases e169
                     replace p169 := eq_true p169
                     replace q169 := eq_true q169
                     have p170 : 0 ≤ ((ji57) : Int) := of_decide_eq_true (by first | (with_reducible assumption) | assumption)
                     have q170 : (ji57) < (x6_1.length : Int) := of_decide_eq_true (by first | (with_reducible assumption) | assumption)
                     obtain ⟨ad170, e170, hx170_0⟩ := Kd.at_int (Kd.R_reads' HO_6.out).2.2 (ji57) p170 q170
                     obtain rfl : ad169 = ad170 := (by injection e170)
                     replace p170 := eq_true p170
                     replace q170 := eq_true q170
                     refine start_ (n := 26) (S := fun w' => w'.cell? (ad169.add ((ji54)).toNat) = some (.int .i64 (rd x6_1 (ji54))) ∧ w'.cell? (ad169.add ((ji57)).toNat) = some (.int .i64 (rd x6_1 (ji57)))) (ds := []) near_kept.D1 (by kernel_rfl) rfl rfl ⟨hx169_0, hx170_0⟩ (fun hHeld => ?_); refine with_tabW near_kept.tab17 near_kept.bits17 (fun HT_ HW_ => ?_)
                     generalize w67.drew = w69 at HO_6 HO_9 HB hx169_0 hx170_0 hHeld ⊢
                     refine pu_ (i := 0) (N := some 114) (v := ?_) (a' := ?_) near_kept.D4 (any_of HT_.out (by kernel_rfl)) ?_ ?_ ?_; rotate_left 2
                     ·intro w'; go_simp; with_reducible rfl
                     ·simp only [Act.put, s_t, s_z, s_s, i64_w, i32_w]; rfl
                     refine pu_ (i := 1) (N := some 115) (v := ?_) (a' := ?_) near_kept.D7 (any_of HT_.out (by kernel_rfl)) ?_ ?_ ?_; rotate_left 2
                     ·intro w'; go_simp; with_reducible rfl
                     ·simp only [Act.put, s_t, s_z, s_s, i64_w, i32_w]; rfl
                     refine pu_ (i := 2) (N := some 116) (v := ?_) (a' := ?_) near_kept.D10 (any_of HT_.out (by kernel_rfl)) ?_ ?_ ?_; rotate_left 2
                     ·intro w'; go_simp; with_reducible rfl
                     ·simp only [Act.put, s_t, s_z, s_s, i64_w, i32_w]; rfl
                     refine pu_ (i := 3) (N := some 117) (v := ?_) (a' := ?_) near_kept.D16 (any_of HT_.out (by kernel_rfl)) ?_ ?_ ?_; rotate_left 2
                     ·intro w'; go_simp; with_reducible rfl
                     ·simp only [Act.put, s_t, s_z, s_s, i64_w, i32_w]; rfl
                     refine pu_ (i := 4) (N := some 118) (v := ?_) (a' := ?_) near_kept.D19 (any_of HT_.out (by kernel_rfl)) ?_ ?_ ?_; rotate_left 2
                     ·intro w'; go_simp; with_reducible rfl
                     ·simp only [Act.put, s_t, s_z, s_s, i64_w, i32_w]; rfl
                     refine pu_ (i := 5) (N := some 119) (v := ?_) (a' := ?_) near_kept.D22 (any_of HT_.out (by kernel_rfl)) ?_ ?_ ?_; rotate_left 2
                     ·intro w'; go_simp; with_reducible rfl
                     ·simp only [Act.put, s_t, s_z, s_s, i64_w, i32_w]; rfl
                     refine pu_ (i := 6) (N := some 120) (v := ?_) (a' := ?_) near_kept.D25 (any_of HT_.out (by kernel_rfl)) ?_ ?_ ?_; rotate_left 2
                     ·intro w'; go_simp; with_reducible rfl
                     ·simp only [Act.put, s_t, s_z, s_s, i64_w, i32_w]; rfl
                     refine pu_ (i := 7) (N := some 121) (v := ?_) (a' := ?_) near_kept.D28 (any_of HT_.out (by kernel_rfl)) ?_ ?_ ?_; rotate_left 2
                     ·intro w'; go_simp; with_reducible rfl
                     ·simp only [Act.put, s_t, s_z, s_s, i64_w, i32_w]; rfl
                     refine pu_ (i := 8) (N := some 122) (v := ?_) (a' := ?_) near_kept.D31 (any_of HT_.out (by kernel_rfl)) ?_ ?_ ?_; rotate_left 2
                     ·intro w'; go_simp; with_reducible rfl
                     ·simp only [Act.put, s_t, s_z, s_s, i64_w, i32_w]; rfl
                     refine pu_ (i := 9) (N := some 123) (v := ?_) (a' := ?_) near_kept.D33 (any_of HT_.out (by kernel_rfl)) ?_ ?_ ?_; rotate_left 2
                     ·intro w'; go_simp; with_reducible rfl
                     ·simp only [Act.put, s_t, s_z, s_s, i64_w, i32_w]; rfl
                     refine pu_ (i := 10) (N := some 124) (v := ?_) (a' := ?_) near_kept.D35 (any_of HT_.out (by kernel_rfl)) ?_ ?_ ?_; rotate_left 2
                     ·intro w'; go_simp; with_reducible rfl
                     ·simp only [Act.put, s_t, s_z, s_s, i64_w, i32_w]; rfl
                     refine pu_ (i := 11) (N := some 125) (v := ?_) (a' := ?_) near_kept.D37 (any_of HT_.out (by kernel_rfl)) ?_ ?_ ?_; rotate_left 2
                     ·intro w'; go_simp; with_reducible rfl
                     ·simp only [Act.put, s_t, s_z, s_s, i64_w, i32_w]; rfl
                     refine pu_ (i := 12) (N := some 126) (v := ?_) (a' := ?_) near_kept.D39 (any_of HT_.out (by kernel_rfl)) ?_ ?_ ?_; rotate_left 2
                     ·intro w'; go_simp; with_reducible rfl
                     ·simp only [Act.put, s_t, s_z, s_s, i64_w, i32_w]; rfl
                     refine pu_ (i := 13) (N := some 127) (v := ?_) (a' := ?_) near_kept.D41 (any_of HT_.out (by kernel_rfl)) ?_ ?_ ?_; rotate_left 2
                     ·intro w'; go_simp; with_reducible rfl
                     ·simp only [Act.put, s_t, s_z, s_s, i64_w, i32_w]; rfl
                     refine pu_ (i := 16) (N := some 130) (v := ?_) (a' := ?_) near_kept.D42 (any_of HT_.out (by kernel_rfl)) ?_ ?_ ?_; rotate_left 2
                     ·intro w'; go_simp; with_reducible rfl
                     ·simp only [Act.put, s_t, s_z, s_s, i64_w, i32_w]; rfl
                     refine pu_ (i := 17) (N := some 131) (v := ?_) (a' := ?_) near_kept.D43 (any_of HT_.out (by kernel_rfl)) ?_ ?_ ?_; rotate_left 2
                     ·intro w'; go_simp; with_reducible rfl
                     ·simp only [Act.put, s_t, s_z, s_s, i64_w, i32_w]; rfl
                     refine pu_ (i := 18) (N := some 132) (v := ?_) (a' := ?_) near_kept.D44 (any_of HT_.out (by kernel_rfl)) ?_ ?_ ?_; rotate_left 2
                     ·intro w'; go_simp; with_reducible rfl
                     ·simp only [Act.put, s_t, s_z, s_s, i64_w, i32_w]; rfl
                     refine pu_ (i := 19) (N := some 133) (v := ?_) (a' := ?_) near_kept.D45 (any_of HT_.out (by kernel_rfl)) ?_ ?_ ?_; rotate_left 2
                     ·intro w'; go_simp; with_reducible rfl
                     ·simp only [Act.put, s_t, s_z, s_s, i64_w, i32_w]; rfl
                     refine pu_ (i := 20) (N := some 134) (v := ?_) (a' := ?_) near_kept.D46 (any_of HT_.out (by kernel_rfl)) ?_ ?_ ?_; rotate_left 2
                     ·intro w'; go_simp; with_reducible rfl
                     ·simp only [Act.put, s_t, s_z, s_s, i64_w, i32_w]; rfl
                     refine pu_ (i := 21) (N := some 135) (v := ?_) (a' := ?_) near_kept.D47 (any_of HT_.out (by kernel_rfl)) ?_ ?_ ?_; rotate_left 2
                     ·intro w'; go_simp; with_reducible rfl
                     ·simp only [Act.put, s_t, s_z, s_s, i64_w, i32_w]; rfl
                     refine pu_ (i := 22) (N := some 136) (v := ?_) (a' := ?_) near_kept.D48 (any_of HT_.out (by kernel_rfl)) ?_ ?_ ?_; rotate_left 2
                     ·intro w'; go_simp; with_reducible rfl
                     ·simp only [Act.put, s_t, s_z, s_s, i64_w, i32_w]; rfl
                     refine take_ (i := 14) (N := some 128) (v := ?_) (a' := ?_) near_kept.D58 rfl rfl (take_ofW HT_.out HW_.out (by kernel_rfl)) (fun _ _ _ h => h) (Or.inl ⟨by rfl, ?_⟩) hHeld ?_ ?_
                     rotate_left
                     ·rintro w' ⟨s0, s1⟩
                      go_simp
                      with_reducible rfl
                     rotate_left
                     ·simp only [Act.put, List.setIfInBounds_toArray, List.set_cons_zero, List.set_cons_succ, i64_w, i32_w]
                      rfl
                     refine pu_ (i := 15) (N := some 129) (v := ?_) (a' := ?_) near_kept.D67 (any_of HT_.out (by kernel_rfl)) ?_ ?_ ?_; rotate_left 2
                     ·intro w'; go_simp; with_reducible rfl
                     ·simp only [Act.put, s_t, s_z, s_s, i64_w, i32_w]; rfl
                     refine take_ (i := 23) (N := some 137) (v := ?_) (a' := ?_) near_kept.D69 rfl rfl (take_ofW HT_.out HW_.out (by kernel_rfl)) (fun _ _ _ h => h) (Or.inl ⟨by rfl, ?_⟩) hHeld ?_ ?_
                     rotate_left
                     ·rintro w' ⟨s0, s1⟩
                      go_simp
                      with_reducible rfl
                     rotate_left
                     ·simp only [Act.put, List.setIfInBounds_toArray, List.set_cons_zero, List.set_cons_succ, i64_w, i32_w]
                      rfl
                     refine pu_ (i := 24) (N := some 138) (v := ?_) (a' := ?_) near_kept.D71 (any_of HT_.out (by kernel_rfl)) ?_ ?_ ?_; rotate_left 2
                     ·intro w'; go_simp; with_reducible rfl
                     ·simp only [Act.put, s_t, s_z, s_s, i64_w, i32_w]; rfl
                     refine pu_ (i := 25) (N := some 139) (v := ?_) (a' := ?_) near_kept.D74 (any_of HT_.out (by kernel_rfl)) ?_ ?_ ?_; rotate_left 2
                     ·intro w'; go_simp; with_reducible rfl
                     ·simp only [Act.put, s_t, s_z, s_s, i64_w, i32_w]; rfl
                     refine done_ (done_of HT_.out (by kernel_rfl)) ?_
                     try go_wp2
                     go_roundg kj40
                     case measure => have := HK1.out; have := HK2.out; have := HJ40.out; omega
                     case rel => exact ⟨(x9_2), (wrap64 (x10_2 + 1)), (x11_2), (by first | rfl | (simp; done) | (simp [*]; done)), (by first | rfl | (simp; done) | (simp [*]; done)), H', ⟨by have := HK1.out; have := HK2.out; have := HJ40.out; omega⟩, ⟨by (with_reducible repeat (first | apply Kd.R_alloc | apply Kd.R_drewN | apply Kd.R_drew)); exact HO_6.out⟩, ⟨by (with_reducible repeat (first | apply Kd.R_alloc | apply Kd.R_drewN | apply Kd.R_drew)); exact HO_9.out⟩, ⟨by repeat (first | (with_reducible first | exact HB.out | apply below_alloc | apply pw_below_drewN | apply below_drew1) | exact HB.out)⟩⟩
                   ·rw [if_neg c59] at H
                    exact absurd H (by simp)
                  ·rw [if_neg c58] at H
                   exact absurd H (by simp)
                 ·rw [if_neg c56] at H
                  exact absurd H (by simp)
                ·rw [if_neg c55] at H
                 exact absurd H (by simp)
               ·rw [if_neg c53] at H
                have c53b0 : decide (0 ≤ t168) = false := decide_eq_false c53
                clear c53
                have H' := Aside0.mk H
                clear H
                try go_wp2
                have n0_ := Aside0.mk (Kd.R_drew HO_6.out)
                have n1_ := Aside0.mk (Kd.R_drew HO_9.out)
                have n2_ := Aside0.mk (below_drew1 HB.out)
                clear HO_6
                clear HO_9
                clear HB
                have HO_6 := n0_
                have HO_9 := n1_
                have HB := n2_
                clear n0_ n1_ n2_
                obtain ⟨i072, hi072, _, hsz72, _⟩ := info_parts info9
                obtain ⟨A72, hcut72, hA72, hC72⟩ := print_drop_of (P := Tryd.prog) Value.string (⟨#[]⟩ : ByteArray) 26 9 .i64 Tryd.underlying26 hi072 hsz72 A1 c1 l1 x11_2 (of_decide_eq_true (by first | (with_reducible assumption) | assumption)) (of_decide_eq_true (by first | (with_reducible assumption) | assumption)) HC1.out
                have HR166 := Aside0.mk (Kd.C_of_reads (h1 := fun _ => rfl) (hA72 _ (Kd.reads_of_C HR1.out)))
                have HC166 := Aside0.mk hC72
                clear hA72 hC72 hi072 hsz72
                have p167 : 0 ≤ (x10_2 : Int) := of_decide_eq_true (by first | (with_reducible assumption) | assumption)
                have q167 : x10_2 < (l0.length : Int) := of_decide_eq_true (by first | (with_reducible assumption) | assumption)
                obtain ⟨ad167, e167, hx167_0⟩ := Kd.at_string HR0.out x10_2 p167 q167
                have hw167_0 := hx167_0
                cases e167
                first | replace hx167_0 := (HB.out.cell (World.block_lt_of_cell? w _ hx167_0)).trans hx167_0 | skip
                replace p167 := eq_true p167
                replace q167 := eq_true q167
                refine start_ (n := 9) (S := fun w' => w'.cell? (ad167.add (x10_2).toNat) = some (.string (rdOf ByteArray.empty l0 x10_2))) (ds := []) near_kept.D2 (by kernel_rfl) rfl rfl (((HB.out.cell (World.block_lt_of_cell? w _ hw167_0)).trans hw167_0)) (fun hHeld => ?_); refine with_tabW near_kept.tab16 near_kept.bits16 (fun HT_ HW_ => ?_)
                generalize wc.drew = w71 at HO_6 HO_9 HB HR166 hx167_0 hHeld ⊢
                refine pu_ (i := 0) (N := some 106) (v := ?_) (a' := ?_) near_kept.D5 (any_of HT_.out (by kernel_rfl)) ?_ ?_ ?_; rotate_left 2
                ·intro w'; go_simp; with_reducible rfl
                ·simp only [Act.put, s_t, s_z, s_s, i64_w, i32_w]; rfl
                refine pu_ (i := 1) (N := some 107) (v := ?_) (a' := ?_) near_kept.D8 (any_of HT_.out (by kernel_rfl)) ?_ ?_ ?_; rotate_left 2
                ·intro w'; go_simp; with_reducible rfl
                ·simp only [Act.put, s_t, s_z, s_s, i64_w, i32_w]; rfl
                refine pu_ (i := 2) (N := some 108) (v := ?_) (a' := ?_) near_kept.D11 (any_of HT_.out (by kernel_rfl)) ?_ ?_ ?_; rotate_left 2
                ·intro w'; go_simp; with_reducible rfl
                ·simp only [Act.put, s_t, s_z, s_s, i64_w, i32_w]; rfl
                refine pu_ (i := 3) (N := some 109) (v := ?_) (a' := ?_) near_kept.D17 (any_of HT_.out (by kernel_rfl)) ?_ ?_ ?_; rotate_left 2
                ·intro w'; go_simp; with_reducible rfl
                ·simp only [Act.put, s_t, s_z, s_s, i64_w, i32_w]; rfl
                refine pu_ (i := 4) (N := some 110) (v := ?_) (a' := ?_) near_kept.D20 (any_of HT_.out (by kernel_rfl)) ?_ ?_ ?_; rotate_left 2
                ·intro w'; go_simp; with_reducible rfl
                ·simp only [Act.put, s_t, s_z, s_s, i64_w, i32_w]; rfl
                refine pu_ (i := 5) (N := some 111) (v := ?_) (a' := ?_) near_kept.D23 (any_of HT_.out (by kernel_rfl)) ?_ ?_ ?_; rotate_left 2
                ·intro w'; go_simp; with_reducible rfl
                ·simp only [Act.put, s_t, s_z, s_s, i64_w, i32_w]; rfl
                refine take_ (i := 6) (N := some 112) (v := ?_) (a' := ?_) near_kept.D26 rfl rfl (take_ofW HT_.out HW_.out (by kernel_rfl)) (fun _ _ _ h => h) (Or.inl ⟨by rfl, ?_⟩) hHeld ?_ ?_
                rotate_left
                ·intro w' s0
                 go_simp
                 with_reducible rfl
                rotate_left
                ·simp only [Act.put, List.setIfInBounds_toArray, List.set_cons_zero, List.set_cons_succ, i64_w, i32_w]
                 rfl
                refine one_ (i := 7) (N := some 113) near_kept.D29 rfl rfl (one_of HT_.out (by kernel_rfl)) (by decide) (fun K hK => ?_)
                refine goes_ Tryd.func93 (by kernel_rfl) rfl #[.slice A72 (l1.drop (x11_2 : Int).toNat).length (c1 - x11_2.toNat), .string (rdOf ByteArray.empty l0 x10_2)] (by rfl) rfl rfl (by (try simp only [List.map_toArray, List.map_cons, List.map_nil]); first | done | (rw [show (l1.drop (x11_2 : Int).toNat).length = (l1.length - x11_2.toNat) from List.length_drop] <;> rfl) | rfl | (simp only [List.length_drop, List.length_take]; rfl)) ?_
                with_reducible refine (slices_Index_string_string.calls kj40 _ _ (l1.drop (x11_2 : Int).toNat) (rdOf ByteArray.empty l0 x10_2) t168 _ ?side1 ?side2 A52.out).mono ?_
                (case side1 => repeat (first | exact (Kd.C_below HR166.out HB.out) | (with_reducible refine Kd.C_alloc ?_ _) | (with_reducible refine Kd.C_drewN ?_ _) | (with_reducible refine Kd.C_drew ?_)))
                (case side2 => exact HC166.out)
                rintro e w' ⟨rfl, ⟨nd, rfl⟩⟩
                refine ⟨_, rfl, ?_⟩
                refine hK.out _ _ (((HB.out.cell (World.block_lt_of_cell? w _ hw167_0)).trans hw167_0)) (fun hHeld => ?_)
                clear hK K
                refine norm_ (a' := ?_) ?_ ?_
                rotate_left
                ·show Act.put _ (some 113) _ = _
                 simp only [Act.put, List.setIfInBounds_toArray, List.set_cons_zero, List.set_cons_succ, i64_w, i32_w]
                 rfl
                refine pu_ (i := 8) (N := some 12) (v := ?_) (a' := ?_) near_kept.D75 (any_of HT_.out (by kernel_rfl)) ?_ ?_ ?_; rotate_left 2
                ·intro w'; go_simp; with_reducible rfl
                ·simp only [Act.put, s_t, s_z, s_s, i64_w, i32_w]; rfl
                refine done_ (done_of HT_.out (by kernel_rfl)) ?_
                try go_wp2
                (try (rw [drewN_self w71]; generalize hq_ : World.drewN w71 _ = w71; have n0_ : Aside0 (Kd.R (Kd.int .i64) 3 w71 w.heap.size (fun _ => True) v156 x6_1) := ⟨by rw [← hq_]; exact (by (with_reducible repeat (first | apply Kd.R_alloc | apply Kd.R_drewN | apply Kd.R_drew)); exact HO_6.out)⟩; have n1_ : Aside0 (Kd.R k166 166 w71 w.heap.size (fun _ => True) u9 x9_2) := ⟨by rw [← hq_]; exact (by (with_reducible repeat (first | apply Kd.R_alloc | apply Kd.R_drewN | apply Kd.R_drew)); exact HO_9.out)⟩; have n2_ : Aside0 (Below w.heap.size w w71) := ⟨by rw [← hq_]; exact (by repeat (first | (with_reducible first | exact HB.out | apply below_alloc | apply pw_below_drewN | apply below_drew1) | exact HB.out))⟩; clear HO_6 HO_9 HB hq_; have HO_6 := n0_; have HO_9 := n1_; have HB := n2_; clear n0_ n1_ n2_))
                have n0_ := Aside0.mk (Kd.R_drew HO_6.out)
                have n1_ := Aside0.mk (Kd.R_drew HO_9.out)
                have n2_ := Aside0.mk (below_drew1 HB.out)
                clear HO_6
                clear HO_9
                clear HB
                have HO_6 := n0_
                have HO_9 := n1_
                have HB := n2_
                clear n0_ n1_ n2_
                refine start_ (n := 26) (S := fun w' => True) (ds := []) near_kept.D1 (by kernel_rfl) rfl rfl trivial (fun hHeld => ?_); refine with_tabW near_kept.tab17 near_kept.bits17 (fun HT_ HW_ => ?_)
                generalize w71.drew = w73 at HO_6 HO_9 HB hHeld ⊢
                refine pu_ (i := 0) (N := some 114) (v := ?_) (a' := ?_) near_kept.D4 (any_of HT_.out (by kernel_rfl)) ?_ ?_ ?_; rotate_left 2
                ·intro w'; go_simp; with_reducible rfl
                ·simp only [Act.put, s_t, s_z, s_s, i64_w, i32_w]; rfl
                refine pu_ (i := 1) (N := some 115) (v := ?_) (a' := ?_) near_kept.D7 (any_of HT_.out (by kernel_rfl)) ?_ ?_ ?_; rotate_left 2
                ·intro w'; go_simp; with_reducible rfl
                ·simp only [Act.put, s_t, s_z, s_s, i64_w, i32_w]; rfl
                refine pu_ (i := 2) (N := some 116) (v := ?_) (a' := ?_) near_kept.D10 (any_of HT_.out (by kernel_rfl)) ?_ ?_ ?_; rotate_left 2
                ·intro w'; go_simp; with_reducible rfl
                ·simp only [Act.put, s_t, s_z, s_s, i64_w, i32_w]; rfl
                refine pv_ (i := 3) (N := some 117) (a' := ?_) near_kept.D16 (any_of HT_.out (by kernel_rfl)) ?_ ?_; rotate_left
                ·simp only [Act.put, s_t, s_z, s_s, i64_w, i32_w]; rfl
                refine pv_ (i := 4) (N := some 118) (a' := ?_) near_kept.D19 (any_of HT_.out (by kernel_rfl)) ?_ ?_; rotate_left
                ·simp only [Act.put, s_t, s_z, s_s, i64_w, i32_w]; rfl
                refine pv_ (i := 5) (N := some 119) (a' := ?_) near_kept.D22 (any_of HT_.out (by kernel_rfl)) ?_ ?_; rotate_left
                ·simp only [Act.put, s_t, s_z, s_s, i64_w, i32_w]; rfl
                refine pv_ (i := 6) (N := some 120) (a' := ?_) near_kept.D25 (any_of HT_.out (by kernel_rfl)) ?_ ?_; rotate_left
                ·simp only [Act.put, s_t, s_z, s_s, i64_w, i32_w]; rfl
                refine pv_ (i := 7) (N := some 121) (a' := ?_) near_kept.D28 (any_of HT_.out (by kernel_rfl)) ?_ ?_; rotate_left
                ·simp only [Act.put, s_t, s_z, s_s, i64_w, i32_w]; rfl
                refine pv_ (i := 8) (N := some 122) (a' := ?_) near_kept.D31 (any_of HT_.out (by kernel_rfl)) ?_ ?_; rotate_left
                ·simp only [Act.put, s_t, s_z, s_s, i64_w, i32_w]; rfl
                refine pv_ (i := 9) (N := some 123) (a' := ?_) near_kept.D33 (any_of HT_.out (by kernel_rfl)) ?_ ?_; rotate_left
                ·simp only [Act.put, s_t, s_z, s_s, i64_w, i32_w]; rfl
                refine pv_ (i := 10) (N := some 124) (a' := ?_) near_kept.D35 (any_of HT_.out (by kernel_rfl)) ?_ ?_; rotate_left
                ·simp only [Act.put, s_t, s_z, s_s, i64_w, i32_w]; rfl
                refine pv_ (i := 11) (N := some 125) (a' := ?_) near_kept.D37 (any_of HT_.out (by kernel_rfl)) ?_ ?_; rotate_left
                ·simp only [Act.put, s_t, s_z, s_s, i64_w, i32_w]; rfl
                refine pv_ (i := 12) (N := some 126) (a' := ?_) near_kept.D39 (any_of HT_.out (by kernel_rfl)) ?_ ?_; rotate_left
                ·simp only [Act.put, s_t, s_z, s_s, i64_w, i32_w]; rfl
                refine pv_ (i := 13) (N := some 127) (a' := ?_) near_kept.D41 (any_of HT_.out (by kernel_rfl)) ?_ ?_; rotate_left
                ·simp only [Act.put, s_t, s_z, s_s, i64_w, i32_w]; rfl
                refine pv_ (i := 14) (N := some 128) (a' := ?_) near_kept.D57 (any_of HT_.out (by kernel_rfl)) ?_ ?_; rotate_left
                ·simp only [Act.put, s_t, s_z, s_s, i64_w, i32_w]; rfl
                refine pv_ (i := 15) (N := some 129) (a' := ?_) near_kept.D59 (any_of HT_.out (by kernel_rfl)) ?_ ?_; rotate_left
                ·simp only [Act.put, s_t, s_z, s_s, i64_w, i32_w]; rfl
                refine pv_ (i := 16) (N := some 130) (a' := ?_) near_kept.D60 (any_of HT_.out (by kernel_rfl)) ?_ ?_; rotate_left
                ·simp only [Act.put, s_t, s_z, s_s, i64_w, i32_w]; rfl
                refine pv_ (i := 17) (N := some 131) (a' := ?_) near_kept.D61 (any_of HT_.out (by kernel_rfl)) ?_ ?_; rotate_left
                ·simp only [Act.put, s_t, s_z, s_s, i64_w, i32_w]; rfl
                refine pv_ (i := 18) (N := some 132) (a' := ?_) near_kept.D62 (any_of HT_.out (by kernel_rfl)) ?_ ?_; rotate_left
                ·simp only [Act.put, s_t, s_z, s_s, i64_w, i32_w]; rfl
                refine pv_ (i := 19) (N := some 133) (a' := ?_) near_kept.D63 (any_of HT_.out (by kernel_rfl)) ?_ ?_; rotate_left
                ·simp only [Act.put, s_t, s_z, s_s, i64_w, i32_w]; rfl
                refine pv_ (i := 20) (N := some 134) (a' := ?_) near_kept.D64 (any_of HT_.out (by kernel_rfl)) ?_ ?_; rotate_left
                ·simp only [Act.put, s_t, s_z, s_s, i64_w, i32_w]; rfl
                refine pv_ (i := 21) (N := some 135) (a' := ?_) near_kept.D65 (any_of HT_.out (by kernel_rfl)) ?_ ?_; rotate_left
                ·simp only [Act.put, s_t, s_z, s_s, i64_w, i32_w]; rfl
                refine pv_ (i := 22) (N := some 136) (a' := ?_) near_kept.D67 (any_of HT_.out (by kernel_rfl)) ?_ ?_; rotate_left
                ·simp only [Act.put, s_t, s_z, s_s, i64_w, i32_w]; rfl
                refine pv_ (i := 23) (N := some 137) (a' := ?_) near_kept.D69 (any_of HT_.out (by kernel_rfl)) ?_ ?_; rotate_left
                ·simp only [Act.put, s_t, s_z, s_s, i64_w, i32_w]; rfl
                refine pv_ (i := 24) (N := some 138) (a' := ?_) near_kept.D71 (any_of HT_.out (by kernel_rfl)) ?_ ?_; rotate_left
                ·simp only [Act.put, s_t, s_z, s_s, i64_w, i32_w]; rfl
                refine pu_ (i := 25) (N := some 139) (v := ?_) (a' := ?_) near_kept.D74 (any_of HT_.out (by kernel_rfl)) ?_ ?_ ?_; rotate_left 2
                ·intro w'; go_simp; with_reducible rfl
                ·simp only [Act.put, s_t, s_z, s_s, i64_w, i32_w]; rfl
                refine done_ (done_of HT_.out (by kernel_rfl)) ?_
                try go_wp2
                go_roundg kj40
                case measure => have := HK1.out; have := HK2.out; have := HJ40.out; omega
                case rel => exact ⟨(x9_2), (wrap64 (x10_2 + 1)), (x11_2), (by first | rfl | (simp; done) | (simp [*]; done)), (by first | rfl | (simp; done) | (simp [*]; done)), H', ⟨by have := HK1.out; have := HK2.out; have := HJ40.out; omega⟩, ⟨by (with_reducible repeat (first | apply Kd.R_alloc | apply Kd.R_drewN | apply Kd.R_drew)); exact HO_6.out⟩, ⟨by (with_reducible repeat (first | apply Kd.R_alloc | apply Kd.R_drewN | apply Kd.R_drew)); exact HO_9.out⟩, ⟨by repeat (first | (with_reducible first | exact HB.out | apply below_alloc | apply pw_below_drewN | apply below_drew1) | exact HB.out)⟩⟩
              ·rw [if_neg c51] at H
               exact absurd H (by simp)
             ·rw [if_neg c50] at H
              exact absurd H (by simp)
            ·rw [if_neg c49] at H
             exact absurd H (by simp)
           ·rw [if_neg c48] at H
            exact absurd H (by simp)
          ·replace c47 := Bool.eq_false_iff.mpr c47
           subst c47
           have H1 : (some x9_2) = some r := by rw [if_neg (show ¬ (false = true) by decide)] at H; exact H
           clear H
           have H := H1
           clear H1
           obtain rfl := Option.some.inj H
           go_wp2
           go_ret
           exact ⟨_, by first | rfl | (simp [errW_none, errW_some] <;> rfl) | (simp only [← hji3]; first | rfl | (simp [errW_none, errW_some] <;> rfl)) | (simp [*, errW_none, errW_some] <;> rfl), by (with_reducible repeat (first | apply Kd.R_alloc | apply Kd.R_drewN | apply Kd.R_drew)); exact HO_9.out, by repeat (first | (with_reducible first | exact HB.out | apply below_alloc | apply pw_below_drewN | apply below_drew1) | exact HB.out)⟩
  ·rw [if_neg c5] at H
   exact absurd H (by simp)
 ·rw [if_neg c4] at H
  exact absurd H (by simp)
end Go.Proofs.YtomamgapdeggjaaDoor.Pl
