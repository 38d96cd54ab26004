/- Part of the proof that the law patchesLead is true for every input. No conditions. Laid by a program of this session over the kit's print and words; declarations that nothing names are left out. -/
import Derived.Test.YtomamgapdeggjaaDoorZlPlx0
import Derived.Test.YtomamgapdeggjaaDoorZlPlx1
namespace Go.Proofs.YtomamgapdeggjaaDoor.Pl
open Go.RowKit Go.Proofs.YtomamgapdeggjaaDoor.GBase Go.Proofs.YtomamgapdeggjaaDoorW.PrintWords Go.Proofs.YtomamgapdeggjaaDoorW.PrintLast Go.Proofs.YtomamgapdeggjaaDoorW.PrintMore
attribute [local go_sem] str_leq max2_int min2_int max_two min_two max_three min_three max_four min_four
set_option linter.unusedVariables false
set_option linter.unusedSimpArgs false
set_option maxHeartbeats 8000000 in
set_option maxRecDepth 100000 in
theorem near_Tokens.calls (k : Nat) (a0 : ByteArray) (r : List ByteArray) (w : World) (hGl : Wd w) (h : near_Tokens.f k a0 = some r) :
  Calls Tryd.prog 50 #[.string a0] w fun e w' => ∃ v0_ : Value, e = .returned (v0_) ∧ Kd.R Kd.string 9 w' w.heap.size (fun _ => True) v0_ r ∧ Below w.heap.size w w' := by
 have HGl := Aside0.mk hGl
 clear hGl
 have HB := Aside0.mk (Below.refl w.heap.size w)
 have H : ((strings_Split.f a0 (⟨#[10]⟩ : ByteArray)).bind fun t126 => (near_Tokens.l0 k ([] : List ByteArray) t126 (t126.length : Int) 0)) = some r := h
 clear h
 replace H := Option.bind_eq_some_iff.mp H
 obtain ⟨t126, A20, H⟩ := H
 replace H : (near_Tokens.l0 k ([] : List ByteArray) t126 (t126.length : Int) 0) = some r := H
 have A2 := Aside0.mk A20
 clear A20
 have H' := Aside0.mk H
 clear H
 go_enter Tryd.func50, Tryd.ntmps50
 go_wp2_with (first | ((with_reducible refine gate_callee (f := 106) rfl ?_); refine goesL_ (some 9) rfl rfl Tryd.func106 (by kernel_rfl) rfl #[.string a0, .string (⟨#[10]⟩ : ByteArray)] rfl (by (try simp only [List.map_toArray, List.map_cons, List.map_nil]); first | done | rfl | (simp only [List.length_drop, List.length_take]; rfl)) ?_; (with_reducible refine (strings_Split.calls a0 (⟨#[10]⟩ : ByteArray) t126 _ ?side1 A2.out).mono ?_); (case side1 => exact Wd.below HGl.out (by repeat (first | (with_reducible first | exact HB.out | apply below_alloc | apply pw_below_drewN | apply below_drew1) | exact HB.out))); rintro e w3 ⟨v127, rfl, ho0, hb⟩; refine ⟨_, rfl, ?_⟩; have n0_ := Aside0.mk (Kd.R_lower ho0 (below_size (by repeat (first | (with_reducible first | exact HB.out | apply below_alloc | apply pw_below_drewN | apply below_drew1) | exact HB.out)))); have n1_ := Aside0.mk (below_step (by repeat (first | (with_reducible first | exact HB.out | apply below_alloc | apply pw_below_drewN | apply below_drew1) | exact HB.out)) hb); clear HB; have HO128 := n0_; have HB := n1_; clear n0_ n1_; (try clear hb); (try clear hb2); (try clear hk); (try clear hi); (try clear ho0); obtain ⟨Ao4, co4, eo4⟩ := Kd.R_slice HO128.out; subst eo4))
 go_loopg [3, 11] k (fun kq v3 v11 w' => ∃ (x3_1 : List ByteArray) (x11_1 : Int), v11 = .int .i64 x11_1 ∧ Aside0 (near_Tokens.l0 kq x3_1 t126 (t126.length : Int) x11_1 = some r) ∧ Aside0 (kq ≤ k) ∧ Aside0 (Kd.R Kd.string 9 w' w.heap.size (fun k_ => some k_ ≠ ((.slice Ao4 t126.length co4) : Value).ownBlock) v3 x3_1) ∧ Aside0 (Kd.R Kd.string 9 w' w.heap.size (fun k_ => some k_ ≠ (v3 : Value).ownBlock) (.slice Ao4 t126.length co4) t126) ∧ Aside0 (Below w.heap.size w w'))
 case atStart => exact ⟨(([] : List ByteArray)), (0), (by first | rfl | (simp; done) | (simp [*]; done)), H', ⟨Nat.le_refl _⟩, ⟨by first | exact Kd.R_nil _ _ _ _ _ | exact Kd.N_nil _ _ _ _ _ | exact Kd.V_nil _ _ _ _ _ | exact Kd.Q_nil _ _ _ _ _ | exact Kd.S_nil _ _ _ _ _⟩, ⟨by (with_reducible repeat (first | apply Kd.R_alloc | apply Kd.R_drewN | apply Kd.R_drew)); exact Kd.R_mono HO128.out (fun _ hk => (by simp [Value.ownBlock]))⟩, ⟨by repeat (first | (with_reducible first | exact HB.out | apply below_alloc | apply pw_below_drewN | apply below_drew1) | exact HB.out)⟩⟩
 case round =>
  clear H'
  try clear c1
  try clear p2
  obtain ⟨x3_1, x11_1, rfl, HA, HK1, HO_3, HO_9, HB⟩ := hrel
  cases gk with
  | zero => exact absurd HA.out (by simp [near_Tokens.l0])
  | succ k1 =>
   have H := HA.out
   clear HA
   simp only [near_Tokens.l0] at H
   by_cases c5 : x11_1 < (t126.length : Int)
   ·rw [if_pos c5] at H
    have c5b0 : decide (x11_1 < (t126.length : Int)) = true := decide_eq_true c5
    clear c5
    by_cases c6 : 0 ≤ x11_1
    ·rw [if_pos c6] at H
     have c6b0 : decide (0 ≤ x11_1) = true := decide_eq_true c6
     clear c6
     by_cases c7 : x11_1 < (t126.length : Int)
     ·rw [if_pos c7] at H
      have c7b0 : decide (x11_1 < (t126.length : Int)) = true := decide_eq_true c7
      clear c7
      have HC8 := Aside0.mk H
      clear H
      have p129 : 0 ≤ (x11_1 : Int) := of_decide_eq_true (by first | (with_reducible assumption) | assumption)
      have q129 : x11_1 < (t126.length : Int) := of_decide_eq_true (by first | (with_reducible assumption) | assumption)
      obtain ⟨ad129, e129, hx129_0⟩ := Kd.at_string (Kd.R_reads' HO_9.out).2.2 x11_1 p129 q129
      cases e129
      replace p129 := eq_true p129
      replace q129 := eq_true q129
      go_upto_if 17 with (fail)
      go_cut [3] (fun v3 wc => ∃ (kq : Nat) (x3_7 : List ByteArray), Aside0 (near_Tokens.j1 kq x3_7 (rdOf ByteArray.empty t126 x11_1) t126 (t126.length : Int) x11_1 = some r) ∧ Aside0 (kq ≤ k1) ∧ Aside0 (Kd.R Kd.string 9 wc w.heap.size (fun k_ => some k_ ≠ ((.slice (some ad129) t126.length co4) : Value).ownBlock) v3 x3_7) ∧ Aside0 (Kd.R Kd.string 9 wc w.heap.size (fun k_ => some k_ ≠ (v3 : Value).ownBlock) (.slice (some ad129) t126.length co4) t126) ∧ Aside0 (Below w.heap.size w wc))
      case first =>
       have H := HC8.out
       clear HC8
       by_cases c9 : x11_1 > 0
       ·rw [if_pos c9] at H
        have c9b0 : decide (0 < x11_1) = true := decide_eq_true c9
        clear c9
        (first | rw [c9b0] | (simp only [i64_w, i32_w]; rw [c9b0]) | skip)
        by_cases c10 : x3_1.length < 8796093022208
        ·rw [if_pos c10] at H
         have LMc10 := Aside0.mk c10
         clear c10
         obtain ⟨y130, hy130⟩ : ∃ y_ : List ByteArray, y_ = (x3_1 ++ [(⟨#[10]⟩ : ByteArray)]) := ⟨_, rfl⟩
         replace H : (near_Tokens.j1 k1 y130 (rdOf ByteArray.empty t126 x11_1) t126 (t126.length : Int) x11_1) = some r := by first | (rw [hy130]; with_reducible exact H) | (have H2_ := (Option.bind_some _ _).symm.trans H; rw [hy130]; with_reducible exact H2_) | (have H2_ := (Option.bind_some _ _).symm.trans H; with_reducible exact H2_) | with_reducible exact H | (rw [hy130]; exact H) | exact H
         have Ny130 := Aside0.mk hy130
         clear hy130
         have H' := Aside0.mk H
         clear H
         go_wp2_with (first | ((with_reducible refine gate_builtin (b := .append) (xs := #[.tmp 18, .tmp 19]) rfl ?_); at_builtin; refine Kd.R_append Kd.string (w0 := w) w.heap.size rfl (.tmp 18) (.tmp 19) 26 9 (.string ⟨#[]⟩) 16 rfl Tryd.underlying26 info9 rfl (by decide) (by omega) u3 x3_1 (⟨#[10]⟩ : ByteArray) [.string (⟨#[10]⟩ : ByteArray)] (fun k_ => some k_ ≠ (.slice (some ad129) t126.length co4 : Value).ownBlock) (fun _ => False) rfl rfl ?aP (fun _ hk => hk.elim) ?aF ?aO ?aB ?aS ?aL ?_; (case aP => exact rfl); (case aB => exact (by repeat (first | (with_reducible first | exact HB.out | apply below_alloc | apply pw_below_drewN | apply below_drew1) | exact HB.out))); (case aF => exact (fun k_ hk => Kd.fresh' (Kd.R_lt (by (with_reducible repeat (first | apply Kd.R_alloc | apply Kd.R_drewN | apply Kd.R_drew)); exact HO_9.out)) k_ hk)); (case aO => exact (by (with_reducible repeat (first | apply Kd.R_alloc | apply Kd.R_drewN | apply Kd.R_drew)); exact HO_3.out)); (case aS => exact (below_size (by repeat (first | (with_reducible first | exact HB.out | apply below_alloc | apply pw_below_drewN | apply below_drew1) | exact HB.out)))); (case aL => have := LMc10.out; omega); intro v131 w11 ho hb hg hat; rw [← Ny130.out] at ho; have n0_ := Aside0.mk (Kd.R_after (ok := (fun _ => True)) (by (with_reducible repeat (first | apply Kd.R_alloc | apply Kd.R_drewN | apply Kd.R_drew)); exact Kd.R_mono HO_9.out (fun _ hk => ⟨trivial, hk⟩)) hg hat); have n1_ := Aside0.mk (hb); have n2_ := Aside0.mk (ho); clear HO_9; clear HB; clear HO_3; have HO_9 := n0_; have HB := n1_; have HO132 := n2_; clear n0_ n1_ n2_; clear ho hb hg hat))
         go_meet
         case rel => exact ⟨_, (y130), H', ⟨by have := HK1.out; first | omega | exact Nat.le_refl _⟩, ⟨by (with_reducible repeat (first | apply Kd.R_alloc | apply Kd.R_drewN | apply Kd.R_drew)); exact HO132.out⟩, ⟨by (with_reducible repeat (first | apply Kd.R_alloc | apply Kd.R_drewN | apply Kd.R_drew)); exact Kd.R_mono HO_9.out (fun _ hk => hk.2)⟩, ⟨by repeat (first | (with_reducible first | exact HB.out | apply below_alloc | apply pw_below_drewN | apply below_drew1) | exact HB.out)⟩⟩
        ·rw [if_neg c10] at H
         exact absurd H (by simp)
       ·rw [if_neg c9] at H
        have c9b0 : decide (0 < x11_1) = false := decide_eq_false c9
        clear c9
        (first | rw [c9b0] | (simp only [i64_w, i32_w]; rw [c9b0]) | skip)
        have H' := Aside0.mk H
        clear H
        go_wp2
        go_meet
        case rel => exact ⟨_, (x3_1), H', ⟨by have := HK1.out; first | omega | exact Nat.le_refl _⟩, ⟨by (with_reducible repeat (first | apply Kd.R_alloc | apply Kd.R_drewN | apply Kd.R_drew)); exact HO_3.out⟩, ⟨by (with_reducible repeat (first | apply Kd.R_alloc | apply Kd.R_drewN | apply Kd.R_drew)); exact HO_9.out⟩, ⟨by repeat (first | (with_reducible first | exact HB.out | apply below_alloc | apply pw_below_drewN | apply below_drew1) | exact HB.out)⟩⟩
      case rest =>
       clear HC8
       try clear c1
       try clear p1
       try clear q1
       try clear hx1
       try clear p2
       try clear c5
       try clear c5b0
       try clear c6
       try clear c6b0
       try clear c7
       try clear c7b0
       try clear c9
       try clear c9b0
       try clear c10
       try clear hx129_0
       try clear p129
       try clear p2
       try clear q129
       obtain ⟨kq, x3_7, HA, HJ7, HO_3, HO_9, HB⟩ := hcut
       cases kq with
       | zero => exact absurd HA.out (by simp [near_Tokens.j1])
       | succ kj7 =>
        have H := HA.out
        clear HA
        simp only [near_Tokens.j1] at H
        replace H := Option.bind_eq_some_iff.mp H
        obtain ⟨t133, A120, H⟩ := H
        replace H : (near_Tokens.l1 kj7 x3_7 t126 (t126.length : Int) x11_1 t133 (t133.length : Int) 0) = some r := H
        have A12 := Aside0.mk A120
        clear A120
        have H' := Aside0.mk H
        clear H
        go_wp2_with (first | ((with_reducible refine gate_callee (f := 106) rfl ?_); refine goesL_ (some 22) rfl rfl Tryd.func106 (by kernel_rfl) rfl #[.string (rdOf ByteArray.empty t126 x11_1), .string (⟨#[32]⟩ : ByteArray)] rfl (by (try simp only [List.map_toArray, List.map_cons, List.map_nil]); first | done | rfl | (simp only [List.length_drop, List.length_take]; rfl)) ?_; (with_reducible refine (strings_Split.calls (rdOf ByteArray.empty t126 x11_1) (⟨#[32]⟩ : ByteArray) t133 _ ?side1 A12.out).mono ?_); (case side1 => exact Wd.below HGl.out (by repeat (first | (with_reducible first | exact HB.out | apply below_alloc | apply pw_below_drewN | apply below_drew1) | exact HB.out))); rintro e w13 ⟨v134, rfl, ho0, hb⟩; refine ⟨_, rfl, ?_⟩; have n0_ := Aside0.mk (Kd.R_elder' (by (with_reducible repeat (first | apply Kd.R_alloc | apply Kd.R_drewN | apply Kd.R_drew)); exact HO_3.out) (Kd.R_base ho0) hb); have n1_ := Aside0.mk (Kd.R_elder' (by (with_reducible repeat (first | apply Kd.R_alloc | apply Kd.R_drewN | apply Kd.R_drew)); exact HO_9.out) (Kd.R_base ho0) hb); have n2_ := Aside0.mk (Kd.R_lower (Kd.R_new' (Kd.R_new' ho0 (Kd.R_lt (by (with_reducible repeat (first | apply Kd.R_alloc | apply Kd.R_drewN | apply Kd.R_drew)); exact HO_3.out))) (Kd.R_lt (by (with_reducible repeat (first | apply Kd.R_alloc | apply Kd.R_drewN | apply Kd.R_drew)); exact HO_9.out))) (below_size (by repeat (first | (with_reducible first | exact HB.out | apply below_alloc | apply pw_below_drewN | apply below_drew1) | exact HB.out)))); have n3_ := Aside0.mk (below_step (by repeat (first | (with_reducible first | exact HB.out | apply below_alloc | apply pw_below_drewN | apply below_drew1) | exact HB.out)) hb); clear HO_3; clear HO_9; clear HB; have HO_3 := n0_; have HO_9 := n1_; have HO135 := n2_; have HB := n3_; clear n0_ n1_ n2_ n3_; (try clear hb); (try clear hb2); (try clear hk); (try clear hi); (try clear ho0); obtain ⟨Ao14, co14, eo14⟩ := Kd.R_slice HO135.out; subst eo14))
        go_loopg [3, 24] kj7 (fun kq v3 v24 w' => ∃ (x3_3 : List ByteArray) (x24_3 : Int), v24 = .int .i64 x24_3 ∧ Aside0 (near_Tokens.l1 kq x3_3 t126 (t126.length : Int) x11_1 t133 (t133.length : Int) x24_3 = some r) ∧ Aside0 (kq ≤ kj7) ∧ Aside0 (Kd.R Kd.string 9 w' w.heap.size (fun k_ => some k_ ≠ ((.slice (some ad129) t126.length co4) : Value).ownBlock ∧ some k_ ≠ ((.slice Ao14 t133.length co14) : Value).ownBlock) v3 x3_3) ∧ Aside0 (Kd.R Kd.string 9 w' w.heap.size (fun k_ => some k_ ≠ (v3 : Value).ownBlock ∧ some k_ ≠ ((.slice Ao14 t133.length co14) : Value).ownBlock) (.slice (some ad129) t126.length co4) t126) ∧ Aside0 (Kd.R Kd.string 9 w' w.heap.size (fun k_ => some k_ ≠ (v3 : Value).ownBlock ∧ some k_ ≠ ((.slice (some ad129) t126.length co4) : Value).ownBlock) (.slice Ao14 t133.length co14) t133) ∧ Aside0 (Below w.heap.size w w'))
        case atStart => exact ⟨(x3_7), (0), (by first | rfl | (simp; done) | (simp [*]; done)), H', ⟨Nat.le_refl _⟩, ⟨by (with_reducible repeat (first | apply Kd.R_alloc | apply Kd.R_drewN | apply Kd.R_drew)); exact HO_3.out⟩, ⟨by (with_reducible repeat (first | apply Kd.R_alloc | apply Kd.R_drewN | apply Kd.R_drew)); exact HO_9.out⟩, ⟨by (with_reducible repeat (first | apply Kd.R_alloc | apply Kd.R_drewN | apply Kd.R_drew)); exact Kd.R_mono HO135.out (fun _ hk => ⟨hk.1.2, hk.2⟩)⟩, ⟨by repeat (first | (with_reducible first | exact HB.out | apply below_alloc | apply pw_below_drewN | apply below_drew1) | exact HB.out)⟩⟩
        case round =>
         clear H'
         try clear c1
         try clear p1
         try clear q1
         try clear hx1
         try clear p2
         try clear c5
         try clear c5b0
         try clear c6
         try clear c6b0
         try clear c7
         try clear c7b0
         try clear c9
         try clear c9b0
         try clear c10
         try clear p12
         try clear q12
         try clear hx12
         try clear hx129_0
         try clear p1
         try clear p129
         try clear p2
         try clear q1
         try clear q129
         obtain ⟨x3_3, x24_3, rfl, HA, HK3, HO_3, HO_9, HO_22, HB⟩ := hrel
         cases gk with
         | zero => exact absurd HA.out (by simp [near_Tokens.l1])
         | succ k3 =>
          have H := HA.out
          clear HA
          simp only [near_Tokens.l1] at H
          by_cases c15 : x24_3 < (t133.length : Int)
          ·rw [if_pos c15] at H
           have c15b0 : decide (x24_3 < (t133.length : Int)) = true := decide_eq_true c15
           clear c15
           by_cases c16 : 0 ≤ x24_3
           ·rw [if_pos c16] at H
            have c16b0 : decide (0 ≤ x24_3) = true := decide_eq_true c16
            clear c16
            by_cases c17 : x24_3 < (t133.length : Int)
            ·rw [if_pos c17] at H
             have c17b0 : decide (x24_3 < (t133.length : Int)) = true := decide_eq_true c17
             clear c17
             by_cases c18 : (rdOf ByteArray.empty t133 x24_3).toList = ([] : List UInt8)
             ·rw [if_pos c18] at H
              have c18b0 : ((rdOf ByteArray.empty t133 x24_3).toList == ([] : List UInt8)) = true := beq_iff_eq.mpr c18
              have c18b1 : ((rdOf ByteArray.empty t133 x24_3).toList != ([] : List UInt8)) = false := bne_eq_false_iff_eq.mpr c18
              clear c18
              have H' := Aside0.mk H
              clear H
              have p136 : 0 ≤ (x24_3 : Int) := of_decide_eq_true (by first | (with_reducible assumption) | assumption)
              have q136 : x24_3 < (t133.length : Int) := of_decide_eq_true (by first | (with_reducible assumption) | assumption)
              obtain ⟨ad136, e136, hx136_0⟩ := Kd.at_string (Kd.R_reads' HO_22.out).2.2 x24_3 p136 q136
              cases e136
              replace p136 := eq_true p136
              replace q136 := eq_true q136
              go_wp2
              go_roundg k3
              case measure => have := HK1.out; have := HJ7.out; have := HK3.out; omega
              case rel => exact ⟨(x3_3), (wrap64 (x24_3 + 1)), (by first | rfl | (simp; done) | (simp [*]; done)), H', ⟨by have := HK1.out; have := HJ7.out; have := HK3.out; omega⟩, ⟨by (with_reducible repeat (first | apply Kd.R_alloc | apply Kd.R_drewN | apply Kd.R_drew)); exact HO_3.out⟩, ⟨by (with_reducible repeat (first | apply Kd.R_alloc | apply Kd.R_drewN | apply Kd.R_drew)); exact HO_9.out⟩, ⟨by (with_reducible repeat (first | apply Kd.R_alloc | apply Kd.R_drewN | apply Kd.R_drew)); exact HO_22.out⟩, ⟨by repeat (first | (with_reducible first | exact HB.out | apply below_alloc | apply pw_below_drewN | apply below_drew1) | exact HB.out)⟩⟩
             ·rw [if_neg c18] at H
              have c18b0 : ((rdOf ByteArray.empty t133 x24_3).toList == ([] : List UInt8)) = false := beq_eq_false_iff_ne.mpr c18
              have c18b1 : ((rdOf ByteArray.empty t133 x24_3).toList != ([] : List UInt8)) = true := bne_iff_ne.mpr c18
              by_cases c19 : x3_3.length < 8796093022208
              ·rw [if_pos c19] at H
               have LMc19 := Aside0.mk c19
               clear c19
               obtain ⟨y137, hy137⟩ : ∃ y_ : List ByteArray, y_ = (x3_3 ++ [rdOf ByteArray.empty t133 x24_3]) := ⟨_, rfl⟩
               replace H : (near_Tokens.l1 k3 y137 t126 (t126.length : Int) x11_1 t133 (t133.length : Int) (wrap64 (x24_3 + 1))) = some r := by first | (rw [hy137]; with_reducible exact H) | (have H2_ := (Option.bind_some _ _).symm.trans H; rw [hy137]; with_reducible exact H2_) | (have H2_ := (Option.bind_some _ _).symm.trans H; with_reducible exact H2_) | with_reducible exact H | (rw [hy137]; exact H) | exact H
               have Ny137 := Aside0.mk hy137
               clear hy137
               have H' := Aside0.mk H
               clear H
               have p136 : 0 ≤ (x24_3 : Int) := of_decide_eq_true (by first | (with_reducible assumption) | assumption)
               have q136 : x24_3 < (t133.length : Int) := of_decide_eq_true (by first | (with_reducible assumption) | assumption)
               obtain ⟨ad136, e136, hx136_0⟩ := Kd.at_string (Kd.R_reads' HO_22.out).2.2 x24_3 p136 q136
               cases e136
               replace p136 := eq_true p136
               replace q136 := eq_true q136
               go_wp2_with (first | ((with_reducible refine gate_builtin (b := .append) (xs := #[.tmp 30, .tmp 32]) rfl ?_); at_builtin; refine Kd.R_append Kd.string (w0 := w) w.heap.size rfl (.tmp 30) (.tmp 32) 26 9 (.string ⟨#[]⟩) 16 rfl Tryd.underlying26 info9 rfl (by decide) (by omega) u3 x3_3 (rdOf ByteArray.empty t133 x24_3) [.string (rdOf ByteArray.empty t133 x24_3)] (fun k_ => some k_ ≠ (.slice (some ad129) t126.length co4 : Value).ownBlock ∧ some k_ ≠ (.slice (some ad136) t133.length co14 : Value).ownBlock) (fun _ => False) rfl rfl ?aP (fun _ hk => hk.elim) ?aF ?aO ?aB ?aS ?aL ?_; (case aP => exact rfl); (case aB => exact (by repeat (first | (with_reducible first | exact HB.out | apply below_alloc | apply pw_below_drewN | apply below_drew1) | exact HB.out))); (case aF => exact (fun k_ hk => ⟨Kd.fresh' (Kd.R_lt (by (with_reducible repeat (first | apply Kd.R_alloc | apply Kd.R_drewN | apply Kd.R_drew)); exact HO_9.out)) k_ hk, Kd.fresh' (Kd.R_lt (by (with_reducible repeat (first | apply Kd.R_alloc | apply Kd.R_drewN | apply Kd.R_drew)); exact HO_22.out)) k_ hk⟩)); (case aO => exact (by (with_reducible repeat (first | apply Kd.R_alloc | apply Kd.R_drewN | apply Kd.R_drew)); exact HO_3.out)); (case aS => exact (below_size (by repeat (first | (with_reducible first | exact HB.out | apply below_alloc | apply pw_below_drewN | apply below_drew1) | exact HB.out)))); (case aL => have := LMc19.out; omega); intro v138 w20 ho hb hg hat; rw [← Ny137.out] at ho; have n0_ := Aside0.mk (Kd.R_after (ok := (fun k_ => some k_ ≠ (.slice (some ad136) t133.length co14 : Value).ownBlock)) (by (with_reducible repeat (first | apply Kd.R_alloc | apply Kd.R_drewN | apply Kd.R_drew)); exact Kd.R_mono HO_9.out (fun _ hk => ⟨hk.2, hk.1⟩)) hg hat); have n1_ := Aside0.mk (Kd.R_after (ok := (fun k_ => some k_ ≠ (.slice (some ad129) t126.length co4 : Value).ownBlock)) (by (with_reducible repeat (first | apply Kd.R_alloc | apply Kd.R_drewN | apply Kd.R_drew)); exact Kd.R_mono HO_22.out (fun _ hk => ⟨hk.2, hk.1⟩)) hg hat); have n2_ := Aside0.mk (hb); have n3_ := Aside0.mk (ho); clear HO_9; clear HO_22; clear HB; clear HO_3; have HO_9 := n0_; have HO_22 := n1_; have HB := n2_; have HO139 := n3_; clear n0_ n1_ n2_ n3_; clear ho hb hg hat))
               go_roundg k3
               case measure => have := HK1.out; have := HJ7.out; have := HK3.out; omega
               case rel => exact ⟨(y137), (wrap64 (x24_3 + 1)), (by first | rfl | (simp; done) | (simp [*]; done)), H', ⟨by have := HK1.out; have := HJ7.out; have := HK3.out; omega⟩, ⟨by (with_reducible repeat (first | apply Kd.R_alloc | apply Kd.R_drewN | apply Kd.R_drew)); exact HO139.out⟩, ⟨by (with_reducible repeat (first | apply Kd.R_alloc | apply Kd.R_drewN | apply Kd.R_drew)); exact Kd.R_mono HO_9.out (fun _ hk => ⟨hk.2, hk.1⟩)⟩, ⟨by (with_reducible repeat (first | apply Kd.R_alloc | apply Kd.R_drewN | apply Kd.R_drew)); exact Kd.R_mono HO_22.out (fun _ hk => ⟨hk.2, hk.1⟩)⟩, ⟨by repeat (first | (with_reducible first | exact HB.out | apply below_alloc | apply pw_below_drewN | apply below_drew1) | exact HB.out)⟩⟩
              ·rw [if_neg c19] at H
               exact absurd H (by simp)
            ·rw [if_neg c17] at H
             exact absurd H (by simp)
           ·rw [if_neg c16] at H
            exact absurd H (by simp)
          ·rw [if_neg c15] at H
           have c15b0 : decide (x24_3 < (t133.length : Int)) = false := decide_eq_false c15
           clear c15
           have H' := Aside0.mk H
           clear H
           go_wp2
           go_roundg k3
           case measure => have := HK1.out; have := HJ7.out; have := HK3.out; omega
           case rel => exact ⟨(x3_3), (wrap64 (x11_1 + 1)), (by first | rfl | (simp; done) | (simp [*]; done)), H', ⟨by have := HK1.out; have := HJ7.out; have := HK3.out; omega⟩, ⟨by (with_reducible repeat (first | apply Kd.R_alloc | apply Kd.R_drewN | apply Kd.R_drew)); exact Kd.R_mono HO_3.out (fun _ hk => hk.1)⟩, ⟨by (with_reducible repeat (first | apply Kd.R_alloc | apply Kd.R_drewN | apply Kd.R_drew)); exact Kd.R_mono HO_9.out (fun _ hk => hk.1)⟩, ⟨by repeat (first | (with_reducible first | exact HB.out | apply below_alloc | apply pw_below_drewN | apply below_drew1) | exact HB.out)⟩⟩
     ·rw [if_neg c7] at H
      exact absurd H (by simp)
    ·rw [if_neg c6] at H
     exact absurd H (by simp)
   ·rw [if_neg c5] at H
    have c5b0 : decide (x11_1 < (t126.length : Int)) = false := decide_eq_false c5
    clear c5
    obtain rfl := Option.some.inj H
    go_wp2
    go_ret
    exact ⟨_, by first | rfl | (simp [errW_none, errW_some] <;> rfl) | (simp [*, errW_none, errW_some] <;> rfl), by (with_reducible repeat (first | apply Kd.R_alloc | apply Kd.R_drewN | apply Kd.R_drew)); exact Kd.R_mono HO_3.out (fun _ hk => trivial), by repeat (first | (with_reducible first | exact HB.out | apply below_alloc | apply pw_below_drewN | apply below_drew1) | exact HB.out)⟩
def base_When.f (a0 : Bool) (a1 : Int) : Option (Int) := if a0 = true then (some a1) else (some 0)
set_option maxHeartbeats 8000000 in
set_option maxRecDepth 100000 in
theorem base_When.calls (a0 : Bool) (a1 : Int) (r : Int) (w : World) (h : base_When.f a0 a1 = some r) :
    Calls Tryd.prog 63 #[.bool a0, .int .i64 a1] w fun e w' => e = .returned (.int .i64 r) ∧ Drawn0 w w' := by
  have H : (if a0 = true then (some a1) else (some 0)) = some r := h
  clear h
  by_cases c3 : a0 = true
  · subst c3
    have H1 : (some a1) = some r := by rw [if_pos rfl] at H; exact H
    clear H
    have H := H1
    clear H1
    obtain rfl := Option.some.inj H
    go_enter Tryd.func63, Tryd.ntmps63
    go_wp2
    go_ret
    exact ⟨by first | rfl | (simp; done) | (simp [*]; done), by repeat (first | exact Drawn0.refl _ | apply Drawn0.step)⟩
  · replace c3 := Bool.eq_false_iff.mpr c3
    subst c3
    have H1 : (some 0) = some r := by rw [if_neg (show ¬ (false = true) by decide)] at H; exact H
    clear H
    have H := H1
    clear H1
    obtain rfl := Option.some.inj H
    go_enter Tryd.func63, Tryd.ntmps63
    go_wp2
    go_ret
    exact ⟨by first | rfl | (simp; done) | (simp [*]; done), by repeat (first | exact Drawn0.refl _ | apply Drawn0.step)⟩
def near_large.f (a0 : ByteArray) : Option (Int) := (base_When.f (decide ((a0.size : Int) > 20000)) 2).bind fun t140 => (some t140)
set_option maxHeartbeats 8000000 in
set_option maxRecDepth 100000 in
theorem near_large.calls (a0 : ByteArray) (r : Int) (w : World) (h : near_large.f a0 = some r) :
    Calls Tryd.prog 143 #[.string a0] w fun e w' => e = .returned (.int .i64 r) ∧ Drawn0 w w' := by
  have H : ((base_When.f (decide ((a0.size : Int) > 20000)) 2).bind fun t140 => (some t140)) = some r := h
  clear h
  replace H := Option.bind_eq_some_iff.mp H
  obtain ⟨t140, A20, H⟩ := H
  replace H : (some t140) = some r := H
  have A2 := Aside0.mk A20
  clear A20
  obtain rfl := Option.some.inj H
  go_enter Tryd.func143, Tryd.ntmps143
  go_wp2_with (first | ((with_reducible refine gate_callee (f := 63) rfl ?_); refine goesL_ (some 6) rfl rfl Tryd.func63 (by kernel_rfl) rfl #[.bool (decide ((a0.size : Int) > 20000)), .int .i64 2] rfl (by (try simp only [List.map_toArray, List.map_cons, List.map_nil]); first | done | rfl | (simp only [List.length_drop, List.length_take]; rfl)) ?_; (with_reducible refine (base_When.calls (decide ((a0.size : Int) > 20000)) 2 t140 _ A2.out).mono ?_); rintro e w' ⟨rfl, ⟨nd, rfl⟩⟩; refine ⟨_, rfl, ?_⟩))
  go_ret
  exact ⟨by first | rfl | (simp; done) | (simp [*]; done), by repeat (first | exact Drawn0.refl _ | apply Drawn0.step)⟩
def near_tokens.f (k : Nat) (a0 : ByteArray) : Option (List ByteArray × Int) := (near_large.f a0).bind fun t141 => (if t141 = 0 then ((near_Tokens.f k a0).bind fun t142 => ((base_When.f (decide ((t142.length : Int) > 2000)) 2).bind fun t145 => (some (t142, t145)))) else (some (([] : List ByteArray), t141)))
theorem near_tokens.mono : ∀ a0 k, LeO (near_tokens.f k a0) (near_tokens.f (k + 1) a0) := by
  intro a0 k
  unfold near_tokens.f
  repeat' first
      | (with_reducible exact near_Tokens.mono _ _)
      | (with_reducible exact LeO.refl _)
      | (with_reducible exact LeO.none _)
      | (with_reducible refine LeO.ite ?_ ?_)
      | (with_reducible refine LeO.bind ?_ (fun _ => ?_))
      | exact near_Tokens.mono _ _
      | exact LeO.none _
      | refine LeO.ite ?_ ?_
      | refine LeO.bind ?_ (fun _ => ?_)
set_option maxHeartbeats 8000000 in
set_option maxRecDepth 100000 in
theorem near_tokens.calls (k : Nat) (a0 : ByteArray) (r1 : List ByteArray) (r2 : Int) (w : World) (hGl : Wd w) (h : near_tokens.f k a0 = some (r1, r2)) :
  Calls Tryd.prog 139 #[.string a0] w fun e w' => ∃ v0_ : Value, e = .returned (.tuple #[v0_, .int .i64 r2]) ∧ Kd.R Kd.string 9 w' w.heap.size (fun _ => True) v0_ r1 ∧ Below w.heap.size w w' := by
 have HGl := Aside0.mk hGl
 clear hGl
 have HB := Aside0.mk (Below.refl w.heap.size w)
 have H : ((near_large.f a0).bind fun t141 => (if t141 = 0 then ((near_Tokens.f k a0).bind fun t142 => ((base_When.f (decide ((t142.length : Int) > 2000)) 2).bind fun t145 => (some (t142, t145)))) else (some (([] : List ByteArray), t141)))) = some (r1, r2) := h
 clear h
 replace H := Option.bind_eq_some_iff.mp H
 obtain ⟨t141, A20, H⟩ := H
 replace H : (if t141 = 0 then ((near_Tokens.f k a0).bind fun t142 => ((base_When.f (decide ((t142.length : Int) > 2000)) 2).bind fun t145 => (some (t142, t145)))) else (some (([] : List ByteArray), t141))) = some (r1, r2) := H
 have A2 := Aside0.mk A20
 clear A20
 by_cases c3 : t141 = 0
 ·rw [if_pos c3] at H
  have c3b0 : (t141 == 0) = true := beq_iff_eq.mpr c3
  have c3b1 : (t141 != 0) = false := bne_eq_false_iff_eq.mpr c3
  clear c3
  replace H := Option.bind_eq_some_iff.mp H
  obtain ⟨t142, A40, H⟩ := H
  replace H : ((base_When.f (decide ((t142.length : Int) > 2000)) 2).bind fun t145 => (some (t142, t145))) = some (r1, r2) := H
  have A4 := Aside0.mk A40
  clear A40
  replace H := Option.bind_eq_some_iff.mp H
  obtain ⟨t145, A50, H⟩ := H
  replace H : (some (t142, t145)) = some (r1, r2) := H
  have A5 := Aside0.mk A50
  clear A50
  simp only [Option.some.injEq, Prod.mk.injEq] at H
  obtain ⟨rfl, rfl⟩ := H
  go_enter Tryd.func139, Tryd.ntmps139
  go_wp2_with (first | ((with_reducible refine gate_callee (f := 143) rfl ?_); refine goesL_ (some 7) rfl rfl Tryd.func143 (by kernel_rfl) rfl #[.string a0] rfl (by (try simp only [List.map_toArray, List.map_cons, List.map_nil]); first | done | rfl | (simp only [List.length_drop, List.length_take]; rfl)) ?_; (with_reducible refine (near_large.calls a0 t141 _ A2.out).mono ?_); rintro e w' ⟨rfl, ⟨nd, rfl⟩⟩; refine ⟨_, rfl, ?_⟩) | ((with_reducible refine gate_callee (f := 50) rfl ?_); refine goesL_ (some 12) rfl rfl Tryd.func50 (by kernel_rfl) rfl #[.string a0] rfl (by (try simp only [List.map_toArray, List.map_cons, List.map_nil]); first | done | rfl | (simp only [List.length_drop, List.length_take]; rfl)) ?_; (with_reducible refine (near_Tokens.calls k a0 t142 _ ?side1 A4.out).mono ?_); (case side1 => exact Wd.below HGl.out (by repeat (first | (with_reducible first | exact HB.out | apply below_alloc | apply pw_below_drewN | apply below_drew1) | exact HB.out))); rintro e w6 ⟨v143, rfl, ho0, hb⟩; refine ⟨_, rfl, ?_⟩; have n0_ := Aside0.mk (Kd.R_lower ho0 (below_size (by repeat (first | (with_reducible first | exact HB.out | apply below_alloc | apply pw_below_drewN | apply below_drew1) | exact HB.out)))); have n1_ := Aside0.mk (below_step (by repeat (first | (with_reducible first | exact HB.out | apply below_alloc | apply pw_below_drewN | apply below_drew1) | exact HB.out)) hb); clear HB; have HO144 := n0_; have HB := n1_; clear n0_ n1_; (try clear hb); (try clear hb2); (try clear hk); (try clear hi); (try clear ho0); obtain ⟨Ao7, co7, eo7⟩ := Kd.R_slice HO144.out; subst eo7) | ((with_reducible refine gate_callee (f := 63) rfl ?_); refine goesL_ (some 17) rfl rfl Tryd.func63 (by kernel_rfl) rfl #[.bool (decide ((t142.length : Int) > 2000)), .int .i64 2] rfl (by (try simp only [List.map_toArray, List.map_cons, List.map_nil]); first | done | rfl | (simp only [List.length_drop, List.length_take]; rfl)) ?_; (with_reducible refine (base_When.calls (decide ((t142.length : Int) > 2000)) 2 t145 _ A5.out).mono ?_); rintro e w' ⟨rfl, ⟨nd, rfl⟩⟩; refine ⟨_, rfl, ?_⟩))
  go_ret2
  exact ⟨_, by first | rfl | (simp [errW_none, errW_some] <;> rfl) | (simp [*, errW_none, errW_some] <;> rfl), by (with_reducible repeat (first | apply Kd.R_alloc | apply Kd.R_drewN | apply Kd.R_drew)); exact HO144.out, by repeat (first | (with_reducible first | exact HB.out | apply below_alloc | apply pw_below_drewN | apply below_drew1) | exact HB.out)⟩
 ·rw [if_neg c3] at H
  have c3b0 : (t141 == 0) = false := beq_eq_false_iff_ne.mpr c3
  have c3b1 : (t141 != 0) = true := bne_iff_ne.mpr c3
  simp only [Option.some.injEq, Prod.mk.injEq] at H
  obtain ⟨rfl, rfl⟩ := H
  go_enter Tryd.func139, Tryd.ntmps139
  go_wp2_with (first | ((with_reducible refine gate_callee (f := 143) rfl ?_); refine goesL_ (some 7) rfl rfl Tryd.func143 (by kernel_rfl) rfl #[.string a0] rfl (by (try simp only [List.map_toArray, List.map_cons, List.map_nil]); first | done | rfl | (simp only [List.length_drop, List.length_take]; rfl)) ?_; (with_reducible refine (near_large.calls a0 t141 _ A2.out).mono ?_); rintro e w' ⟨rfl, ⟨nd, rfl⟩⟩; refine ⟨_, rfl, ?_⟩))
  go_ret2
  exact ⟨_, by first | rfl | (simp [errW_none, errW_some] <;> rfl) | (simp [*, errW_none, errW_some] <;> rfl), by first | exact Kd.R_nil _ _ _ _ _ | exact Kd.N_nil _ _ _ _ _ | exact Kd.V_nil _ _ _ _ _ | exact Kd.Q_nil _ _ _ _ _ | exact Kd.S_nil _ _ _ _ _, by repeat (first | (with_reducible first | exact HB.out | apply below_alloc | apply pw_below_drewN | apply below_drew1) | exact HB.out)⟩
def near_both.f (k : Nat) (a0 : ByteArray) (a1 : ByteArray) : Option (List ByteArray × List ByteArray × Int) := (near_tokens.f k a0).bind fun bt146 => (if bt146.2 = 0 then ((near_tokens.f k a1).bind fun bt150 => (some (bt146.1, bt150.1, bt150.2))) else (some (([] : List ByteArray), ([] : List ByteArray), bt146.2)))
theorem near_both.mono : ∀ a0 a1 k, LeO (near_both.f k a0 a1) (near_both.f (k + 1) a0 a1) := by
  intro a0 a1 k
  unfold near_both.f
  repeat' first
      | (with_reducible exact near_tokens.mono _ _)
      | (with_reducible exact LeO.refl _)
      | (with_reducible exact LeO.none _)
      | (with_reducible refine LeO.ite ?_ ?_)
      | (with_reducible refine LeO.bind ?_ (fun _ => ?_))
      | exact near_tokens.mono _ _
      | exact LeO.none _
      | refine LeO.ite ?_ ?_
      | refine LeO.bind ?_ (fun _ => ?_)
set_option maxHeartbeats 8000000 in
set_option maxRecDepth 100000 in
theorem near_both.calls (k : Nat) (a0 : ByteArray) (a1 : ByteArray) (r1 : List ByteArray) (r2 : List ByteArray) (r3 : Int) (w : World) (hGl : Wd w) (h : near_both.f k a0 a1 = some (r1, r2, r3)) :
  Calls Tryd.prog 98 #[.string a0, .string a1] w fun e w' => ∃ v0_ v1_ : Value, e = .returned (.tuple #[v0_, v1_, .int .i64 r3]) ∧ Kd.R Kd.string 9 w' w.heap.size (fun k_ => some k_ ≠ (v1_ : Value).ownBlock) v0_ r1 ∧ Kd.R Kd.string 9 w' w.heap.size (fun k_ => some k_ ≠ (v0_ : Value).ownBlock) v1_ r2 ∧ Below w.heap.size w w' := by
 have HGl := Aside0.mk hGl
 clear hGl
 have HB := Aside0.mk (Below.refl w.heap.size w)
 have H : ((near_tokens.f k a0).bind fun bt146 => (if bt146.2 = 0 then ((near_tokens.f k a1).bind fun bt150 => (some (bt146.1, bt150.1, bt150.2))) else (some (([] : List ByteArray), ([] : List ByteArray), bt146.2)))) = some (r1, r2, r3) := h
 clear h
 replace H := Option.bind_eq_some_iff.mp H
 obtain ⟨⟨t146, t147⟩, A30, H⟩ := H
 replace H : (if t147 = 0 then ((near_tokens.f k a1).bind fun bt150 => (some (t146, bt150.1, bt150.2))) else (some (([] : List ByteArray), ([] : List ByteArray), t147))) = some (r1, r2, r3) := H
 have A3 := Aside0.mk A30
 clear A30
 by_cases c4 : t147 = 0
 ·rw [if_pos c4] at H
  have c4b0 : (t147 == 0) = true := beq_iff_eq.mpr c4
  have c4b1 : (t147 != 0) = false := bne_eq_false_iff_eq.mpr c4
  clear c4
  replace H := Option.bind_eq_some_iff.mp H
  obtain ⟨⟨t150, t151⟩, A50, H⟩ := H
  replace H : (some (t146, t150, t151)) = some (r1, r2, r3) := H
  have A5 := Aside0.mk A50
  clear A50
  simp only [Option.some.injEq, Prod.mk.injEq] at H
  obtain ⟨rfl, rfl, rfl⟩ := H
  go_enter Tryd.func98, Tryd.ntmps98
  go_wp2_with (first | ((with_reducible refine gate_callee (f := 139) rfl ?_); refine goesL_ (some 9) rfl rfl Tryd.func139 (by kernel_rfl) rfl #[.string a0] rfl (by (try simp only [List.map_toArray, List.map_cons, List.map_nil]); first | done | rfl | (simp only [List.length_drop, List.length_take]; rfl)) ?_; (with_reducible refine (near_tokens.calls k a0 t146 t147 _ ?side1 A3.out).mono ?_); (case side1 => exact Wd.below HGl.out (by repeat (first | (with_reducible first | exact HB.out | apply below_alloc | apply pw_below_drewN | apply below_drew1) | exact HB.out))); rintro e w6 ⟨v148, rfl, ho0, hb⟩; refine ⟨_, rfl, ?_⟩; have n0_ := Aside0.mk (Kd.R_lower ho0 (below_size (by repeat (first | (with_reducible first | exact HB.out | apply below_alloc | apply pw_below_drewN | apply below_drew1) | exact HB.out)))); have n1_ := Aside0.mk (below_step (by repeat (first | (with_reducible first | exact HB.out | apply below_alloc | apply pw_below_drewN | apply below_drew1) | exact HB.out)) hb); clear HB; have HO149 := n0_; have HB := n1_; clear n0_ n1_; (try clear hb); (try clear hb2); (try clear hk); (try clear hi); (try clear ho0)) | ((with_reducible refine gate_callee (f := 139) rfl ?_); refine goesL_ (some 17) rfl rfl Tryd.func139 (by kernel_rfl) rfl #[.string a1] rfl (by (try simp only [List.map_toArray, List.map_cons, List.map_nil]); first | done | rfl | (simp only [List.length_drop, List.length_take]; rfl)) ?_; (with_reducible refine (near_tokens.calls k a1 t150 t151 _ ?side1 A5.out).mono ?_); (case side1 => exact Wd.below HGl.out (by repeat (first | (with_reducible first | exact HB.out | apply below_alloc | apply pw_below_drewN | apply below_drew1) | exact HB.out))); rintro e w7 ⟨v152, rfl, ho0, hb⟩; refine ⟨_, rfl, ?_⟩; have n0_ := Aside0.mk (Kd.R_elder' (by (with_reducible repeat (first | apply Kd.R_alloc | apply Kd.R_drewN | apply Kd.R_drew)); exact HO149.out) (Kd.R_base ho0) hb); have n1_ := Aside0.mk (Kd.R_lower (Kd.R_new' ho0 (Kd.R_lt (by (with_reducible repeat (first | apply Kd.R_alloc | apply Kd.R_drewN | apply Kd.R_drew)); exact HO149.out))) (below_size (by repeat (first | (with_reducible first | exact HB.out | apply below_alloc | apply pw_below_drewN | apply below_drew1) | exact HB.out)))); have n2_ := Aside0.mk (below_step (by repeat (first | (with_reducible first | exact HB.out | apply below_alloc | apply pw_below_drewN | apply below_drew1) | exact HB.out)) hb); clear HO149; clear HB; have HO149 := n0_; have HO153 := n1_; have HB := n2_; clear n0_ n1_ n2_; (try clear hb); (try clear hb2); (try clear hk); (try clear hi); (try clear ho0)))
  go_ret3
  exact ⟨_, _, by first | rfl | (simp [errW_none, errW_some] <;> rfl) | (simp [*, errW_none, errW_some] <;> rfl), by (with_reducible repeat (first | apply Kd.R_alloc | apply Kd.R_drewN | apply Kd.R_drew)); exact Kd.R_mono HO149.out (fun _ hk => hk.2), by (with_reducible repeat (first | apply Kd.R_alloc | apply Kd.R_drewN | apply Kd.R_drew)); exact Kd.R_mono HO153.out (fun _ hk => hk.2), by repeat (first | (with_reducible first | exact HB.out | apply below_alloc | apply pw_below_drewN | apply below_drew1) | exact HB.out)⟩
 ·rw [if_neg c4] at H
  have c4b0 : (t147 == 0) = false := beq_eq_false_iff_ne.mpr c4
  have c4b1 : (t147 != 0) = true := bne_iff_ne.mpr c4
  simp only [Option.some.injEq, Prod.mk.injEq] at H
  obtain ⟨rfl, rfl, rfl⟩ := H
  go_enter Tryd.func98, Tryd.ntmps98
  go_wp2_with (first | ((with_reducible refine gate_callee (f := 139) rfl ?_); refine goesL_ (some 9) rfl rfl Tryd.func139 (by kernel_rfl) rfl #[.string a0] rfl (by (try simp only [List.map_toArray, List.map_cons, List.map_nil]); first | done | rfl | (simp only [List.length_drop, List.length_take]; rfl)) ?_; (with_reducible refine (near_tokens.calls k a0 t146 t147 _ ?side1 A3.out).mono ?_); (case side1 => exact Wd.below HGl.out (by repeat (first | (with_reducible first | exact HB.out | apply below_alloc | apply pw_below_drewN | apply below_drew1) | exact HB.out))); rintro e w8 ⟨v148, rfl, ho0, hb⟩; refine ⟨_, rfl, ?_⟩; have n0_ := Aside0.mk (Kd.R_lower ho0 (below_size (by repeat (first | (with_reducible first | exact HB.out | apply below_alloc | apply pw_below_drewN | apply below_drew1) | exact HB.out)))); have n1_ := Aside0.mk (below_step (by repeat (first | (with_reducible first | exact HB.out | apply below_alloc | apply pw_below_drewN | apply below_drew1) | exact HB.out)) hb); clear HB; have HO149 := n0_; have HB := n1_; clear n0_ n1_; (try clear hb); (try clear hb2); (try clear hk); (try clear hi); (try clear ho0)))
  go_ret3
  exact ⟨_, _, by first | rfl | (simp [errW_none, errW_some] <;> rfl) | (simp [*, errW_none, errW_some] <;> rfl), by first | exact Kd.R_nil _ _ _ _ _ | exact Kd.N_nil _ _ _ _ _ | exact Kd.V_nil _ _ _ _ _ | exact Kd.Q_nil _ _ _ _ _ | exact Kd.S_nil _ _ _ _ _, by first | exact Kd.R_nil _ _ _ _ _ | exact Kd.N_nil _ _ _ _ _ | exact Kd.V_nil _ _ _ _ _ | exact Kd.Q_nil _ _ _ _ _ | exact Kd.S_nil _ _ _ _ _, by repeat (first | (with_reducible first | exact HB.out | apply below_alloc | apply pw_below_drewN | apply below_drew1) | exact HB.out)⟩
def slices_Clone_string_string.f (l0 : List ByteArray) : Option (List ByteArray) := if l0.length * 16 ≤ 140737488355328 then (some l0) else (none)
set_option maxHeartbeats 8000000 in
set_option maxRecDepth 100000 in
theorem slices_Clone_string_string.calls (A0 : Option Addr) (c0 : Nat) (l0 : List ByteArray) (r : List ByteArray) (w : World) (hr0 : Kd.C Kd.string w A0 l0.length l0) (hc0 : l0.length ≤ c0) (h : slices_Clone_string_string.f l0 = some r) :
    Calls Tryd.prog 90 #[.slice A0 l0.length c0] w fun e w' => ∃ v0_ : Value, e = .returned (v0_) ∧ Kd.R Kd.string 9 w' w.heap.size (fun _ => True) v0_ r ∧ Below w.heap.size w w' := by
  unfold slices_Clone_string_string.f at h
  by_cases hc : l0.length * 16 ≤ 140737488355328
  · rw [if_pos hc] at h
    obtain rfl := Option.some.inj h
    rcases Nat.eq_zero_or_pos l0.length with h0 | h0
    · obtain rfl := List.eq_nil_of_length_eq_zero h0
      cases A0 with
      | none =>
        refine (Tryd.slices_Clone_string_nil 0 c0 w).mono ?_
        rintro e w' ⟨rfl, rfl⟩
        exact ⟨_, rfl, Kd.R_nil _ _ _ _ _, Below.refl _ _⟩
      | some a =>
        refine (Tryd.slices_Clone_string_zero a c0 w).mono ?_
        rintro e w' ⟨v', rfl, ho, _, hB⟩
        exact ⟨_, rfl, R_of (fun _ _ => trivial) ho, hB⟩
    · obtain ⟨b, o, rfl, hb, hcell⟩ := C_cells hr0 h0
      refine (Tryd.slices_Clone_string b o l0.length c0 l0 w (Nat.le_refl _) hc (fun j hj => by rw [hcell j l0[j] (List.getElem?_eq_getElem hj), List.getD_eq_getElem?_getD, List.getElem?_eq_getElem hj]; rfl)).mono ?_
      rintro e w' ⟨v', rfl, ho, _, hB⟩
      rw [List.take_length] at ho
      exact ⟨_, rfl, R_of (fun _ _ => trivial) ho, hB⟩
  · rw [if_neg hc] at h
    exact absurd h (by simp)
def slices_Index_string_string.l0 : Nat → List ByteArray → ByteArray → Int → Int → Option (Int)
  | 0, _, _, _, _ => none
  | k + 1, x0, x1, x7, x8 => if x8 < x7 then (if 0 ≤ x8 then (if x8 < (x0.length : Int) then (if x1.toList = (rdOf ByteArray.empty x0 x8).toList then (some x8) else (slices_Index_string_string.l0 k x0 x1 x7 (wrap64 (x8 + 1)))) else (none)) else (none)) else (some (-1))
def slices_Index_string_string.f (k : Nat) (l0 : List ByteArray) (a1 : ByteArray) : Option (Int) := slices_Index_string_string.l0 k l0 a1 (l0.length : Int) 0
theorem slices_Index_string_string.mono_l : ∀ k, (∀ y0 y1 y2 y3, LeO (slices_Index_string_string.l0 k y0 y1 y2 y3) (slices_Index_string_string.l0 (k + 1) y0 y1 y2 y3))
  | 0 => fun _ _ _ _ r h => by simp [slices_Index_string_string.l0] at h
  | k + 1 => by
    have ih0 := slices_Index_string_string.mono_l k
    · intro y0 y1 y2 y3
      unfold slices_Index_string_string.l0
      repeat' first
      | (with_reducible exact ih0 _ _ _ _)
      | (with_reducible exact LeO.refl _)
      | (with_reducible exact LeO.none _)
      | (with_reducible refine LeO.ite ?_ ?_)
      | (with_reducible refine LeO.bind ?_ (fun _ => ?_))
      | exact ih0 _ _ _ _
      | exact LeO.none _
      | refine LeO.ite ?_ ?_
      | refine LeO.bind ?_ (fun _ => ?_)
theorem slices_Index_string_string.mono : ∀ a0 a1 k, LeO (slices_Index_string_string.f k a0 a1) (slices_Index_string_string.f (k + 1) a0 a1) := by
  intro a0 a1 k
  have ih0 := slices_Index_string_string.mono_l k
  unfold slices_Index_string_string.f
  repeat' first
      | (with_reducible exact ih0 _ _ _ _)
      | (with_reducible exact LeO.refl _)
      | (with_reducible exact LeO.none _)
      | (with_reducible refine LeO.ite ?_ ?_)
      | (with_reducible refine LeO.bind ?_ (fun _ => ?_))
      | exact ih0 _ _ _ _
      | exact LeO.none _
      | refine LeO.ite ?_ ?_
      | refine LeO.bind ?_ (fun _ => ?_)
set_option maxHeartbeats 8000000 in
set_option maxRecDepth 100000 in
theorem slices_Index_string_string.calls (k : Nat) (A0 : Option Addr) (c0 : Nat) (l0 : List ByteArray) (a1 : ByteArray) (r : Int) (w : World) (hr0 : Kd.C Kd.string w A0 l0.length l0) (hc0 : l0.length ≤ c0) (h : slices_Index_string_string.f k l0 a1 = some r) :
  Calls Tryd.prog 93 #[.slice A0 l0.length c0, .string a1] w fun e w' => e = .returned (.int .i64 r) ∧ Drawn0 w w' := by
 have HR0 := Aside0.mk hr0
 have HC0 := Aside0.mk hc0
 clear hr0 hc0
 have H : (slices_Index_string_string.l0 k l0 a1 (l0.length : Int) 0) = some r := h
 clear h
 have H' := Aside0.mk H
 clear H
 go_enter Tryd.func93, Tryd.ntmps93
 go_wp2
 go_loopg [8] k (fun kq v8 w' => ∃ (x8_1 : Int), v8 = .int .i64 x8_1 ∧ Aside0 (slices_Index_string_string.l0 kq l0 a1 (l0.length : Int) x8_1 = some r) ∧ Aside0 (kq ≤ k) ∧ Drawn0 w w')
 case atStart => exact ⟨(0), (by first | rfl | (simp; done) | (simp [*]; done)), H', ⟨Nat.le_refl _⟩, by repeat (first | exact Drawn0.refl _ | apply Drawn0.step)⟩
 case round =>
  clear H'
  try clear p2
  obtain ⟨x8_1, rfl, HA, HK1, ⟨m1, rfl⟩⟩ := hrel
  cases gk with
  | zero => exact absurd HA.out (by simp [slices_Index_string_string.l0])
  | succ k1 =>
   have H := HA.out
   clear HA
   simp only [slices_Index_string_string.l0] at H
   by_cases c3 : x8_1 < (l0.length : Int)
   ·rw [if_pos c3] at H
    have c3b0 : decide (x8_1 < (l0.length : Int)) = true := decide_eq_true c3
    clear c3
    by_cases c4 : 0 ≤ x8_1
    ·rw [if_pos c4] at H
     have c4b0 : decide (0 ≤ x8_1) = true := decide_eq_true c4
     clear c4
     by_cases c5 : x8_1 < (l0.length : Int)
     ·rw [if_pos c5] at H
      have c5b0 : decide (x8_1 < (l0.length : Int)) = true := decide_eq_true c5
      clear c5
      by_cases c6 : a1.toList = (rdOf ByteArray.empty l0 x8_1).toList
      ·rw [if_pos c6] at H
       have c6b0 : (a1.toList == (rdOf ByteArray.empty l0 x8_1).toList) = true := beq_iff_eq.mpr c6
       have c6b1 : (a1.toList != (rdOf ByteArray.empty l0 x8_1).toList) = false := bne_eq_false_iff_eq.mpr c6
       clear c6
       obtain rfl := Option.some.inj H
       have p154 : 0 ≤ (x8_1 : Int) := of_decide_eq_true (by first | (with_reducible assumption) | assumption)
       have q154 : x8_1 < (l0.length : Int) := of_decide_eq_true (by first | (with_reducible assumption) | assumption)
       obtain ⟨ad154, e154, hx154_0⟩ := Kd.at_string HR0.out x8_1 p154 q154
       cases e154
       replace p154 := eq_true p154
       replace q154 := eq_true q154
       go_wp2
       go_ret
       exact ⟨by first | rfl | (simp; done) | (simp [*]; done), by repeat (first | exact Drawn0.refl _ | apply Drawn0.step)⟩
      ·rw [if_neg c6] at H
       have c6b0 : (a1.toList == (rdOf ByteArray.empty l0 x8_1).toList) = false := beq_eq_false_iff_ne.mpr c6
       have c6b1 : (a1.toList != (rdOf ByteArray.empty l0 x8_1).toList) = true := bne_iff_ne.mpr c6
       have H' := Aside0.mk H
       clear H
       have p154 : 0 ≤ (x8_1 : Int) := of_decide_eq_true (by first | (with_reducible assumption) | assumption)
       have q154 : x8_1 < (l0.length : Int) := of_decide_eq_true (by first | (with_reducible assumption) | assumption)
       obtain ⟨ad154, e154, hx154_0⟩ := Kd.at_string HR0.out x8_1 p154 q154
       cases e154
       replace p154 := eq_true p154
       replace q154 := eq_true q154
       go_wp2
       go_roundg k1
       case measure => have := HK1.out; omega
       case rel => exact ⟨(wrap64 (x8_1 + 1)), (by first | rfl | (simp; done) | (simp [*]; done)), H', ⟨by have := HK1.out; omega⟩, by repeat (first | exact Drawn0.refl _ | apply Drawn0.step)⟩
     ·rw [if_neg c5] at H
      exact absurd H (by simp)
    ·rw [if_neg c4] at H
     exact absurd H (by simp)
   ·rw [if_neg c3] at H
    have c3b0 : decide (x8_1 < (l0.length : Int)) = false := decide_eq_false c3
    clear c3
    obtain rfl := Option.some.inj H
    go_wp2
    go_ret
    exact ⟨by first | rfl | (simp; done) | (simp [*]; done), by repeat (first | exact Drawn0.refl _ | apply Drawn0.step)⟩
mutual
def near_kept.l0 : Nat → List ByteArray → List ByteArray → Int → List Int → Int → Option ((List (S166)))
  | 0, _, _, _, _, _ => none
  | k + 1, x0, x1, x5, x6, x7 => if x7 ≥ 0 then (near_kept.l1 k x0 x1 x5 x6 x7 (wrap64 ((x1.length : Int) - 1))) else (near_kept.l2 k x0 x1 x5 x6 ([] : List (S166)) 0 0)
def near_kept.l1 : Nat → List ByteArray → List ByteArray → Int → List Int → Int → Int → Option ((List (S166)))
  | 0, _, _, _, _, _, _ => none
  | k + 1, x0, x1, x5, x6, x7, x8 => if x8 ≥ 0 then (if 0 ≤ x7 then (if x7 < (x0.length : Int) then (if 0 ≤ x8 then (if x8 < (x1.length : Int) then (if (rdOf ByteArray.empty x0 x7).toList = (rdOf ByteArray.empty x1 x8).toList then (if 0 ≤ (wrap64 ((wrap64 ((wrap64 ((wrap64 (x7 + 1)) * x5)) + x8)) + 1)) then (if (wrap64 ((wrap64 ((wrap64 ((wrap64 (x7 + 1)) * x5)) + x8)) + 1)) < (x6.length : Int) then (if 0 ≤ (wrap64 ((wrap64 (x7 * x5)) + x8)) then (if (wrap64 ((wrap64 (x7 * x5)) + x8)) < (x6.length : Int) then (near_kept.l1 k x0 x1 x5 (x6.set ((wrap64 ((wrap64 (x7 * x5)) + x8)) : Int).toNat (wrap64 ((rd x6 (wrap64 ((wrap64 ((wrap64 ((wrap64 (x7 + 1)) * x5)) + x8)) + 1))) + 1))) x7 (wrap64 (x8 - 1))) else (none)) else (none)) else (none)) else (none)) else (if 0 ≤ (wrap64 ((wrap64 ((wrap64 (x7 + 1)) * x5)) + x8)) then (if (wrap64 ((wrap64 ((wrap64 (x7 + 1)) * x5)) + x8)) < (x6.length : Int) then (if 0 ≤ (wrap64 ((wrap64 ((wrap64 (x7 * x5)) + x8)) + 1)) then (if (wrap64 ((wrap64 ((wrap64 (x7 * x5)) + x8)) + 1)) < (x6.length : Int) then (if 0 ≤ (wrap64 ((wrap64 (x7 * x5)) + x8)) then (if (wrap64 ((wrap64 (x7 * x5)) + x8)) < (x6.length : Int) then (near_kept.l1 k x0 x1 x5 (x6.set ((wrap64 ((wrap64 (x7 * x5)) + x8)) : Int).toNat (mx (rd x6 (wrap64 ((wrap64 ((wrap64 (x7 + 1)) * x5)) + x8))) (rd x6 (wrap64 ((wrap64 ((wrap64 (x7 * x5)) + x8)) + 1))))) x7 (wrap64 (x8 - 1))) else (none)) else (none)) else (none)) else (none)) else (none)) else (none))) else (none)) else (none)) else (none)) else (none)) else (near_kept.l0 k x0 x1 x5 x6 (wrap64 (x7 - 1)))
def near_kept.l2 : Nat → List ByteArray → List ByteArray → Int → List Int → List (S166) → Int → Int → Option ((List (S166)))
  | 0, _, _, _, _, _, _, _ => none
  | k + 1, x0, x1, x5, x6, x9, x10, x11 => if x10 < (x0.length : Int) then (if 0 ≤ (wrap64 ((wrap64 (x10 * x5)) + x11)) then (if (wrap64 ((wrap64 (x10 * x5)) + x11)) < (x6.length : Int) then (near_kept.j3 k x0 x1 x5 x6 x9 x10 x11 (decide ((rd x6 (wrap64 ((wrap64 (x10 * x5)) + x11))) > 0))) else (none)) else (none)) else (near_kept.j3 k x0 x1 x5 x6 x9 x10 x11 false)
def near_kept.j3 : Nat → List ByteArray → List ByteArray → Int → List Int → List (S166) → Int → Int → Bool → Option ((List (S166)))
  | 0, _, _, _, _, _, _, _, _ => none
  | k + 1, x0, x1, x5, x6, x9, x10, x11, x103 => if x103 = true then (if 0 ≤ x11 then (if x11 ≤ (x1.length : Int) then (if 0 ≤ x10 then (if x10 < (x0.length : Int) then ((slices_Index_string_string.f k (x1.drop (x11 : Int).toNat) (rdOf ByteArray.empty x0 x10)).bind fun t168 => (if t168 ≥ 0 then (if 0 ≤ (wrap64 ((wrap64 ((wrap64 ((wrap64 ((wrap64 (x10 + 1)) * x5)) + x11)) + t168)) + 1)) then (if (wrap64 ((wrap64 ((wrap64 ((wrap64 ((wrap64 (x10 + 1)) * x5)) + x11)) + t168)) + 1)) < (x6.length : Int) then (if 0 ≤ (wrap64 ((wrap64 (x10 * x5)) + x11)) then (if (wrap64 ((wrap64 (x10 * x5)) + x11)) < (x6.length : Int) then (if (wrap64 ((rd x6 (wrap64 ((wrap64 ((wrap64 ((wrap64 ((wrap64 (x10 + 1)) * x5)) + x11)) + t168)) + 1))) + 1)) = (rd x6 (wrap64 ((wrap64 (x10 * x5)) + x11))) then (if x9.length < 8796093022208 then (near_kept.l2 k x0 x1 x5 x6 (x9 ++ [(⟨x10, wrap64 (x11 + t168)⟩ : S166)]) (wrap64 (x10 + 1)) (wrap64 (x11 + (wrap64 (t168 + 1))))) else (none)) else (near_kept.l2 k x0 x1 x5 x6 x9 (wrap64 (x10 + 1)) x11)) else (none)) else (none)) else (none)) else (none)) else (near_kept.l2 k x0 x1 x5 x6 x9 (wrap64 (x10 + 1)) x11))) else (none)) else (none)) else (none)) else (none)) else (some x9)
end
def near_kept.f (k : Nat) (l0 : List ByteArray) (l1 : List ByteArray) : Option ((List (S166))) := if 0 ≤ (wrap64 ((wrap64 ((l0.length : Int) + 1)) * (wrap64 ((l1.length : Int) + 1)))) then (if (wrap64 ((wrap64 ((l0.length : Int) + 1)) * (wrap64 ((l1.length : Int) + 1))) : Int).toNat ≤ 35184372088832 then (near_kept.l0 k l0 l1 (wrap64 ((l1.length : Int) + 1)) (List.replicate (wrap64 ((wrap64 ((l0.length : Int) + 1)) * (wrap64 ((l1.length : Int) + 1))) : Int).toNat 0) (wrap64 ((l0.length : Int) - 1))) else (none)) else (none)
theorem near_kept.mono_l : ∀ k, (∀ y0 y1 y2 y3 y4, LeO (near_kept.l0 k y0 y1 y2 y3 y4) (near_kept.l0 (k + 1) y0 y1 y2 y3 y4)) ∧ (∀ y0 y1 y2 y3 y4 y5, LeO (near_kept.l1 k y0 y1 y2 y3 y4 y5) (near_kept.l1 (k + 1) y0 y1 y2 y3 y4 y5)) ∧ (∀ y0 y1 y2 y3 y4 y5 y6, LeO (near_kept.l2 k y0 y1 y2 y3 y4 y5 y6) (near_kept.l2 (k + 1) y0 y1 y2 y3 y4 y5 y6)) ∧ (∀ y0 y1 y2 y3 y4 y5 y6 y7, LeO (near_kept.j3 k y0 y1 y2 y3 y4 y5 y6 y7) (near_kept.j3 (k + 1) y0 y1 y2 y3 y4 y5 y6 y7))
  | 0 => ⟨fun _ _ _ _ _ r h => by simp [near_kept.l0] at h, fun _ _ _ _ _ _ r h => by simp [near_kept.l1] at h, fun _ _ _ _ _ _ _ r h => by simp [near_kept.l2] at h, fun _ _ _ _ _ _ _ _ r h => by simp [near_kept.j3] at h⟩
  | k + 1 => by
    obtain ⟨ih0, ih1, ih2, ih3⟩ := near_kept.mono_l k
    refine ⟨?_, ?_, ?_, ?_⟩
    · intro y0 y1 y2 y3 y4
      unfold near_kept.l0
      repeat' first
      | (with_reducible exact ih0 _ _ _ _ _)
      | (with_reducible exact ih1 _ _ _ _ _ _)
      | (with_reducible exact ih2 _ _ _ _ _ _ _)
      | (with_reducible exact ih3 _ _ _ _ _ _ _ _)
      | (with_reducible exact slices_Index_string_string.mono _ _ _)
      | (with_reducible exact LeO.refl _)
      | (with_reducible exact LeO.none _)
      | (with_reducible refine LeO.ite ?_ ?_)
      | (with_reducible refine LeO.bind ?_ (fun _ => ?_))
      | exact ih0 _ _ _ _ _
      | exact ih1 _ _ _ _ _ _
      | exact ih2 _ _ _ _ _ _ _
      | exact ih3 _ _ _ _ _ _ _ _
      | exact slices_Index_string_string.mono _ _ _
      | exact LeO.none _
      | refine LeO.ite ?_ ?_
      | refine LeO.bind ?_ (fun _ => ?_)
    · intro y0 y1 y2 y3 y4 y5
      unfold near_kept.l1
      repeat' first
      | (with_reducible exact ih0 _ _ _ _ _)
      | (with_reducible exact ih1 _ _ _ _ _ _)
      | (with_reducible exact ih2 _ _ _ _ _ _ _)
      | (with_reducible exact ih3 _ _ _ _ _ _ _ _)
      | (with_reducible exact slices_Index_string_string.mono _ _ _)
      | (with_reducible exact LeO.refl _)
      | (with_reducible exact LeO.none _)
      | (with_reducible refine LeO.ite ?_ ?_)
      | (with_reducible refine LeO.bind ?_ (fun _ => ?_))
      | exact ih0 _ _ _ _ _
      | exact ih1 _ _ _ _ _ _
      | exact ih2 _ _ _ _ _ _ _
      | exact ih3 _ _ _ _ _ _ _ _
      | exact slices_Index_string_string.mono _ _ _
      | exact LeO.none _
      | refine LeO.ite ?_ ?_
      | refine LeO.bind ?_ (fun _ => ?_)
    · intro y0 y1 y2 y3 y4 y5 y6
      unfold near_kept.l2
      repeat' first
      | (with_reducible exact ih0 _ _ _ _ _)
      | (with_reducible exact ih1 _ _ _ _ _ _)
      | (with_reducible exact ih2 _ _ _ _ _ _ _)
      | (with_reducible exact ih3 _ _ _ _ _ _ _ _)
      | (with_reducible exact slices_Index_string_string.mono _ _ _)
      | (with_reducible exact LeO.refl _)
      | (with_reducible exact LeO.none _)
      | (with_reducible refine LeO.ite ?_ ?_)
      | (with_reducible refine LeO.bind ?_ (fun _ => ?_))
      | exact ih0 _ _ _ _ _
      | exact ih1 _ _ _ _ _ _
      | exact ih2 _ _ _ _ _ _ _
      | exact ih3 _ _ _ _ _ _ _ _
      | exact slices_Index_string_string.mono _ _ _
      | exact LeO.none _
      | refine LeO.ite ?_ ?_
      | refine LeO.bind ?_ (fun _ => ?_)
    · intro y0 y1 y2 y3 y4 y5 y6 y7
      unfold near_kept.j3
      repeat' first
      | (with_reducible exact ih0 _ _ _ _ _)
      | (with_reducible exact ih1 _ _ _ _ _ _)
      | (with_reducible exact ih2 _ _ _ _ _ _ _)
      | (with_reducible exact ih3 _ _ _ _ _ _ _ _)
      | (with_reducible exact slices_Index_string_string.mono _ _ _)
      | (with_reducible exact LeO.refl _)
      | (with_reducible exact LeO.none _)
      | (with_reducible refine LeO.ite ?_ ?_)
      | (with_reducible refine LeO.bind ?_ (fun _ => ?_))
      | exact ih0 _ _ _ _ _
      | exact ih1 _ _ _ _ _ _
      | exact ih2 _ _ _ _ _ _ _
      | exact ih3 _ _ _ _ _ _ _ _
      | exact slices_Index_string_string.mono _ _ _
      | exact LeO.none _
      | refine LeO.ite ?_ ?_
      | refine LeO.bind ?_ (fun _ => ?_)
theorem near_kept.mono : ∀ a0 a1 k, LeO (near_kept.f k a0 a1) (near_kept.f (k + 1) a0 a1) := by
  intro a0 a1 k
  obtain ⟨ih0, ih1, ih2, ih3⟩ := near_kept.mono_l k
  unfold near_kept.f
  repeat' first
      | (with_reducible exact ih0 _ _ _ _ _)
      | (with_reducible exact ih1 _ _ _ _ _ _)
      | (with_reducible exact ih2 _ _ _ _ _ _ _)
      | (with_reducible exact ih3 _ _ _ _ _ _ _ _)
      | (with_reducible exact slices_Index_string_string.mono _ _ _)
      | (with_reducible exact LeO.refl _)
      | (with_reducible exact LeO.none _)
      | (with_reducible refine LeO.ite ?_ ?_)
      | (with_reducible refine LeO.bind ?_ (fun _ => ?_))
      | exact ih0 _ _ _ _ _
      | exact ih1 _ _ _ _ _ _
      | exact ih2 _ _ _ _ _ _ _
      | exact ih3 _ _ _ _ _ _ _ _
      | exact slices_Index_string_string.mono _ _ _
      | exact LeO.none _
      | refine LeO.ite ?_ ?_
      | refine LeO.bind ?_ (fun _ => ?_)
def near_kept.T9 : Bool × List (List Nat × List Nat) := (true, [([], []), ([], []), ([0, 1], [0, 1]), ([2], [2]), ([], []), ([], []), ([4, 5], [4, 5]), ([6], [6]), ([3, 7], [3, 7])])
def near_kept.B9 : List Nat := [0, 0, 3, 7, 0, 0, 48, 112, 255]
theorem near_kept.tab9 : rtab .any (opsOf Tryd.f101 9) = near_kept.T9 := by kernel_rfl
theorem near_kept.bits9 : waitsOk near_kept.T9.2 near_kept.B9 = true := by kernel_rfl
def near_kept.T11 : Bool × List (List Nat × List Nat) := (true, [([], []), ([], []), ([], []), ([1, 2], [1, 2]), ([], []), ([3, 4], [3, 4]), ([], []), ([], []), ([7], [7]), ([], []), ([8, 9], [8, 9]), ([], []), ([10, 11], [10, 11]), ([6, 12], [6, 12]), ([13], [13]), ([], []), ([], []), ([], []), ([16, 17], [16, 17]), ([], []), ([18, 19], [18, 19]), ([20], [20]), ([15, 21], [15, 21]), ([22], [22]), ([14, 23], [14, 23]), ([0, 5, 0, 1, 2, 3, 4, 5, 6, 7, 8, 9, 10, 11, 12, 13, 14, 15, 16, 17, 18, 19, 20, 21, 22, 23, 24], [0, 5]), ([25, 24, 0, 1, 2, 3, 4, 5, 6, 7, 8, 9, 10, 11, 12, 13, 14, 15, 16, 17, 18, 19, 20, 21, 22, 23, 24], [24, 25])])
def near_kept.B11 : List Nat := [0, 0, 0, 6, 0, 30, 0, 0, 128, 0, 896, 0, 3968, 8128, 16320, 0, 0, 0, 196608, 0, 983040, 2031616, 4161536, 8355840, 16777152, 33554431, 67108863]
theorem near_kept.tab11 : rtab .any (opsOf Tryd.f101 11) = near_kept.T11 := by kernel_rfl
theorem near_kept.bits11 : waitsOk near_kept.T11.2 near_kept.B11 = true := by kernel_rfl
def near_kept.T16 : Bool × List (List Nat × List Nat) := (true, [([], []), ([], []), ([0, 1], [0, 1]), ([], []), ([], []), ([3, 4], [3, 4]), ([5], [5]), ([2, 6], [2, 6]), ([7, 7, 0, 1, 2, 3, 4, 5, 6, 7], [7])])
def near_kept.B16 : List Nat := [0, 0, 3, 0, 0, 24, 56, 127, 255]
theorem near_kept.tab16 : rtab .any (opsOf Tryd.f101 16) = near_kept.T16 := by kernel_rfl
theorem near_kept.bits16 : waitsOk near_kept.T16.2 near_kept.B16 = true := by kernel_rfl
def near_kept.T17 : Bool × List (List Nat × List Nat) := (true, [([], []), ([0], [0]), ([1], [1]), ([2], [2]), ([2], [2]), ([4, 2], [2, 4]), ([2], [2]), ([5, 6, 2], [2, 5, 6]), ([2], [2]), ([7, 8, 2], [2, 7, 8]), ([2], [2]), ([9, 10, 2], [2, 9, 10]), ([11, 2], [2, 11]), ([3, 12, 2], [2, 3, 12]), ([13, 2], [2, 13]), ([14, 2], [2, 14]), ([2], [2]), ([2], [2]), ([2], [2]), ([17, 18, 2], [2, 17, 18]), ([2], [2]), ([19, 20, 2], [2, 19, 20]), ([16, 21, 2], [2, 16, 21]), ([22, 2], [2, 22]), ([15, 23, 2], [2, 15, 23]), ([2, 24], [2, 24])])
def near_kept.B17 : List Nat := [0, 1, 3, 7, 7, 23, 7, 119, 7, 503, 7, 2039, 4087, 8191, 16383, 32767, 7, 7, 7, 393223, 7, 1966087, 4128775, 8323079, 16777215, 33554431]
theorem near_kept.tab17 : rtab .any (opsOf Tryd.f101 17) = near_kept.T17 := by kernel_rfl
theorem near_kept.bits17 : waitsOk near_kept.T17.2 near_kept.B17 = true := by kernel_rfl
abbrev near_kept.D0 : Array Bool := #[false, false, false, false, false, false, false, false, false, false, false, false, false, false, false, false, false, false, false, false, false, false, false, false, false, false, false]
abbrev near_kept.D1 : Array Bool := #[false, false, false, false, false, false, false, false, false, false, false, false, false, false, false, false, false, false, false, false, false, false, false, false, false, false]
abbrev near_kept.D2 : Array Bool := #[false, false, false, false, false, false, false, false, false]
abbrev near_kept.D3 : Array Bool := #[true, false, false, false, false, false, false, false, false, false, false, false, false, false, false, false, false, false, false, false, false, false, false, false, false, false, false]
abbrev near_kept.D4 : Array Bool := #[true, false, false, false, false, false, false, false, false, false, false, false, false, false, false, false, false, false, false, false, false, false, false, false, false, false]
abbrev near_kept.D5 : Array Bool := #[true, false, false, false, false, false, false, false, false]
abbrev near_kept.D6 : Array Bool := #[true, true, false, false, false, false, false, false, false, false, false, false, false, false, false, false, false, false, false, false, false, false, false, false, false, false, false]
abbrev near_kept.D7 : Array Bool := #[true, true, false, false, false, false, false, false, false, false, false, false, false, false, false, false, false, false, false, false, false, false, false, false, false, false]
abbrev near_kept.D8 : Array Bool := #[true, true, false, false, false, false, false, false, false]
abbrev near_kept.D9 : Array Bool := #[true, true, true, false, false, false, false, false, false, false, false, false, false, false, false, false, false, false, false, false, false, false, false, false, false, false, false]
abbrev near_kept.D10 : Array Bool := #[true, true, true, false, false, false, false, false, false, false, false, false, false, false, false, false, false, false, false, false, false, false, false, false, false, false]
abbrev near_kept.D11 : Array Bool := #[true, true, true, false, false, false, false, false, false]
abbrev near_kept.D12 : Array Bool := #[true, true, true, false, true, false, false, false, false]
abbrev near_kept.D13 : Array Bool := #[true, true, true, false, true, true, false, false, false]
abbrev near_kept.D14 : Array Bool := #[true, true, true, false, true, true, true, false, false]
abbrev near_kept.D15 : Array Bool := #[true, true, true, true, false, false, false, false, false, false, false, false, false, false, false, false, false, false, false, false, false, false, false, false, false, false, false]
abbrev near_kept.D16 : Array Bool := #[true, true, true, true, false, false, false, false, false, false, false, false, false, false, false, false, false, false, false, false, false, false, false, false, false, false]
abbrev near_kept.D17 : Array Bool := #[true, true, true, true, false, false, false, false, false]
abbrev near_kept.D18 : Array Bool := #[true, true, true, true, true, false, false, false, false, false, false, false, false, false, false, false, false, false, false, false, false, false, false, false, false, false, false]
abbrev near_kept.D19 : Array Bool := #[true, true, true, true, true, false, false, false, false, false, false, false, false, false, false, false, false, false, false, false, false, false, false, false, false, false]
abbrev near_kept.D20 : Array Bool := #[true, true, true, true, true, false, false, false, false]
abbrev near_kept.D21 : Array Bool := #[true, true, true, true, true, true, false, false, false, false, false, false, false, false, false, false, false, false, false, false, false, false, false, false, false, false, false]
abbrev near_kept.D22 : Array Bool := #[true, true, true, true, true, true, false, false, false, false, false, false, false, false, false, false, false, false, false, false, false, false, false, false, false, false]
abbrev near_kept.D23 : Array Bool := #[true, true, true, true, true, true, false, false, false]
abbrev near_kept.D24 : Array Bool := #[true, true, true, true, true, true, true, false, false, false, false, false, false, false, false, false, false, false, false, false, false, false, false, false, false, false, false]
abbrev near_kept.D25 : Array Bool := #[true, true, true, true, true, true, true, false, false, false, false, false, false, false, false, false, false, false, false, false, false, false, false, false, false, false]
abbrev near_kept.D26 : Array Bool := #[true, true, true, true, true, true, true, false, false]
abbrev near_kept.D27 : Array Bool := #[true, true, true, true, true, true, true, true, false, false, false, false, false, false, false, false, false, false, false, false, false, false, false, false, false, false, false]
abbrev near_kept.D28 : Array Bool := #[true, true, true, true, true, true, true, true, false, false, false, false, false, false, false, false, false, false, false, false, false, false, false, false, false, false]
abbrev near_kept.D29 : Array Bool := #[true, true, true, true, true, true, true, true, false]
abbrev near_kept.D30 : Array Bool := #[true, true, true, true, true, true, true, true, true, false, false, false, false, false, false, false, false, false, false, false, false, false, false, false, false, false, false]
abbrev near_kept.D31 : Array Bool := #[true, true, true, true, true, true, true, true, true, false, false, false, false, false, false, false, false, false, false, false, false, false, false, false, false, false]
abbrev near_kept.D32 : Array Bool := #[true, true, true, true, true, true, true, true, true, true, false, false, false, false, false, false, false, false, false, false, false, false, false, false, false, false, false]
abbrev near_kept.D33 : Array Bool := #[true, true, true, true, true, true, true, true, true, true, false, false, false, false, false, false, false, false, false, false, false, false, false, false, false, false]
abbrev near_kept.D34 : Array Bool := #[true, true, true, true, true, true, true, true, true, true, true, false, false, false, false, false, false, false, false, false, false, false, false, false, false, false, false]
abbrev near_kept.D35 : Array Bool := #[true, true, true, true, true, true, true, true, true, true, true, false, false, false, false, false, false, false, false, false, false, false, false, false, false, false]
abbrev near_kept.D36 : Array Bool := #[true, true, true, true, true, true, true, true, true, true, true, true, false, false, false, false, false, false, false, false, false, false, false, false, false, false, false]
abbrev near_kept.D37 : Array Bool := #[true, true, true, true, true, true, true, true, true, true, true, true, false, false, false, false, false, false, false, false, false, false, false, false, false, false]
abbrev near_kept.D38 : Array Bool := #[true, true, true, true, true, true, true, true, true, true, true, true, true, false, false, false, false, false, false, false, false, false, false, false, false, false, false]
abbrev near_kept.D39 : Array Bool := #[true, true, true, true, true, true, true, true, true, true, true, true, true, false, false, false, false, false, false, false, false, false, false, false, false, false]
abbrev near_kept.D40 : Array Bool := #[true, true, true, true, true, true, true, true, true, true, true, true, true, true, false, false, false, false, false, false, false, false, false, false, false, false, false]
abbrev near_kept.D41 : Array Bool := #[true, true, true, true, true, true, true, true, true, true, true, true, true, true, false, false, false, false, false, false, false, false, false, false, false, false]
abbrev near_kept.D42 : Array Bool := #[true, true, true, true, true, true, true, true, true, true, true, true, true, true, false, false, true, false, false, false, false, false, false, false, false, false]
abbrev near_kept.D43 : Array Bool := #[true, true, true, true, true, true, true, true, true, true, true, true, true, true, false, false, true, true, false, false, false, false, false, false, false, false]
abbrev near_kept.D44 : Array Bool := #[true, true, true, true, true, true, true, true, true, true, true, true, true, true, false, false, true, true, true, false, false, false, false, false, false, false]
abbrev near_kept.D45 : Array Bool := #[true, true, true, true, true, true, true, true, true, true, true, true, true, true, false, false, true, true, true, true, false, false, false, false, false, false]
abbrev near_kept.D46 : Array Bool := #[true, true, true, true, true, true, true, true, true, true, true, true, true, true, false, false, true, true, true, true, true, false, false, false, false, false]
abbrev near_kept.D47 : Array Bool := #[true, true, true, true, true, true, true, true, true, true, true, true, true, true, false, false, true, true, true, true, true, true, false, false, false, false]
abbrev near_kept.D48 : Array Bool := #[true, true, true, true, true, true, true, true, true, true, true, true, true, true, false, false, true, true, true, true, true, true, true, false, false, false]
abbrev near_kept.D49 : Array Bool := #[true, true, true, true, true, true, true, true, true, true, true, true, true, true, false, true, false, false, false, false, false, false, false, false, false, false, false]
abbrev near_kept.D50 : Array Bool := #[true, true, true, true, true, true, true, true, true, true, true, true, true, true, false, true, true, false, false, false, false, false, false, false, false, false, false]
abbrev near_kept.D51 : Array Bool := #[true, true, true, true, true, true, true, true, true, true, true, true, true, true, false, true, true, true, false, false, false, false, false, false, false, false, false]
abbrev near_kept.D52 : Array Bool := #[true, true, true, true, true, true, true, true, true, true, true, true, true, true, false, true, true, true, true, false, false, false, false, false, false, false, false]
abbrev near_kept.D53 : Array Bool := #[true, true, true, true, true, true, true, true, true, true, true, true, true, true, false, true, true, true, true, true, false, false, false, false, false, false, false]
abbrev near_kept.D54 : Array Bool := #[true, true, true, true, true, true, true, true, true, true, true, true, true, true, false, true, true, true, true, true, true, false, false, false, false, false, false]
abbrev near_kept.D55 : Array Bool := #[true, true, true, true, true, true, true, true, true, true, true, true, true, true, false, true, true, true, true, true, true, true, false, false, false, false, false]
abbrev near_kept.D56 : Array Bool := #[true, true, true, true, true, true, true, true, true, true, true, true, true, true, false, true, true, true, true, true, true, true, true, false, false, false, false]
abbrev near_kept.D57 : Array Bool := #[true, true, true, true, true, true, true, true, true, true, true, true, true, true, true, false, false, false, false, false, false, false, false, false, false, false]
abbrev near_kept.D58 : Array Bool := #[true, true, true, true, true, true, true, true, true, true, true, true, true, true, true, false, true, true, true, true, true, true, true, false, false, false]
abbrev near_kept.D59 : Array Bool := #[true, true, true, true, true, true, true, true, true, true, true, true, true, true, true, true, false, false, false, false, false, false, false, false, false, false]
abbrev near_kept.D60 : Array Bool := #[true, true, true, true, true, true, true, true, true, true, true, true, true, true, true, true, true, false, false, false, false, false, false, false, false, false]
abbrev near_kept.D61 : Array Bool := #[true, true, true, true, true, true, true, true, true, true, true, true, true, true, true, true, true, true, false, false, false, false, false, false, false, false]
abbrev near_kept.D62 : Array Bool := #[true, true, true, true, true, true, true, true, true, true, true, true, true, true, true, true, true, true, true, false, false, false, false, false, false, false]
abbrev near_kept.D63 : Array Bool := #[true, true, true, true, true, true, true, true, true, true, true, true, true, true, true, true, true, true, true, true, false, false, false, false, false, false]
abbrev near_kept.D64 : Array Bool := #[true, true, true, true, true, true, true, true, true, true, true, true, true, true, true, true, true, true, true, true, true, false, false, false, false, false]
abbrev near_kept.D65 : Array Bool := #[true, true, true, true, true, true, true, true, true, true, true, true, true, true, true, true, true, true, true, true, true, true, false, false, false, false]
abbrev near_kept.D66 : Array Bool := #[true, true, true, true, true, true, true, true, true, true, true, true, true, true, true, true, true, true, true, true, true, true, true, false, false, false, false]
abbrev near_kept.D67 : Array Bool := #[true, true, true, true, true, true, true, true, true, true, true, true, true, true, true, true, true, true, true, true, true, true, true, false, false, false]
abbrev near_kept.D68 : Array Bool := #[true, true, true, true, true, true, true, true, true, true, true, true, true, true, true, true, true, true, true, true, true, true, true, true, false, false, false]
abbrev near_kept.D69 : Array Bool := #[true, true, true, true, true, true, true, true, true, true, true, true, true, true, true, true, true, true, true, true, true, true, true, true, false, false]
abbrev near_kept.D70 : Array Bool := #[true, true, true, true, true, true, true, true, true, true, true, true, true, true, true, true, true, true, true, true, true, true, true, true, true, false, false]
abbrev near_kept.D71 : Array Bool := #[true, true, true, true, true, true, true, true, true, true, true, true, true, true, true, true, true, true, true, true, true, true, true, true, true, false]
abbrev near_kept.D72 : Array Bool := #[true, true, true, true, true, true, true, true, true, true, true, true, true, true, true, true, true, true, true, true, true, true, true, true, true, true, false]
abbrev near_kept.D73 : Array Bool := #[true, true, true, true, true, true, true, true, true, true, true, true, true, true, true, true, true, true, true, true, true, true, true, true, true, true, true]
abbrev near_kept.D74 : Array Bool := #[true, true, true, true, true, true, true, true, true, true, true, true, true, true, true, true, true, true, true, true, true, true, true, true, true, true]
abbrev near_kept.D75 : Array Bool := #[true, true, true, true, true, true, true, true, true]
end Go.Proofs.YtomamgapdeggjaaDoor.Pl
