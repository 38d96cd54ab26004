/- A part of the proof of textsCovered. No conditions. Laid by program over the kit's print and words. -/
import Derived.Test.YtolcpmdojlbhcaaDoorZyPxx0
import Derived.Test.YtolcpmdojlbhcaaDoorZyPxx12
import Derived.Test.YtolcpmdojlbhcaaDoorZyPxx13
namespace Go.Proofs.YtolcpmdojlbhcaaDoor.Px
open Go.RowKit Go.Proofs.YtolcpmdojlbhcaaDoor.GBase Go.Proofs.YtolcpmdojlbhcaaDoorW.PrintWords Go.Proofs.YtolcpmdojlbhcaaDoorW.PrintLast Go.Proofs.YtolcpmdojlbhcaaDoorW.PrintMore
attribute [local go_sem] str_leq max2_int min2_int max_two min_two max_three min_three max_four min_four
set_option linter.unusedVariables false
set_option linter.unusedSimpArgs false
set_option maxHeartbeats 8000000 in
set_option maxRecDepth 100000 in
theorem Z10.calls (k : Nat) (A0 : Option Addr) (c0 : Nat) (l0 : List Bool) (r : List (S46)) (w : World) (hr0 : Kd.C Kd.bool w A0 l0.length l0) (hc0 : l0.length ≤ c0) (h : Z10.f k l0 = some r) :
  Calls Tryd.prog 71 #[.slice A0 l0.length c0] w fun e w' => ∃ v0_ : Value, e = .returned (v0_) ∧ Kd.R k46 46 w' w.heap.size (fun _ => True) v0_ r ∧ Below w.heap.size w w' := by
 have hu46 := Tryd.underlying46
 have HR0 := am_ hr0; have HC0 := am_ hc0; clear hr0 hc0
 have HB := am_ (Below.refl w.heap.size w)
 have H : (Z10.l0 k l0 ([] : List (S46)) l0 (l0.length : Int) 0) = some r := h
 clear h
 have H' := am_ H
 clear H
 go_enter Tryd.func71, Tryd.ntmps71
 go_wp2
 go_loopg [3, 8] k (fun kq v3 v8 w' => ∃ (x3_1 : List (S46)) (x8_1 : Int), v8 = .int .i64 x8_1 ∧ Aside0 (Z10.l0 kq l0 x3_1 l0 (l0.length : Int) x8_1 = some r) ∧ Aside0 (kq ≤ k) ∧ Aside0 (Kd.R k46 46 w' w.heap.size (fun _ => True) v3 x3_1) ∧ Aside0 (Below w.heap.size w w'))
 case atStart => exact ⟨(([] : List (S46))), (0), tr_, H', ⟨Nat.le_refl _⟩, ⟨by first | exact Kd.R_nil _ _ _ _ _ | exact Kd.N_nil _ _ _ _ _ | exact Kd.V_nil _ _ _ _ _ | exact Kd.Q_nil _ _ _ _ _ | exact Kd.S_nil _ _ _ _ _⟩, ⟨bw_ HB.out⟩⟩
 case round =>
  clear H'; obtain ⟨x3_1, x8_1, rfl, HA, HK1, HO_3, HB⟩ := hrel
  cases gk with
  | zero => exact absurd HA.out (by simp [Z10.l0])
  | succ k1 =>
   have H := HA.out
   clear HA
   simp only [Z10.l0] at H
   by_cases c2 : x8_1 < (l0.length : Int)
   ·rw [if_pos c2] at H
    have c2b0 := decide_eq_true c2; clear c2
    by_cases c3 : 0 ≤ x8_1
    case neg => exact (nn_ c3 H).elim
    rw [if_pos c3] at H; have c3b0 := decide_eq_true c3; clear c3
    by_cases c4 : x8_1 < (l0.length : Int)
    case neg => exact (nn_ c4 H).elim
    rw [if_pos c4] at H; have c4b0 := decide_eq_true c4; clear c4; have HC5 := am_ H; clear H; have p365 : 0 ≤ (x8_1 : Int) := ode_; have q365 : x8_1 < (l0.length : Int) := ode_
    obtain ⟨ad365, e365, hx365_0⟩ := Kd.at_bool HR0.out x8_1 p365 q365
    cases e365
    first | replace hx365_0 := (HB.out.cell (World.block_lt_of_cell? w _ hx365_0)).trans hx365_0 | skip
    replace p365 := eq_true p365; replace q365 := eq_true q365
    obtain ⟨bq6, hbq6⟩ : ∃ b_ : Bool, b_ = (rdOf false l0 x8_1) := ⟨_, rfl⟩
    have Nbq6 := am_ hbq6; clear hbq6
    have HCX := HC5.out
    rw [← Nbq6.out] at HCX
    clear HC5; have HC5 := am_ HCX; clear HCX
    (try rw [← Nbq6.out] at hx365_0)
    (try rw [← Nbq6.out])
    go_upto_region 5 with (fail)
    go_cut [25] (fun v25 wc => ∃ (kq : Nat) (x25_4 : Bool), v25 = .bool x25_4 ∧ Aside0 (Z10.j1 kq l0 x3_1 x8_1 bq6 l0 (l0.length : Int) x8_1 x25_4 = some r) ∧ Aside0 (kq ≤ k1) ∧ Aside0 (Kd.R k46 46 wc w.heap.size (fun _ => True) u3 x3_1) ∧ Aside0 (Below w.heap.size w wc))
    case first =>
     have H := HC5.out
     clear HC5
     replace H : (if bq6 = true then (if x8_1 = 0 then (Z10.j1 k1 l0 x3_1 x8_1 true l0 (l0.length : Int) x8_1 true) else (if 0 ≤ (wrap64 (x8_1 - 1)) then (if (wrap64 (x8_1 - 1)) < (l0.length : Int) then (Z10.j1 k1 l0 x3_1 x8_1 true l0 (l0.length : Int) x8_1 (!(rdOf false l0 (wrap64 (x8_1 - 1))))) else (none)) else (none))) else (Z10.j1 k1 l0 x3_1 x8_1 false l0 (l0.length : Int) x8_1 false)) = some r := H
     by_cases c7 : bq6 = true
     ·subst c7
      have H1 : (if x8_1 = 0 then (Z10.j1 k1 l0 x3_1 x8_1 true l0 (l0.length : Int) x8_1 true) else (if 0 ≤ (wrap64 (x8_1 - 1)) then (if (wrap64 (x8_1 - 1)) < (l0.length : Int) then (Z10.j1 k1 l0 x3_1 x8_1 true l0 (l0.length : Int) x8_1 (!(rdOf false l0 (wrap64 (x8_1 - 1))))) else (none)) else (none))) = some r := by rw [if_pos rfl] at H; exact H
      clear H
      have H := H1
      clear H1
      by_cases c8 : x8_1 = 0
      ·rw [if_pos c8] at H
       have c8b0 : (x8_1 == 0) = true := beq_iff_eq.mpr c8
       have c8b1 : (x8_1 != 0) = false := bne_eq_false_iff_eq.mpr c8
       clear c8
       have H' := am_ H
       clear H
       go_wp2
       go_meet
       case rel => exact ⟨_, (true), tr_, H', ⟨by have := HK1.out; first | omega | exact Nat.le_refl _⟩, ⟨rr_ HO_3.out⟩, ⟨bw_ HB.out⟩⟩
      ·rw [if_neg c8] at H
       have c8b0 : (x8_1 == 0) = false := beq_eq_false_iff_ne.mpr c8
       have c8b1 : (x8_1 != 0) = true := bne_iff_ne.mpr c8
       obtain ⟨ji9, hji9⟩ : ∃ j_ : Int, (wrap64 (x8_1 - 1)) = j_ := ⟨_, rfl⟩
       replace H : (if 0 ≤ (ji9) then (if (ji9) < (l0.length : Int) then (Z10.j1 k1 l0 x3_1 x8_1 true l0 (l0.length : Int) x8_1 (!(rdOf false l0 (ji9)))) else (none)) else (none)) = some r := by first | (rw [hji9] at H; exact H) | (simp only [hji9] at H ⊢; exact H)
       have hji9w : (IntKind.i64.wrap (x8_1 - 1)) = ji9 := (i64_w _).trans hji9
       by_cases c10 : 0 ≤ (ji9)
       case neg => exact (nn_ c10 H).elim
       rw [if_pos c10] at H; have c10b0 := decide_eq_true c10; clear c10
       by_cases c11 : (ji9) < (l0.length : Int)
       case neg => exact (nn_ c11 H).elim
       rw [if_pos c11] at H; have c11b0 := decide_eq_true c11; clear c11
       have H' := am_ H
       clear H; have p366 : 0 ≤ ((ji9) : Int) := ode_; have q366 : (ji9) < (l0.length : Int) := ode_
       obtain ⟨ad366, e366, hx366_0⟩ := Kd.at_bool HR0.out (ji9) p366 q366
       (try rw [← Nbq6.out] at hx366_0)
       obtain rfl : ad365 = ad366 := (by injection e366)
       first | replace hx366_0 := (HB.out.cell (World.block_lt_of_cell? w _ hx366_0)).trans hx366_0 | skip
       replace p366 := eq_true p366; replace q366 := eq_true q366
       go_wp2
       go_meet
       case rel => exact ⟨_, (!(rdOf false l0 (ji9))), (by first | rfl | (simp; done) | (simp only [← hji9] <;> (first | rfl | simp)) | (simp [*]; done)), H', ⟨by have := HK1.out; first | omega | exact Nat.le_refl _⟩, ⟨rr_ HO_3.out⟩, ⟨bw_ HB.out⟩⟩
     ·replace c7 := Bool.eq_false_iff.mpr c7
      subst c7
      have H1 : (Z10.j1 k1 l0 x3_1 x8_1 false l0 (l0.length : Int) x8_1 false) = some r := by rw [if_neg (show ¬ (false = true) by decide)] at H; exact H
      clear H
      have H := H1
      clear H1
      have H' := am_ H
      clear H
      go_wp2
      go_meet
      case rel => exact ⟨_, (false), tr_, H', ⟨by have := HK1.out; first | omega | exact Nat.le_refl _⟩, ⟨rr_ HO_3.out⟩, ⟨bw_ HB.out⟩⟩
    case rest =>
     clear HC5; (try clear c1); (try clear c2); (try clear c2b0); (try clear p2); (try clear c3); (try clear c3b0); (try clear p3); (try clear q3); (try clear hx3); (try clear c4); (try clear c4b0); (try clear p6); (try clear q6); (try clear c7); (try clear c8); (try clear c8b0); (try clear c8b1); (try clear c10); (try clear c10b0); (try clear c11); (try clear c11b0); (try clear hx365_0); (try clear hx366_0); (try clear p365); (try clear p366); (try clear q365); (try clear q366); obtain ⟨kq, x25_4, rfl, HA, HJ4, HO_3, HB⟩ := hcut
     cases kq with
     | zero => exact absurd HA.out (by simp [Z10.j1])
     | succ kj4 =>
      have H := HA.out
      clear HA
      simp only [Z10.j1] at H
      by_cases c12 : x25_4 = true
      ·subst c12
       have H1 : (if x3_1.length < 8796093022208 then ((some (x3_1 ++ [(⟨x8_1, 0⟩ : S46)] : List (S46))).bind fun y367 => (if bq6 = true then (if 0 ≤ (wrap64 ((y367.length : Int) - 1)) then (if (wrap64 ((y367.length : Int) - 1)) < (y367.length : Int) then (Z10.l0 kj4 l0 (y367.set ((wrap64 ((y367.length : Int) - 1)) : Int).toNat (⟨(rd_T46 y367 (wrap64 ((y367.length : Int) - 1))).f0, wrap64 (x8_1 + 1)⟩ : S46)) l0 (l0.length : Int) (wrap64 (x8_1 + 1))) else (none)) else (none)) else (Z10.l0 kj4 l0 y367 l0 (l0.length : Int) (wrap64 (x8_1 + 1))))) else (none)) = some r := by rw [if_pos rfl] at H; exact H
       clear H
       have H := H1
       clear H1
       by_cases c13 : x3_1.length < 8796093022208
       case neg => exact (nn_ c13 H).elim
       rw [if_pos c13] at H; have LMc13 := am_ c13; clear c13
       obtain ⟨y367, hy367⟩ : ∃ y_ : List (S46), y_ = (x3_1 ++ [(⟨x8_1, 0⟩ : S46)]) := ⟨_, rfl⟩
       replace H : (if bq6 = true then (if 0 ≤ (wrap64 ((y367.length : Int) - 1)) then (if (wrap64 ((y367.length : Int) - 1)) < (y367.length : Int) then (Z10.l0 kj4 l0 (y367.set ((wrap64 ((y367.length : Int) - 1)) : Int).toNat (⟨(rd_T46 y367 (wrap64 ((y367.length : Int) - 1))).f0, wrap64 (x8_1 + 1)⟩ : S46)) l0 (l0.length : Int) (wrap64 (x8_1 + 1))) else (none)) else (none)) else (Z10.l0 kj4 l0 y367 l0 (l0.length : Int) (wrap64 (x8_1 + 1)))) = some r := by first | (rw [hy367]; with_reducible exact H) | (have H2_ := (Option.bind_some _ _).symm.trans H; rw [hy367]; with_reducible exact H2_) | (have H2_ := (Option.bind_some _ _).symm.trans H; with_reducible exact H2_) | with_reducible exact H | (rw [hy367]; exact H) | exact H
       have Ny367 := am_ hy367; clear hy367
       by_cases c15 : (bq6) = true
       ·rw [if_pos c15] at H
        have c15b0 : (bq6) = true := c15
        clear c15; subst c15b0
        obtain ⟨ji16, hji16⟩ : ∃ j_ : Int, (wrap64 ((y367.length : Int) - 1)) = j_ := ⟨_, rfl⟩
        replace H : (if 0 ≤ (ji16) then (if (ji16) < (y367.length : Int) then (Z10.l0 kj4 l0 (y367.set ((ji16) : Int).toNat (⟨(rd_T46 y367 (ji16)).f0, wrap64 (x8_1 + 1)⟩ : S46)) l0 (l0.length : Int) (wrap64 (x8_1 + 1))) else (none)) else (none)) = some r := by first | (rw [hji16] at H; exact H) | (simp only [hji16] at H ⊢; exact H)
        have hji16w : (IntKind.i64.wrap ((y367.length : Int) - 1)) = ji16 := (i64_w _).trans hji16
        by_cases c17 : 0 ≤ (ji16)
        case neg => exact (nn_ c17 H).elim
        rw [if_pos c17] at H; have c17b0 := decide_eq_true c17; clear c17
        by_cases c18 : (ji16) < (y367.length : Int)
        case neg => exact (nn_ c18 H).elim
        rw [if_pos c18] at H; have c18b0 := decide_eq_true c18; clear c18
        obtain ⟨y370, hy370⟩ : ∃ y_ : List (S46), y_ = (y367.set ((ji16) : Int).toNat (⟨(rd_T46 y367 (ji16)).f0, wrap64 (x8_1 + 1)⟩ : S46)) := ⟨_, rfl⟩
        replace H : (Z10.l0 kj4 l0 y370 l0 (l0.length : Int) (wrap64 (x8_1 + 1))) = some r := by first | (rw [hy370]; with_reducible exact H) | (have H2_ := (Option.bind_some _ _).symm.trans H; rw [hy370]; with_reducible exact H2_) | (have H2_ := (Option.bind_some _ _).symm.trans H; with_reducible exact H2_) | with_reducible exact H | (rw [hy370]; exact H) | exact H
        have Ny370 := am_ hy370; clear hy370
        have H' := am_ H
        clear H
        go_wp2_with (first | ((with_reducible refine gate_builtin (b := .append) (xs := #[.tmp 26, .tmp 29]) rfl ?_); at_builtin; refine Kd.R_append k46 (w0 := w) w.heap.size rfl (.tmp 26) (.tmp 29) 38 46 (.agg #[(.int .i64 0), (.int .i64 0)]) 16 rfl Tryd.underlying38 info46 rfl (by decide) (by omega) u3 x3_1 (⟨x8_1, 0⟩ : S46) [.int .i64 x8_1, .int .i64 0] (fun _ => True) (fun _ => False) rfl rfl ?aP (fun _ hk => hk.elim) ?aF ?aO ?aB ?aS ?aL ?_; (case aP => exact k46_mkM _ _ _ (⟨x8_1, 0⟩ : S46)); (case aB => exact (bw_ HB.out)); (case aF => exact (fun _ _ => trivial)); (case aO => exact (rr_ HO_3.out)); (case aS => exact (below_size (bw_ HB.out))); (case aL => have := LMc13.out; omega); intro v368 w20 ho hb hg hat; rw [← Ny367.out] at ho; have n0_ := am_ (hb); have n1_ := am_ (ho); clear HB; clear HO_3; have HB := n0_; have HO369 := n1_; clear n0_ n1_; clear ho hb hg hat; obtain ⟨Ao21, co21, eo21⟩ := Kd.R_slice HO369.out; subst eo21; have p19 : 0 ≤ ((ji16) : Int) := ode_; have q19 : ((ji16) : Int) < ((y367.length : Int) : Int) := ode_; obtain ⟨go19, co19, eo19, gb19, gl19, cl19, HG19⟩ := Kd.R_form HO369.out (by omega); (first | cases eo19 | (injection eo19 with ea_ en_ ec_; (first | subst ea_ | (injection ea_ with ea_; subst ea_)); subst ec_; clear en_)); have GB19 := am_ gb19; have GG19 := am_ HG19; clear gb19 gl19 HG19; obtain ⟨ce19, hcl19, hM19, hcc19, hfr19⟩ := Kd.R_elem HO369.out z46 ((ji16) : Int) p19 q19; obtain rfl := k46_openM hM19; have hx19_0 : w20.cell? ⟨go19, ((ji16) : Int).toNat * 2, none⟩ = some (.int .i64 ((rd_T46 y367 (ji16)).f0)) := hcc19 0 _ rfl; have hx19_1 : w20.cell? ⟨go19, ((ji16) : Int).toNat * 2 + 1, none⟩ = some (.int .i64 ((rd_T46 y367 (ji16)).f1)) := hcc19 1 _ rfl; have hf19_0 : w20.frozen? ⟨go19, ((ji16) : Int).toNat * 2, none⟩ = false := hfr19 0; have hf19_1 : w20.frozen? ⟨go19, ((ji16) : Int).toNat * 2 + 1, none⟩ = false := hfr19 1; (try clear hM19); clear hcl19 hcc19 hfr19; replace p19 := eq_true p19; replace q19 := eq_true q19; have HX22 := am_ (show Kd.R k46 46 w20 w.heap.size (fun _ => True) (.slice (some ⟨go19, 0, none⟩) y367.length co21) y367 from (rr_ HO369.out)); obtain ⟨ce22, hcl22, hM22, hcc22, hfr22⟩ := Kd.R_elem HX22.out z46 ((ji16) : Int) (ode_) (by have h_ : ((ji16) : Int) < ((y367.length : Int) : Int) := ode_; first | exact h_ | (have e_ := (Kd.R_reads' HO369.out).1; omega) | simpa using h_); obtain rfl := k46_openM hM22; have HP22 := Kd.R_seg HX22.out ((ji16) : Int) (ode_) (by have h_ : ((ji16) : Int) < ((y367.length : Int) : Int) := ode_; first | exact h_ | (have e_ := (Kd.R_reads' HO369.out).1; omega) | simpa using h_) (seg := [.int .i64 (wrap64 (x8_1 + 1))]) (j := 1) hcl22 hcc22 (show 2 ≤ 2 from by decide) (x' := (⟨(rd_T46 y367 (ji16)).f0, wrap64 (x8_1 + 1)⟩ : S46)) (k46_mkM _ _ _ (⟨(rd_T46 y367 (ji16)).f0, wrap64 (x8_1 + 1)⟩ : S46) ) (fun _ hk => hk); have hx22_1 := hcc22 1 _ rfl; (try simp only [show (k46).sz = 2 from rfl, Nat.mul_one, Nat.add_zero] at hx22_1); have hf22_1 := hfr22 1; (try simp only [show (k46).sz = 2 from rfl, Nat.mul_one, Nat.add_zero] at hf22_1); (try clear hM22); clear hcl22 hcc22 hfr22) | ((with_reducible refine gate_store (t := 3) (p := 39) rfl ?_); refine store_event (t := 3) (p := 39) (v := ?vo_w23) (w1 := (w20.setCell ⟨go19, ((ji16) : Int).toNat * 2 + 1, none⟩ (.int .i64 (wrap64 (x8_1 + 1))))) ?hg ?ho ?hn ?hr ?_; (case ho => rfl); (case hg => rfl); (case hn => rfl); (case hr => first | (go_simp; done) | (go_simp; rfl)); intro w23 hw; have hg : w20.grownBy w23 (some go19) := (by rw [hw]; exact HP22.2); have hp_ : Kd.R k46 46 w23 w.heap.size (fun _ => True) (.slice (some ⟨go19, 0, none⟩) y367.length co21) y370 := (by rw [hw, Ny370.out]; exact HP22.1); clear HP22; have n0_ := am_ (hp_); have n1_ := am_ ((by rw [hw]; exact below_set (HB.out) GB19.out : Below w.heap.size w w23)); clear HO369; clear HB; have HO369 := n0_; have HB := n1_; clear n0_ n1_; clear hg hw hp_))
        go_roundg kj4
        case measure => have := HK1.out; have := HJ4.out; omega
        case rel => exact ⟨(y370), (wrap64 (x8_1 + 1)), tr_, H', ⟨by have := HK1.out; have := HJ4.out; omega⟩, ⟨rr_ HO369.out⟩, ⟨bw_ HB.out⟩⟩
       ·rw [if_neg c15] at H
        have c15b0 : (bq6) = false := by simpa using c15
        clear c15; subst c15b0
        have H' := am_ H
        clear H
        go_wp2_with (first | ((with_reducible refine gate_builtin (b := .append) (xs := #[.tmp 26, .tmp 29]) rfl ?_); at_builtin; refine Kd.R_append k46 (w0 := w) w.heap.size rfl (.tmp 26) (.tmp 29) 38 46 (.agg #[(.int .i64 0), (.int .i64 0)]) 16 rfl Tryd.underlying38 info46 rfl (by decide) (by omega) u3 x3_1 (⟨x8_1, 0⟩ : S46) [.int .i64 x8_1, .int .i64 0] (fun _ => True) (fun _ => False) rfl rfl ?aP (fun _ hk => hk.elim) ?aF ?aO ?aB ?aS ?aL ?_; (case aP => exact k46_mkM _ _ _ (⟨x8_1, 0⟩ : S46)); (case aB => exact (bw_ HB.out)); (case aF => exact (fun _ _ => trivial)); (case aO => exact (rr_ HO_3.out)); (case aS => exact (below_size (bw_ HB.out))); (case aL => have := LMc13.out; omega); intro v368 w24 ho hb hg hat; rw [← Ny367.out] at ho; have n0_ := am_ (hb); have n1_ := am_ (ho); clear HB; clear HO_3; have HB := n0_; have HO369 := n1_; clear n0_ n1_; clear ho hb hg hat))
        go_roundg kj4
        case measure => have := HK1.out; have := HJ4.out; omega
        case rel => exact ⟨(y367), (wrap64 (x8_1 + 1)), tr_, H', ⟨by have := HK1.out; have := HJ4.out; omega⟩, ⟨rr_ HO369.out⟩, ⟨bw_ HB.out⟩⟩
      ·replace c12 := Bool.eq_false_iff.mpr c12
       subst c12
       have H1 : (if bq6 = true then (if 0 ≤ (wrap64 ((x3_1.length : Int) - 1)) then (if (wrap64 ((x3_1.length : Int) - 1)) < (x3_1.length : Int) then (Z10.l0 kj4 l0 (x3_1.set ((wrap64 ((x3_1.length : Int) - 1)) : Int).toNat (⟨(rd_T46 x3_1 (wrap64 ((x3_1.length : Int) - 1))).f0, wrap64 (x8_1 + 1)⟩ : S46)) l0 (l0.length : Int) (wrap64 (x8_1 + 1))) else (none)) else (none)) else (Z10.l0 kj4 l0 x3_1 l0 (l0.length : Int) (wrap64 (x8_1 + 1)))) = some r := by rw [if_neg (show ¬ (false = true) by decide)] at H; exact H
       clear H
       have H := H1
       clear H1
       by_cases c26 : (bq6) = true
       ·rw [if_pos c26] at H
        have c26b0 : (bq6) = true := c26
        clear c26; subst c26b0
        obtain ⟨ji27, hji27⟩ : ∃ j_ : Int, (wrap64 ((x3_1.length : Int) - 1)) = j_ := ⟨_, rfl⟩
        replace H : (if 0 ≤ (ji27) then (if (ji27) < (x3_1.length : Int) then (Z10.l0 kj4 l0 (x3_1.set ((ji27) : Int).toNat (⟨(rd_T46 x3_1 (ji27)).f0, wrap64 (x8_1 + 1)⟩ : S46)) l0 (l0.length : Int) (wrap64 (x8_1 + 1))) else (none)) else (none)) = some r := by first | (rw [hji27] at H; exact H) | (simp only [hji27] at H ⊢; exact H)
        have hji27w : (IntKind.i64.wrap ((x3_1.length : Int) - 1)) = ji27 := (i64_w _).trans hji27
        by_cases c28 : 0 ≤ (ji27)
        case neg => exact (nn_ c28 H).elim
        rw [if_pos c28] at H; have c28b0 := decide_eq_true c28; clear c28
        by_cases c29 : (ji27) < (x3_1.length : Int)
        case neg => exact (nn_ c29 H).elim
        rw [if_pos c29] at H; have c29b0 := decide_eq_true c29; clear c29
        obtain ⟨y371, hy371⟩ : ∃ y_ : List (S46), y_ = (x3_1.set ((ji27) : Int).toNat (⟨(rd_T46 x3_1 (ji27)).f0, wrap64 (x8_1 + 1)⟩ : S46)) := ⟨_, rfl⟩
        replace H : (Z10.l0 kj4 l0 y371 l0 (l0.length : Int) (wrap64 (x8_1 + 1))) = some r := by first | (rw [hy371]; with_reducible exact H) | (have H2_ := (Option.bind_some _ _).symm.trans H; rw [hy371]; with_reducible exact H2_) | (have H2_ := (Option.bind_some _ _).symm.trans H; with_reducible exact H2_) | with_reducible exact H | (rw [hy371]; exact H) | exact H
        have Ny371 := am_ hy371; clear hy371
        have H' := am_ H
        clear H
        obtain ⟨Ao31, co31, eo31⟩ := Kd.R_slice HO_3.out
        subst eo31; have p30 : 0 ≤ ((ji27) : Int) := ode_; have q30 : ((ji27) : Int) < ((x3_1.length : Int) : Int) := ode_
        obtain ⟨go30, co30, eo30, gb30, gl30, cl30, HG30⟩ := Kd.R_form HO_3.out (by omega)
        (first | cases eo30 | (injection eo30 with ea_ en_ ec_; (first | subst ea_ | (injection ea_ with ea_; subst ea_)); subst ec_; clear en_))
        have GB30 := am_ gb30; have GG30 := am_ HG30; clear gb30 gl30 HG30
        obtain ⟨ce30, hcl30, hM30, hcc30, hfr30⟩ := Kd.R_elem HO_3.out z46 ((ji27) : Int) p30 q30
        obtain rfl := k46_openM hM30
        have hx30_0 : wc.cell? ⟨go30, ((ji27) : Int).toNat * 2, none⟩ = some (.int .i64 ((rd_T46 x3_1 (ji27)).f0)) := hcc30 0 _ rfl
        have hx30_1 : wc.cell? ⟨go30, ((ji27) : Int).toNat * 2 + 1, none⟩ = some (.int .i64 ((rd_T46 x3_1 (ji27)).f1)) := hcc30 1 _ rfl
        have hf30_0 : wc.frozen? ⟨go30, ((ji27) : Int).toNat * 2, none⟩ = false := hfr30 0
        have hf30_1 : wc.frozen? ⟨go30, ((ji27) : Int).toNat * 2 + 1, none⟩ = false := hfr30 1
        (try clear hM30); clear hcl30 hcc30 hfr30
        replace p30 := eq_true p30; replace q30 := eq_true q30
        have HX32 := am_ (show Kd.R k46 46 wc w.heap.size (fun _ => True) (.slice (some ⟨go30, 0, none⟩) x3_1.length co31) x3_1 from (rr_ HO_3.out))
        obtain ⟨ce32, hcl32, hM32, hcc32, hfr32⟩ := Kd.R_elem HX32.out z46 ((ji27) : Int) (ode_) (by have h_ : ((ji27) : Int) < ((x3_1.length : Int) : Int) := ode_; first | exact h_ | (have e_ := (Kd.R_reads' HO_3.out).1; omega) | simpa using h_)
        obtain rfl := k46_openM hM32
        have HP32 := Kd.R_seg HX32.out ((ji27) : Int) (ode_) (by have h_ : ((ji27) : Int) < ((x3_1.length : Int) : Int) := ode_; first | exact h_ | (have e_ := (Kd.R_reads' HO_3.out).1; omega) | simpa using h_) (seg := [.int .i64 (wrap64 (x8_1 + 1))]) (j := 1) hcl32 hcc32 (show 2 ≤ 2 from by decide) (x' := (⟨(rd_T46 x3_1 (ji27)).f0, wrap64 (x8_1 + 1)⟩ : S46)) (k46_mkM _ _ _ (⟨(rd_T46 x3_1 (ji27)).f0, wrap64 (x8_1 + 1)⟩ : S46) ) (fun _ hk => hk)
        have hx32_1 := hcc32 1 _ rfl
        (try simp only [show (k46).sz = 2 from rfl, Nat.mul_one, Nat.add_zero] at hx32_1)
        have hf32_1 := hfr32 1
        (try simp only [show (k46).sz = 2 from rfl, Nat.mul_one, Nat.add_zero] at hf32_1)
        (try clear hM32); clear hcl32 hcc32 hfr32
        go_wp2_with (first | ((with_reducible refine gate_store (t := 3) (p := 39) rfl ?_); refine store_event (t := 3) (p := 39) (v := ?vo_w33) (w1 := (wc.setCell ⟨go30, ((ji27) : Int).toNat * 2 + 1, none⟩ (.int .i64 (wrap64 (x8_1 + 1))))) ?hg ?ho ?hn ?hr ?_; (case ho => rfl); (case hg => rfl); (case hn => rfl); (case hr => first | (go_simp; done) | (go_simp; rfl)); intro w33 hw; have hg : wc.grownBy w33 (some go30) := (by rw [hw]; exact HP32.2); have hp_ : Kd.R k46 46 w33 w.heap.size (fun _ => True) (.slice (some ⟨go30, 0, none⟩) x3_1.length co31) y371 := (by rw [hw, Ny371.out]; exact HP32.1); clear HP32; have n0_ := am_ (hp_); have n1_ := am_ ((by rw [hw]; exact below_set (HB.out) GB30.out : Below w.heap.size w w33)); clear HO_3; clear HB; have HO_3 := n0_; have HB := n1_; clear n0_ n1_; clear hg hw hp_))
        go_roundg kj4
        case measure => have := HK1.out; have := HJ4.out; omega
        case rel => exact ⟨(y371), (wrap64 (x8_1 + 1)), tr_, H', ⟨by have := HK1.out; have := HJ4.out; omega⟩, ⟨rr_ HO_3.out⟩, ⟨bw_ HB.out⟩⟩
       ·rw [if_neg c26] at H
        have c26b0 : (bq6) = false := by simpa using c26
        clear c26; subst c26b0
        have H' := am_ H
        clear H
        go_wp2
        go_roundg kj4
        case measure => have := HK1.out; have := HJ4.out; omega
        case rel => exact ⟨(x3_1), (wrap64 (x8_1 + 1)), tr_, H', ⟨by have := HK1.out; have := HJ4.out; omega⟩, ⟨rr_ HO_3.out⟩, ⟨bw_ HB.out⟩⟩
   ·rw [if_neg c2] at H
    have c2b0 : decide (x8_1 < (l0.length : Int)) = false := decide_eq_false c2
    clear c2
    obtain rfl := Option.some.inj H
    go_wp2
    go_ret
    exact ⟨_, by first | rfl | (simp [errW_none, errW_some] <;> rfl) | (simp [*, errW_none, errW_some] <;> rfl), by (with_reducible repeat (first | apply r1_ | apply r2_ | apply r3_)); exact HO_3.out, bw_ HB.out⟩
mutual
def Z3.l0 : Nat → ByteArray → List Bool → List (S46) → Int → Int → Option ((List (S46)))
  | 0, _, _, _, _, _ => none
  | k + 1, x0, x5, x12, x13, x14 => if x14 < x13 then (if 0 ≤ x14 then (if x14 < (x12.length : Int) then (Z3.l1 k x0 x5 x12 x13 x14 ((rd_T46 x12 x14).f0) ((rd_T46 x12 x14).f1)) else (none)) else (none)) else ((Z10.f k x5).bind fun t375 => (some t375))
def Z3.j2 : Nat → ByteArray → List Bool → List (S46) → Int → Int → Int → Int → Option ((List (S46)))
  | 0, _, _, _, _, _, _, _ => none
  | k + 1, x0, x5, x12, x13, x14, x380000, x380001 => Z3.l2 k x0 x5 x12 x13 x14 x380000 x380001
def Z3.j4 : Nat → ByteArray → List Bool → List (S46) → Int → Int → Int → Int → Option ((List (S46)))
  | 0, _, _, _, _, _, _, _ => none
  | k + 1, x0, x5, x12, x13, x14, x380000, x380001 => Z3.l3 k x0 x5 x380000 x12 x13 x14 x380000 x380001
def Z3.l3 : Nat → ByteArray → List Bool → Int → List (S46) → Int → Int → Int → Int → Option ((List (S46)))
  | 0, _, _, _, _, _, _, _, _ => none
  | k + 1, x0, x5, x8, x12, x13, x14, x380000, x380001 => if x8 < x380001 then (if 0 ≤ x8 then (if x8 < (x5.length : Int) then (Z3.l3 k x0 (x5.set (x8 : Int).toNat true) (wrap64 (x8 + 1)) x12 x13 x14 x380000 x380001) else (none)) else (none)) else (Z3.l0 k x0 x5 x12 x13 (wrap64 (x14 + 1)))
def Z3.l2 : Nat → ByteArray → List Bool → List (S46) → Int → Int → Int → Int → Option ((List (S46)))
  | 0, _, _, _, _, _, _, _ => none
  | k + 1, x0, x5, x12, x13, x14, x380000, x380001 => if x380001 < (x0.size : Int) then (if 0 ≤ x380001 then ((Z30.f (bt x0 x380001)).bind fun t384 => (if t384 = true then (if 0 ≤ (wrap64 (x380001 - 1)) then (if (wrap64 (x380001 - 1)) < (x0.size : Int) then ((Z30.f (bt x0 (wrap64 (x380001 - 1)))).bind fun t385 => (if t385 = true then (Z3.l2 k x0 x5 x12 x13 x14 x380000 (wrap64 (x380001 + 1))) else ((Z38.f x0 x380001).bind fun t386 => (if t386 = true then (Z3.j4 k x0 x5 x12 x13 x14 x380000 x380001) else (Z3.l2 k x0 x5 x12 x13 x14 x380000 (wrap64 (x380001 + 1))))))) else (none)) else (none)) else ((Z38.f x0 x380001).bind fun t387 => (if t387 = true then (Z3.j4 k x0 x5 x12 x13 x14 x380000 x380001) else (Z3.l2 k x0 x5 x12 x13 x14 x380000 (wrap64 (x380001 + 1))))))) else (none)) else (Z3.j4 k x0 x5 x12 x13 x14 x380000 x380001)
def Z3.l1 : Nat → ByteArray → List Bool → List (S46) → Int → Int → Int → Int → Option ((List (S46)))
  | 0, _, _, _, _, _, _, _ => none
  | k + 1, x0, x5, x12, x13, x14, x380000, x380001 => if x380000 > 0 then (if 0 ≤ (wrap64 (x380000 - 1)) then (if (wrap64 (x380000 - 1)) < (x0.size : Int) then ((Z30.f (bt x0 (wrap64 (x380000 - 1)))).bind fun t380 => (if t380 = true then (if 0 ≤ x380000 then (if x380000 < (x0.size : Int) then ((Z30.f (bt x0 x380000)).bind fun t381 => (if t381 = true then (Z3.l1 k x0 x5 x12 x13 x14 (wrap64 (x380000 - 1)) x380001) else ((Z38.f x0 x380000).bind fun t382 => (if t382 = true then (Z3.j2 k x0 x5 x12 x13 x14 x380000 x380001) else (Z3.l1 k x0 x5 x12 x13 x14 (wrap64 (x380000 - 1)) x380001))))) else (none)) else (none)) else ((Z38.f x0 x380000).bind fun t383 => (if t383 = true then (Z3.j2 k x0 x5 x12 x13 x14 x380000 x380001) else (Z3.l1 k x0 x5 x12 x13 x14 (wrap64 (x380000 - 1)) x380001))))) else (none)) else (none)) else (Z3.j2 k x0 x5 x12 x13 x14 x380000 x380001)
end
def Z3.f (k : Nat) (a0 : ByteArray) (l1 : List (S46)) : Option ((List (S46))) := if 0 ≤ (a0.size : Int) then (if ((a0.size : Int) : Int).toNat ≤ 281474976710656 then (Z3.l0 k a0 (List.replicate ((a0.size : Int) : Int).toNat false) l1 (l1.length : Int) 0) else (none)) else (none)
theorem Z3.mono_l : ∀ k, (∀ y0 y1 y2 y3 y4, LeO (Z3.l0 k y0 y1 y2 y3 y4) (Z3.l0 (k + 1) y0 y1 y2 y3 y4)) ∧ (∀ y0 y1 y2 y3 y4 y5 y6, LeO (Z3.j2 k y0 y1 y2 y3 y4 y5 y6) (Z3.j2 (k + 1) y0 y1 y2 y3 y4 y5 y6)) ∧ (∀ y0 y1 y2 y3 y4 y5 y6, LeO (Z3.j4 k y0 y1 y2 y3 y4 y5 y6) (Z3.j4 (k + 1) y0 y1 y2 y3 y4 y5 y6)) ∧ (∀ y0 y1 y2 y3 y4 y5 y6 y7, LeO (Z3.l3 k y0 y1 y2 y3 y4 y5 y6 y7) (Z3.l3 (k + 1) y0 y1 y2 y3 y4 y5 y6 y7)) ∧ (∀ y0 y1 y2 y3 y4 y5 y6, LeO (Z3.l2 k y0 y1 y2 y3 y4 y5 y6) (Z3.l2 (k + 1) y0 y1 y2 y3 y4 y5 y6)) ∧ (∀ y0 y1 y2 y3 y4 y5 y6, LeO (Z3.l1 k y0 y1 y2 y3 y4 y5 y6) (Z3.l1 (k + 1) y0 y1 y2 y3 y4 y5 y6))
  | 0 => ⟨fun _ _ _ _ _ r h => by simp [Z3.l0] at h, fun _ _ _ _ _ _ _ r h => by simp [Z3.j2] at h, fun _ _ _ _ _ _ _ r h => by simp [Z3.j4] at h, fun _ _ _ _ _ _ _ _ r h => by simp [Z3.l3] at h, fun _ _ _ _ _ _ _ r h => by simp [Z3.l2] at h, fun _ _ _ _ _ _ _ r h => by simp [Z3.l1] at h⟩
  | k + 1 => by
    obtain ⟨ih0, ih1, ih2, ih3, ih4, ih5⟩ := Z3.mono_l k
    refine ⟨?_, ?_, ?_, ?_, ?_, ?_⟩
    · intro y0 y1 y2 y3 y4
      unfold Z3.l0
      repeat' first
      | (with_reducible exact ih0 _ _ _ _ _)
      | (with_reducible exact ih1 _ _ _ _ _ _ _)
      | (with_reducible exact ih2 _ _ _ _ _ _ _)
      | (with_reducible exact ih3 _ _ _ _ _ _ _ _)
      | (with_reducible exact ih4 _ _ _ _ _ _ _)
      | (with_reducible exact ih5 _ _ _ _ _ _ _)
      | (with_reducible exact Z10.mono _ _)
      | (with_reducible exact LeO.refl _)
      | (with_reducible exact LeO.none _)
      | (with_reducible refine LeO.ite ?_ ?_)
      | (with_reducible refine LeO.bind ?_ (fun _ => ?_))
      | exact ih0 _ _ _ _ _
      | exact ih1 _ _ _ _ _ _ _
      | exact ih2 _ _ _ _ _ _ _
      | exact ih3 _ _ _ _ _ _ _ _
      | exact ih4 _ _ _ _ _ _ _
      | exact ih5 _ _ _ _ _ _ _
      | exact LeO.none _
      | refine LeO.ite ?_ ?_
      | refine LeO.bind ?_ (fun _ => ?_)
    · intro y0 y1 y2 y3 y4 y5 y6
      unfold Z3.j2
      repeat' first
      | (with_reducible exact ih0 _ _ _ _ _)
      | (with_reducible exact ih1 _ _ _ _ _ _ _)
      | (with_reducible exact ih2 _ _ _ _ _ _ _)
      | (with_reducible exact ih3 _ _ _ _ _ _ _ _)
      | (with_reducible exact ih4 _ _ _ _ _ _ _)
      | (with_reducible exact ih5 _ _ _ _ _ _ _)
      | (with_reducible exact Z10.mono _ _)
      | (with_reducible exact LeO.refl _)
      | (with_reducible exact LeO.none _)
      | (with_reducible refine LeO.ite ?_ ?_)
      | (with_reducible refine LeO.bind ?_ (fun _ => ?_))
      | exact ih0 _ _ _ _ _
      | exact ih1 _ _ _ _ _ _ _
      | exact ih2 _ _ _ _ _ _ _
      | exact ih3 _ _ _ _ _ _ _ _
      | exact ih4 _ _ _ _ _ _ _
      | exact ih5 _ _ _ _ _ _ _
      | exact LeO.none _
      | refine LeO.ite ?_ ?_
      | refine LeO.bind ?_ (fun _ => ?_)
    · intro y0 y1 y2 y3 y4 y5 y6
      unfold Z3.j4
      repeat' first
      | (with_reducible exact ih0 _ _ _ _ _)
      | (with_reducible exact ih1 _ _ _ _ _ _ _)
      | (with_reducible exact ih2 _ _ _ _ _ _ _)
      | (with_reducible exact ih3 _ _ _ _ _ _ _ _)
      | (with_reducible exact ih4 _ _ _ _ _ _ _)
      | (with_reducible exact ih5 _ _ _ _ _ _ _)
      | (with_reducible exact Z10.mono _ _)
      | (with_reducible exact LeO.refl _)
      | (with_reducible exact LeO.none _)
      | (with_reducible refine LeO.ite ?_ ?_)
      | (with_reducible refine LeO.bind ?_ (fun _ => ?_))
      | exact ih0 _ _ _ _ _
      | exact ih1 _ _ _ _ _ _ _
      | exact ih2 _ _ _ _ _ _ _
      | exact ih3 _ _ _ _ _ _ _ _
      | exact ih4 _ _ _ _ _ _ _
      | exact ih5 _ _ _ _ _ _ _
      | exact LeO.none _
      | refine LeO.ite ?_ ?_
      | refine LeO.bind ?_ (fun _ => ?_)
    · intro y0 y1 y2 y3 y4 y5 y6 y7
      unfold Z3.l3
      repeat' first
      | (with_reducible exact ih0 _ _ _ _ _)
      | (with_reducible exact ih1 _ _ _ _ _ _ _)
      | (with_reducible exact ih2 _ _ _ _ _ _ _)
      | (with_reducible exact ih3 _ _ _ _ _ _ _ _)
      | (with_reducible exact ih4 _ _ _ _ _ _ _)
      | (with_reducible exact ih5 _ _ _ _ _ _ _)
      | (with_reducible exact Z10.mono _ _)
      | (with_reducible exact LeO.refl _)
      | (with_reducible exact LeO.none _)
      | (with_reducible refine LeO.ite ?_ ?_)
      | (with_reducible refine LeO.bind ?_ (fun _ => ?_))
      | exact ih0 _ _ _ _ _
      | exact ih1 _ _ _ _ _ _ _
      | exact ih2 _ _ _ _ _ _ _
      | exact ih3 _ _ _ _ _ _ _ _
      | exact ih4 _ _ _ _ _ _ _
      | exact ih5 _ _ _ _ _ _ _
      | exact LeO.none _
      | refine LeO.ite ?_ ?_
      | refine LeO.bind ?_ (fun _ => ?_)
    · intro y0 y1 y2 y3 y4 y5 y6
      unfold Z3.l2
      repeat' first
      | (with_reducible exact ih0 _ _ _ _ _)
      | (with_reducible exact ih1 _ _ _ _ _ _ _)
      | (with_reducible exact ih2 _ _ _ _ _ _ _)
      | (with_reducible exact ih3 _ _ _ _ _ _ _ _)
      | (with_reducible exact ih4 _ _ _ _ _ _ _)
      | (with_reducible exact ih5 _ _ _ _ _ _ _)
      | (with_reducible exact Z10.mono _ _)
      | (with_reducible exact LeO.refl _)
      | (with_reducible exact LeO.none _)
      | (with_reducible refine LeO.ite ?_ ?_)
      | (with_reducible refine LeO.bind ?_ (fun _ => ?_))
      | exact ih0 _ _ _ _ _
      | exact ih1 _ _ _ _ _ _ _
      | exact ih2 _ _ _ _ _ _ _
      | exact ih3 _ _ _ _ _ _ _ _
      | exact ih4 _ _ _ _ _ _ _
      | exact ih5 _ _ _ _ _ _ _
      | exact LeO.none _
      | refine LeO.ite ?_ ?_
      | refine LeO.bind ?_ (fun _ => ?_)
    · intro y0 y1 y2 y3 y4 y5 y6
      unfold Z3.l1
      repeat' first
      | (with_reducible exact ih0 _ _ _ _ _)
      | (with_reducible exact ih1 _ _ _ _ _ _ _)
      | (with_reducible exact ih2 _ _ _ _ _ _ _)
      | (with_reducible exact ih3 _ _ _ _ _ _ _ _)
      | (with_reducible exact ih4 _ _ _ _ _ _ _)
      | (with_reducible exact ih5 _ _ _ _ _ _ _)
      | (with_reducible exact Z10.mono _ _)
      | (with_reducible exact LeO.refl _)
      | (with_reducible exact LeO.none _)
      | (with_reducible refine LeO.ite ?_ ?_)
      | (with_reducible refine LeO.bind ?_ (fun _ => ?_))
      | exact ih0 _ _ _ _ _
      | exact ih1 _ _ _ _ _ _ _
      | exact ih2 _ _ _ _ _ _ _
      | exact ih3 _ _ _ _ _ _ _ _
      | exact ih4 _ _ _ _ _ _ _
      | exact ih5 _ _ _ _ _ _ _
      | exact LeO.none _
      | refine LeO.ite ?_ ?_
      | refine LeO.bind ?_ (fun _ => ?_)
theorem Z3.mono : ∀ a0 a1 k, LeO (Z3.f k a0 a1) (Z3.f (k + 1) a0 a1) := by
  intro a0 a1 k
  obtain ⟨ih0, ih1, ih2, ih3, ih4, ih5⟩ := Z3.mono_l k
  unfold Z3.f
  repeat' first
      | (with_reducible exact ih0 _ _ _ _ _)
      | (with_reducible exact ih1 _ _ _ _ _ _ _)
      | (with_reducible exact ih2 _ _ _ _ _ _ _)
      | (with_reducible exact ih3 _ _ _ _ _ _ _ _)
      | (with_reducible exact ih4 _ _ _ _ _ _ _)
      | (with_reducible exact ih5 _ _ _ _ _ _ _)
      | (with_reducible exact Z10.mono _ _)
      | (with_reducible exact LeO.refl _)
      | (with_reducible exact LeO.none _)
      | (with_reducible refine LeO.ite ?_ ?_)
      | (with_reducible refine LeO.bind ?_ (fun _ => ?_))
      | exact ih0 _ _ _ _ _
      | exact ih1 _ _ _ _ _ _ _
      | exact ih2 _ _ _ _ _ _ _
      | exact ih3 _ _ _ _ _ _ _ _
      | exact ih4 _ _ _ _ _ _ _
      | exact ih5 _ _ _ _ _ _ _
      | exact LeO.none _
      | refine LeO.ite ?_ ?_
      | refine LeO.bind ?_ (fun _ => ?_)
end Go.Proofs.YtolcpmdojlbhcaaDoor.Px
