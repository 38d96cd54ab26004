/- A part of the proof of textsCovered. No conditions. Laid by program over the kit's print and words. -/
import Derived.Test.YtolcpmdojlbhcaaDoorZyPxx0
import Derived.Test.YtolcpmdojlbhcaaDoorZyPxx4
namespace Go.Proofs.YtolcpmdojlbhcaaDoor.Px
open Go.RowKit Go.Proofs.YtolcpmdojlbhcaaDoor.GBase Go.Proofs.YtolcpmdojlbhcaaDoorW.PrintWords Go.Proofs.YtolcpmdojlbhcaaDoorW.PrintLast Go.Proofs.YtolcpmdojlbhcaaDoorW.PrintMore
attribute [local go_sem] str_leq max2_int min2_int max_two min_two max_three min_three max_four min_four
set_option linter.unusedVariables false
set_option linter.unusedSimpArgs false
def Z26.prs (ps : List S46) : List (Int × Int) := ps.map fun x => (x.f0, x.f1)
def Z26.f (k : Nat) (a0 : ByteArray) (l1 : List S46) : Option (ByteArray × Int) := if a0.size ≤ 140737488355328 then ((Z29.f k a0 l1).bind fun t1 => (if t1 = 0 then ((Z8.f k a0 l1).bind fun t2 => ((hideAll (Z26.prs t2) a0.data.toList).bind fun t3 => (some ((⟨t3.toArray⟩ : ByteArray), (0 : Int))))) else (some ((⟨#[]⟩ : ByteArray), t1)))) else (none)
theorem Z26.mono : ∀ a0 a1 k, LeO (Z26.f k a0 a1) (Z26.f (k + 1) a0 a1) := by
  intro a0 a1 k
  unfold Z26.f
  repeat' first
      | (with_reducible exact Z8.mono _ _ _)
      | (with_reducible exact Z29.mono _ _ _)
      | (with_reducible exact LeO.refl _)
      | (with_reducible exact LeO.none _)
      | (with_reducible refine LeO.ite ?_ ?_)
      | (with_reducible refine LeO.bind ?_ (fun _ => ?_))
      | exact LeO.none _
      | refine LeO.ite ?_ ?_
      | refine LeO.bind ?_ (fun _ => ?_)
set_option maxHeartbeats 8000000 in
set_option maxRecDepth 100000 in
theorem Z26.calls (k : Nat) (a0 : ByteArray) (A1 : Option Addr) (c1 : Nat) (l1 : List (S46)) (r1 : ByteArray) (r2 : Int) (w : World) (hr1 : Kd.C k46 w A1 l1.length l1) (hc1 : l1.length ≤ c1) (hGl : Wd w) (h : Z26.f k a0 l1 = some (r1, r2)) :
    Calls Tryd.prog 19 #[.string a0, .slice A1 l1.length c1] w fun e w' => e = .returned (.tuple #[.string r1, .int .i64 r2]) ∧ Below w.heap.size w w' := by
  unfold Z26.f at h
  have hz : a0.size ≤ 140737488355328 := by
    rcases Nat.lt_or_ge 140737488355328 a0.size with hz | hz
    · rw [if_neg (by omega)] at h
      exact absurd h (by simp)
    · exact hz
  rw [if_pos hz] at h
  cases h1 : Z29.f k a0 l1 with
  | none => rw [h1] at h; exact absurd h (by simp)
  | some t1 =>
  rw [h1, Option.bind_some] at h
  have HT := am_ (Z29.calls k a0 A1 c1 l1 t1 w hr1 hc1 hGl h1)
  clear h1 hGl
  by_cases ht : t1 = 0
  · subst ht
    rw [if_pos rfl] at h
    cases h2 : Z8.f k a0 l1 with
    | none => rw [h2] at h; exact absurd h (by simp)
    | some ps =>
    rw [h2, Option.bind_some] at h
    cases h3 : hideAll (Z26.prs ps) a0.data.toList with
    | none => rw [h3] at h; exact absurd h (by simp)
    | some bs =>
    rw [h3, Option.bind_some] at h
    obtain ⟨rfl, rfl⟩ : (⟨bs.toArray⟩ : ByteArray) = r1 ∧ 0 = r2 := by simpa using h
    clear h
    have HP : Aside0 (∀ w', Below w.heap.size w w' → Calls Tryd.prog 54 #[.string a0, .slice A1 l1.length c1] w' fun e w'' => ∃ v0_ : Value, e = .returned (v0_) ∧ Kd.R k46 46 w'' w'.heap.size (fun _ => True) v0_ ps ∧ Below w'.heap.size w' w'') := am_ fun w' hb => Z8.calls k a0 A1 c1 l1 ps w' (Kd.C_below hr1 hb) hc1 h2
    have H3 := am_ h3; clear h2 h3 hr1 hc1
    have hconv := fun (w : World) => Lib.run_convert_string_bytes (P := Tryd.prog) w 9 73 5 a0 Tryd.underlying9 Tryd.underlying73 Tryd.underlying5
    go_enter Tryd.func19, Tryd.ntmps19
    go_wp2_with (go_at_call 53; refine HT.out.mono ?_; rintro e w1 ⟨rfl, hb1⟩)
    have HB1 := am_ (BAt.start (e := 5) hb1 a0)
    have HP2 := am_ (HP.out _ HB1.out.1)
    clear HP hconv HT hb1
    go_wp2_with (go_at_call 54; refine HP2.out.mono ?_; rintro e w2 ⟨v0, rfl, hR, hb2⟩; obtain ⟨A2, c2, rfl, hlc2, hC2⟩ := Kd.R_reads hR)
    have HB2 := am_ (HB1.out.below hb2)
    have HR2 : Aside0 (Kd.R k46 46 w2 (Lib.bytesWorld w1 5 a0).heap.size (fun k_ => k_ ≠ w1.heap.size) (.slice A2 ps.length c2) ps) := ⟨Kd.R_mono (Kd.R_bound hR) (fun k_ hk => by
      have h1 := hk.2.1
      rw [Lib.bytesWorld_size] at h1
      omega)⟩
    have HZ : Aside0 (a0.data.toList.length = a0.size) := ⟨data_length a0⟩
    clear HB1 HP2 hb2 hR hC2 hlc2
    generalize (Lib.bytesWorld w1 5 a0).heap.size = B at *
    generalize grownCap w1 a0.size 0 5 = cp at *
    generalize w1.heap.size = g at *
    go_loopw [23] (fun i wr => ∃ (j : Nat) (bs1 : List UInt8), i = .int .i64 j ∧ Aside0 (j ≤ ps.length) ∧ Aside0 (bs1.length = a0.size) ∧ Aside0 (BAt 5 w wr g bs1) ∧ Aside0 (Kd.R k46 46 wr B (fun k_ => k_ ≠ g) (.slice A2 ps.length c2) ps) ∧ Aside0 (hideAll ((Z26.prs ps).drop j) bs1 = some bs)) (fun i _ => ps.length - (intOf i).toNat)
    case atStart => exact ⟨0, a0.data.toList, rfl, ⟨Nat.zero_le _⟩, HZ, HB2, HR2, H3⟩
    case round =>
      obtain ⟨j, bs1, rfl, HJ, HL, HBt, HRw, HH⟩ := hrel
      have hmax : ps.length ≤ 9223372036854775807 := Kd.C_max (Kd.R_reads' HRw.out).2.2
      by_cases hlt : j < ps.length
      · obtain ⟨ad, eA, hx0, hx1⟩ := at_T46 (Kd.R_reads' HRw.out).2.2 (j : Int) (by omega) (by omega)
        cases eA
        simp only [Int.toNat_natCast] at hx0 hx1
        have hd : (Z26.prs ps).drop j = ((rd_T46 ps j).f0, (rd_T46 ps j).f1) :: (Z26.prs ps).drop (j + 1) := by
          rw [List.drop_eq_getElem_cons (by simpa [Z26.prs] using hlt)]
          simp [Z26.prs, rd_T46, List.getD_eq_getElem?_getD, List.getElem?_eq_getElem hlt]
        have h4 := HH.out
        rw [hd] at h4
        generalize (rd_T46 ps j).f0 = f0 at *
        generalize (rd_T46 ps j).f1 = f1 at *
        simp only [hideAll] at h4
        cases h5 : hideN (f1 - f0).toNat f0 bs1 with
        | none => rw [h5] at h4; exact absurd h4 (by simp)
        | some bs2 =>
        rw [h5, Option.bind_some] at h4
        have H4 := am_ h4; have H5 := am_ h5; clear h4 h5 hd HH HJ H3 HB2 HR2 HZ
        go_wp2
        have HS0 : Aside0 ((wr.alloc (.cells #[.int .i64 f0, .int .i64 f1] 46)).heap[wr.heap.size]? = some (.cells #[.int .i64 f0, .int .i64 f1] 46 (0, 0))) := ⟨blk_new _ _⟩
        have HB0 := am_ (HBt.out.alloc (.cells #[.int .i64 f0, .int .i64 f1] 46))
        have HR0 := am_ (r1_ HRw.out (.cells #[.int .i64 f0, .int .i64 f1] 46))
        have HG : Aside0 (wr.heap.size ≠ g) := ⟨by have := HBt.out.lt; omega⟩
        clear hx0 hx1 HBt HRw
        generalize wr.heap.size = q at *
        generalize wr.alloc (.cells #[.int .i64 f0, .int .i64 f1] 46) = wa at *
        go_loopw [10] (fun i wq => ∃ (m : Nat) (x : Int) (bq : List UInt8), i = .int .i64 x ∧ Aside0 (hideN m x bq = some bs2) ∧ Aside0 ((f1 - x).toNat = m) ∧ Aside0 (bq.length = a0.size) ∧ Aside0 (BAt 5 w wq g bq) ∧ Aside0 (Kd.R k46 46 wq B (fun k_ => k_ ≠ g) (.slice (some ad) ps.length c2) ps) ∧ Aside0 (wq.heap[q]? = some (.cells #[.int .i64 f0, .int .i64 f1] 46 (0, 0)))) (fun i _ => (f1 - intOf i).toNat)
        case atStart => exact ⟨_, f0, bs1, rfl, H5, ⟨rfl⟩, HL, HB0, HR0, HS0⟩
        case round =>
          obtain ⟨m, x, bq, rfl, HN, HM, HLq, HBq, HRq, HSq⟩ := hrel
          have hcz0 := (blk_cell HSq.out 1).trans rfl
          by_cases hx : x < f1
          · have hxd : decide (x < f1) = true := decide_eq_true hx
            obtain ⟨m, rfl⟩ : ∃ m', m = m' + 1 := ⟨m - 1, by have := HM.out; omega⟩
            have h6 := HN.out
            simp only [hideN] at h6
            by_cases hin : 0 ≤ x ∧ x < (bq.length : Int)
            · rw [if_pos hin] at h6
              obtain ⟨n, rfl⟩ := Int.eq_ofNat_of_zero_le hin.1
              have hn : n < bq.length := by omega
              have hna : n < a0.size := by have := HLq.out; omega
              have hw : wrap64 ((n : Int) + 1) = ((n + 1 : Nat) : Int) := by unfold wrap64; omega
              rw [Int.toNat_natCast, List.getD_eq_getElem?_getD, List.getElem?_eq_getElem hn, Option.getD_some] at h6
              have H6 := am_ h6
              have hcell := HBq.out.cell hn
              have hfree := HBq.out.free hn
              have HP0 := am_ (HBq.out.put hn (hideB bq[n]))
              have hms : (f1 - ((n + 1 : Nat) : Int)).toNat = m := by have := HM.out; omega
              have HMS := am_ hms
              have hsame : bq[n] = 32 ∨ bq[n] = 10 → bq.set n (hideB bq[n]) = bq := fun h => by
                have : hideB bq[n] = bq[n] := by unfold hideB; rw [if_pos h]
                rw [this, List.set_getElem_self]
              have HSA := am_ hsame; have HX := am_ hx; clear hms h6 hin hsame hx HN HM
              by_cases h32 : bq[n] = 32
              · have hs := HSA.out (.inl h32)
                have e1 : ((bq[n].toNat : Int) != 32) = false := by rw [h32]; rfl
                have e2 : ((bq[n].toNat : Int) == 32) = true := by rw [h32]; rfl
                have HH6 : Aside0 (hideN m ((n + 1 : Nat) : Int) bq = some bs2) := ⟨by rw [← H6.out, hs]; rfl⟩
                clear h32 hs HSA H6 HP0
                go_wp2
                go_roundw
                case rel => exact ⟨m, _, bq, by go_num, HH6, HMS, HLq, HBq, HRq, HSq⟩
                case measure => have := HX.out; simp [intOf]; omega
              · by_cases h10 : bq[n] = 10
                · have hs := HSA.out (.inr h10)
                  have e1 : ((bq[n].toNat : Int) != 32) = true := by rw [h10]; rfl
                  have e2 : ((bq[n].toNat : Int) == 32) = false := by rw [h10]; rfl
                  have e3 : ((bq[n].toNat : Int) != 10) = false := by rw [h10]; rfl
                  have e4 : ((bq[n].toNat : Int) == 10) = true := by rw [h10]; rfl
                  have HH6 : Aside0 (hideN m ((n + 1 : Nat) : Int) bq = some bs2) := ⟨by rw [← H6.out, hs]; rfl⟩
                  clear h10 h32 hs HSA H6 HP0
                  go_wp2
                  go_roundw
                  case rel => exact ⟨m, _, bq, by go_num, HH6, HMS, HLq, HBq, HRq, HSq⟩
                  case measure => have := HX.out; simp [intOf]; omega
                · have hb : hideB bq[n] = 35 := by unfold hideB; rw [if_neg (by rintro (h | h); exact h32 h; exact h10 h)]
                  have t32 : ¬ (bq[n].toNat : Int) = 32 := fun h => h32 (UInt8.toNat_inj.1 (show bq[n].toNat = 32 by omega))
                  have t10 : ¬ (bq[n].toNat : Int) = 10 := fun h => h10 (UInt8.toNat_inj.1 (show bq[n].toNat = 10 by omega))
                  have e1 : ((bq[n].toNat : Int) != 32) = true := bne_iff_ne.mpr t32
                  have e2 : ((bq[n].toNat : Int) == 32) = false := beq_eq_false_iff_ne.mpr t32
                  have e3 : ((bq[n].toNat : Int) != 10) = true := bne_iff_ne.mpr t10
                  have e4 : ((bq[n].toNat : Int) == 10) = false := beq_eq_false_iff_ne.mpr t10
                  have HH6 : Aside0 (hideN m ((n + 1 : Nat) : Int) (bq.set n 35) = some bs2) := ⟨by rw [← H6.out, hb]; rfl⟩
                  have HP1 : Aside0 (BAt 5 w (wr.setCell ⟨g, n, none⟩ (.int .u8 35)) g (bq.set n 35)) := ⟨by have := HP0.out; rw [hb] at this; exact this⟩
                  have HRn := am_ (Kd.R_far (p := ⟨g, n, none⟩) HRq.out (fun _ h => h) (.int .u8 35))
                  have HSn := am_ (blk_far (p := ⟨g, n, none⟩) HSq.out HG.out (.int .u8 35))
                  have HLn : Aside0 ((bq.set n 35).length = a0.size) := ⟨by rw [List.length_set]; exact HLq.out⟩
                  clear h10 h32 hb HSA H6 HP0 t32 t10
                  go_wp2
                  go_roundw
                  case rel => exact ⟨m, _, bq.set n 35, by go_num, HH6, HMS, HLn, HP1, HRn, HSn⟩
                  case measure => have := HX.out; simp [intOf]; omega
            · rw [if_neg hin] at h6
              exact absurd h6 (by simp)
          · have hxd : decide (x < f1) = false := decide_eq_false hx
            have h6 := HN.out
            have hm0 : m = 0 := by have := HM.out; omega
            subst hm0
            simp only [hideN] at h6
            obtain rfl := Option.some.inj h6
            have hwj : wrap64 ((j : Int) + 1) = ((j + 1 : Nat) : Int) := by unfold wrap64; omega
            clear h6 hx HN HM HS0 HB0 HR0
            go_wp2
            go_roundw
            case rel => exact ⟨j + 1, _, by go_num, ⟨by omega⟩, HLq, HBq, HRq, H4⟩
            case measure => simp [intOf]; omega
      · obtain rfl : j = ps.length := by have := HJ.out; omega
        have h4 := HH.out
        rw [List.drop_eq_nil_of_le (by simp [Z26.prs])] at h4
        simp only [hideAll] at h4
        obtain rfl := Option.some.inj h4
        have hB := HBt.out.1
        have hd := HBt.out.done Tryd.prog 73 9 cp Tryd.underlying73 Tryd.underlying5 Tryd.underlying9
        rw [HL.out] at hd
        clear h4 HH HJ HRw HBt H3 HB2 HR2 HZ
        go_wp2
        go_ret2
        exact ⟨rfl, hB⟩
  · rw [if_neg ht] at h
    obtain ⟨rfl, rfl⟩ : (⟨#[]⟩ : ByteArray) = r1 ∧ t1 = r2 := by simpa using h
    clear h
    have ht2 : (t1 == 0) = false := by simpa using ht
    have ht3 : (t1 != 0) = true := by simpa using ht
    go_enter Tryd.func19, Tryd.ntmps19
    go_wp2_with (go_at_call 53; refine HT.out.mono ?_; rintro e w1 ⟨rfl, hb1⟩)
    go_ret2
    exact ⟨rfl, hb1⟩
def Z22.f (k : Nat)  : Option (Bool) := (Z26.f k (⟨#[97, 98, 10]⟩ : ByteArray) (([(⟨0, 1⟩ : S46)] : List (S46)))).bind fun bt170 => (if bt170.2 = 0 then (some (bt170.1.toList == ([35, 98, 10] : List UInt8))) else (some false))
theorem Z22.mono : ∀ k, LeO (Z22.f k ) (Z22.f (k + 1) ) := by
  intro  k
  unfold Z22.f
  repeat' first
      | (with_reducible exact Z26.mono _ _ _)
      | (with_reducible exact LeO.refl _)
      | (with_reducible exact LeO.none _)
      | (with_reducible refine LeO.ite ?_ ?_)
      | (with_reducible refine LeO.bind ?_ (fun _ => ?_))
      | exact LeO.none _
      | refine LeO.ite ?_ ?_
      | refine LeO.bind ?_ (fun _ => ?_)
set_option maxHeartbeats 8000000 in
set_option maxRecDepth 100000 in
theorem Z22.calls (k : Nat)  (r : Bool) (w : World) (hGl : Wd w) (h : Z22.f k  = some r) :
  Calls Tryd.prog 12 #[] w fun e w' => e = .returned (.bool r) ∧ Below w.heap.size w w' := by
 have hu46 := Tryd.underlying46
 have HGl := am_ hGl; clear hGl
 have HB := am_ (Below.refl w.heap.size w)
 have H : ((Z26.f k (⟨#[97, 98, 10]⟩ : ByteArray) (([(⟨0, 1⟩ : S46)] : List (S46)))).bind fun bt170 => (if bt170.2 = 0 then (some (bt170.1.toList == ([35, 98, 10] : List UInt8))) else (some false))) = some r := h
 clear h
 obtain ⟨y167, hy167⟩ : ∃ y_ : List (S46), y_ = (([(⟨0, 1⟩ : S46)] : List (S46))) := ⟨_, rfl⟩
 replace H : ((Z26.f k (⟨#[97, 98, 10]⟩ : ByteArray) y167).bind fun bt170 => (if bt170.2 = 0 then (some (bt170.1.toList == ([35, 98, 10] : List UInt8))) else (some false))) = some r := by first | (rw [hy167]; with_reducible exact H) | (have H2_ := (Option.bind_some _ _).symm.trans H; rw [hy167]; with_reducible exact H2_) | (have H2_ := (Option.bind_some _ _).symm.trans H; with_reducible exact H2_) | with_reducible exact H | (rw [hy167]; exact H) | exact H
 have Ny167 := am_ hy167; clear hy167; replace H := Option.bind_eq_some_iff.mp H
 obtain ⟨⟨t170, t171⟩, A10, H⟩ := H
 replace H : (if t171 = 0 then (some (t170.toList == ([35, 98, 10] : List UInt8))) else (some false)) = some r := H
 have A1 := am_ A10; clear A10
 by_cases c2 : t171 = 0
 ·rw [if_pos c2] at H
  have c2b0 : (t171 == 0) = true := beq_iff_eq.mpr c2
  have c2b1 : (t171 != 0) = false := bne_eq_false_iff_eq.mpr c2
  clear c2
  obtain rfl := Option.some.inj H
  go_enter Tryd.func12, Tryd.ntmps12
  go_wp2_with (first | ((with_reducible refine gate_dst (N := 5) rfl ?_); refine Kd.R_lit k46 _ 46 ?hg (N := 5) ?hd (xs := ([(⟨0, 1⟩ : S46)] : List (S46))) (inner := [.int .i64 0, .int .i64 1]) (ok := fun _ => True) (okp := fun _ => True) ?hr ?hp (fun _ hk => hk) trivial (Below.refl _ _) (Nat.le_refl _) (by simp) ?_; (case hd => rfl); (case hg => rfl); (case hr => first | (go_simp; done) | (go_simp; rfl)); (case hp => exact (Reps.c2 (show Kd.M k46 _ _ _ (⟨0, 1⟩ : S46) [.int .i64 0, .int .i64 1] from (k46_mkM _ _ _ (⟨0, 1⟩ : S46) )) (Reps.none _ _))); intro v168 w3 ho4 hb hg_ hnew_; clear hg_ hnew_; (first | rw [← Ny167.out] at ho4 | (simp only [Int.reduceToNat] at ho4; rw [← Ny167.out] at ho4)); have n0_ := am_ (Kd.R_lower ho4 (below_size (bw_ HB.out))); have n1_ := am_ (below_step (bw_ HB.out) hb); clear HB; have HO169 := n0_; have HB := n1_; clear n0_ n1_; clear hb ho4; obtain ⟨Ao5, co5, eo5⟩ := Kd.R_slice HO169.out; subst eo5) | ((with_reducible refine gate_callee (f := 19) rfl ?_); refine goesL_ (some 6) rfl rfl Tryd.func19 (by kernel_rfl) rfl #[.string (⟨#[97, 98, 10]⟩ : ByteArray), .slice Ao5 y167.length co5] rfl gl_ ?_; (with_reducible refine (Z26.calls k (⟨#[97, 98, 10]⟩ : ByteArray) _ _ y167 t170 t171 _ ?side1 ?side2 ?side3 A1.out).mono ?_); (case side1 => exact cc_ (Kd.R_reads' HO169.out).2.2); (case side2 => exact (Kd.R_reads' HO169.out).2.1); (case side3 => exact Wd.below HGl.out (bw_ HB.out)); rintro e w6 ⟨rfl, hb⟩; refine ⟨_, rfl, ?_⟩; have n0_ := am_ (Kd.R_below (rr_ HO169.out) hb); have n1_ := am_ (below_step (bw_ HB.out) hb); clear HO169; clear HB; have HO169 := n0_; have HB := n1_; clear n0_ n1_; (try clear hb); (try clear hb2); (try clear hk); (try clear hi)))
  go_ret
  exact ⟨by first | rfl | (simp [errW_none, errW_some] <;> rfl) | (simp [*, errW_none, errW_some] <;> rfl), bw_ HB.out⟩
 ·rw [if_neg c2] at H
  have c2b0 : (t171 == 0) = false := beq_eq_false_iff_ne.mpr c2
  have c2b1 : (t171 != 0) = true := bne_iff_ne.mpr c2
  obtain rfl := Option.some.inj H
  go_enter Tryd.func12, Tryd.ntmps12
  go_wp2_with (first | ((with_reducible refine gate_dst (N := 5) rfl ?_); refine Kd.R_lit k46 _ 46 ?hg (N := 5) ?hd (xs := ([(⟨0, 1⟩ : S46)] : List (S46))) (inner := [.int .i64 0, .int .i64 1]) (ok := fun _ => True) (okp := fun _ => True) ?hr ?hp (fun _ hk => hk) trivial (Below.refl _ _) (Nat.le_refl _) (by simp) ?_; (case hd => rfl); (case hg => rfl); (case hr => first | (go_simp; done) | (go_simp; rfl)); (case hp => exact (Reps.c2 (show Kd.M k46 _ _ _ (⟨0, 1⟩ : S46) [.int .i64 0, .int .i64 1] from (k46_mkM _ _ _ (⟨0, 1⟩ : S46) )) (Reps.none _ _))); intro v168 w7 ho8 hb hg_ hnew_; clear hg_ hnew_; (first | rw [← Ny167.out] at ho8 | (simp only [Int.reduceToNat] at ho8; rw [← Ny167.out] at ho8)); have n0_ := am_ (Kd.R_lower ho8 (below_size (bw_ HB.out))); have n1_ := am_ (below_step (bw_ HB.out) hb); clear HB; have HO169 := n0_; have HB := n1_; clear n0_ n1_; clear hb ho8; obtain ⟨Ao9, co9, eo9⟩ := Kd.R_slice HO169.out; subst eo9) | ((with_reducible refine gate_callee (f := 19) rfl ?_); refine goesL_ (some 6) rfl rfl Tryd.func19 (by kernel_rfl) rfl #[.string (⟨#[97, 98, 10]⟩ : ByteArray), .slice Ao9 y167.length co9] rfl gl_ ?_; (with_reducible refine (Z26.calls k (⟨#[97, 98, 10]⟩ : ByteArray) _ _ y167 t170 t171 _ ?side1 ?side2 ?side3 A1.out).mono ?_); (case side1 => exact cc_ (Kd.R_reads' HO169.out).2.2); (case side2 => exact (Kd.R_reads' HO169.out).2.1); (case side3 => exact Wd.below HGl.out (bw_ HB.out)); rintro e w10 ⟨rfl, hb⟩; refine ⟨_, rfl, ?_⟩; have n0_ := am_ (Kd.R_below (rr_ HO169.out) hb); have n1_ := am_ (below_step (bw_ HB.out) hb); clear HO169; clear HB; have HO169 := n0_; have HB := n1_; clear n0_ n1_; (try clear hb); (try clear hb2); (try clear hk); (try clear hi)))
  go_ret
  exact ⟨by first | rfl | (simp [errW_none, errW_some] <;> rfl) | (simp [*, errW_none, errW_some] <;> rfl), bw_ HB.out⟩
def Z23.l0 : Nat → List ByteArray → List ByteArray → Int → Int → Option (Bool)
  | 0, _, _, _, _ => none
  | k + 1, x0, x1, x12, x13 => if x13 < x12 then (if 0 ≤ x13 then (if x13 < (x0.length : Int) then (if x13 < (x1.length : Int) then (if (rdOf ByteArray.empty x0 x13).toList = (rdOf ByteArray.empty x1 x13).toList then (Z23.l0 k x0 x1 x12 (wrap64 (x13 + 1))) else (some false)) else (none)) else (none)) else (none)) else (some true)
def Z23.f (k : Nat) (l0 : List ByteArray) (l1 : List ByteArray) : Option (Bool) := if (l0.length : Int) = (l1.length : Int) then (Z23.l0 k l0 l1 (l0.length : Int) 0) else (some false)
theorem Z23.mono_l : ∀ k, (∀ y0 y1 y2 y3, LeO (Z23.l0 k y0 y1 y2 y3) (Z23.l0 (k + 1) y0 y1 y2 y3))
  | 0 => fun _ _ _ _ r h => by simp [Z23.l0] at h
  | k + 1 => by
    have ih0 := Z23.mono_l k
    · intro y0 y1 y2 y3
      unfold Z23.l0
      repeat' first
      | (with_reducible exact ih0 _ _ _ _)
      | (with_reducible exact LeO.refl _)
      | (with_reducible exact LeO.none _)
      | (with_reducible refine LeO.ite ?_ ?_)
      | (with_reducible refine LeO.bind ?_ (fun _ => ?_))
      | exact ih0 _ _ _ _
      | exact LeO.none _
      | refine LeO.ite ?_ ?_
      | refine LeO.bind ?_ (fun _ => ?_)
theorem Z23.mono : ∀ a0 a1 k, LeO (Z23.f k a0 a1) (Z23.f (k + 1) a0 a1) := by
  intro a0 a1 k
  have ih0 := Z23.mono_l k
  unfold Z23.f
  repeat' first
      | (with_reducible exact ih0 _ _ _ _)
      | (with_reducible exact LeO.refl _)
      | (with_reducible exact LeO.none _)
      | (with_reducible refine LeO.ite ?_ ?_)
      | (with_reducible refine LeO.bind ?_ (fun _ => ?_))
      | exact ih0 _ _ _ _
      | exact LeO.none _
      | refine LeO.ite ?_ ?_
      | refine LeO.bind ?_ (fun _ => ?_)
set_option maxHeartbeats 8000000 in
set_option maxRecDepth 100000 in
theorem Z23.calls (k : Nat) (A0 : Option Addr) (c0 : Nat) (l0 : List ByteArray) (A1 : Option Addr) (c1 : Nat) (l1 : List ByteArray) (r : Bool) (w : World) (hr0 : Kd.C Kd.string w A0 l0.length l0) (hc0 : l0.length ≤ c0) (hr1 : Kd.C Kd.string w A1 l1.length l1) (hc1 : l1.length ≤ c1) (h : Z23.f k l0 l1 = some r) :
  Calls Tryd.prog 13 #[.slice A0 l0.length c0, .slice A1 l1.length c1] w fun e w' => e = .returned (.bool r) ∧ Drawn0 w w' := by
 have HR0 := am_ hr0; have HC0 := am_ hc0; clear hr0 hc0; have HR1 := am_ hr1; have HC1 := am_ hc1; clear hr1 hc1
 have H : (if (l0.length : Int) = (l1.length : Int) then (Z23.l0 k l0 l1 (l0.length : Int) 0) else (some false)) = some r := h
 clear h
 by_cases c3 : (l0.length : Int) = (l1.length : Int)
 ·rw [if_pos c3] at H
  have c3b0 : ((l0.length : Int) == (l1.length : Int)) = true := beq_iff_eq.mpr c3
  have c3b1 : ((l0.length : Int) != (l1.length : Int)) = false := bne_eq_false_iff_eq.mpr c3
  have c3b2 : (l0.length == l1.length) = true := by first | simpa using c3 | (simp at c3 ⊢; omega)
  clear c3
  have H' := am_ H
  clear H
  go_enter Tryd.func13, Tryd.ntmps13
  go_wp2
  repeat (go_quiet (fail); try go_wp2)
  go_loopg [13] k (fun kq v13 w' => ∃ (x13_1 : Int), v13 = .int .i64 x13_1 ∧ Aside0 (Z23.l0 kq l0 l1 (l0.length : Int) x13_1 = some r) ∧ Aside0 (kq ≤ k) ∧ Drawn0 w w')
  case atStart => exact ⟨(0), tr_, H', ⟨Nat.le_refl _⟩, by repeat (first | exact Drawn0.refl _ | apply Drawn0.step)⟩
  case round =>
   clear H'; (try clear c1); (try clear p2); (try clear c3); (try clear c3b0); (try clear c3b1); (try clear c3b2)
   obtain ⟨x13_1, rfl, HA, HK1, ⟨m1, rfl⟩⟩ := hrel
   cases gk with
   | zero => exact absurd HA.out (by simp [Z23.l0])
   | succ k1 =>
    have H := HA.out
    clear HA
    simp only [Z23.l0] at H
    by_cases c4 : x13_1 < (l0.length : Int)
    ·rw [if_pos c4] at H
     have c4b0 := decide_eq_true c4; clear c4
     by_cases c5 : 0 ≤ x13_1
     case neg => exact (nn_ c5 H).elim
     rw [if_pos c5] at H; have c5b0 := decide_eq_true c5; clear c5
     by_cases c6 : x13_1 < (l0.length : Int)
     case neg => exact (nn_ c6 H).elim
     rw [if_pos c6] at H; have c6b0 := decide_eq_true c6; clear c6
     by_cases c7 : x13_1 < (l1.length : Int)
     case neg => exact (nn_ c7 H).elim
     rw [if_pos c7] at H; have c7b0 := decide_eq_true c7; clear c7
     by_cases c8 : (rdOf ByteArray.empty l0 x13_1).toList = (rdOf ByteArray.empty l1 x13_1).toList
     ·rw [if_pos c8] at H
      have c8b0 : ((rdOf ByteArray.empty l0 x13_1).toList == (rdOf ByteArray.empty l1 x13_1).toList) = true := beq_iff_eq.mpr c8
      have c8b1 : ((rdOf ByteArray.empty l0 x13_1).toList != (rdOf ByteArray.empty l1 x13_1).toList) = false := bne_eq_false_iff_eq.mpr c8
      clear c8
      have H' := am_ H
      clear H; have p172 : 0 ≤ (x13_1 : Int) := ode_; have q172 : x13_1 < (l0.length : Int) := ode_
      obtain ⟨ad172, e172, hx172_0⟩ := Kd.at_string HR0.out x13_1 p172 q172
      cases e172; replace p172 := eq_true p172; replace q172 := eq_true q172; have p173 : 0 ≤ (x13_1 : Int) := ode_; have q173 : x13_1 < (l1.length : Int) := ode_
      obtain ⟨ad173, e173, hx173_0⟩ := Kd.at_string HR1.out x13_1 p173 q173
      cases e173; replace p173 := eq_true p173; replace q173 := eq_true q173
      go_wp2
      repeat (go_quiet (fail); try go_wp2)
      go_roundg k1
      case measure => have := HK1.out; omega
      case rel => exact ⟨(wrap64 (x13_1 + 1)), tr_, H', ⟨by have := HK1.out; omega⟩, by repeat (first | exact Drawn0.refl _ | apply Drawn0.step)⟩
     ·rw [if_neg c8] at H
      have c8b0 : ((rdOf ByteArray.empty l0 x13_1).toList == (rdOf ByteArray.empty l1 x13_1).toList) = false := beq_eq_false_iff_ne.mpr c8
      have c8b1 : ((rdOf ByteArray.empty l0 x13_1).toList != (rdOf ByteArray.empty l1 x13_1).toList) = true := bne_iff_ne.mpr c8
      obtain rfl := Option.some.inj H
      have p172 : 0 ≤ (x13_1 : Int) := ode_; have q172 : x13_1 < (l0.length : Int) := ode_
      obtain ⟨ad172, e172, hx172_0⟩ := Kd.at_string HR0.out x13_1 p172 q172
      cases e172; replace p172 := eq_true p172; replace q172 := eq_true q172; have p173 : 0 ≤ (x13_1 : Int) := ode_; have q173 : x13_1 < (l1.length : Int) := ode_
      obtain ⟨ad173, e173, hx173_0⟩ := Kd.at_string HR1.out x13_1 p173 q173
      cases e173; replace p173 := eq_true p173; replace q173 := eq_true q173
      go_wp2
      repeat (go_quiet (fail); try go_wp2)
      go_ret
      exact ⟨by first | rfl | (simp; done) | (simp [*]; done), by repeat (first | exact Drawn0.refl _ | apply Drawn0.step)⟩
    ·rw [if_neg c4] at H
     have c4b0 : decide (x13_1 < (l0.length : Int)) = false := decide_eq_false c4
     clear c4
     obtain rfl := Option.some.inj H
     go_wp2
     repeat (go_quiet (fail); try go_wp2)
     go_ret
     exact ⟨by first | rfl | (simp; done) | (simp [*]; done), by repeat (first | exact Drawn0.refl _ | apply Drawn0.step)⟩
 ·rw [if_neg c3] at H
  have c3b0 : ((l0.length : Int) == (l1.length : Int)) = false := beq_eq_false_iff_ne.mpr c3
  have c3b1 : ((l0.length : Int) != (l1.length : Int)) = true := bne_iff_ne.mpr c3
  have c3b2 : (l0.length == l1.length) = false := by first | simpa using c3 | (simp at c3 ⊢; omega)
  obtain rfl := Option.some.inj H
  go_enter Tryd.func13, Tryd.ntmps13
  go_wp2
  repeat (go_quiet (fail); try go_wp2)
  go_ret
  exact ⟨by first | rfl | (simp; done) | (simp [*]; done), by repeat (first | exact Drawn0.refl _ | apply Drawn0.step)⟩
def Z40.f (a0 : Int) (a1 : Int) : Option (Int) := if a1 < 1 then (some 0) else (if a1 = 0 then (none) else (if (Int.tmod a0 a1) < 0 then (some (wrap64 ((Int.tmod a0 a1) + a1))) else (some (Int.tmod a0 a1))))
set_option maxHeartbeats 8000000 in
set_option maxRecDepth 100000 in
theorem Z40.calls (a0 : Int) (a1 : Int) (r : Int) (w : World) (h : Z40.f a0 a1 = some r) :
    Calls Tryd.prog 77 #[.int .i64 a0, .int .i64 a1] w fun e w' => e = .returned (.int .i64 r) ∧ Drawn0 w w' := by
  have H : (if a1 < 1 then (some 0) else (if a1 = 0 then (none) else (if (Int.tmod a0 a1) < 0 then (some (wrap64 ((Int.tmod a0 a1) + a1))) else (some (Int.tmod a0 a1))))) = some r := h
  clear h
  by_cases c3 : a1 < 1
  · rw [if_pos c3] at H
    have c3b0 := decide_eq_true c3; clear c3
    obtain rfl := Option.some.inj H
    go_enter Tryd.func77, Tryd.ntmps77
    go_wp2
    go_ret
    exact ⟨by first | rfl | (simp; done) | (simp [*]; done), by repeat (first | exact Drawn0.refl _ | apply Drawn0.step)⟩
  · rw [if_neg c3] at H
    have c3b0 : decide (a1 < 1) = false := decide_eq_false c3
    clear c3
    by_cases c4 : a1 = 0
    · rw [if_pos c4] at H
      exact absurd H (by simp)
    · rw [if_neg c4] at H
      have c4b0 : (a1 == 0) = false := beq_eq_false_iff_ne.mpr c4
      have c4b1 : (a1 != 0) = true := bne_iff_ne.mpr c4
      by_cases c5 : (Int.tmod a0 a1) < 0
      · rw [if_pos c5] at H
        have c5b0 := decide_eq_true c5; clear c5
        obtain rfl := Option.some.inj H
        go_enter Tryd.func77, Tryd.ntmps77
        go_wp2
        go_ret
        exact ⟨by first | rfl | (simp; done) | (simp [*]; done), by repeat (first | exact Drawn0.refl _ | apply Drawn0.step)⟩
      · rw [if_neg c5] at H
        have c5b0 : decide ((Int.tmod a0 a1) < 0) = false := decide_eq_false c5
        clear c5
        obtain rfl := Option.some.inj H
        go_enter Tryd.func77, Tryd.ntmps77
        go_wp2
        go_ret
        exact ⟨by first | rfl | (simp; done) | (simp [*]; done), by repeat (first | exact Drawn0.refl _ | apply Drawn0.step)⟩
def IsS25 (w0 W : World) (g : Nat) (f0 : List Int) (f1 : Int) : Prop := ∃ A0 c0, W.heap[g]? = some (.cells #[.slice A0 f0.length c0, .int .i64 f1] 25 (0, 0)) ∧ w0.heap.size ≤ g ∧ Kd.C (Kd.int .i64) w0 A0 f0.length f0
theorem IsS25.grown {w0 W : World} {g : Nat} {f0 : List Int} {f1 : Int} {W1 : World} {row : Option Nat} (h : IsS25 w0 W g f0 f1) (hw : W.grownBy W1 row) (hne : some g ≠ row) : IsS25 w0 W1 g f0 f1 := by
  obtain ⟨A0, c0, hb, hg, hr0⟩ := h
  exact ⟨A0, c0, blk_grown hb hw hne, hg, hr0⟩
theorem IsS25.fresh {w0 W : World} {g : Nat} {f0 : List Int} {f1 : Int} (h : IsS25 w0 W g f0 f1) : ∀ k, W.heap.size ≤ k → k ≠ g := by
  obtain ⟨A0, c0, hb, hg, hr0⟩ := h
  exact Kd.freshB hb
theorem IsS25.kept {w0 W : World} {g : Nat} {f0 : List Int} {f1 : Int} {W1 : World} {S : Nat → Prop} (h : IsS25 w0 W g f0 f1) (hk : Kept W W1 S) (hne : ¬ S g) : IsS25 w0 W1 g f0 f1 := by
  obtain ⟨A0, c0, hb, hg, hr0⟩ := h
  exact ⟨A0, c0, blk_kept hb hk hne, hg, hr0⟩
theorem IsS25.below {w0 W : World} {g : Nat} {f0 : List Int} {f1 : Int} {W1 : World} (h : IsS25 w0 W g f0 f1) (hw : Below W.heap.size W W1) : IsS25 w0 W1 g f0 f1 := h.grown (grown_of_below hw none) (by simp)
theorem IsS25.alloc {w0 W : World} {g : Nat} {f0 : List Int} {f1 : Int} (h : IsS25 w0 W g f0 f1) (o : Obj) : IsS25 w0 (W.alloc o) g f0 f1 := h.below (b3_ (Below.refl _ _) o)
theorem IsS25.drewN {w0 W : World} {g : Nat} {f0 : List Int} {f1 : Int} (h : IsS25 w0 W g f0 f1) (m : Nat) : IsS25 w0 (W.drewN m) g f0 f1 := h
theorem IsS25.drew {w0 W : World} {g : Nat} {f0 : List Int} {f1 : Int} (h : IsS25 w0 W g f0 f1) : IsS25 w0 W.drew g f0 f1 := h
theorem IsS25.at_ {w0 W : World} {g : Nat} {f0 : List Int} {f1 : Int} {w' : World} {m : Nat} (hq : W.drewN m = w') (h : IsS25 w0 W g f0 f1) : IsS25 w0 w' g f0 f1 := by subst hq; exact IsS25.drewN h m
theorem IsS25.apart {w0 W : World} {g : Nat} {f0 : List Int} {f1 : Int} {α : Type} {d : Kd α} {e : Nat} {base : Nat} {ok : Nat → Prop} {v : Value} {xs : List α} (h : IsS25 w0 W g f0 f1) (ho : d.R e W base ok v xs) (ht : ∀ q, q ∈ e :: d.E → q ≠ 25) : d.R e W base (fun k => ok k ∧ k ≠ g) v xs := by
  obtain ⟨A0, c0, hb, hg, hr0⟩ := h
  exact Kd.R_types ho hb ht
theorem IsS25.own_ne {w0 W : World} {g : Nat} {f0 : List Int} {f1 : Int} {α : Type} {d : Kd α} {e : Nat} {base : Nat} {ok : Nat → Prop} {v : Value} {xs : List α} (h : IsS25 w0 W g f0 f1) (ho : d.R e W base ok v xs) (ht : e ≠ 25) : some g ≠ v.ownBlock := by
  obtain ⟨A0, c0, hb, hg, hr0⟩ := h
  exact Kd.R_ne ho hb ht
theorem IsS25.lt {w0 W : World} {g : Nat} {f0 : List Int} {f1 : Int} (h : IsS25 w0 W g f0 f1) : g < W.heap.size := by
  obtain ⟨A0, c0, hb, hg, hr0⟩ := h
  exact blk_lt hb
theorem IsS25.ge {w0 W : World} {g : Nat} {f0 : List Int} {f1 : Int} (h : IsS25 w0 W g f0 f1) : w0.heap.size ≤ g := by
  obtain ⟨A0, c0, hb, hg, hr0⟩ := h
  exact hg
theorem IsS25.far {w0 W : World} {g : Nat} {f0 : List Int} {f1 : Int} {p : Addr} (h : IsS25 w0 W g f0 f1) (hne : g ≠ p.block) (u : Value) : IsS25 w0 (W.setCell p u) g f0 f1 := by
  obtain ⟨A0, c0, hb, hg, hr0⟩ := h
  exact ⟨A0, c0, blk_far hb hne u, hg, hr0⟩
theorem cellS25_0 {W : World} {g : Nat} {A0 : Option Addr} {c0 : Nat} {f0 : List Int} {f1 : Int} (h : W.heap[g]? = some (.cells #[.slice A0 f0.length c0, .int .i64 f1] 25 (0, 0))) : W.cell? ⟨g, 0, none⟩ = some (.slice A0 f0.length c0) := (blk_cell h 0).trans rfl
theorem cellS25_1 {W : World} {g : Nat} {A0 : Option Addr} {c0 : Nat} {f0 : List Int} {f1 : Int} (h : W.heap[g]? = some (.cells #[.slice A0 f0.length c0, .int .i64 f1] 25 (0, 0))) : W.cell? ⟨g, 1, none⟩ = some (.int .i64 f1) := (blk_cell h 1).trans rfl
theorem IsS25.set_1 {w0 W : World} {g : Nat} {f0 : List Int} {f1 : Int} (h : IsS25 w0 W g f0 f1) (x : Int) : IsS25 w0 (W.setCell ⟨g, 1, none⟩ (.int .i64 x)) g f0 x := by
  obtain ⟨A0, c0, hb, hg, hr0⟩ := h
  exact ⟨A0, c0, by simpa using blk_set hb 1 (.int .i64 x), hg, hr0⟩
theorem is_ {w w1 w2 : World} {g : Nat} {l : List Int} {i j : Int} (h : IsS25 w w1 g l i) (k : IsS25 w w1 g l i → IsS25 w w2 g l j := by intro h_; repeat (first | (with_reducible first | exact h_ | apply IsS25.alloc | apply IsS25.drewN | apply IsS25.drew | apply IsS25.set_1) | exact h_)) : IsS25 w w2 g l j := k h
def Z42.f (s0_0 : List Int) (s0_1 : Int) (a1 : Int) : Option (Int × Int) := if (s0_0.length : Int) = 0 then ((Z40.f (wrap64 ((wrap64 (s0_1 + 1)) * 7919)) a1).bind fun t174 => (some (t174, wrap64 (s0_1 + 1)))) else (if 0 ≤ (Int.tmod (wrap64 ((wrap64 (s0_1 + 1)) - 1)) (s0_0.length : Int)) then (if (Int.tmod (wrap64 ((wrap64 (s0_1 + 1)) - 1)) (s0_0.length : Int)) < (s0_0.length : Int) then ((Z40.f (rd s0_0 (Int.tmod (wrap64 ((wrap64 (s0_1 + 1)) - 1)) (s0_0.length : Int))) 1073741824).bind fun t176 => ((Z40.f (wrap64 (t176 + (wrap64 ((wrap64 (Int.tdiv (wrap64 ((wrap64 (s0_1 + 1)) - 1)) (s0_0.length : Int))) * (wrap64 (7919 + (Int.tmod (wrap64 ((wrap64 (s0_1 + 1)) - 1)) (s0_0.length : Int)))))))) a1).bind fun t177 => (some (t177, wrap64 (s0_1 + 1))))) else (none)) else (none))
set_option maxHeartbeats 8000000 in
set_option maxRecDepth 100000 in
theorem Z42.calls (g : Nat) (s0_0 : List Int) (s0_1 : Int) (a1 : Int) (r1 : Int) (r2 : Int) (w0 w : World) (hI : IsS25 w0 w g s0_0 s0_1) (hB : Below w0.heap.size w0 w) (h : Z42.f s0_0 s0_1 a1 = some (r1, r2)) :
  Calls Tryd.prog 36 #[.pointer (some ⟨g, 0, none⟩), .int .i64 a1] w fun e w' => e = .returned (.int .i64 r1) ∧ IsS25 w0 w' g s0_0 r2 ∧ Below w0.heap.size w0 w' ∧ KeepBut w w' g none := by
 have HI0 := am_ hI
 have HK := am_ (KeepBut.refl w g none)
 have HL := am_ hB.size; clear hI; have HW0 := am_ hB.size; have HB := am_ hB; clear hB
 have H : (if (s0_0.length : Int) = 0 then ((Z40.f (wrap64 ((wrap64 (s0_1 + 1)) * 7919)) a1).bind fun t174 => (some (t174, wrap64 (s0_1 + 1)))) else (if 0 ≤ (Int.tmod (wrap64 ((wrap64 (s0_1 + 1)) - 1)) (s0_0.length : Int)) then (if (Int.tmod (wrap64 ((wrap64 (s0_1 + 1)) - 1)) (s0_0.length : Int)) < (s0_0.length : Int) then ((Z40.f (rd s0_0 (Int.tmod (wrap64 ((wrap64 (s0_1 + 1)) - 1)) (s0_0.length : Int))) 1073741824).bind fun t176 => ((Z40.f (wrap64 (t176 + (wrap64 ((wrap64 (Int.tdiv (wrap64 ((wrap64 (s0_1 + 1)) - 1)) (s0_0.length : Int))) * (wrap64 (7919 + (Int.tmod (wrap64 ((wrap64 (s0_1 + 1)) - 1)) (s0_0.length : Int)))))))) a1).bind fun t177 => (some (t177, wrap64 (s0_1 + 1))))) else (none)) else (none))) = some (r1, r2) := h
 clear h
 by_cases c3 : (s0_0.length : Int) = 0
 ·rw [if_pos c3] at H
  have c3b0 : ((s0_0.length : Int) == 0) = true := beq_iff_eq.mpr c3
  have c3b1 : ((s0_0.length : Int) != 0) = false := bne_eq_false_iff_eq.mpr c3
  clear c3; replace H := Option.bind_eq_some_iff.mp H; obtain ⟨t174, A40, H⟩ := H; have A4 := am_ A40; clear A40
  simp only [Option.some.injEq, Prod.mk.injEq] at H
  obtain ⟨rfl, rfl⟩ := H
  obtain ⟨ASz5_0, cSz5_0, HGz5, hgz5, HSz5_0⟩ := HI0.out
  have hcz5_0 := cellS25_0 HGz5
  have hcz5_1 := cellS25_1 HGz5
  have hfz5_1 := blk_frozen HGz5 1
  clear HGz5 hgz5
  go_enter Tryd.func36, Tryd.ntmps36
  go_wp2_with (first | (go_at_call 77; (with_reducible refine (Z40.calls (wrap64 ((wrap64 (s0_1 + 1)) * 7919)) a1 t174 _ A4.out).mono ?_); rintro e w' ⟨rfl, ⟨nd, rfl⟩⟩; (try first | exact ⟨rfl, _, World.drewN_drewN _ _ _⟩ | exact ⟨rfl, _, Eq.trans (World.drewN_drewN _ _ _) (congrArg (World.drewN _) (Nat.add_assoc _ _ _))⟩)))
  repeat (go_quiet (first | (go_at_call 77; (with_reducible refine (Z40.calls (wrap64 ((wrap64 (s0_1 + 1)) * 7919)) a1 t174 _ A4.out).mono ?_); rintro e w' ⟨rfl, ⟨nd, rfl⟩⟩; (try first | exact ⟨rfl, _, World.drewN_drewN _ _ _⟩ | exact ⟨rfl, _, Eq.trans (World.drewN_drewN _ _ _) (congrArg (World.drewN _) (Nat.add_assoc _ _ _))⟩))); try go_wp2_with (first | (go_at_call 77; (with_reducible refine (Z40.calls (wrap64 ((wrap64 (s0_1 + 1)) * 7919)) a1 t174 _ A4.out).mono ?_); rintro e w' ⟨rfl, ⟨nd, rfl⟩⟩; (try first | exact ⟨rfl, _, World.drewN_drewN _ _ _⟩ | exact ⟨rfl, _, Eq.trans (World.drewN_drewN _ _ _) (congrArg (World.drewN _) (Nat.add_assoc _ _ _))⟩))))
  go_ret
  exact ⟨by first | rfl | (simp [errW_none, errW_some] <;> rfl) | (simp [*, errW_none, errW_some] <;> rfl), is_ HI0.out, bs_ HB.out (IsS25.ge HI0.out), kk_ HK.out⟩
 ·rw [if_neg c3] at H
  have c3b0 : ((s0_0.length : Int) == 0) = false := beq_eq_false_iff_ne.mpr c3
  have c3b1 : ((s0_0.length : Int) != 0) = true := bne_iff_ne.mpr c3
  have c3b2 : ¬ (s0_0 = []) := fun h_ => c3 (by rw [h_]; rfl)
  obtain ⟨ji6, hji6⟩ : ∃ j_ : Int, (Int.tmod (wrap64 ((wrap64 (s0_1 + 1)) - 1)) (s0_0.length : Int)) = j_ := ⟨_, rfl⟩
  replace H : (if 0 ≤ (ji6) then (if (ji6) < (s0_0.length : Int) then ((Z40.f (rd s0_0 (ji6)) 1073741824).bind fun t176 => ((Z40.f (wrap64 (t176 + (wrap64 ((wrap64 (Int.tdiv (wrap64 ((wrap64 (s0_1 + 1)) - 1)) (s0_0.length : Int))) * (wrap64 (7919 + (ji6))))))) a1).bind fun t177 => (some (t177, wrap64 (s0_1 + 1))))) else (none)) else (none)) = some (r1, r2) := by first | (rw [hji6] at H; exact H) | (simp only [hji6] at H ⊢; exact H)
  by_cases c7 : 0 ≤ (ji6)
  case neg => exact (nn_ c7 H).elim
  rw [if_pos c7] at H; have c7b0 := decide_eq_true c7; clear c7
  by_cases c8 : (ji6) < (s0_0.length : Int)
  case neg => exact (nn_ c8 H).elim
  rw [if_pos c8] at H; have c8b0 := decide_eq_true c8; clear c8; replace H := Option.bind_eq_some_iff.mp H; obtain ⟨t176, A90, H⟩ := H; have A9 := am_ A90; clear A90; replace H := Option.bind_eq_some_iff.mp H; obtain ⟨t177, A100, H⟩ := H; have A10 := am_ A100; clear A100
  simp only [Option.some.injEq, Prod.mk.injEq] at H
  obtain ⟨rfl, rfl⟩ := H
  obtain ⟨ASz11_0, cSz11_0, HGz11, hgz11, HSz11_0⟩ := HI0.out
  have hcz11_0 := cellS25_0 HGz11
  have hcz11_1 := cellS25_1 HGz11
  have hfz11_1 := blk_frozen HGz11 1
  clear HGz11 hgz11; have p175 : 0 ≤ ((ji6) : Int) := ode_; have q175 : (ji6) < (s0_0.length : Int) := ode_
  obtain ⟨ad175, e175, hx175_0⟩ := Kd.at_int HSz11_0 (ji6) p175 q175
  cases e175
  have hn175_0 : ad175.block ≠ g := Nat.ne_of_lt (Nat.lt_of_lt_of_le (by have := World.block_lt_of_cell? _ _ hx175_0; first | rwa [add_block] at this | exact this) (IsS25.ge HI0.out))
  replace hx175_0 := pw_cell_below HB.out hx175_0
  replace hx175_0 := (cell_far (p := ⟨g, 1, none⟩) (by first | (rw [add_block]; exact hn175_0) | (show (Addr.add _ _).block ≠ _; rw [add_block]; exact hn175_0) | exact hn175_0) (.int .i64 (wrap64 (s0_1 + 1)))).trans hx175_0
  (try have hy175_0 := fun (n_ : Nat) => (show (((w.drewN n_).setCell ⟨g, 1, none⟩ (.int .i64 (wrap64 (s0_1 + 1))))).cell? _ = some _ from hx175_0))
  clear hn175_0; replace p175 := eq_true p175; replace q175 := eq_true q175
  go_enter Tryd.func36, Tryd.ntmps36
  go_wp2_with (first | (go_at_call 77; (with_reducible refine (Z40.calls (rd s0_0 (ji6)) 1073741824 t176 _ A9.out).mono ?_); rintro e w' ⟨rfl, ⟨nd, rfl⟩⟩; (try first | exact ⟨rfl, _, World.drewN_drewN _ _ _⟩ | exact ⟨rfl, _, Eq.trans (World.drewN_drewN _ _ _) (congrArg (World.drewN _) (Nat.add_assoc _ _ _))⟩)) | (go_at_call 77; (with_reducible refine (Z40.calls (wrap64 (t176 + (wrap64 ((wrap64 (Int.tdiv (wrap64 ((wrap64 (s0_1 + 1)) - 1)) (s0_0.length : Int))) * (wrap64 (7919 + (ji6))))))) a1 t177 _ A10.out).mono ?_); rintro e w' ⟨rfl, ⟨nd, rfl⟩⟩; (try first | exact ⟨rfl, _, World.drewN_drewN _ _ _⟩ | exact ⟨rfl, _, Eq.trans (World.drewN_drewN _ _ _) (congrArg (World.drewN _) (Nat.add_assoc _ _ _))⟩)))
  repeat (go_quiet (first | (go_at_call 77; (with_reducible refine (Z40.calls (rd s0_0 (ji6)) 1073741824 t176 _ A9.out).mono ?_); rintro e w' ⟨rfl, ⟨nd, rfl⟩⟩; (try first | exact ⟨rfl, _, World.drewN_drewN _ _ _⟩ | exact ⟨rfl, _, Eq.trans (World.drewN_drewN _ _ _) (congrArg (World.drewN _) (Nat.add_assoc _ _ _))⟩)) | (go_at_call 77; (with_reducible refine (Z40.calls (wrap64 (t176 + (wrap64 ((wrap64 (Int.tdiv (wrap64 ((wrap64 (s0_1 + 1)) - 1)) (s0_0.length : Int))) * (wrap64 (7919 + (ji6))))))) a1 t177 _ A10.out).mono ?_); rintro e w' ⟨rfl, ⟨nd, rfl⟩⟩; (try first | exact ⟨rfl, _, World.drewN_drewN _ _ _⟩ | exact ⟨rfl, _, Eq.trans (World.drewN_drewN _ _ _) (congrArg (World.drewN _) (Nat.add_assoc _ _ _))⟩))); try go_wp2_with (first | (go_at_call 77; (with_reducible refine (Z40.calls (rd s0_0 (ji6)) 1073741824 t176 _ A9.out).mono ?_); rintro e w' ⟨rfl, ⟨nd, rfl⟩⟩; (try first | exact ⟨rfl, _, World.drewN_drewN _ _ _⟩ | exact ⟨rfl, _, Eq.trans (World.drewN_drewN _ _ _) (congrArg (World.drewN _) (Nat.add_assoc _ _ _))⟩)) | (go_at_call 77; (with_reducible refine (Z40.calls (wrap64 (t176 + (wrap64 ((wrap64 (Int.tdiv (wrap64 ((wrap64 (s0_1 + 1)) - 1)) (s0_0.length : Int))) * (wrap64 (7919 + (ji6))))))) a1 t177 _ A10.out).mono ?_); rintro e w' ⟨rfl, ⟨nd, rfl⟩⟩; (try first | exact ⟨rfl, _, World.drewN_drewN _ _ _⟩ | exact ⟨rfl, _, Eq.trans (World.drewN_drewN _ _ _) (congrArg (World.drewN _) (Nat.add_assoc _ _ _))⟩))))
  go_ret
  exact ⟨by first | rfl | (simp [errW_none, errW_some] <;> rfl) | (simp only [← hji6]; first | rfl | (simp [errW_none, errW_some] <;> rfl)) | (simp [*, errW_none, errW_some] <;> rfl), is_ HI0.out, bs_ HB.out (IsS25.ge HI0.out), kk_ HK.out⟩
def Z44.f (s0_0 : List Int) (s0_1 : Int) (l1 : List ByteArray) : Option (ByteArray × Int) := (Z42.f s0_0 s0_1 (l1.length : Int)).bind fun bt178 => (if 0 ≤ bt178.1 then (if bt178.1 < (l1.length : Int) then (some (rdOf ByteArray.empty l1 bt178.1, bt178.2)) else (none)) else (none))
set_option maxHeartbeats 8000000 in
set_option maxRecDepth 100000 in
theorem Z44.calls (g : Nat) (s0_0 : List Int) (s0_1 : Int) (A1 : Option Addr) (c1 : Nat) (l1 : List ByteArray) (r1 : ByteArray) (r2 : Int) (w0 w : World) (hI : IsS25 w0 w g s0_0 s0_1) (hB : Below w0.heap.size w0 w) (hr1 : Kd.C Kd.string w A1 l1.length l1) (hc1 : l1.length ≤ c1) (hf1 : ∀ ad, A1 = some ad → 0 < l1.length → ad.block ≠ g) (h : Z44.f s0_0 s0_1 l1 = some (r1, r2)) :
  Calls Tryd.prog 38 #[.pointer (some ⟨g, 0, none⟩), .slice A1 l1.length c1] w fun e w' => e = .returned (.string r1) ∧ IsS25 w0 w' g s0_0 r2 ∧ Below w0.heap.size w0 w' ∧ KeepBut w w' g none := by
 have HR1 := am_ hr1; have HC1 := am_ hc1; clear hr1 hc1; have HI0 := am_ hI
 have HK := am_ (KeepBut.refl w g none)
 have HL := am_ hB.size; clear hI; have HW0 := am_ hB.size; have HB := am_ hB; clear hB
 have H : ((Z42.f s0_0 s0_1 (l1.length : Int)).bind fun bt178 => (if 0 ≤ bt178.1 then (if bt178.1 < (l1.length : Int) then (some (rdOf ByteArray.empty l1 bt178.1, bt178.2)) else (none)) else (none))) = some (r1, r2) := h
 clear h; replace H := Option.bind_eq_some_iff.mp H
 obtain ⟨⟨t178, t179⟩, A30, H⟩ := H
 replace H : (if 0 ≤ t178 then (if t178 < (l1.length : Int) then (some (rdOf ByteArray.empty l1 t178, t179)) else (none)) else (none)) = some (r1, r2) := H
 have A3 := am_ A30; clear A30
 by_cases c4 : 0 ≤ t178
 case neg => exact (nn_ c4 H).elim
 rw [if_pos c4] at H; have c4b0 := decide_eq_true c4; clear c4
 by_cases c5 : t178 < (l1.length : Int)
 case neg => exact (nn_ c5 H).elim
 rw [if_pos c5] at H; have c5b0 := decide_eq_true c5; clear c5
 simp only [Option.some.injEq, Prod.mk.injEq] at H
 obtain ⟨rfl, rfl⟩ := H
 go_enter Tryd.func38, Tryd.ntmps38
 go_wp2_with (first | ((with_reducible refine gate_callee (f := 36) rfl ?_); refine goesL_ (some 9) rfl rfl Tryd.func36 (by kernel_rfl) rfl #[.pointer (some ⟨g, 0, none⟩), .int .i64 (l1.length : Int)] rfl gl_ ?_; (with_reducible refine (Z42.calls g s0_0 s0_1 (l1.length : Int) t178 t179 w0 _ ?side1 ?side2 A3.out).mono ?_); (case side1 => exact is_ HI0.out); (case side2 => exact bs_ HB.out (IsS25.ge HI0.out)); rintro e w6 ⟨rfl, hi, hb, hk⟩; refine ⟨_, rfl, ?_⟩; have n0_ := am_ (KeepBut.trans (kk_ HK.out) hk (.inl rfl)); have n1_ := am_ (hb); have n2_ := am_ (hi); clear HK; clear HB; clear HI0; have HK := n0_; have HB := n1_; have HI0 := n2_; clear n0_ n1_ n2_; (try clear hb); (try clear hb2); (try clear hk); (try clear hi); have p180 : 0 ≤ (t178 : Int) := ode_; have q180 : t178 < (l1.length : Int) := ode_; obtain ⟨ad180, e180, hx180_0⟩ := Kd.at_string HR1.out t178 p180 q180; cases e180; replace hx180_0 := keep_cell HK.out hx180_0 (by first | (rw [add_block]; exact hf1 _ rfl (by omega)) | exact hf1 _ rfl (by omega) | exact hf1 ad180 rfl (by omega)); replace p180 := eq_true p180; replace q180 := eq_true q180))
 go_ret
 exact ⟨by first | rfl | (simp [errW_none, errW_some] <;> rfl) | (simp [*, errW_none, errW_some] <;> rfl), is_ HI0.out, bs_ HB.out (IsS25.ge HI0.out), kk_ HK.out⟩
def Z49.f (a0 : ByteArray) (a1 : Int) : Option (ByteArray) := if 2 ≤ a1 ∧ a1 ≤ 9223372036854775807 ∧ a0.size * a1.toNat ≤ 140737488355328 ∧ 0 < a0.size then (some (⟨(Lib.repeatL a0.data.toList a1.toNat).toArray⟩ : ByteArray)) else (none)
set_option maxHeartbeats 8000000 in
set_option maxRecDepth 100000 in
theorem Z49.calls (a0 : ByteArray) (a1 : Int) (r : ByteArray) (w : World) (h : Z49.f a0 a1 = some r) :
    Calls Tryd.prog 39 #[.string a0, .int .i64 a1] w fun e w' => e = .returned (.string r) ∧ Below w.heap.size w w' := by
  unfold Z49.f at h
  by_cases hs : 2 ≤ a1 ∧ a1 ≤ 9223372036854775807 ∧ a0.size * a1.toNat ≤ 140737488355328 ∧ 0 < a0.size
  · rw [if_pos hs] at h
    obtain rfl := Option.some.inj h
    obtain ⟨c, rfl⟩ := Int.eq_ofNat_of_zero_le (show 0 ≤ a1 by omega)
    refine (Tryd.strings_Repeat_main a0 c w (by omega) (by omega) (by simpa using hs.2.2.1) hs.2.2.2).mono ?_
    rintro e w' ⟨rfl, hb⟩
    exact ⟨rfl, hb⟩
  · rw [if_neg hs] at h
    exact absurd h (by simp)
def Z45.f (s0_0 : List Int) (s0_1 : Int) (a1 : Int) : Option (Bool × Int) := (Z42.f s0_0 s0_1 a1).bind fun bt181 => (some ((bt181.1 == 0), bt181.2))
set_option maxHeartbeats 8000000 in
set_option maxRecDepth 100000 in
theorem Z45.calls (g : Nat) (s0_0 : List Int) (s0_1 : Int) (a1 : Int) (r1 : Bool) (r2 : Int) (w0 w : World) (hI : IsS25 w0 w g s0_0 s0_1) (hB : Below w0.heap.size w0 w) (h : Z45.f s0_0 s0_1 a1 = some (r1, r2)) :
  Calls Tryd.prog 50 #[.pointer (some ⟨g, 0, none⟩), .int .i64 a1] w fun e w' => e = .returned (.bool r1) ∧ IsS25 w0 w' g s0_0 r2 ∧ Below w0.heap.size w0 w' ∧ KeepBut w w' g none := by
 have HI0 := am_ hI
 have HK := am_ (KeepBut.refl w g none)
 have HL := am_ hB.size; clear hI; have HW0 := am_ hB.size; have HB := am_ hB; clear hB
 have H : ((Z42.f s0_0 s0_1 a1).bind fun bt181 => (some ((bt181.1 == 0), bt181.2))) = some (r1, r2) := h
 clear h; replace H := Option.bind_eq_some_iff.mp H
 obtain ⟨⟨t181, t182⟩, A30, H⟩ := H
 replace H : (some ((t181 == 0), t182)) = some (r1, r2) := H
 have A3 := am_ A30; clear A30
 simp only [Option.some.injEq, Prod.mk.injEq] at H
 obtain ⟨rfl, rfl⟩ := H
 go_enter Tryd.func50, Tryd.ntmps50
 go_wp2_with (first | ((with_reducible refine gate_callee (f := 36) rfl ?_); refine goesL_ (some 7) rfl rfl Tryd.func36 (by kernel_rfl) rfl #[.pointer (some ⟨g, 0, none⟩), .int .i64 a1] rfl gl_ ?_; (with_reducible refine (Z42.calls g s0_0 s0_1 a1 t181 t182 w0 _ ?side1 ?side2 A3.out).mono ?_); (case side1 => exact is_ HI0.out); (case side2 => exact bs_ HB.out (IsS25.ge HI0.out)); rintro e w4 ⟨rfl, hi, hb, hk⟩; refine ⟨_, rfl, ?_⟩; have n0_ := am_ (KeepBut.trans (kk_ HK.out) hk (.inl rfl)); have n1_ := am_ (hb); have n2_ := am_ (hi); clear HK; clear HB; clear HI0; have HK := n0_; have HB := n1_; have HI0 := n2_; clear n0_ n1_ n2_; (try clear hb); (try clear hb2); (try clear hk); (try clear hi)))
 go_ret
 exact ⟨by first | rfl | (simp [errW_none, errW_some] <;> rfl) | (simp [*, errW_none, errW_some] <;> rfl), is_ HI0.out, bs_ HB.out (IsS25.ge HI0.out), kk_ HK.out⟩
mutual
def Z12.l0 : Nat → ByteArray → Int → Int → List Int → Int → Option (ByteArray × Int)
  | 0, _, _, _, _, _ => none
  | k + 1, x3, x5, x6, x1000, x1001 => if x6 < x5 then ((Z44.f x1000 x1001 (([(⟨#[109, 101, 109, 111]⟩ : ByteArray), (⟨#[77, 101, 109, 111]⟩ : ByteArray), (⟨#[109, 101, 109, 111, 115]⟩ : ByteArray), (⟨#[115, 101, 101, 32, 116, 104, 101]⟩ : ByteArray), (⟨#[195, 169, 116, 195, 169]⟩ : ByteArray), (⟨#[115, 101, 99, 114, 101, 116]⟩ : ByteArray), (⟨#[83, 69, 67, 82, 69, 84, 32, 112, 108, 97, 110]⟩ : ByteArray), (⟨#[97]⟩ : ByteArray), (⟨#[120, 45, 121]⟩ : ByteArray), (⟨#[51, 114, 100]⟩ : ByteArray)] : List ByteArray))).bind fun bt188 => ((Z44.f x1000 bt188.2 (([(⟨#[32]⟩ : ByteArray), (⟨#[32]⟩ : ByteArray), (⟨#[10]⟩ : ByteArray), (⟨#[44, 32]⟩ : ByteArray), (⟨#[]⟩ : ByteArray)] : List ByteArray))).bind fun bt193 => (if bt188.1.size + bt193.1.size ≤ 9223372036854775807 then (if x3.size + (bt188.1 ++ bt193.1).size ≤ 9223372036854775807 then (Z12.l0 k (x3 ++ (bt188.1 ++ bt193.1)) x5 (wrap64 (x6 + 1)) x1000 bt193.2) else (none)) else (none)))) else (if x3.toList = ([] : List UInt8) then (Z12.j1 k x3 false x1000 x1001) else ((Z45.f x1000 x1001 12).bind fun bt195 => (Z12.j1 k x3 (!bt195.1) x1000 bt195.2)))
def Z12.j1 : Nat → ByteArray → Bool → List Int → Int → Option (ByteArray × Int)
  | 0, _, _, _, _ => none
  | k + 1, x3, x24, x1000, x1001 => if x24 = true then (if x3.size + 1 ≤ 9223372036854775807 then (Z12.j2 k (x3 ++ (⟨#[10]⟩ : ByteArray)) x1000 x1001) else (none)) else (Z12.j2 k x3 x1000 x1001)
def Z12.j2 : Nat → ByteArray → List Int → Int → Option (ByteArray × Int)
  | 0, _, _, _ => none
  | k + 1, x3, x1000, x1001 => (Z45.f x1000 x1001 20).bind fun bt197 => (if bt197.1 = true then ((Z49.f (⟨#[109]⟩ : ByteArray) 20000).bind fun t199 => (if t199.size + 1 ≤ 9223372036854775807 then ((Z44.f x1000 bt197.2 (([(⟨#[97, 9, 98, 10]⟩ : ByteArray), (⟨#[255, 10]⟩ : ByteArray), t199 ++ (⟨#[10]⟩ : ByteArray)] : List ByteArray))).bind fun bt203 => (some (bt203.1, bt203.2))) else (none))) else (some (x3, bt197.2)))
end
def Z12.f (k : Nat) (s0_0 : List Int) (s0_1 : Int) : Option (ByteArray × Int) := (Z42.f s0_0 s0_1 10).bind fun bt183 => (Z12.l0 k (⟨#[]⟩ : ByteArray) bt183.1 0 s0_0 bt183.2)
theorem Z12.mono_l : ∀ k, (∀ y0 y1 y2 y3 y4, LeO (Z12.l0 k y0 y1 y2 y3 y4) (Z12.l0 (k + 1) y0 y1 y2 y3 y4)) ∧ (∀ y0 y1 y2 y3, LeO (Z12.j1 k y0 y1 y2 y3) (Z12.j1 (k + 1) y0 y1 y2 y3)) ∧ (∀ y0 y1 y2, LeO (Z12.j2 k y0 y1 y2) (Z12.j2 (k + 1) y0 y1 y2))
  | 0 => ⟨fun _ _ _ _ _ r h => by simp [Z12.l0] at h, fun _ _ _ _ r h => by simp [Z12.j1] at h, fun _ _ _ r h => by simp [Z12.j2] at h⟩
  | k + 1 => by
    obtain ⟨ih0, ih1, ih2⟩ := Z12.mono_l k
    refine ⟨?_, ?_, ?_⟩
    · intro y0 y1 y2 y3 y4
      unfold Z12.l0
      repeat' first
      | (with_reducible exact ih0 _ _ _ _ _)
      | (with_reducible exact ih1 _ _ _ _)
      | (with_reducible exact ih2 _ _ _)
      | (with_reducible exact LeO.refl _)
      | (with_reducible exact LeO.none _)
      | (with_reducible refine LeO.ite ?_ ?_)
      | (with_reducible refine LeO.bind ?_ (fun _ => ?_))
      | exact ih0 _ _ _ _ _
      | exact ih1 _ _ _ _
      | exact ih2 _ _ _
      | exact LeO.none _
      | refine LeO.ite ?_ ?_
      | refine LeO.bind ?_ (fun _ => ?_)
    · intro y0 y1 y2 y3
      unfold Z12.j1
      repeat' first
      | (with_reducible exact ih0 _ _ _ _ _)
      | (with_reducible exact ih1 _ _ _ _)
      | (with_reducible exact ih2 _ _ _)
      | (with_reducible exact LeO.refl _)
      | (with_reducible exact LeO.none _)
      | (with_reducible refine LeO.ite ?_ ?_)
      | (with_reducible refine LeO.bind ?_ (fun _ => ?_))
      | exact ih0 _ _ _ _ _
      | exact ih1 _ _ _ _
      | exact ih2 _ _ _
      | exact LeO.none _
      | refine LeO.ite ?_ ?_
      | refine LeO.bind ?_ (fun _ => ?_)
    · intro y0 y1 y2
      unfold Z12.j2
      repeat' first
      | (with_reducible exact ih0 _ _ _ _ _)
      | (with_reducible exact ih1 _ _ _ _)
      | (with_reducible exact ih2 _ _ _)
      | (with_reducible exact LeO.refl _)
      | (with_reducible exact LeO.none _)
      | (with_reducible refine LeO.ite ?_ ?_)
      | (with_reducible refine LeO.bind ?_ (fun _ => ?_))
      | exact ih0 _ _ _ _ _
      | exact ih1 _ _ _ _
      | exact ih2 _ _ _
      | exact LeO.none _
      | refine LeO.ite ?_ ?_
      | refine LeO.bind ?_ (fun _ => ?_)
theorem Z12.mono : ∀ a0 a1 k, LeO (Z12.f k a0 a1) (Z12.f (k + 1) a0 a1) := by
  intro a0 a1 k
  obtain ⟨ih0, ih1, ih2⟩ := Z12.mono_l k
  unfold Z12.f
  repeat' first
      | (with_reducible exact ih0 _ _ _ _ _)
      | (with_reducible exact ih1 _ _ _ _)
      | (with_reducible exact ih2 _ _ _)
      | (with_reducible exact LeO.refl _)
      | (with_reducible exact LeO.none _)
      | (with_reducible refine LeO.ite ?_ ?_)
      | (with_reducible refine LeO.bind ?_ (fun _ => ?_))
      | exact ih0 _ _ _ _ _
      | exact ih1 _ _ _ _
      | exact ih2 _ _ _
      | exact LeO.none _
      | refine LeO.ite ?_ ?_
      | refine LeO.bind ?_ (fun _ => ?_)
end Go.Proofs.YtolcpmdojlbhcaaDoor.Px
