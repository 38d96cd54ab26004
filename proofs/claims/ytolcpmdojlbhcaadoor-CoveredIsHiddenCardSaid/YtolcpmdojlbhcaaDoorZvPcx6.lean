/- Part of the proof that the law coveredIsHidden is true for every input. No conditions. Laid by a program of this session over the kit's print and words; declarations that nothing names are left out. -/
import Derived.Test.YtolcpmdojlbhcaaDoorZvPcx0
import Derived.Test.YtolcpmdojlbhcaaDoorZvPcx2
import Derived.Test.YtolcpmdojlbhcaaDoorZvPcx5
namespace Go.Proofs.YtolcpmdojlbhcaaDoor.Pc
open Go.RowKit Go.Proofs.YtolcpmdojlbhcaaDoor.GBase Go.Proofs.YtolcpmdojlbhcaaDoorW.PrintWords Go.Proofs.YtolcpmdojlbhcaaDoorW.PrintLast Go.Proofs.YtolcpmdojlbhcaaDoorW.PrintMore
attribute [local go_sem] str_leq max2_int min2_int max_two min_two max_three min_three max_four min_four
set_option linter.unusedVariables false
set_option linter.unusedSimpArgs false
def privilege_Redact.prs (ps : List S46) : List (Int × Int) := ps.map fun x => (x.f0, x.f1)
def privilege_Redact.f (k : Nat) (a0 : ByteArray) (l1 : List S46) : Option (ByteArray × Int) := if a0.size ≤ 140737488355328 then ((privilege_textError.f k a0 l1).bind fun t1 => (if t1 = 0 then ((privilege_points.f k a0 l1).bind fun t2 => ((hideAll (privilege_Redact.prs t2) a0.data.toList).bind fun t3 => (some ((⟨t3.toArray⟩ : ByteArray), (0 : Int))))) else (some ((⟨#[]⟩ : ByteArray), t1)))) else (none)
theorem privilege_Redact.mono : ∀ a0 a1 k, LeO (privilege_Redact.f k a0 a1) (privilege_Redact.f (k + 1) a0 a1) := by
  intro a0 a1 k
  unfold privilege_Redact.f
  repeat' first
      | (with_reducible exact privilege_points.mono _ _ _)
      | (with_reducible exact privilege_textError.mono _ _ _)
      | (with_reducible exact LeO.refl _)
      | (with_reducible exact LeO.none _)
      | (with_reducible refine LeO.ite ?_ ?_)
      | (with_reducible refine LeO.bind ?_ (fun _ => ?_))
      | exact privilege_points.mono _ _ _
      | exact privilege_textError.mono _ _ _
      | exact LeO.none _
      | refine LeO.ite ?_ ?_
      | refine LeO.bind ?_ (fun _ => ?_)
set_option maxHeartbeats 8000000 in
set_option maxRecDepth 100000 in
theorem privilege_Redact.calls (k : Nat) (a0 : ByteArray) (A1 : Option Addr) (c1 : Nat) (l1 : List (S46)) (r1 : ByteArray) (r2 : Int) (w : World) (hr1 : Kd.C k46 w A1 l1.length l1) (hc1 : l1.length ≤ c1) (hGl : Wd w) (h : privilege_Redact.f k a0 l1 = some (r1, r2)) :
    Calls Tryd.prog 19 #[.string a0, .slice A1 l1.length c1] w fun e w' => e = .returned (.tuple #[.string r1, .int .i64 r2]) ∧ Below w.heap.size w w' := by
  unfold privilege_Redact.f at h
  have hz : a0.size ≤ 140737488355328 := by
    rcases Nat.lt_or_ge 140737488355328 a0.size with hz | hz
    · rw [if_neg (by omega)] at h
      exact absurd h (by simp)
    · exact hz
  rw [if_pos hz] at h
  cases h1 : privilege_textError.f k a0 l1 with
  | none => rw [h1] at h; exact absurd h (by simp)
  | some t1 =>
  rw [h1, Option.bind_some] at h
  have HT := Aside0.mk (privilege_textError.calls k a0 A1 c1 l1 t1 w hr1 hc1 hGl h1)
  clear h1 hGl
  by_cases ht : t1 = 0
  · subst ht
    rw [if_pos rfl] at h
    cases h2 : privilege_points.f k a0 l1 with
    | none => rw [h2] at h; exact absurd h (by simp)
    | some ps =>
    rw [h2, Option.bind_some] at h
    cases h3 : hideAll (privilege_Redact.prs ps) a0.data.toList with
    | none => rw [h3] at h; exact absurd h (by simp)
    | some bs =>
    rw [h3, Option.bind_some] at h
    obtain ⟨rfl, rfl⟩ : (⟨bs.toArray⟩ : ByteArray) = r1 ∧ 0 = r2 := by simpa using h
    clear h
    have HP : Aside0 (∀ w', Below w.heap.size w w' → Calls Tryd.prog 54 #[.string a0, .slice A1 l1.length c1] w' fun e w'' => ∃ v0_ : Value, e = .returned (v0_) ∧ Kd.R k46 46 w'' w'.heap.size (fun _ => True) v0_ ps ∧ Below w'.heap.size w' w'') := Aside0.mk fun w' hb => privilege_points.calls k a0 A1 c1 l1 ps w' (Kd.C_below hr1 hb) hc1 h2
    have H3 := Aside0.mk h3
    clear h2 h3 hr1 hc1
    have hconv := fun (w : World) => Lib.run_convert_string_bytes (P := Tryd.prog) w 9 73 5 a0 Tryd.underlying9 Tryd.underlying73 Tryd.underlying5
    go_enter Tryd.func19, Tryd.ntmps19
    go_wp2_with (go_at_call 53; refine HT.out.mono ?_; rintro e w1 ⟨rfl, hb1⟩)
    have HB1 := Aside0.mk (BAt.start (e := 5) hb1 a0)
    have HP2 := Aside0.mk (HP.out _ HB1.out.1)
    clear HP hconv HT hb1
    go_wp2_with (go_at_call 54; refine HP2.out.mono ?_; rintro e w2 ⟨v0, rfl, hR, hb2⟩; obtain ⟨A2, c2, rfl, hlc2, hC2⟩ := Kd.R_reads hR)
    have HB2 := Aside0.mk (HB1.out.below hb2)
    have HR2 : Aside0 (Kd.R k46 46 w2 (Lib.bytesWorld w1 5 a0).heap.size (fun k_ => k_ ≠ w1.heap.size) (.slice A2 ps.length c2) ps) := ⟨Kd.R_mono (Kd.R_bound hR) (fun k_ hk => by
      have h1 := hk.2.1
      rw [Lib.bytesWorld_size] at h1
      omega)⟩
    have HZ : Aside0 (a0.data.toList.length = a0.size) := ⟨data_length a0⟩
    clear HB1 HP2 hb2 hR hC2 hlc2
    generalize (Lib.bytesWorld w1 5 a0).heap.size = B at *
    generalize grownCap w1 a0.size 0 5 = cp at *
    generalize w1.heap.size = g at *
    go_loopw [23] (fun i wr => ∃ (j : Nat) (bs1 : List UInt8), i = .int .i64 j ∧ Aside0 (j ≤ ps.length) ∧ Aside0 (bs1.length = a0.size) ∧ Aside0 (BAt 5 w wr g bs1) ∧ Aside0 (Kd.R k46 46 wr B (fun k_ => k_ ≠ g) (.slice A2 ps.length c2) ps) ∧ Aside0 (hideAll ((privilege_Redact.prs ps).drop j) bs1 = some bs)) (fun i _ => ps.length - (intOf i).toNat)
    case atStart => exact ⟨0, a0.data.toList, rfl, ⟨Nat.zero_le _⟩, HZ, HB2, HR2, H3⟩
    case round =>
      obtain ⟨j, bs1, rfl, HJ, HL, HBt, HRw, HH⟩ := hrel
      have hmax : ps.length ≤ 9223372036854775807 := Kd.C_max (Kd.R_reads' HRw.out).2.2
      by_cases hlt : j < ps.length
      · obtain ⟨ad, eA, hx0, hx1⟩ := at_T46 (Kd.R_reads' HRw.out).2.2 (j : Int) (by omega) (by omega)
        cases eA
        simp only [Int.toNat_natCast] at hx0 hx1
        have hd : (privilege_Redact.prs ps).drop j = ((rd_T46 ps j).f0, (rd_T46 ps j).f1) :: (privilege_Redact.prs ps).drop (j + 1) := by
          rw [List.drop_eq_getElem_cons (by simpa [privilege_Redact.prs] using hlt)]
          simp [privilege_Redact.prs, rd_T46, List.getD_eq_getElem?_getD, List.getElem?_eq_getElem hlt]
        have h4 := HH.out
        rw [hd] at h4
        generalize (rd_T46 ps j).f0 = f0 at *
        generalize (rd_T46 ps j).f1 = f1 at *
        simp only [hideAll] at h4
        cases h5 : hideN (f1 - f0).toNat f0 bs1 with
        | none => rw [h5] at h4; exact absurd h4 (by simp)
        | some bs2 =>
        rw [h5, Option.bind_some] at h4
        have H4 := Aside0.mk h4
        have H5 := Aside0.mk h5
        clear h4 h5 hd HH HJ H3 HB2 HR2 HZ
        go_wp2
        have HS0 : Aside0 ((wr.alloc (.cells #[.int .i64 f0, .int .i64 f1] 46)).heap[wr.heap.size]? = some (.cells #[.int .i64 f0, .int .i64 f1] 46 (0, 0))) := ⟨blk_new _ _⟩
        have HB0 := Aside0.mk (HBt.out.alloc (.cells #[.int .i64 f0, .int .i64 f1] 46))
        have HR0 := Aside0.mk (Kd.R_alloc HRw.out (.cells #[.int .i64 f0, .int .i64 f1] 46))
        have HG : Aside0 (wr.heap.size ≠ g) := ⟨by have := HBt.out.lt; omega⟩
        clear hx0 hx1 HBt HRw
        generalize wr.heap.size = q at *
        generalize wr.alloc (.cells #[.int .i64 f0, .int .i64 f1] 46) = wa at *
        go_loopw [10] (fun i wq => ∃ (m : Nat) (x : Int) (bq : List UInt8), i = .int .i64 x ∧ Aside0 (hideN m x bq = some bs2) ∧ Aside0 ((f1 - x).toNat = m) ∧ Aside0 (bq.length = a0.size) ∧ Aside0 (BAt 5 w wq g bq) ∧ Aside0 (Kd.R k46 46 wq B (fun k_ => k_ ≠ g) (.slice (some ad) ps.length c2) ps) ∧ Aside0 (wq.heap[q]? = some (.cells #[.int .i64 f0, .int .i64 f1] 46 (0, 0)))) (fun i _ => (f1 - intOf i).toNat)
        case atStart => exact ⟨_, f0, bs1, rfl, H5, ⟨rfl⟩, HL, HB0, HR0, HS0⟩
        case round =>
          obtain ⟨m, x, bq, rfl, HN, HM, HLq, HBq, HRq, HSq⟩ := hrel
          have hcz0 := (blk_cell HSq.out 1).trans rfl
          by_cases hx : x < f1
          · have hxd : decide (x < f1) = true := decide_eq_true hx
            obtain ⟨m, rfl⟩ : ∃ m', m = m' + 1 := ⟨m - 1, by have := HM.out; omega⟩
            have h6 := HN.out
            simp only [hideN] at h6
            by_cases hin : 0 ≤ x ∧ x < (bq.length : Int)
            · rw [if_pos hin] at h6
              obtain ⟨n, rfl⟩ := Int.eq_ofNat_of_zero_le hin.1
              have hn : n < bq.length := by omega
              have hna : n < a0.size := by have := HLq.out; omega
              have hw : wrap64 ((n : Int) + 1) = ((n + 1 : Nat) : Int) := by unfold wrap64; omega
              rw [Int.toNat_natCast, List.getD_eq_getElem?_getD, List.getElem?_eq_getElem hn, Option.getD_some] at h6
              have H6 := Aside0.mk h6
              have hcell := HBq.out.cell hn
              have hfree := HBq.out.free hn
              have HP0 := Aside0.mk (HBq.out.put hn (hideB bq[n]))
              have hms : (f1 - ((n + 1 : Nat) : Int)).toNat = m := by have := HM.out; omega
              have HMS := Aside0.mk hms
              have hsame : bq[n] = 32 ∨ bq[n] = 10 → bq.set n (hideB bq[n]) = bq := fun h => by
                have : hideB bq[n] = bq[n] := by unfold hideB; rw [if_pos h]
                rw [this, List.set_getElem_self]
              have HSA := Aside0.mk hsame
              have HX := Aside0.mk hx
              clear hms h6 hin hsame hx HN HM
              by_cases h32 : bq[n] = 32
              · have hs := HSA.out (.inl h32)
                have e1 : ((bq[n].toNat : Int) != 32) = false := by rw [h32]; rfl
                have e2 : ((bq[n].toNat : Int) == 32) = true := by rw [h32]; rfl
                have HH6 : Aside0 (hideN m ((n + 1 : Nat) : Int) bq = some bs2) := ⟨by rw [← H6.out, hs]; rfl⟩
                clear h32 hs HSA H6 HP0
                go_wp2
                go_roundw
                case rel => exact ⟨m, _, bq, by go_num, HH6, HMS, HLq, HBq, HRq, HSq⟩
                case measure => have := HX.out; simp [intOf]; omega
              · by_cases h10 : bq[n] = 10
                · have hs := HSA.out (.inr h10)
                  have e1 : ((bq[n].toNat : Int) != 32) = true := by rw [h10]; rfl
                  have e2 : ((bq[n].toNat : Int) == 32) = false := by rw [h10]; rfl
                  have e3 : ((bq[n].toNat : Int) != 10) = false := by rw [h10]; rfl
                  have e4 : ((bq[n].toNat : Int) == 10) = true := by rw [h10]; rfl
                  have HH6 : Aside0 (hideN m ((n + 1 : Nat) : Int) bq = some bs2) := ⟨by rw [← H6.out, hs]; rfl⟩
                  clear h10 h32 hs HSA H6 HP0
                  go_wp2
                  go_roundw
                  case rel => exact ⟨m, _, bq, by go_num, HH6, HMS, HLq, HBq, HRq, HSq⟩
                  case measure => have := HX.out; simp [intOf]; omega
                · have hb : hideB bq[n] = 35 := by unfold hideB; rw [if_neg (by rintro (h | h); exact h32 h; exact h10 h)]
                  have t32 : ¬ (bq[n].toNat : Int) = 32 := fun h => h32 (UInt8.toNat_inj.1 (show bq[n].toNat = 32 by omega))
                  have t10 : ¬ (bq[n].toNat : Int) = 10 := fun h => h10 (UInt8.toNat_inj.1 (show bq[n].toNat = 10 by omega))
                  have e1 : ((bq[n].toNat : Int) != 32) = true := bne_iff_ne.mpr t32
                  have e2 : ((bq[n].toNat : Int) == 32) = false := beq_eq_false_iff_ne.mpr t32
                  have e3 : ((bq[n].toNat : Int) != 10) = true := bne_iff_ne.mpr t10
                  have e4 : ((bq[n].toNat : Int) == 10) = false := beq_eq_false_iff_ne.mpr t10
                  have HH6 : Aside0 (hideN m ((n + 1 : Nat) : Int) (bq.set n 35) = some bs2) := ⟨by rw [← H6.out, hb]; rfl⟩
                  have HP1 : Aside0 (BAt 5 w (wr.setCell ⟨g, n, none⟩ (.int .u8 35)) g (bq.set n 35)) := ⟨by have := HP0.out; rw [hb] at this; exact this⟩
                  have HRn := Aside0.mk (Kd.R_far (p := ⟨g, n, none⟩) HRq.out (fun _ h => h) (.int .u8 35))
                  have HSn := Aside0.mk (blk_far (p := ⟨g, n, none⟩) HSq.out HG.out (.int .u8 35))
                  have HLn : Aside0 ((bq.set n 35).length = a0.size) := ⟨by rw [List.length_set]; exact HLq.out⟩
                  clear h10 h32 hb HSA H6 HP0 t32 t10
                  go_wp2
                  go_roundw
                  case rel => exact ⟨m, _, bq.set n 35, by go_num, HH6, HMS, HLn, HP1, HRn, HSn⟩
                  case measure => have := HX.out; simp [intOf]; omega
            · rw [if_neg hin] at h6
              exact absurd h6 (by simp)
          · have hxd : decide (x < f1) = false := decide_eq_false hx
            have h6 := HN.out
            have hm0 : m = 0 := by have := HM.out; omega
            subst hm0
            simp only [hideN] at h6
            obtain rfl := Option.some.inj h6
            have hwj : wrap64 ((j : Int) + 1) = ((j + 1 : Nat) : Int) := by unfold wrap64; omega
            clear h6 hx HN HM HS0 HB0 HR0
            go_wp2
            go_roundw
            case rel => exact ⟨j + 1, _, by go_num, ⟨by omega⟩, HLq, HBq, HRq, H4⟩
            case measure => simp [intOf]; omega
      · obtain rfl : j = ps.length := by have := HJ.out; omega
        have h4 := HH.out
        rw [List.drop_eq_nil_of_le (by simp [privilege_Redact.prs])] at h4
        simp only [hideAll] at h4
        obtain rfl := Option.some.inj h4
        have hB := HBt.out.1
        have hd := HBt.out.done Tryd.prog 73 9 cp Tryd.underlying73 Tryd.underlying5 Tryd.underlying9
        rw [HL.out] at hd
        clear h4 HH HJ HRw HBt H3 HB2 HR2 HZ
        go_wp2
        go_ret2
        exact ⟨rfl, hB⟩
  · rw [if_neg ht] at h
    obtain ⟨rfl, rfl⟩ : (⟨#[]⟩ : ByteArray) = r1 ∧ t1 = r2 := by simpa using h
    clear h
    have ht2 : (t1 == 0) = false := by simpa using ht
    have ht3 : (t1 != 0) = true := by simpa using ht
    go_enter Tryd.func19, Tryd.ntmps19
    go_wp2_with (go_at_call 53; refine HT.out.mono ?_; rintro e w1 ⟨rfl, hb1⟩)
    go_ret2
    exact ⟨rfl, hb1⟩
def chasekeep1_privileges.f (k : Nat)  : Option (Bool) := (privilege_Redact.f k (⟨#[97, 98, 10]⟩ : ByteArray) (([(⟨0, 1⟩ : S46)] : List (S46)))).bind fun bt204 => (if bt204.2 = 0 then (some (bt204.1.toList == ([35, 98, 10] : List UInt8))) else (some false))
theorem chasekeep1_privileges.mono : ∀ k, LeO (chasekeep1_privileges.f k ) (chasekeep1_privileges.f (k + 1) ) := by
  intro  k
  unfold chasekeep1_privileges.f
  repeat' first
      | (with_reducible exact privilege_Redact.mono _ _ _)
      | (with_reducible exact LeO.refl _)
      | (with_reducible exact LeO.none _)
      | (with_reducible refine LeO.ite ?_ ?_)
      | (with_reducible refine LeO.bind ?_ (fun _ => ?_))
      | exact privilege_Redact.mono _ _ _
      | exact LeO.none _
      | refine LeO.ite ?_ ?_
      | refine LeO.bind ?_ (fun _ => ?_)
set_option maxHeartbeats 8000000 in
set_option maxRecDepth 100000 in
theorem chasekeep1_privileges.calls (k : Nat)  (r : Bool) (w : World) (hGl : Wd w) (h : chasekeep1_privileges.f k  = some r) :
    Calls Tryd.prog 17 #[] w fun e w' => e = .returned (.bool r) ∧ Below w.heap.size w w' := by
  have hu46 := Tryd.underlying46
  have HGl := Aside0.mk hGl
  clear hGl
  have HB := Aside0.mk (Below.refl w.heap.size w)
  have H : ((privilege_Redact.f k (⟨#[97, 98, 10]⟩ : ByteArray) (([(⟨0, 1⟩ : S46)] : List (S46)))).bind fun bt204 => (if bt204.2 = 0 then (some (bt204.1.toList == ([35, 98, 10] : List UInt8))) else (some false))) = some r := h
  clear h
  obtain ⟨y201, hy201⟩ : ∃ y_ : List (S46), y_ = (([(⟨0, 1⟩ : S46)] : List (S46))) := ⟨_, rfl⟩
  replace H : ((privilege_Redact.f k (⟨#[97, 98, 10]⟩ : ByteArray) y201).bind fun bt204 => (if bt204.2 = 0 then (some (bt204.1.toList == ([35, 98, 10] : List UInt8))) else (some false))) = some r := by first | (rw [hy201]; with_reducible exact H) | (have H2_ := (Option.bind_some _ _).symm.trans H; rw [hy201]; with_reducible exact H2_) | (have H2_ := (Option.bind_some _ _).symm.trans H; with_reducible exact H2_) | with_reducible exact H | (rw [hy201]; exact H) | exact H
  have Ny201 := Aside0.mk hy201
  clear hy201
  replace H := Option.bind_eq_some_iff.mp H
  obtain ⟨⟨t204, t205⟩, A10, H⟩ := H
  replace H : (if t205 = 0 then (some (t204.toList == ([35, 98, 10] : List UInt8))) else (some false)) = some r := H
  have A1 := Aside0.mk A10
  clear A10
  by_cases c2 : t205 = 0
  · rw [if_pos c2] at H
    have c2b0 : (t205 == 0) = true := beq_iff_eq.mpr c2
    have c2b1 : (t205 != 0) = false := bne_eq_false_iff_eq.mpr c2
    clear c2
    obtain rfl := Option.some.inj H
    go_enter Tryd.func17, Tryd.ntmps17
    go_wp2_with (first | ((with_reducible refine gate_dst (N := 5) rfl ?_); refine Kd.R_lit k46 _ 46 ?hg (N := 5) ?hd (xs := ([(⟨0, 1⟩ : S46)] : List (S46))) (inner := [.int .i64 0, .int .i64 1]) (ok := fun _ => True) (okp := fun _ => True) ?hr ?hp (fun _ hk => hk) trivial (Below.refl _ _) (Nat.le_refl _) (by simp) ?_; (case hd => rfl); (case hg => rfl); (case hr => first | (go_simp; done) | (go_simp; rfl)); (case hp => exact (Reps.c2 (show Kd.M k46 _ _ _ (⟨0, 1⟩ : S46) [.int .i64 0, .int .i64 1] from (k46_mkM _ _ _ (⟨0, 1⟩ : S46) )) (Reps.none _ _))); intro v202 w3 ho4 hb hg_ hnew_; clear hg_ hnew_; (first | rw [← Ny201.out] at ho4 | (simp only [Int.reduceToNat] at ho4; rw [← Ny201.out] at ho4)); have n0_ := Aside0.mk (Kd.R_lower ho4 (below_size (by repeat (first | (with_reducible first | exact HB.out | apply below_alloc | apply pw_below_drewN | apply below_drew1) | exact HB.out)))); have n1_ := Aside0.mk (below_step (by repeat (first | (with_reducible first | exact HB.out | apply below_alloc | apply pw_below_drewN | apply below_drew1) | exact HB.out)) hb); clear HB; have HO203 := n0_; have HB := n1_; clear n0_ n1_; clear hb ho4; obtain ⟨Ao5, co5, eo5⟩ := Kd.R_slice HO203.out; subst eo5) | ((with_reducible refine gate_callee (f := 19) rfl ?_); refine goesL_ (some 6) rfl rfl Tryd.func19 (by kernel_rfl) rfl #[.string (⟨#[97, 98, 10]⟩ : ByteArray), .slice Ao5 y201.length co5] rfl (by (try simp only [List.map_toArray, List.map_cons, List.map_nil]); first | done | rfl | (simp only [List.length_drop, List.length_take]; rfl)) ?_; (with_reducible refine (privilege_Redact.calls k (⟨#[97, 98, 10]⟩ : ByteArray) _ _ y201 t204 t205 _ ?side1 ?side2 ?side3 A1.out).mono ?_); (case side1 => repeat (first | exact (Kd.R_reads' HO203.out).2.2 | (with_reducible refine Kd.C_alloc ?_ _) | (with_reducible refine Kd.C_drewN ?_ _) | (with_reducible refine Kd.C_drew ?_))); (case side2 => exact (Kd.R_reads' HO203.out).2.1); (case side3 => exact Wd.below HGl.out (by repeat (first | (with_reducible first | exact HB.out | apply below_alloc | apply pw_below_drewN | apply below_drew1) | exact HB.out))); rintro e w6 ⟨rfl, hb⟩; refine ⟨_, rfl, ?_⟩; have n0_ := Aside0.mk (Kd.R_below (by (with_reducible repeat (first | apply Kd.R_alloc | apply Kd.R_drewN | apply Kd.R_drew)); exact HO203.out) hb); have n1_ := Aside0.mk (below_step (by repeat (first | (with_reducible first | exact HB.out | apply below_alloc | apply pw_below_drewN | apply below_drew1) | exact HB.out)) hb); clear HO203; clear HB; have HO203 := n0_; have HB := n1_; clear n0_ n1_; (try clear hb); (try clear hb2); (try clear hk); (try clear hi)))
    go_ret
    exact ⟨by first | rfl | (simp [errW_none, errW_some] <;> rfl) | (simp [*, errW_none, errW_some] <;> rfl), by repeat (first | (with_reducible first | exact HB.out | apply below_alloc | apply pw_below_drewN | apply below_drew1) | exact HB.out)⟩
  · rw [if_neg c2] at H
    have c2b0 : (t205 == 0) = false := beq_eq_false_iff_ne.mpr c2
    have c2b1 : (t205 != 0) = true := bne_iff_ne.mpr c2
    obtain rfl := Option.some.inj H
    go_enter Tryd.func17, Tryd.ntmps17
    go_wp2_with (first | ((with_reducible refine gate_dst (N := 5) rfl ?_); refine Kd.R_lit k46 _ 46 ?hg (N := 5) ?hd (xs := ([(⟨0, 1⟩ : S46)] : List (S46))) (inner := [.int .i64 0, .int .i64 1]) (ok := fun _ => True) (okp := fun _ => True) ?hr ?hp (fun _ hk => hk) trivial (Below.refl _ _) (Nat.le_refl _) (by simp) ?_; (case hd => rfl); (case hg => rfl); (case hr => first | (go_simp; done) | (go_simp; rfl)); (case hp => exact (Reps.c2 (show Kd.M k46 _ _ _ (⟨0, 1⟩ : S46) [.int .i64 0, .int .i64 1] from (k46_mkM _ _ _ (⟨0, 1⟩ : S46) )) (Reps.none _ _))); intro v202 w7 ho8 hb hg_ hnew_; clear hg_ hnew_; (first | rw [← Ny201.out] at ho8 | (simp only [Int.reduceToNat] at ho8; rw [← Ny201.out] at ho8)); have n0_ := Aside0.mk (Kd.R_lower ho8 (below_size (by repeat (first | (with_reducible first | exact HB.out | apply below_alloc | apply pw_below_drewN | apply below_drew1) | exact HB.out)))); have n1_ := Aside0.mk (below_step (by repeat (first | (with_reducible first | exact HB.out | apply below_alloc | apply pw_below_drewN | apply below_drew1) | exact HB.out)) hb); clear HB; have HO203 := n0_; have HB := n1_; clear n0_ n1_; clear hb ho8; obtain ⟨Ao9, co9, eo9⟩ := Kd.R_slice HO203.out; subst eo9) | ((with_reducible refine gate_callee (f := 19) rfl ?_); refine goesL_ (some 6) rfl rfl Tryd.func19 (by kernel_rfl) rfl #[.string (⟨#[97, 98, 10]⟩ : ByteArray), .slice Ao9 y201.length co9] rfl (by (try simp only [List.map_toArray, List.map_cons, List.map_nil]); first | done | rfl | (simp only [List.length_drop, List.length_take]; rfl)) ?_; (with_reducible refine (privilege_Redact.calls k (⟨#[97, 98, 10]⟩ : ByteArray) _ _ y201 t204 t205 _ ?side1 ?side2 ?side3 A1.out).mono ?_); (case side1 => repeat (first | exact (Kd.R_reads' HO203.out).2.2 | (with_reducible refine Kd.C_alloc ?_ _) | (with_reducible refine Kd.C_drewN ?_ _) | (with_reducible refine Kd.C_drew ?_))); (case side2 => exact (Kd.R_reads' HO203.out).2.1); (case side3 => exact Wd.below HGl.out (by repeat (first | (with_reducible first | exact HB.out | apply below_alloc | apply pw_below_drewN | apply below_drew1) | exact HB.out))); rintro e w10 ⟨rfl, hb⟩; refine ⟨_, rfl, ?_⟩; have n0_ := Aside0.mk (Kd.R_below (by (with_reducible repeat (first | apply Kd.R_alloc | apply Kd.R_drewN | apply Kd.R_drew)); exact HO203.out) hb); have n1_ := Aside0.mk (below_step (by repeat (first | (with_reducible first | exact HB.out | apply below_alloc | apply pw_below_drewN | apply below_drew1) | exact HB.out)) hb); clear HO203; clear HB; have HO203 := n0_; have HB := n1_; clear n0_ n1_; (try clear hb); (try clear hb2); (try clear hk); (try clear hi)))
    go_ret
    exact ⟨by first | rfl | (simp [errW_none, errW_some] <;> rfl) | (simp [*, errW_none, errW_some] <;> rfl), by repeat (first | (with_reducible first | exact HB.out | apply below_alloc | apply pw_below_drewN | apply below_drew1) | exact HB.out)⟩
def chasemake_Stream_Pick.f (s0_0 : List Int) (s0_1 : Int) (l1 : List Int) : Option (Int × Int) := (chasemake_Stream_Next.f s0_0 s0_1 (l1.length : Int)).bind fun bt206 => (if 0 ≤ bt206.1 then (if bt206.1 < (l1.length : Int) then (some (rd l1 bt206.1, bt206.2)) else (none)) else (none))
set_option maxHeartbeats 8000000 in
set_option maxRecDepth 100000 in
theorem chasemake_Stream_Pick.calls (g : Nat) (s0_0 : List Int) (s0_1 : Int) (A1 : Option Addr) (c1 : Nat) (l1 : List Int) (r1 : Int) (r2 : Int) (w0 w : World) (hI : IsS25 w0 w g s0_0 s0_1) (hB : Below w0.heap.size w0 w) (hr1 : Kd.C (Kd.int .i64) w A1 l1.length l1) (hc1 : l1.length ≤ c1) (hf1 : ∀ ad, A1 = some ad → 0 < l1.length → ad.block ≠ g) (h : chasemake_Stream_Pick.f s0_0 s0_1 l1 = some (r1, r2)) :
    Calls Tryd.prog 52 #[.pointer (some ⟨g, 0, none⟩), .slice A1 l1.length c1] w fun e w' => e = .returned (.int .i64 r1) ∧ IsS25 w0 w' g s0_0 r2 ∧ Below w0.heap.size w0 w' ∧ KeepBut w w' g none := by
  have HR1 := Aside0.mk hr1
  have HC1 := Aside0.mk hc1
  clear hr1 hc1
  have HI0 := Aside0.mk hI
  have HK := Aside0.mk (KeepBut.refl w g none)
  have HL := Aside0.mk hB.size
  clear hI
  have HW0 := Aside0.mk hB.size
  have HB := Aside0.mk hB
  clear hB
  have H : ((chasemake_Stream_Next.f s0_0 s0_1 (l1.length : Int)).bind fun bt206 => (if 0 ≤ bt206.1 then (if bt206.1 < (l1.length : Int) then (some (rd l1 bt206.1, bt206.2)) else (none)) else (none))) = some (r1, r2) := h
  clear h
  replace H := Option.bind_eq_some_iff.mp H
  obtain ⟨⟨t206, t207⟩, A30, H⟩ := H
  replace H : (if 0 ≤ t206 then (if t206 < (l1.length : Int) then (some (rd l1 t206, t207)) else (none)) else (none)) = some (r1, r2) := H
  have A3 := Aside0.mk A30
  clear A30
  by_cases c4 : 0 ≤ t206
  · rw [if_pos c4] at H
    have c4b0 : decide (0 ≤ t206) = true := decide_eq_true c4
    clear c4
    by_cases c5 : t206 < (l1.length : Int)
    · rw [if_pos c5] at H
      have c5b0 : decide (t206 < (l1.length : Int)) = true := decide_eq_true c5
      clear c5
      simp only [Option.some.injEq, Prod.mk.injEq] at H
      obtain ⟨rfl, rfl⟩ := H
      go_enter Tryd.func52, Tryd.ntmps52
      go_wp2_with (first | ((with_reducible refine gate_callee (f := 36) rfl ?_); refine goesL_ (some 9) rfl rfl Tryd.func36 (by kernel_rfl) rfl #[.pointer (some ⟨g, 0, none⟩), .int .i64 (l1.length : Int)] rfl (by (try simp only [List.map_toArray, List.map_cons, List.map_nil]); first | done | rfl | (simp only [List.length_drop, List.length_take]; rfl)) ?_; (with_reducible refine (chasemake_Stream_Next.calls g s0_0 s0_1 (l1.length : Int) t206 t207 w0 _ ?side1 ?side2 A3.out).mono ?_); (case side1 => repeat (first | (with_reducible first | exact HI0.out | apply IsS25.alloc | apply IsS25.drewN | apply IsS25.drew | apply IsS25.set_1) | exact HI0.out)); (case side2 => repeat (first | (with_reducible first | exact HB.out | apply below_alloc | apply pw_below_drewN | apply below_drew1 | refine below_set ?_ (IsS25.ge HI0.out)) | exact HB.out)); rintro e w6 ⟨rfl, hi, hb, hk⟩; refine ⟨_, rfl, ?_⟩; have n0_ := Aside0.mk (KeepBut.trans (by repeat (first | (with_reducible first | exact HK.out | apply KeepBut.set_ | apply keep_drewN | apply keep_drew | apply keep_alloc) | exact HK.out)) hk (.inl rfl)); have n1_ := Aside0.mk (hb); have n2_ := Aside0.mk (hi); clear HK; clear HB; clear HI0; have HK := n0_; have HB := n1_; have HI0 := n2_; clear n0_ n1_ n2_; (try clear hb); (try clear hb2); (try clear hk); (try clear hi); have p208 : 0 ≤ (t206 : Int) := of_decide_eq_true (by first | (with_reducible assumption) | assumption); have q208 : t206 < (l1.length : Int) := of_decide_eq_true (by first | (with_reducible assumption) | assumption); obtain ⟨ad208, e208, hx208_0⟩ := Kd.at_int HR1.out t206 p208 q208; cases e208; replace hx208_0 := keep_cell HK.out hx208_0 (by first | (rw [add_block]; exact hf1 _ rfl (by omega)) | exact hf1 _ rfl (by omega) | exact hf1 ad208 rfl (by omega)); replace p208 := eq_true p208; replace q208 := eq_true q208))
      go_ret
      exact ⟨by first | rfl | (simp [errW_none, errW_some] <;> rfl) | (simp [*, errW_none, errW_some] <;> rfl), by repeat (first | (with_reducible first | exact HI0.out | apply IsS25.alloc | apply IsS25.drewN | apply IsS25.drew | apply IsS25.set_1) | exact HI0.out), by repeat (first | (with_reducible first | exact HB.out | apply below_alloc | apply pw_below_drewN | apply below_drew1 | refine below_set ?_ (IsS25.ge HI0.out)) | exact HB.out), by repeat (first | (with_reducible first | exact HK.out | apply KeepBut.set_ | apply keep_drewN | apply keep_drew | apply keep_alloc) | exact HK.out)⟩
    · rw [if_neg c5] at H
      exact absurd H (by simp)
  · rw [if_neg c4] at H
    exact absurd H (by simp)
def chasemake_Stream_SpanList.l0 : Nat → Int → List (S46) → Int → Int → Int → List Int → Int → Option ((List (S46)) × Int)
  | 0, _, _, _, _, _, _, _ => none
  | k + 1, x1, x5, x6, x10, x11, x1000, x1001 => if x11 < x10 then ((chasemake_Stream_Pick.f x1000 x1001 (([0, 1, 2, 5] : List Int))).bind fun bt214 => ((chasemake_Stream_Pick.f x1000 bt214.2 (([1, 1, 2, 4, 9] : List Int))).bind fun bt219 => (if (wrap64 ((wrap64 (x6 + bt214.1)) + bt219.1)) > x1 then (some (x5, bt219.2)) else (if x5.length < 8796093022208 then (chasemake_Stream_SpanList.l0 k x1 (x5 ++ [(⟨wrap64 (x6 + bt214.1), wrap64 ((wrap64 (x6 + bt214.1)) + bt219.1)⟩ : S46)]) (wrap64 ((wrap64 ((wrap64 (x6 + bt214.1)) + bt219.1)) + 1)) x10 (wrap64 (x11 + 1)) x1000 bt219.2) else (none))))) else (some (x5, x1001))
def chasemake_Stream_SpanList.f (k : Nat) (s0_0 : List Int) (s0_1 : Int) (a1 : Int) : Option ((List (S46)) × Int) := (chasemake_Stream_Next.f s0_0 s0_1 5).bind fun bt209 => (chasemake_Stream_SpanList.l0 k a1 ([] : List (S46)) 0 bt209.1 0 s0_0 bt209.2)
theorem chasemake_Stream_SpanList.mono_l : ∀ k, (∀ y0 y1 y2 y3 y4 y5 y6, LeO (chasemake_Stream_SpanList.l0 k y0 y1 y2 y3 y4 y5 y6) (chasemake_Stream_SpanList.l0 (k + 1) y0 y1 y2 y3 y4 y5 y6))
  | 0 => fun _ _ _ _ _ _ _ r h => by simp [chasemake_Stream_SpanList.l0] at h
  | k + 1 => by
    have ih0 := chasemake_Stream_SpanList.mono_l k
    · intro y0 y1 y2 y3 y4 y5 y6
      unfold chasemake_Stream_SpanList.l0
      repeat' first
      | (with_reducible exact ih0 _ _ _ _ _ _ _)
      | (with_reducible exact LeO.refl _)
      | (with_reducible exact LeO.none _)
      | (with_reducible refine LeO.ite ?_ ?_)
      | (with_reducible refine LeO.bind ?_ (fun _ => ?_))
      | exact ih0 _ _ _ _ _ _ _
      | exact LeO.none _
      | refine LeO.ite ?_ ?_
      | refine LeO.bind ?_ (fun _ => ?_)
theorem chasemake_Stream_SpanList.mono : ∀ a0 a1 a2 k, LeO (chasemake_Stream_SpanList.f k a0 a1 a2) (chasemake_Stream_SpanList.f (k + 1) a0 a1 a2) := by
  intro a0 a1 a2 k
  have ih0 := chasemake_Stream_SpanList.mono_l k
  unfold chasemake_Stream_SpanList.f
  repeat' first
      | (with_reducible exact ih0 _ _ _ _ _ _ _)
      | (with_reducible exact LeO.refl _)
      | (with_reducible exact LeO.none _)
      | (with_reducible refine LeO.ite ?_ ?_)
      | (with_reducible refine LeO.bind ?_ (fun _ => ?_))
      | exact ih0 _ _ _ _ _ _ _
      | exact LeO.none _
      | refine LeO.ite ?_ ?_
      | refine LeO.bind ?_ (fun _ => ?_)
set_option maxHeartbeats 8000000 in
set_option maxRecDepth 100000 in
theorem chasemake_Stream_SpanList.calls (k : Nat) (g : Nat) (s0_0 : List Int) (s0_1 : Int) (a1 : Int) (r1 : List (S46)) (r2 : Int) (w0 w : World) (hI : IsS25 w0 w g s0_0 s0_1) (hB : Below w0.heap.size w0 w) (h : chasemake_Stream_SpanList.f k s0_0 s0_1 a1 = some (r1, r2)) :
    Calls Tryd.prog 18 #[.pointer (some ⟨g, 0, none⟩), .int .i64 a1] w fun e w' => ∃ v0_ : Value, e = .returned (v0_) ∧ Kd.R k46 46 w' w.heap.size (fun _ => True) v0_ r1 ∧ IsS25 w0 w' g s0_0 r2 ∧ Below w0.heap.size w0 w' ∧ KeepBut w w' g none := by
  have hu46 := Tryd.underlying46
  have HI0 := Aside0.mk hI
  have HK := Aside0.mk (KeepBut.refl w g none)
  have HL := Aside0.mk hB.size
  clear hI
  have HW0 := Aside0.mk hB.size
  have HB := Aside0.mk hB
  clear hB
  have H : ((chasemake_Stream_Next.f s0_0 s0_1 5).bind fun bt209 => (chasemake_Stream_SpanList.l0 k a1 ([] : List (S46)) 0 bt209.1 0 s0_0 bt209.2)) = some (r1, r2) := h
  clear h
  replace H := Option.bind_eq_some_iff.mp H
  obtain ⟨⟨t209, t210⟩, A30, H⟩ := H
  replace H : (chasemake_Stream_SpanList.l0 k a1 ([] : List (S46)) 0 t209 0 s0_0 t210) = some (r1, r2) := H
  have A3 := Aside0.mk A30
  clear A30
  have H' := Aside0.mk H
  clear H
  go_enter Tryd.func18, Tryd.ntmps18
  go_wp2_with (first | ((with_reducible refine gate_callee (f := 36) rfl ?_); refine goesL_ (some 10) rfl rfl Tryd.func36 (by kernel_rfl) rfl #[.pointer (some ⟨g, 0, none⟩), .int .i64 5] rfl (by (try simp only [List.map_toArray, List.map_cons, List.map_nil]); first | done | rfl | (simp only [List.length_drop, List.length_take]; rfl)) ?_; (with_reducible refine (chasemake_Stream_Next.calls g s0_0 s0_1 5 t209 t210 w0 _ ?side1 ?side2 A3.out).mono ?_); (case side1 => repeat (first | (with_reducible first | exact HI0.out | apply IsS25.alloc | apply IsS25.drewN | apply IsS25.drew | apply IsS25.set_1) | exact HI0.out)); (case side2 => repeat (first | (with_reducible first | exact HB.out | apply below_alloc | apply pw_below_drewN | apply below_drew1 | refine below_set ?_ (IsS25.ge HI0.out)) | exact HB.out)); rintro e w4 ⟨rfl, hi, hb, hk⟩; refine ⟨_, rfl, ?_⟩; have n0_ := Aside0.mk (KeepBut.trans (by repeat (first | (with_reducible first | exact HK.out | apply KeepBut.set_ | apply keep_drewN | apply keep_drew | apply keep_alloc) | exact HK.out)) hk (.inl rfl)); have n1_ := Aside0.mk (hb); have n2_ := Aside0.mk (hi); clear HK; clear HB; clear HI0; have HK := n0_; have HB := n1_; have HI0 := n2_; clear n0_ n1_ n2_; (try clear hb); (try clear hb2); (try clear hk); (try clear hi)))
  go_loopg [5, 6, 11] k (fun kq v5 v6 v11 w' => ∃ (x5_1 : List (S46)) (x6_1 : Int) (x11_1 : Int) (x1001_1 : Int), v6 = .int .i64 x6_1 ∧ v11 = .int .i64 x11_1 ∧ Aside0 (chasemake_Stream_SpanList.l0 kq a1 x5_1 x6_1 t209 x11_1 s0_0 x1001_1 = some (r1, r2)) ∧ Aside0 (kq ≤ k) ∧ Aside0 (Kd.R k46 46 w' w.heap.size (fun _ => True) v5 x5_1) ∧ Aside0 (IsS25 w0 w' g s0_0 x1001_1) ∧ Aside0 (KeepBut w w' g none) ∧ Aside0 (Below w0.heap.size w0 w'))
  case atStart => exact ⟨(([] : List (S46))), (0), (0), (t210), (by first | rfl | (simp; done) | (simp [*]; done)), (by first | rfl | (simp; done) | (simp [*]; done)), H', ⟨Nat.le_refl _⟩, ⟨by first | exact Kd.R_nil _ _ _ _ _ | exact Kd.N_nil _ _ _ _ _ | exact Kd.V_nil _ _ _ _ _ | exact Kd.Q_nil _ _ _ _ _ | exact Kd.S_nil _ _ _ _ _⟩, ⟨by repeat (first | (with_reducible first | exact HI0.out | apply IsS25.alloc | apply IsS25.drewN | apply IsS25.drew | apply IsS25.set_1) | exact HI0.out)⟩, ⟨by repeat (first | (with_reducible first | exact HK.out | apply KeepBut.set_ | apply keep_drewN | apply keep_drew | apply keep_alloc) | exact HK.out)⟩, ⟨by repeat (first | (with_reducible first | exact HB.out | apply below_alloc | apply pw_below_drewN | apply below_drew1 | refine below_set ?_ (IsS25.ge HI0.out)) | exact HB.out)⟩⟩
  case round =>
    clear H'
    try clear c1
    try clear p2
    try clear c3
    obtain ⟨x5_1, x6_1, x11_1, x1001_1, rfl, rfl, HA, HK1, HO_5, HI0, HK, HB⟩ := hrel
    cases gk with
    | zero => exact absurd HA.out (by simp [chasemake_Stream_SpanList.l0])
    | succ k1 =>
      have H := HA.out
      clear HA
      simp only [chasemake_Stream_SpanList.l0] at H
      by_cases c5 : x11_1 < t209
      · rw [if_pos c5] at H
        have c5b0 : decide (x11_1 < t209) = true := decide_eq_true c5
        clear c5
        obtain ⟨y211, hy211⟩ : ∃ y_ : List Int, y_ = (([0, 1, 2, 5] : List Int)) := ⟨_, rfl⟩
        replace H : ((chasemake_Stream_Pick.f s0_0 x1001_1 y211).bind fun bt214 => ((chasemake_Stream_Pick.f s0_0 bt214.2 (([1, 1, 2, 4, 9] : List Int))).bind fun bt219 => (if (wrap64 ((wrap64 (x6_1 + bt214.1)) + bt219.1)) > a1 then (some (x5_1, bt219.2)) else (if x5_1.length < 8796093022208 then (chasemake_Stream_SpanList.l0 k1 a1 (x5_1 ++ [(⟨wrap64 (x6_1 + bt214.1), wrap64 ((wrap64 (x6_1 + bt214.1)) + bt219.1)⟩ : S46)]) (wrap64 ((wrap64 ((wrap64 (x6_1 + bt214.1)) + bt219.1)) + 1)) t209 (wrap64 (x11_1 + 1)) s0_0 bt219.2) else (none))))) = some (r1, r2) := by first | (rw [hy211]; with_reducible exact H) | (have H2_ := (Option.bind_some _ _).symm.trans H; rw [hy211]; with_reducible exact H2_) | (have H2_ := (Option.bind_some _ _).symm.trans H; with_reducible exact H2_) | with_reducible exact H | (rw [hy211]; exact H) | exact H
        have Ny211 := Aside0.mk hy211
        clear hy211
        replace H := Option.bind_eq_some_iff.mp H
        obtain ⟨⟨t214, t215⟩, A60, H⟩ := H
        replace H : ((chasemake_Stream_Pick.f s0_0 t215 (([1, 1, 2, 4, 9] : List Int))).bind fun bt219 => (if (wrap64 ((wrap64 (x6_1 + t214)) + bt219.1)) > a1 then (some (x5_1, bt219.2)) else (if x5_1.length < 8796093022208 then (chasemake_Stream_SpanList.l0 k1 a1 (x5_1 ++ [(⟨wrap64 (x6_1 + t214), wrap64 ((wrap64 (x6_1 + t214)) + bt219.1)⟩ : S46)]) (wrap64 ((wrap64 ((wrap64 (x6_1 + t214)) + bt219.1)) + 1)) t209 (wrap64 (x11_1 + 1)) s0_0 bt219.2) else (none)))) = some (r1, r2) := H
        have A6 := Aside0.mk A60
        clear A60
        obtain ⟨y216, hy216⟩ : ∃ y_ : List Int, y_ = (([1, 1, 2, 4, 9] : List Int)) := ⟨_, rfl⟩
        replace H : ((chasemake_Stream_Pick.f s0_0 t215 y216).bind fun bt219 => (if (wrap64 ((wrap64 (x6_1 + t214)) + bt219.1)) > a1 then (some (x5_1, bt219.2)) else (if x5_1.length < 8796093022208 then (chasemake_Stream_SpanList.l0 k1 a1 (x5_1 ++ [(⟨wrap64 (x6_1 + t214), wrap64 ((wrap64 (x6_1 + t214)) + bt219.1)⟩ : S46)]) (wrap64 ((wrap64 ((wrap64 (x6_1 + t214)) + bt219.1)) + 1)) t209 (wrap64 (x11_1 + 1)) s0_0 bt219.2) else (none)))) = some (r1, r2) := by first | (rw [hy216]; with_reducible exact H) | (have H2_ := (Option.bind_some _ _).symm.trans H; rw [hy216]; with_reducible exact H2_) | (have H2_ := (Option.bind_some _ _).symm.trans H; with_reducible exact H2_) | with_reducible exact H | (rw [hy216]; exact H) | exact H
        have Ny216 := Aside0.mk hy216
        clear hy216
        replace H := Option.bind_eq_some_iff.mp H
        obtain ⟨⟨t219, t220⟩, A70, H⟩ := H
        replace H : (if (wrap64 ((wrap64 (x6_1 + t214)) + t219)) > a1 then (some (x5_1, t220)) else (if x5_1.length < 8796093022208 then (chasemake_Stream_SpanList.l0 k1 a1 (x5_1 ++ [(⟨wrap64 (x6_1 + t214), wrap64 ((wrap64 (x6_1 + t214)) + t219)⟩ : S46)]) (wrap64 ((wrap64 ((wrap64 (x6_1 + t214)) + t219)) + 1)) t209 (wrap64 (x11_1 + 1)) s0_0 t220) else (none))) = some (r1, r2) := H
        have A7 := Aside0.mk A70
        clear A70
        by_cases c8 : (wrap64 ((wrap64 (x6_1 + t214)) + t219)) > a1
        · rw [if_pos c8] at H
          have c8b0 : decide (a1 < (wrap64 ((wrap64 (x6_1 + t214)) + t219))) = true := decide_eq_true c8
          clear c8
          simp only [Option.some.injEq, Prod.mk.injEq] at H
          obtain ⟨rfl, rfl⟩ := H
          go_wp2_with (first | ((with_reducible refine gate_dst (N := 15) rfl ?_); refine Kd.R_lit (Kd.int .i64) _ 3 ?hg (N := 15) ?hd (xs := ([0, 1, 2, 5] : List Int)) (inner := [.int .i64 0, .int .i64 1, .int .i64 2, .int .i64 5]) (ok := fun _ => True) (okp := fun _ => True) ?hr ?hp (fun _ hk => hk) trivial (Below.refl _ _) (Nat.le_refl _) (by simp) ?_; (case hd => rfl); (case hg => rfl); (case hr => first | (go_simp; done) | (go_simp; rfl)); (case hp => exact (Reps.one (show Kd.M (Kd.int .i64) _ _ _ 0 [.int .i64 0] from rfl) (Reps.one (show Kd.M (Kd.int .i64) _ _ _ 1 [.int .i64 1] from rfl) (Reps.one (show Kd.M (Kd.int .i64) _ _ _ 2 [.int .i64 2] from rfl) (Reps.one (show Kd.M (Kd.int .i64) _ _ _ 5 [.int .i64 5] from rfl) (Reps.none _ _)))))); intro v212 w9 ho10 hb hg_ hnew_; clear hg_ hnew_; (first | rw [← Ny211.out] at ho10 | (simp only [Int.reduceToNat] at ho10; rw [← Ny211.out] at ho10)); have n0_ := Aside0.mk (Kd.R_below (by (with_reducible repeat (first | apply Kd.R_alloc | apply Kd.R_drewN | apply Kd.R_drew)); exact HO_5.out) hb); have n1_ := Aside0.mk (Kd.R_lower ho10 (keep_size (w := w) (g := g) (row := none) (by repeat (first | (with_reducible first | exact HK.out | apply KeepBut.set_ | apply keep_drewN | apply keep_drew | apply keep_alloc) | exact HK.out)))); have n2_ := Aside0.mk (IsS25.below (by repeat (first | (with_reducible first | exact HI0.out | apply IsS25.alloc | apply IsS25.drewN | apply IsS25.drew | apply IsS25.set_1) | exact HI0.out)) hb); have n3_ := Aside0.mk (KeepBut.trans (by repeat (first | (with_reducible first | exact HK.out | apply KeepBut.set_ | apply keep_drewN | apply keep_drew | apply keep_alloc) | exact HK.out)) (KeepBut.of_below hb g none) (.inl rfl)); have n4_ := Aside0.mk (below_step (by repeat (first | (with_reducible first | exact HB.out | apply below_alloc | apply pw_below_drewN | apply below_drew1 | refine below_set ?_ (IsS25.ge HI0.out)) | exact HB.out)) hb); clear HO_5; clear HI0; clear HK; clear HB; have HO_5 := n0_; have HO213 := n1_; have HI0 := n2_; have HK := n3_; have HB := n4_; clear n0_ n1_ n2_ n3_ n4_; clear hb ho10; obtain ⟨Ao11, co11, eo11⟩ := Kd.R_slice HO213.out; subst eo11) | ((with_reducible refine gate_callee (f := 52) rfl ?_); refine goesL_ (some 16) rfl rfl Tryd.func52 (by kernel_rfl) rfl #[.pointer (some ⟨g, 0, none⟩), .slice Ao11 y211.length co11] rfl (by (try simp only [List.map_toArray, List.map_cons, List.map_nil]); first | done | rfl | (simp only [List.length_drop, List.length_take]; rfl)) ?_; (with_reducible refine (chasemake_Stream_Pick.calls g s0_0 x1001_1 _ _ y211 t214 t215 w0 _ ?side1 ?side2 ?side3 ?side4 ?side5 A6.out).mono ?_); (case side1 => repeat (first | (with_reducible first | exact HI0.out | apply IsS25.alloc | apply IsS25.drewN | apply IsS25.drew | apply IsS25.set_1) | exact HI0.out)); (case side2 => repeat (first | (with_reducible first | exact HB.out | apply below_alloc | apply pw_below_drewN | apply below_drew1 | refine below_set ?_ (IsS25.ge HI0.out)) | exact HB.out)); (case side3 => repeat (first | exact (Kd.R_reads' HO213.out).2.2 | (with_reducible refine Kd.C_alloc ?_ _) | (with_reducible refine Kd.C_drewN ?_ _) | (with_reducible refine Kd.C_drew ?_))); (case side4 => exact (Kd.R_reads' HO213.out).2.1); (case side5 => exact far_slice (IsS25.own_ne HI0.out HO213.out (by decide))); rintro e w12 ⟨rfl, hi, hb, hk⟩; refine ⟨_, rfl, ?_⟩; have n0_ := Aside0.mk (Kd.R_mono (Kd.R_keep (IsS25.apart (show IsS25 w0 _ g s0_0 x1001_1 from by repeat (first | (with_reducible first | exact HI0.out | apply IsS25.alloc | apply IsS25.drewN | apply IsS25.drew | apply IsS25.set_1) | exact HI0.out)) (by (with_reducible repeat (first | apply Kd.R_alloc | apply Kd.R_drewN | apply Kd.R_drew)); exact HO_5.out) (by decide)) hk (fun _ h => h.2)) (fun _ h => h.1)); have n1_ := Aside0.mk (Kd.R_mono (Kd.R_keep (IsS25.apart (show IsS25 w0 _ g s0_0 x1001_1 from by repeat (first | (with_reducible first | exact HI0.out | apply IsS25.alloc | apply IsS25.drewN | apply IsS25.drew | apply IsS25.set_1) | exact HI0.out)) (by (with_reducible repeat (first | apply Kd.R_alloc | apply Kd.R_drewN | apply Kd.R_drew)); exact HO213.out) (by decide)) hk (fun _ h => h.2)) (fun _ h => h.1)); have n2_ := Aside0.mk (KeepBut.trans (by repeat (first | (with_reducible first | exact HK.out | apply KeepBut.set_ | apply keep_drewN | apply keep_drew | apply keep_alloc) | exact HK.out)) hk (.inl rfl)); have n3_ := Aside0.mk (hb); have n4_ := Aside0.mk (hi); clear HO_5; clear HO213; clear HK; clear HB; clear HI0; have HO_5 := n0_; have HO213 := n1_; have HK := n2_; have HB := n3_; have HI0 := n4_; clear n0_ n1_ n2_ n3_ n4_; (try clear hb); (try clear hb2); (try clear hk); (try clear hi)) | ((with_reducible refine gate_dst (N := 20) rfl ?_); refine Kd.R_lit (Kd.int .i64) _ 3 ?hg (N := 20) ?hd (xs := ([1, 1, 2, 4, 9] : List Int)) (inner := [.int .i64 1, .int .i64 1, .int .i64 2, .int .i64 4, .int .i64 9]) (ok := fun _ => True) (okp := fun _ => True) ?hr ?hp (fun _ hk => hk) trivial (Below.refl _ _) (Nat.le_refl _) (by simp) ?_; (case hd => rfl); (case hg => rfl); (case hr => first | (go_simp; done) | (go_simp; rfl)); (case hp => exact (Reps.one (show Kd.M (Kd.int .i64) _ _ _ 1 [.int .i64 1] from rfl) (Reps.one (show Kd.M (Kd.int .i64) _ _ _ 1 [.int .i64 1] from rfl) (Reps.one (show Kd.M (Kd.int .i64) _ _ _ 2 [.int .i64 2] from rfl) (Reps.one (show Kd.M (Kd.int .i64) _ _ _ 4 [.int .i64 4] from rfl) (Reps.one (show Kd.M (Kd.int .i64) _ _ _ 9 [.int .i64 9] from rfl) (Reps.none _ _))))))); intro v217 w13 ho14 hb hg_ hnew_; clear hg_ hnew_; (first | rw [← Ny216.out] at ho14 | (simp only [Int.reduceToNat] at ho14; rw [← Ny216.out] at ho14)); have n0_ := Aside0.mk (Kd.R_below (by (with_reducible repeat (first | apply Kd.R_alloc | apply Kd.R_drewN | apply Kd.R_drew)); exact HO_5.out) hb); have n1_ := Aside0.mk (Kd.R_elder' (by (with_reducible repeat (first | apply Kd.R_alloc | apply Kd.R_drewN | apply Kd.R_drew)); exact HO213.out) (Kd.R_base ho14) hb); have n2_ := Aside0.mk (Kd.R_lower (Kd.R_new' ho14 (Kd.R_lt (by (with_reducible repeat (first | apply Kd.R_alloc | apply Kd.R_drewN | apply Kd.R_drew)); exact HO213.out))) (keep_size (w := w) (g := g) (row := none) (by repeat (first | (with_reducible first | exact HK.out | apply KeepBut.set_ | apply keep_drewN | apply keep_drew | apply keep_alloc) | exact HK.out)))); have n3_ := Aside0.mk (IsS25.below (by repeat (first | (with_reducible first | exact HI0.out | apply IsS25.alloc | apply IsS25.drewN | apply IsS25.drew | apply IsS25.set_1) | exact HI0.out)) hb); have n4_ := Aside0.mk (KeepBut.trans (by repeat (first | (with_reducible first | exact HK.out | apply KeepBut.set_ | apply keep_drewN | apply keep_drew | apply keep_alloc) | exact HK.out)) (KeepBut.of_below hb g none) (.inl rfl)); have n5_ := Aside0.mk (below_step (by repeat (first | (with_reducible first | exact HB.out | apply below_alloc | apply pw_below_drewN | apply below_drew1 | refine below_set ?_ (IsS25.ge HI0.out)) | exact HB.out)) hb); clear HO_5; clear HO213; clear HI0; clear HK; clear HB; have HO_5 := n0_; have HO213 := n1_; have HO218 := n2_; have HI0 := n3_; have HK := n4_; have HB := n5_; clear n0_ n1_ n2_ n3_ n4_ n5_; clear hb ho14; obtain ⟨Ao15, co15, eo15⟩ := Kd.R_slice HO218.out; subst eo15) | ((with_reducible refine gate_callee (f := 52) rfl ?_); refine goesL_ (some 21) rfl rfl Tryd.func52 (by kernel_rfl) rfl #[.pointer (some ⟨g, 0, none⟩), .slice Ao15 y216.length co15] rfl (by (try simp only [List.map_toArray, List.map_cons, List.map_nil]); first | done | rfl | (simp only [List.length_drop, List.length_take]; rfl)) ?_; (with_reducible refine (chasemake_Stream_Pick.calls g s0_0 t215 _ _ y216 t219 t220 w0 _ ?side1 ?side2 ?side3 ?side4 ?side5 A7.out).mono ?_); (case side1 => repeat (first | (with_reducible first | exact HI0.out | apply IsS25.alloc | apply IsS25.drewN | apply IsS25.drew | apply IsS25.set_1) | exact HI0.out)); (case side2 => repeat (first | (with_reducible first | exact HB.out | apply below_alloc | apply pw_below_drewN | apply below_drew1 | refine below_set ?_ (IsS25.ge HI0.out)) | exact HB.out)); (case side3 => repeat (first | exact (Kd.R_reads' HO218.out).2.2 | (with_reducible refine Kd.C_alloc ?_ _) | (with_reducible refine Kd.C_drewN ?_ _) | (with_reducible refine Kd.C_drew ?_))); (case side4 => exact (Kd.R_reads' HO218.out).2.1); (case side5 => exact far_slice (IsS25.own_ne HI0.out HO218.out (by decide))); rintro e w16 ⟨rfl, hi, hb, hk⟩; refine ⟨_, rfl, ?_⟩; have n0_ := Aside0.mk (Kd.R_mono (Kd.R_keep (IsS25.apart (show IsS25 w0 _ g s0_0 t215 from by repeat (first | (with_reducible first | exact HI0.out | apply IsS25.alloc | apply IsS25.drewN | apply IsS25.drew | apply IsS25.set_1) | exact HI0.out)) (by (with_reducible repeat (first | apply Kd.R_alloc | apply Kd.R_drewN | apply Kd.R_drew)); exact HO_5.out) (by decide)) hk (fun _ h => h.2)) (fun _ h => h.1)); have n1_ := Aside0.mk (Kd.R_mono (Kd.R_keep (IsS25.apart (show IsS25 w0 _ g s0_0 t215 from by repeat (first | (with_reducible first | exact HI0.out | apply IsS25.alloc | apply IsS25.drewN | apply IsS25.drew | apply IsS25.set_1) | exact HI0.out)) (by (with_reducible repeat (first | apply Kd.R_alloc | apply Kd.R_drewN | apply Kd.R_drew)); exact HO213.out) (by decide)) hk (fun _ h => h.2)) (fun _ h => h.1)); have n2_ := Aside0.mk (Kd.R_mono (Kd.R_keep (IsS25.apart (show IsS25 w0 _ g s0_0 t215 from by repeat (first | (with_reducible first | exact HI0.out | apply IsS25.alloc | apply IsS25.drewN | apply IsS25.drew | apply IsS25.set_1) | exact HI0.out)) (by (with_reducible repeat (first | apply Kd.R_alloc | apply Kd.R_drewN | apply Kd.R_drew)); exact HO218.out) (by decide)) hk (fun _ h => h.2)) (fun _ h => h.1)); have n3_ := Aside0.mk (KeepBut.trans (by repeat (first | (with_reducible first | exact HK.out | apply KeepBut.set_ | apply keep_drewN | apply keep_drew | apply keep_alloc) | exact HK.out)) hk (.inl rfl)); have n4_ := Aside0.mk (hb); have n5_ := Aside0.mk (hi); clear HO_5; clear HO213; clear HO218; clear HK; clear HB; clear HI0; have HO_5 := n0_; have HO213 := n1_; have HO218 := n2_; have HK := n3_; have HB := n4_; have HI0 := n5_; clear n0_ n1_ n2_ n3_ n4_ n5_; (try clear hb); (try clear hb2); (try clear hk); (try clear hi)))
          go_ret
          exact ⟨_, by first | rfl | (simp [errW_none, errW_some] <;> rfl) | (simp [*, errW_none, errW_some] <;> rfl), by (with_reducible repeat (first | apply Kd.R_alloc | apply Kd.R_drewN | apply Kd.R_drew)); exact HO_5.out, by repeat (first | (with_reducible first | exact HI0.out | apply IsS25.alloc | apply IsS25.drewN | apply IsS25.drew | apply IsS25.set_1) | exact HI0.out), by repeat (first | (with_reducible first | exact HB.out | apply below_alloc | apply pw_below_drewN | apply below_drew1 | refine below_set ?_ (IsS25.ge HI0.out)) | exact HB.out), by repeat (first | (with_reducible first | exact HK.out | apply KeepBut.set_ | apply keep_drewN | apply keep_drew | apply keep_alloc) | exact HK.out)⟩
        · rw [if_neg c8] at H
          have c8b0 : decide (a1 < (wrap64 ((wrap64 (x6_1 + t214)) + t219))) = false := decide_eq_false c8
          clear c8
          by_cases c17 : x5_1.length < 8796093022208
          · rw [if_pos c17] at H
            have LMc17 := Aside0.mk c17
            clear c17
            obtain ⟨y221, hy221⟩ : ∃ y_ : List (S46), y_ = (x5_1 ++ [(⟨wrap64 (x6_1 + t214), wrap64 ((wrap64 (x6_1 + t214)) + t219)⟩ : S46)]) := ⟨_, rfl⟩
            replace H : (chasemake_Stream_SpanList.l0 k1 a1 y221 (wrap64 ((wrap64 ((wrap64 (x6_1 + t214)) + t219)) + 1)) t209 (wrap64 (x11_1 + 1)) s0_0 t220) = some (r1, r2) := by first | (rw [hy221]; with_reducible exact H) | (have H2_ := (Option.bind_some _ _).symm.trans H; rw [hy221]; with_reducible exact H2_) | (have H2_ := (Option.bind_some _ _).symm.trans H; with_reducible exact H2_) | with_reducible exact H | (rw [hy221]; exact H) | exact H
            have Ny221 := Aside0.mk hy221
            clear hy221
            have H' := Aside0.mk H
            clear H
            go_wp2_with (first | ((with_reducible refine gate_dst (N := 15) rfl ?_); refine Kd.R_lit (Kd.int .i64) _ 3 ?hg (N := 15) ?hd (xs := ([0, 1, 2, 5] : List Int)) (inner := [.int .i64 0, .int .i64 1, .int .i64 2, .int .i64 5]) (ok := fun _ => True) (okp := fun _ => True) ?hr ?hp (fun _ hk => hk) trivial (Below.refl _ _) (Nat.le_refl _) (by simp) ?_; (case hd => rfl); (case hg => rfl); (case hr => first | (go_simp; done) | (go_simp; rfl)); (case hp => exact (Reps.one (show Kd.M (Kd.int .i64) _ _ _ 0 [.int .i64 0] from rfl) (Reps.one (show Kd.M (Kd.int .i64) _ _ _ 1 [.int .i64 1] from rfl) (Reps.one (show Kd.M (Kd.int .i64) _ _ _ 2 [.int .i64 2] from rfl) (Reps.one (show Kd.M (Kd.int .i64) _ _ _ 5 [.int .i64 5] from rfl) (Reps.none _ _)))))); intro v212 w18 ho19 hb hg_ hnew_; clear hg_ hnew_; (first | rw [← Ny211.out] at ho19 | (simp only [Int.reduceToNat] at ho19; rw [← Ny211.out] at ho19)); have n0_ := Aside0.mk (Kd.R_below (by (with_reducible repeat (first | apply Kd.R_alloc | apply Kd.R_drewN | apply Kd.R_drew)); exact HO_5.out) hb); have n1_ := Aside0.mk (Kd.R_lower ho19 (keep_size (w := w) (g := g) (row := none) (by repeat (first | (with_reducible first | exact HK.out | apply KeepBut.set_ | apply keep_drewN | apply keep_drew | apply keep_alloc) | exact HK.out)))); have n2_ := Aside0.mk (IsS25.below (by repeat (first | (with_reducible first | exact HI0.out | apply IsS25.alloc | apply IsS25.drewN | apply IsS25.drew | apply IsS25.set_1) | exact HI0.out)) hb); have n3_ := Aside0.mk (KeepBut.trans (by repeat (first | (with_reducible first | exact HK.out | apply KeepBut.set_ | apply keep_drewN | apply keep_drew | apply keep_alloc) | exact HK.out)) (KeepBut.of_below hb g none) (.inl rfl)); have n4_ := Aside0.mk (below_step (by repeat (first | (with_reducible first | exact HB.out | apply below_alloc | apply pw_below_drewN | apply below_drew1 | refine below_set ?_ (IsS25.ge HI0.out)) | exact HB.out)) hb); clear HO_5; clear HI0; clear HK; clear HB; have HO_5 := n0_; have HO213 := n1_; have HI0 := n2_; have HK := n3_; have HB := n4_; clear n0_ n1_ n2_ n3_ n4_; clear hb ho19; obtain ⟨Ao20, co20, eo20⟩ := Kd.R_slice HO213.out; subst eo20) | ((with_reducible refine gate_callee (f := 52) rfl ?_); refine goesL_ (some 16) rfl rfl Tryd.func52 (by kernel_rfl) rfl #[.pointer (some ⟨g, 0, none⟩), .slice Ao20 y211.length co20] rfl (by (try simp only [List.map_toArray, List.map_cons, List.map_nil]); first | done | rfl | (simp only [List.length_drop, List.length_take]; rfl)) ?_; (with_reducible refine (chasemake_Stream_Pick.calls g s0_0 x1001_1 _ _ y211 t214 t215 w0 _ ?side1 ?side2 ?side3 ?side4 ?side5 A6.out).mono ?_); (case side1 => repeat (first | (with_reducible first | exact HI0.out | apply IsS25.alloc | apply IsS25.drewN | apply IsS25.drew | apply IsS25.set_1) | exact HI0.out)); (case side2 => repeat (first | (with_reducible first | exact HB.out | apply below_alloc | apply pw_below_drewN | apply below_drew1 | refine below_set ?_ (IsS25.ge HI0.out)) | exact HB.out)); (case side3 => repeat (first | exact (Kd.R_reads' HO213.out).2.2 | (with_reducible refine Kd.C_alloc ?_ _) | (with_reducible refine Kd.C_drewN ?_ _) | (with_reducible refine Kd.C_drew ?_))); (case side4 => exact (Kd.R_reads' HO213.out).2.1); (case side5 => exact far_slice (IsS25.own_ne HI0.out HO213.out (by decide))); rintro e w21 ⟨rfl, hi, hb, hk⟩; refine ⟨_, rfl, ?_⟩; have n0_ := Aside0.mk (Kd.R_mono (Kd.R_keep (IsS25.apart (show IsS25 w0 _ g s0_0 x1001_1 from by repeat (first | (with_reducible first | exact HI0.out | apply IsS25.alloc | apply IsS25.drewN | apply IsS25.drew | apply IsS25.set_1) | exact HI0.out)) (by (with_reducible repeat (first | apply Kd.R_alloc | apply Kd.R_drewN | apply Kd.R_drew)); exact HO_5.out) (by decide)) hk (fun _ h => h.2)) (fun _ h => h.1)); have n1_ := Aside0.mk (Kd.R_mono (Kd.R_keep (IsS25.apart (show IsS25 w0 _ g s0_0 x1001_1 from by repeat (first | (with_reducible first | exact HI0.out | apply IsS25.alloc | apply IsS25.drewN | apply IsS25.drew | apply IsS25.set_1) | exact HI0.out)) (by (with_reducible repeat (first | apply Kd.R_alloc | apply Kd.R_drewN | apply Kd.R_drew)); exact HO213.out) (by decide)) hk (fun _ h => h.2)) (fun _ h => h.1)); have n2_ := Aside0.mk (KeepBut.trans (by repeat (first | (with_reducible first | exact HK.out | apply KeepBut.set_ | apply keep_drewN | apply keep_drew | apply keep_alloc) | exact HK.out)) hk (.inl rfl)); have n3_ := Aside0.mk (hb); have n4_ := Aside0.mk (hi); clear HO_5; clear HO213; clear HK; clear HB; clear HI0; have HO_5 := n0_; have HO213 := n1_; have HK := n2_; have HB := n3_; have HI0 := n4_; clear n0_ n1_ n2_ n3_ n4_; (try clear hb); (try clear hb2); (try clear hk); (try clear hi)) | ((with_reducible refine gate_dst (N := 20) rfl ?_); refine Kd.R_lit (Kd.int .i64) _ 3 ?hg (N := 20) ?hd (xs := ([1, 1, 2, 4, 9] : List Int)) (inner := [.int .i64 1, .int .i64 1, .int .i64 2, .int .i64 4, .int .i64 9]) (ok := fun _ => True) (okp := fun _ => True) ?hr ?hp (fun _ hk => hk) trivial (Below.refl _ _) (Nat.le_refl _) (by simp) ?_; (case hd => rfl); (case hg => rfl); (case hr => first | (go_simp; done) | (go_simp; rfl)); (case hp => exact (Reps.one (show Kd.M (Kd.int .i64) _ _ _ 1 [.int .i64 1] from rfl) (Reps.one (show Kd.M (Kd.int .i64) _ _ _ 1 [.int .i64 1] from rfl) (Reps.one (show Kd.M (Kd.int .i64) _ _ _ 2 [.int .i64 2] from rfl) (Reps.one (show Kd.M (Kd.int .i64) _ _ _ 4 [.int .i64 4] from rfl) (Reps.one (show Kd.M (Kd.int .i64) _ _ _ 9 [.int .i64 9] from rfl) (Reps.none _ _))))))); intro v217 w22 ho23 hb hg_ hnew_; clear hg_ hnew_; (first | rw [← Ny216.out] at ho23 | (simp only [Int.reduceToNat] at ho23; rw [← Ny216.out] at ho23)); have n0_ := Aside0.mk (Kd.R_below (by (with_reducible repeat (first | apply Kd.R_alloc | apply Kd.R_drewN | apply Kd.R_drew)); exact HO_5.out) hb); have n1_ := Aside0.mk (Kd.R_elder' (by (with_reducible repeat (first | apply Kd.R_alloc | apply Kd.R_drewN | apply Kd.R_drew)); exact HO213.out) (Kd.R_base ho23) hb); have n2_ := Aside0.mk (Kd.R_lower (Kd.R_new' ho23 (Kd.R_lt (by (with_reducible repeat (first | apply Kd.R_alloc | apply Kd.R_drewN | apply Kd.R_drew)); exact HO213.out))) (keep_size (w := w) (g := g) (row := none) (by repeat (first | (with_reducible first | exact HK.out | apply KeepBut.set_ | apply keep_drewN | apply keep_drew | apply keep_alloc) | exact HK.out)))); have n3_ := Aside0.mk (IsS25.below (by repeat (first | (with_reducible first | exact HI0.out | apply IsS25.alloc | apply IsS25.drewN | apply IsS25.drew | apply IsS25.set_1) | exact HI0.out)) hb); have n4_ := Aside0.mk (KeepBut.trans (by repeat (first | (with_reducible first | exact HK.out | apply KeepBut.set_ | apply keep_drewN | apply keep_drew | apply keep_alloc) | exact HK.out)) (KeepBut.of_below hb g none) (.inl rfl)); have n5_ := Aside0.mk (below_step (by repeat (first | (with_reducible first | exact HB.out | apply below_alloc | apply pw_below_drewN | apply below_drew1 | refine below_set ?_ (IsS25.ge HI0.out)) | exact HB.out)) hb); clear HO_5; clear HO213; clear HI0; clear HK; clear HB; have HO_5 := n0_; have HO213 := n1_; have HO218 := n2_; have HI0 := n3_; have HK := n4_; have HB := n5_; clear n0_ n1_ n2_ n3_ n4_ n5_; clear hb ho23; obtain ⟨Ao24, co24, eo24⟩ := Kd.R_slice HO218.out; subst eo24) | ((with_reducible refine gate_callee (f := 52) rfl ?_); refine goesL_ (some 21) rfl rfl Tryd.func52 (by kernel_rfl) rfl #[.pointer (some ⟨g, 0, none⟩), .slice Ao24 y216.length co24] rfl (by (try simp only [List.map_toArray, List.map_cons, List.map_nil]); first | done | rfl | (simp only [List.length_drop, List.length_take]; rfl)) ?_; (with_reducible refine (chasemake_Stream_Pick.calls g s0_0 t215 _ _ y216 t219 t220 w0 _ ?side1 ?side2 ?side3 ?side4 ?side5 A7.out).mono ?_); (case side1 => repeat (first | (with_reducible first | exact HI0.out | apply IsS25.alloc | apply IsS25.drewN | apply IsS25.drew | apply IsS25.set_1) | exact HI0.out)); (case side2 => repeat (first | (with_reducible first | exact HB.out | apply below_alloc | apply pw_below_drewN | apply below_drew1 | refine below_set ?_ (IsS25.ge HI0.out)) | exact HB.out)); (case side3 => repeat (first | exact (Kd.R_reads' HO218.out).2.2 | (with_reducible refine Kd.C_alloc ?_ _) | (with_reducible refine Kd.C_drewN ?_ _) | (with_reducible refine Kd.C_drew ?_))); (case side4 => exact (Kd.R_reads' HO218.out).2.1); (case side5 => exact far_slice (IsS25.own_ne HI0.out HO218.out (by decide))); rintro e w25 ⟨rfl, hi, hb, hk⟩; refine ⟨_, rfl, ?_⟩; have n0_ := Aside0.mk (Kd.R_mono (Kd.R_keep (IsS25.apart (show IsS25 w0 _ g s0_0 t215 from by repeat (first | (with_reducible first | exact HI0.out | apply IsS25.alloc | apply IsS25.drewN | apply IsS25.drew | apply IsS25.set_1) | exact HI0.out)) (by (with_reducible repeat (first | apply Kd.R_alloc | apply Kd.R_drewN | apply Kd.R_drew)); exact HO_5.out) (by decide)) hk (fun _ h => h.2)) (fun _ h => h.1)); have n1_ := Aside0.mk (Kd.R_mono (Kd.R_keep (IsS25.apart (show IsS25 w0 _ g s0_0 t215 from by repeat (first | (with_reducible first | exact HI0.out | apply IsS25.alloc | apply IsS25.drewN | apply IsS25.drew | apply IsS25.set_1) | exact HI0.out)) (by (with_reducible repeat (first | apply Kd.R_alloc | apply Kd.R_drewN | apply Kd.R_drew)); exact HO213.out) (by decide)) hk (fun _ h => h.2)) (fun _ h => h.1)); have n2_ := Aside0.mk (Kd.R_mono (Kd.R_keep (IsS25.apart (show IsS25 w0 _ g s0_0 t215 from by repeat (first | (with_reducible first | exact HI0.out | apply IsS25.alloc | apply IsS25.drewN | apply IsS25.drew | apply IsS25.set_1) | exact HI0.out)) (by (with_reducible repeat (first | apply Kd.R_alloc | apply Kd.R_drewN | apply Kd.R_drew)); exact HO218.out) (by decide)) hk (fun _ h => h.2)) (fun _ h => h.1)); have n3_ := Aside0.mk (KeepBut.trans (by repeat (first | (with_reducible first | exact HK.out | apply KeepBut.set_ | apply keep_drewN | apply keep_drew | apply keep_alloc) | exact HK.out)) hk (.inl rfl)); have n4_ := Aside0.mk (hb); have n5_ := Aside0.mk (hi); clear HO_5; clear HO213; clear HO218; clear HK; clear HB; clear HI0; have HO_5 := n0_; have HO213 := n1_; have HO218 := n2_; have HK := n3_; have HB := n4_; have HI0 := n5_; clear n0_ n1_ n2_ n3_ n4_ n5_; (try clear hb); (try clear hb2); (try clear hk); (try clear hi)) | ((with_reducible refine gate_builtin (b := .append) (xs := #[.tmp 26, .tmp 30]) rfl ?_); at_builtin; refine Kd.R_append k46 w.heap.size rfl (.tmp 26) (.tmp 30) 38 46 (.agg #[(.int .i64 0), (.int .i64 0)]) 16 rfl Tryd.underlying38 info46 rfl (by decide) (by omega) u5 x5_1 (⟨wrap64 (x6_1 + t214), wrap64 ((wrap64 (x6_1 + t214)) + t219)⟩ : S46) [.int .i64 (wrap64 (x6_1 + t214)), .int .i64 (wrap64 ((wrap64 (x6_1 + t214)) + t219))] (fun _ => True) (fun _ => False) rfl rfl ?aP (fun _ hk => hk.elim) ?aF ?aO (Below.refl _ _) ?aS ?aL ?_; (case aP => exact k46_mkM _ _ _ (⟨wrap64 (x6_1 + t214), wrap64 ((wrap64 (x6_1 + t214)) + t219)⟩ : S46)); (case aF => exact (fun _ _ => trivial)); (case aO => exact (by (with_reducible repeat (first | apply Kd.R_alloc | apply Kd.R_drewN | apply Kd.R_drew)); exact HO_5.out)); (case aS => exact (keep_size (w := w) (g := g) (row := none) (by repeat (first | (with_reducible first | exact HK.out | apply KeepBut.set_ | apply keep_drewN | apply keep_drew | apply keep_alloc) | exact HK.out)))); (case aL => have := LMc17.out; omega); intro v222 w26 ho hb hg hat; rw [← Ny221.out] at ho; have n0_ := Aside0.mk (IsS25.grown (by repeat (first | (with_reducible first | exact HI0.out | apply IsS25.alloc | apply IsS25.drewN | apply IsS25.drew | apply IsS25.set_1) | exact HI0.out)) hg (IsS25.own_ne HI0.out HO_5.out (by decide))); have n1_ := Aside0.mk (Kd.R_over' (by (with_reducible repeat (first | apply Kd.R_alloc | apply Kd.R_drewN | apply Kd.R_drew)); exact HO213.out) (Kd.R_typed (by (with_reducible repeat (first | apply Kd.R_alloc | apply Kd.R_drewN | apply Kd.R_drew)); exact HO_5.out)) (by decide) hg); have n2_ := Aside0.mk (Kd.R_over' (by (with_reducible repeat (first | apply Kd.R_alloc | apply Kd.R_drewN | apply Kd.R_drew)); exact HO218.out) (Kd.R_typed (by (with_reducible repeat (first | apply Kd.R_alloc | apply Kd.R_drewN | apply Kd.R_drew)); exact HO_5.out)) (by decide) hg); have n3_ := Aside0.mk (below_weaken (by repeat (first | (with_reducible first | exact HB.out | apply below_alloc | apply pw_below_drewN | apply below_drew1 | refine below_set ?_ (IsS25.ge HI0.out)) | exact HB.out)) HL.out hb); have n4_ := Aside0.mk (KeepBut.trans (by repeat (first | (with_reducible first | exact HK.out | apply KeepBut.set_ | apply keep_drewN | apply keep_drew | apply keep_alloc) | exact HK.out)) (KeepBut.of_grown hg g) (Kd.R_base2 HO_5.out)); have n5_ := Aside0.mk (ho); clear HI0; clear HO213; clear HO218; clear HB; clear HK; clear HO_5; have HI0 := n0_; have HO213 := n1_; have HO218 := n2_; have HB := n3_; have HK := n4_; have HO223 := n5_; clear n0_ n1_ n2_ n3_ n4_ n5_; clear ho hb hg hat))
            go_roundg k1
            case measure => have := HK1.out; omega
            case rel => exact ⟨(y221), (wrap64 ((wrap64 ((wrap64 (x6_1 + t214)) + t219)) + 1)), (wrap64 (x11_1 + 1)), (t220), (by first | rfl | (simp; done) | (simp [*]; done)), (by first | rfl | (simp; done) | (simp [*]; done)), H', ⟨by have := HK1.out; omega⟩, ⟨by (with_reducible repeat (first | apply Kd.R_alloc | apply Kd.R_drewN | apply Kd.R_drew)); exact HO223.out⟩, ⟨by repeat (first | (with_reducible first | exact HI0.out | apply IsS25.alloc | apply IsS25.drewN | apply IsS25.drew | apply IsS25.set_1) | exact HI0.out)⟩, ⟨by repeat (first | (with_reducible first | exact HK.out | apply KeepBut.set_ | apply keep_drewN | apply keep_drew | apply keep_alloc) | exact HK.out)⟩, ⟨by repeat (first | (with_reducible first | exact HB.out | apply below_alloc | apply pw_below_drewN | apply below_drew1 | refine below_set ?_ (IsS25.ge HI0.out)) | exact HB.out)⟩⟩
          · rw [if_neg c17] at H
            exact absurd H (by simp)
      · rw [if_neg c5] at H
        have c5b0 : decide (x11_1 < t209) = false := decide_eq_false c5
        clear c5
        simp only [Option.some.injEq, Prod.mk.injEq] at H
        obtain ⟨rfl, rfl⟩ := H
        go_wp2
        go_ret
        exact ⟨_, by first | rfl | (simp [errW_none, errW_some] <;> rfl) | (simp [*, errW_none, errW_some] <;> rfl), by (with_reducible repeat (first | apply Kd.R_alloc | apply Kd.R_drewN | apply Kd.R_drew)); exact HO_5.out, by repeat (first | (with_reducible first | exact HI0.out | apply IsS25.alloc | apply IsS25.drewN | apply IsS25.drew | apply IsS25.set_1) | exact HI0.out), by repeat (first | (with_reducible first | exact HB.out | apply below_alloc | apply pw_below_drewN | apply below_drew1 | refine below_set ?_ (IsS25.ge HI0.out)) | exact HB.out), by repeat (first | (with_reducible first | exact HK.out | apply KeepBut.set_ | apply keep_drewN | apply keep_drew | apply keep_alloc) | exact HK.out)⟩
def privilege_few.f (l0 : List (S46)) : Option ((List (S46)) × Int) := if (l0.length : Int) > 1000 then (some (([] : List (S46)), 2)) else (some (l0, 0))
set_option maxHeartbeats 8000000 in
set_option maxRecDepth 100000 in
theorem privilege_few.calls (P0_ : Nat → Prop) (u9000_ : Value) (l0 : List (S46)) (r1 : List (S46)) (r2 : Int) (w0 w : World) (hB : Below w0.heap.size w0 w) (ho0 : Kd.R k46 46 w w0.heap.size P0_ u9000_ l0) (h : privilege_few.f l0 = some (r1, r2)) :
    Calls Tryd.prog 56 #[u9000_] w fun e w' => ∃ v0_ : Value, e = .returned (.tuple #[v0_, .int .i64 r2]) ∧ Kd.R k46 46 w' w0.heap.size (fun k_ => (P0_ k_ ∨ w.heap.size ≤ k_)) v0_ r1 ∧ Below w0.heap.size w0 w' ∧ Kept w w' (fun k_ => P0_ k_) := by
  have HO0 := Aside0.mk (show Kd.R k46 46 w w0.heap.size (fun k_ => (P0_ k_ ∨ w.heap.size ≤ k_)) u9000_ l0 from Kd.R_mono ho0 (fun k_ hk => (.inl hk)))
  have HK := Aside0.mk (Kept.refl w (fun k_ => P0_ k_))
  have HW0 := Aside0.mk hB.size
  have HB := Aside0.mk hB
  clear hB
  have H : (if (l0.length : Int) > 1000 then (some (([] : List (S46)), 2)) else (some (l0, 0))) = some (r1, r2) := h
  clear h
  by_cases c2 : (l0.length : Int) > 1000
  · rw [if_pos c2] at H
    have c2b0 : decide (1000 < (l0.length : Int)) = true := decide_eq_true c2
    have c2b1 : decide (1000 < l0.length) = true := decide_eq_true (by omega)
    clear c2
    simp only [Option.some.injEq, Prod.mk.injEq] at H
    obtain ⟨rfl, rfl⟩ := H
    obtain ⟨Ao3, co3, eo3⟩ := Kd.R_slice HO0.out
    subst eo3
    go_enter Tryd.func56, Tryd.ntmps56
    go_wp2
    go_ret2
    exact ⟨_, by first | rfl | (simp [errW_none, errW_some] <;> rfl) | (simp [*, errW_none, errW_some] <;> rfl), by first | exact Kd.R_nil _ _ _ _ _ | exact Kd.N_nil _ _ _ _ _ | exact Kd.V_nil _ _ _ _ _ | exact Kd.Q_nil _ _ _ _ _ | exact Kd.S_nil _ _ _ _ _, by repeat (first | (with_reducible first | exact HB.out | apply below_alloc | apply pw_below_drewN | apply below_drew1) | exact HB.out), by repeat (first | (with_reducible first | exact HK.out | apply Kept.alloc | apply Kept.drewN | apply Kept.drew) | exact HK.out)⟩
  · rw [if_neg c2] at H
    have c2b0 : decide (1000 < (l0.length : Int)) = false := decide_eq_false c2
    have c2b1 : decide (1000 < l0.length) = false := decide_eq_false (by omega)
    clear c2
    simp only [Option.some.injEq, Prod.mk.injEq] at H
    obtain ⟨rfl, rfl⟩ := H
    obtain ⟨Ao4, co4, eo4⟩ := Kd.R_slice HO0.out
    subst eo4
    go_enter Tryd.func56, Tryd.ntmps56
    go_wp2
    go_ret2
    exact ⟨_, by first | rfl | (simp [errW_none, errW_some] <;> rfl) | (simp [*, errW_none, errW_some] <;> rfl), by (with_reducible repeat (first | apply Kd.R_alloc | apply Kd.R_drewN | apply Kd.R_drew)); exact HO0.out, by repeat (first | (with_reducible first | exact HB.out | apply below_alloc | apply pw_below_drewN | apply below_drew1) | exact HB.out), by repeat (first | (with_reducible first | exact HK.out | apply Kept.alloc | apply Kept.drewN | apply Kept.drew) | exact HK.out)⟩
def api_Span_91.ok (x : S46) : Prop := 0 ≤ x.f0 ∧ x.f0 ≤ 1099511627776
instance api_Span_91.dec (x : S46) : Decidable (api_Span_91.ok x) := inferInstanceAs (Decidable (_ ∧ _))
abbrev api_Span_91.Sp := {x : S46 // api_Span_91.ok x}
instance api_Span_91.inh : Inhabited api_Span_91.Sp := ⟨⟨z46, by decide⟩⟩
def api_Span_91.enc (x : api_Span_91.Sp) : List Value := [.int .i64 x.1.f0, .int .i64 x.1.f1]
def api_Span_91.enc0 (x : S46) : List Value := [.int .i64 x.f0, .int .i64 x.f1]
def api_Span_91.kd : Kd api_Span_91.Sp := Kd.iso k46 (fun x => x.1)
theorem api_Span_91.flat0 : Flat k46 api_Span_91.enc0 := ⟨fun h => k46_open h, fun w base ok x => k46_mkM w base ok x, fun x u hu => by
    simp only [api_Span_91.enc0, List.mem_cons, List.not_mem_nil, or_false] at hu
    rcases hu with rfl | rfl <;> rfl, fun _ => rfl, by decide⟩
theorem api_Span_91.flat : Flat api_Span_91.kd api_Span_91.enc := ⟨fun {w x cs} h => k46_open (w := w) (x := x.1) h, fun w base ok x => k46_mkM w base ok x.1, fun x u hu => by
    simp only [api_Span_91.enc, List.mem_cons, List.not_mem_nil, or_false] at hu
    rcases hu with rfl | rfl <;> rfl, fun _ => rfl, by decide⟩
def api_Span_91.cf (x y : api_Span_91.Sp) : Int := x.1.f0 - y.1.f0
theorem api_Span_91.swo : Go.Sort.SWO (ltOf api_Span_91.cf) where
  irrefl x := by simp [ltOf, api_Span_91.cf]
  trans x y z h1 h2 := by
    have a : x.1.f0 - y.1.f0 < 0 := of_decide_eq_true h1
    have b : y.1.f0 - z.1.f0 < 0 := of_decide_eq_true h2
    exact decide_eq_true (show x.1.f0 - z.1.f0 < 0 by omega)
  ntrans x y z h1 h2 := by
    have a : ¬ x.1.f0 - y.1.f0 < 0 := of_decide_eq_false h1
    have b : ¬ y.1.f0 - z.1.f0 < 0 := of_decide_eq_false h2
    exact decide_eq_false (show ¬ x.1.f0 - z.1.f0 < 0 by omega)
theorem api_Span_91.flat_map (l : List api_Span_91.Sp) : (l.map (fun x => x.1)).flatMap api_Span_91.enc0 = l.flatMap api_Span_91.enc := by
  rw [List.flatMap_map]
  rfl
set_option maxHeartbeats 1000000 in
theorem api_Span_91.closure (x y : api_Span_91.Sp) (W : World) : Calls Tryd.prog 92 #[.agg #[.int .i64 x.1.f0, .int .i64 x.1.f1], .agg #[.int .i64 y.1.f0, .int .i64 y.1.f1]] W fun e w' => e = .returned (.int .i64 (api_Span_91.cf x y)) ∧ ∃ q os', w' = Go.Sort.grow (W.drewN q) os' := by
  unfold api_Span_91.cf
  have h1 := x.2.1
  have h2 := x.2.2
  have h3 := y.2.1
  have h4 := y.2.2
  generalize x.1.f0 = a at *
  generalize y.1.f0 = b at *
  generalize x.1.f1 = c at *
  generalize y.1.f1 = d at *
  clear x y
  go_enter Tryd.func92, Tryd.ntmps92
  go_wp2
  go_ret
  exact ⟨rfl, 0, _, by rw [Go.Sort.alloc_eq_grow, Go.Sort.alloc_eq_grow, Go.Sort.grow_grow]; rfl⟩
def api_Span_91.f (l0 : List S46) (a1 : Nat) : Option (List S46) := if h : a1 = 92 ∧ (∀ x ∈ l0, api_Span_91.ok x) ∧ l0.length < 4611686018427387904 then (some ((Go.Sort.pdq (ltOf api_Span_91.cf) (l0.attachWith api_Span_91.ok h.2.1).toArray 0 (l0.attachWith api_Span_91.ok h.2.1).toArray.size (Lib.bitLen (l0.attachWith api_Span_91.ok h.2.1).toArray.size) true true).toList.map (fun x => x.1))) else (none)
set_option maxHeartbeats 8000000 in
set_option maxRecDepth 100000 in
theorem api_Span_91.calls (P0_ : Nat → Prop) (u9000_ : Value) (l0 : List (S46)) (a1 : Nat) (r : List (S46)) (w0 w : World) (hB : Below w0.heap.size w0 w) (ho0 : Kd.R k46 46 w w0.heap.size P0_ u9000_ l0) (h : api_Span_91.f l0 a1 = some r) :
    Calls Tryd.prog 91 #[u9000_, .func (.func a1) #[] #[]] w fun e w' => e = .returned (.tuple #[]) ∧ Kd.R k46 46 w' w0.heap.size (fun k_ => (P0_ k_ ∨ w.heap.size ≤ k_)) u9000_ r ∧ Below w0.heap.size w0 w' ∧ Kept w w' (fun k_ => P0_ k_) := by
  unfold api_Span_91.f at h
  by_cases hc : a1 = 92 ∧ (∀ x ∈ l0, api_Span_91.ok x) ∧ l0.length < 4611686018427387904
  · rw [dif_pos hc] at h
    obtain rfl := Option.some.inj h
    clear h
    obtain ⟨rfl, hok, hlen⟩ := hc
    obtain ⟨L, hL⟩ : ∃ L : List api_Span_91.Sp, l0.attachWith api_Span_91.ok hok = L := ⟨_, rfl⟩
    have hl : l0 = L.map (fun x => x.1) := by rw [← hL]; simp
    rw [hL]
    clear hL
    subst hl
    clear hok
    have hP2 := Go.Sort.pdq_sorts (ltOf api_Span_91.cf) api_Span_91.swo L.toArray 0 L.toArray.size (Lib.bitLen L.toArray.size) true true (Nat.zero_le _) (Nat.le_refl _) (Or.inl rfl)
    obtain ⟨d', hd'⟩ : ∃ d', Go.Sort.pdq (ltOf api_Span_91.cf) L.toArray 0 L.toArray.size (Lib.bitLen L.toArray.size) true true = d' := ⟨_, rfl⟩
    rw [hd'] at hP2 ⊢
    have hsz : d'.size = L.length := by simpa using hP2.1.1
    obtain ⟨hP, ho⟩ := R_flat api_Span_91.flat0 ho0
    rw [List.length_map] at ho hlen
    rcases ho.2 with ⟨rfl, hz⟩ | ⟨g, cap, cur, rfl, hg, hb, hn, hcap, hs, ht⟩
    · obtain rfl := List.eq_nil_of_length_eq_zero hz
      have hd0 : d' = #[] := Array.eq_empty_of_size_eq_zero (by simpa using hsz)
      subst hd0
      refine (AnyF.slices_SortFunc_none { Tryd.sortf91 with } none 0 _ w).mono ?_
      rintro e w' ⟨rfl, rfl⟩
      exact ⟨rfl, Kd.R_nil _ _ _ _ _, hB, Kept.refl _ _⟩
    · have hH := holdsK_of_row (xs := L) api_Span_91.flat hb (by rw [← api_Span_91.flat_map]; exact ht)
      have hg1 : g < w.heap.size := (Array.getElem?_eq_some_iff.1 hb).1
      have hcall := AnyQ.slices_SortFunc_eq Tryd.sortf91 api_Span_91.kd.sz Tryd.isAgg46 Tryd.sizeOf46 api_Span_91.enc api_Span_91.flat.len api_Span_91.flat.one api_Span_91.cf api_Span_91.swo 92 #[] g 0 cap L.toArray w (enters_of Tryd.func92 (by kernel_rfl) rfl) (fun _ _ _ _ x y => api_Span_91.closure x y _) hH hg1 (by simpa using hlen)
      rw [hd'] at hcall
      refine hcall.mono ?_
      rintro e w' ⟨rfl, q, os, rfl⟩
      obtain ⟨o1, o2, o3⟩ := putK_out (n := q) (os := os) (ts := d'.toList) api_Span_91.flat hB (hP g rfl) hg hb (by rw [Array.length_toList, hsz]; exact hn) hcap hs
      rw [Array.length_toList, hsz] at o1
      obtain ⟨p1, p2⟩ := R_flat api_Span_91.flat o1
      refine ⟨rfl, R_of_flat api_Span_91.flat0 p1 ?_, o2, o3⟩
      rw [api_Span_91.flat_map, List.length_map]
      exact p2
  · rw [dif_neg hc] at h
    exact absurd h (by simp)
end Go.Proofs.YtolcpmdojlbhcaaDoor.Pc
