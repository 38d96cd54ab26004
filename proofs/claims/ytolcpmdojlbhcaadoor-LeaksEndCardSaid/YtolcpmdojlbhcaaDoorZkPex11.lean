/- Part of the proof that the law leaksEnd is true for every input. No conditions. Laid by a program of this session over the kit's print and words; declarations that nothing names are left out. -/
import Derived.Test.YtolcpmdojlbhcaaDoorZkPex0
import Derived.Test.YtolcpmdojlbhcaaDoorZkPex5
import Derived.Test.YtolcpmdojlbhcaaDoorZkPex6
import Derived.Test.YtolcpmdojlbhcaaDoorZkPex8
import Derived.Test.YtolcpmdojlbhcaaDoorZkPex10
namespace Go.Proofs.YtolcpmdojlbhcaaDoor.Pe
open Go.RowKit Go.Proofs.YtolcpmdojlbhcaaDoor.GBase Go.Proofs.YtolcpmdojlbhcaaDoorW.PrintWords Go.Proofs.YtolcpmdojlbhcaaDoorW.PrintLast Go.Proofs.YtolcpmdojlbhcaaDoorW.PrintMore
attribute [local go_sem] str_leq max2_int min2_int max_two min_two max_three min_three max_four min_four
set_option linter.unusedVariables false
set_option linter.unusedSimpArgs false
theorem privilege_Leaks.info : (Tryd.prog.info? 4).map (fun i => (i.zero, i.size, i.bytes)) = some (some (.bool false), 1, 1) := by kernel_rfl
def privilege_Leaks.markN : Nat → Int → List Bool → Option (List Bool)
  | 0, _, c => some c
  | n + 1, i, c => if 0 ≤ i ∧ i < (c.length : Int) then privilege_Leaks.markN n (i + 1) (c.set i.toNat true) else none
def privilege_Leaks.gather (k : Nat) (s : ByteArray) : List S46 → List Bool → List (List UInt8) → Option (List Bool × List (List UInt8))
  | [], c, S => some (c, S)
  | p :: r, c, S => (privilege_Leaks.markN (p.f1 - p.f0).toNat p.f0 c).bind fun c' => (if 0 ≤ p.f0 ∧ p.f0 ≤ p.f1 ∧ p.f1 ≤ (s.size : Int) then ((near_Words.f k (s.extract p.f0.toNat p.f1.toNat)).bind fun ws => (if S.length + ws.length < 4611686018427387904 ∧ (ws.all fun x => decide (x.size ≤ 9223372036854775807)) = true then (privilege_Leaks.gather k s r c' (S ++ ws.map (·.data.toList))) else none)) else none)
def privilege_Leaks.isL (c : Int) : Bool := (privilege_letter.f c).getD false
theorem privilege_Leaks.isL_is (c : Int) : privilege_letter.f c = some (privilege_Leaks.isL c) := by
  have : ∃ b, privilege_letter.f c = some b := by
    unfold privilege_letter.f base_Digit.f
    repeat' split
    all_goals first | exact ⟨_, rfl⟩ | skip
    all_goals (simp only [Option.bind_some]; repeat' split)
    all_goals first | exact ⟨_, rfl⟩ | skip
  obtain ⟨b, hb⟩ := this
  unfold privilege_Leaks.isL
  rw [hb]
  rfl
def privilege_Leaks.scan (k : Nat) (s : ByteArray) (c : List Bool) (S : List (List UInt8)) : Nat → Nat → Option Nat → List S46 → Option (List S46)
  | 0, _, _, out => some out
  | n + 1, i, fr, out => if i < s.size ∧ privilege_Leaks.isL (bt s (i : Int)) = true then privilege_Leaks.scan k s c S n (i + 1) (some (fr.getD i)) out
    else (match fr with
      | none => privilege_Leaks.scan k s c S n (i + 1) none out
      | some f => if 4 ≤ i - f then ((slices_Contains_bool_bool.f k ((c.take i).drop f) true).bind fun b => (if b = true then privilege_Leaks.scan k s c S n (i + 1) none out else (if decide ((lowA (s.extract f i)).data.toList ∈ S) = true then (if out.length < 8796093022208 then privilege_Leaks.scan k s c S n (i + 1) none (out ++ [⟨(f : Int), (i : Int)⟩]) else none) else privilege_Leaks.scan k s c S n (i + 1) none out))) else privilege_Leaks.scan k s c S n (i + 1) none out)
theorem privilege_Leaks.gather_mono (k : Nat) (s : ByteArray) : ∀ (l : List S46) (c : List Bool) (S : List (List UInt8)), LeO (privilege_Leaks.gather k s l c S) (privilege_Leaks.gather (k + 1) s l c S)
  | [], _, _ => LeO.refl _
  | p :: r, c, S => by
    unfold privilege_Leaks.gather
    refine LeO.bind (LeO.refl _) (fun c' => LeO.ite (LeO.bind (near_Words.mono _ _) (fun ws => LeO.ite (privilege_Leaks.gather_mono k s r _ _) (LeO.refl _))) (LeO.refl _))
theorem privilege_Leaks.scan_mono (k : Nat) (s : ByteArray) (c : List Bool) (S : List (List UInt8)) : ∀ (n i : Nat) (fr : Option Nat) (out : List S46), LeO (privilege_Leaks.scan k s c S n i fr out) (privilege_Leaks.scan (k + 1) s c S n i fr out)
  | 0, _, _, _ => LeO.refl _
  | n + 1, i, fr, out => by
    have ih := privilege_Leaks.scan_mono k s c S n
    unfold privilege_Leaks.scan
    refine LeO.ite (ih _ _ _) ?_
    cases fr with
    | none => exact ih _ _ _
    | some f => exact LeO.ite (LeO.bind (slices_Contains_bool_bool.mono _ _ _) (fun b => LeO.ite (ih _ _ _) (LeO.ite (LeO.ite (ih _ _ _) (LeO.refl _)) (ih _ _ _)))) (ih _ _ _)
theorem privilege_Leaks.step_m (f1 : Int) (n m : Nat) (h : (f1 - (n : Int)).toNat = m + 1) : (f1 - ((n + 1 : Nat) : Int)).toNat = m := by omega
theorem privilege_Leaks.wrap1 (n N : Nat) (h : n < N) (hN : N ≤ 140737488355328) : wrap64 ((n : Int) + 1) = ((n + 1 : Nat) : Int) := by unfold wrap64; omega
theorem privilege_Leaks.wrap2 (n N : Nat) (h : n < N) (hN : N ≤ 9223372036854775807) : wrap64 ((n : Int) + 1) = ((n + 1 : Nat) : Int) := (wr64 (by omega) (by omega)).trans (by omega)
theorem privilege_Leaks.meas2 (m N : Nat) (h : m < N) (hw : wrap64 ((m : Int) + 1) = ((m + 1 : Nat) : Int)) : N - (intOf (.int .i64 (wrap64 ((m : Int) + 1)))).toNat < N - (intOf (.int .i64 (m : Int))).toNat := by
  rw [hw]
  simp only [intOf, Int.toNat_natCast]
  omega
theorem privilege_Leaks.meas3 (m N : Nat) (h : m < N) : N - (intOf (.int .i64 ((m : Int) + 1))).toNat < N - (intOf (.int .i64 (m : Int))).toNat := by
  show N - ((m : Int) + 1).toNat < N - (m : Int).toNat
  omega
def privilege_Leaks.Inv (w wr : World) (mb : Nat) (v2 v3 : Value) (ps : List S46) (c : List Bool) (S : List (List UInt8)) : Prop :=
  Below w.heap.size w wr ∧ Kd.R Kd.bool 4 wr w.heap.size (fun k_ => k_ < mb) v2 c ∧ SetAt Tryd.prog 9 wr mb S ∧ Kd.R k46 46 wr w.heap.size (fun k_ => mb < k_) v3 ps ∧ w.heap.size ≤ mb
theorem privilege_Leaks.below_grown {B : Nat} {w wr w' : World} {b : Nat} (h : Below B w wr) (hg : wr.grownBy w' (some b)) (hb : B ≤ b) (hB : B ≤ wr.heap.size) : Below B w w' :=
  h.trans ⟨hg.os, hg.tape, hg.output, hg.size, fun i hi => hg.block i (by omega) (by simp; omega)⟩
theorem privilege_Leaks.Inv.below {w wr w' : World} {mb : Nat} {v2 v3 : Value} {ps : List S46} {c : List Bool} {S : List (List UInt8)} (h : privilege_Leaks.Inv w wr mb v2 v3 ps c S) (hb : Below wr.heap.size wr w') : privilege_Leaks.Inv w w' mb v2 v3 ps c S := by
  obtain ⟨h1, h2, h3, h4, h5⟩ := h
  exact ⟨below_step h1 hb, Kd.R_below h2 hb, h3.below hb, Kd.R_below h4 hb, h5⟩
theorem privilege_Leaks.Inv.put {w wr w' : World} {mb : Nat} {v2 v3 : Value} {ps : List S46} {c : List Bool} {S S' : List (List UInt8)} (h : privilege_Leaks.Inv w wr mb v2 v3 ps c S) (hs : SetAt Tryd.prog 9 w' mb S') (hg : wr.grownBy w' (some mb)) : privilege_Leaks.Inv w w' mb v2 v3 ps c S' := by
  obtain ⟨h1, h2, h3, h4, h5⟩ := h
  exact ⟨privilege_Leaks.below_grown h1 hg h5 h1.size, Kd.R_grown h2 hg (fun k hk e => by injection e with e; omega), hs, Kd.R_grown h4 hg (fun k hk e => by injection e with e; omega), h5⟩
theorem privilege_Leaks.Inv.mark {w wr : World} {mb g cap n : Nat} {v3 : Value} {ps : List S46} {c : List Bool} {S : List (List UInt8)} (h : privilege_Leaks.Inv w wr mb (.slice (some ⟨g, 0, none⟩) n cap) v3 ps c S) (hgb : w.heap.size ≤ g) (hgm : g < mb) (i : Int) : privilege_Leaks.Inv w (wr.setCell ⟨g, i.toNat, none⟩ (.bool true)) mb (.slice (some ⟨g, 0, none⟩) n cap) v3 ps (c.set i.toNat true) S := by
  obtain ⟨h1, h2, h3, h4, h5⟩ := h
  exact ⟨h1.setCell hgb _, Kd.R_putn h2 i true, h3.far (by simp; omega) _, Kd.R_far (p := ⟨g, i.toNat, none⟩) h4 (fun k hk => by simp; omega) _, h5⟩
theorem privilege_Leaks.in1 (i n N : Nat) (h : i + (n + 1) = N + 1) : i + 1 + n = N + 1 := by omega
theorem privilege_Leaks.low_size (s : ByteArray) : (lowA s).size = s.size := by
  show (s.data.map lowB).size = s.data.size
  exact Array.size_map
def privilege_Leaks.frI : Option Nat → Int
  | none => -1
  | some f => (f : Int)
theorem privilege_Leaks.wrap1' (n N : Nat) (h : n ≤ N) (hN : N ≤ 140737488355328) : wrap64 ((n : Int) + 1) = ((n + 1 : Nat) : Int) := (wr64 (by omega) (by omega)).trans (by omega)
theorem privilege_Leaks.wrap3 (f i N : Nat) (h : f < i) (h2 : i ≤ N) (hN : N ≤ 140737488355328) : wrap64 ((i : Int) - (f : Int)) = ((i - f : Nat) : Int) := (wr64 (by omega) (by omega)).trans (by omega)
theorem privilege_Leaks.meas4 (i n N : Nat) (h : i + (n + 1) = N + 1) (hw : wrap64 ((i : Int) + 1) = ((i + 1 : Nat) : Int)) : N + 1 - (intOf (.int .i64 (wrap64 ((i : Int) + 1)))).toNat < N + 1 - (intOf (.int .i64 (i : Int))).toNat := by
  rw [hw]
  show N + 1 - ((i + 1 : Nat) : Int).toNat < N + 1 - (i : Int).toNat
  omega
theorem privilege_Leaks.meas5 (i n N : Nat) (h : i + (n + 1) = N + 1) : N + 1 - (intOf (.int .i64 ((i : Int) + 1))).toNat < N + 1 - (intOf (.int .i64 (i : Int))).toNat := by
  show N + 1 - ((i : Int) + 1).toNat < N + 1 - (i : Int).toNat
  omega
theorem privilege_Leaks.fr_lt (fr : Option Nat) (i : Nat) (h : ∀ f, fr = some f → f < i) : ∀ f, some (fr.getD i) = some f → f < i + 1 := by
  intro f e
  obtain rfl := Option.some.inj e
  cases fr with
  | none => exact Nat.lt_succ_self i
  | some f => exact Nat.lt_succ_of_lt (h f rfl)
theorem privilege_Leaks.low_le (s : ByteArray) (f i : Nat) (h : s.size ≤ 140737488355328) : (lowA (s.extract f i)).size ≤ 9223372036854775807 := by
  have e : (lowA (s.extract f i)).size = (s.extract f i).size := privilege_Leaks.low_size _
  rw [e, ByteArray.size_extract]
  omega
theorem privilege_Leaks.zero (w : World) : (zeroValue 4).run Tryd.prog w = .ok (.bool false) w := Tryd.zeroValue4 w
theorem privilege_Leaks.Inv.more {w wr w' : World} {mb : Nat} {v2 v3 v4 : Value} {ps qs : List S46} {c : List Bool} {S : List (List UInt8)} (h : privilege_Leaks.Inv w wr mb v2 v3 ps c S) (ho : Kd.R k46 46 w' w.heap.size (fun k_ => mb < k_) v4 qs) (hb : Below w.heap.size w w') (hg : wr.grownBy w' v3.ownBlock) : privilege_Leaks.Inv w w' mb v2 v4 qs c S := by
  obtain ⟨h1, h2, h3, h4, h5⟩ := h
  refine ⟨hb, Kd.R_grown h2 hg (fun k hk e => ?_), h3.kept hg (fun e => ?_), ho, h5⟩
  · have := h4.1 k e.symm
    omega
  · have := h4.1 mb e.symm
    omega
def privilege_Leaks.f (k : Nat) (a0 : ByteArray) (l1 : List S46) : Option (List S46 × Int) := if a0.size ≤ 140737488355328 then ((privilege_textError.f k a0 l1).bind fun t1 => (if t1 = 0 then ((privilege_points.f k a0 l1).bind fun t2 => ((privilege_Leaks.gather k a0 t2 (List.replicate a0.size false) []).bind fun t3 => ((privilege_Leaks.scan k a0 t3.1 t3.2 (a0.size + 1) 0 none []).bind fun t4 => (privilege_few.f t4)))) else (some (([] : List S46), t1)))) else (none)
theorem privilege_Leaks.mono : ∀ a0 a1 k, LeO (privilege_Leaks.f k a0 a1) (privilege_Leaks.f (k + 1) a0 a1) := by
  intro a0 a1 k
  unfold privilege_Leaks.f
  repeat' first
      | exact privilege_Leaks.gather_mono _ _ _ _ _
      | exact privilege_Leaks.scan_mono _ _ _ _ _ _ _ _
      | (with_reducible exact privilege_points.mono _ _ _)
      | (with_reducible exact privilege_textError.mono _ _ _)
      | (with_reducible exact LeO.refl _)
      | (with_reducible exact LeO.none _)
      | (with_reducible refine LeO.ite ?_ ?_)
      | (with_reducible refine LeO.bind ?_ (fun _ => ?_))
      | exact privilege_points.mono _ _ _
      | exact privilege_textError.mono _ _ _
      | exact LeO.none _
      | refine LeO.ite ?_ ?_
      | refine LeO.bind ?_ (fun _ => ?_)
set_option maxHeartbeats 8000000 in
set_option maxRecDepth 100000 in
theorem privilege_Leaks.calls (k : Nat) (a0 : ByteArray) (A1 : Option Addr) (c1 : Nat) (l1 : List (S46)) (r1 : List (S46)) (r2 : Int) (w : World) (hr1 : Kd.C k46 w A1 l1.length l1) (hc1 : l1.length ≤ c1) (hGl : Wd w) (h : privilege_Leaks.f k a0 l1 = some (r1, r2)) :
    Calls Tryd.prog 26 #[.string a0, .slice A1 l1.length c1] w fun e w' => ∃ v0_ : Value, e = .returned (.tuple #[v0_, .int .i64 r2]) ∧ Kd.R k46 46 w' w.heap.size (fun _ => True) v0_ r1 ∧ Below w.heap.size w w' := by
  unfold privilege_Leaks.f at h
  have hz : a0.size ≤ 140737488355328 := by
    rcases Nat.lt_or_ge 140737488355328 a0.size with hz | hz
    · rw [if_neg (by omega)] at h
      exact absurd h (by simp)
    · exact hz
  rw [if_pos hz] at h
  cases h1 : privilege_textError.f k a0 l1 with
  | none => rw [h1] at h; exact absurd h (by simp)
  | some t1 =>
  rw [h1, Option.bind_some] at h
  have HT := Aside0.mk (privilege_textError.calls k a0 A1 c1 l1 t1 w hr1 hc1 hGl h1)
  clear h1 hGl
  by_cases ht : t1 = 0
  · subst ht
    rw [if_pos rfl] at h
    cases h2 : privilege_points.f k a0 l1 with
    | none => rw [h2] at h; exact absurd h (by simp)
    | some ps =>
    rw [h2, Option.bind_some] at h
    cases h3 : privilege_Leaks.gather k a0 ps (List.replicate a0.size false) [] with
    | none => rw [h3] at h; exact absurd h (by simp)
    | some gs =>
    obtain ⟨cs, S⟩ := gs
    rw [h3, Option.bind_some] at h
    cases h4 : privilege_Leaks.scan k a0 cs S (a0.size + 1) 0 none [] with
    | none => rw [h4] at h; exact absurd h (by simp)
    | some out =>
    rw [h4, Option.bind_some] at h
    have H4 := Aside0.mk h4
    have H3 := Aside0.mk h3
    have HF := Aside0.mk h
    have HP : Aside0 (∀ w', Below w.heap.size w w' → Calls Tryd.prog 54 #[.string a0, .slice A1 l1.length c1] w' fun e w'' => ∃ v0_ : Value, e = .returned (v0_) ∧ Kd.R k46 46 w'' w'.heap.size (fun _ => True) v0_ ps ∧ Below w'.heap.size w' w'') := Aside0.mk fun w' hb => privilege_points.calls k a0 A1 c1 l1 ps w' (Kd.C_below hr1 hb) hc1 h2
    have HZ := Aside0.mk hz
    clear h h2 h3 h4 hr1 hc1
    have hn1 : (0 : Int) ≤ (a0.size : Int) := by omega
    have hmm := @run_makeMap Tryd.prog
    go_enter Tryd.func26, Tryd.ntmps26
    go_wp2_with (first
      | (go_at_call 53; refine HT.out.mono ?_; rintro e w1 ⟨rfl, hb1⟩)
      | ((with_reducible refine gate_dst (N := 26) rfl ?_); refine Kd.R_make Kd.bool _ 4 rfl (N := 26) rfl 81 _ _ rfl (a0.size : Int) rfl rfl Tryd.underlying81 (.bool false) 1 privilege_Leaks.info rfl (by decide) (by omega) false (ok := fun _ => True) (okp := fun _ => True) rfl (fun _ hk => hk) trivial hn1 (by have := HZ.out; omega) (Below.refl _ _) (Nat.le_refl _) ?_; intro v2 w2 ho2 hb2 hg2 hnew2; have HB1 := Aside0.mk hb1; have HB2 := Aside0.mk hb2; have HO2 := Aside0.mk ho2; have HN2 := Aside0.mk hnew2; clear hb1 hb2 ho2 hg2 hnew2)
      | (go_at_call 54; refine (HP.out _ ((below_step HB1.out HB2.out).alloc (below_step HB1.out HB2.out).size _)).mono ?_; rintro e w3 ⟨v3, rfl, hR3, hb3⟩; obtain ⟨A3, c3, rfl, hlc3, hC3⟩ := Kd.R_reads hR3))
    have HI : Aside0 (privilege_Leaks.Inv w w3 w2.heap.size v2 (.slice A3 ps.length c3) ps (List.replicate a0.size false) []) := ⟨by
      have hb2 := below_step HB1.out HB2.out
      have hbm := hb2.alloc hb2.size (.map #[] 0)
      have h2 := HO2.out
      simp only [Int.toNat_natCast] at h2
      refine ⟨below_step hbm hb3, ?_, (SetAt.made _ _ w2).below hb3, ?_, hb2.size⟩
      · exact Kd.R_below (Kd.R_alloc (Kd.R_lower (Kd.R_mono (Kd.R_bound h2) (fun k_ hk => hk.2.2.1)) HB1.out.size) _) hb3
      · refine Kd.R_lower (Kd.R_mono (Kd.R_bound hR3) (fun k_ hk => ?_)) hbm.size
        have h3 := hk.2.1
        rw [World.size_alloc] at h3
        omega⟩
    have HL : Aside0 ((List.replicate a0.size false).length = a0.size) := ⟨List.length_replicate⟩
    clear HP HB1 HB2 HO2 HN2 hR3 hb3 hC3 hlc3 hmm
    generalize w2.heap.size = mb at *
    clear w2
    have hmaxp : ps.length ≤ 9223372036854775807 := Kd.C_max (Kd.R_reads' HI.out.2.2.2.1).2.2
    go_loopw [32] (fun i wr => ∃ (j : Nat) (c : List Bool) (S1 : List (List UInt8)), i = .int .i64 j ∧ Aside0 (j ≤ ps.length) ∧ Aside0 (c.length = a0.size) ∧ Aside0 (privilege_Leaks.gather k a0 (ps.drop j) c S1 = some (cs, S)) ∧ Aside0 (privilege_Leaks.Inv w wr mb v2 (.slice A3 ps.length c3) ps c S1)) (fun i _ => ps.length - (intOf i).toNat)
    case atStart => exact ⟨0, _, [], rfl, ⟨Nat.zero_le _⟩, HL, H3, HI⟩
    case round =>
      obtain ⟨j, c, S1, rfl, HJ, HLc, HG, HIw⟩ := hrel
      clear HI HL H3
      by_cases hlt : j < ps.length
      · obtain ⟨ad, eA, hx0, hx1⟩ := at_T46 (Kd.R_reads' HIw.out.2.2.2.1).2.2 (j : Int) (by omega) (by omega)
        cases eA
        simp only [Int.toNat_natCast] at hx0 hx1
        have hd : ps.drop j = rd_T46 ps j :: ps.drop (j + 1) := by
          rw [List.drop_eq_getElem_cons hlt]
          simp [rd_T46, List.getD_eq_getElem?_getD, List.getElem?_eq_getElem hlt]
        have h4 := HG.out
        rw [hd] at h4
        simp only [privilege_Leaks.gather] at h4
        generalize (rd_T46 ps j).f0 = f0 at *
        generalize (rd_T46 ps j).f1 = f1 at *
        cases h5 : privilege_Leaks.markN (f1 - f0).toNat f0 c with
        | none => rw [h5] at h4; exact absurd h4 (by simp)
        | some c2 =>
        rw [h5, Option.bind_some] at h4
        have H4g := Aside0.mk h4
        have H5 := Aside0.mk h5
        clear h4 h5 hd HG HJ
        go_wp2
        have HS0 : Aside0 ((wr.alloc (.cells #[.int .i64 f0, .int .i64 f1] 46)).heap[wr.heap.size]? = some (.cells #[.int .i64 f0, .int .i64 f1] 46 (0, 0))) := ⟨blk_new _ _⟩
        have HI0 := Aside0.mk (HIw.out.below ((Below.refl _ _).alloc (Nat.le_refl _) (.cells #[.int .i64 f0, .int .i64 f1] 46)))
        have HQ : Aside0 (mb < wr.heap.size) := ⟨HIw.out.2.2.1.lt⟩
        clear hx0 hx1 HIw
        generalize wr.heap.size = q at *
        generalize wr.alloc (.cells #[.int .i64 f0, .int .i64 f1] 46) = wa at *
        go_loopw [11] (fun i wq => ∃ (m : Nat) (x : Int) (c1 : List Bool), i = .int .i64 x ∧ Aside0 (privilege_Leaks.markN m x c1 = some c2) ∧ Aside0 ((f1 - x).toNat = m) ∧ Aside0 (c1.length = a0.size) ∧ Aside0 (privilege_Leaks.Inv w wq mb v2 (.slice (some ad) ps.length c3) ps c1 S1) ∧ Aside0 (wq.heap[q]? = some (.cells #[.int .i64 f0, .int .i64 f1] 46 (0, 0)))) (fun i _ => (f1 - intOf i).toNat)
        case atStart => exact ⟨_, f0, c, rfl, H5, ⟨rfl⟩, HLc, HI0, HS0⟩
        case round =>
          obtain ⟨m, x, cq, rfl, HN, HM, HLq, HIq, HSq⟩ := hrel
          have hcz0 := (blk_cell HSq.out 0).trans rfl
          have hcz1 := (blk_cell HSq.out 1).trans rfl
          by_cases hx : x < f1
          · have hxd : decide (x < f1) = true := decide_eq_true hx
            obtain ⟨m, rfl⟩ : ∃ m', m = m' + 1 := ⟨m - 1, by have := HM.out; omega⟩
            have h6 := HN.out
            simp only [privilege_Leaks.markN] at h6
            by_cases hin : 0 ≤ x ∧ x < (cq.length : Int)
            · rw [if_pos hin] at h6
              obtain ⟨g, cp, rfl, hgb, hgl, hcells⟩ := Kd.R_form HIq.out.2.1 (by omega)
              have hgm := HIq.out.2.1.1 g (by simp [Value.ownBlock])
              have hgm2 : g < mb := hgm
              obtain ⟨n, rfl⟩ := Int.eq_ofNat_of_zero_le hin.1
              obtain ⟨hcx, hfx⟩ := Kd.R_celln false HIq.out.2.1 (n : Int) hin.1 hin.2
              have HIn := Aside0.mk (HIq.out.mark hgb hgm2 (n : Int))
              rw [Int.toNat_natCast] at h6 hcx hfx HIn
              have hn : n < cq.length := by omega
              have hnz : (n : Int) < (cq.length : Int) := by omega
              have hna : n < a0.size := by have := HLq.out; omega
              have hw : wrap64 ((n : Int) + 1) = ((n + 1 : Nat) : Int) := privilege_Leaks.wrap1 n _ hna HZ.out
              have H6 : Aside0 (privilege_Leaks.markN m ((n + 1 : Nat) : Int) (cq.set n true) = some c2) := ⟨by
                rw [show ((n + 1 : Nat) : Int) = (n : Int) + 1 by omega]
                exact h6⟩
              have HMS : Aside0 ((f1 - ((n + 1 : Nat) : Int)).toNat = m) := ⟨privilege_Leaks.step_m f1 n m HM.out⟩
              have HX := Aside0.mk hx
              have HSn := Aside0.mk (blk_far (p := ⟨g, n, none⟩) HSq.out (by have := HQ.out; show q ≠ g; omega) (.bool true))
              have HLn : Aside0 ((cq.set n true).length = a0.size) := ⟨by rw [List.length_set]; exact HLq.out⟩
              clear h6 hin hx HN HM hcells hgm HIq HSq
              go_wp2
              go_roundw
              case rel => exact ⟨m, _, cq.set n true, by go_num, H6, HMS, HLn, HIn, HSn⟩
              case measure => have := HX.out; simp [intOf]; omega
            · rw [if_neg hin] at h6
              exact absurd h6 (by simp)
          · have hxd : decide (x < f1) = false := decide_eq_false hx
            have h6 := HN.out
            have hm0 : m = 0 := by have := HM.out; omega
            subst hm0
            simp only [privilege_Leaks.markN] at h6
            obtain rfl := Option.some.inj h6
            have h7 := H4g.out
            by_cases hs : 0 ≤ f0 ∧ f0 ≤ f1 ∧ f1 ≤ (a0.size : Int)
            · rw [if_pos hs] at h7
              obtain ⟨hs1, hs2, hs3⟩ := hs
              cases h8 : near_Words.f k (a0.extract f0.toNat f1.toNat) with
              | none => rw [h8] at h7; exact absurd h7 (by simp)
              | some ws =>
              rw [h8, Option.bind_some] at h7
              have HWC : Aside0 (∀ W : World, Calls Tryd.prog 43 #[.string (a0.extract f0.toNat f1.toNat)] W fun e w' => ∃ v0_ : Value, e = .returned (v0_) ∧ Kd.R Kd.string 9 w' W.heap.size (fun _ => True) v0_ ws ∧ Below W.heap.size W w') := ⟨fun W => near_Words.calls k _ ws W h8⟩
              by_cases hb7 : S1.length + ws.length < 4611686018427387904 ∧ (ws.all fun x => decide (x.size ≤ 9223372036854775807)) = true
              · rw [if_pos hb7] at h7
                have H7 := Aside0.mk h7
                have HSZ : Aside0 (S1.length + ws.length < 4611686018427387904 ∧ ∀ x ∈ ws, x.size ≤ 9223372036854775807) := ⟨hb7.1, fun x hx => of_decide_eq_true (List.all_eq_true.1 hb7.2 x hx)⟩
                have hs1t := eq_true hs1
                have hs2t := eq_true hs2
                have hs3t := eq_true hs3
                clear h6 h7 h8 hb7 HN HM hx HS0 HI0 H5 H4g
                go_wp2_with (go_at_call 43; refine (HWC.out _).mono ?_; rintro e w4 ⟨v4, rfl, hR4, hb4⟩; obtain ⟨A4, c4, rfl, hlc4, hC4⟩ := Kd.R_reads hR4)
                have HI4 : Aside0 (privilege_Leaks.Inv w w4 mb v2 (.slice (some ad) ps.length c3) ps cq (S1 ++ (ws.take 0).map (·.data.toList))) := ⟨by
                  rw [List.take_zero, List.map_nil, List.append_nil]
                  exact HIq.out.below hb4⟩
                have HR4 : Aside0 (Kd.R Kd.string 9 w4 w.heap.size (fun k_ => mb < k_) (.slice A4 ws.length c4) ws) := ⟨Kd.R_lower (Kd.R_mono (Kd.R_bound hR4) (fun k_ hk => Nat.lt_of_lt_of_le HIq.out.2.2.1.lt hk.2.1)) HIq.out.1.size⟩
                have hmaxw : ws.length ≤ 9223372036854775807 := Kd.C_max hC4
                have HMW := Aside0.mk hmaxw
                clear hR4 hb4 hC4 hlc4 HIq HSq HWC hmaxw
                go_loopw [55] (fun i wq => ∃ (m : Nat), i = .int .i64 m ∧ Aside0 (m ≤ ws.length) ∧ Aside0 (privilege_Leaks.Inv w wq mb v2 (.slice (some ad) ps.length c3) ps cq (S1 ++ (ws.take m).map (·.data.toList))) ∧ Aside0 (Kd.R Kd.string 9 wq w.heap.size (fun k_ => mb < k_) (.slice A4 ws.length c4) ws)) (fun i _ => ws.length - (intOf i).toNat)
                case atStart => exact ⟨0, rfl, ⟨Nat.zero_le _⟩, HI4, HR4⟩
                case round =>
                  obtain ⟨m, rfl, HMm, HI5, HR5⟩ := hrel
                  clear HI4 HR4
                  by_cases hlw : m < ws.length
                  · obtain ⟨b, o, rfl, hbk, hcell⟩ := C_cells (Kd.R_reads' HR5.out).2.2 (Nat.lt_of_le_of_lt (Nat.zero_le _) hlw)
                    have hx5 := hcell m ws[m] (List.getElem?_eq_getElem hlw)
                    have hsz := HSZ.out.2 ws[m] (List.getElem_mem hlw)
                    have hlen : (S1 ++ (ws.take m).map (·.data.toList)).length < 9223372036854775807 := by
                      have := HSZ.out.1
                      rw [List.length_append, List.length_map, List.length_take]
                      omega
                    have etk : S1 ++ (ws.take (m + 1)).map (·.data.toList) = (S1 ++ (ws.take m).map (·.data.toList)) ++ [ws[m].data.toList] := by
                      rw [List.take_add_one, List.getElem?_eq_getElem hlw, List.map_append, ← List.append_assoc]
                      rfl
                    obtain ⟨W2, hrun, hset, hgr⟩ := SetAt.put HI5.out.2.2.1 Tryd.underlying82 Tryd.underlying9 ws[m] hsz hlen
                    rw [← etk] at hset
                    have HI6 := Aside0.mk (HI5.out.put hset hgr)
                    have HR6 := Aside0.mk (Kd.R_grown HR5.out hgr (fun k_ hk e => by injection e with e; omega))
                    have hlz : (m : Int) < (ws.length : Int) := by omega
                    have hwm : wrap64 ((m : Int) + 1) = ((m + 1 : Nat) : Int) := privilege_Leaks.wrap2 m _ hlw HMW.out
                    clear hcell hsz hlen etk hset hgr HI5 HR5 HMm
                    generalize ws[m] = x5 at *
                    go_wp2
                    go_roundw
                    case rel => exact ⟨m + 1, by go_num, ⟨by omega⟩, HI6, HR6⟩
                    case measure => first | exact privilege_Leaks.meas2 m _ hlw hwm | exact privilege_Leaks.meas3 m _ hlw
                  · obtain rfl : m = ws.length := by have := HMm.out; omega
                    have HI7 := HI5
                    rw [List.take_length] at HI7
                    have hlz : ¬ (ws.length : Int) < (ws.length : Int) := by omega
                    have hwj : wrap64 ((j : Int) + 1) = ((j + 1 : Nat) : Int) := privilege_Leaks.wrap2 j _ hlt hmaxp
                    go_wp2
                    go_roundw
                    case rel => exact ⟨j + 1, _, _, by go_num, ⟨by omega⟩, HLq, H7, HI7⟩
                    case measure => first | exact privilege_Leaks.meas3 j _ hlt | exact privilege_Leaks.meas2 j _ hlt hwj
              · rw [if_neg hb7] at h7
                exact absurd h7 (by simp)
            · rw [if_neg hs] at h7
              exact absurd h7 (by simp)
      · obtain rfl : j = ps.length := by have := HJ.out; omega
        have h4 := HG.out
        rw [List.drop_eq_nil_of_le (Nat.le_refl _)] at h4
        simp only [privilege_Leaks.gather, Option.some.injEq, Prod.mk.injEq] at h4
        obtain ⟨rfl, rfl⟩ := h4
        obtain ⟨Ao, co, rfl⟩ := Kd.R_slice HIw.out.2.1
        have hroom : c.length ≤ co := (Kd.R_reads' HIw.out.2.1).2.1
        have HK := Aside0.mk (⟨HLc.out, hroom⟩ : c.length = a0.size ∧ c.length ≤ co)
        have HJ0 : Aside0 (privilege_Leaks.Inv w wr mb (.slice Ao c.length co) (.slice none 0 0) [] c S1) := ⟨⟨HIw.out.1, HIw.out.2.1, HIw.out.2.2.1, ⟨fun k_ hk => by simp [Value.ownBlock] at hk, OwnRow.none_ _ _ _ _ _⟩, HIw.out.2.2.2.2⟩⟩
        clear HG HJ HIw hlt hroom HLc
        go_wp2
        have hz1 : a0.size ≤ 140737488355328 := HZ.out
        go_loopw [14, 15, 16] (fun v14 v15 v16 w_ => ∃ (vo : Value) (n i : Nat) (fr : Option Nat) (o1 : List S46), vo = v14 ∧ v16 = .int .i64 i ∧ v15 = .int .i64 (privilege_Leaks.frI fr) ∧ i + n = a0.size + 1 ∧ Aside0 (∀ f, fr = some f → f < i) ∧ Aside0 (privilege_Leaks.scan k a0 c S1 n i fr o1 = some out) ∧ Aside0 (privilege_Leaks.Inv w w_ mb (.slice Ao c.length co) vo o1 c S1)) (fun _ _ v16 _ => a0.size + 1 - (intOf v16).toNat)
        case atStart => exact ⟨_, a0.size + 1, 0, none, [], rfl, rfl, rfl, by omega, ⟨fun f e => by cases e⟩, H4, HJ0⟩
        case round =>
          obtain ⟨vo, n, i, fr, o1, rfl, rfl, rfl, hin, HFr, HSc, HIw⟩ := hrel
          clear HJ0 H4
          have h7 := HSc.out
          cases n with
          | zero =>
            simp only [privilege_Leaks.scan, Option.some.injEq] at h7
            subst h7
            have hile : ((i : Int) ≤ (a0.size : Int)) = False := eq_false (by omega)
            clear HSc HFr
            go_wp2_with (go_at_call 56; refine (privilege_few.calls (fun k_ => mb < k_) vo o1 r1 r2 w _ HIw.out.1 HIw.out.2.2.2.1 HF.out).mono ?_; rintro e w5 ⟨v5, rfl, hR5, hb5, _⟩)
            go_ret2
            exact ⟨_, rfl, Kd.R_mono hR5 (fun _ _ => trivial), hb5⟩
          | succ n =>
            have hile : ((i : Int) ≤ (a0.size : Int)) = True := eq_true (by omega)
            have hiN : i ≤ a0.size := by omega
            have hin2 := privilege_Leaks.in1 i n _ hin
            simp only [privilege_Leaks.scan] at h7
            by_cases hlt : i < a0.size
            · have p1 : (0 ≤ (i : Int)) = True := eq_true (by omega)
              have q1 : ((i : Int) < (a0.size : Int)) = True := eq_true (by omega)
              obtain ⟨xb, hxb⟩ : ∃ x : UInt8, a0[i]'hlt = x := ⟨_, rfl⟩
              have hbt : bt a0 (i : Int) = (xb.toNat : Int) := by rw [← hxb]; exact (bt_at a0 (i : Int) hlt).symm
              rw [hbt] at h7
              clear hbt
              cases hL : privilege_Leaks.isL (xb.toNat : Int) with
              | true =>
                rw [if_pos ⟨hlt, hL⟩] at h7
                have H7 := Aside0.mk h7
                have HF2 : Aside0 (∀ f, some (fr.getD i) = some f → f < i + 1) := ⟨privilege_Leaks.fr_lt fr i HFr.out⟩
                have HLE := Aside0.mk (privilege_Leaks.isL_is (xb.toNat : Int))
                rw [hL] at HLE
                clear h7 HSc hL
                cases fr with
                | none =>
                  simp only [privilege_Leaks.frI]
                  have hwi : wrap64 ((i : Int) + 1) = ((i + 1 : Nat) : Int) := privilege_Leaks.wrap1' i _ hiN HZ.out
                  go_wp2_with (go_at_call 60; refine (privilege_letter.calls _ _ _ HLE.out).mono ?_; rintro e w' ⟨rfl, ⟨nd_, rfl⟩⟩)
                  go_roundw
                  case rel => exact ⟨vo, n, i + 1, some i, o1, rfl, by go_num, rfl, hin2, HF2, H7, ⟨HIw.out.below (by repeat (first | exact Below.refl _ _ | apply pw_below_drewN | apply below_drew1))⟩⟩
                  case measure => first | exact privilege_Leaks.meas5 i n _ hin | exact privilege_Leaks.meas4 i n _ hin hwi
                | some f =>
                  have hf0 : ((f : Int) < 0) = False := eq_false (by omega)
                  have hf1 : (0 ≤ (f : Int)) = True := eq_true (by omega)
                  simp only [privilege_Leaks.frI]
                  have hwi : wrap64 ((i : Int) + 1) = ((i + 1 : Nat) : Int) := privilege_Leaks.wrap1' i _ hiN HZ.out
                  go_wp2_with (go_at_call 60; refine (privilege_letter.calls _ _ _ HLE.out).mono ?_; rintro e w' ⟨rfl, ⟨nd_, rfl⟩⟩)
                  go_roundw
                  case rel => exact ⟨vo, n, i + 1, some f, o1, rfl, by go_num, rfl, hin2, HF2, H7, ⟨HIw.out.below (by repeat (first | exact Below.refl _ _ | apply pw_below_drewN | apply below_drew1))⟩⟩
                  case measure => first | exact privilege_Leaks.meas5 i n _ hin | exact privilege_Leaks.meas4 i n _ hin hwi
              | false =>
                rw [if_neg (by rintro ⟨_, h_⟩; rw [hL] at h_; exact absurd h_ (by decide))] at h7
                have HLE := Aside0.mk (privilege_Leaks.isL_is (xb.toNat : Int))
                rw [hL] at HLE
                clear hL
                cases fr with
                | none =>
                  have H7 := Aside0.mk h7
                  clear h7 HSc HFr
                  have hwi : wrap64 ((i : Int) + 1) = ((i + 1 : Nat) : Int) := privilege_Leaks.wrap1' i _ hiN HZ.out
                  go_wp2_with (first | (go_at_call 60; refine (privilege_letter.calls _ _ _ HLE.out).mono ?_; rintro e w' ⟨rfl, ⟨nd_, rfl⟩⟩) | fail)
                  go_roundw
                  case rel => exact ⟨vo, n, i + 1, none, o1, rfl, by go_num, rfl, hin2, ⟨fun f e => by cases e⟩, H7, ⟨HIw.out.below (by repeat (first | exact Below.refl _ _ | apply pw_below_drewN | apply below_drew1))⟩⟩
                  case measure => first | exact privilege_Leaks.meas5 i n _ hin | exact privilege_Leaks.meas4 i n _ hin hwi
                | some f =>
                  have hfi := HFr.out f rfl
                  have hf0 : ((f : Int) < 0) = False := eq_false (by omega)
                  have hf1 : (0 ≤ (f : Int)) = True := eq_true (by omega)
                  simp only [privilege_Leaks.frI]
                  simp only [] at h7
                  by_cases h4 : 4 ≤ i - f
                  · rw [if_pos h4] at h7
                    have h4t : ((4 : Int) ≤ ((i - f : Nat) : Int)) = True := eq_true (by omega)
                    cases hcn : slices_Contains_bool_bool.f k ((c.take i).drop f) true with
                    | none => rw [hcn] at h7; exact absurd h7 (by simp)
                    | some b =>
                    rw [hcn, Option.bind_some] at h7
                    obtain ⟨i04, hi04, _, hsz04, _⟩ := info_parts privilege_Leaks.info
                    have hic : i ≤ c.length := by have := HK.out.1; omega
                    have hcut := cut_mid (P := Tryd.prog) 81 4 .i64 .i64 Tryd.underlying81 hi04 1 hsz04 Ao c.length co (f : Int) (i : Int) (by omega) (by omega) (by omega) HK.out.2
                    have HCC : Aside0 (∀ W : World, Below wr.heap.size wr W → Kd.C Kd.bool W (if co = f then Ao else Ao.map (·.add (f * 1))) ((c.take i).drop f).length ((c.take i).drop f)) := ⟨fun W hb => Kd.C_mid (lo := f) (hi := i) (c := co) (Kd.R_reads' (HIw.out.below hb).2.1).2.2 (by omega) hic HK.out.2⟩
                    have hly : ((c.take i).drop f).length = i - f := by rw [List.length_drop, List.length_take]; omega
                    simp only [Int.toNat_natCast, ← hly] at hcut
                    generalize (if co = f then Ao else Ao.map (·.add (f * 1))) = A5 at *
                    generalize hcy : (c.take i).drop f = cy at *
                    have hcc5 : cy.length ≤ co - f := by have := HK.out.2; omega
                    have HCT : Aside0 (∀ W : World, Below wr.heap.size wr W → Calls Tryd.prog 62 #[.slice A5 cy.length (co - f), .bool true] W fun e w' => e = .returned (.bool b) ∧ Drawn0 W w') := ⟨fun W hb => slices_Contains_bool_bool.calls k A5 (co - f) cy true b W (HCC.out W hb) hcc5 hcn⟩
                    rw [hly] at hcut HCT
                    clear hi04 hsz04 HCC hly hcy hcc5 hcn hic
                    have hff : ((f : Int) ≤ (i : Int)) = True := eq_true (by omega)
                    have hfs : ((i : Int) ≤ (a0.size : Int)) = True := eq_true (by omega)
                    cases b with
                    | true =>
                      rw [if_pos rfl] at h7
                      have H7 := Aside0.mk h7
                      clear h7 HSc HFr
                      have hwi : wrap64 ((i : Int) + 1) = ((i + 1 : Nat) : Int) := privilege_Leaks.wrap1' i _ hiN HZ.out
                      have hsub : wrap64 ((i : Int) - (f : Int)) = ((i - f : Nat) : Int) := privilege_Leaks.wrap3 f i _ hfi hiN HZ.out
                      go_wp2_with (first | (go_at_call 60; refine (privilege_letter.calls _ _ _ HLE.out).mono ?_; rintro e w' ⟨rfl, ⟨nd_, rfl⟩⟩) | (go_at_call 62; refine (HCT.out _ (by repeat (first | exact Below.refl _ _ | apply pw_below_drewN | apply below_drew1))).mono ?_; rintro e w5 ⟨rfl, ⟨nd2_, rfl⟩⟩))
                      go_roundw
                      case rel => exact ⟨vo, n, i + 1, none, o1, rfl, by go_num, rfl, hin2, ⟨fun f e => by cases e⟩, H7, ⟨HIw.out.below (by repeat (first | exact Below.refl _ _ | apply pw_below_drewN | apply below_drew1))⟩⟩
                      case measure => first | exact privilege_Leaks.meas5 i n _ hin | exact privilege_Leaks.meas4 i n _ hin hwi
                    | false =>
                      rw [if_neg (by decide)] at h7
                      have hlw : base_Lower.f (a0.extract f i) = some (lowA (a0.extract f i)) := by
                        unfold base_Lower.f
                        rw [if_pos (by have := HZ.out; rw [ByteArray.size_extract]; omega)]
                      have hls : (lowA (a0.extract f i)).size ≤ 9223372036854775807 := privilege_Leaks.low_le a0 f i HZ.out
                      have HLW : Aside0 (∀ W : World, Calls Tryd.prog 63 #[.string (a0.extract f i)] W fun e w' => e = .returned (.string (lowA (a0.extract f i))) ∧ Below W.heap.size W w') := ⟨fun W => base_Lower.calls _ _ W hlw⟩
                      have HLS : Aside0 (∀ W : World, Below wr.heap.size wr W → (Instr.lookup 82 (.map (some mb)) (.string (lowA (a0.extract f i))) false).run Tryd.prog W = .ok (.bool (decide ((lowA (a0.extract f i)).data.toList ∈ S1))) W) := ⟨fun W hb => SetAt.look (HIw.out.below hb).2.2.1 Tryd.underlying82 Tryd.underlying9 (privilege_Leaks.zero W) _ hls⟩
                      clear hlw hls
                      generalize lowA (a0.extract f i) = x7 at *
                      cases hd : decide (x7.data.toList ∈ S1) with
                      | true =>
                        rw [hd] at h7 HLS
                        rw [if_pos rfl] at h7
                        by_cases ho : o1.length < 8796093022208
                        · rw [if_pos ho] at h7
                          have H7 := Aside0.mk h7
                          have HO := Aside0.mk ho
                          clear h7 HSc HFr hd ho
                          have hwi : wrap64 ((i : Int) + 1) = ((i + 1 : Nat) : Int) := privilege_Leaks.wrap1' i _ hiN HZ.out
                          have hsub : wrap64 ((i : Int) - (f : Int)) = ((i - f : Nat) : Int) := privilege_Leaks.wrap3 f i _ hfi hiN HZ.out
                          go_wp2_with (first | (go_at_call 60; refine (privilege_letter.calls _ _ _ HLE.out).mono ?_; rintro e w' ⟨rfl, ⟨nd_, rfl⟩⟩) | (go_at_call 62; refine (HCT.out _ (by repeat (first | exact Below.refl _ _ | apply pw_below_drewN | apply below_drew1))).mono ?_; rintro e w5 ⟨rfl, ⟨nd2_, rfl⟩⟩) | (go_at_call 63; refine (HLW.out _).mono ?_; rintro e w6 ⟨rfl, hb6⟩; have HB6 : Aside0 (Below wr.heap.size wr w6) := ⟨below_step (by repeat (first | exact Below.refl _ _ | apply pw_below_drewN | apply below_drew1)) hb6⟩; have hlook := HLS.out _ HB6.out; clear hb6) | ((with_reducible refine gate_builtin (b := .append) (xs := #[.tmp 112, .tmp 116]) rfl ?_); at_builtin; refine Kd.R_append k46 (w0 := w) w.heap.size rfl (.tmp 112) (.tmp 116) 38 46 (.agg #[(.int .i64 0), (.int .i64 0)]) 16 rfl Tryd.underlying38 info46 rfl (by decide) (by omega) vo o1 (⟨(f : Int), (i : Int)⟩ : S46) [.int .i64 (f : Int), .int .i64 (i : Int)] (fun k_ => mb < k_) (fun _ => False) rfl rfl (k46_mkM _ _ _ (⟨(f : Int), (i : Int)⟩ : S46)) (fun _ hk => hk.elim) (fun k_ hk => Nat.lt_of_lt_of_le (HIw.out.below HB6.out).2.2.1.lt hk) (HIw.out.below HB6.out).2.2.2.1 (HIw.out.below HB6.out).1 (HIw.out.below HB6.out).1.size (by have := HO.out; omega) ?_; intro v7 w7 ho7 hb7 hg7 hat7; have HI7 : Aside0 (privilege_Leaks.Inv w w7 mb (.slice Ao c.length co) v7 (o1 ++ [(⟨(f : Int), (i : Int)⟩ : S46)]) c S1) := ⟨privilege_Leaks.Inv.more (HIw.out.below HB6.out) ho7 hb7 hg7⟩; clear ho7 hb7 hg7 hat7))
                          go_roundw
                          case rel => exact ⟨v7, n, i + 1, none, _, rfl, by go_num, rfl, hin2, ⟨fun f e => by cases e⟩, H7, HI7⟩
                          case measure => first | exact privilege_Leaks.meas5 i n _ hin | exact privilege_Leaks.meas4 i n _ hin hwi
                        · rw [if_neg ho] at h7
                          exact absurd h7 (by simp)
                      | false =>
                        rw [hd] at h7 HLS
                        rw [if_neg (by decide)] at h7
                        have H7 := Aside0.mk h7
                        clear h7 HSc HFr hd
                        have hwi : wrap64 ((i : Int) + 1) = ((i + 1 : Nat) : Int) := privilege_Leaks.wrap1' i _ hiN HZ.out
                        have hsub : wrap64 ((i : Int) - (f : Int)) = ((i - f : Nat) : Int) := privilege_Leaks.wrap3 f i _ hfi hiN HZ.out
                        go_wp2_with (first | (go_at_call 60; refine (privilege_letter.calls _ _ _ HLE.out).mono ?_; rintro e w' ⟨rfl, ⟨nd_, rfl⟩⟩) | (go_at_call 62; refine (HCT.out _ (by repeat (first | exact Below.refl _ _ | apply pw_below_drewN | apply below_drew1))).mono ?_; rintro e w5 ⟨rfl, ⟨nd2_, rfl⟩⟩) | (go_at_call 63; refine (HLW.out _).mono ?_; rintro e w6 ⟨rfl, hb6⟩; have HB6 : Aside0 (Below wr.heap.size wr w6) := ⟨below_step (by repeat (first | exact Below.refl _ _ | apply pw_below_drewN | apply below_drew1)) hb6⟩; have hlook := HLS.out _ HB6.out; clear hb6))
                        go_roundw
                        case rel => exact ⟨vo, n, i + 1, none, o1, rfl, by go_num, rfl, hin2, ⟨fun f e => by cases e⟩, H7, ⟨HIw.out.below HB6.out⟩⟩
                        case measure => first | exact privilege_Leaks.meas5 i n _ hin | exact privilege_Leaks.meas4 i n _ hin hwi
                  · rw [if_neg h4] at h7
                    have h4f : ((4 : Int) ≤ ((i - f : Nat) : Int)) = False := eq_false (by omega)
                    have H7 := Aside0.mk h7
                    clear h7 HSc HFr
                    have hwi : wrap64 ((i : Int) + 1) = ((i + 1 : Nat) : Int) := privilege_Leaks.wrap1' i _ hiN HZ.out
                    have hsub : wrap64 ((i : Int) - (f : Int)) = ((i - f : Nat) : Int) := privilege_Leaks.wrap3 f i _ hfi hiN HZ.out
                    go_wp2_with (first | (go_at_call 60; refine (privilege_letter.calls _ _ _ HLE.out).mono ?_; rintro e w' ⟨rfl, ⟨nd_, rfl⟩⟩) | fail)
                    go_roundw
                    case rel => exact ⟨vo, n, i + 1, none, o1, rfl, by go_num, rfl, hin2, ⟨fun f e => by cases e⟩, H7, ⟨HIw.out.below (by repeat (first | exact Below.refl _ _ | apply pw_below_drewN | apply below_drew1))⟩⟩
                    case measure => first | exact privilege_Leaks.meas5 i n _ hin | exact privilege_Leaks.meas4 i n _ hin hwi
            · have q1 : ((i : Int) < (a0.size : Int)) = False := eq_false (by omega)
              rw [if_neg (by rintro ⟨h_, _⟩; exact hlt h_)] at h7
              cases fr with
              | none =>
                have H7 := Aside0.mk h7
                clear h7 HSc HFr
                have hwi : wrap64 ((i : Int) + 1) = ((i + 1 : Nat) : Int) := privilege_Leaks.wrap1' i _ hiN HZ.out
                go_wp2
                go_roundw
                case rel => exact ⟨vo, n, i + 1, none, o1, rfl, by go_num, rfl, hin2, ⟨fun f e => by cases e⟩, H7, ⟨HIw.out.below (by repeat (first | exact Below.refl _ _ | apply pw_below_drewN | apply below_drew1))⟩⟩
                case measure => first | exact privilege_Leaks.meas5 i n _ hin | exact privilege_Leaks.meas4 i n _ hin hwi
              | some f =>
                have hfi := HFr.out f rfl
                have hf0 : ((f : Int) < 0) = False := eq_false (by omega)
                have hf1 : (0 ≤ (f : Int)) = True := eq_true (by omega)
                simp only [privilege_Leaks.frI]
                simp only [] at h7
                by_cases h4 : 4 ≤ i - f
                · rw [if_pos h4] at h7
                  have h4t : ((4 : Int) ≤ ((i - f : Nat) : Int)) = True := eq_true (by omega)
                  cases hcn : slices_Contains_bool_bool.f k ((c.take i).drop f) true with
                  | none => rw [hcn] at h7; exact absurd h7 (by simp)
                  | some b =>
                  rw [hcn, Option.bind_some] at h7
                  obtain ⟨i04, hi04, _, hsz04, _⟩ := info_parts privilege_Leaks.info
                  have hic : i ≤ c.length := by have := HK.out.1; omega
                  have hcut := cut_mid (P := Tryd.prog) 81 4 .i64 .i64 Tryd.underlying81 hi04 1 hsz04 Ao c.length co (f : Int) (i : Int) (by omega) (by omega) (by omega) HK.out.2
                  have HCC : Aside0 (∀ W : World, Below wr.heap.size wr W → Kd.C Kd.bool W (if co = f then Ao else Ao.map (·.add (f * 1))) ((c.take i).drop f).length ((c.take i).drop f)) := ⟨fun W hb => Kd.C_mid (lo := f) (hi := i) (c := co) (Kd.R_reads' (HIw.out.below hb).2.1).2.2 (by omega) hic HK.out.2⟩
                  have hly : ((c.take i).drop f).length = i - f := by rw [List.length_drop, List.length_take]; omega
                  simp only [Int.toNat_natCast, ← hly] at hcut
                  generalize (if co = f then Ao else Ao.map (·.add (f * 1))) = A5 at *
                  generalize hcy : (c.take i).drop f = cy at *
                  have hcc5 : cy.length ≤ co - f := by have := HK.out.2; omega
                  have HCT : Aside0 (∀ W : World, Below wr.heap.size wr W → Calls Tryd.prog 62 #[.slice A5 cy.length (co - f), .bool true] W fun e w' => e = .returned (.bool b) ∧ Drawn0 W w') := ⟨fun W hb => slices_Contains_bool_bool.calls k A5 (co - f) cy true b W (HCC.out W hb) hcc5 hcn⟩
                  rw [hly] at hcut HCT
                  clear hi04 hsz04 HCC hly hcy hcc5 hcn hic
                  have hff : ((f : Int) ≤ (i : Int)) = True := eq_true (by omega)
                  have hfs : ((i : Int) ≤ (a0.size : Int)) = True := eq_true (by omega)
                  cases b with
                  | true =>
                    rw [if_pos rfl] at h7
                    have H7 := Aside0.mk h7
                    clear h7 HSc HFr
                    have hwi : wrap64 ((i : Int) + 1) = ((i + 1 : Nat) : Int) := privilege_Leaks.wrap1' i _ hiN HZ.out
                    have hsub : wrap64 ((i : Int) - (f : Int)) = ((i - f : Nat) : Int) := privilege_Leaks.wrap3 f i _ hfi hiN HZ.out
                    go_wp2_with (first | (go_at_call 62; refine (HCT.out _ (by repeat (first | exact Below.refl _ _ | apply pw_below_drewN | apply below_drew1))).mono ?_; rintro e w5 ⟨rfl, ⟨nd2_, rfl⟩⟩))
                    go_roundw
                    case rel => exact ⟨vo, n, i + 1, none, o1, rfl, by go_num, rfl, hin2, ⟨fun f e => by cases e⟩, H7, ⟨HIw.out.below (by repeat (first | exact Below.refl _ _ | apply pw_below_drewN | apply below_drew1))⟩⟩
                    case measure => first | exact privilege_Leaks.meas5 i n _ hin | exact privilege_Leaks.meas4 i n _ hin hwi
                  | false =>
                    rw [if_neg (by decide)] at h7
                    have hlw : base_Lower.f (a0.extract f i) = some (lowA (a0.extract f i)) := by
                      unfold base_Lower.f
                      rw [if_pos (by have := HZ.out; rw [ByteArray.size_extract]; omega)]
                    have hls : (lowA (a0.extract f i)).size ≤ 9223372036854775807 := privilege_Leaks.low_le a0 f i HZ.out
                    have HLW : Aside0 (∀ W : World, Calls Tryd.prog 63 #[.string (a0.extract f i)] W fun e w' => e = .returned (.string (lowA (a0.extract f i))) ∧ Below W.heap.size W w') := ⟨fun W => base_Lower.calls _ _ W hlw⟩
                    have HLS : Aside0 (∀ W : World, Below wr.heap.size wr W → (Instr.lookup 82 (.map (some mb)) (.string (lowA (a0.extract f i))) false).run Tryd.prog W = .ok (.bool (decide ((lowA (a0.extract f i)).data.toList ∈ S1))) W) := ⟨fun W hb => SetAt.look (HIw.out.below hb).2.2.1 Tryd.underlying82 Tryd.underlying9 (privilege_Leaks.zero W) _ hls⟩
                    clear hlw hls
                    generalize lowA (a0.extract f i) = x7 at *
                    cases hd : decide (x7.data.toList ∈ S1) with
                    | true =>
                      rw [hd] at h7 HLS
                      rw [if_pos rfl] at h7
                      by_cases ho : o1.length < 8796093022208
                      · rw [if_pos ho] at h7
                        have H7 := Aside0.mk h7
                        have HO := Aside0.mk ho
                        clear h7 HSc HFr hd ho
                        have hwi : wrap64 ((i : Int) + 1) = ((i + 1 : Nat) : Int) := privilege_Leaks.wrap1' i _ hiN HZ.out
                        have hsub : wrap64 ((i : Int) - (f : Int)) = ((i - f : Nat) : Int) := privilege_Leaks.wrap3 f i _ hfi hiN HZ.out
                        go_wp2_with (first | (go_at_call 62; refine (HCT.out _ (by repeat (first | exact Below.refl _ _ | apply pw_below_drewN | apply below_drew1))).mono ?_; rintro e w5 ⟨rfl, ⟨nd2_, rfl⟩⟩) | (go_at_call 63; refine (HLW.out _).mono ?_; rintro e w6 ⟨rfl, hb6⟩; have HB6 : Aside0 (Below wr.heap.size wr w6) := ⟨below_step (by repeat (first | exact Below.refl _ _ | apply pw_below_drewN | apply below_drew1)) hb6⟩; have hlook := HLS.out _ HB6.out; clear hb6) | ((with_reducible refine gate_builtin (b := .append) (xs := #[.tmp 112, .tmp 116]) rfl ?_); at_builtin; refine Kd.R_append k46 (w0 := w) w.heap.size rfl (.tmp 112) (.tmp 116) 38 46 (.agg #[(.int .i64 0), (.int .i64 0)]) 16 rfl Tryd.underlying38 info46 rfl (by decide) (by omega) vo o1 (⟨(f : Int), (i : Int)⟩ : S46) [.int .i64 (f : Int), .int .i64 (i : Int)] (fun k_ => mb < k_) (fun _ => False) rfl rfl (k46_mkM _ _ _ (⟨(f : Int), (i : Int)⟩ : S46)) (fun _ hk => hk.elim) (fun k_ hk => Nat.lt_of_lt_of_le (HIw.out.below HB6.out).2.2.1.lt hk) (HIw.out.below HB6.out).2.2.2.1 (HIw.out.below HB6.out).1 (HIw.out.below HB6.out).1.size (by have := HO.out; omega) ?_; intro v7 w7 ho7 hb7 hg7 hat7; have HI7 : Aside0 (privilege_Leaks.Inv w w7 mb (.slice Ao c.length co) v7 (o1 ++ [(⟨(f : Int), (i : Int)⟩ : S46)]) c S1) := ⟨privilege_Leaks.Inv.more (HIw.out.below HB6.out) ho7 hb7 hg7⟩; clear ho7 hb7 hg7 hat7))
                        go_roundw
                        case rel => exact ⟨v7, n, i + 1, none, _, rfl, by go_num, rfl, hin2, ⟨fun f e => by cases e⟩, H7, HI7⟩
                        case measure => first | exact privilege_Leaks.meas5 i n _ hin | exact privilege_Leaks.meas4 i n _ hin hwi
                      · rw [if_neg ho] at h7
                        exact absurd h7 (by simp)
                    | false =>
                      rw [hd] at h7 HLS
                      rw [if_neg (by decide)] at h7
                      have H7 := Aside0.mk h7
                      clear h7 HSc HFr hd
                      have hwi : wrap64 ((i : Int) + 1) = ((i + 1 : Nat) : Int) := privilege_Leaks.wrap1' i _ hiN HZ.out
                      have hsub : wrap64 ((i : Int) - (f : Int)) = ((i - f : Nat) : Int) := privilege_Leaks.wrap3 f i _ hfi hiN HZ.out
                      go_wp2_with (first | (go_at_call 62; refine (HCT.out _ (by repeat (first | exact Below.refl _ _ | apply pw_below_drewN | apply below_drew1))).mono ?_; rintro e w5 ⟨rfl, ⟨nd2_, rfl⟩⟩) | (go_at_call 63; refine (HLW.out _).mono ?_; rintro e w6 ⟨rfl, hb6⟩; have HB6 : Aside0 (Below wr.heap.size wr w6) := ⟨below_step (by repeat (first | exact Below.refl _ _ | apply pw_below_drewN | apply below_drew1)) hb6⟩; have hlook := HLS.out _ HB6.out; clear hb6))
                      go_roundw
                      case rel => exact ⟨vo, n, i + 1, none, o1, rfl, by go_num, rfl, hin2, ⟨fun f e => by cases e⟩, H7, ⟨HIw.out.below HB6.out⟩⟩
                      case measure => first | exact privilege_Leaks.meas5 i n _ hin | exact privilege_Leaks.meas4 i n _ hin hwi
                · rw [if_neg h4] at h7
                  have h4f : ((4 : Int) ≤ ((i - f : Nat) : Int)) = False := eq_false (by omega)
                  have H7 := Aside0.mk h7
                  clear h7 HSc HFr
                  have hwi : wrap64 ((i : Int) + 1) = ((i + 1 : Nat) : Int) := privilege_Leaks.wrap1' i _ hiN HZ.out
                  have hsub : wrap64 ((i : Int) - (f : Int)) = ((i - f : Nat) : Int) := privilege_Leaks.wrap3 f i _ hfi hiN HZ.out
                  go_wp2
                  go_roundw
                  case rel => exact ⟨vo, n, i + 1, none, o1, rfl, by go_num, rfl, hin2, ⟨fun f e => by cases e⟩, H7, ⟨HIw.out.below (by repeat (first | exact Below.refl _ _ | apply pw_below_drewN | apply below_drew1))⟩⟩
                  case measure => first | exact privilege_Leaks.meas5 i n _ hin | exact privilege_Leaks.meas4 i n _ hin hwi
  · rw [if_neg ht] at h
    obtain ⟨rfl, rfl⟩ : ([] : List S46) = r1 ∧ t1 = r2 := by simpa using h
    clear h
    have ht2 : (t1 == 0) = false := by simpa using ht
    have ht3 : (t1 != 0) = true := by simpa using ht
    go_enter Tryd.func26, Tryd.ntmps26
    go_wp2_with (go_at_call 53; refine HT.out.mono ?_; rintro e w1 ⟨rfl, hb1⟩)
    go_ret2
    exact ⟨_, rfl, Kd.R_nil _ _ _ _ _, hb1⟩
end Go.Proofs.YtolcpmdojlbhcaaDoor.Pe
