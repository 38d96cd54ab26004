/- A part of the proof of textsCovered. No conditions. Laid by program over the kit's print and words. -/
import Derived.Test.YtolcpmdojlbhcaaDoorZyPxx0
import Derived.Test.YtolcpmdojlbhcaaDoorZyPxx4
import Derived.Test.YtolcpmdojlbhcaaDoorZyPxx5
import Derived.Test.YtolcpmdojlbhcaaDoorZyPxx7
import Derived.Test.YtolcpmdojlbhcaaDoorZyPxx8
import Derived.Test.YtolcpmdojlbhcaaDoorZyPxx9
namespace Go.Proofs.YtolcpmdojlbhcaaDoor.Px
open Go.RowKit Go.Proofs.YtolcpmdojlbhcaaDoor.GBase Go.Proofs.YtolcpmdojlbhcaaDoorW.PrintWords Go.Proofs.YtolcpmdojlbhcaaDoorW.PrintLast Go.Proofs.YtolcpmdojlbhcaaDoorW.PrintMore
attribute [local go_sem] str_leq max2_int min2_int max_two min_two max_three min_three max_four min_four
set_option linter.unusedVariables false
set_option linter.unusedSimpArgs false
theorem Z1.info : (Tryd.prog.info? 4).map (fun i => (i.zero, i.size, i.bytes)) = some (some (.bool false), 1, 1) := by kernel_rfl
def Z1.markN : Nat → Int → List Bool → Option (List Bool)
  | 0, _, c => some c
  | n + 1, i, c => if 0 ≤ i ∧ i < (c.length : Int) then Z1.markN n (i + 1) (c.set i.toNat true) else none
def Z1.gather (k : Nat) (s : ByteArray) : List S46 → List Bool → List (List UInt8) → Option (List Bool × List (List UInt8))
  | [], c, S => some (c, S)
  | p :: r, c, S => (Z1.markN (p.f1 - p.f0).toNat p.f0 c).bind fun c' => (if 0 ≤ p.f0 ∧ p.f0 ≤ p.f1 ∧ p.f1 ≤ (s.size : Int) then ((Z7.f k (s.extract p.f0.toNat p.f1.toNat)).bind fun ws => (if S.length + ws.length < 4611686018427387904 ∧ (ws.all fun x => decide (x.size ≤ 9223372036854775807)) = true then (Z1.gather k s r c' (S ++ ws.map (·.data.toList))) else none)) else none)
def Z1.isL (c : Int) : Bool := (Z25.f c).getD false
theorem Z1.isL_is (c : Int) : Z25.f c = some (Z1.isL c) := by
  have : ∃ b, Z25.f c = some b := by
    unfold Z25.f Z28.f
    repeat' split
    all_goals first | exact ⟨_, rfl⟩ | skip
    all_goals (simp only [Option.bind_some]; repeat' split)
    all_goals first | exact ⟨_, rfl⟩ | skip
  obtain ⟨b, hb⟩ := this
  unfold Z1.isL
  rw [hb]
  rfl
def Z1.scan (k : Nat) (s : ByteArray) (c : List Bool) (S : List (List UInt8)) : Nat → Nat → Option Nat → List S46 → Option (List S46)
  | 0, _, _, out => some out
  | n + 1, i, fr, out => if i < s.size ∧ Z1.isL (bt s (i : Int)) = true then Z1.scan k s c S n (i + 1) (some (fr.getD i)) out
    else (match fr with
      | none => Z1.scan k s c S n (i + 1) none out
      | some f => if 4 ≤ i - f then ((Z37.f k ((c.take i).drop f) true).bind fun b => (if b = true then Z1.scan k s c S n (i + 1) none out else (if decide ((lowA (s.extract f i)).data.toList ∈ S) = true then (if out.length < 8796093022208 then Z1.scan k s c S n (i + 1) none (out ++ [⟨(f : Int), (i : Int)⟩]) else none) else Z1.scan k s c S n (i + 1) none out))) else Z1.scan k s c S n (i + 1) none out)
theorem Z1.gather_mono (k : Nat) (s : ByteArray) : ∀ (l : List S46) (c : List Bool) (S : List (List UInt8)), LeO (Z1.gather k s l c S) (Z1.gather (k + 1) s l c S)
  | [], _, _ => LeO.refl _
  | p :: r, c, S => by
    unfold Z1.gather
    refine LeO.bind (LeO.refl _) (fun c' => LeO.ite (LeO.bind (Z7.mono _ _) (fun ws => LeO.ite (Z1.gather_mono k s r _ _) (LeO.refl _))) (LeO.refl _))
theorem Z1.scan_mono (k : Nat) (s : ByteArray) (c : List Bool) (S : List (List UInt8)) : ∀ (n i : Nat) (fr : Option Nat) (out : List S46), LeO (Z1.scan k s c S n i fr out) (Z1.scan (k + 1) s c S n i fr out)
  | 0, _, _, _ => LeO.refl _
  | n + 1, i, fr, out => by
    have ih := Z1.scan_mono k s c S n
    unfold Z1.scan
    refine LeO.ite (ih _ _ _) ?_
    cases fr with
    | none => exact ih _ _ _
    | some f => exact LeO.ite (LeO.bind (Z37.mono _ _ _) (fun b => LeO.ite (ih _ _ _) (LeO.ite (LeO.ite (ih _ _ _) (LeO.refl _)) (ih _ _ _)))) (ih _ _ _)
theorem Z1.step_m (f1 : Int) (n m : Nat) (h : (f1 - (n : Int)).toNat = m + 1) : (f1 - ((n + 1 : Nat) : Int)).toNat = m := by omega
theorem Z1.wrap1 (n N : Nat) (h : n < N) (hN : N ≤ 140737488355328) : wrap64 ((n : Int) + 1) = ((n + 1 : Nat) : Int) := by unfold wrap64; omega
theorem Z1.wrap2 (n N : Nat) (h : n < N) (hN : N ≤ 9223372036854775807) : wrap64 ((n : Int) + 1) = ((n + 1 : Nat) : Int) := (wr64 (by omega) (by omega)).trans (by omega)
theorem Z1.meas2 (m N : Nat) (h : m < N) (hw : wrap64 ((m : Int) + 1) = ((m + 1 : Nat) : Int)) : N - (intOf (.int .i64 (wrap64 ((m : Int) + 1)))).toNat < N - (intOf (.int .i64 (m : Int))).toNat := by
  rw [hw]
  simp only [intOf, Int.toNat_natCast]
  omega
theorem Z1.meas3 (m N : Nat) (h : m < N) : N - (intOf (.int .i64 ((m : Int) + 1))).toNat < N - (intOf (.int .i64 (m : Int))).toNat := by
  show N - ((m : Int) + 1).toNat < N - (m : Int).toNat
  omega
def Z1.Inv (w wr : World) (mb : Nat) (v2 v3 : Value) (ps : List S46) (c : List Bool) (S : List (List UInt8)) : Prop :=
  Below w.heap.size w wr ∧ Kd.R Kd.bool 4 wr w.heap.size (fun k_ => k_ < mb) v2 c ∧ SetAt Tryd.prog 9 wr mb S ∧ Kd.R k46 46 wr w.heap.size (fun k_ => mb < k_) v3 ps ∧ w.heap.size ≤ mb
theorem Z1.below_grown {B : Nat} {w wr w' : World} {b : Nat} (h : Below B w wr) (hg : wr.grownBy w' (some b)) (hb : B ≤ b) (hB : B ≤ wr.heap.size) : Below B w w' :=
  h.trans ⟨hg.os, hg.tape, hg.output, hg.size, fun i hi => hg.block i (by omega) (by simp; omega)⟩
theorem Z1.Inv.below {w wr w' : World} {mb : Nat} {v2 v3 : Value} {ps : List S46} {c : List Bool} {S : List (List UInt8)} (h : Z1.Inv w wr mb v2 v3 ps c S) (hb : Below wr.heap.size wr w') : Z1.Inv w w' mb v2 v3 ps c S := by
  obtain ⟨h1, h2, h3, h4, h5⟩ := h
  exact ⟨below_step h1 hb, Kd.R_below h2 hb, h3.below hb, Kd.R_below h4 hb, h5⟩
theorem Z1.Inv.put {w wr w' : World} {mb : Nat} {v2 v3 : Value} {ps : List S46} {c : List Bool} {S S' : List (List UInt8)} (h : Z1.Inv w wr mb v2 v3 ps c S) (hs : SetAt Tryd.prog 9 w' mb S') (hg : wr.grownBy w' (some mb)) : Z1.Inv w w' mb v2 v3 ps c S' := by
  obtain ⟨h1, h2, h3, h4, h5⟩ := h
  exact ⟨Z1.below_grown h1 hg h5 h1.size, Kd.R_grown h2 hg (fun k hk e => by injection e with e; omega), hs, Kd.R_grown h4 hg (fun k hk e => by injection e with e; omega), h5⟩
theorem Z1.Inv.mark {w wr : World} {mb g cap n : Nat} {v3 : Value} {ps : List S46} {c : List Bool} {S : List (List UInt8)} (h : Z1.Inv w wr mb (.slice (some ⟨g, 0, none⟩) n cap) v3 ps c S) (hgb : w.heap.size ≤ g) (hgm : g < mb) (i : Int) : Z1.Inv w (wr.setCell ⟨g, i.toNat, none⟩ (.bool true)) mb (.slice (some ⟨g, 0, none⟩) n cap) v3 ps (c.set i.toNat true) S := by
  obtain ⟨h1, h2, h3, h4, h5⟩ := h
  exact ⟨h1.setCell hgb _, Kd.R_putn h2 i true, h3.far (by simp; omega) _, Kd.R_far (p := ⟨g, i.toNat, none⟩) h4 (fun k hk => by simp; omega) _, h5⟩
theorem Z1.in1 (i n N : Nat) (h : i + (n + 1) = N + 1) : i + 1 + n = N + 1 := by omega
theorem Z1.low_size (s : ByteArray) : (lowA s).size = s.size := by
  show (s.data.map lowB).size = s.data.size
  exact Array.size_map
def Z1.frI : Option Nat → Int
  | none => -1
  | some f => (f : Int)
theorem Z1.wrap1' (n N : Nat) (h : n ≤ N) (hN : N ≤ 140737488355328) : wrap64 ((n : Int) + 1) = ((n + 1 : Nat) : Int) := (wr64 (by omega) (by omega)).trans (by omega)
theorem Z1.wrap3 (f i N : Nat) (h : f < i) (h2 : i ≤ N) (hN : N ≤ 140737488355328) : wrap64 ((i : Int) - (f : Int)) = ((i - f : Nat) : Int) := (wr64 (by omega) (by omega)).trans (by omega)
theorem Z1.meas4 (i n N : Nat) (h : i + (n + 1) = N + 1) (hw : wrap64 ((i : Int) + 1) = ((i + 1 : Nat) : Int)) : N + 1 - (intOf (.int .i64 (wrap64 ((i : Int) + 1)))).toNat < N + 1 - (intOf (.int .i64 (i : Int))).toNat := by
  rw [hw]
  show N + 1 - ((i + 1 : Nat) : Int).toNat < N + 1 - (i : Int).toNat
  omega
theorem Z1.meas5 (i n N : Nat) (h : i + (n + 1) = N + 1) : N + 1 - (intOf (.int .i64 ((i : Int) + 1))).toNat < N + 1 - (intOf (.int .i64 (i : Int))).toNat := by
  show N + 1 - ((i : Int) + 1).toNat < N + 1 - (i : Int).toNat
  omega
theorem Z1.fr_lt (fr : Option Nat) (i : Nat) (h : ∀ f, fr = some f → f < i) : ∀ f, some (fr.getD i) = some f → f < i + 1 := by
  intro f e
  obtain rfl := Option.some.inj e
  cases fr with
  | none => exact Nat.lt_succ_self i
  | some f => exact Nat.lt_succ_of_lt (h f rfl)
theorem Z1.low_le (s : ByteArray) (f i : Nat) (h : s.size ≤ 140737488355328) : (lowA (s.extract f i)).size ≤ 9223372036854775807 := by
  have e : (lowA (s.extract f i)).size = (s.extract f i).size := Z1.low_size _
  rw [e, ByteArray.size_extract]
  omega
theorem Z1.zero (w : World) : (zeroValue 4).run Tryd.prog w = .ok (.bool false) w := Tryd.zeroValue4 w
theorem Z1.Inv.more {w wr w' : World} {mb : Nat} {v2 v3 v4 : Value} {ps qs : List S46} {c : List Bool} {S : List (List UInt8)} (h : Z1.Inv w wr mb v2 v3 ps c S) (ho : Kd.R k46 46 w' w.heap.size (fun k_ => mb < k_) v4 qs) (hb : Below w.heap.size w w') (hg : wr.grownBy w' v3.ownBlock) : Z1.Inv w w' mb v2 v4 qs c S := by
  obtain ⟨h1, h2, h3, h4, h5⟩ := h
  refine ⟨hb, Kd.R_grown h2 hg (fun k hk e => ?_), h3.kept hg (fun e => ?_), ho, h5⟩
  · have := h4.1 k e.symm
    omega
  · have := h4.1 mb e.symm
    omega
def Z1.f (k : Nat) (a0 : ByteArray) (l1 : List S46) : Option (List S46 × Int) := if a0.size ≤ 140737488355328 then ((Z29.f k a0 l1).bind fun t1 => (if t1 = 0 then ((Z8.f k a0 l1).bind fun t2 => ((Z1.gather k a0 t2 (List.replicate a0.size false) []).bind fun t3 => ((Z1.scan k a0 t3.1 t3.2 (a0.size + 1) 0 none []).bind fun t4 => (Z56.f t4)))) else (some (([] : List S46), t1)))) else (none)
theorem Z1.mono : ∀ a0 a1 k, LeO (Z1.f k a0 a1) (Z1.f (k + 1) a0 a1) := by
  intro a0 a1 k
  unfold Z1.f
  repeat' first
      | exact Z1.gather_mono _ _ _ _ _
      | exact Z1.scan_mono _ _ _ _ _ _ _ _
      | (with_reducible exact Z8.mono _ _ _)
      | (with_reducible exact Z29.mono _ _ _)
      | (with_reducible exact LeO.refl _)
      | (with_reducible exact LeO.none _)
      | (with_reducible refine LeO.ite ?_ ?_)
      | (with_reducible refine LeO.bind ?_ (fun _ => ?_))
      | exact LeO.none _
      | refine LeO.ite ?_ ?_
      | refine LeO.bind ?_ (fun _ => ?_)
set_option maxHeartbeats 8000000 in
set_option maxRecDepth 100000 in
theorem Z1.calls (k : Nat) (a0 : ByteArray) (A1 : Option Addr) (c1 : Nat) (l1 : List (S46)) (r1 : List (S46)) (r2 : Int) (w : World) (hr1 : Kd.C k46 w A1 l1.length l1) (hc1 : l1.length ≤ c1) (hGl : Wd w) (h : Z1.f k a0 l1 = some (r1, r2)) :
    Calls Tryd.prog 26 #[.string a0, .slice A1 l1.length c1] w fun e w' => ∃ v0_ : Value, e = .returned (.tuple #[v0_, .int .i64 r2]) ∧ Kd.R k46 46 w' w.heap.size (fun _ => True) v0_ r1 ∧ Below w.heap.size w w' := by
  unfold Z1.f at h
  have hz : a0.size ≤ 140737488355328 := by
    rcases Nat.lt_or_ge 140737488355328 a0.size with hz | hz
    · rw [if_neg (by omega)] at h
      exact absurd h (by simp)
    · exact hz
  rw [if_pos hz] at h
  cases h1 : Z29.f k a0 l1 with
  | none => rw [h1] at h; exact absurd h (by simp)
  | some t1 =>
  rw [h1, Option.bind_some] at h
  have HT := am_ (Z29.calls k a0 A1 c1 l1 t1 w hr1 hc1 hGl h1)
  clear h1 hGl
  by_cases ht : t1 = 0
  · subst ht
    rw [if_pos rfl] at h
    cases h2 : Z8.f k a0 l1 with
    | none => rw [h2] at h; exact absurd h (by simp)
    | some ps =>
    rw [h2, Option.bind_some] at h
    cases h3 : Z1.gather k a0 ps (List.replicate a0.size false) [] with
    | none => rw [h3] at h; exact absurd h (by simp)
    | some gs =>
    obtain ⟨cs, S⟩ := gs
    rw [h3, Option.bind_some] at h
    cases h4 : Z1.scan k a0 cs S (a0.size + 1) 0 none [] with
    | none => rw [h4] at h; exact absurd h (by simp)
    | some out =>
    rw [h4, Option.bind_some] at h
    have H4 := am_ h4; have H3 := am_ h3; have HF := am_ h
    have HP : Aside0 (∀ w', Below w.heap.size w w' → Calls Tryd.prog 54 #[.string a0, .slice A1 l1.length c1] w' fun e w'' => ∃ v0_ : Value, e = .returned (v0_) ∧ Kd.R k46 46 w'' w'.heap.size (fun _ => True) v0_ ps ∧ Below w'.heap.size w' w'') := am_ fun w' hb => Z8.calls k a0 A1 c1 l1 ps w' (Kd.C_below hr1 hb) hc1 h2
    have HZ := am_ hz; clear h h2 h3 h4 hr1 hc1
    have hn1 : (0 : Int) ≤ (a0.size : Int) := by omega
    have hmm := @run_makeMap Tryd.prog
    go_enter Tryd.func26, Tryd.ntmps26
    go_wp2_with (first
      | (go_at_call 53; refine HT.out.mono ?_; rintro e w1 ⟨rfl, hb1⟩)
      | ((with_reducible refine gate_dst (N := 26) rfl ?_); refine Kd.R_make Kd.bool _ 4 rfl (N := 26) rfl 81 _ _ rfl (a0.size : Int) rfl rfl Tryd.underlying81 (.bool false) 1 Z1.info rfl (by decide) (by omega) false (ok := fun _ => True) (okp := fun _ => True) rfl (fun _ hk => hk) trivial hn1 (by have := HZ.out; omega) (Below.refl _ _) (Nat.le_refl _) ?_; intro v2 w2 ho2 hb2 hg2 hnew2; have HB1 := am_ hb1; have HB2 := am_ hb2; have HO2 := am_ ho2; have HN2 := am_ hnew2; clear hb1 hb2 ho2 hg2 hnew2)
      | (go_at_call 54; refine (HP.out _ ((below_step HB1.out HB2.out).alloc (below_step HB1.out HB2.out).size _)).mono ?_; rintro e w3 ⟨v3, rfl, hR3, hb3⟩; obtain ⟨A3, c3, rfl, hlc3, hC3⟩ := Kd.R_reads hR3))
    have HI : Aside0 (Z1.Inv w w3 w2.heap.size v2 (.slice A3 ps.length c3) ps (List.replicate a0.size false) []) := ⟨by
      have hb2 := below_step HB1.out HB2.out
      have hbm := hb2.alloc hb2.size (.map #[] 0)
      have h2 := HO2.out
      simp only [Int.toNat_natCast] at h2
      refine ⟨below_step hbm hb3, ?_, (SetAt.made _ _ w2).below hb3, ?_, hb2.size⟩
      · exact Kd.R_below (r1_ (Kd.R_lower (Kd.R_mono (Kd.R_bound h2) (fun k_ hk => hk.2.2.1)) HB1.out.size) _) hb3
      · refine Kd.R_lower (Kd.R_mono (Kd.R_bound hR3) (fun k_ hk => ?_)) hbm.size
        have h3 := hk.2.1
        rw [World.size_alloc] at h3
        omega⟩
    have HL : Aside0 ((List.replicate a0.size false).length = a0.size) := ⟨List.length_replicate⟩
    clear HP HB1 HB2 HO2 HN2 hR3 hb3 hC3 hlc3 hmm
    generalize w2.heap.size = mb at *
    clear w2
    have hmaxp : ps.length ≤ 9223372036854775807 := Kd.C_max (Kd.R_reads' HI.out.2.2.2.1).2.2
    go_loopw [32] (fun i wr => ∃ (j : Nat) (c : List Bool) (S1 : List (List UInt8)), i = .int .i64 j ∧ Aside0 (j ≤ ps.length) ∧ Aside0 (c.length = a0.size) ∧ Aside0 (Z1.gather k a0 (ps.drop j) c S1 = some (cs, S)) ∧ Aside0 (Z1.Inv w wr mb v2 (.slice A3 ps.length c3) ps c S1)) (fun i _ => ps.length - (intOf i).toNat)
    case atStart => exact ⟨0, _, [], rfl, ⟨Nat.zero_le _⟩, HL, H3, HI⟩
    case round =>
      obtain ⟨j, c, S1, rfl, HJ, HLc, HG, HIw⟩ := hrel; clear HI HL H3
      by_cases hlt : j < ps.length
      · obtain ⟨ad, eA, hx0, hx1⟩ := at_T46 (Kd.R_reads' HIw.out.2.2.2.1).2.2 (j : Int) (by omega) (by omega)
        cases eA
        simp only [Int.toNat_natCast] at hx0 hx1
        have hd : ps.drop j = rd_T46 ps j :: ps.drop (j + 1) := by
          rw [List.drop_eq_getElem_cons hlt]
          simp [rd_T46, List.getD_eq_getElem?_getD, List.getElem?_eq_getElem hlt]
        have h4 := HG.out
        rw [hd] at h4
        simp only [Z1.gather] at h4
        generalize (rd_T46 ps j).f0 = f0 at *
        generalize (rd_T46 ps j).f1 = f1 at *
        cases h5 : Z1.markN (f1 - f0).toNat f0 c with
        | none => rw [h5] at h4; exact absurd h4 (by simp)
        | some c2 =>
        rw [h5, Option.bind_some] at h4
        have H4g := am_ h4; have H5 := am_ h5; clear h4 h5 hd HG HJ
        go_wp2
        have HS0 : Aside0 ((wr.alloc (.cells #[.int .i64 f0, .int .i64 f1] 46)).heap[wr.heap.size]? = some (.cells #[.int .i64 f0, .int .i64 f1] 46 (0, 0))) := ⟨blk_new _ _⟩
        have HI0 := am_ (HIw.out.below ((Below.refl _ _).alloc (Nat.le_refl _) (.cells #[.int .i64 f0, .int .i64 f1] 46)))
        have HQ : Aside0 (mb < wr.heap.size) := ⟨HIw.out.2.2.1.lt⟩
        clear hx0 hx1 HIw
        generalize wr.heap.size = q at *
        generalize wr.alloc (.cells #[.int .i64 f0, .int .i64 f1] 46) = wa at *
        go_loopw [11] (fun i wq => ∃ (m : Nat) (x : Int) (c1 : List Bool), i = .int .i64 x ∧ Aside0 (Z1.markN m x c1 = some c2) ∧ Aside0 ((f1 - x).toNat = m) ∧ Aside0 (c1.length = a0.size) ∧ Aside0 (Z1.Inv w wq mb v2 (.slice (some ad) ps.length c3) ps c1 S1) ∧ Aside0 (wq.heap[q]? = some (.cells #[.int .i64 f0, .int .i64 f1] 46 (0, 0)))) (fun i _ => (f1 - intOf i).toNat)
        case atStart => exact ⟨_, f0, c, rfl, H5, ⟨rfl⟩, HLc, HI0, HS0⟩
        case round =>
          obtain ⟨m, x, cq, rfl, HN, HM, HLq, HIq, HSq⟩ := hrel
          have hcz0 := (blk_cell HSq.out 0).trans rfl
          have hcz1 := (blk_cell HSq.out 1).trans rfl
          by_cases hx : x < f1
          · have hxd : decide (x < f1) = true := decide_eq_true hx
            obtain ⟨m, rfl⟩ : ∃ m', m = m' + 1 := ⟨m - 1, by have := HM.out; omega⟩
            have h6 := HN.out
            simp only [Z1.markN] at h6
            by_cases hin : 0 ≤ x ∧ x < (cq.length : Int)
            · rw [if_pos hin] at h6
              obtain ⟨g, cp, rfl, hgb, hgl, hcells⟩ := Kd.R_form HIq.out.2.1 (by omega)
              have hgm := HIq.out.2.1.1 g (by simp [Value.ownBlock])
              have hgm2 : g < mb := hgm
              obtain ⟨n, rfl⟩ := Int.eq_ofNat_of_zero_le hin.1
              obtain ⟨hcx, hfx⟩ := Kd.R_celln false HIq.out.2.1 (n : Int) hin.1 hin.2
              have HIn := am_ (HIq.out.mark hgb hgm2 (n : Int))
              rw [Int.toNat_natCast] at h6 hcx hfx HIn
              have hn : n < cq.length := by omega
              have hnz : (n : Int) < (cq.length : Int) := by omega
              have hna : n < a0.size := by have := HLq.out; omega
              have hw : wrap64 ((n : Int) + 1) = ((n + 1 : Nat) : Int) := Z1.wrap1 n _ hna HZ.out
              have H6 : Aside0 (Z1.markN m ((n + 1 : Nat) : Int) (cq.set n true) = some c2) := ⟨by
                rw [show ((n + 1 : Nat) : Int) = (n : Int) + 1 by omega]
                exact h6⟩
              have HMS : Aside0 ((f1 - ((n + 1 : Nat) : Int)).toNat = m) := ⟨Z1.step_m f1 n m HM.out⟩
              have HX := am_ hx
              have HSn := am_ (blk_far (p := ⟨g, n, none⟩) HSq.out (by have := HQ.out; show q ≠ g; omega) (.bool true))
              have HLn : Aside0 ((cq.set n true).length = a0.size) := ⟨by rw [List.length_set]; exact HLq.out⟩
              clear h6 hin hx HN HM hcells hgm HIq HSq
              go_wp2
              go_roundw
              case rel => exact ⟨m, _, cq.set n true, by go_num, H6, HMS, HLn, HIn, HSn⟩
              case measure => have := HX.out; simp [intOf]; omega
            · rw [if_neg hin] at h6
              exact absurd h6 (by simp)
          · have hxd : decide (x < f1) = false := decide_eq_false hx
            have h6 := HN.out
            have hm0 : m = 0 := by have := HM.out; omega
            subst hm0
            simp only [Z1.markN] at h6
            obtain rfl := Option.some.inj h6
            have h7 := H4g.out
            by_cases hs : 0 ≤ f0 ∧ f0 ≤ f1 ∧ f1 ≤ (a0.size : Int)
            · rw [if_pos hs] at h7
              obtain ⟨hs1, hs2, hs3⟩ := hs
              cases h8 : Z7.f k (a0.extract f0.toNat f1.toNat) with
              | none => rw [h8] at h7; exact absurd h7 (by simp)
              | some ws =>
              rw [h8, Option.bind_some] at h7
              have HWC : Aside0 (∀ W : World, Calls Tryd.prog 43 #[.string (a0.extract f0.toNat f1.toNat)] W fun e w' => ∃ v0_ : Value, e = .returned (v0_) ∧ Kd.R Kd.string 9 w' W.heap.size (fun _ => True) v0_ ws ∧ Below W.heap.size W w') := ⟨fun W => Z7.calls k _ ws W h8⟩
              by_cases hb7 : S1.length + ws.length < 4611686018427387904 ∧ (ws.all fun x => decide (x.size ≤ 9223372036854775807)) = true
              · rw [if_pos hb7] at h7
                have H7 := am_ h7
                have HSZ : Aside0 (S1.length + ws.length < 4611686018427387904 ∧ ∀ x ∈ ws, x.size ≤ 9223372036854775807) := ⟨hb7.1, fun x hx => of_decide_eq_true (List.all_eq_true.1 hb7.2 x hx)⟩
                have hs1t := eq_true hs1
                have hs2t := eq_true hs2
                have hs3t := eq_true hs3
                clear h6 h7 h8 hb7 HN HM hx HS0 HI0 H5 H4g
                go_wp2_with (go_at_call 43; refine (HWC.out _).mono ?_; rintro e w4 ⟨v4, rfl, hR4, hb4⟩; obtain ⟨A4, c4, rfl, hlc4, hC4⟩ := Kd.R_reads hR4)
                have HI4 : Aside0 (Z1.Inv w w4 mb v2 (.slice (some ad) ps.length c3) ps cq (S1 ++ (ws.take 0).map (·.data.toList))) := ⟨by
                  rw [List.take_zero, List.map_nil, List.append_nil]
                  exact HIq.out.below hb4⟩
                have HR4 : Aside0 (Kd.R Kd.string 9 w4 w.heap.size (fun k_ => mb < k_) (.slice A4 ws.length c4) ws) := ⟨Kd.R_lower (Kd.R_mono (Kd.R_bound hR4) (fun k_ hk => Nat.lt_of_lt_of_le HIq.out.2.2.1.lt hk.2.1)) HIq.out.1.size⟩
                have hmaxw : ws.length ≤ 9223372036854775807 := Kd.C_max hC4
                have HMW := am_ hmaxw; clear hR4 hb4 hC4 hlc4 HIq HSq HWC hmaxw
                go_loopw [55] (fun i wq => ∃ (m : Nat), i = .int .i64 m ∧ Aside0 (m ≤ ws.length) ∧ Aside0 (Z1.Inv w wq mb v2 (.slice (some ad) ps.length c3) ps cq (S1 ++ (ws.take m).map (·.data.toList))) ∧ Aside0 (Kd.R Kd.string 9 wq w.heap.size (fun k_ => mb < k_) (.slice A4 ws.length c4) ws)) (fun i _ => ws.length - (intOf i).toNat)
                case atStart => exact ⟨0, rfl, ⟨Nat.zero_le _⟩, HI4, HR4⟩
                case round =>
                  obtain ⟨m, rfl, HMm, HI5, HR5⟩ := hrel; clear HI4 HR4
                  by_cases hlw : m < ws.length
                  · obtain ⟨b, o, rfl, hbk, hcell⟩ := C_cells (Kd.R_reads' HR5.out).2.2 (Nat.lt_of_le_of_lt (Nat.zero_le _) hlw)
                    have hx5 := hcell m ws[m] (List.getElem?_eq_getElem hlw)
                    have hsz := HSZ.out.2 ws[m] (List.getElem_mem hlw)
                    have hlen : (S1 ++ (ws.take m).map (·.data.toList)).length < 9223372036854775807 := by
                      have := HSZ.out.1
                      rw [List.length_append, List.length_map, List.length_take]
                      omega
                    have etk : S1 ++ (ws.take (m + 1)).map (·.data.toList) = (S1 ++ (ws.take m).map (·.data.toList)) ++ [ws[m].data.toList] := by
                      rw [List.take_add_one, List.getElem?_eq_getElem hlw, List.map_append, ← List.append_assoc]
                      rfl
                    obtain ⟨W2, hrun, hset, hgr⟩ := SetAt.put HI5.out.2.2.1 Tryd.underlying82 Tryd.underlying9 ws[m] hsz hlen
                    rw [← etk] at hset
                    have HI6 := am_ (HI5.out.put hset hgr)
                    have HR6 := am_ (Kd.R_grown HR5.out hgr (fun k_ hk e => by injection e with e; omega))
                    have hlz : (m : Int) < (ws.length : Int) := by omega
                    have hwm : wrap64 ((m : Int) + 1) = ((m + 1 : Nat) : Int) := Z1.wrap2 m _ hlw HMW.out
                    clear hcell hsz hlen etk hset hgr HI5 HR5 HMm
                    generalize ws[m] = x5 at *
                    go_wp2
                    go_roundw
                    case rel => exact ⟨m + 1, by go_num, ⟨by omega⟩, HI6, HR6⟩
                    case measure => first | exact Z1.meas2 m _ hlw hwm | exact Z1.meas3 m _ hlw
                  · obtain rfl : m = ws.length := by have := HMm.out; omega
                    have HI7 := HI5
                    rw [List.take_length] at HI7
                    have hlz : ¬ (ws.length : Int) < (ws.length : Int) := by omega
                    have hwj : wrap64 ((j : Int) + 1) = ((j + 1 : Nat) : Int) := Z1.wrap2 j _ hlt hmaxp
                    go_wp2
                    go_roundw
                    case rel => exact ⟨j + 1, _, _, by go_num, ⟨by omega⟩, HLq, H7, HI7⟩
                    case measure => first | exact Z1.meas3 j _ hlt | exact Z1.meas2 j _ hlt hwj
              · rw [if_neg hb7] at h7
                exact absurd h7 (by simp)
            · rw [if_neg hs] at h7
              exact absurd h7 (by simp)
      · obtain rfl : j = ps.length := by have := HJ.out; omega
        have h4 := HG.out
        rw [List.drop_eq_nil_of_le (Nat.le_refl _)] at h4
        simp only [Z1.gather, Option.some.injEq, Prod.mk.injEq] at h4
        obtain ⟨rfl, rfl⟩ := h4
        obtain ⟨Ao, co, rfl⟩ := Kd.R_slice HIw.out.2.1
        have hroom : c.length ≤ co := (Kd.R_reads' HIw.out.2.1).2.1
        have HK := am_ (⟨HLc.out, hroom⟩ : c.length = a0.size ∧ c.length ≤ co)
        have HJ0 : Aside0 (Z1.Inv w wr mb (.slice Ao c.length co) (.slice none 0 0) [] c S1) := ⟨⟨HIw.out.1, HIw.out.2.1, HIw.out.2.2.1, ⟨fun k_ hk => by simp [Value.ownBlock] at hk, OwnRow.none_ _ _ _ _ _⟩, HIw.out.2.2.2.2⟩⟩
        clear HG HJ HIw hlt hroom HLc
        go_wp2
        have hz1 : a0.size ≤ 140737488355328 := HZ.out
        go_loopw [14, 15, 16] (fun v14 v15 v16 w_ => ∃ (vo : Value) (n i : Nat) (fr : Option Nat) (o1 : List S46), vo = v14 ∧ v16 = .int .i64 i ∧ v15 = .int .i64 (Z1.frI fr) ∧ i + n = a0.size + 1 ∧ Aside0 (∀ f, fr = some f → f < i) ∧ Aside0 (Z1.scan k a0 c S1 n i fr o1 = some out) ∧ Aside0 (Z1.Inv w w_ mb (.slice Ao c.length co) vo o1 c S1)) (fun _ _ v16 _ => a0.size + 1 - (intOf v16).toNat)
        case atStart => exact ⟨_, a0.size + 1, 0, none, [], rfl, rfl, rfl, by omega, ⟨fun f e => by cases e⟩, H4, HJ0⟩
        case round =>
          obtain ⟨vo, n, i, fr, o1, rfl, rfl, rfl, hin, HFr, HSc, HIw⟩ := hrel; clear HJ0 H4
          have h7 := HSc.out
          cases n with
          | zero =>
            simp only [Z1.scan, Option.some.injEq] at h7
            subst h7
            have hile : ((i : Int) ≤ (a0.size : Int)) = False := eq_false (by omega)
            clear HSc HFr
            go_wp2_with (go_at_call 56; refine (Z56.calls (fun k_ => mb < k_) vo o1 r1 r2 w _ HIw.out.1 HIw.out.2.2.2.1 HF.out).mono ?_; rintro e w5 ⟨v5, rfl, hR5, hb5, _⟩)
            go_ret2
            exact ⟨_, rfl, Kd.R_mono hR5 (fun _ _ => trivial), hb5⟩
          | succ n =>
            have hile : ((i : Int) ≤ (a0.size : Int)) = True := eq_true (by omega)
            have hiN : i ≤ a0.size := by omega
            have hin2 := Z1.in1 i n _ hin
            simp only [Z1.scan] at h7
            by_cases hlt : i < a0.size
            · have p1 : (0 ≤ (i : Int)) = True := eq_true (by omega)
              have q1 : ((i : Int) < (a0.size : Int)) = True := eq_true (by omega)
              obtain ⟨xb, hxb⟩ : ∃ x : UInt8, a0[i]'hlt = x := ⟨_, rfl⟩
              have hbt : bt a0 (i : Int) = (xb.toNat : Int) := by rw [← hxb]; exact (bt_at a0 (i : Int) hlt).symm
              rw [hbt] at h7
              clear hbt
              cases hL : Z1.isL (xb.toNat : Int) with
              | true =>
                rw [if_pos ⟨hlt, hL⟩] at h7
                have H7 := am_ h7
                have HF2 : Aside0 (∀ f, some (fr.getD i) = some f → f < i + 1) := ⟨Z1.fr_lt fr i HFr.out⟩
                have HLE := am_ (Z1.isL_is (xb.toNat : Int))
                rw [hL] at HLE
                clear h7 HSc hL
                cases fr with
                | none =>
                  simp only [Z1.frI]
                  have hwi : wrap64 ((i : Int) + 1) = ((i + 1 : Nat) : Int) := Z1.wrap1' i _ hiN HZ.out
                  go_wp2_with (go_at_call 60; refine (Z25.calls _ _ _ HLE.out).mono ?_; rintro e w' ⟨rfl, ⟨nd_, rfl⟩⟩)
                  go_roundw
                  case rel => exact ⟨vo, n, i + 1, some i, o1, rfl, by go_num, rfl, hin2, HF2, H7, ⟨HIw.out.below (by repeat (first | exact Below.refl _ _ | apply b1_ | apply b2_))⟩⟩
                  case measure => first | exact Z1.meas5 i n _ hin | exact Z1.meas4 i n _ hin hwi
                | some f =>
                  have hf0 : ((f : Int) < 0) = False := eq_false (by omega)
                  have hf1 : (0 ≤ (f : Int)) = True := eq_true (by omega)
                  simp only [Z1.frI]
                  have hwi : wrap64 ((i : Int) + 1) = ((i + 1 : Nat) : Int) := Z1.wrap1' i _ hiN HZ.out
                  go_wp2_with (go_at_call 60; refine (Z25.calls _ _ _ HLE.out).mono ?_; rintro e w' ⟨rfl, ⟨nd_, rfl⟩⟩)
                  go_roundw
                  case rel => exact ⟨vo, n, i + 1, some f, o1, rfl, by go_num, rfl, hin2, HF2, H7, ⟨HIw.out.below (by repeat (first | exact Below.refl _ _ | apply b1_ | apply b2_))⟩⟩
                  case measure => first | exact Z1.meas5 i n _ hin | exact Z1.meas4 i n _ hin hwi
              | false =>
                rw [if_neg (by rintro ⟨_, h_⟩; rw [hL] at h_; exact absurd h_ (by decide))] at h7
                have HLE := am_ (Z1.isL_is (xb.toNat : Int))
                rw [hL] at HLE
                clear hL
                cases fr with
                | none =>
                  have H7 := am_ h7; clear h7 HSc HFr
                  have hwi : wrap64 ((i : Int) + 1) = ((i + 1 : Nat) : Int) := Z1.wrap1' i _ hiN HZ.out
                  go_wp2_with (first | (go_at_call 60; refine (Z25.calls _ _ _ HLE.out).mono ?_; rintro e w' ⟨rfl, ⟨nd_, rfl⟩⟩) | fail)
                  go_roundw
                  case rel => exact ⟨vo, n, i + 1, none, o1, rfl, by go_num, rfl, hin2, ⟨fun f e => by cases e⟩, H7, ⟨HIw.out.below (by repeat (first | exact Below.refl _ _ | apply b1_ | apply b2_))⟩⟩
                  case measure => first | exact Z1.meas5 i n _ hin | exact Z1.meas4 i n _ hin hwi
                | some f =>
                  have hfi := HFr.out f rfl
                  have hf0 : ((f : Int) < 0) = False := eq_false (by omega)
                  have hf1 : (0 ≤ (f : Int)) = True := eq_true (by omega)
                  simp only [Z1.frI]
                  simp only [] at h7
                  by_cases h4 : 4 ≤ i - f
                  · rw [if_pos h4] at h7
                    have h4t : ((4 : Int) ≤ ((i - f : Nat) : Int)) = True := eq_true (by omega)
                    cases hcn : Z37.f k ((c.take i).drop f) true with
                    | none => rw [hcn] at h7; exact absurd h7 (by simp)
                    | some b =>
                    rw [hcn, Option.bind_some] at h7
                    obtain ⟨i04, hi04, _, hsz04, _⟩ := info_parts Z1.info
                    have hic : i ≤ c.length := by have := HK.out.1; omega
                    have hcut := cut_mid (P := Tryd.prog) 81 4 .i64 .i64 Tryd.underlying81 hi04 1 hsz04 Ao c.length co (f : Int) (i : Int) (by omega) (by omega) (by omega) HK.out.2
                    have HCC : Aside0 (∀ W : World, Below wr.heap.size wr W → Kd.C Kd.bool W (if co = f then Ao else Ao.map (·.add (f * 1))) ((c.take i).drop f).length ((c.take i).drop f)) := ⟨fun W hb => Kd.C_mid (lo := f) (hi := i) (c := co) (Kd.R_reads' (HIw.out.below hb).2.1).2.2 (by omega) hic HK.out.2⟩
                    have hly : ((c.take i).drop f).length = i - f := by rw [List.length_drop, List.length_take]; omega
                    simp only [Int.toNat_natCast, ← hly] at hcut
                    generalize (if co = f then Ao else Ao.map (·.add (f * 1))) = A5 at *
                    generalize hcy : (c.take i).drop f = cy at *
                    have hcc5 : cy.length ≤ co - f := by have := HK.out.2; omega
                    have HCT : Aside0 (∀ W : World, Below wr.heap.size wr W → Calls Tryd.prog 62 #[.slice A5 cy.length (co - f), .bool true] W fun e w' => e = .returned (.bool b) ∧ Drawn0 W w') := ⟨fun W hb => Z37.calls k A5 (co - f) cy true b W (HCC.out W hb) hcc5 hcn⟩
                    rw [hly] at hcut HCT
                    clear hi04 hsz04 HCC hly hcy hcc5 hcn hic
                    have hff : ((f : Int) ≤ (i : Int)) = True := eq_true (by omega)
                    have hfs : ((i : Int) ≤ (a0.size : Int)) = True := eq_true (by omega)
                    cases b with
                    | true =>
                      rw [if_pos rfl] at h7
                      have H7 := am_ h7; clear h7 HSc HFr
                      have hwi : wrap64 ((i : Int) + 1) = ((i + 1 : Nat) : Int) := Z1.wrap1' i _ hiN HZ.out
                      have hsub : wrap64 ((i : Int) - (f : Int)) = ((i - f : Nat) : Int) := Z1.wrap3 f i _ hfi hiN HZ.out
                      go_wp2_with (first | (go_at_call 60; refine (Z25.calls _ _ _ HLE.out).mono ?_; rintro e w' ⟨rfl, ⟨nd_, rfl⟩⟩) | (go_at_call 62; refine (HCT.out _ (by repeat (first | exact Below.refl _ _ | apply b1_ | apply b2_))).mono ?_; rintro e w5 ⟨rfl, ⟨nd2_, rfl⟩⟩))
                      go_roundw
                      case rel => exact ⟨vo, n, i + 1, none, o1, rfl, by go_num, rfl, hin2, ⟨fun f e => by cases e⟩, H7, ⟨HIw.out.below (by repeat (first | exact Below.refl _ _ | apply b1_ | apply b2_))⟩⟩
                      case measure => first | exact Z1.meas5 i n _ hin | exact Z1.meas4 i n _ hin hwi
                    | false =>
                      rw [if_neg (by decide)] at h7
                      have hlw : Z41.f (a0.extract f i) = some (lowA (a0.extract f i)) := by
                        unfold Z41.f
                        rw [if_pos (by have := HZ.out; rw [ByteArray.size_extract]; omega)]
                      have hls : (lowA (a0.extract f i)).size ≤ 9223372036854775807 := Z1.low_le a0 f i HZ.out
                      have HLW : Aside0 (∀ W : World, Calls Tryd.prog 63 #[.string (a0.extract f i)] W fun e w' => e = .returned (.string (lowA (a0.extract f i))) ∧ Below W.heap.size W w') := ⟨fun W => Z41.calls _ _ W hlw⟩
                      have HLS : Aside0 (∀ W : World, Below wr.heap.size wr W → (Instr.lookup 82 (.map (some mb)) (.string (lowA (a0.extract f i))) false).run Tryd.prog W = .ok (.bool (decide ((lowA (a0.extract f i)).data.toList ∈ S1))) W) := ⟨fun W hb => SetAt.look (HIw.out.below hb).2.2.1 Tryd.underlying82 Tryd.underlying9 (Z1.zero W) _ hls⟩
                      clear hlw hls
                      generalize lowA (a0.extract f i) = x7 at *
                      cases hd : decide (x7.data.toList ∈ S1) with
                      | true =>
                        rw [hd] at h7 HLS
                        rw [if_pos rfl] at h7
                        by_cases ho : o1.length < 8796093022208
                        · rw [if_pos ho] at h7
                          have H7 := am_ h7; have HO := am_ ho; clear h7 HSc HFr hd ho
                          have hwi : wrap64 ((i : Int) + 1) = ((i + 1 : Nat) : Int) := Z1.wrap1' i _ hiN HZ.out
                          have hsub : wrap64 ((i : Int) - (f : Int)) = ((i - f : Nat) : Int) := Z1.wrap3 f i _ hfi hiN HZ.out
                          go_wp2_with (first | (go_at_call 60; refine (Z25.calls _ _ _ HLE.out).mono ?_; rintro e w' ⟨rfl, ⟨nd_, rfl⟩⟩) | (go_at_call 62; refine (HCT.out _ (by repeat (first | exact Below.refl _ _ | apply b1_ | apply b2_))).mono ?_; rintro e w5 ⟨rfl, ⟨nd2_, rfl⟩⟩) | (go_at_call 63; refine (HLW.out _).mono ?_; rintro e w6 ⟨rfl, hb6⟩; have HB6 : Aside0 (Below wr.heap.size wr w6) := ⟨below_step (by repeat (first | exact Below.refl _ _ | apply b1_ | apply b2_)) hb6⟩; have hlook := HLS.out _ HB6.out; clear hb6) | ((with_reducible refine gate_builtin (b := .append) (xs := #[.tmp 112, .tmp 116]) rfl ?_); at_builtin; refine Kd.R_append k46 (w0 := w) w.heap.size rfl (.tmp 112) (.tmp 116) 38 46 (.agg #[(.int .i64 0), (.int .i64 0)]) 16 rfl Tryd.underlying38 info46 rfl (by decide) (by omega) vo o1 (⟨(f : Int), (i : Int)⟩ : S46) [.int .i64 (f : Int), .int .i64 (i : Int)] (fun k_ => mb < k_) (fun _ => False) rfl rfl (k46_mkM _ _ _ (⟨(f : Int), (i : Int)⟩ : S46)) (fun _ hk => hk.elim) (fun k_ hk => Nat.lt_of_lt_of_le (HIw.out.below HB6.out).2.2.1.lt hk) (HIw.out.below HB6.out).2.2.2.1 (HIw.out.below HB6.out).1 (HIw.out.below HB6.out).1.size (by have := HO.out; omega) ?_; intro v7 w7 ho7 hb7 hg7 hat7; have HI7 : Aside0 (Z1.Inv w w7 mb (.slice Ao c.length co) v7 (o1 ++ [(⟨(f : Int), (i : Int)⟩ : S46)]) c S1) := ⟨Z1.Inv.more (HIw.out.below HB6.out) ho7 hb7 hg7⟩; clear ho7 hb7 hg7 hat7))
                          go_roundw
                          case rel => exact ⟨v7, n, i + 1, none, _, rfl, by go_num, rfl, hin2, ⟨fun f e => by cases e⟩, H7, HI7⟩
                          case measure => first | exact Z1.meas5 i n _ hin | exact Z1.meas4 i n _ hin hwi
                        · rw [if_neg ho] at h7
                          exact absurd h7 (by simp)
                      | false =>
                        rw [hd] at h7 HLS
                        rw [if_neg (by decide)] at h7
                        have H7 := am_ h7; clear h7 HSc HFr hd
                        have hwi : wrap64 ((i : Int) + 1) = ((i + 1 : Nat) : Int) := Z1.wrap1' i _ hiN HZ.out
                        have hsub : wrap64 ((i : Int) - (f : Int)) = ((i - f : Nat) : Int) := Z1.wrap3 f i _ hfi hiN HZ.out
                        go_wp2_with (first | (go_at_call 60; refine (Z25.calls _ _ _ HLE.out).mono ?_; rintro e w' ⟨rfl, ⟨nd_, rfl⟩⟩) | (go_at_call 62; refine (HCT.out _ (by repeat (first | exact Below.refl _ _ | apply b1_ | apply b2_))).mono ?_; rintro e w5 ⟨rfl, ⟨nd2_, rfl⟩⟩) | (go_at_call 63; refine (HLW.out _).mono ?_; rintro e w6 ⟨rfl, hb6⟩; have HB6 : Aside0 (Below wr.heap.size wr w6) := ⟨below_step (by repeat (first | exact Below.refl _ _ | apply b1_ | apply b2_)) hb6⟩; have hlook := HLS.out _ HB6.out; clear hb6))
                        go_roundw
                        case rel => exact ⟨vo, n, i + 1, none, o1, rfl, by go_num, rfl, hin2, ⟨fun f e => by cases e⟩, H7, ⟨HIw.out.below HB6.out⟩⟩
                        case measure => first | exact Z1.meas5 i n _ hin | exact Z1.meas4 i n _ hin hwi
                  · rw [if_neg h4] at h7
                    have h4f : ((4 : Int) ≤ ((i - f : Nat) : Int)) = False := eq_false (by omega)
                    have H7 := am_ h7; clear h7 HSc HFr
                    have hwi : wrap64 ((i : Int) + 1) = ((i + 1 : Nat) : Int) := Z1.wrap1' i _ hiN HZ.out
                    have hsub : wrap64 ((i : Int) - (f : Int)) = ((i - f : Nat) : Int) := Z1.wrap3 f i _ hfi hiN HZ.out
                    go_wp2_with (first | (go_at_call 60; refine (Z25.calls _ _ _ HLE.out).mono ?_; rintro e w' ⟨rfl, ⟨nd_, rfl⟩⟩) | fail)
                    go_roundw
                    case rel => exact ⟨vo, n, i + 1, none, o1, rfl, by go_num, rfl, hin2, ⟨fun f e => by cases e⟩, H7, ⟨HIw.out.below (by repeat (first | exact Below.refl _ _ | apply b1_ | apply b2_))⟩⟩
                    case measure => first | exact Z1.meas5 i n _ hin | exact Z1.meas4 i n _ hin hwi
            · have q1 : ((i : Int) < (a0.size : Int)) = False := eq_false (by omega)
              rw [if_neg (by rintro ⟨h_, _⟩; exact hlt h_)] at h7
              cases fr with
              | none =>
                have H7 := am_ h7; clear h7 HSc HFr
                have hwi : wrap64 ((i : Int) + 1) = ((i + 1 : Nat) : Int) := Z1.wrap1' i _ hiN HZ.out
                go_wp2
                go_roundw
                case rel => exact ⟨vo, n, i + 1, none, o1, rfl, by go_num, rfl, hin2, ⟨fun f e => by cases e⟩, H7, ⟨HIw.out.below (by repeat (first | exact Below.refl _ _ | apply b1_ | apply b2_))⟩⟩
                case measure => first | exact Z1.meas5 i n _ hin | exact Z1.meas4 i n _ hin hwi
              | some f =>
                have hfi := HFr.out f rfl
                have hf0 : ((f : Int) < 0) = False := eq_false (by omega)
                have hf1 : (0 ≤ (f : Int)) = True := eq_true (by omega)
                simp only [Z1.frI]
                simp only [] at h7
                by_cases h4 : 4 ≤ i - f
                · rw [if_pos h4] at h7
                  have h4t : ((4 : Int) ≤ ((i - f : Nat) : Int)) = True := eq_true (by omega)
                  cases hcn : Z37.f k ((c.take i).drop f) true with
                  | none => rw [hcn] at h7; exact absurd h7 (by simp)
                  | some b =>
                  rw [hcn, Option.bind_some] at h7
                  obtain ⟨i04, hi04, _, hsz04, _⟩ := info_parts Z1.info
                  have hic : i ≤ c.length := by have := HK.out.1; omega
                  have hcut := cut_mid (P := Tryd.prog) 81 4 .i64 .i64 Tryd.underlying81 hi04 1 hsz04 Ao c.length co (f : Int) (i : Int) (by omega) (by omega) (by omega) HK.out.2
                  have HCC : Aside0 (∀ W : World, Below wr.heap.size wr W → Kd.C Kd.bool W (if co = f then Ao else Ao.map (·.add (f * 1))) ((c.take i).drop f).length ((c.take i).drop f)) := ⟨fun W hb => Kd.C_mid (lo := f) (hi := i) (c := co) (Kd.R_reads' (HIw.out.below hb).2.1).2.2 (by omega) hic HK.out.2⟩
                  have hly : ((c.take i).drop f).length = i - f := by rw [List.length_drop, List.length_take]; omega
                  simp only [Int.toNat_natCast, ← hly] at hcut
                  generalize (if co = f then Ao else Ao.map (·.add (f * 1))) = A5 at *
                  generalize hcy : (c.take i).drop f = cy at *
                  have hcc5 : cy.length ≤ co - f := by have := HK.out.2; omega
                  have HCT : Aside0 (∀ W : World, Below wr.heap.size wr W → Calls Tryd.prog 62 #[.slice A5 cy.length (co - f), .bool true] W fun e w' => e = .returned (.bool b) ∧ Drawn0 W w') := ⟨fun W hb => Z37.calls k A5 (co - f) cy true b W (HCC.out W hb) hcc5 hcn⟩
                  rw [hly] at hcut HCT
                  clear hi04 hsz04 HCC hly hcy hcc5 hcn hic
                  have hff : ((f : Int) ≤ (i : Int)) = True := eq_true (by omega)
                  have hfs : ((i : Int) ≤ (a0.size : Int)) = True := eq_true (by omega)
                  cases b with
                  | true =>
                    rw [if_pos rfl] at h7
                    have H7 := am_ h7; clear h7 HSc HFr
                    have hwi : wrap64 ((i : Int) + 1) = ((i + 1 : Nat) : Int) := Z1.wrap1' i _ hiN HZ.out
                    have hsub : wrap64 ((i : Int) - (f : Int)) = ((i - f : Nat) : Int) := Z1.wrap3 f i _ hfi hiN HZ.out
                    go_wp2_with (first | (go_at_call 62; refine (HCT.out _ (by repeat (first | exact Below.refl _ _ | apply b1_ | apply b2_))).mono ?_; rintro e w5 ⟨rfl, ⟨nd2_, rfl⟩⟩))
                    go_roundw
                    case rel => exact ⟨vo, n, i + 1, none, o1, rfl, by go_num, rfl, hin2, ⟨fun f e => by cases e⟩, H7, ⟨HIw.out.below (by repeat (first | exact Below.refl _ _ | apply b1_ | apply b2_))⟩⟩
                    case measure => first | exact Z1.meas5 i n _ hin | exact Z1.meas4 i n _ hin hwi
                  | false =>
                    rw [if_neg (by decide)] at h7
                    have hlw : Z41.f (a0.extract f i) = some (lowA (a0.extract f i)) := by
                      unfold Z41.f
                      rw [if_pos (by have := HZ.out; rw [ByteArray.size_extract]; omega)]
                    have hls : (lowA (a0.extract f i)).size ≤ 9223372036854775807 := Z1.low_le a0 f i HZ.out
                    have HLW : Aside0 (∀ W : World, Calls Tryd.prog 63 #[.string (a0.extract f i)] W fun e w' => e = .returned (.string (lowA (a0.extract f i))) ∧ Below W.heap.size W w') := ⟨fun W => Z41.calls _ _ W hlw⟩
                    have HLS : Aside0 (∀ W : World, Below wr.heap.size wr W → (Instr.lookup 82 (.map (some mb)) (.string (lowA (a0.extract f i))) false).run Tryd.prog W = .ok (.bool (decide ((lowA (a0.extract f i)).data.toList ∈ S1))) W) := ⟨fun W hb => SetAt.look (HIw.out.below hb).2.2.1 Tryd.underlying82 Tryd.underlying9 (Z1.zero W) _ hls⟩
                    clear hlw hls
                    generalize lowA (a0.extract f i) = x7 at *
                    cases hd : decide (x7.data.toList ∈ S1) with
                    | true =>
                      rw [hd] at h7 HLS
                      rw [if_pos rfl] at h7
                      by_cases ho : o1.length < 8796093022208
                      · rw [if_pos ho] at h7
                        have H7 := am_ h7; have HO := am_ ho; clear h7 HSc HFr hd ho
                        have hwi : wrap64 ((i : Int) + 1) = ((i + 1 : Nat) : Int) := Z1.wrap1' i _ hiN HZ.out
                        have hsub : wrap64 ((i : Int) - (f : Int)) = ((i - f : Nat) : Int) := Z1.wrap3 f i _ hfi hiN HZ.out
                        go_wp2_with (first | (go_at_call 62; refine (HCT.out _ (by repeat (first | exact Below.refl _ _ | apply b1_ | apply b2_))).mono ?_; rintro e w5 ⟨rfl, ⟨nd2_, rfl⟩⟩) | (go_at_call 63; refine (HLW.out _).mono ?_; rintro e w6 ⟨rfl, hb6⟩; have HB6 : Aside0 (Below wr.heap.size wr w6) := ⟨below_step (by repeat (first | exact Below.refl _ _ | apply b1_ | apply b2_)) hb6⟩; have hlook := HLS.out _ HB6.out; clear hb6) | ((with_reducible refine gate_builtin (b := .append) (xs := #[.tmp 112, .tmp 116]) rfl ?_); at_builtin; refine Kd.R_append k46 (w0 := w) w.heap.size rfl (.tmp 112) (.tmp 116) 38 46 (.agg #[(.int .i64 0), (.int .i64 0)]) 16 rfl Tryd.underlying38 info46 rfl (by decide) (by omega) vo o1 (⟨(f : Int), (i : Int)⟩ : S46) [.int .i64 (f : Int), .int .i64 (i : Int)] (fun k_ => mb < k_) (fun _ => False) rfl rfl (k46_mkM _ _ _ (⟨(f : Int), (i : Int)⟩ : S46)) (fun _ hk => hk.elim) (fun k_ hk => Nat.lt_of_lt_of_le (HIw.out.below HB6.out).2.2.1.lt hk) (HIw.out.below HB6.out).2.2.2.1 (HIw.out.below HB6.out).1 (HIw.out.below HB6.out).1.size (by have := HO.out; omega) ?_; intro v7 w7 ho7 hb7 hg7 hat7; have HI7 : Aside0 (Z1.Inv w w7 mb (.slice Ao c.length co) v7 (o1 ++ [(⟨(f : Int), (i : Int)⟩ : S46)]) c S1) := ⟨Z1.Inv.more (HIw.out.below HB6.out) ho7 hb7 hg7⟩; clear ho7 hb7 hg7 hat7))
                        go_roundw
                        case rel => exact ⟨v7, n, i + 1, none, _, rfl, by go_num, rfl, hin2, ⟨fun f e => by cases e⟩, H7, HI7⟩
                        case measure => first | exact Z1.meas5 i n _ hin | exact Z1.meas4 i n _ hin hwi
                      · rw [if_neg ho] at h7
                        exact absurd h7 (by simp)
                    | false =>
                      rw [hd] at h7 HLS
                      rw [if_neg (by decide)] at h7
                      have H7 := am_ h7; clear h7 HSc HFr hd
                      have hwi : wrap64 ((i : Int) + 1) = ((i + 1 : Nat) : Int) := Z1.wrap1' i _ hiN HZ.out
                      have hsub : wrap64 ((i : Int) - (f : Int)) = ((i - f : Nat) : Int) := Z1.wrap3 f i _ hfi hiN HZ.out
                      go_wp2_with (first | (go_at_call 62; refine (HCT.out _ (by repeat (first | exact Below.refl _ _ | apply b1_ | apply b2_))).mono ?_; rintro e w5 ⟨rfl, ⟨nd2_, rfl⟩⟩) | (go_at_call 63; refine (HLW.out _).mono ?_; rintro e w6 ⟨rfl, hb6⟩; have HB6 : Aside0 (Below wr.heap.size wr w6) := ⟨below_step (by repeat (first | exact Below.refl _ _ | apply b1_ | apply b2_)) hb6⟩; have hlook := HLS.out _ HB6.out; clear hb6))
                      go_roundw
                      case rel => exact ⟨vo, n, i + 1, none, o1, rfl, by go_num, rfl, hin2, ⟨fun f e => by cases e⟩, H7, ⟨HIw.out.below HB6.out⟩⟩
                      case measure => first | exact Z1.meas5 i n _ hin | exact Z1.meas4 i n _ hin hwi
                · rw [if_neg h4] at h7
                  have h4f : ((4 : Int) ≤ ((i - f : Nat) : Int)) = False := eq_false (by omega)
                  have H7 := am_ h7; clear h7 HSc HFr
                  have hwi : wrap64 ((i : Int) + 1) = ((i + 1 : Nat) : Int) := Z1.wrap1' i _ hiN HZ.out
                  have hsub : wrap64 ((i : Int) - (f : Int)) = ((i - f : Nat) : Int) := Z1.wrap3 f i _ hfi hiN HZ.out
                  go_wp2
                  go_roundw
                  case rel => exact ⟨vo, n, i + 1, none, o1, rfl, by go_num, rfl, hin2, ⟨fun f e => by cases e⟩, H7, ⟨HIw.out.below (by repeat (first | exact Below.refl _ _ | apply b1_ | apply b2_))⟩⟩
                  case measure => first | exact Z1.meas5 i n _ hin | exact Z1.meas4 i n _ hin hwi
  · rw [if_neg ht] at h
    obtain ⟨rfl, rfl⟩ : ([] : List S46) = r1 ∧ t1 = r2 := by simpa using h
    clear h
    have ht2 : (t1 == 0) = false := by simpa using ht
    have ht3 : (t1 != 0) = true := by simpa using ht
    go_enter Tryd.func26, Tryd.ntmps26
    go_wp2_with (go_at_call 53; refine HT.out.mono ?_; rintro e w1 ⟨rfl, hb1⟩)
    go_ret2
    exact ⟨_, rfl, Kd.R_nil _ _ _ _ _, hb1⟩
def Z36.f (s0_0 : List Int) (s0_1 : Int) (l1 : List Int) : Option (Int × Int) := (Z42.f s0_0 s0_1 (l1.length : Int)).bind fun bt261 => (if 0 ≤ bt261.1 then (if bt261.1 < (l1.length : Int) then (some (rd l1 bt261.1, bt261.2)) else (none)) else (none))
set_option maxHeartbeats 8000000 in
set_option maxRecDepth 100000 in
theorem Z36.calls (g : Nat) (s0_0 : List Int) (s0_1 : Int) (A1 : Option Addr) (c1 : Nat) (l1 : List Int) (r1 : Int) (r2 : Int) (w0 w : World) (hI : IsS25 w0 w g s0_0 s0_1) (hB : Below w0.heap.size w0 w) (hr1 : Kd.C (Kd.int .i64) w A1 l1.length l1) (hc1 : l1.length ≤ c1) (hf1 : ∀ ad, A1 = some ad → 0 < l1.length → ad.block ≠ g) (h : Z36.f s0_0 s0_1 l1 = some (r1, r2)) :
  Calls Tryd.prog 52 #[.pointer (some ⟨g, 0, none⟩), .slice A1 l1.length c1] w fun e w' => e = .returned (.int .i64 r1) ∧ IsS25 w0 w' g s0_0 r2 ∧ Below w0.heap.size w0 w' ∧ KeepBut w w' g none := by
 have HR1 := am_ hr1; have HC1 := am_ hc1; clear hr1 hc1; have HI0 := am_ hI
 have HK := am_ (KeepBut.refl w g none)
 have HL := am_ hB.size; clear hI; have HW0 := am_ hB.size; have HB := am_ hB; clear hB
 have H : ((Z42.f s0_0 s0_1 (l1.length : Int)).bind fun bt261 => (if 0 ≤ bt261.1 then (if bt261.1 < (l1.length : Int) then (some (rd l1 bt261.1, bt261.2)) else (none)) else (none))) = some (r1, r2) := h
 clear h; replace H := Option.bind_eq_some_iff.mp H
 obtain ⟨⟨t261, t262⟩, A30, H⟩ := H
 replace H : (if 0 ≤ t261 then (if t261 < (l1.length : Int) then (some (rd l1 t261, t262)) else (none)) else (none)) = some (r1, r2) := H
 have A3 := am_ A30; clear A30
 by_cases c4 : 0 ≤ t261
 case neg => exact (nn_ c4 H).elim
 rw [if_pos c4] at H; have c4b0 := decide_eq_true c4; clear c4
 by_cases c5 : t261 < (l1.length : Int)
 case neg => exact (nn_ c5 H).elim
 rw [if_pos c5] at H; have c5b0 := decide_eq_true c5; clear c5
 simp only [Option.some.injEq, Prod.mk.injEq] at H
 obtain ⟨rfl, rfl⟩ := H
 go_enter Tryd.func52, Tryd.ntmps52
 go_wp2_with (first | ((with_reducible refine gate_callee (f := 36) rfl ?_); refine goesL_ (some 9) rfl rfl Tryd.func36 (by kernel_rfl) rfl #[.pointer (some ⟨g, 0, none⟩), .int .i64 (l1.length : Int)] rfl gl_ ?_; (with_reducible refine (Z42.calls g s0_0 s0_1 (l1.length : Int) t261 t262 w0 _ ?side1 ?side2 A3.out).mono ?_); (case side1 => exact is_ HI0.out); (case side2 => exact bs_ HB.out (IsS25.ge HI0.out)); rintro e w6 ⟨rfl, hi, hb, hk⟩; refine ⟨_, rfl, ?_⟩; have n0_ := am_ (KeepBut.trans (kk_ HK.out) hk (.inl rfl)); have n1_ := am_ (hb); have n2_ := am_ (hi); clear HK; clear HB; clear HI0; have HK := n0_; have HB := n1_; have HI0 := n2_; clear n0_ n1_ n2_; (try clear hb); (try clear hb2); (try clear hk); (try clear hi); have p263 : 0 ≤ (t261 : Int) := ode_; have q263 : t261 < (l1.length : Int) := ode_; obtain ⟨ad263, e263, hx263_0⟩ := Kd.at_int HR1.out t261 p263 q263; cases e263; replace hx263_0 := keep_cell HK.out hx263_0 (by first | (rw [add_block]; exact hf1 _ rfl (by omega)) | exact hf1 _ rfl (by omega) | exact hf1 ad263 rfl (by omega)); replace p263 := eq_true p263; replace q263 := eq_true q263))
 go_ret
 exact ⟨by first | rfl | (simp [errW_none, errW_some] <;> rfl) | (simp [*, errW_none, errW_some] <;> rfl), is_ HI0.out, bs_ HB.out (IsS25.ge HI0.out), kk_ HK.out⟩
def Z27.l0 : Nat → Int → List (S46) → Int → Int → Int → List Int → Int → Option ((List (S46)) × Int)
  | 0, _, _, _, _, _, _, _ => none
  | k + 1, x1, x5, x6, x10, x11, x1000, x1001 => if x11 < x10 then ((Z36.f x1000 x1001 (([0, 1, 2, 5] : List Int))).bind fun bt269 => ((Z36.f x1000 bt269.2 (([1, 1, 2, 4, 9] : List Int))).bind fun bt274 => (if (wrap64 ((wrap64 (x6 + bt269.1)) + bt274.1)) > x1 then (some (x5, bt274.2)) else (if x5.length < 8796093022208 then (Z27.l0 k x1 (x5 ++ [(⟨wrap64 (x6 + bt269.1), wrap64 ((wrap64 (x6 + bt269.1)) + bt274.1)⟩ : S46)]) (wrap64 ((wrap64 ((wrap64 (x6 + bt269.1)) + bt274.1)) + 1)) x10 (wrap64 (x11 + 1)) x1000 bt274.2) else (none))))) else (some (x5, x1001))
def Z27.f (k : Nat) (s0_0 : List Int) (s0_1 : Int) (a1 : Int) : Option ((List (S46)) × Int) := (Z42.f s0_0 s0_1 5).bind fun bt264 => (Z27.l0 k a1 ([] : List (S46)) 0 bt264.1 0 s0_0 bt264.2)
theorem Z27.mono_l : ∀ k, (∀ y0 y1 y2 y3 y4 y5 y6, LeO (Z27.l0 k y0 y1 y2 y3 y4 y5 y6) (Z27.l0 (k + 1) y0 y1 y2 y3 y4 y5 y6))
  | 0 => fun _ _ _ _ _ _ _ r h => by simp [Z27.l0] at h
  | k + 1 => by
    have ih0 := Z27.mono_l k
    · intro y0 y1 y2 y3 y4 y5 y6
      unfold Z27.l0
      repeat' first
      | (with_reducible exact ih0 _ _ _ _ _ _ _)
      | (with_reducible exact LeO.refl _)
      | (with_reducible exact LeO.none _)
      | (with_reducible refine LeO.ite ?_ ?_)
      | (with_reducible refine LeO.bind ?_ (fun _ => ?_))
      | exact ih0 _ _ _ _ _ _ _
      | exact LeO.none _
      | refine LeO.ite ?_ ?_
      | refine LeO.bind ?_ (fun _ => ?_)
theorem Z27.mono : ∀ a0 a1 a2 k, LeO (Z27.f k a0 a1 a2) (Z27.f (k + 1) a0 a1 a2) := by
  intro a0 a1 a2 k
  have ih0 := Z27.mono_l k
  unfold Z27.f
  repeat' first
      | (with_reducible exact ih0 _ _ _ _ _ _ _)
      | (with_reducible exact LeO.refl _)
      | (with_reducible exact LeO.none _)
      | (with_reducible refine LeO.ite ?_ ?_)
      | (with_reducible refine LeO.bind ?_ (fun _ => ?_))
      | exact ih0 _ _ _ _ _ _ _
      | exact LeO.none _
      | refine LeO.ite ?_ ?_
      | refine LeO.bind ?_ (fun _ => ?_)
set_option maxHeartbeats 8000000 in
set_option maxRecDepth 100000 in
theorem Z27.calls (k : Nat) (g : Nat) (s0_0 : List Int) (s0_1 : Int) (a1 : Int) (r1 : List (S46)) (r2 : Int) (w0 w : World) (hI : IsS25 w0 w g s0_0 s0_1) (hB : Below w0.heap.size w0 w) (h : Z27.f k s0_0 s0_1 a1 = some (r1, r2)) :
  Calls Tryd.prog 18 #[.pointer (some ⟨g, 0, none⟩), .int .i64 a1] w fun e w' => ∃ v0_ : Value, e = .returned (v0_) ∧ Kd.R k46 46 w' w.heap.size (fun _ => True) v0_ r1 ∧ IsS25 w0 w' g s0_0 r2 ∧ Below w0.heap.size w0 w' ∧ KeepBut w w' g none := by
 have hu46 := Tryd.underlying46
 have HI0 := am_ hI
 have HK := am_ (KeepBut.refl w g none)
 have HL := am_ hB.size; clear hI; have HW0 := am_ hB.size; have HB := am_ hB; clear hB
 have H : ((Z42.f s0_0 s0_1 5).bind fun bt264 => (Z27.l0 k a1 ([] : List (S46)) 0 bt264.1 0 s0_0 bt264.2)) = some (r1, r2) := h
 clear h; replace H := Option.bind_eq_some_iff.mp H
 obtain ⟨⟨t264, t265⟩, A30, H⟩ := H
 replace H : (Z27.l0 k a1 ([] : List (S46)) 0 t264 0 s0_0 t265) = some (r1, r2) := H
 have A3 := am_ A30; clear A30
 have H' := am_ H
 clear H
 go_enter Tryd.func18, Tryd.ntmps18
 go_wp2_with (first | ((with_reducible refine gate_callee (f := 36) rfl ?_); refine goesL_ (some 10) rfl rfl Tryd.func36 (by kernel_rfl) rfl #[.pointer (some ⟨g, 0, none⟩), .int .i64 5] rfl gl_ ?_; (with_reducible refine (Z42.calls g s0_0 s0_1 5 t264 t265 w0 _ ?side1 ?side2 A3.out).mono ?_); (case side1 => exact is_ HI0.out); (case side2 => exact bs_ HB.out (IsS25.ge HI0.out)); rintro e w4 ⟨rfl, hi, hb, hk⟩; refine ⟨_, rfl, ?_⟩; have n0_ := am_ (KeepBut.trans (kk_ HK.out) hk (.inl rfl)); have n1_ := am_ (hb); have n2_ := am_ (hi); clear HK; clear HB; clear HI0; have HK := n0_; have HB := n1_; have HI0 := n2_; clear n0_ n1_ n2_; (try clear hb); (try clear hb2); (try clear hk); (try clear hi)))
 go_loopg [5, 6, 11] k (fun kq v5 v6 v11 w' => ∃ (x5_1 : List (S46)) (x6_1 : Int) (x11_1 : Int) (x1001_1 : Int), v6 = .int .i64 x6_1 ∧ v11 = .int .i64 x11_1 ∧ Aside0 (Z27.l0 kq a1 x5_1 x6_1 t264 x11_1 s0_0 x1001_1 = some (r1, r2)) ∧ Aside0 (kq ≤ k) ∧ Aside0 (Kd.R k46 46 w' w.heap.size (fun _ => True) v5 x5_1) ∧ Aside0 (IsS25 w0 w' g s0_0 x1001_1) ∧ Aside0 (KeepBut w w' g none) ∧ Aside0 (Below w0.heap.size w0 w'))
 case atStart => exact ⟨(([] : List (S46))), (0), (0), (t265), tr_, tr_, H', ⟨Nat.le_refl _⟩, ⟨by first | exact Kd.R_nil _ _ _ _ _ | exact Kd.N_nil _ _ _ _ _ | exact Kd.V_nil _ _ _ _ _ | exact Kd.Q_nil _ _ _ _ _ | exact Kd.S_nil _ _ _ _ _⟩, ⟨is_ HI0.out⟩, ⟨kk_ HK.out⟩, ⟨bs_ HB.out (IsS25.ge HI0.out)⟩⟩
 case round =>
  clear H'; (try clear c1); (try clear p2); (try clear c3); obtain ⟨x5_1, x6_1, x11_1, x1001_1, rfl, rfl, HA, HK1, HO_5, HI0, HK, HB⟩ := hrel
  cases gk with
  | zero => exact absurd HA.out (by simp [Z27.l0])
  | succ k1 =>
   have H := HA.out
   clear HA
   simp only [Z27.l0] at H
   by_cases c5 : x11_1 < t264
   ·rw [if_pos c5] at H
    have c5b0 := decide_eq_true c5; clear c5
    obtain ⟨y266, hy266⟩ : ∃ y_ : List Int, y_ = (([0, 1, 2, 5] : List Int)) := ⟨_, rfl⟩
    replace H : ((Z36.f s0_0 x1001_1 y266).bind fun bt269 => ((Z36.f s0_0 bt269.2 (([1, 1, 2, 4, 9] : List Int))).bind fun bt274 => (if (wrap64 ((wrap64 (x6_1 + bt269.1)) + bt274.1)) > a1 then (some (x5_1, bt274.2)) else (if x5_1.length < 8796093022208 then (Z27.l0 k1 a1 (x5_1 ++ [(⟨wrap64 (x6_1 + bt269.1), wrap64 ((wrap64 (x6_1 + bt269.1)) + bt274.1)⟩ : S46)]) (wrap64 ((wrap64 ((wrap64 (x6_1 + bt269.1)) + bt274.1)) + 1)) t264 (wrap64 (x11_1 + 1)) s0_0 bt274.2) else (none))))) = some (r1, r2) := by first | (rw [hy266]; with_reducible exact H) | (have H2_ := (Option.bind_some _ _).symm.trans H; rw [hy266]; with_reducible exact H2_) | (have H2_ := (Option.bind_some _ _).symm.trans H; with_reducible exact H2_) | with_reducible exact H | (rw [hy266]; exact H) | exact H
    have Ny266 := am_ hy266; clear hy266; replace H := Option.bind_eq_some_iff.mp H
    obtain ⟨⟨t269, t270⟩, A60, H⟩ := H
    replace H : ((Z36.f s0_0 t270 (([1, 1, 2, 4, 9] : List Int))).bind fun bt274 => (if (wrap64 ((wrap64 (x6_1 + t269)) + bt274.1)) > a1 then (some (x5_1, bt274.2)) else (if x5_1.length < 8796093022208 then (Z27.l0 k1 a1 (x5_1 ++ [(⟨wrap64 (x6_1 + t269), wrap64 ((wrap64 (x6_1 + t269)) + bt274.1)⟩ : S46)]) (wrap64 ((wrap64 ((wrap64 (x6_1 + t269)) + bt274.1)) + 1)) t264 (wrap64 (x11_1 + 1)) s0_0 bt274.2) else (none)))) = some (r1, r2) := H
    have A6 := am_ A60; clear A60
    obtain ⟨y271, hy271⟩ : ∃ y_ : List Int, y_ = (([1, 1, 2, 4, 9] : List Int)) := ⟨_, rfl⟩
    replace H : ((Z36.f s0_0 t270 y271).bind fun bt274 => (if (wrap64 ((wrap64 (x6_1 + t269)) + bt274.1)) > a1 then (some (x5_1, bt274.2)) else (if x5_1.length < 8796093022208 then (Z27.l0 k1 a1 (x5_1 ++ [(⟨wrap64 (x6_1 + t269), wrap64 ((wrap64 (x6_1 + t269)) + bt274.1)⟩ : S46)]) (wrap64 ((wrap64 ((wrap64 (x6_1 + t269)) + bt274.1)) + 1)) t264 (wrap64 (x11_1 + 1)) s0_0 bt274.2) else (none)))) = some (r1, r2) := by first | (rw [hy271]; with_reducible exact H) | (have H2_ := (Option.bind_some _ _).symm.trans H; rw [hy271]; with_reducible exact H2_) | (have H2_ := (Option.bind_some _ _).symm.trans H; with_reducible exact H2_) | with_reducible exact H | (rw [hy271]; exact H) | exact H
    have Ny271 := am_ hy271; clear hy271; replace H := Option.bind_eq_some_iff.mp H
    obtain ⟨⟨t274, t275⟩, A70, H⟩ := H
    replace H : (if (wrap64 ((wrap64 (x6_1 + t269)) + t274)) > a1 then (some (x5_1, t275)) else (if x5_1.length < 8796093022208 then (Z27.l0 k1 a1 (x5_1 ++ [(⟨wrap64 (x6_1 + t269), wrap64 ((wrap64 (x6_1 + t269)) + t274)⟩ : S46)]) (wrap64 ((wrap64 ((wrap64 (x6_1 + t269)) + t274)) + 1)) t264 (wrap64 (x11_1 + 1)) s0_0 t275) else (none))) = some (r1, r2) := H
    have A7 := am_ A70; clear A70
    by_cases c8 : (wrap64 ((wrap64 (x6_1 + t269)) + t274)) > a1
    ·rw [if_pos c8] at H
     have c8b0 : decide (a1 < (wrap64 ((wrap64 (x6_1 + t269)) + t274))) = true := decide_eq_true c8
     clear c8
     simp only [Option.some.injEq, Prod.mk.injEq] at H
     obtain ⟨rfl, rfl⟩ := H
     go_wp2_with (first | ((with_reducible refine gate_dst (N := 15) rfl ?_); refine Kd.R_lit (Kd.int .i64) _ 3 ?hg (N := 15) ?hd (xs := ([0, 1, 2, 5] : List Int)) (inner := [.int .i64 0, .int .i64 1, .int .i64 2, .int .i64 5]) (ok := fun _ => True) (okp := fun _ => True) ?hr ?hp (fun _ hk => hk) trivial (Below.refl _ _) (Nat.le_refl _) (by simp) ?_; (case hd => rfl); (case hg => rfl); (case hr => first | (go_simp; done) | (go_simp; rfl)); (case hp => exact (Reps.one (show Kd.M (Kd.int .i64) _ _ _ 0 [.int .i64 0] from rfl) (Reps.one (show Kd.M (Kd.int .i64) _ _ _ 1 [.int .i64 1] from rfl) (Reps.one (show Kd.M (Kd.int .i64) _ _ _ 2 [.int .i64 2] from rfl) (Reps.one (show Kd.M (Kd.int .i64) _ _ _ 5 [.int .i64 5] from rfl) (Reps.none _ _)))))); intro v267 w9 ho10 hb hg_ hnew_; clear hg_ hnew_; (first | rw [← Ny266.out] at ho10 | (simp only [Int.reduceToNat] at ho10; rw [← Ny266.out] at ho10)); have n0_ := am_ (Kd.R_below (rr_ HO_5.out) hb); have n1_ := am_ (Kd.R_lower ho10 (keep_size (w := w) (g := g) (row := none) (kk_ HK.out))); have n2_ := am_ (IsS25.below (is_ HI0.out) hb); have n3_ := am_ (KeepBut.trans (kk_ HK.out) (KeepBut.of_below hb g none) (.inl rfl)); have n4_ := am_ (below_step (bs_ HB.out (IsS25.ge HI0.out)) hb); clear HO_5; clear HI0; clear HK; clear HB; have HO_5 := n0_; have HO268 := n1_; have HI0 := n2_; have HK := n3_; have HB := n4_; clear n0_ n1_ n2_ n3_ n4_; clear hb ho10; obtain ⟨Ao11, co11, eo11⟩ := Kd.R_slice HO268.out; subst eo11) | ((with_reducible refine gate_callee (f := 52) rfl ?_); refine goesL_ (some 16) rfl rfl Tryd.func52 (by kernel_rfl) rfl #[.pointer (some ⟨g, 0, none⟩), .slice Ao11 y266.length co11] rfl gl_ ?_; (with_reducible refine (Z36.calls g s0_0 x1001_1 _ _ y266 t269 t270 w0 _ ?side1 ?side2 ?side3 ?side4 ?side5 A6.out).mono ?_); (case side1 => exact is_ HI0.out); (case side2 => exact bs_ HB.out (IsS25.ge HI0.out)); (case side3 => exact cc_ (Kd.R_reads' HO268.out).2.2); (case side4 => exact (Kd.R_reads' HO268.out).2.1); (case side5 => exact far_slice (IsS25.own_ne HI0.out HO268.out (by decide))); rintro e w12 ⟨rfl, hi, hb, hk⟩; refine ⟨_, rfl, ?_⟩; have n0_ := am_ (Kd.R_mono (Kd.R_keep (IsS25.apart (show IsS25 w0 _ g s0_0 x1001_1 from is_ HI0.out) (rr_ HO_5.out) (by decide)) hk (fun _ h => h.2)) (fun _ h => h.1)); have n1_ := am_ (Kd.R_mono (Kd.R_keep (IsS25.apart (show IsS25 w0 _ g s0_0 x1001_1 from is_ HI0.out) (rr_ HO268.out) (by decide)) hk (fun _ h => h.2)) (fun _ h => h.1)); have n2_ := am_ (KeepBut.trans (kk_ HK.out) hk (.inl rfl)); have n3_ := am_ (hb); have n4_ := am_ (hi); clear HO_5; clear HO268; clear HK; clear HB; clear HI0; have HO_5 := n0_; have HO268 := n1_; have HK := n2_; have HB := n3_; have HI0 := n4_; clear n0_ n1_ n2_ n3_ n4_; (try clear hb); (try clear hb2); (try clear hk); (try clear hi)) | ((with_reducible refine gate_dst (N := 20) rfl ?_); refine Kd.R_lit (Kd.int .i64) _ 3 ?hg (N := 20) ?hd (xs := ([1, 1, 2, 4, 9] : List Int)) (inner := [.int .i64 1, .int .i64 1, .int .i64 2, .int .i64 4, .int .i64 9]) (ok := fun _ => True) (okp := fun _ => True) ?hr ?hp (fun _ hk => hk) trivial (Below.refl _ _) (Nat.le_refl _) (by simp) ?_; (case hd => rfl); (case hg => rfl); (case hr => first | (go_simp; done) | (go_simp; rfl)); (case hp => exact (Reps.one (show Kd.M (Kd.int .i64) _ _ _ 1 [.int .i64 1] from rfl) (Reps.one (show Kd.M (Kd.int .i64) _ _ _ 1 [.int .i64 1] from rfl) (Reps.one (show Kd.M (Kd.int .i64) _ _ _ 2 [.int .i64 2] from rfl) (Reps.one (show Kd.M (Kd.int .i64) _ _ _ 4 [.int .i64 4] from rfl) (Reps.one (show Kd.M (Kd.int .i64) _ _ _ 9 [.int .i64 9] from rfl) (Reps.none _ _))))))); intro v272 w13 ho14 hb hg_ hnew_; clear hg_ hnew_; (first | rw [← Ny271.out] at ho14 | (simp only [Int.reduceToNat] at ho14; rw [← Ny271.out] at ho14)); have n0_ := am_ (Kd.R_below (rr_ HO_5.out) hb); have n1_ := am_ (Kd.R_elder' (rr_ HO268.out) (Kd.R_base ho14) hb); have n2_ := am_ (Kd.R_lower (Kd.R_new' ho14 (Kd.R_lt (rr_ HO268.out))) (keep_size (w := w) (g := g) (row := none) (kk_ HK.out))); have n3_ := am_ (IsS25.below (is_ HI0.out) hb); have n4_ := am_ (KeepBut.trans (kk_ HK.out) (KeepBut.of_below hb g none) (.inl rfl)); have n5_ := am_ (below_step (bs_ HB.out (IsS25.ge HI0.out)) hb); clear HO_5; clear HO268; clear HI0; clear HK; clear HB; have HO_5 := n0_; have HO268 := n1_; have HO273 := n2_; have HI0 := n3_; have HK := n4_; have HB := n5_; clear n0_ n1_ n2_ n3_ n4_ n5_; clear hb ho14; obtain ⟨Ao15, co15, eo15⟩ := Kd.R_slice HO273.out; subst eo15) | ((with_reducible refine gate_callee (f := 52) rfl ?_); refine goesL_ (some 21) rfl rfl Tryd.func52 (by kernel_rfl) rfl #[.pointer (some ⟨g, 0, none⟩), .slice Ao15 y271.length co15] rfl gl_ ?_; (with_reducible refine (Z36.calls g s0_0 t270 _ _ y271 t274 t275 w0 _ ?side1 ?side2 ?side3 ?side4 ?side5 A7.out).mono ?_); (case side1 => exact is_ HI0.out); (case side2 => exact bs_ HB.out (IsS25.ge HI0.out)); (case side3 => exact cc_ (Kd.R_reads' HO273.out).2.2); (case side4 => exact (Kd.R_reads' HO273.out).2.1); (case side5 => exact far_slice (IsS25.own_ne HI0.out HO273.out (by decide))); rintro e w16 ⟨rfl, hi, hb, hk⟩; refine ⟨_, rfl, ?_⟩; have n0_ := am_ (Kd.R_mono (Kd.R_keep (IsS25.apart (show IsS25 w0 _ g s0_0 t270 from is_ HI0.out) (rr_ HO_5.out) (by decide)) hk (fun _ h => h.2)) (fun _ h => h.1)); have n1_ := am_ (Kd.R_mono (Kd.R_keep (IsS25.apart (show IsS25 w0 _ g s0_0 t270 from is_ HI0.out) (rr_ HO268.out) (by decide)) hk (fun _ h => h.2)) (fun _ h => h.1)); have n2_ := am_ (Kd.R_mono (Kd.R_keep (IsS25.apart (show IsS25 w0 _ g s0_0 t270 from is_ HI0.out) (rr_ HO273.out) (by decide)) hk (fun _ h => h.2)) (fun _ h => h.1)); have n3_ := am_ (KeepBut.trans (kk_ HK.out) hk (.inl rfl)); have n4_ := am_ (hb); have n5_ := am_ (hi); clear HO_5; clear HO268; clear HO273; clear HK; clear HB; clear HI0; have HO_5 := n0_; have HO268 := n1_; have HO273 := n2_; have HK := n3_; have HB := n4_; have HI0 := n5_; clear n0_ n1_ n2_ n3_ n4_ n5_; (try clear hb); (try clear hb2); (try clear hk); (try clear hi)))
     go_ret
     exact ⟨_, by first | rfl | (simp [errW_none, errW_some] <;> rfl) | (simp [*, errW_none, errW_some] <;> rfl), by (with_reducible repeat (first | apply r1_ | apply r2_ | apply r3_)); exact HO_5.out, is_ HI0.out, bs_ HB.out (IsS25.ge HI0.out), kk_ HK.out⟩
    ·rw [if_neg c8] at H
     have c8b0 : decide (a1 < (wrap64 ((wrap64 (x6_1 + t269)) + t274))) = false := decide_eq_false c8
     clear c8
     by_cases c17 : x5_1.length < 8796093022208
     case neg => exact (nn_ c17 H).elim
     rw [if_pos c17] at H; have LMc17 := am_ c17; clear c17
     obtain ⟨y276, hy276⟩ : ∃ y_ : List (S46), y_ = (x5_1 ++ [(⟨wrap64 (x6_1 + t269), wrap64 ((wrap64 (x6_1 + t269)) + t274)⟩ : S46)]) := ⟨_, rfl⟩
     replace H : (Z27.l0 k1 a1 y276 (wrap64 ((wrap64 ((wrap64 (x6_1 + t269)) + t274)) + 1)) t264 (wrap64 (x11_1 + 1)) s0_0 t275) = some (r1, r2) := by first | (rw [hy276]; with_reducible exact H) | (have H2_ := (Option.bind_some _ _).symm.trans H; rw [hy276]; with_reducible exact H2_) | (have H2_ := (Option.bind_some _ _).symm.trans H; with_reducible exact H2_) | with_reducible exact H | (rw [hy276]; exact H) | exact H
     have Ny276 := am_ hy276; clear hy276
     have H' := am_ H
     clear H
     go_wp2_with (first | ((with_reducible refine gate_dst (N := 15) rfl ?_); refine Kd.R_lit (Kd.int .i64) _ 3 ?hg (N := 15) ?hd (xs := ([0, 1, 2, 5] : List Int)) (inner := [.int .i64 0, .int .i64 1, .int .i64 2, .int .i64 5]) (ok := fun _ => True) (okp := fun _ => True) ?hr ?hp (fun _ hk => hk) trivial (Below.refl _ _) (Nat.le_refl _) (by simp) ?_; (case hd => rfl); (case hg => rfl); (case hr => first | (go_simp; done) | (go_simp; rfl)); (case hp => exact (Reps.one (show Kd.M (Kd.int .i64) _ _ _ 0 [.int .i64 0] from rfl) (Reps.one (show Kd.M (Kd.int .i64) _ _ _ 1 [.int .i64 1] from rfl) (Reps.one (show Kd.M (Kd.int .i64) _ _ _ 2 [.int .i64 2] from rfl) (Reps.one (show Kd.M (Kd.int .i64) _ _ _ 5 [.int .i64 5] from rfl) (Reps.none _ _)))))); intro v267 w18 ho19 hb hg_ hnew_; clear hg_ hnew_; (first | rw [← Ny266.out] at ho19 | (simp only [Int.reduceToNat] at ho19; rw [← Ny266.out] at ho19)); have n0_ := am_ (Kd.R_below (rr_ HO_5.out) hb); have n1_ := am_ (Kd.R_lower ho19 (keep_size (w := w) (g := g) (row := none) (kk_ HK.out))); have n2_ := am_ (IsS25.below (is_ HI0.out) hb); have n3_ := am_ (KeepBut.trans (kk_ HK.out) (KeepBut.of_below hb g none) (.inl rfl)); have n4_ := am_ (below_step (bs_ HB.out (IsS25.ge HI0.out)) hb); clear HO_5; clear HI0; clear HK; clear HB; have HO_5 := n0_; have HO268 := n1_; have HI0 := n2_; have HK := n3_; have HB := n4_; clear n0_ n1_ n2_ n3_ n4_; clear hb ho19; obtain ⟨Ao20, co20, eo20⟩ := Kd.R_slice HO268.out; subst eo20) | ((with_reducible refine gate_callee (f := 52) rfl ?_); refine goesL_ (some 16) rfl rfl Tryd.func52 (by kernel_rfl) rfl #[.pointer (some ⟨g, 0, none⟩), .slice Ao20 y266.length co20] rfl gl_ ?_; (with_reducible refine (Z36.calls g s0_0 x1001_1 _ _ y266 t269 t270 w0 _ ?side1 ?side2 ?side3 ?side4 ?side5 A6.out).mono ?_); (case side1 => exact is_ HI0.out); (case side2 => exact bs_ HB.out (IsS25.ge HI0.out)); (case side3 => exact cc_ (Kd.R_reads' HO268.out).2.2); (case side4 => exact (Kd.R_reads' HO268.out).2.1); (case side5 => exact far_slice (IsS25.own_ne HI0.out HO268.out (by decide))); rintro e w21 ⟨rfl, hi, hb, hk⟩; refine ⟨_, rfl, ?_⟩; have n0_ := am_ (Kd.R_mono (Kd.R_keep (IsS25.apart (show IsS25 w0 _ g s0_0 x1001_1 from is_ HI0.out) (rr_ HO_5.out) (by decide)) hk (fun _ h => h.2)) (fun _ h => h.1)); have n1_ := am_ (Kd.R_mono (Kd.R_keep (IsS25.apart (show IsS25 w0 _ g s0_0 x1001_1 from is_ HI0.out) (rr_ HO268.out) (by decide)) hk (fun _ h => h.2)) (fun _ h => h.1)); have n2_ := am_ (KeepBut.trans (kk_ HK.out) hk (.inl rfl)); have n3_ := am_ (hb); have n4_ := am_ (hi); clear HO_5; clear HO268; clear HK; clear HB; clear HI0; have HO_5 := n0_; have HO268 := n1_; have HK := n2_; have HB := n3_; have HI0 := n4_; clear n0_ n1_ n2_ n3_ n4_; (try clear hb); (try clear hb2); (try clear hk); (try clear hi)) | ((with_reducible refine gate_dst (N := 20) rfl ?_); refine Kd.R_lit (Kd.int .i64) _ 3 ?hg (N := 20) ?hd (xs := ([1, 1, 2, 4, 9] : List Int)) (inner := [.int .i64 1, .int .i64 1, .int .i64 2, .int .i64 4, .int .i64 9]) (ok := fun _ => True) (okp := fun _ => True) ?hr ?hp (fun _ hk => hk) trivial (Below.refl _ _) (Nat.le_refl _) (by simp) ?_; (case hd => rfl); (case hg => rfl); (case hr => first | (go_simp; done) | (go_simp; rfl)); (case hp => exact (Reps.one (show Kd.M (Kd.int .i64) _ _ _ 1 [.int .i64 1] from rfl) (Reps.one (show Kd.M (Kd.int .i64) _ _ _ 1 [.int .i64 1] from rfl) (Reps.one (show Kd.M (Kd.int .i64) _ _ _ 2 [.int .i64 2] from rfl) (Reps.one (show Kd.M (Kd.int .i64) _ _ _ 4 [.int .i64 4] from rfl) (Reps.one (show Kd.M (Kd.int .i64) _ _ _ 9 [.int .i64 9] from rfl) (Reps.none _ _))))))); intro v272 w22 ho23 hb hg_ hnew_; clear hg_ hnew_; (first | rw [← Ny271.out] at ho23 | (simp only [Int.reduceToNat] at ho23; rw [← Ny271.out] at ho23)); have n0_ := am_ (Kd.R_below (rr_ HO_5.out) hb); have n1_ := am_ (Kd.R_elder' (rr_ HO268.out) (Kd.R_base ho23) hb); have n2_ := am_ (Kd.R_lower (Kd.R_new' ho23 (Kd.R_lt (rr_ HO268.out))) (keep_size (w := w) (g := g) (row := none) (kk_ HK.out))); have n3_ := am_ (IsS25.below (is_ HI0.out) hb); have n4_ := am_ (KeepBut.trans (kk_ HK.out) (KeepBut.of_below hb g none) (.inl rfl)); have n5_ := am_ (below_step (bs_ HB.out (IsS25.ge HI0.out)) hb); clear HO_5; clear HO268; clear HI0; clear HK; clear HB; have HO_5 := n0_; have HO268 := n1_; have HO273 := n2_; have HI0 := n3_; have HK := n4_; have HB := n5_; clear n0_ n1_ n2_ n3_ n4_ n5_; clear hb ho23; obtain ⟨Ao24, co24, eo24⟩ := Kd.R_slice HO273.out; subst eo24) | ((with_reducible refine gate_callee (f := 52) rfl ?_); refine goesL_ (some 21) rfl rfl Tryd.func52 (by kernel_rfl) rfl #[.pointer (some ⟨g, 0, none⟩), .slice Ao24 y271.length co24] rfl gl_ ?_; (with_reducible refine (Z36.calls g s0_0 t270 _ _ y271 t274 t275 w0 _ ?side1 ?side2 ?side3 ?side4 ?side5 A7.out).mono ?_); (case side1 => exact is_ HI0.out); (case side2 => exact bs_ HB.out (IsS25.ge HI0.out)); (case side3 => exact cc_ (Kd.R_reads' HO273.out).2.2); (case side4 => exact (Kd.R_reads' HO273.out).2.1); (case side5 => exact far_slice (IsS25.own_ne HI0.out HO273.out (by decide))); rintro e w25 ⟨rfl, hi, hb, hk⟩; refine ⟨_, rfl, ?_⟩; have n0_ := am_ (Kd.R_mono (Kd.R_keep (IsS25.apart (show IsS25 w0 _ g s0_0 t270 from is_ HI0.out) (rr_ HO_5.out) (by decide)) hk (fun _ h => h.2)) (fun _ h => h.1)); have n1_ := am_ (Kd.R_mono (Kd.R_keep (IsS25.apart (show IsS25 w0 _ g s0_0 t270 from is_ HI0.out) (rr_ HO268.out) (by decide)) hk (fun _ h => h.2)) (fun _ h => h.1)); have n2_ := am_ (Kd.R_mono (Kd.R_keep (IsS25.apart (show IsS25 w0 _ g s0_0 t270 from is_ HI0.out) (rr_ HO273.out) (by decide)) hk (fun _ h => h.2)) (fun _ h => h.1)); have n3_ := am_ (KeepBut.trans (kk_ HK.out) hk (.inl rfl)); have n4_ := am_ (hb); have n5_ := am_ (hi); clear HO_5; clear HO268; clear HO273; clear HK; clear HB; clear HI0; have HO_5 := n0_; have HO268 := n1_; have HO273 := n2_; have HK := n3_; have HB := n4_; have HI0 := n5_; clear n0_ n1_ n2_ n3_ n4_ n5_; (try clear hb); (try clear hb2); (try clear hk); (try clear hi)) | ((with_reducible refine gate_builtin (b := .append) (xs := #[.tmp 26, .tmp 30]) rfl ?_); at_builtin; refine Kd.R_append k46 w.heap.size rfl (.tmp 26) (.tmp 30) 38 46 (.agg #[(.int .i64 0), (.int .i64 0)]) 16 rfl Tryd.underlying38 info46 rfl (by decide) (by omega) u5 x5_1 (⟨wrap64 (x6_1 + t269), wrap64 ((wrap64 (x6_1 + t269)) + t274)⟩ : S46) [.int .i64 (wrap64 (x6_1 + t269)), .int .i64 (wrap64 ((wrap64 (x6_1 + t269)) + t274))] (fun _ => True) (fun _ => False) rfl rfl ?aP (fun _ hk => hk.elim) ?aF ?aO (Below.refl _ _) ?aS ?aL ?_; (case aP => exact k46_mkM _ _ _ (⟨wrap64 (x6_1 + t269), wrap64 ((wrap64 (x6_1 + t269)) + t274)⟩ : S46)); (case aF => exact (fun _ _ => trivial)); (case aO => exact (rr_ HO_5.out)); (case aS => exact (keep_size (w := w) (g := g) (row := none) (kk_ HK.out))); (case aL => have := LMc17.out; omega); intro v277 w26 ho hb hg hat; rw [← Ny276.out] at ho; have n0_ := am_ (IsS25.grown (is_ HI0.out) hg (IsS25.own_ne HI0.out HO_5.out (by decide))); have n1_ := am_ (Kd.R_over' (rr_ HO268.out) (Kd.R_typed (rr_ HO_5.out)) (by decide) hg); have n2_ := am_ (Kd.R_over' (rr_ HO273.out) (Kd.R_typed (rr_ HO_5.out)) (by decide) hg); have n3_ := am_ (below_weaken (bs_ HB.out (IsS25.ge HI0.out)) HL.out hb); have n4_ := am_ (KeepBut.trans (kk_ HK.out) (KeepBut.of_grown hg g) (Kd.R_base2 HO_5.out)); have n5_ := am_ (ho); clear HI0; clear HO268; clear HO273; clear HB; clear HK; clear HO_5; have HI0 := n0_; have HO268 := n1_; have HO273 := n2_; have HB := n3_; have HK := n4_; have HO278 := n5_; clear n0_ n1_ n2_ n3_ n4_ n5_; clear ho hb hg hat))
     go_roundg k1
     case measure => have := HK1.out; omega
     case rel => exact ⟨(y276), (wrap64 ((wrap64 ((wrap64 (x6_1 + t269)) + t274)) + 1)), (wrap64 (x11_1 + 1)), (t275), tr_, tr_, H', ⟨by have := HK1.out; omega⟩, ⟨rr_ HO278.out⟩, ⟨is_ HI0.out⟩, ⟨kk_ HK.out⟩, ⟨bs_ HB.out (IsS25.ge HI0.out)⟩⟩
   ·rw [if_neg c5] at H
    have c5b0 : decide (x11_1 < t264) = false := decide_eq_false c5
    clear c5
    simp only [Option.some.injEq, Prod.mk.injEq] at H
    obtain ⟨rfl, rfl⟩ := H
    go_wp2
    go_ret
    exact ⟨_, by first | rfl | (simp [errW_none, errW_some] <;> rfl) | (simp [*, errW_none, errW_some] <;> rfl), by (with_reducible repeat (first | apply r1_ | apply r2_ | apply r3_)); exact HO_5.out, is_ HI0.out, bs_ HB.out (IsS25.ge HI0.out), kk_ HK.out⟩
def Z43.f (k : Nat) (s0_0 : List Int) (s0_1 : Int) (a1 : Int) : Option ((List (S46)) × Int) := (Z27.f k s0_0 s0_1 a1).bind fun bt279 => ((Z45.f s0_0 bt279.2 10).bind fun bt283 => (if bt283.1 = true then ((Z36.f s0_0 bt283.2 (([(-1), 0, a1, wrap64 (a1 - 1)] : List Int))).bind fun bt288 => ((Z36.f s0_0 bt288.2 (([0, a1, wrap64 (a1 + 1)] : List Int))).bind fun bt293 => (if bt279.1.length < 8796093022208 then (some ((bt279.1 ++ [(⟨bt288.1, bt293.1⟩ : S46)]), bt293.2)) else (none)))) else (some (bt279.1, bt283.2))))
theorem Z43.mono : ∀ a0 a1 a2 k, LeO (Z43.f k a0 a1 a2) (Z43.f (k + 1) a0 a1 a2) := by
  intro a0 a1 a2 k
  unfold Z43.f
  repeat' first
      | (with_reducible exact Z27.mono _ _ _ _)
      | (with_reducible exact LeO.refl _)
      | (with_reducible exact LeO.none _)
      | (with_reducible refine LeO.ite ?_ ?_)
      | (with_reducible refine LeO.bind ?_ (fun _ => ?_))
      | exact LeO.none _
      | refine LeO.ite ?_ ?_
      | refine LeO.bind ?_ (fun _ => ?_)
set_option maxHeartbeats 8000000 in
set_option maxRecDepth 100000 in
theorem Z43.calls (k : Nat) (g : Nat) (s0_0 : List Int) (s0_1 : Int) (a1 : Int) (r1 : List (S46)) (r2 : Int) (w0 w : World) (hI : IsS25 w0 w g s0_0 s0_1) (hB : Below w0.heap.size w0 w) (h : Z43.f k s0_0 s0_1 a1 = some (r1, r2)) :
  Calls Tryd.prog 27 #[.pointer (some ⟨g, 0, none⟩), .int .i64 a1] w fun e w' => ∃ v0_ : Value, e = .returned (v0_) ∧ Kd.R k46 46 w' w.heap.size (fun _ => True) v0_ r1 ∧ IsS25 w0 w' g s0_0 r2 ∧ Below w0.heap.size w0 w' ∧ KeepBut w w' g none := by
 have hu46 := Tryd.underlying46
 have HI0 := am_ hI
 have HK := am_ (KeepBut.refl w g none)
 have HL := am_ hB.size; clear hI; have HW0 := am_ hB.size; have HB := am_ hB; clear hB
 have H : ((Z27.f k s0_0 s0_1 a1).bind fun bt279 => ((Z45.f s0_0 bt279.2 10).bind fun bt283 => (if bt283.1 = true then ((Z36.f s0_0 bt283.2 (([(-1), 0, a1, wrap64 (a1 - 1)] : List Int))).bind fun bt288 => ((Z36.f s0_0 bt288.2 (([0, a1, wrap64 (a1 + 1)] : List Int))).bind fun bt293 => (if bt279.1.length < 8796093022208 then (some ((bt279.1 ++ [(⟨bt288.1, bt293.1⟩ : S46)]), bt293.2)) else (none)))) else (some (bt279.1, bt283.2))))) = some (r1, r2) := h
 clear h; replace H := Option.bind_eq_some_iff.mp H
 obtain ⟨⟨t279, t282⟩, A30, H⟩ := H
 replace H : ((Z45.f s0_0 t282 10).bind fun bt283 => (if bt283.1 = true then ((Z36.f s0_0 bt283.2 (([(-1), 0, a1, wrap64 (a1 - 1)] : List Int))).bind fun bt288 => ((Z36.f s0_0 bt288.2 (([0, a1, wrap64 (a1 + 1)] : List Int))).bind fun bt293 => (if t279.length < 8796093022208 then (some ((t279 ++ [(⟨bt288.1, bt293.1⟩ : S46)]), bt293.2)) else (none)))) else (some (t279, bt283.2)))) = some (r1, r2) := H
 have A3 := am_ A30; clear A30; replace H := Option.bind_eq_some_iff.mp H
 obtain ⟨⟨t283, t284⟩, A40, H⟩ := H
 replace H : (if t283 = true then ((Z36.f s0_0 t284 (([(-1), 0, a1, wrap64 (a1 - 1)] : List Int))).bind fun bt288 => ((Z36.f s0_0 bt288.2 (([0, a1, wrap64 (a1 + 1)] : List Int))).bind fun bt293 => (if t279.length < 8796093022208 then (some ((t279 ++ [(⟨bt288.1, bt293.1⟩ : S46)]), bt293.2)) else (none)))) else (some (t279, t284))) = some (r1, r2) := H
 have A4 := am_ A40; clear A40
 by_cases c5 : t283 = true
 ·subst c5
  have H1 : ((Z36.f s0_0 t284 (([(-1), 0, a1, wrap64 (a1 - 1)] : List Int))).bind fun bt288 => ((Z36.f s0_0 bt288.2 (([0, a1, wrap64 (a1 + 1)] : List Int))).bind fun bt293 => (if t279.length < 8796093022208 then (some ((t279 ++ [(⟨bt288.1, bt293.1⟩ : S46)]), bt293.2)) else (none)))) = some (r1, r2) := by rw [if_pos rfl] at H; exact H
  clear H
  have H := H1
  clear H1
  obtain ⟨y285, hy285⟩ : ∃ y_ : List Int, y_ = (([(-1), 0, a1, wrap64 (a1 - 1)] : List Int)) := ⟨_, rfl⟩
  replace H : ((Z36.f s0_0 t284 y285).bind fun bt288 => ((Z36.f s0_0 bt288.2 (([0, a1, wrap64 (a1 + 1)] : List Int))).bind fun bt293 => (if t279.length < 8796093022208 then (some ((t279 ++ [(⟨bt288.1, bt293.1⟩ : S46)]), bt293.2)) else (none)))) = some (r1, r2) := by first | (rw [hy285]; with_reducible exact H) | (have H2_ := (Option.bind_some _ _).symm.trans H; rw [hy285]; with_reducible exact H2_) | (have H2_ := (Option.bind_some _ _).symm.trans H; with_reducible exact H2_) | with_reducible exact H | (rw [hy285]; exact H) | exact H
  have Ny285 := am_ hy285; clear hy285; replace H := Option.bind_eq_some_iff.mp H
  obtain ⟨⟨t288, t289⟩, A60, H⟩ := H
  replace H : ((Z36.f s0_0 t289 (([0, a1, wrap64 (a1 + 1)] : List Int))).bind fun bt293 => (if t279.length < 8796093022208 then (some ((t279 ++ [(⟨t288, bt293.1⟩ : S46)]), bt293.2)) else (none))) = some (r1, r2) := H
  have A6 := am_ A60; clear A60
  obtain ⟨y290, hy290⟩ : ∃ y_ : List Int, y_ = (([0, a1, wrap64 (a1 + 1)] : List Int)) := ⟨_, rfl⟩
  replace H : ((Z36.f s0_0 t289 y290).bind fun bt293 => (if t279.length < 8796093022208 then (some ((t279 ++ [(⟨t288, bt293.1⟩ : S46)]), bt293.2)) else (none))) = some (r1, r2) := by first | (rw [hy290]; with_reducible exact H) | (have H2_ := (Option.bind_some _ _).symm.trans H; rw [hy290]; with_reducible exact H2_) | (have H2_ := (Option.bind_some _ _).symm.trans H; with_reducible exact H2_) | with_reducible exact H | (rw [hy290]; exact H) | exact H
  have Ny290 := am_ hy290; clear hy290; replace H := Option.bind_eq_some_iff.mp H
  obtain ⟨⟨t293, t294⟩, A70, H⟩ := H
  replace H : (if t279.length < 8796093022208 then (some ((t279 ++ [(⟨t288, t293⟩ : S46)]), t294)) else (none)) = some (r1, r2) := H
  have A7 := am_ A70; clear A70
  by_cases c8 : t279.length < 8796093022208
  case neg => exact (nn_ c8 H).elim
  rw [if_pos c8] at H; have LMc8 := am_ c8; clear c8
  obtain ⟨y295, hy295⟩ : ∃ y_ : List (S46), y_ = (t279 ++ [(⟨t288, t293⟩ : S46)]) := ⟨_, rfl⟩
  replace H : (some (y295, t294)) = some (r1, r2) := by first | (rw [hy295]; with_reducible exact H) | (have H2_ := (Option.bind_some _ _).symm.trans H; rw [hy295]; with_reducible exact H2_) | (have H2_ := (Option.bind_some _ _).symm.trans H; with_reducible exact H2_) | with_reducible exact H | (rw [hy295]; exact H) | exact H
  have Ny295 := am_ hy295; clear hy295
  simp only [Option.some.injEq, Prod.mk.injEq] at H
  obtain ⟨rfl, rfl⟩ := H
  go_enter Tryd.func27, Tryd.ntmps27
  go_wp2_with (first | ((with_reducible refine gate_callee (f := 18) rfl ?_); refine goesL_ (some 8) rfl rfl Tryd.func18 (by kernel_rfl) rfl #[.pointer (some ⟨g, 0, none⟩), .int .i64 a1] rfl gl_ ?_; (with_reducible refine (Z27.calls k g s0_0 s0_1 a1 t279 t282 w0 _ ?side1 ?side2 A3.out).mono ?_); (case side1 => exact is_ HI0.out); (case side2 => exact bs_ HB.out (IsS25.ge HI0.out)); rintro e w9 ⟨v280, rfl, ho0, hi, hb, hk⟩; refine ⟨_, rfl, ?_⟩; have n0_ := am_ (Kd.R_lower ho0 (keep_size (w := w) (g := g) (row := none) (kk_ HK.out))); have n1_ := am_ (KeepBut.trans (kk_ HK.out) hk (.inl rfl)); have n2_ := am_ (hb); have n3_ := am_ (hi); clear HK; clear HB; clear HI0; have HO281 := n0_; have HK := n1_; have HB := n2_; have HI0 := n3_; clear n0_ n1_ n2_ n3_; (try clear hb); (try clear hb2); (try clear hk); (try clear hi); (try clear ho0)) | ((with_reducible refine gate_callee (f := 50) rfl ?_); refine goesL_ (some 10) rfl rfl Tryd.func50 (by kernel_rfl) rfl #[.pointer (some ⟨g, 0, none⟩), .int .i64 10] rfl gl_ ?_; (with_reducible refine (Z45.calls g s0_0 t282 10 true t284 w0 _ ?side1 ?side2 A4.out).mono ?_); (case side1 => exact is_ HI0.out); (case side2 => exact bs_ HB.out (IsS25.ge HI0.out)); rintro e w10 ⟨rfl, hi, hb, hk⟩; refine ⟨_, rfl, ?_⟩; have n0_ := am_ (Kd.R_mono (Kd.R_keep (IsS25.apart (show IsS25 w0 _ g s0_0 t282 from is_ HI0.out) (rr_ HO281.out) (by decide)) hk (fun _ h => h.2)) (fun _ h => h.1)); have n1_ := am_ (KeepBut.trans (kk_ HK.out) hk (.inl rfl)); have n2_ := am_ (hb); have n3_ := am_ (hi); clear HO281; clear HK; clear HB; clear HI0; have HO281 := n0_; have HK := n1_; have HB := n2_; have HI0 := n3_; clear n0_ n1_ n2_ n3_; (try clear hb); (try clear hb2); (try clear hk); (try clear hi)) | ((with_reducible refine gate_dst (N := 16) rfl ?_); refine Kd.R_lit (Kd.int .i64) _ 3 ?hg (N := 16) ?hd (xs := ([(-1), 0, a1, wrap64 (a1 - 1)] : List Int)) (inner := [.int .i64 (-1), .int .i64 0, .int .i64 a1, .int .i64 (wrap64 (a1 - 1))]) (ok := fun _ => True) (okp := fun _ => True) ?hr ?hp (fun _ hk => hk) trivial (Below.refl _ _) (Nat.le_refl _) (by simp) ?_; (case hd => rfl); (case hg => rfl); (case hr => first | (go_simp; done) | (go_simp; rfl)); (case hp => exact (Reps.one (show Kd.M (Kd.int .i64) _ _ _ (-1) [.int .i64 (-1)] from rfl) (Reps.one (show Kd.M (Kd.int .i64) _ _ _ 0 [.int .i64 0] from rfl) (Reps.one (show Kd.M (Kd.int .i64) _ _ _ a1 [.int .i64 a1] from rfl) (Reps.one (show Kd.M (Kd.int .i64) _ _ _ (wrap64 (a1 - 1)) [.int .i64 (wrap64 (a1 - 1))] from rfl) (Reps.none _ _)))))); intro v286 w11 ho12 hb hg_ hnew_; clear hg_ hnew_; (first | rw [← Ny285.out] at ho12 | (simp only [Int.reduceToNat] at ho12; rw [← Ny285.out] at ho12)); have n0_ := am_ (Kd.R_below (rr_ HO281.out) hb); have n1_ := am_ (Kd.R_lower ho12 (keep_size (w := w) (g := g) (row := none) (kk_ HK.out))); have n2_ := am_ (IsS25.below (is_ HI0.out) hb); have n3_ := am_ (KeepBut.trans (kk_ HK.out) (KeepBut.of_below hb g none) (.inl rfl)); have n4_ := am_ (below_step (bs_ HB.out (IsS25.ge HI0.out)) hb); clear HO281; clear HI0; clear HK; clear HB; have HO281 := n0_; have HO287 := n1_; have HI0 := n2_; have HK := n3_; have HB := n4_; clear n0_ n1_ n2_ n3_ n4_; clear hb ho12; obtain ⟨Ao13, co13, eo13⟩ := Kd.R_slice HO287.out; subst eo13) | ((with_reducible refine gate_callee (f := 52) rfl ?_); refine goesL_ (some 17) rfl rfl Tryd.func52 (by kernel_rfl) rfl #[.pointer (some ⟨g, 0, none⟩), .slice Ao13 y285.length co13] rfl gl_ ?_; (with_reducible refine (Z36.calls g s0_0 t284 _ _ y285 t288 t289 w0 _ ?side1 ?side2 ?side3 ?side4 ?side5 A6.out).mono ?_); (case side1 => exact is_ HI0.out); (case side2 => exact bs_ HB.out (IsS25.ge HI0.out)); (case side3 => exact cc_ (Kd.R_reads' HO287.out).2.2); (case side4 => exact (Kd.R_reads' HO287.out).2.1); (case side5 => exact far_slice (IsS25.own_ne HI0.out HO287.out (by decide))); rintro e w14 ⟨rfl, hi, hb, hk⟩; refine ⟨_, rfl, ?_⟩; have n0_ := am_ (Kd.R_mono (Kd.R_keep (IsS25.apart (show IsS25 w0 _ g s0_0 t284 from is_ HI0.out) (rr_ HO281.out) (by decide)) hk (fun _ h => h.2)) (fun _ h => h.1)); have n1_ := am_ (Kd.R_mono (Kd.R_keep (IsS25.apart (show IsS25 w0 _ g s0_0 t284 from is_ HI0.out) (rr_ HO287.out) (by decide)) hk (fun _ h => h.2)) (fun _ h => h.1)); have n2_ := am_ (KeepBut.trans (kk_ HK.out) hk (.inl rfl)); have n3_ := am_ (hb); have n4_ := am_ (hi); clear HO281; clear HO287; clear HK; clear HB; clear HI0; have HO281 := n0_; have HO287 := n1_; have HK := n2_; have HB := n3_; have HI0 := n4_; clear n0_ n1_ n2_ n3_ n4_; (try clear hb); (try clear hb2); (try clear hk); (try clear hi)) | ((with_reducible refine gate_dst (N := 22) rfl ?_); refine Kd.R_lit (Kd.int .i64) _ 3 ?hg (N := 22) ?hd (xs := ([0, a1, wrap64 (a1 + 1)] : List Int)) (inner := [.int .i64 0, .int .i64 a1, .int .i64 (wrap64 (a1 + 1))]) (ok := fun _ => True) (okp := fun _ => True) ?hr ?hp (fun _ hk => hk) trivial (Below.refl _ _) (Nat.le_refl _) (by simp) ?_; (case hd => rfl); (case hg => rfl); (case hr => first | (go_simp; done) | (go_simp; rfl)); (case hp => exact (Reps.one (show Kd.M (Kd.int .i64) _ _ _ 0 [.int .i64 0] from rfl) (Reps.one (show Kd.M (Kd.int .i64) _ _ _ a1 [.int .i64 a1] from rfl) (Reps.one (show Kd.M (Kd.int .i64) _ _ _ (wrap64 (a1 + 1)) [.int .i64 (wrap64 (a1 + 1))] from rfl) (Reps.none _ _))))); intro v291 w15 ho16 hb hg_ hnew_; clear hg_ hnew_; (first | rw [← Ny290.out] at ho16 | (simp only [Int.reduceToNat] at ho16; rw [← Ny290.out] at ho16)); have n0_ := am_ (Kd.R_below (rr_ HO281.out) hb); have n1_ := am_ (Kd.R_elder' (rr_ HO287.out) (Kd.R_base ho16) hb); have n2_ := am_ (Kd.R_lower (Kd.R_new' ho16 (Kd.R_lt (rr_ HO287.out))) (keep_size (w := w) (g := g) (row := none) (kk_ HK.out))); have n3_ := am_ (IsS25.below (is_ HI0.out) hb); have n4_ := am_ (KeepBut.trans (kk_ HK.out) (KeepBut.of_below hb g none) (.inl rfl)); have n5_ := am_ (below_step (bs_ HB.out (IsS25.ge HI0.out)) hb); clear HO281; clear HO287; clear HI0; clear HK; clear HB; have HO281 := n0_; have HO287 := n1_; have HO292 := n2_; have HI0 := n3_; have HK := n4_; have HB := n5_; clear n0_ n1_ n2_ n3_ n4_ n5_; clear hb ho16; obtain ⟨Ao17, co17, eo17⟩ := Kd.R_slice HO292.out; subst eo17) | ((with_reducible refine gate_callee (f := 52) rfl ?_); refine goesL_ (some 23) rfl rfl Tryd.func52 (by kernel_rfl) rfl #[.pointer (some ⟨g, 0, none⟩), .slice Ao17 y290.length co17] rfl gl_ ?_; (with_reducible refine (Z36.calls g s0_0 t289 _ _ y290 t293 t294 w0 _ ?side1 ?side2 ?side3 ?side4 ?side5 A7.out).mono ?_); (case side1 => exact is_ HI0.out); (case side2 => exact bs_ HB.out (IsS25.ge HI0.out)); (case side3 => exact cc_ (Kd.R_reads' HO292.out).2.2); (case side4 => exact (Kd.R_reads' HO292.out).2.1); (case side5 => exact far_slice (IsS25.own_ne HI0.out HO292.out (by decide))); rintro e w18 ⟨rfl, hi, hb, hk⟩; refine ⟨_, rfl, ?_⟩; have n0_ := am_ (Kd.R_mono (Kd.R_keep (IsS25.apart (show IsS25 w0 _ g s0_0 t289 from is_ HI0.out) (rr_ HO281.out) (by decide)) hk (fun _ h => h.2)) (fun _ h => h.1)); have n1_ := am_ (Kd.R_mono (Kd.R_keep (IsS25.apart (show IsS25 w0 _ g s0_0 t289 from is_ HI0.out) (rr_ HO287.out) (by decide)) hk (fun _ h => h.2)) (fun _ h => h.1)); have n2_ := am_ (Kd.R_mono (Kd.R_keep (IsS25.apart (show IsS25 w0 _ g s0_0 t289 from is_ HI0.out) (rr_ HO292.out) (by decide)) hk (fun _ h => h.2)) (fun _ h => h.1)); have n3_ := am_ (KeepBut.trans (kk_ HK.out) hk (.inl rfl)); have n4_ := am_ (hb); have n5_ := am_ (hi); clear HO281; clear HO287; clear HO292; clear HK; clear HB; clear HI0; have HO281 := n0_; have HO287 := n1_; have HO292 := n2_; have HK := n3_; have HB := n4_; have HI0 := n5_; clear n0_ n1_ n2_ n3_ n4_ n5_; (try clear hb); (try clear hb2); (try clear hk); (try clear hi)) | ((with_reducible refine gate_builtin (b := .append) (xs := #[.tmp 11, .tmp 25]) rfl ?_); at_builtin; refine Kd.R_append k46 w.heap.size rfl (.tmp 11) (.tmp 25) 38 46 (.agg #[(.int .i64 0), (.int .i64 0)]) 16 rfl Tryd.underlying38 info46 rfl (by decide) (by omega) v280 t279 (⟨t288, t293⟩ : S46) [.int .i64 t288, .int .i64 t293] (fun _ => True) (fun _ => False) rfl rfl ?aP (fun _ hk => hk.elim) ?aF ?aO (Below.refl _ _) ?aS ?aL ?_; (case aP => exact k46_mkM _ _ _ (⟨t288, t293⟩ : S46)); (case aF => exact (fun _ _ => trivial)); (case aO => exact (rr_ HO281.out)); (case aS => exact (keep_size (w := w) (g := g) (row := none) (kk_ HK.out))); (case aL => have := LMc8.out; omega); intro v296 w19 ho hb hg hat; rw [← Ny295.out] at ho; have n0_ := am_ (IsS25.grown (is_ HI0.out) hg (IsS25.own_ne HI0.out HO281.out (by decide))); have n1_ := am_ (Kd.R_over' (rr_ HO287.out) (Kd.R_typed (rr_ HO281.out)) (by decide) hg); have n2_ := am_ (Kd.R_over' (rr_ HO292.out) (Kd.R_typed (rr_ HO281.out)) (by decide) hg); have n3_ := am_ (below_weaken (bs_ HB.out (IsS25.ge HI0.out)) HL.out hb); have n4_ := am_ (KeepBut.trans (kk_ HK.out) (KeepBut.of_grown hg g) (Kd.R_base2 HO281.out)); have n5_ := am_ (ho); clear HI0; clear HO287; clear HO292; clear HB; clear HK; clear HO281; have HI0 := n0_; have HO287 := n1_; have HO292 := n2_; have HB := n3_; have HK := n4_; have HO297 := n5_; clear n0_ n1_ n2_ n3_ n4_ n5_; clear ho hb hg hat))
  go_ret
  exact ⟨_, by first | rfl | (simp [errW_none, errW_some] <;> rfl) | (simp [*, errW_none, errW_some] <;> rfl), by (with_reducible repeat (first | apply r1_ | apply r2_ | apply r3_)); exact HO297.out, is_ HI0.out, bs_ HB.out (IsS25.ge HI0.out), kk_ HK.out⟩
 ·replace c5 := Bool.eq_false_iff.mpr c5
  subst c5
  have H1 : (some (t279, t284)) = some (r1, r2) := by rw [if_neg (show ¬ (false = true) by decide)] at H; exact H
  clear H
  have H := H1
  clear H1
  simp only [Option.some.injEq, Prod.mk.injEq] at H
  obtain ⟨rfl, rfl⟩ := H
  go_enter Tryd.func27, Tryd.ntmps27
  go_wp2_with (first | ((with_reducible refine gate_callee (f := 18) rfl ?_); refine goesL_ (some 8) rfl rfl Tryd.func18 (by kernel_rfl) rfl #[.pointer (some ⟨g, 0, none⟩), .int .i64 a1] rfl gl_ ?_; (with_reducible refine (Z27.calls k g s0_0 s0_1 a1 t279 t282 w0 _ ?side1 ?side2 A3.out).mono ?_); (case side1 => exact is_ HI0.out); (case side2 => exact bs_ HB.out (IsS25.ge HI0.out)); rintro e w20 ⟨v280, rfl, ho0, hi, hb, hk⟩; refine ⟨_, rfl, ?_⟩; have n0_ := am_ (Kd.R_lower ho0 (keep_size (w := w) (g := g) (row := none) (kk_ HK.out))); have n1_ := am_ (KeepBut.trans (kk_ HK.out) hk (.inl rfl)); have n2_ := am_ (hb); have n3_ := am_ (hi); clear HK; clear HB; clear HI0; have HO281 := n0_; have HK := n1_; have HB := n2_; have HI0 := n3_; clear n0_ n1_ n2_ n3_; (try clear hb); (try clear hb2); (try clear hk); (try clear hi); (try clear ho0)) | ((with_reducible refine gate_callee (f := 50) rfl ?_); refine goesL_ (some 10) rfl rfl Tryd.func50 (by kernel_rfl) rfl #[.pointer (some ⟨g, 0, none⟩), .int .i64 10] rfl gl_ ?_; (with_reducible refine (Z45.calls g s0_0 t282 10 false t284 w0 _ ?side1 ?side2 A4.out).mono ?_); (case side1 => exact is_ HI0.out); (case side2 => exact bs_ HB.out (IsS25.ge HI0.out)); rintro e w21 ⟨rfl, hi, hb, hk⟩; refine ⟨_, rfl, ?_⟩; have n0_ := am_ (Kd.R_mono (Kd.R_keep (IsS25.apart (show IsS25 w0 _ g s0_0 t282 from is_ HI0.out) (rr_ HO281.out) (by decide)) hk (fun _ h => h.2)) (fun _ h => h.1)); have n1_ := am_ (KeepBut.trans (kk_ HK.out) hk (.inl rfl)); have n2_ := am_ (hb); have n3_ := am_ (hi); clear HO281; clear HK; clear HB; clear HI0; have HO281 := n0_; have HK := n1_; have HB := n2_; have HI0 := n3_; clear n0_ n1_ n2_ n3_; (try clear hb); (try clear hb2); (try clear hk); (try clear hi)))
  go_ret
  exact ⟨_, by first | rfl | (simp [errW_none, errW_some] <;> rfl) | (simp [*, errW_none, errW_some] <;> rfl), by (with_reducible repeat (first | apply r1_ | apply r2_ | apply r3_)); exact HO281.out, is_ HI0.out, bs_ HB.out (IsS25.ge HI0.out), kk_ HK.out⟩
end Go.Proofs.YtolcpmdojlbhcaaDoor.Px
