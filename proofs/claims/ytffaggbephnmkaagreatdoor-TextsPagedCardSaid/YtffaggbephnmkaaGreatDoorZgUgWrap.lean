/- Part of the proof that the law textsPaged is true for every input. No conditions. Laid by a program of this session over the kit's print and words; declarations that nothing names are left out. -/
import Derived.Test.YtffaggbephnmkaaGreatDoorZgUgWrapq
import Derived.Test.YtffaggbephnmkaaGreatDoorZgUgTexts
import Derived.Test.YtffaggbephnmkaaGreatDoorZgPgx4
import Derived.Test.YtffaggbephnmkaaGreatDoorZgPgx7
import Derived.Shelf.Strings.LastIndexAll
namespace Go.Proofs.YtffaggbephnmkaaGreatDoor.Pg
open Go.RowKit Go.Proofs.YtffaggbephnmkaaGreatDoor.GBase Go.Proofs.YtffaggbephnmkaaGreatDoorW.PrintWords Go.Proofs.YtffaggbephnmkaaGreatDoorW.PrintLast
set_option linter.unusedVariables false
set_option linter.unusedSimpArgs false
theorem bt_ge (s : ByteArray) (j : Nat) : bt s (j : Int) = ((s.data.toList.getD j 0).toNat : Int) := by
  by_cases h : j < s.data.toList.length
  · rw [bt_get s j h]
    simp [List.getD_eq_getElem?_getD, List.getElem?_eq_getElem h]
  · have h2 : ¬ j < s.size := by rw [data_length] at h; exact h
    have h3 : s.data.toList[j]? = none := List.getElem?_eq_none (by omega)
    simp only [bt, Int.toNat_natCast, h2, dif_neg, not_false_eq_true, List.getD_eq_getElem?_getD, h3]
    rfl
theorem ext_list (s : ByteArray) (a b : Nat) : (s.extract a b).data.toList = (s.data.toList.take b).drop a := by
  rw [ByteArray.data_extract, Array.toList_extract]
  simp [List.extract, List.drop_take]
theorem ext_drop (s : ByteArray) (a : Nat) : (s.extract a s.size).data.toList = s.data.toList.drop a := by
  rw [ext_list, List.take_of_length_le (by rw [data_length]; exact Nat.le_refl _)]
def cutAt (s : ByteArray) : Nat → Nat
  | 0 => 0
  | k + 1 => if bt s ((k + 1 : Nat) : Int) / 64 = 2 then cutAt s k else k + 1
def spc (s : ByteArray) : Int := Lib.lastIndexByte (s.extract 0 81) 32
def trimmed (s : ByteArray) : ByteArray := ⟨(Lib.trimB s.data.toList 32).toArray⟩
def atBlank (s : ByteArray) : Bool := decide (spc s > 0) && (trimmed (s.extract 0 (spc s).toNat)).toList != ([] : List UInt8)
def wr : Nat → ByteArray → List ByteArray
  | 0, s => [s]
  | n + 1, s => if 80 < s.size then (if atBlank s = true then s.extract 0 (spc s).toNat :: wr n (s.extract ((spc s).toNat + 1) s.size) else s.extract 0 (cutAt s 80) :: wr n (s.extract (cutAt s 80) s.size)) else [s]
theorem wr_len : ∀ n s, (wr n s).length ≤ n + 1
  | 0, s => Nat.le_refl _
  | n + 1, s => by
    unfold wr
    split
    · split
      · rw [List.length_cons]; have := wr_len n (s.extract ((spc s).toNat + 1) s.size); omega
      · rw [List.length_cons]; have := wr_len n (s.extract (cutAt s 80) s.size); omega
    · simp
theorem spc_is (s : ByteArray) (h : 80 < s.size) : -1 ≤ spc s ∧ spc s ≤ 80 ∧ (0 ≤ spc s → (s.data.toList.getD (spc s).toNat 0).toNat = 32) := by
  have hz : (s.extract 0 81).size = 81 := by rw [ByteArray.size_extract]; omega
  unfold spc
  rcases Lib.lastIdx_spec (s.extract 0 81) 32 (s.extract 0 81).size with ⟨e, _⟩ | ⟨i, hi, e, hb, _⟩
  · unfold Lib.lastIndexByte
    rw [e]
    exact ⟨by omega, by omega, fun h => absurd h (by omega)⟩
  · unfold Lib.lastIndexByte
    rw [e]
    refine ⟨by omega, by omega, fun _ => ?_⟩
    rw [Int.toNat_natCast]
    have h1 : (s.extract 0 81).data[i]! = s.data.toList.getD i 0 := by
      have hl : i < (s.extract 0 81).data.toList.length := by rw [data_length]; omega
      have e1 : (s.extract 0 81).data[i]! = (s.extract 0 81).data.toList[i] := by
        rw [getElem!_pos (s.extract 0 81).data i (by simpa using hl)]
        simp
      rw [e1]
      have e2 : (s.extract 0 81).data.toList[i]? = s.data.toList[i]? := by
        rw [ext_list, List.drop_zero, List.getElem?_take, if_pos (by omega)]
      rw [List.getElem?_eq_getElem hl] at e2
      rw [List.getD_eq_getElem?_getD, ← e2]
      rfl
    rw [h1] at hb
    omega
theorem cut_le (s : ByteArray) : ∀ k, cutAt s k ≤ k
  | 0 => Nat.le_refl _
  | k + 1 => by
    unfold cutAt
    split
    · have := cut_le s k; omega
    · exact Nat.le_refl _
theorem Q_zero {s : ByteArray} (h : Qv s.data.toList) (hs : 0 < s.size) : ¬ bt s ((0 : Nat) : Int) / 64 = 2 := by
  intro e
  rw [bt_ge] at e
  obtain ⟨i, i1, _⟩ := h 0 (by rw [data_length]; exact hs) (by omega)
  omega
theorem cut_ne {s : ByteArray} (h : Qv s.data.toList) (hs : 0 < s.size) : ∀ k, ¬ bt s ((cutAt s k : Nat) : Int) / 64 = 2
  | 0 => Q_zero h hs
  | k + 1 => by
    unfold cutAt
    split
    · exact cut_ne h hs k
    · assumption
theorem cut_run {s : ByteArray} (i : Nat) (hi : ¬ bt s (i : Int) / 64 = 2) : ∀ d, (∀ m, i < m → m ≤ i + d → bt s (m : Int) / 64 = 2) → cutAt s (i + d) = i
  | 0, _ => by
    cases i with
    | zero => rfl
    | succ i => unfold cutAt; rw [Nat.add_zero, if_neg hi]
  | d + 1, h => by
    rw [← Nat.add_assoc]
    unfold cutAt
    rw [if_pos (h _ (by omega) (by omega))]
    exact cut_run i hi d (fun m h1 h2 => h m h1 (by omega))
theorem cut_pos {s : ByteArray} (h : Qv s.data.toList) (hs : 80 < s.size) : 1 ≤ cutAt s 80 := by
  by_cases e : bt s ((80 : Nat) : Int) / 64 = 2
  · rw [bt_ge] at e
    obtain ⟨i, i1, i2, i3, i4⟩ := h 80 (by rw [data_length]; exact hs) (by omega)
    have := cut_run (s := s) i (by rw [bt_ge]; omega) (80 - i) (fun m h1 h2 => by rw [bt_ge]; have := i4 m h1 (by omega); omega)
    rw [show i + (80 - i) = 80 by omega] at this
    omega
  · have : cutAt s 80 = 80 := by
      show (if bt s ((79 + 1 : Nat) : Int) / 64 = 2 then cutAt s 79 else 79 + 1) = 80
      rw [if_neg e]
    omega
theorem trim_is (s : ByteArray) (hs : s.size ≤ 1000000) : strings_Trim.f s (⟨#[32]⟩ : ByteArray) = some (trimmed s) := by
  unfold strings_Trim.f
  rw [if_pos ⟨by omega, rfl⟩]
  rfl
theorem lib_is (s : ByteArray) (hs : s.size ≤ 1000000) : strings_LastIndexByte.f (s.extract 0 81) 32 = some (spc s) := by
  unfold strings_LastIndexByte.f
  rw [if_pos (by rw [ByteArray.size_extract]; omega)]
  rfl
theorem lix_is (s : ByteArray) (hs : s.size ≤ 1000000) : strings_LastIndex.f (s.extract 0 81) (⟨#[32]⟩ : ByteArray) = some (spc s) := by
  unfold strings_LastIndex.f
  rw [if_pos (by rw [ByteArray.size_extract]; omega)]
  exact congrArg some (LastIndex.one (s.extract 0 81) ⟨#[32]⟩ rfl).symm
theorem w1_ev (s : ByteArray) (hq : Qv s.data.toList) (hs : s.size ≤ 1000000) (acc : List ByteArray) (ha : acc.length ≤ 1000000000) (r : List ByteArray) : ∀ j : Nat, j < s.size →
    Ev (fun k => produce_wrapped.l0 k (s.extract (cutAt s j) s.size) (acc ++ [s.extract 0 (cutAt s j)])) r → Ev (fun k => produce_wrapped.l1 k s acc (j : Int)) r := by
  intro j
  induction j with
  | zero =>
    intro hj h
    exact Ev.step (fun _ => produce_wrapped.l1.eq_2 ..) (ev_pos (by omega) (ev_pos (by omega) (ev_neg (Q_zero hq hj) (ev_pos (by omega) (ev_pos (by omega) h)))))
  | succ j ih =>
    intro hj h
    have hw : wrap64 (((j + 1 : Nat) : Int) - 1) = (j : Int) := by rw [wr64 (by omega) (by omega)]; omega
    refine Ev.step (fun _ => produce_wrapped.l1.eq_2 ..) (ev_pos (by omega) (ev_pos (by omega) ?_))
    by_cases e : bt s ((j + 1 : Nat) : Int) / 64 = 2
    · rw [show cutAt s (j + 1) = cutAt s j by show (if _ then _ else _) = _; rw [if_pos e]] at h
      refine ev_pos e ?_
      rw [hw]
      exact ih (by omega) h
    · rw [show cutAt s (j + 1) = j + 1 by show (if _ then _ else _) = _; rw [if_neg e]] at h
      exact ev_neg e (ev_pos (by omega) (ev_pos (by omega) h))
theorem wrapped_ev : ∀ (n : Nat) (s : ByteArray) (acc : List ByteArray), s.size ≤ n → n ≤ 1000000 → Qv s.data.toList → acc.length + n ≤ 1000000000 → Ev (fun k => produce_wrapped.l0 k s acc) (acc ++ wr n s)
  | 0, s, acc, hn, hN, hq, ha => Ev.step (fun _ => produce_wrapped.l0.eq_2 ..) (ev_neg (by omega) (ev_pos (by omega) (ev_val rfl)))
  | n + 1, s, acc, hn, hN, hq, ha => by
    by_cases h80 : 80 < s.size
    · obtain ⟨s1, s2, s3⟩ := spc_is s h80
      refine Ev.step (fun _ => produce_wrapped.l0.eq_2 ..) (ev_pos (by omega) (ev_pos (by omega) (ev_pos (by omega) (ev_bindc (lib_is s (by omega)) ?_))))
      have other : atBlank s = false → Ev (fun k => produce_wrapped.l1 k s acc 80) (acc ++ wr (n + 1) s) := by
        intro hb
        have hc1 := cut_pos hq h80
        have hc2 := cut_le s 80
        have hc3 := cut_ne hq (by omega) 80
        have hq2 : Qv (s.extract (cutAt s 80) s.size).data.toList := by
          rw [ext_drop]
          exact hq.drop _ (by rw [bt_ge] at hc3; omega)
        refine w1_ev s hq (by omega) acc (by omega) _ 80 h80 ?_
        have := wrapped_ev n (s.extract (cutAt s 80) s.size) (acc ++ [s.extract 0 (cutAt s 80)]) (by rw [ByteArray.size_extract]; omega) (by omega) hq2 (by rw [List.length_append]; simp only [List.length_cons, List.length_nil]; omega)
        rw [List.append_assoc] at this
        show Ev _ (acc ++ wr (n + 1) s)
        unfold wr
        rw [if_pos h80, hb, if_neg (by decide)]
        exact this
      by_cases hp : spc s > 0
      · have hp1 : (spc s) ≤ (s.size : Int) := by omega
        have hw : wrap64 (spc s + 1) = spc s + 1 := wr64 (by omega) (by omega)
        refine ev_pos hp (ev_pos (by omega) (ev_pos hp1 (ev_bindc (trim_is (s.extract 0 (spc s).toNat) (by rw [ByteArray.size_extract]; omega)) (Ev.step (fun _ => produce_wrapped.j1.eq_2 ..) ?_))))
        by_cases hb : (trimmed (s.extract 0 (spc s).toNat)).toList != ([] : List UInt8)
        · have hab : atBlank s = true := by unfold atBlank; rw [hb]; simp [hp]
          rw [hb, hw]
          have hq2 : Qv (s.extract ((spc s).toNat + 1) s.size).data.toList := by
            rw [ext_drop]
            exact hq.drop1 _ (by rw [s3 (by omega)]; decide)
          refine ev_pos rfl (ev_pos (by omega) (ev_pos hp1 (ev_pos (by omega) (ev_pos (by omega) (ev_pos (by omega) ?_)))))
          have := wrapped_ev n (s.extract ((spc s).toNat + 1) s.size) (acc ++ [s.extract 0 (spc s).toNat]) (by rw [ByteArray.size_extract]; omega) (by omega) hq2 (by rw [List.length_append]; simp only [List.length_cons, List.length_nil]; omega)
          rw [List.append_assoc] at this
          rw [show (spc s + 1).toNat = (spc s).toNat + 1 by omega]
          show Ev _ (acc ++ wr (n + 1) s)
          unfold wr
          rw [if_pos h80, hab, if_pos rfl]
          exact this
        · have hb2 : ((trimmed (s.extract 0 (spc s).toNat)).toList != ([] : List UInt8)) = false := by simpa using hb
          rw [hb2]
          refine ev_neg (by decide) (other ?_)
          unfold atBlank
          rw [hb2, Bool.and_false]
      · refine ev_neg hp (Ev.step (fun _ => produce_wrapped.j1.eq_2 ..) (ev_neg (by decide) (other ?_)))
        unfold atBlank
        rw [decide_eq_false hp, Bool.false_and]
    · refine Ev.step (fun _ => produce_wrapped.l0.eq_2 ..) (ev_neg (by omega) (ev_pos (by omega) (ev_val ?_)))
      unfold wr
      rw [if_neg h80]
theorem rs_is (s : ByteArray) (j : Nat) : utf8_RuneStart.f (bt s (j : Int)) = some (!decide (bt s (j : Int) / 64 = 2)) := by
  unfold utf8_RuneStart.f
  rw [bt_ge]
  generalize s.data.toList.getD j 0 = c
  have h : ∀ n : Fin 256, ((Go.bits .and .u8 ((n.1 : Nat) : Int) 192) != 128) = !decide (((n.1 : Nat) : Int) / 64 = 2) := by
    decide +kernel
  exact congrArg some (h ⟨c.toNat, c.toNat_lt⟩)
theorem w2_ev (s : ByteArray) (hq : Qv s.data.toList) (hs : s.size ≤ 1000000) (acc : List ByteArray) (ha : acc.length ≤ 1000000000) (L : List ByteArray) (N i : Int) (r : List ByteArray) : ∀ j : Nat, j < s.size →
    Ev (fun k => chaseref1_WrapOf.l1 k (acc ++ [s.extract 0 (cutAt s j)]) (s.extract (cutAt s j) s.size) L N i) r → Ev (fun k => chaseref1_WrapOf.l2 k acc s (j : Int) L N i) r := by
  intro j
  induction j with
  | zero =>
    intro hj h
    have e := Q_zero hq hj
    refine Ev.step (fun _ => chaseref1_WrapOf.l2.eq_2 ..) (ev_pos (by omega) (ev_pos (by omega) (ev_bindc (rs_is s 0) ?_)))
    rw [decide_eq_false e]
    exact ev_pos rfl (ev_pos (by omega) (ev_pos (by omega) h))
  | succ j ih =>
    intro hj h
    have hw : wrap64 (((j + 1 : Nat) : Int) - 1) = (j : Int) := by rw [wr64 (by omega) (by omega)]; omega
    refine Ev.step (fun _ => chaseref1_WrapOf.l2.eq_2 ..) (ev_pos (by omega) (ev_pos (by omega) (ev_bindc (rs_is s (j + 1)) ?_)))
    by_cases e : bt s ((j + 1 : Nat) : Int) / 64 = 2
    · rw [show cutAt s (j + 1) = cutAt s j by show (if _ then _ else _) = _; rw [if_pos e]] at h
      rw [decide_eq_true e, hw]
      exact ev_neg (by decide) (ih (by omega) h)
    · rw [show cutAt s (j + 1) = j + 1 by show (if _ then _ else _) = _; rw [if_neg e]] at h
      rw [decide_eq_false e]
      exact ev_pos rfl (ev_pos (by omega) (ev_pos (by omega) h))
theorem wrapOf_ev (L : List ByteArray) (N i : Int) (r : List ByteArray) : ∀ (n : Nat) (s : ByteArray) (acc : List ByteArray), s.size ≤ n → n ≤ 1000000 → Qv s.data.toList → acc.length + n ≤ 1000000000 →
    Ev (fun k => chaseref1_WrapOf.l0 k (acc ++ wr n s) L N (wrap64 (i + 1))) r → Ev (fun k => chaseref1_WrapOf.l1 k acc s L N i) r
  | 0, s, acc, hn, hN, hq, ha, h => Ev.step (fun _ => chaseref1_WrapOf.l1.eq_2 ..) (ev_neg (by omega) (ev_pos (by omega) h))
  | n + 1, s, acc, hn, hN, hq, ha, h => by
    by_cases h80 : 80 < s.size
    · obtain ⟨s1, s2, s3⟩ := spc_is s h80
      refine Ev.step (fun _ => chaseref1_WrapOf.l1.eq_2 ..) (ev_pos (by omega) (ev_pos (by omega) (ev_pos (by omega) (ev_bindc (lix_is s (by omega)) ?_))))
      have other : atBlank s = false → Ev (fun k => chaseref1_WrapOf.l2 k acc s 80 L N i) r := by
        intro hb
        have hc1 := cut_pos hq h80
        have hc2 := cut_le s 80
        have hc3 := cut_ne hq (by omega) 80
        have hq2 : Qv (s.extract (cutAt s 80) s.size).data.toList := by
          rw [ext_drop]
          exact hq.drop _ (by rw [bt_ge] at hc3; omega)
        refine w2_ev s hq (by omega) acc (by omega) L N i _ 80 h80 ?_
        refine wrapOf_ev L N i r n (s.extract (cutAt s 80) s.size) (acc ++ [s.extract 0 (cutAt s 80)]) (by rw [ByteArray.size_extract]; omega) (by omega) hq2 (by rw [List.length_append]; simp only [List.length_cons, List.length_nil]; omega) ?_
        rw [List.append_assoc]
        unfold wr at h
        rw [if_pos h80, hb, if_neg (by decide)] at h
        exact h
      by_cases hp : spc s > 0
      · have hp1 : (spc s) ≤ (s.size : Int) := by omega
        have hw : wrap64 (spc s + 1) = spc s + 1 := wr64 (by omega) (by omega)
        refine ev_pos hp (ev_pos (by omega) (ev_pos hp1 (ev_bindc (trim_is (s.extract 0 (spc s).toNat) (by rw [ByteArray.size_extract]; omega)) (Ev.step (fun _ => chaseref1_WrapOf.j2.eq_2 ..) ?_))))
        by_cases hb : (trimmed (s.extract 0 (spc s).toNat)).toList != ([] : List UInt8)
        · have hab : atBlank s = true := by unfold atBlank; rw [hb]; simp [hp]
          rw [hb, hw]
          have hq2 : Qv (s.extract ((spc s).toNat + 1) s.size).data.toList := by
            rw [ext_drop]
            exact hq.drop1 _ (by rw [s3 (by omega)]; decide)
          refine ev_pos rfl (ev_pos (by omega) (ev_pos hp1 (ev_pos (by omega) (ev_pos (by omega) (ev_pos (by omega) ?_)))))
          rw [show (spc s + 1).toNat = (spc s).toNat + 1 by omega]
          refine wrapOf_ev L N i r n (s.extract ((spc s).toNat + 1) s.size) (acc ++ [s.extract 0 (spc s).toNat]) (by rw [ByteArray.size_extract]; omega) (by omega) hq2 (by rw [List.length_append]; simp only [List.length_cons, List.length_nil]; omega) ?_
          rw [List.append_assoc]
          unfold wr at h
          rw [if_pos h80, hab, if_pos rfl] at h
          exact h
        · have hb2 : ((trimmed (s.extract 0 (spc s).toNat)).toList != ([] : List UInt8)) = false := by simpa using hb
          rw [hb2]
          refine ev_neg (by decide) (other ?_)
          unfold atBlank
          rw [hb2, Bool.and_false]
      · refine ev_neg hp (Ev.step (fun _ => chaseref1_WrapOf.j2.eq_2 ..) (ev_neg (by decide) (other ?_)))
        unfold atBlank
        rw [decide_eq_false hp, Bool.false_and]
    · refine Ev.step (fun _ => chaseref1_WrapOf.l1.eq_2 ..) (ev_neg (by omega) (ev_pos (by omega) ?_))
      unfold wr at h
      rw [if_neg h80] at h
      exact h
end Go.Proofs.YtffaggbephnmkaaGreatDoor.Pg
