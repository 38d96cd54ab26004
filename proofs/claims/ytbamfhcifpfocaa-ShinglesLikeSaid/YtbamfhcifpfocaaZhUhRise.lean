/- Part of the proof that the law shinglesLike is true for every input. No conditions. Laid by a program of this session over the kit's print and words; declarations that nothing names are left out. -/
import Derived.Test.YtbamfhcifpfocaaZhGBase
import Derived.Sort.Walk0
namespace Go.Proofs.Ytbamfhcifpfocaa.GBase
open Go.RowKit Go.Proofs.YtbamfhcifpfocaaW.PrintWords
set_option linter.unusedVariables false
set_option linter.unusedSimpArgs false
def ky (a : ByteArray) : List UInt8 := a.data.toList
theorem ky_inj {a b : ByteArray} (h : ky a = ky b) : a = b := by
  cases a with
  | mk x =>
    cases b with
    | mk y => exact congrArg ByteArray.mk (Array.toList_inj.1 h)
theorem ky_eq {a b : ByteArray} : a.toList = b.toList ↔ a = b := by
  rw [Lib.toList_data, Lib.toList_data]
  exact ⟨ky_inj, fun h => h ▸ rfl⟩
theorem less_ky (a b : ByteArray) : Op.bytesLess a.toList b.toList = decide (ky a < ky b) := by
  rw [bytesLess_eq, Lib.toList_data, Lib.toList_data]
  rfl
theorem ky_irr (x : List UInt8) : ¬ x < x := List.lt_irrefl x
theorem ky_trans {x y z : List UInt8} (h : x < y) (k : y < z) : x < z := List.lt_trans h k
theorem ky_tri (x y : List UInt8) : x < y ∨ x = y ∨ y < x := by
  rcases Classical.em (x < y) with h | h
  · exact .inl h
  · rcases Classical.em (y < x) with k | k
    · exact .inr (.inr k)
    · exact .inr (.inl (List.le_antisymm (List.not_lt.1 k) (List.not_lt.1 h)))
theorem ky_le {x y : List UInt8} : x ≤ y ↔ ¬ y < x := List.not_lt.symm
def RiseS (l : List ByteArray) : Prop := l.Pairwise fun a b => ky a < ky b
theorem RiseS.nodup {l : List ByteArray} (h : RiseS l) : l.Nodup := h.imp fun {a b} hlt e => by subst e; exact ky_irr _ hlt
theorem RiseS.at {l : List ByteArray} (h : RiseS l) {i j : Nat} (hij : i < j) (hj : j < l.length) : ky (l[i]'(by omega)) < ky l[j] := List.pairwise_iff_getElem.1 h i j (by omega) hj hij
theorem cmp_lt {a b : ByteArray} (h : ky a < ky b) : cmpS a b = -1 := by
  unfold cmpS
  rw [less_ky, if_pos (by simpa using h)]
theorem cmp_eq (a : ByteArray) : cmpS a a = 0 := by
  unfold cmpS
  rw [less_ky, if_neg (by simp [ky_irr]), if_pos rfl]
theorem cmp_gt {a b : ByteArray} (h : ky b < ky a) : cmpS a b = 1 := by
  have h1 : ¬ ky a < ky b := fun k => ky_irr _ (ky_trans h k)
  have h2 : ¬ a.toList = b.toList := by
    rw [ky_eq]
    intro e
    subst e
    exact ky_irr _ h
  unfold cmpS
  rw [less_ky, if_neg (by simpa using h1), if_neg h2]
theorem compact_upto (d : Array (List UInt8)) (hs : ∀ i j, i < j → j < d.size → d[i]! ≤ d[j]!) (m : Nat) : m ≤ d.size →
    (Lib.compactUpTo d m).Pairwise (· < ·) ∧ ∀ x, x ∈ Lib.compactUpTo d m ↔ ∃ j, j < m ∧ d[j]! = x := by
  induction m with
  | zero =>
    intro _
    have e : Lib.compactUpTo d 0 = [] := rfl
    rw [e]
    exact ⟨List.Pairwise.nil, fun x => ⟨fun h => absurd h List.not_mem_nil, fun ⟨j, h, _⟩ => absurd h (Nat.not_lt_zero _)⟩⟩
  | succ m ih =>
    intro hm
    obtain ⟨h1, h2⟩ := ih (by omega)
    rw [Lib.compactUpTo_succ]
    by_cases hk : m = 0 ∨ d[m]! ≠ d[m - 1]!
    · have hkk : Lib.keeps d m = true := by simpa [Lib.keeps] using hk
      rw [if_pos hkk]
      refine ⟨List.pairwise_append.2 ⟨h1, List.pairwise_singleton _ _, ?_⟩, ?_⟩
      · intro x hx y hy
        obtain rfl : y = d[m]! := by simpa using hy
        obtain ⟨j, hj, rfl⟩ := (h2 x).1 hx
        have h3 : d[m - 1]! < d[m]! := by
          rcases ky_tri (d[m - 1]!) (d[m]!) with h | h | h
          · exact h
          · rcases hk with h0 | hk
            · omega
            · exact absurd h.symm hk
          · exact absurd h (ky_le.1 (hs (m - 1) m (by omega) (by omega)))
        by_cases hj2 : j = m - 1
        · subst hj2
          exact h3
        · have h4 := hs j (m - 1) (by omega) (by omega)
          rcases ky_tri (d[j]!) (d[m - 1]!) with h | h | h
          · exact ky_trans h h3
          · rw [h]; exact h3
          · exact absurd h (ky_le.1 h4)
      · intro x
        rw [List.mem_append, h2, List.mem_singleton]
        constructor
        · rintro (⟨j, hj, rfl⟩ | rfl)
          · exact ⟨j, by omega, rfl⟩
          · exact ⟨m, by omega, rfl⟩
        · rintro ⟨j, hj, rfl⟩
          by_cases e : j = m
          · subst e
            exact .inr rfl
          · exact .inl ⟨j, by omega, rfl⟩
    · have hkk : ¬ Lib.keeps d m = true := by simpa [Lib.keeps] using hk
      rw [if_neg hkk, List.append_nil]
      have h0 : m ≠ 0 := fun h => hk (.inl h)
      have he : d[m]! = d[m - 1]! := Classical.not_not.1 fun h => hk (.inr h)
      refine ⟨h1, fun x => (h2 x).trans ⟨fun ⟨j, hj, e⟩ => ⟨j, by omega, e⟩, ?_⟩⟩
      rintro ⟨j, hj, rfl⟩
      by_cases e : j = m
      · subst e
        exact ⟨j - 1, by omega, he.symm⟩
      · exact ⟨j, by omega, rfl⟩
theorem sort_le (l : List (List UInt8)) : (l.mergeSort fun x y => decide (x ≤ y)).Pairwise (· ≤ ·) := by
  have h := List.pairwise_mergeSort (le := fun x y : List UInt8 => decide (x ≤ y)) (fun a b c h1 h2 => by
    simp only [decide_eq_true_eq] at *
    exact List.le_trans h1 h2) (fun a b => by
    simp only [Bool.or_eq_true, decide_eq_true_eq]
    exact List.le_total a b) l
  exact h.imp fun h => by simpa using h
theorem sc_both (l : List ByteArray) : RiseS (compactS (sortS l)) ∧ ∀ x, x ∈ compactS (sortS l) ↔ x ∈ l := by
  have hd : ∀ (z : List (List UInt8)), toL (ofL z) = z := by
    intro z
    simp [toL, ofL, Function.comp_def]
  have hz := sort_le (toL l)
  have h := compact_upto ((toL l).mergeSort fun x y => decide (x ≤ y)).toArray (by
    intro i j hij hj
    have hj2 : j < ((toL l).mergeSort fun x y => decide (x ≤ y)).length := by simpa using hj
    have := List.pairwise_iff_getElem.1 hz i j (Nat.lt_trans hij hj2) hj2 hij
    have hi : i < ((toL l).mergeSort fun x y => decide (x ≤ y)).toArray.size := Nat.lt_trans hij hj
    rw [getElem!_pos _ i hi, getElem!_pos _ j hj]
    simpa using this) ((toL l).mergeSort fun x y => decide (x ≤ y)).length (by simp)
  unfold compactS sortS RiseS
  rw [hd]
  refine ⟨?_, fun x => ?_⟩
  · unfold ofL
    rw [List.pairwise_map]
    exact h.1
  · constructor
    · intro hx
      obtain ⟨y, hy, rfl⟩ := List.mem_map.1 hx
      obtain ⟨j, hj, rfl⟩ := (h.2 y).1 hy
      rw [getElem!_pos _ j (by simpa using hj)]
      have : ((toL l).mergeSort fun x y => decide (x ≤ y))[j] ∈ toL l := List.mem_mergeSort.1 (List.getElem_mem hj)
      obtain ⟨z, hz, e⟩ := List.mem_map.1 this
      have e2 : (⟨(((toL l).mergeSort fun x y => decide (x ≤ y)).toArray[j]'(by simpa using hj)).toArray⟩ : ByteArray) = z := by
        apply ky_inj
        simp only [ky, List.getElem_toArray]
        exact e.symm
      rw [e2]
      exact hz
    · intro hx
      have h1 : ky x ∈ (toL l).mergeSort fun x y => decide (x ≤ y) := List.mem_mergeSort.2 (List.mem_map.2 ⟨x, hx, rfl⟩)
      obtain ⟨j, hj, e⟩ := List.mem_iff_getElem.1 h1
      refine List.mem_map.2 ⟨ky x, (h.2 _).2 ⟨j, hj, ?_⟩, ky_inj rfl⟩
      rw [getElem!_pos _ j (by simpa using hj)]
      simpa using e
theorem sc_rise (l : List ByteArray) : RiseS (compactS (sortS l)) := (sc_both l).1
theorem sc_mem (l : List ByteArray) (x : ByteArray) : x ∈ compactS (sortS l) ↔ x ∈ l := (sc_both l).2 x
def has (b : List ByteArray) (x : ByteArray) : Bool := b.any fun y => decide (x = y)
theorem has_iff {b : List ByteArray} {x : ByteArray} : has b x = true ↔ x ∈ b := by
  unfold has
  rw [List.any_eq_true]
  exact ⟨fun ⟨y, hy, e⟩ => by simp at e; exact e ▸ hy, fun h => ⟨x, h, by simp⟩⟩
theorem has_yes {b : List ByteArray} {x : ByteArray} (h : x ∈ b) : has b x = true := has_iff.2 h
theorem has_no {b : List ByteArray} {x : ByteArray} (h : x ∉ b) : has b x = false := by
  cases e : has b x
  · rfl
  · exact absurd (has_iff.1 e) h
def sharedOf (a b : List ByteArray) : Nat := (a.filter (has b)).length
theorem shared_le (a b : List ByteArray) : sharedOf a b ≤ a.length := List.length_filter_le _ _
theorem shared_nil (a : List ByteArray) : sharedOf a [] = 0 := by simp [sharedOf, has]
theorem nil_shared (b : List ByteArray) : sharedOf [] b = 0 := rfl
theorem shared_in {x : ByteArray} {a b : List ByteArray} (h : x ∈ b) : sharedOf (x :: a) b = sharedOf a b + 1 := by simp [sharedOf, has_yes h]
theorem shared_out {x : ByteArray} {a b : List ByteArray} (h : x ∉ b) : sharedOf (x :: a) b = sharedOf a b := by simp [sharedOf, has_no h]
theorem shared_drop {y : ByteArray} {a b : List ByteArray} (h : y ∉ a) : sharedOf a (y :: b) = sharedOf a b := by
  unfold sharedOf
  congr 1
  apply List.filter_congr
  intro x hx
  have : x ≠ y := fun e => h (e ▸ hx)
  simp [has, this]
theorem union_len (a b : List ByteArray) (ha : RiseS a) (hb : RiseS b) : (compactS (sortS (a ++ b))).length + sharedOf a b = a.length + b.length := by
  have hv : ((a.filter fun x => !has b x) ++ b).Nodup := by
    rw [List.nodup_append]
    refine ⟨ha.nodup.filter _, hb.nodup, fun x hx y hy e => ?_⟩
    subst e
    have := (List.mem_filter.1 hx).2
    simp [has_yes hy] at this
  have hp := (List.perm_ext_iff_of_nodup (sc_rise (a ++ b)).nodup hv).2 fun x => by
    rw [sc_mem, List.mem_append, List.mem_append, List.mem_filter]
    by_cases hx : x ∈ b
    · simp [hx]
    · simp [hx, has_no hx]
  have h1 := hp.length_eq
  rw [List.length_append] at h1
  have h2 : (a.filter (has b)).length + (a.filter fun x => !has b x).length = a.length := by
    clear hp h1 hv ha
    induction a with
    | nil => rfl
    | cons x a ih => cases hx : has b x <;> simp [hx] <;> omega
  unfold sharedOf
  omega
end Go.Proofs.Ytbamfhcifpfocaa.GBase
