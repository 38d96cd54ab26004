/- A part of the proof of wordsDiffer. No conditions. Laid by program over the kit's print and words. -/
import Derived.Test.YtbamfhcifpfocaaDoorZdPwx0
namespace Go.Proofs.YtbamfhcifpfocaaDoor.Pw
open Go.RowKit Go.Proofs.YtbamfhcifpfocaaDoor.GBase Go.Proofs.YtbamfhcifpfocaaDoorW.PrintWords Go.Proofs.YtbamfhcifpfocaaDoorW.PrintLast Go.Proofs.YtbamfhcifpfocaaDoorW.PrintMore
def lcs : List ByteArray → List ByteArray → Nat
  | [], _ => 0
  | _ :: _, [] => 0
  | x :: a, y :: b => if x.toList = y.toList then lcs a b + 1 else max (lcs a (y :: b)) (lcs (x :: a) b)
termination_by a b => a.length + b.length
theorem lcs_nil (b : List ByteArray) : lcs [] b = 0 := by simp [lcs]
theorem lcs_nil2 (a : List ByteArray) : lcs a [] = 0 := by cases a <;> simp [lcs]
theorem lcs_eq {x y : ByteArray} (a b : List ByteArray) (h : x.toList = y.toList) : lcs (x :: a) (y :: b) = lcs a b + 1 := by rw [lcs, if_pos h]
theorem lcs_ne {x y : ByteArray} (a b : List ByteArray) (h : ¬ x.toList = y.toList) : lcs (x :: a) (y :: b) = max (lcs a (y :: b)) (lcs (x :: a) b) := by rw [lcs, if_neg h]
theorem lcs_all (n : Nat) : ∀ a b : List ByteArray, a.length + b.length ≤ n → (∀ x, lcs a b ≤ lcs (x :: a) b) ∧ (∀ y, lcs a b ≤ lcs a (y :: b)) ∧ (∀ x, lcs (x :: a) b ≤ lcs a b + 1) ∧ (∀ y, lcs a (y :: b) ≤ lcs a b + 1) := by
  induction n with
  | zero =>
    intro a b h
    obtain rfl : a = [] := List.eq_nil_of_length_eq_zero (by omega)
    obtain rfl : b = [] := List.eq_nil_of_length_eq_zero (by omega)
    exact ⟨fun x => by rw [lcs_nil]; omega, fun y => by rw [lcs_nil]; omega, fun x => by rw [lcs_nil2]; omega, fun y => by rw [lcs_nil]; omega⟩
  | succ n ih =>
    intro a b h
    refine ⟨fun x => ?_, fun y => ?_, fun x => ?_, fun y => ?_⟩
    · cases b with
      | nil => rw [lcs_nil2]; omega
      | cons y b =>
        simp only [List.length_cons] at h
        obtain ⟨_, _, _, s2⟩ := ih a b (by omega)
        by_cases e : x.toList = y.toList
        · rw [lcs_eq a b e]; exact s2 y
        · rw [lcs_ne a b e]; omega
    · cases a with
      | nil => rw [lcs_nil]; omega
      | cons x a =>
        simp only [List.length_cons] at h
        obtain ⟨_, _, s1, _⟩ := ih a b (by omega)
        by_cases e : x.toList = y.toList
        · rw [lcs_eq a b e]; exact s1 x
        · rw [lcs_ne a b e]; omega
    · cases b with
      | nil => rw [lcs_nil2]; omega
      | cons y b =>
        simp only [List.length_cons] at h
        obtain ⟨_, m2, s1, _⟩ := ih a b (by omega)
        have h1 := m2 y
        have h2 := s1 x
        by_cases e : x.toList = y.toList
        · rw [lcs_eq a b e]; omega
        · rw [lcs_ne a b e]; omega
    · cases a with
      | nil => rw [lcs_nil]; omega
      | cons x a =>
        simp only [List.length_cons] at h
        obtain ⟨m1, _, _, s2⟩ := ih a b (by omega)
        have h1 := m1 x
        have h2 := s2 y
        by_cases e : x.toList = y.toList
        · rw [lcs_eq a b e]; omega
        · rw [lcs_ne a b e]; omega
theorem lcs_up1 (x : ByteArray) (a b : List ByteArray) : lcs a b ≤ lcs (x :: a) b := (lcs_all _ a b (Nat.le_refl _)).1 x
theorem lcs_up2 (y : ByteArray) (a b : List ByteArray) : lcs a b ≤ lcs a (y :: b) := (lcs_all _ a b (Nat.le_refl _)).2.1 y
theorem lcs_s1 (x : ByteArray) (a b : List ByteArray) : lcs (x :: a) b ≤ lcs a b + 1 := (lcs_all _ a b (Nat.le_refl _)).2.2.1 x
theorem lcs_s2 (y : ByteArray) (a b : List ByteArray) : lcs a (y :: b) ≤ lcs a b + 1 := (lcs_all _ a b (Nat.le_refl _)).2.2.2 y
theorem lcs_le1 : ∀ (a b : List ByteArray), lcs a b ≤ a.length
  | [], b => by rw [lcs_nil]; exact Nat.zero_le _
  | x :: a, b => by have := lcs_s1 x a b; have := lcs_le1 a b; simp only [List.length_cons]; omega
theorem lcs_tab (a b : List ByteArray) (i j : Nat) (hi : i < a.length) (hj : j < b.length) :
    lcs (a.drop i) (b.drop j) = if a[i].toList = b[j].toList then lcs (a.drop (i + 1)) (b.drop (j + 1)) + 1 else max (lcs (a.drop (i + 1)) (b.drop j)) (lcs (a.drop i) (b.drop (j + 1))) := by
  rw [List.drop_eq_getElem_cons hi, List.drop_eq_getElem_cons hj]
  by_cases e : a[i].toList = b[j].toList
  · rw [lcs_eq _ _ e, if_pos e]
  · rw [lcs_ne _ _ e, if_neg e]
theorem lcs_tab2 (a b : List ByteArray) (i j : Nat) (hi : i < a.length) (hj : j < b.length) :
    lcs (a.drop i) (b.drop j) = if a[i].toList = b[j].toList then max (max (lcs (a.drop (i + 1)) (b.drop j)) (lcs (a.drop i) (b.drop (j + 1)))) (lcs (a.drop (i + 1)) (b.drop (j + 1)) + 1) else max (lcs (a.drop (i + 1)) (b.drop j)) (lcs (a.drop i) (b.drop (j + 1))) := by
  rw [lcs_tab a b i j hi hj]
  by_cases e : a[i].toList = b[j].toList
  · rw [if_pos e, if_pos e]
    have h1 := lcs_s2 b[j] (a.drop (i + 1)) (b.drop (j + 1))
    have h2 := lcs_s1 a[i] (a.drop (i + 1)) (b.drop (j + 1))
    rw [← List.drop_eq_getElem_cons hj] at h1
    rw [← List.drop_eq_getElem_cons hi] at h2
    omega
  · rw [if_neg e, if_neg e]
def nxt (x : ByteArray) : List ByteArray → Option Nat
  | [] => none
  | y :: b => if x.toList = y.toList then some 0 else (nxt x b).map (· + 1)
def nxtP (x : ByteArray) (a : List ByteArray) (L : Nat) : List ByteArray → Option Nat
  | [] => none
  | y :: b => if x.toList = y.toList ∧ lcs a b + 1 = L then some 0 else (nxtP x a L b).map (· + 1)
theorem nxt_lt (x : ByteArray) : ∀ (b : List ByteArray) (k : Nat), nxt x b = some k → k < b.length
  | [], k, h => by simp [nxt] at h
  | y :: b, k, h => by
    simp only [nxt] at h
    by_cases e : x.toList = y.toList
    · rw [if_pos e] at h
      obtain rfl := Option.some.inj h
      simp
    · rw [if_neg e] at h
      cases e2 : nxt x b with
      | none => rw [e2] at h; exact absurd h (by simp)
      | some q =>
        rw [e2] at h
        obtain rfl := Option.some.inj h
        have := nxt_lt x b q e2
        simp only [List.length_cons]
        omega
theorem nxtP_none (x : ByteArray) (a : List ByteArray) (L : Nat) : ∀ (b : List ByteArray), lcs a b + 1 < L → nxtP x a L b = none
  | [], _ => rfl
  | y :: b, h => by
    have h1 := lcs_up2 y a b
    simp only [nxtP]
    rw [if_neg (by omega), nxtP_none x a L b (by omega)]
    rfl
theorem nxtP_eq (x : ByteArray) (a : List ByteArray) (L : Nat) : ∀ (b : List ByteArray), lcs (x :: a) b ≤ L → nxtP x a L b = (match nxt x b with | none => none | some k => if lcs a (b.drop (k + 1)) + 1 = L then some k else none)
  | [], _ => rfl
  | y :: b, h => by
    simp only [nxtP, nxt]
    by_cases e : x.toList = y.toList
    · rw [lcs_eq a b e] at h
      rw [if_pos e]
      by_cases e2 : lcs a b + 1 = L
      · rw [if_pos ⟨e, e2⟩]
        simp only [List.drop_succ_cons, Nat.zero_add, List.drop_zero]
        rw [if_pos e2]
      · rw [if_neg (fun c => e2 c.2), nxtP_none x a L b (by omega)]
        simp only [List.drop_succ_cons, Nat.zero_add, List.drop_zero]
        rw [if_neg e2]
        rfl
    · rw [if_neg (fun c => e c.1), if_neg e, nxtP_eq x a L b (Nat.le_trans (lcs_up2 y _ _) h)]
      cases nxt x b with
      | none => rfl
      | some k =>
        simp only [Option.map_some, List.drop_succ_cons]
        by_cases e2 : lcs a (b.drop (k + 1)) + 1 = L
        · rw [if_pos e2, if_pos e2]; rfl
        · rw [if_neg e2, if_neg e2]; rfl
def sel : List ByteArray → List ByteArray → Nat → Nat → List S132
  | [], _, _, _ => []
  | x :: a, b, i, j => match nxt x b with
    | none => sel a b (i + 1) j
    | some k => if lcs a (b.drop (k + 1)) + 1 = lcs (x :: a) b then ⟨(i : Int), ((j + k : Nat) : Int)⟩ :: sel a (b.drop (k + 1)) (i + 1) (j + k + 1) else sel a b (i + 1) j
theorem sel_zero : ∀ (a b : List ByteArray) (i j : Nat), lcs a b = 0 → sel a b i j = []
  | [], _, _, _, _ => rfl
  | x :: a, b, i, j, h => by
    have h1 := lcs_up1 x a b
    simp only [sel]
    cases nxt x b with
    | none => exact sel_zero a b _ _ (by omega)
    | some k =>
      show (if _ then _ else _) = _
      rw [if_neg (by omega)]
      exact sel_zero a b _ _ (by omega)
def Rise (n m : Int) : Int → Int → List S132 → Prop
  | _, _, [] => True
  | i, j, p :: r => i ≤ p.f0 ∧ p.f0 ≤ n ∧ j ≤ p.f1 ∧ p.f1 ≤ m ∧ Rise n m (p.f0 + 1) (p.f1 + 1) r
theorem Rise.mono {n m : Int} : ∀ {r : List S132} {i j i' j' : Int}, Rise n m i j r → i' ≤ i → j' ≤ j → Rise n m i' j' r
  | [], _, _, _, _, _, _, _ => trivial
  | p :: r, _, _, _, _, h, h1, h2 => ⟨by have := h.1; omega, h.2.1, by have := h.2.2.1; omega, h.2.2.2.1, h.2.2.2.2⟩
theorem sel_rise (n m : Nat) : ∀ (a b : List ByteArray) (i j : Nat), i + a.length = n → j + b.length = m → Rise n m i j (sel a b i j ++ [⟨(n : Int), (m : Int)⟩])
  | [], b, i, j, h1, h2 => by
    simp only [List.length_nil] at h1
    refine ⟨?_, ?_, ?_, ?_, trivial⟩ <;> simp only [] <;> omega
  | x :: a, b, i, j, h1, h2 => by
    simp only [List.length_cons] at h1
    have skip := (sel_rise n m a b (i + 1) j (by omega) h2).mono (i' := i) (j' := j) (by omega) (by omega)
    simp only [sel]
    cases e : nxt x b with
    | none => exact skip
    | some k =>
      have hk := nxt_lt x b k e
      show Rise _ _ _ _ ((if _ then _ else _) ++ _)
      by_cases e2 : lcs a (b.drop (k + 1)) + 1 = lcs (x :: a) b
      · rw [if_pos e2]
        have ih := sel_rise n m a (b.drop (k + 1)) (i + 1) (j + k + 1) (by omega) (by rw [List.length_drop]; omega)
        refine ⟨?_, ?_, ?_, ?_, ih.mono ?_ ?_⟩ <;> simp only [] <;> omega
      · rw [if_neg e2]
        exact skip
theorem sel_len : ∀ (a b : List ByteArray) (i j : Nat), (sel a b i j).length ≤ a.length
  | [], _, _, _ => Nat.le_refl _
  | x :: a, b, i, j => by
    have h1 := sel_len a b (i + 1) j
    simp only [sel, List.length_cons]
    cases nxt x b with
    | none => show (sel a b (i + 1) j).length ≤ _; omega
    | some k =>
      have h2 := sel_len a (b.drop (k + 1)) (i + 1) (j + k + 1)
      show (if _ then _ else _ : List _).length ≤ _
      split
      · simp only [List.length_cons]; omega
      · omega
end Go.Proofs.YtbamfhcifpfocaaDoor.Pw
