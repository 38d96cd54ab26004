/- Part of the proof that the law patchesLead is true for every input. No conditions. Laid by a program of this session over the kit's print and words; declarations that nothing names are left out. -/
import Derived.Test.YtomamgapdeggjaaDoorZlPlx0
namespace Go.Proofs.YtomamgapdeggjaaDoor.Pl
open Go.RowKit Go.Proofs.YtomamgapdeggjaaDoor.GBase Go.Proofs.YtomamgapdeggjaaDoorW.PrintWords Go.Proofs.YtomamgapdeggjaaDoorW.PrintLast Go.Proofs.YtomamgapdeggjaaDoorW.PrintMore
def lcs : List ByteArray → List ByteArray → Nat
  | [], _ => 0
  | _ :: _, [] => 0
  | x :: a, y :: b => if x.toList = y.toList then lcs a b + 1 else max (lcs a (y :: b)) (lcs (x :: a) b)
termination_by a b => a.length + b.length
theorem lcs_nil (b : List ByteArray) : lcs [] b = 0 := by simp [lcs]
theorem lcs_nil2 (a : List ByteArray) : lcs a [] = 0 := by cases a <;> simp [lcs]
theorem lcs_eq {x y : ByteArray} (a b : List ByteArray) (h : x.toList = y.toList) : lcs (x :: a) (y :: b) = lcs a b + 1 := by rw [lcs, if_pos h]
theorem lcs_ne {x y : ByteArray} (a b : List ByteArray) (h : ¬ x.toList = y.toList) : lcs (x :: a) (y :: b) = max (lcs a (y :: b)) (lcs (x :: a) b) := by rw [lcs, if_neg h]
theorem lcs_all (n : Nat) : ∀ a b : List ByteArray, a.length + b.length ≤ n → (∀ x, lcs a b ≤ lcs (x :: a) b) ∧ (∀ y, lcs a b ≤ lcs a (y :: b)) ∧ (∀ x, lcs (x :: a) b ≤ lcs a b + 1) ∧ (∀ y, lcs a (y :: b) ≤ lcs a b + 1) := by
  induction n with
  | zero =>
    intro a b h
    obtain rfl : a = [] := List.eq_nil_of_length_eq_zero (by omega)
    obtain rfl : b = [] := List.eq_nil_of_length_eq_zero (by omega)
    exact ⟨fun x => by rw [lcs_nil]; omega, fun y => by rw [lcs_nil]; omega, fun x => by rw [lcs_nil2]; omega, fun y => by rw [lcs_nil]; omega⟩
  | succ n ih =>
    intro a b h
    refine ⟨fun x => ?_, fun y => ?_, fun x => ?_, fun y => ?_⟩
    · cases b with
      | nil => rw [lcs_nil2]; omega
      | cons y b =>
        simp only [List.length_cons] at h
        obtain ⟨_, _, _, s2⟩ := ih a b (by omega)
        by_cases e : x.toList = y.toList
        · rw [lcs_eq a b e]; exact s2 y
        · rw [lcs_ne a b e]; omega
    · cases a with
      | nil => rw [lcs_nil]; omega
      | cons x a =>
        simp only [List.length_cons] at h
        obtain ⟨_, _, s1, _⟩ := ih a b (by omega)
        by_cases e : x.toList = y.toList
        · rw [lcs_eq a b e]; exact s1 x
        · rw [lcs_ne a b e]; omega
    · cases b with
      | nil => rw [lcs_nil2]; omega
      | cons y b =>
        simp only [List.length_cons] at h
        obtain ⟨_, m2, s1, _⟩ := ih a b (by omega)
        have h1 := m2 y
        have h2 := s1 x
        by_cases e : x.toList = y.toList
        · rw [lcs_eq a b e]; omega
        · rw [lcs_ne a b e]; omega
    · cases a with
      | nil => rw [lcs_nil]; omega
      | cons x a =>
        simp only [List.length_cons] at h
        obtain ⟨m1, _, _, s2⟩ := ih a b (by omega)
        have h1 := m1 x
        have h2 := s2 y
        by_cases e : x.toList = y.toList
        · rw [lcs_eq a b e]; omega
        · rw [lcs_ne a b e]; omega
theorem lcs_up1 (x : ByteArray) (a b : List ByteArray) : lcs a b ≤ lcs (x :: a) b := (lcs_all _ a b (Nat.le_refl _)).1 x
theorem lcs_up2 (y : ByteArray) (a b : List ByteArray) : lcs a b ≤ lcs a (y :: b) := (lcs_all _ a b (Nat.le_refl _)).2.1 y
theorem lcs_s1 (x : ByteArray) (a b : List ByteArray) : lcs (x :: a) b ≤ lcs a b + 1 := (lcs_all _ a b (Nat.le_refl _)).2.2.1 x
theorem lcs_s2 (y : ByteArray) (a b : List ByteArray) : lcs a (y :: b) ≤ lcs a b + 1 := (lcs_all _ a b (Nat.le_refl _)).2.2.2 y
theorem lcs_le1 : ∀ (a b : List ByteArray), lcs a b ≤ a.length
  | [], b => by rw [lcs_nil]; exact Nat.zero_le _
  | x :: a, b => by have := lcs_s1 x a b; have := lcs_le1 a b; simp only [List.length_cons]; omega
theorem lcs_tab (a b : List ByteArray) (i j : Nat) (hi : i < a.length) (hj : j < b.length) :
    lcs (a.drop i) (b.drop j) = if a[i].toList = b[j].toList then lcs (a.drop (i + 1)) (b.drop (j + 1)) + 1 else max (lcs (a.drop (i + 1)) (b.drop j)) (lcs (a.drop i) (b.drop (j + 1))) := by
  rw [List.drop_eq_getElem_cons hi, List.drop_eq_getElem_cons hj]
  by_cases e : a[i].toList = b[j].toList
  · rw [lcs_eq _ _ e, if_pos e]
  · rw [lcs_ne _ _ e, if_neg e]
def nxt (x : ByteArray) : List ByteArray → Option Nat
  | [] => none
  | y :: b => if x.toList = y.toList then some 0 else (nxt x b).map (· + 1)
theorem nxt_lt (x : ByteArray) : ∀ (b : List ByteArray) (k : Nat), nxt x b = some k → k < b.length
  | [], k, h => by simp [nxt] at h
  | y :: b, k, h => by
    simp only [nxt] at h
    by_cases e : x.toList = y.toList
    · rw [if_pos e] at h
      obtain rfl := Option.some.inj h
      simp
    · rw [if_neg e] at h
      cases e2 : nxt x b with
      | none => rw [e2] at h; exact absurd h (by simp)
      | some q =>
        rw [e2] at h
        obtain rfl := Option.some.inj h
        have := nxt_lt x b q e2
        simp only [List.length_cons]
        omega
def sel : List ByteArray → List ByteArray → Nat → Nat → List S166
  | [], _, _, _ => []
  | x :: a, b, i, j => match nxt x b with
    | none => sel a b (i + 1) j
    | some k => if lcs a (b.drop (k + 1)) + 1 = lcs (x :: a) b then ⟨(i : Int), ((j + k : Nat) : Int)⟩ :: sel a (b.drop (k + 1)) (i + 1) (j + k + 1) else sel a b (i + 1) j
theorem sel_zero : ∀ (a b : List ByteArray) (i j : Nat), lcs a b = 0 → sel a b i j = []
  | [], _, _, _, _ => rfl
  | x :: a, b, i, j, h => by
    have h1 := lcs_up1 x a b
    simp only [sel]
    cases nxt x b with
    | none => exact sel_zero a b _ _ (by omega)
    | some k =>
      show (if _ then _ else _) = _
      rw [if_neg (by omega)]
      exact sel_zero a b _ _ (by omega)
def Rise (n m : Int) : Int → Int → List S166 → Prop
  | _, _, [] => True
  | i, j, p :: r => i ≤ p.f0 ∧ p.f0 ≤ n ∧ j ≤ p.f1 ∧ p.f1 ≤ m ∧ Rise n m (p.f0 + 1) (p.f1 + 1) r
theorem Rise.mono {n m : Int} : ∀ {r : List S166} {i j i' j' : Int}, Rise n m i j r → i' ≤ i → j' ≤ j → Rise n m i' j' r
  | [], _, _, _, _, _, _, _ => trivial
  | p :: r, _, _, _, _, h, h1, h2 => ⟨by have := h.1; omega, h.2.1, by have := h.2.2.1; omega, h.2.2.2.1, h.2.2.2.2⟩
theorem sel_len : ∀ (a b : List ByteArray) (i j : Nat), (sel a b i j).length ≤ a.length
  | [], _, _, _ => Nat.le_refl _
  | x :: a, b, i, j => by
    have h1 := sel_len a b (i + 1) j
    simp only [sel, List.length_cons]
    cases nxt x b with
    | none => show (sel a b (i + 1) j).length ≤ _; omega
    | some k =>
      have h2 := sel_len a (b.drop (k + 1)) (i + 1) (j + k + 1)
      show (if _ then _ else _ : List _).length ≤ _
      split
      · simp only [List.length_cons]; omega
      · omega
end Go.Proofs.YtomamgapdeggjaaDoor.Pl
