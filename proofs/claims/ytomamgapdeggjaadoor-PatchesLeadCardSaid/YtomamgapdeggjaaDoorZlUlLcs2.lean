/- Part of the proof that the law patchesLead is true for every input. No conditions. Laid by a program of this session over the kit's print and words; declarations that nothing names are left out. -/
import Derived.Test.YtomamgapdeggjaaDoorZlUlLcs
namespace Go.Proofs.YtomamgapdeggjaaDoor.Pl
open Go.RowKit Go.Proofs.YtomamgapdeggjaaDoor.GBase Go.Proofs.YtomamgapdeggjaaDoorW.PrintWords Go.Proofs.YtomamgapdeggjaaDoorW.PrintLast Go.Proofs.YtomamgapdeggjaaDoorW.PrintMore
theorem lcs_symm_ (n : Nat) : ∀ a b : List ByteArray, a.length + b.length ≤ n → lcs a b = lcs b a := by
  induction n with
  | zero =>
    intro a b h
    obtain rfl : a = [] := List.eq_nil_of_length_eq_zero (by omega)
    obtain rfl : b = [] := List.eq_nil_of_length_eq_zero (by omega)
    rfl
  | succ n ih =>
    intro a b h
    cases a with
    | nil => rw [lcs_nil, lcs_nil2]
    | cons x a =>
      cases b with
      | nil => rw [lcs_nil, lcs_nil2]
      | cons y b =>
        simp only [List.length_cons] at h
        by_cases e : x.toList = y.toList
        · rw [lcs_eq a b e, lcs_eq b a e.symm, ih a b (by omega)]
        · rw [lcs_ne a b e, lcs_ne b a (fun c => e c.symm), ih a (y :: b) (by simp only [List.length_cons]; omega), ih (x :: a) b (by simp only [List.length_cons]; omega)]
          exact Nat.max_comm _ _
theorem lcs_symm (a b : List ByteArray) : lcs a b = lcs b a := lcs_symm_ _ a b (Nat.le_refl _)
theorem lcs_first (x : ByteArray) (a : List ByteArray) : ∀ b : List ByteArray, lcs (x :: a) b = (match nxt x b with | none => lcs a b | some k => max (lcs a b) (lcs a (b.drop (k + 1)) + 1))
  | [] => by simp only [nxt]; rw [lcs_nil2, lcs_nil2]
  | y :: b => by
    have h1 := lcs_s2 y a b
    have h2 := lcs_up2 y a b
    have ih := lcs_first x a b
    simp only [nxt]
    by_cases e : x.toList = y.toList
    · rw [if_pos e, lcs_eq a b e]
      simp only [List.drop_succ_cons, Nat.zero_add, List.drop_zero]
      omega
    · rw [if_neg e, lcs_ne a b e, ih]
      clear ih
      cases nxt x b with
      | none =>
        show max (lcs a (y :: b)) (lcs a b) = lcs a (y :: b)
        omega
      | some k =>
        show max (lcs a (y :: b)) (max (lcs a b) (lcs a (b.drop (k + 1)) + 1)) = max (lcs a (y :: b)) (lcs a (b.drop (k + 1)) + 1)
        omega
theorem sel_count : ∀ (a b : List ByteArray) (i j : Nat), (sel a b i j).length = lcs a b
  | [], b, i, j => by rw [lcs_nil]; rfl
  | x :: a, b, i, j => by
    have h := lcs_first x a b
    simp only [sel]
    cases e : nxt x b with
    | none =>
      rw [e] at h
      rw [h]
      exact sel_count a b _ _
    | some k =>
      rw [e] at h
      simp only [] at h
      show (if _ then _ else _ : List _).length = _
      by_cases c : lcs a (b.drop (k + 1)) + 1 = lcs (x :: a) b
      · rw [if_pos c, List.length_cons, sel_count a (b.drop (k + 1)) _ _, c]
      · rw [if_neg c, sel_count a b _ _]
        omega
end Go.Proofs.YtomamgapdeggjaaDoor.Pl
