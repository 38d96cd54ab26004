/- Part of the proof that the law patchesLead is true for every input. No conditions. Laid by a program of this session over the kit's print and words; declarations that nothing names are left out. -/
import Derived.Test.YtomamgapdeggjaaDoorZlUlLcs2
namespace Go.Proofs.YtomamgapdeggjaaDoor.Pl
open Go.RowKit Go.Proofs.YtomamgapdeggjaaDoor.GBase Go.Proofs.YtomamgapdeggjaaDoorW.PrintWords Go.Proofs.YtomamgapdeggjaaDoorW.PrintLast Go.Proofs.YtomamgapdeggjaaDoorW.PrintMore
theorem ba_ext {x y : ByteArray} (h : x.toList = y.toList) : x = y := by
  rw [Lib.toList_data, Lib.toList_data] at h
  obtain ⟨⟨a⟩⟩ := x
  obtain ⟨⟨b⟩⟩ := y
  simp only [] at h
  rw [h]
def Lead (x y : List ByteArray) : Bool → Nat → Nat → List S72 → Prop
  | _, i, j, [] => i ≤ x.length ∧ j ≤ y.length ∧ x.drop i = y.drop j
  | s, i, j, c :: r => ∃ p q : Nat, c.f0 = (p : Int) ∧ i ≤ p ∧ (s = true ∨ i < p) ∧ j ≤ q ∧ p + c.f1.length ≤ x.length ∧ q + c.f2.length ≤ y.length ∧ (x.take p).drop i = (y.take q).drop j ∧ c.f1 = (x.take (p + c.f1.length)).drop p ∧ c.f2 = (y.take (q + c.f2.length)).drop q ∧ 0 < c.f1.length + c.f2.length ∧ Lead x y false (p + c.f1.length) (q + c.f2.length) r
theorem Lead.gap {x y : List ByteArray} {i j p q : Nat} (h1 : i ≤ p) (h2 : j ≤ q) (h3 : p ≤ x.length) (h4 : q ≤ y.length) (h : (x.take p).drop i = (y.take q).drop j) : p - i = q - j := by
  have := congrArg List.length h
  rw [List.length_drop, List.length_drop, List.length_take, List.length_take] at this
  omega
theorem take_drop_one {x : List ByteArray} {i p : Nat} {z : ByteArray} (hz : x[i]? = some z) (h : i < p) : (x.take p).drop i = z :: (x.take p).drop (i + 1) := by
  have h1 : i < (x.take p).length := by
    have := (List.getElem?_eq_some_iff.1 hz).1
    rw [List.length_take]
    omega
  rw [List.drop_eq_getElem_cons h1]
  have h2 : (x.take p)[i]? = some z := by rw [List.getElem?_take, if_pos h]; exact hz
  rw [(List.getElem?_eq_some_iff.1 h2).2]
theorem drop_one {x : List ByteArray} {i : Nat} {z : ByteArray} (hz : x[i]? = some z) : x.drop i = z :: x.drop (i + 1) := by
  obtain ⟨h, e⟩ := List.getElem?_eq_some_iff.1 hz
  rw [List.drop_eq_getElem_cons h, e]
theorem Lead.same {x y : List ByteArray} {i j : Nat} {z : ByteArray} (hx : x[i]? = some z) (hy : y[j]? = some z) {s : Bool} (t : Bool) : ∀ {L : List S72}, Lead x y s (i + 1) (j + 1) L → Lead x y t i j L
  | [], h => by
    obtain ⟨h1, h2, h3⟩ := h
    refine ⟨by omega, by omega, ?_⟩
    rw [drop_one hx, drop_one hy, h3]
  | c :: r, h => by
    obtain ⟨p, q, e0, e1, e2, e3, e4, e5, e6, e7⟩ := h
    refine ⟨p, q, e0, by omega, .inr (by omega), by omega, e4, e5, ?_, e7⟩
    rw [take_drop_one hx (by omega), take_drop_one hy (by omega), e6]
def mv : List S72 → Nat
  | [] => 0
  | c :: r => c.f1.length + c.f2.length + mv r
def turnL (more : Int) : List S72 → List S72
  | [] => []
  | c :: r => ⟨c.f0 + more, c.f2, c.f1⟩ :: turnL (more + ((c.f2.length : Int) - (c.f1.length : Int))) r
theorem Lead.turn {x y : List ByteArray} : ∀ {L : List S72} {s : Bool} {i j : Nat}, Lead x y s i j L → Lead y x s j i (turnL ((j : Int) - (i : Int)) L)
  | [], _, _, _, h => ⟨h.2.1, h.1, h.2.2.symm⟩
  | c :: r, s, i, j, h => by
    obtain ⟨p, q, e0, e1, e2, e3, e4, e5, e6, e7, e8, e9, e10⟩ := h
    have g := Lead.gap e1 e3 (by omega) (by omega) e6
    have ih := e10.turn
    refine ⟨q, p, ?_, e3, ?_, e1, e5, e4, e6.symm, e8, e7, by simp only []; omega, ?_⟩
    · show c.f0 + ((j : Int) - (i : Int)) = (q : Int)
      omega
    · rcases e2 with e | e
      · exact .inl e
      · exact .inr (by omega)
    · have e : (j : Int) - (i : Int) + ((c.f2.length : Int) - (c.f1.length : Int)) = ((q + c.f2.length : Nat) : Int) - ((p + c.f1.length : Nat) : Int) := by omega
      show Lead y x false (q + c.f2.length) (p + c.f1.length) (turnL ((j : Int) - (i : Int) + ((c.f2.length : Int) - (c.f1.length : Int))) r)
      rw [e]
      exact ih
theorem Lead.len {x y : List ByteArray} : ∀ {L : List S72} {s : Bool} {i j : Nat}, Lead x y s i j L → i ≤ x.length ∧ j ≤ y.length
  | [], _, _, _, h => ⟨h.1, h.2.1⟩
  | _ :: _, _, _, _, h => by
    obtain ⟨p, q, e0, e1, e2, e3, e4, e5, _⟩ := h
    exact ⟨by omega, by omega⟩
def Pairs (x y : List ByteArray) : Nat → Nat → List S166 → Prop
  | _, _, [] => True
  | i, j, p :: r => ∃ (a b : Nat) (z : ByteArray), p.f0 = (a : Int) ∧ p.f1 = (b : Int) ∧ i ≤ a ∧ j ≤ b ∧ x[a]? = some z ∧ y[b]? = some z ∧ Pairs x y (a + 1) (b + 1) r
theorem Pairs.mono {x y : List ByteArray} : ∀ {r : List S166} {i j i' j' : Nat}, Pairs x y i j r → i' ≤ i → j' ≤ j → Pairs x y i' j' r
  | [], _, _, _, _, _, _, _ => trivial
  | p :: r, _, _, _, _, h, h1, h2 => by
    obtain ⟨a, b, z, e0, e1, e2, e3, e4⟩ := h
    exact ⟨a, b, z, e0, e1, by omega, by omega, e4⟩
theorem nxt_get (x : ByteArray) : ∀ (b : List ByteArray) (k : Nat), nxt x b = some k → b[k]? = some x
  | [], k, h => by simp [nxt] at h
  | y :: b, k, h => by
    simp only [nxt] at h
    by_cases e : x.toList = y.toList
    · rw [if_pos e] at h
      obtain rfl := Option.some.inj h
      rw [ba_ext e]
      rfl
    · rw [if_neg e] at h
      cases e2 : nxt x b with
      | none => rw [e2] at h; exact absurd h (by simp)
      | some q =>
        rw [e2] at h
        obtain rfl := Option.some.inj h
        rw [List.getElem?_cons_succ]
        exact nxt_get x b q e2
theorem sel_pairs (x y : List ByteArray) : ∀ (a b : List ByteArray) (i j : Nat), x.drop i = a → y.drop j = b → Pairs x y i j (sel a b i j)
  | [], _, _, _, _, _ => trivial
  | u :: a, b, i, j, h1, h2 => by
    have hd : x.drop (i + 1) = a := by rw [← List.drop_drop, h1]; rfl
    have hx : x[i]? = some u := by
      have := congrArg (fun l => l[0]?) h1
      simpa [List.getElem?_drop] using this
    have skip := (sel_pairs x y a b (i + 1) j hd h2).mono (i' := i) (j' := j) (by omega) (by omega)
    simp only [sel]
    cases e : nxt u b with
    | none => exact skip
    | some k =>
      have hk := nxt_get u b k e
      show Pairs x y i j (if _ then _ else _)
      by_cases e2 : lcs a (b.drop (k + 1)) + 1 = lcs (u :: a) b
      · rw [if_pos e2]
        have hy : y[j + k]? = some u := by rw [← h2, List.getElem?_drop] at hk; exact hk
        have hd2 : y.drop (j + k + 1) = b.drop (k + 1) := by rw [← h2, List.drop_drop]; congr 1
        exact ⟨i, j + k, u, rfl, rfl, by omega, by omega, hx, hy, sel_pairs x y a (b.drop (k + 1)) (i + 1) (j + k + 1) hd hd2⟩
      · rw [if_neg e2]
        exact skip
end Go.Proofs.YtomamgapdeggjaaDoor.Pl
