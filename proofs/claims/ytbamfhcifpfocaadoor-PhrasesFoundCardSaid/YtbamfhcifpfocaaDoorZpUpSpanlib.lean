/- Part of the proof that the law phrasesFound is true for every input. No conditions. Laid by a program of this session over the kit's print and words; declarations that nothing names are left out. -/
import Derived.Test.YtbamfhcifpfocaaDoorZpGBase
namespace Go.Proofs.YtbamfhcifpfocaaDoor.GBase
def cov (l : List (Nat × Nat)) (i : Nat) : Bool := l.any fun p => decide (p.1 ≤ i) && decide (i < p.2)
def Norm (l : List (Nat × Nat)) : Prop := (∀ p ∈ l, p.1 < p.2) ∧ l.Pairwise (fun p q => p.2 < q.1)
theorem cov_iff {l : List (Nat × Nat)} {i : Nat} : cov l i = true ↔ ∃ p ∈ l, p.1 ≤ i ∧ i < p.2 := by
  simp [cov]
theorem cov_cons (p : Nat × Nat) (l : List (Nat × Nat)) (i : Nat) : cov (p :: l) i = ((decide (p.1 ≤ i) && decide (i < p.2)) || cov l i) := by simp [cov]
theorem cov_append (l m : List (Nat × Nat)) (i : Nat) : cov (l ++ m) i = (cov l i || cov m i) := by simp [cov]
theorem cov_nil (i : Nat) : cov [] i = false := rfl
theorem cov_perm {l m : List (Nat × Nat)} (h : l.Perm m) (i : Nat) : cov l i = cov m i := by
  rw [Bool.eq_iff_iff, cov_iff, cov_iff]
  constructor
  · rintro ⟨p, hp, h1⟩; exact ⟨p, h.mem_iff.1 hp, h1⟩
  · rintro ⟨p, hp, h1⟩; exact ⟨p, h.mem_iff.2 hp, h1⟩
theorem Norm.tail {p : Nat × Nat} {l : List (Nat × Nat)} (h : Norm (p :: l)) : Norm l := ⟨fun q hq => h.1 q (List.mem_cons_of_mem _ hq), (List.pairwise_cons.1 h.2).2⟩
theorem Norm.after {p : Nat × Nat} {l : List (Nat × Nat)} (h : Norm (p :: l)) {i : Nat} (hc : cov l i = true) : p.2 < i := by
  obtain ⟨q, hq, h1, h2⟩ := cov_iff.1 hc
  have := (List.pairwise_cons.1 h.2).1 q hq
  omega
theorem Norm.first {p : Nat × Nat} {l : List (Nat × Nat)} (h : Norm (p :: l)) {i : Nat} (hc : cov (p :: l) i = true) : p.1 ≤ i := by
  obtain ⟨q, hq, h1, h2⟩ := cov_iff.1 hc
  have hp := h.1 p List.mem_cons_self
  rcases List.mem_cons.1 hq with rfl | hq
  · exact h1
  · have := (List.pairwise_cons.1 h.2).1 q hq
    omega
theorem cov_head {p : Nat × Nat} {l : List (Nat × Nat)} {i : Nat} (h1 : p.1 ≤ i) (h2 : i < p.2) : cov (p :: l) i = true := cov_iff.2 ⟨p, List.mem_cons_self, h1, h2⟩
theorem Norm.gap {p : Nat × Nat} {l : List (Nat × Nat)} (h : Norm (p :: l)) : cov (p :: l) p.2 = false := by
  cases hc : cov (p :: l) p.2 with
  | false => rfl
  | true =>
    rw [cov_cons] at hc
    simp at hc
    have := h.after hc
    omega
theorem Norm.head_lt {p : Nat × Nat} {l : List (Nat × Nat)} (h : Norm (p :: l)) : p.1 < p.2 := h.1 p List.mem_cons_self
theorem Norm.unique {l m : List (Nat × Nat)} (hl : Norm l) (hm : Norm m) (h : ∀ i, cov l i = cov m i) : l = m := by
  induction l generalizing m with
  | nil =>
    cases m with
    | nil => rfl
    | cons q m =>
      have := h q.1
      rw [cov_head (Nat.le_refl _) hm.head_lt] at this
      cases this
  | cons p l ih =>
    cases m with
    | nil =>
      have := h p.1
      rw [cov_head (Nat.le_refl _) hl.head_lt] at this
      cases this
    | cons q m =>
      have a1 : p.1 ≤ q.1 := hl.first (by rw [h, cov_head (Nat.le_refl _) hm.head_lt])
      have a2 : q.1 ≤ p.1 := hm.first (by rw [← h, cov_head (Nat.le_refl _) hl.head_lt])
      have b1 : ¬ p.2 < q.2 := fun hlt => by
        have e := h p.2
        rw [hl.gap, cov_head (by have := hl.head_lt; omega) hlt] at e
        cases e
      have b2 : ¬ q.2 < p.2 := fun hlt => by
        have e := h q.2
        rw [hm.gap, cov_head (by have := hm.head_lt; omega) hlt] at e
        cases e
      obtain rfl : p = q := Prod.ext (by omega) (by omega)
      congr 1
      refine ih hl.tail hm.tail fun i => ?_
      have e := h i
      rw [cov_cons, cov_cons] at e
      by_cases hi : i < p.2
      · cases c1 : cov l i with
        | true => have := hl.after c1; omega
        | false =>
          cases c2 : cov m i with
          | true => have := hm.after c2; omega
          | false => rfl
      · have : (decide (p.1 ≤ i) && decide (i < p.2)) = false := by simp; omega
        rw [this] at e
        simpa using e
def NormR (l : List (Nat × Nat)) : Prop := (∀ p ∈ l, p.1 < p.2) ∧ l.Pairwise (fun p q => q.2 < p.1)
theorem NormR.norm {l : List (Nat × Nat)} (h : NormR l) : Norm l.reverse := ⟨fun p hp => h.1 p (List.mem_reverse.1 hp), List.pairwise_reverse.2 h.2⟩
theorem cov_reverse (l : List (Nat × Nat)) (i : Nat) : cov l.reverse i = cov l i := cov_perm l.reverse_perm i
def putR : List (Nat × Nat) → List (Nat × Nat) → List (Nat × Nat)
  | out, [] => out
  | [], s :: l => putR [s] l
  | p :: out, s :: l => if s.1 ≤ p.2 then putR ((p.1, max p.2 s.2) :: out) l else putR (s :: p :: out) l
theorem putR_law (l : List (Nat × Nat)) : ∀ out : List (Nat × Nat), NormR out → (∀ s ∈ l, s.1 < s.2) → l.Pairwise (fun a b => a.1 ≤ b.1) → (∀ p ∈ out, ∀ s ∈ l, p.1 ≤ s.1) →
    NormR (putR out l) ∧ ∀ i, cov (putR out l) i = (cov out i || cov l i) := by
  induction l with
  | nil => intro out h _ _ _; cases out <;> exact ⟨h, fun i => by simp [putR, cov_nil]⟩
  | cons s l ih =>
    intro out h hv hs ho
    have hs1 := List.pairwise_cons.1 hs
    have hsv : s.1 < s.2 := hv s List.mem_cons_self
    cases out with
    | nil =>
      obtain ⟨a, b⟩ := ih [s] ⟨by simpa using hsv, by simp⟩ (fun q hq => hv q (List.mem_cons_of_mem _ hq)) hs1.2 (fun p hp q hq => by
        obtain rfl := List.mem_singleton.1 hp
        exact hs1.1 q hq)
      refine ⟨by simpa [putR] using a, fun i => ?_⟩
      simp only [putR]
      rw [b i, cov_cons s [], cov_cons s l, cov_nil]
      simp
    | cons p out =>
      have hp1 : p.1 < p.2 := h.1 p List.mem_cons_self
      have hp2 := List.pairwise_cons.1 h.2
      have hps : p.1 ≤ s.1 := ho p List.mem_cons_self s List.mem_cons_self
      simp only [putR]
      by_cases hle : s.1 ≤ p.2
      · rw [if_pos hle]
        obtain ⟨a, b⟩ := ih ((p.1, max p.2 s.2) :: out) ⟨fun q hq => by
            rcases List.mem_cons.1 hq with rfl | hq
            · simp only; omega
            · exact h.1 q (List.mem_cons_of_mem _ hq), List.pairwise_cons.2 ⟨hp2.1, hp2.2⟩⟩ (fun q hq => hv q (List.mem_cons_of_mem _ hq)) hs1.2 (fun q hq t ht => by
            rcases List.mem_cons.1 hq with rfl | hq
            · exact ho p List.mem_cons_self t (List.mem_cons_of_mem _ ht)
            · exact ho q (List.mem_cons_of_mem _ hq) t (List.mem_cons_of_mem _ ht))
        refine ⟨a, fun i => ?_⟩
        rw [b i, cov_cons, cov_cons p out, cov_cons s l]
        have e : (decide (p.1 ≤ i) && decide (i < max p.2 s.2)) = ((decide (p.1 ≤ i) && decide (i < p.2)) || (decide (s.1 ≤ i) && decide (i < s.2))) := by
          rw [Bool.eq_iff_iff]
          simp only [Bool.and_eq_true, Bool.or_eq_true, decide_eq_true_eq]
          omega
        rw [e]
        cases (decide (p.1 ≤ i) && decide (i < p.2)) <;> cases (decide (s.1 ≤ i) && decide (i < s.2)) <;> cases cov out i <;> rfl
      · rw [if_neg hle]
        obtain ⟨a, b⟩ := ih (s :: p :: out) ⟨fun q hq => by
            rcases List.mem_cons.1 hq with rfl | hq
            · exact hsv
            · exact h.1 q hq, List.pairwise_cons.2 ⟨fun q hq => by
              rcases List.mem_cons.1 hq with rfl | hq
              · omega
              · have := hp2.1 q hq; omega, h.2⟩⟩ (fun q hq => hv q (List.mem_cons_of_mem _ hq)) hs1.2 (fun q hq t ht => by
            rcases List.mem_cons.1 hq with rfl | hq
            · exact hs1.1 t ht
            · exact ho q hq t (List.mem_cons_of_mem _ ht))
        refine ⟨a, fun i => ?_⟩
        rw [b i, cov_cons s (p :: out), cov_cons s l]
        cases (decide (s.1 ≤ i) && decide (i < s.2)) <;> cases cov (p :: out) i <;> rfl
def sfR : Bool → Nat → List (Nat × Nat) → List Bool → List (Nat × Nat)
  | _, _, out, [] => out
  | prev, j, out, x :: l => if x = true then (if prev = true then sfR true (j + 1) (((out.headD (0, 0)).1, j + 1) :: out.tail) l else sfR true (j + 1) ((j, j + 1) :: out) l) else sfR false (j + 1) out l
theorem sfR_law (l : List Bool) : ∀ (prev : Bool) (j : Nat) (out : List (Nat × Nat)), NormR out → (∀ p ∈ out, p.2 ≤ j) → (prev = true → ∃ p o, out = p :: o ∧ p.2 = j) → (prev = false → ∀ p ∈ out, p.2 < j) →
    NormR (sfR prev j out l) ∧ ∀ i, cov (sfR prev j out l) i = (cov out i || (decide (j ≤ i) && l.getD (i - j) false)) := by
  induction l with
  | nil => intro prev j out h _ _ _; exact ⟨by simpa [sfR] using h, fun i => by simp [sfR]⟩
  | cons x l ih =>
    intro prev j out h hj hp hn
    have step : ∀ i (c : Bool), (decide (j ≤ i) && (x :: l).getD (i - j) false) = ((decide (i = j) && x) || (decide (j + 1 ≤ i) && l.getD (i - (j + 1)) false)) := fun i c => by
      by_cases e1 : i = j
      · subst e1
        simp
        intro h
        omega
      · by_cases e2 : j + 1 ≤ i
        · have : i - j = (i - (j + 1)) + 1 := by omega
          rw [this, List.getD_cons_succ]
          simp [e1, e2]
          omega
        · have : ¬ j ≤ i := by omega
          simp [e1, e2, this]
    simp only [sfR]
    cases x with
    | false =>
      rw [if_neg (by simp)]
      obtain ⟨a, b⟩ := ih false (j + 1) out h (fun p hp => by have := hj p hp; omega) (fun h => by cases h) (fun _ p hp => by have := hj p hp; omega)
      refine ⟨a, fun i => ?_⟩
      rw [b i, step i true]
      simp
    | true =>
      rw [if_pos rfl]
      cases prev with
      | true =>
        rw [if_pos rfl]
        obtain ⟨p, o, rfl, hpj⟩ := hp rfl
        have hp1 : p.1 < p.2 := h.1 p List.mem_cons_self
        have hp2 := List.pairwise_cons.1 h.2
        obtain ⟨a, b⟩ := ih true (j + 1) ((p.1, j + 1) :: o) ⟨fun q hq => by
            rcases List.mem_cons.1 hq with rfl | hq
            · simp only; omega
            · exact h.1 q (List.mem_cons_of_mem _ hq), List.pairwise_cons.2 ⟨hp2.1, hp2.2⟩⟩ (fun q hq => by
            rcases List.mem_cons.1 hq with rfl | hq
            · exact Nat.le_refl _
            · have := hj q (List.mem_cons_of_mem _ hq); omega) (fun _ => ⟨_, _, rfl, rfl⟩) (fun h => by cases h)
        refine ⟨a, fun i => ?_⟩
        show cov (sfR true (j + 1) ((p.1, j + 1) :: o) l) i = _
        rw [b i, step i true, cov_cons, cov_cons]
        have e : (decide (p.1 ≤ i) && decide (i < j + 1)) = ((decide (p.1 ≤ i) && decide (i < p.2)) || decide (i = j)) := by
          rw [Bool.eq_iff_iff]
          simp only [Bool.and_eq_true, Bool.or_eq_true, decide_eq_true_eq]
          omega
        simp only
        rw [e]
        cases (decide (p.1 ≤ i) && decide (i < p.2)) <;> cases decide (i = j) <;> cases cov o i <;> simp
      | false =>
        rw [if_neg (by simp)]
        obtain ⟨a, b⟩ := ih true (j + 1) ((j, j + 1) :: out) ⟨fun q hq => by
            rcases List.mem_cons.1 hq with rfl | hq
            · simp only; omega
            · exact h.1 q hq, List.pairwise_cons.2 ⟨fun q hq => hn rfl q hq, h.2⟩⟩ (fun q hq => by
            rcases List.mem_cons.1 hq with rfl | hq
            · exact Nat.le_refl _
            · have := hj q hq; omega) (fun _ => ⟨_, _, rfl, rfl⟩) (fun h => by cases h)
        refine ⟨a, fun i => ?_⟩
        rw [b i, step i true, cov_cons]
        have e : (decide (j ≤ i) && decide (i < j + 1)) = decide (i = j) := by
          rw [Bool.eq_iff_iff]
          simp only [Bool.and_eq_true, decide_eq_true_eq]
          omega
        simp only
        rw [e]
        cases decide (i = j) <;> cases cov out i <;> simp
end Go.Proofs.YtbamfhcifpfocaaDoor.GBase
