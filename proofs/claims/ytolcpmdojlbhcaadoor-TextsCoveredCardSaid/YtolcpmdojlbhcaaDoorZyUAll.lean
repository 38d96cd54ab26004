/- A part of the proof of textsCovered. No conditions. Laid by program over the kit's print and words. -/
import Derived.Test.YtolcpmdojlbhcaaDoorZyPxx2
import Derived.Test.YtolcpmdojlbhcaaDoorZyGBase
import Derived.Test.YtolcpmdojlbhcaaDoorZyPxx11
import Derived.Test.YtolcpmdojlbhcaaDoorZyPxx6
import Derived.Test.YtolcpmdojlbhcaaDoorZyPxx4
import Derived.Lib.ValidLaws
import Derived.Lib.MapLaws
import Derived.Test.YtolcpmdojlbhcaaDoorZyPxx5
import Derived.Test.YtolcpmdojlbhcaaDoorZyPxx13
import Derived.Test.YtolcpmdojlbhcaaDoorZyPxx12
import Derived.Test.YtolcpmdojlbhcaaDoorZyPxx9
import Derived.Test.YtolcpmdojlbhcaaDoorZyPxx10
import Derived.Test.YtolcpmdojlbhcaaDoorZyPxx16
import Derived.Test.YtolcpmdojlbhcaaDoorZyPxx7
import Derived.Test.YtolcpmdojlbhcaaDoorZyPxx14
namespace Go.Proofs.YtolcpmdojlbhcaaDoor.Px
open Go.RowKit Go.Proofs.YtolcpmdojlbhcaaDoor.GBase Go.Proofs.YtolcpmdojlbhcaaDoorW.PrintWords Go.Proofs.YtolcpmdojlbhcaaDoorW.PrintLast
set_option linter.unusedVariables false
set_option linter.unusedSimpArgs false
theorem When_is (b : Bool) (e : Int) : Z19.f b e = some (if b = true then e else 0) := by
  unfold Z19.f
  cases b <;> simp
theorem In_is (a lo hi : Int) : Z51.f a lo hi = some (decide (lo ≤ a) && decide (a ≤ hi)) := by
  unfold Z51.f
  by_cases h : a ≥ lo
  · rw [if_pos h]
    have : lo ≤ a := h
    simp [this]
  · rw [if_neg h]
    have : ¬ lo ≤ a := h
    simp [this]
def firstOf : List Int → Int
  | [] => 0
  | x :: r => if x = 0 then firstOf r else x
theorem First_loop (l : List Int) (hl : l.length < 1000000) (d : Nat) : ∀ j : Nat, l.length - j ≤ d → j ≤ l.length → Ev (fun k => Z13.l0 k l (l.length : Int) (j : Int)) (firstOf (l.drop j)) := by
  induction d with
  | zero =>
    intro j hd hj
    obtain rfl : j = l.length := by omega
    rw [List.drop_length]
    exact Ev.step (fun _ => Z13.l0.eq_2 ..) (ev_neg (by omega) (ev_val rfl))
  | succ d ih =>
    intro j hd hj
    by_cases hlt : j < l.length
    · have hw : wrap64 ((j : Int) + 1) = ((j + 1 : Nat) : Int) := by rw [wr64 (by omega) (by omega)]; omega
      have hr : rd l (j : Int) = l[j] := by simp [rd, List.getD, hlt]
      rw [List.drop_eq_getElem_cons hlt]
      refine Ev.step (fun _ => Z13.l0.eq_2 ..) (ev_pos (by omega) (ev_pos (by omega) (ev_pos (by omega) ?_)))
      rw [hr]
      unfold firstOf
      by_cases hz : l[j] = 0
      · rw [if_pos hz]
        refine ev_pos hz ?_
        rw [hw]
        exact ih (j + 1) (by omega) (by omega)
      · rw [if_neg hz]
        exact ev_neg hz (ev_val rfl)
    · obtain rfl : j = l.length := by omega
      exact ih _ (by omega) (by omega)
theorem First_ev (l : List Int) (hl : l.length < 1000000) : Ev (fun k => Z13.f k l) (firstOf l) := First_loop l hl _ 0 (Nat.le_refl _) (by omega)
end Go.Proofs.YtolcpmdojlbhcaaDoor.Px
namespace Go.Proofs.YtolcpmdojlbhcaaDoor.GBase
def cov (l : List (Nat × Nat)) (i : Nat) : Bool := l.any fun p => decide (p.1 ≤ i) && decide (i < p.2)
def Norm (l : List (Nat × Nat)) : Prop := (∀ p ∈ l, p.1 < p.2) ∧ l.Pairwise (fun p q => p.2 < q.1)
theorem cov_iff {l : List (Nat × Nat)} {i : Nat} : cov l i = true ↔ ∃ p ∈ l, p.1 ≤ i ∧ i < p.2 := by
  simp [cov]
theorem cov_cons (p : Nat × Nat) (l : List (Nat × Nat)) (i : Nat) : cov (p :: l) i = ((decide (p.1 ≤ i) && decide (i < p.2)) || cov l i) := by simp [cov]
theorem cov_append (l m : List (Nat × Nat)) (i : Nat) : cov (l ++ m) i = (cov l i || cov m i) := by simp [cov]
theorem cov_nil (i : Nat) : cov [] i = false := rfl
theorem cov_perm {l m : List (Nat × Nat)} (h : l.Perm m) (i : Nat) : cov l i = cov m i := by
  rw [Bool.eq_iff_iff, cov_iff, cov_iff]
  constructor
  · rintro ⟨p, hp, h1⟩; exact ⟨p, h.mem_iff.1 hp, h1⟩
  · rintro ⟨p, hp, h1⟩; exact ⟨p, h.mem_iff.2 hp, h1⟩
theorem Norm.tail {p : Nat × Nat} {l : List (Nat × Nat)} (h : Norm (p :: l)) : Norm l := ⟨fun q hq => h.1 q (List.mem_cons_of_mem _ hq), (List.pairwise_cons.1 h.2).2⟩
theorem Norm.after {p : Nat × Nat} {l : List (Nat × Nat)} (h : Norm (p :: l)) {i : Nat} (hc : cov l i = true) : p.2 < i := by
  obtain ⟨q, hq, h1, h2⟩ := cov_iff.1 hc
  have := (List.pairwise_cons.1 h.2).1 q hq
  omega
theorem Norm.first {p : Nat × Nat} {l : List (Nat × Nat)} (h : Norm (p :: l)) {i : Nat} (hc : cov (p :: l) i = true) : p.1 ≤ i := by
  obtain ⟨q, hq, h1, h2⟩ := cov_iff.1 hc
  have hp := h.1 p List.mem_cons_self
  rcases List.mem_cons.1 hq with rfl | hq
  · exact h1
  · have := (List.pairwise_cons.1 h.2).1 q hq
    omega
theorem cov_head {p : Nat × Nat} {l : List (Nat × Nat)} {i : Nat} (h1 : p.1 ≤ i) (h2 : i < p.2) : cov (p :: l) i = true := cov_iff.2 ⟨p, List.mem_cons_self, h1, h2⟩
theorem Norm.gap {p : Nat × Nat} {l : List (Nat × Nat)} (h : Norm (p :: l)) : cov (p :: l) p.2 = false := by
  cases hc : cov (p :: l) p.2 with
  | false => rfl
  | true =>
    rw [cov_cons] at hc
    simp at hc
    have := h.after hc
    omega
theorem Norm.head_lt {p : Nat × Nat} {l : List (Nat × Nat)} (h : Norm (p :: l)) : p.1 < p.2 := h.1 p List.mem_cons_self
theorem Norm.unique {l m : List (Nat × Nat)} (hl : Norm l) (hm : Norm m) (h : ∀ i, cov l i = cov m i) : l = m := by
  induction l generalizing m with
  | nil =>
    cases m with
    | nil => rfl
    | cons q m =>
      have := h q.1
      rw [cov_head (Nat.le_refl _) hm.head_lt] at this
      cases this
  | cons p l ih =>
    cases m with
    | nil =>
      have := h p.1
      rw [cov_head (Nat.le_refl _) hl.head_lt] at this
      cases this
    | cons q m =>
      have a1 : p.1 ≤ q.1 := hl.first (by rw [h, cov_head (Nat.le_refl _) hm.head_lt])
      have a2 : q.1 ≤ p.1 := hm.first (by rw [← h, cov_head (Nat.le_refl _) hl.head_lt])
      have b1 : ¬ p.2 < q.2 := fun hlt => by
        have e := h p.2
        rw [hl.gap, cov_head (by have := hl.head_lt; omega) hlt] at e
        cases e
      have b2 : ¬ q.2 < p.2 := fun hlt => by
        have e := h q.2
        rw [hm.gap, cov_head (by have := hm.head_lt; omega) hlt] at e
        cases e
      obtain rfl : p = q := Prod.ext (by omega) (by omega)
      congr 1
      refine ih hl.tail hm.tail fun i => ?_
      have e := h i
      rw [cov_cons, cov_cons] at e
      by_cases hi : i < p.2
      · cases c1 : cov l i with
        | true => have := hl.after c1; omega
        | false =>
          cases c2 : cov m i with
          | true => have := hm.after c2; omega
          | false => rfl
      · have : (decide (p.1 ≤ i) && decide (i < p.2)) = false := by simp; omega
        rw [this] at e
        simpa using e
def NormR (l : List (Nat × Nat)) : Prop := (∀ p ∈ l, p.1 < p.2) ∧ l.Pairwise (fun p q => q.2 < p.1)
theorem NormR.norm {l : List (Nat × Nat)} (h : NormR l) : Norm l.reverse := ⟨fun p hp => h.1 p (List.mem_reverse.1 hp), List.pairwise_reverse.2 h.2⟩
theorem cov_reverse (l : List (Nat × Nat)) (i : Nat) : cov l.reverse i = cov l i := cov_perm l.reverse_perm i
def putR : List (Nat × Nat) → List (Nat × Nat) → List (Nat × Nat)
  | out, [] => out
  | [], s :: l => putR [s] l
  | p :: out, s :: l => if s.1 ≤ p.2 then putR ((p.1, max p.2 s.2) :: out) l else putR (s :: p :: out) l
theorem putR_law (l : List (Nat × Nat)) : ∀ out : List (Nat × Nat), NormR out → (∀ s ∈ l, s.1 < s.2) → l.Pairwise (fun a b => a.1 ≤ b.1) → (∀ p ∈ out, ∀ s ∈ l, p.1 ≤ s.1) →
    NormR (putR out l) ∧ ∀ i, cov (putR out l) i = (cov out i || cov l i) := by
  induction l with
  | nil => intro out h _ _ _; cases out <;> exact ⟨h, fun i => by simp [putR, cov_nil]⟩
  | cons s l ih =>
    intro out h hv hs ho
    have hs1 := List.pairwise_cons.1 hs
    have hsv : s.1 < s.2 := hv s List.mem_cons_self
    cases out with
    | nil =>
      obtain ⟨a, b⟩ := ih [s] ⟨by simpa using hsv, by simp⟩ (fun q hq => hv q (List.mem_cons_of_mem _ hq)) hs1.2 (fun p hp q hq => by
        obtain rfl := List.mem_singleton.1 hp
        exact hs1.1 q hq)
      refine ⟨by simpa [putR] using a, fun i => ?_⟩
      simp only [putR]
      rw [b i, cov_cons s [], cov_cons s l, cov_nil]
      simp
    | cons p out =>
      have hp1 : p.1 < p.2 := h.1 p List.mem_cons_self
      have hp2 := List.pairwise_cons.1 h.2
      have hps : p.1 ≤ s.1 := ho p List.mem_cons_self s List.mem_cons_self
      simp only [putR]
      by_cases hle : s.1 ≤ p.2
      · rw [if_pos hle]
        obtain ⟨a, b⟩ := ih ((p.1, max p.2 s.2) :: out) ⟨fun q hq => by
            rcases List.mem_cons.1 hq with rfl | hq
            · simp only; omega
            · exact h.1 q (List.mem_cons_of_mem _ hq), List.pairwise_cons.2 ⟨hp2.1, hp2.2⟩⟩ (fun q hq => hv q (List.mem_cons_of_mem _ hq)) hs1.2 (fun q hq t ht => by
            rcases List.mem_cons.1 hq with rfl | hq
            · exact ho p List.mem_cons_self t (List.mem_cons_of_mem _ ht)
            · exact ho q (List.mem_cons_of_mem _ hq) t (List.mem_cons_of_mem _ ht))
        refine ⟨a, fun i => ?_⟩
        rw [b i, cov_cons, cov_cons p out, cov_cons s l]
        have e : (decide (p.1 ≤ i) && decide (i < max p.2 s.2)) = ((decide (p.1 ≤ i) && decide (i < p.2)) || (decide (s.1 ≤ i) && decide (i < s.2))) := by
          rw [Bool.eq_iff_iff]
          simp only [Bool.and_eq_true, Bool.or_eq_true, decide_eq_true_eq]
          omega
        rw [e]
        cases (decide (p.1 ≤ i) && decide (i < p.2)) <;> cases (decide (s.1 ≤ i) && decide (i < s.2)) <;> cases cov out i <;> rfl
      · rw [if_neg hle]
        obtain ⟨a, b⟩ := ih (s :: p :: out) ⟨fun q hq => by
            rcases List.mem_cons.1 hq with rfl | hq
            · exact hsv
            · exact h.1 q hq, List.pairwise_cons.2 ⟨fun q hq => by
              rcases List.mem_cons.1 hq with rfl | hq
              · omega
              · have := hp2.1 q hq; omega, h.2⟩⟩ (fun q hq => hv q (List.mem_cons_of_mem _ hq)) hs1.2 (fun q hq t ht => by
            rcases List.mem_cons.1 hq with rfl | hq
            · exact hs1.1 t ht
            · exact ho q hq t (List.mem_cons_of_mem _ ht))
        refine ⟨a, fun i => ?_⟩
        rw [b i, cov_cons s (p :: out), cov_cons s l]
        cases (decide (s.1 ≤ i) && decide (i < s.2)) <;> cases cov (p :: out) i <;> rfl
def sfR : Bool → Nat → List (Nat × Nat) → List Bool → List (Nat × Nat)
  | _, _, out, [] => out
  | prev, j, out, x :: l => if x = true then (if prev = true then sfR true (j + 1) (((out.headD (0, 0)).1, j + 1) :: out.tail) l else sfR true (j + 1) ((j, j + 1) :: out) l) else sfR false (j + 1) out l
theorem sfR_law (l : List Bool) : ∀ (prev : Bool) (j : Nat) (out : List (Nat × Nat)), NormR out → (∀ p ∈ out, p.2 ≤ j) → (prev = true → ∃ p o, out = p :: o ∧ p.2 = j) → (prev = false → ∀ p ∈ out, p.2 < j) →
    NormR (sfR prev j out l) ∧ ∀ i, cov (sfR prev j out l) i = (cov out i || (decide (j ≤ i) && l.getD (i - j) false)) := by
  induction l with
  | nil => intro prev j out h _ _ _; exact ⟨by simpa [sfR] using h, fun i => by simp [sfR]⟩
  | cons x l ih =>
    intro prev j out h hj hp hn
    have step : ∀ i (c : Bool), (decide (j ≤ i) && (x :: l).getD (i - j) false) = ((decide (i = j) && x) || (decide (j + 1 ≤ i) && l.getD (i - (j + 1)) false)) := fun i c => by
      by_cases e1 : i = j
      · subst e1
        simp
        intro h
        omega
      · by_cases e2 : j + 1 ≤ i
        · have : i - j = (i - (j + 1)) + 1 := by omega
          rw [this, List.getD_cons_succ]
          simp [e1, e2]
          omega
        · have : ¬ j ≤ i := by omega
          simp [e1, e2, this]
    simp only [sfR]
    cases x with
    | false =>
      rw [if_neg (by simp)]
      obtain ⟨a, b⟩ := ih false (j + 1) out h (fun p hp => by have := hj p hp; omega) (fun h => by cases h) (fun _ p hp => by have := hj p hp; omega)
      refine ⟨a, fun i => ?_⟩
      rw [b i, step i true]
      simp
    | true =>
      rw [if_pos rfl]
      cases prev with
      | true =>
        rw [if_pos rfl]
        obtain ⟨p, o, rfl, hpj⟩ := hp rfl
        have hp1 : p.1 < p.2 := h.1 p List.mem_cons_self
        have hp2 := List.pairwise_cons.1 h.2
        obtain ⟨a, b⟩ := ih true (j + 1) ((p.1, j + 1) :: o) ⟨fun q hq => by
            rcases List.mem_cons.1 hq with rfl | hq
            · simp only; omega
            · exact h.1 q (List.mem_cons_of_mem _ hq), List.pairwise_cons.2 ⟨hp2.1, hp2.2⟩⟩ (fun q hq => by
            rcases List.mem_cons.1 hq with rfl | hq
            · exact Nat.le_refl _
            · have := hj q (List.mem_cons_of_mem _ hq); omega) (fun _ => ⟨_, _, rfl, rfl⟩) (fun h => by cases h)
        refine ⟨a, fun i => ?_⟩
        show cov (sfR true (j + 1) ((p.1, j + 1) :: o) l) i = _
        rw [b i, step i true, cov_cons, cov_cons]
        have e : (decide (p.1 ≤ i) && decide (i < j + 1)) = ((decide (p.1 ≤ i) && decide (i < p.2)) || decide (i = j)) := by
          rw [Bool.eq_iff_iff]
          simp only [Bool.and_eq_true, Bool.or_eq_true, decide_eq_true_eq]
          omega
        simp only
        rw [e]
        cases (decide (p.1 ≤ i) && decide (i < p.2)) <;> cases decide (i = j) <;> cases cov o i <;> simp
      | false =>
        rw [if_neg (by simp)]
        obtain ⟨a, b⟩ := ih true (j + 1) ((j, j + 1) :: out) ⟨fun q hq => by
            rcases List.mem_cons.1 hq with rfl | hq
            · simp only; omega
            · exact h.1 q hq, List.pairwise_cons.2 ⟨fun q hq => hn rfl q hq, h.2⟩⟩ (fun q hq => by
            rcases List.mem_cons.1 hq with rfl | hq
            · exact Nat.le_refl _
            · have := hj q hq; omega) (fun _ => ⟨_, _, rfl, rfl⟩) (fun h => by cases h)
        refine ⟨a, fun i => ?_⟩
        rw [b i, step i true, cov_cons]
        have e : (decide (j ≤ i) && decide (i < j + 1)) = decide (i = j) := by
          rw [Bool.eq_iff_iff]
          simp only [Bool.and_eq_true, decide_eq_true_eq]
          omega
        simp only
        rw [e]
        cases decide (i = j) <;> cases cov out i <;> simp
end Go.Proofs.YtolcpmdojlbhcaaDoor.GBase
namespace Go.Proofs.YtolcpmdojlbhcaaDoor.Px
open Go.RowKit Go.Proofs.YtolcpmdojlbhcaaDoor.GBase Go.Proofs.YtolcpmdojlbhcaaDoorW.PrintWords Go.Proofs.YtolcpmdojlbhcaaDoorW.PrintLast
set_option linter.unusedVariables false
set_option linter.unusedSimpArgs false
def spn (p : Nat × Nat) : S46 := ⟨p.1, p.2⟩
theorem rdT_at (l : List S46) (j : Nat) (hj : j < l.length) : rd_T46 l (j : Int) = l[j] := by
  simp [rd_T46, List.getD_eq_getElem?_getD, List.getElem?_eq_getElem hj]
theorem rdT_spn (l : List (Nat × Nat)) (j : Nat) (hj : j < l.length) : rd_T46 (l.map spn) (j : Int) = spn l[j] := by
  rw [rdT_at _ _ (by simpa using hj)]
  simp
theorem mx_nat (j : Nat) (h : 0 < j) (h2 : j ≤ 1000000) : wrap64 (mx (j : Int) 1 - 1) = ((j - 1 : Nat) : Int) := by
  have : mx (j : Int) 1 = (j : Int) := by unfold mx; split <;> omega
  rw [this]
  unfold wrap64
  omega
def prevOf (l : List S46) (j : Nat) : Option Int := if j = 0 then none else some (rd_T46 l ((j - 1 : Nat) : Int)).f1
def afterB : Option Int → Int → Bool
  | none, _ => false
  | some t, x => decide (x ≤ t)
def chkL (size : Int) : Option Int → List S46 → Int
  | _, [] => 0
  | prev, s :: l => if s.f0 < 0 ∨ s.f0 ≥ s.f1 ∨ s.f1 > size then 1 else if afterB prev s.f0 = true then 7 else chkL size (some s.f1) l
def chk (l : List S46) (size : Int) : Int := if size < 0 ∨ size > 200000 then 1 else if (l.length : Int) > 1000 then 2 else chkL size none l
theorem prev_zero (l : List S46) : prevOf l 0 = none := rfl
theorem prev_pos (l : List S46) (j : Nat) (h : 0 < j) : prevOf l j = some (rd_T46 l ((j - 1 : Nat) : Int)).f1 := by
  unfold prevOf
  rw [if_neg (by omega)]
theorem prev_succ (l : List S46) (j : Nat) (h : j < l.length) : prevOf l (j + 1) = some l[j].f1 := by
  rw [prev_pos _ _ (by omega)]
  show some (rd_T46 l ((j : Nat) : Int)).f1 = _
  rw [rdT_at l j h]
theorem check_loop (l : List S46) (hl : l.length < 1000000) (size : Int) (d : Nat) : ∀ j : Nat, l.length - j ≤ d → j ≤ l.length → Ev (fun k => Z9.l0 k l size l (l.length : Int) (j : Int)) (chkL size (prevOf l j) (l.drop j)) := by
  induction d with
  | zero =>
    intro j hd hj
    obtain rfl : j = l.length := by omega
    rw [List.drop_length]
    exact Ev.step (fun _ => Z9.l0.eq_2 ..) (ev_neg (by omega) (ev_val rfl))
  | succ d ih =>
    intro j hd hj
    by_cases hlt : j < l.length
    · have hw : wrap64 ((j : Int) + 1) = ((j + 1 : Nat) : Int) := by rw [wr64 (by omega) (by omega)]; omega
      have hn := ih (j + 1) (by omega) (by omega)
      rw [prev_succ l j hlt] at hn
      rw [List.drop_eq_getElem_cons hlt]
      refine Ev.step (fun _ => Z9.l0.eq_2 ..) (ev_pos (by omega) (ev_pos (by omega) (ev_pos (by omega) ?_)))
      rw [rdT_at l j hlt, hw]
      generalize l[j] = s at *
      simp only [chkL]
      have tail : ∀ v : Int, (v = if s.f0 < 0 ∨ s.f0 ≥ s.f1 ∨ s.f1 > size then 1 else 0) → ∀ w : Int, (w = if afterB (prevOf l j) s.f0 = true then 7 else 0) →
          Ev (fun k => (Z13.f k [v, w]).bind fun t => if t = 0 then Z9.l0 k l size l (l.length : Int) ((j + 1 : Nat) : Int) else some t) (if s.f0 < 0 ∨ s.f0 ≥ s.f1 ∨ s.f1 > size then 1 else if afterB (prevOf l j) s.f0 = true then 7 else chkL size (some s.f1) (l.drop (j + 1))) := by
        intro v hv w hw2
        refine Ev.bind (First_ev [v, w] (by simp)) ?_
        by_cases h1 : s.f0 < 0 ∨ s.f0 ≥ s.f1 ∨ s.f1 > size
        · rw [if_pos h1] at hv ⊢
          subst hv
          exact ev_neg (by simp [firstOf]) (ev_val (by simp [firstOf]))
        · rw [if_neg h1] at hv ⊢
          subst hv
          by_cases h2 : afterB (prevOf l j) s.f0 = true
          · rw [if_pos h2] at hw2 ⊢
            subst hw2
            exact ev_neg (by simp [firstOf]) (ev_val (by simp [firstOf]))
          · rw [if_neg h2] at hw2 ⊢
            subst hw2
            exact ev_pos (by simp [firstOf]) hn
      rcases Nat.eq_zero_or_pos j with hj0 | hj0
      · have hp : prevOf l j = none := by rw [hj0]; rfl
        simp only [hp] at tail ⊢
        have hjn : ¬ (j : Int) > 0 := by omega
        by_cases h1 : s.f0 < 0
        · exact ev_pos h1 (ev_bindc (When_is _ _) (ev_neg hjn (ev_bindc (When_is _ _) (tail _ (by rw [if_pos rfl, if_pos (.inl h1)]) _ (by simp [afterB])))))
        · refine ev_neg h1 ?_
          by_cases h2 : s.f0 ≥ s.f1
          · exact ev_pos h2 (ev_bindc (When_is _ _) (ev_neg hjn (ev_bindc (When_is _ _) (tail _ (by rw [if_pos rfl, if_pos (.inr (.inl h2))]) _ (by simp [afterB])))))
          · refine ev_neg h2 (ev_bindc (When_is _ _) (ev_neg hjn (ev_bindc (When_is _ _) (tail _ ?_ _ (by simp [afterB])))))
            by_cases h3 : s.f1 > size
            · rw [if_pos (by simpa using h3), if_pos (.inr (.inr h3))]
            · rw [if_neg (by simpa using h3), if_neg (by rintro (h | h | h) <;> contradiction)]
      · have hp := prev_pos l j hj0
        have hm := mx_nat j hj0 (by omega)
        have hjp : (j : Int) > 0 := by omega
        simp only [hp] at tail ⊢
        simp only [hm]
        generalize (rd_T46 l ((j - 1 : Nat) : Int)).f1 = t at *
        by_cases h1 : s.f0 < 0
        · exact ev_pos h1 (ev_bindc (When_is _ _) (ev_pos hjp (ev_pos (by omega) (ev_pos (by omega) (ev_bindc (When_is _ _) (tail _ (by rw [if_pos rfl, if_pos (.inl h1)]) _ rfl))))))
        · refine ev_neg h1 ?_
          by_cases h2 : s.f0 ≥ s.f1
          · exact ev_pos h2 (ev_bindc (When_is _ _) (ev_pos hjp (ev_pos (by omega) (ev_pos (by omega) (ev_bindc (When_is _ _) (tail _ (by rw [if_pos rfl, if_pos (.inr (.inl h2))]) _ rfl))))))
          · refine ev_neg h2 (ev_bindc (When_is _ _) (ev_pos hjp (ev_pos (by omega) (ev_pos (by omega) (ev_bindc (When_is _ _) (tail _ ?_ _ rfl))))))
            by_cases h3 : s.f1 > size
            · rw [if_pos (by simpa using h3), if_pos (.inr (.inr h3))]
            · rw [if_neg (by simpa using h3), if_neg (by rintro (h | h | h) <;> contradiction)]
    · obtain rfl : j = l.length := by omega
      exact ih _ (by omega) (by omega)
theorem CheckSpans_ev (l : List S46) (hl : l.length < 1000000) (size : Int) : Ev (fun k => Z9.f k l size) (chk l size) := by
  unfold Z9.f
  refine ev_bindc (In_is _ _ _) (ev_bindc (When_is _ _) (ev_bindc (When_is _ _) (Ev.bind (First_ev _ (by simp)) ?_)))
  unfold chk
  by_cases h1 : size < 0 ∨ size > 200000
  · have hb : (!(decide (0 ≤ size) && decide (size ≤ 200000))) = true := by simp; omega
    rw [if_pos h1]
    simp only [hb, if_true, firstOf]
    exact ev_neg (by simp) (ev_val (by simp))
  · have hb : (!(decide (0 ≤ size) && decide (size ≤ 200000))) = false := by simp; omega
    rw [if_neg h1]
    by_cases h2 : (l.length : Int) > 1000
    · rw [if_pos h2]
      simp only [hb, h2, decide_true, if_true, firstOf]
      exact ev_neg (by simp) (ev_val (by simp))
    · rw [if_neg h2]
      simp only [hb, h2, decide_false, firstOf]
      exact ev_pos (by simp) (check_loop l hl size _ 0 (Nat.le_refl _) (by omega))
theorem fault_loop (l : List S46) (hl : l.length < 1000000) (size : Int) (d : Nat) : ∀ j : Nat, l.length - j ≤ d → j ≤ l.length → Ev (fun k => Z16.l0 k l size l (l.length : Int) (j : Int)) (chkL size (prevOf l j) (l.drop j)) := by
  induction d with
  | zero =>
    intro j hd hj
    obtain rfl : j = l.length := by omega
    rw [List.drop_length]
    exact Ev.step (fun _ => Z16.l0.eq_2 ..) (ev_neg (by omega) (ev_val rfl))
  | succ d ih =>
    intro j hd hj
    by_cases hlt : j < l.length
    · have hw : wrap64 ((j : Int) + 1) = ((j + 1 : Nat) : Int) := by rw [wr64 (by omega) (by omega)]; omega
      have hn := ih (j + 1) (by omega) (by omega)
      rw [prev_succ l j hlt] at hn
      rw [List.drop_eq_getElem_cons hlt]
      refine Ev.step (fun _ => Z16.l0.eq_2 ..) (ev_pos (by omega) (ev_pos (by omega) (ev_pos (by omega) ?_)))
      rw [rdT_at l j hlt]
      generalize l[j] = s at *
      simp only [chkL]
      by_cases h1 : s.f0 < 0
      · rw [if_pos (.inl h1)]
        exact ev_pos h1 (Ev.step (fun _ => Z16.j2.eq_2 ..) (ev_pos rfl (ev_val rfl)))
      · refine ev_neg h1 ?_
        by_cases h2 : s.f0 ≥ s.f1
        · rw [if_pos (.inr (.inl h2))]
          exact ev_pos h2 (Ev.step (fun _ => Z16.j2.eq_2 ..) (ev_pos rfl (ev_val rfl)))
        · refine ev_neg h2 (Ev.step (fun _ => Z16.j2.eq_2 ..) ?_)
          by_cases h3 : s.f1 > size
          · rw [if_pos (.inr (.inr h3))]
            exact ev_pos (by simpa using h3) (ev_val rfl)
          · rw [if_neg (by rintro (h | h | h) <;> contradiction)]
            refine ev_neg (by simpa using h3) ?_
            rw [hw]
            rcases Nat.eq_zero_or_pos j with hj0 | hj0
            · subst hj0
              exact ev_neg (by omega) (ev_eq hn (by simp [prev_zero, afterB]))
            · have hp := prev_pos l j hj0
              have hm : wrap64 ((j : Int) - 1) = ((j - 1 : Nat) : Int) := by unfold wrap64; omega
              rw [hm, hp]
              refine ev_pos (by omega) (ev_pos (by omega) (ev_pos (by omega) ?_))
              by_cases h4 : s.f0 ≤ (rd_T46 l ((j - 1 : Nat) : Int)).f1
              · rw [if_pos (by simpa [afterB] using h4)]
                exact ev_pos h4 (ev_val rfl)
              · rw [if_neg (by simpa [afterB] using h4)]
                exact ev_neg h4 hn
    · obtain rfl : j = l.length := by omega
      exact ih _ (by omega) (by omega)
theorem SpansFault_ev (l : List S46) (hl : l.length < 1000000) (size : Int) : Ev (fun k => Z16.f k l size) (chk l size) := by
  unfold Z16.f chk
  by_cases h0 : size < 0
  · rw [if_pos (.inl h0)]
    exact ev_pos h0 (Ev.step (fun _ => Z16.j0.eq_2 ..) (ev_pos rfl (ev_val rfl)))
  · refine ev_neg h0 (Ev.step (fun _ => Z16.j0.eq_2 ..) ?_)
    by_cases h1 : size > 200000
    · rw [if_pos (.inr h1)]
      exact ev_pos (by simpa using h1) (ev_val rfl)
    · rw [if_neg (by omega)]
      refine ev_neg (by simpa using h1) ?_
      by_cases h2 : (l.length : Int) > 1000
      · rw [if_pos h2]
        exact ev_pos h2 (ev_val rfl)
      · rw [if_neg h2]
        exact ev_neg h2 (fault_loop l hl size _ 0 (Nat.le_refl _) (by omega))
theorem chkL_norm (size : Int) (l : List S46) : ∀ prev, chkL size prev l = 0 → ∃ m : List (Nat × Nat), l = m.map spn ∧ Norm m ∧ (∀ p ∈ m, (p.2 : Int) ≤ size) ∧ ∀ t, prev = some t → ∀ p ∈ m, t < (p.1 : Int) := by
  induction l with
  | nil => intro prev _; exact ⟨[], rfl, ⟨by simp, by simp⟩, by simp, by simp⟩
  | cons s l ih =>
    intro prev h
    simp only [chkL] at h
    by_cases h1 : s.f0 < 0 ∨ s.f0 ≥ s.f1 ∨ s.f1 > size
    · rw [if_pos h1] at h; exact absurd h (by decide)
    · rw [if_neg h1] at h
      by_cases h2 : afterB prev s.f0 = true
      · rw [if_pos h2] at h; exact absurd h (by decide)
      · rw [if_neg h2] at h
        obtain ⟨m, rfl, hm, hs, hp⟩ := ih _ h
        refine ⟨(s.f0.toNat, s.f1.toNat) :: m, ?_, ⟨fun p hq => ?_, List.pairwise_cons.2 ⟨fun q hq => ?_, hm.2⟩⟩, fun p hq => ?_, fun t ht p hq => ?_⟩
        · rw [List.map_cons]
          congr 1
          obtain ⟨a, b⟩ := s
          simp only [spn]
          congr 1 <;> (simp only at h1; omega)
        · rcases List.mem_cons.1 hq with rfl | hq
          · simp only; omega
          · exact hm.1 p hq
        · have := hp _ rfl q hq
          simp only; omega
        · rcases List.mem_cons.1 hq with rfl | hq
          · simp only; omega
          · exact hs p hq
        · subst ht
          have h3 : ¬ s.f0 ≤ t := by simpa [afterB] using h2
          rcases List.mem_cons.1 hq with rfl | hq
          · simp only; omega
          · have := hp _ rfl p hq; omega
theorem chk_norm {l : List S46} {size : Int} (h : chk l size = 0) : ∃ m : List (Nat × Nat), l = m.map spn ∧ Norm m ∧ (∀ p ∈ m, (p.2 : Int) ≤ size) ∧ 0 ≤ size ∧ size ≤ 200000 ∧ l.length ≤ 1000 := by
  unfold chk at h
  by_cases h1 : size < 0 ∨ size > 200000
  · rw [if_pos h1] at h; exact absurd h (by decide)
  · rw [if_neg h1] at h
    by_cases h2 : (l.length : Int) > 1000
    · rw [if_pos h2] at h; exact absurd h (by decide)
    · rw [if_neg h2] at h
      obtain ⟨m, e, hm, hs, _⟩ := chkL_norm size l none h
      exact ⟨m, e, hm, hs, by omega, by omega, by omega⟩
end Go.Proofs.YtolcpmdojlbhcaaDoor.Px
namespace Go.Proofs.YtolcpmdojlbhcaaDoor.Px
open Go.RowKit Go.Proofs.YtolcpmdojlbhcaaDoor.GBase Go.Proofs.YtolcpmdojlbhcaaDoorW.PrintWords Go.Proofs.YtolcpmdojlbhcaaDoorW.PrintLast
set_option linter.unusedVariables false
set_option linter.unusedSimpArgs false
theorem norm_chk {m : List (Nat × Nat)} {n : Nat} (h : Norm m) (hb : ∀ p ∈ m, p.2 ≤ n) (hn : n ≤ 200000) (hl : m.length ≤ 1000) : chk (m.map spn) (n : Int) = 0 := by
  have go : ∀ (m : List (Nat × Nat)) (prev : Option Int), Norm m → (∀ p ∈ m, p.2 ≤ n) → (∀ t, prev = some t → ∀ p ∈ m, t < (p.1 : Int)) → chkL (n : Int) prev (m.map spn) = 0 := by
    intro m
    induction m with
    | nil => intro prev _ _ _; cases prev <;> rfl
    | cons p m ih =>
      intro prev h hb hp
      have h1 := h.1 p List.mem_cons_self
      have h2 := hb p List.mem_cons_self
      have h3 := ih (some (p.2 : Int)) ⟨fun q hq => h.1 q (List.mem_cons_of_mem _ hq), (List.pairwise_cons.1 h.2).2⟩ (fun q hq => hb q (List.mem_cons_of_mem _ hq)) (fun t e q hq => by
        obtain rfl := Option.some.inj e
        have := (List.pairwise_cons.1 h.2).1 q hq
        omega)
      rw [List.map_cons]
      have e0 : (spn p).f0 = (p.1 : Int) := rfl
      have e1 : (spn p).f1 = (p.2 : Int) := rfl
      simp only [chkL, e0, e1]
      rw [if_neg (by omega), if_neg, h3]
      cases prev with
      | none => simp [afterB]
      | some t =>
        have := hp t rfl p List.mem_cons_self
        simp only [afterB, decide_eq_true_eq]
        omega
  unfold chk
  rw [if_neg (by omega), if_neg (by rw [List.length_map]; omega)]
  exact go m none h hb (fun t e => by cases e)
theorem norm_len (n : Nat) : ∀ (l : List (Nat × Nat)) (a : Nat), Norm l → (∀ p ∈ l, a ≤ p.1 ∧ p.2 ≤ n) → l.length ≤ n - a
  | [], a, _, _ => Nat.zero_le _
  | p :: l, a, h, hb => by
    have h1 := h.1 p List.mem_cons_self
    have h2 := hb p List.mem_cons_self
    have ih := norm_len n l (p.2 + 1) ⟨fun q hq => h.1 q (List.mem_cons_of_mem _ hq), (List.pairwise_cons.1 h.2).2⟩ (fun q hq => ⟨(List.pairwise_cons.1 h.2).1 q hq, (hb q (List.mem_cons_of_mem _ hq)).2⟩)
    rw [List.length_cons]
    omega
end Go.Proofs.YtolcpmdojlbhcaaDoor.Px
namespace Go.Proofs.YtolcpmdojlbhcaaDoor.Px
open Go.RowKit Go.Proofs.YtolcpmdojlbhcaaDoor.GBase Go.Proofs.YtolcpmdojlbhcaaDoorW.PrintWords Go.Proofs.YtolcpmdojlbhcaaDoorW.PrintLast
set_option linter.unusedVariables false
set_option linter.unusedSimpArgs false
theorem bt_get (s : ByteArray) (j : Nat) (h : j < s.data.toList.length) : bt s (j : Int) = ((s.data.toList[j]).toNat : Int) := by
  have h2 : j < s.size := by rw [data_length] at h; exact h
  simp only [bt, Int.toNat_natCast, h2, dif_pos]
  rfl
theorem valid_is (s : ByteArray) (hs : s.size ≤ 1073741824) : Z54.f s = some (Lib.validD s.data.toList) := by
  unfold Z54.f
  rw [if_pos (by omega)]
theorem suffix_total (s : ByteArray) (hs : s.size ≤ 1073741824) : ∃ b, Z46.f s (⟨#[10]⟩ : ByteArray) = some b := by
  unfold Z46.f Z57.f
  have h1 : (((⟨#[10]⟩ : ByteArray).size : Nat) : Int) = 1 := rfl
  rw [h1]
  by_cases h : (s.size : Int) ≥ 1
  · have hw : wrap64 ((s.size : Int) - 1) = (s.size : Int) - 1 := wr64 (by omega) (by omega)
    rw [if_pos h, hw, if_pos (by omega), if_pos (by omega)]
    exact ⟨_, rfl⟩
  · rw [if_neg h]
    exact ⟨_, rfl⟩
def okC (feeds : Bool) (c : UInt8) : Bool := !((decide ((c.toNat : Int) < 32) && !(feeds && decide ((c.toNat : Int) = 10))) || decide ((c.toNat : Int) = 127))
def wfC (s : ByteArray) (feeds : Bool) : Bool := s.data.toList.all (okC feeds) && Lib.validD s.data.toList
def sufB (s : ByteArray) : Bool := (Z46.f s (⟨#[10]⟩ : ByteArray)).getD false
theorem suf_is (s : ByteArray) (hs : s.size ≤ 1073741824) : Z46.f s (⟨#[10]⟩ : ByteArray) = some (sufB s) := by
  obtain ⟨b, hb⟩ := suffix_total s hs
  unfold sufB
  rw [hb]
  rfl
def textOk (s : ByteArray) : Bool := wfC s true && (decide (s.toList = []) || sufB s)
theorem Visible_loop (s : ByteArray) (hs : s.size ≤ 1073741824) (feeds : Bool) (d : Nat) : ∀ j : Nat, s.size - j ≤ d → j ≤ s.size → Ev (fun k => Z33.l0 k s feeds (s.size : Int) (j : Int)) ((s.data.toList.drop j).all (okC feeds) && Lib.validD s.data.toList) := by
  have hlen : s.data.toList.length = s.size := data_length s
  induction d with
  | zero =>
    intro j hd hj
    obtain rfl : j = s.size := by omega
    rw [List.drop_of_length_le (by omega)]
    exact Ev.step (fun _ => Z33.l0.eq_2 ..) (ev_neg (by omega) (ev_bindc (valid_is s hs) (ev_val (by simp))))
  | succ d ih =>
    intro j hd hj
    by_cases hlt : j < s.size
    · have hw : wrap64 ((j : Int) + 1) = ((j + 1 : Nat) : Int) := by rw [wr64 (by omega) (by omega)]; omega
      have hl : j < s.data.toList.length := by omega
      have hn := ih (j + 1) (by omega) (by omega)
      rw [List.drop_eq_getElem_cons hl, List.all_cons]
      refine Ev.step (fun _ => Z33.l0.eq_2 ..) (ev_pos (by omega) (ev_pos (by omega) (ev_pos (by omega) ?_)))
      rw [bt_get s j hl, hw]
      generalize s.data.toList[j] = c at *
      have good : okC feeds c = true → Ev (fun k => Z33.l0 k s feeds (s.size : Int) ((j + 1 : Nat) : Int)) (okC feeds c && (s.data.toList.drop (j + 1)).all (okC feeds) && Lib.validD s.data.toList) := fun h => by
        rw [h, Bool.true_and]; exact hn
      have bad : okC feeds c = false → Ev (fun _ => some false) (okC feeds c && (s.data.toList.drop (j + 1)).all (okC feeds) && Lib.validD s.data.toList) := fun h => by
        rw [h]; exact ev_val rfl
      by_cases h1 : (c.toNat : Int) < 32
      · refine ev_pos h1 ?_
        by_cases hf : feeds = true
        · refine ev_pos hf ?_
          by_cases h10 : (c.toNat : Int) = 10
          · exact ev_pos h10 (ev_neg (by omega) (good (by simp [okC, h10, hf])))
          · exact ev_neg h10 (bad (by simp [okC, h10, h1]))
        · exact ev_neg hf (bad (by simp [okC, h1, hf]))
      · refine ev_neg h1 ?_
        by_cases h127 : (c.toNat : Int) = 127
        · exact ev_pos h127 (bad (by simp [okC, h127]))
        · exact ev_neg h127 (good (by simp [okC, h127, h1]))
    · obtain rfl : j = s.size := by omega
      exact ih _ (by omega) (by omega)
theorem Text_ev (s : ByteArray) (hs : s.size ≤ 1073741824) : Ev (fun k => Z47.f k s) (textOk s) := by
  unfold Z47.f Z33.f
  refine Ev.bind (Visible_loop s hs true _ 0 (Nat.le_refl _) (by omega)) ?_
  rw [List.drop_zero]
  show Ev _ (wfC s true && (decide (s.toList = []) || sufB s))
  change Ev (fun k => if wfC s true = true then _ else _) _
  by_cases h : wfC s true = true
  · rw [h]
    refine ev_pos rfl ?_
    by_cases h2 : s.toList = []
    · exact ev_pos h2 (ev_val (by simp [h2]))
    · exact ev_neg h2 (ev_bindc (suf_is s hs) (ev_val (by simp [h2])))
  · have : wfC s true = false := by simpa using h
    rw [this]
    exact ev_neg (by simp) (ev_val rfl)
theorem privilege_large_is (s : ByteArray) : Z50.f s = some (if (s.size : Int) > 20000 then 2 else 0) := by
  unfold Z50.f
  rw [When_is]
  simp
theorem TextOf_is (s : ByteArray) (hs : s.size ≤ 1073741824) : Z52.f s = some (textOk s) := by
  have hw : Z32.f s true = some (wfC s true) := by
    unfold Z32.f
    rw [if_pos (by omega)]
    rfl
  unfold Z52.f
  rw [hw, Option.bind_some]
  unfold textOk
  by_cases h : wfC s true = true
  · rw [h, if_pos rfl]
    by_cases h2 : s.toList = []
    · rw [if_pos h2]; simp [h2]
    · rw [if_neg h2, suf_is s hs]; simp [h2]
  · have : wfC s true = false := by simpa using h
    rw [this, if_neg (by simp)]
    rfl
def bodyFault (s : ByteArray) : Int := if (s.size : Int) > 20000 then 2 else if textOk s = true then 0 else 3
theorem BodyFault_is (s : ByteArray) : Z53.f s = some (bodyFault s) := by
  unfold Z53.f bodyFault
  by_cases h : (s.size : Int) > 20000
  · rw [if_pos h, if_pos h]
  · rw [if_neg h, if_neg h, TextOf_is s (by omega), Option.bind_some]
    split <;> rfl
end Go.Proofs.YtolcpmdojlbhcaaDoor.Px
namespace Go.Proofs.YtolcpmdojlbhcaaDoor.Px
open Go.RowKit Go.Proofs.YtolcpmdojlbhcaaDoor.GBase Go.Proofs.YtolcpmdojlbhcaaDoorW.PrintWords Go.Proofs.YtolcpmdojlbhcaaDoorW.PrintLast
set_option linter.unusedVariables false
set_option linter.unusedSimpArgs false
theorem textError_zero (s : ByteArray) (hs : s.size ≤ 20000) (l : List S46) (hl : l.length < 1000000) (h : textOk s = true) (hc : chk l (s.size : Int) = 0) : Ev (fun k => Z29.f k s l) 0 := by
  have hL : Z50.f s = some 0 := by
    unfold Z50.f Z19.f
    simp <;> omega
  unfold Z29.f
  refine ev_bindc hL (Ev.bind (Text_ev s (by omega)) (ev_bindc (When_is _ _) (Ev.bind (CheckSpans_ev l hl _) (Ev.bind (First_ev _ (by simp)) (ev_val ?_)))))
  simp [firstOf, h, hc]
end Go.Proofs.YtolcpmdojlbhcaaDoor.Px
namespace Go.Proofs.YtolcpmdojlbhcaaDoor.GBase
open Go.RowKit Go.Lib
set_option linter.unusedVariables false
theorem dec_step2 (l : List UInt8) (hne : l ≠ []) (h : ¬ ((decodeL l).1 = 65533 ∧ (decodeL l).2 = 1)) :
    1 ≤ (decodeL l).2 ∧ (decodeL l).2 ≤ l.length ∧ (decodeL l).2 ≤ 4 ∧ ∀ j, 0 < j → j < (decodeL l).2 → (l.getD j 0).toNat / 64 = 2 := by
  have h2 := decodeL_width l
  have h3 := decodeL_le l hne
  refine ⟨h2, h3, ?_⟩
  clear h2 h3
  rw [decodeL_N] at h ⊢
  rcases decodeN_shape l.length (l.getD 0 0).toNat (l.getD 1 0).toNat (l.getD 2 0).toNat (l.getD 3 0).toNat with ⟨c, e⟩ | ⟨c1, c2, c3, c4, e⟩ | ⟨c1, c2, c3, c4, c5, c6, e⟩ | ⟨c1, c2, c3, c4, c5, c6, c7, e⟩ | e
  · rw [e]
    exact ⟨(show 1 ≤ 4 by decide), fun j h1 h2 => by simp only [] at h2; omega⟩
  · rw [e]
    refine ⟨(show 2 ≤ 4 by decide), fun j h1 h2 => ?_⟩
    simp only [] at h2
    obtain rfl : j = 1 := by omega
    exact c3
  · rw [e]
    refine ⟨(show 3 ≤ 4 by decide), fun j h1 h2 => ?_⟩
    simp only [] at h2
    obtain rfl | rfl : j = 1 ∨ j = 2 := by omega
    · exact c3
    · exact c4
  · rw [e]
    refine ⟨(show 4 ≤ 4 by decide), fun j h1 h2 => ?_⟩
    simp only [] at h2
    obtain rfl | rfl | rfl : j = 1 ∨ j = 2 ∨ j = 3 := by omega
    · exact c3
    · exact c4
    · exact c5
  · rw [e] at h
    exact absurd ⟨rfl, rfl⟩ h
theorem getD_drop (l : List UInt8) (a j : Nat) : (l.drop a).getD j 0 = l.getD (a + j) 0 := by simp [List.getD, List.getElem?_drop]
end Go.Proofs.YtolcpmdojlbhcaaDoor.GBase
namespace Go.Proofs.YtolcpmdojlbhcaaDoor.Px
open Go.RowKit Go.Proofs.YtolcpmdojlbhcaaDoor.GBase Go.Proofs.YtolcpmdojlbhcaaDoorW.PrintWords Go.Proofs.YtolcpmdojlbhcaaDoorW.PrintLast
set_option linter.unusedVariables false
set_option linter.unusedSimpArgs false
def insd (s : ByteArray) (j : Nat) : Bool := decide (j < s.size) && ((bt s (j : Int)) / 64 == 2)
theorem inside_is (s : ByteArray) (j : Nat) : Z34.f s (j : Int) = some (insd s j) := by
  unfold Z34.f insd
  by_cases h : j < s.size
  · rw [if_pos (by omega), if_pos (by omega), decide_eq_true h, Bool.true_and]
  · rw [if_neg (by omega), decide_eq_false h, Bool.false_and]
def same (g : Nat → Bool) (i j : Nat) : Prop := ∀ k, min i j < k → k ≤ max i j → g k = true
theorem same.refl (g : Nat → Bool) (i : Nat) : same g i i := fun k h1 h2 => by omega
theorem same.symm {g : Nat → Bool} {i j : Nat} (h : same g i j) : same g j i := fun k h1 h2 => h k (by omega) (by omega)
theorem same.trans {g : Nat → Bool} {i j m : Nat} (h1 : same g i j) (h2 : same g j m) : same g i m := fun k a b => by
  rcases Nat.lt_or_ge (min i j) k with c | c
  · rcases Nat.lt_or_ge (max i j) k with d | d
    · exact h2 k (by omega) (by omega)
    · exact h1 k c d
  · exact h2 k (by omega) (by omega)
theorem same.part {g : Nat → Bool} {i j k : Nat} (h : same g i j) (h1 : min i j ≤ k) (h2 : k ≤ max i j) : same g i k := fun q a b => h q (by omega) (by omega)
def Hid (s : ByteArray) (m : List (Nat × Nat)) (i : Nat) : Prop := ∃ j, cov m j = true ∧ same (insd s) i j
theorem span_same {g : Nat → Bool} {a f e b : Nat} (hfe : f < e) (h1 : a ≤ f) (h2 : a = 0 ∨ g a = false) (h3 : ∀ k, a < k → k ≤ f → g k = true) (h4 : e ≤ b) (h5 : g b = false) (h6 : ∀ k, e ≤ k → k < b → g k = true) (i : Nat) :
    (a ≤ i ∧ i < b) ↔ ∃ j, f ≤ j ∧ j < e ∧ same g i j := by
  constructor
  · rintro ⟨c1, c2⟩
    by_cases d1 : i < f
    · exact ⟨f, Nat.le_refl _, hfe, fun k k1 k2 => h3 k (by omega) (by omega)⟩
    · by_cases d2 : i < e
      · exact ⟨i, by omega, d2, same.refl g i⟩
      · exact ⟨e - 1, by omega, by omega, fun k k1 k2 => h6 k (by omega) (by omega)⟩
  · rintro ⟨j, j1, j2, j3⟩
    constructor
    · rcases Nat.lt_or_ge i a with c | c
      · rcases h2 with h2 | h2
        · omega
        · rw [j3 a (by omega) (by omega)] at h2
          exact absurd h2 (by decide)
      · exact c
    · rcases Nat.lt_or_ge i b with c | c
      · exact c
      · rw [j3 b (by omega) (by omega)] at h5
        exact absurd h5 (by decide)
theorem pl_ev (s : ByteArray) (hs : s.size ≤ 1000000) (x5 x8 : List S46) (x9 x10 t : Int) : ∀ i : Nat, i < s.size →
    ∃ a, a ≤ i ∧ (a = 0 ∨ insd s a = false) ∧ (∀ k, a < k → k ≤ i → insd s k = true) ∧ ∀ R, Ev (fun k => Z8.j2 k s x5 x8 x9 x10 (a : Int) t) R → Ev (fun k => Z8.l1 k s x5 x8 x9 x10 (i : Int) t) R
  | 0, _ => ⟨0, Nat.le_refl _, .inl rfl, fun k h1 h2 => by omega, fun R h => Ev.step (fun _ => Z8.l1.eq_2 ..) (ev_neg (by omega) h)⟩
  | i + 1, hi => by
    obtain ⟨a, h1, h2, h3, h4⟩ := pl_ev s hs x5 x8 x9 x10 t i (by omega)
    have hw : wrap64 (((i + 1 : Nat) : Int) - 1) = (i : Int) := by rw [wr64 (by omega) (by omega)]; omega
    cases hg : insd s (i + 1) with
    | true =>
      refine ⟨a, by omega, h2, fun k k1 k2 => ?_, fun R h => ?_⟩
      · by_cases e : k = i + 1
        · subst e; exact hg
        · exact h3 k k1 (by omega)
      · refine Ev.step (fun _ => Z8.l1.eq_2 ..) (ev_pos (by omega) (ev_bindc (inside_is s (i + 1)) ?_))
        rw [hg]
        refine ev_pos rfl ?_
        rw [hw]
        exact h4 R h
    | false =>
      refine ⟨i + 1, Nat.le_refl _, .inr hg, fun k k1 k2 => by omega, fun R h => ?_⟩
      refine Ev.step (fun _ => Z8.l1.eq_2 ..) (ev_pos (by omega) (ev_bindc (inside_is s (i + 1)) ?_))
      rw [hg]
      exact ev_neg (by decide) h
theorem pr_ev (s : ByteArray) (hs : s.size ≤ 1000000) (x5 x8 : List S46) (hx : x5.length < 1000000) (x9 x10 f : Int) (d : Nat) : ∀ i : Nat, s.size - i ≤ d → i ≤ s.size →
    ∃ b, i ≤ b ∧ b ≤ s.size ∧ insd s b = false ∧ (∀ k, i ≤ k → k < b → insd s k = true) ∧ ∀ R, Ev (fun k => Z8.l0 k s (x5 ++ [⟨f, (b : Int)⟩]) x8 x9 (wrap64 (x10 + 1))) R → Ev (fun k => Z8.l2 k s x5 x8 x9 x10 f (i : Int)) R := by
  have stop : ∀ i : Nat, i ≤ s.size → insd s i = false → ∃ b, i ≤ b ∧ b ≤ s.size ∧ insd s b = false ∧ (∀ k, i ≤ k → k < b → insd s k = true) ∧ ∀ R, Ev (fun k => Z8.l0 k s (x5 ++ [⟨f, (b : Int)⟩]) x8 x9 (wrap64 (x10 + 1))) R → Ev (fun k => Z8.l2 k s x5 x8 x9 x10 f (i : Int)) R := fun i hi hg => by
    refine ⟨i, Nat.le_refl _, hi, hg, fun k k1 k2 => by omega, fun R h => ?_⟩
    refine Ev.step (fun _ => Z8.l2.eq_2 ..) (ev_bindc (inside_is s i) ?_)
    rw [hg]
    exact ev_neg (by decide) (ev_pos (by omega) h)
  have last : insd s s.size = false := by unfold insd; rw [decide_eq_false (by omega), Bool.false_and]
  induction d with
  | zero =>
    intro i h1 h2
    obtain rfl : i = s.size := by omega
    exact stop _ h2 last
  | succ d ih =>
    intro i h1 h2
    cases hg : insd s i with
    | false => exact stop i h2 hg
    | true =>
      have hlt : i < s.size := by
        rcases Nat.lt_or_ge i s.size with c | c
        · exact c
        · obtain rfl : i = s.size := by omega
          rw [last] at hg
          exact absurd hg (by decide)
      obtain ⟨b, b1, b2, b3, b4, b5⟩ := ih (i + 1) (by omega) (by omega)
      refine ⟨b, by omega, b2, b3, fun k k1 k2 => ?_, fun R h => ?_⟩
      · by_cases e : k = i
        · subst e; exact hg
        · exact b4 k (by omega) k2
      · have hw : wrap64 ((i : Int) + 1) = ((i + 1 : Nat) : Int) := by rw [wr64 (by omega) (by omega)]; omega
        refine Ev.step (fun _ => Z8.l2.eq_2 ..) (ev_bindc (inside_is s i) ?_)
        rw [hg]
        refine ev_pos rfl ?_
        rw [hw]
        exact b5 R h
def Pts (s : ByteArray) : List (Nat × Nat) → List (Nat × Nat) → Prop
  | [], [] => True
  | p :: m, q :: ps => (∀ i, (q.1 ≤ i ∧ i < q.2) ↔ Hid s [p] i) ∧ Pts s m ps
  | _, _ => False
theorem pts_loop (s : ByteArray) (hs : s.size ≤ 1000000) (m : List (Nat × Nat)) (hm : m.length ≤ 100000) (hv : ∀ p ∈ m, p.1 < p.2 ∧ p.2 ≤ s.size) (d : Nat) : ∀ (j : Nat) (acc : List (Nat × Nat)), m.length - j ≤ d → j ≤ m.length → acc.length ≤ j →
    ∃ ps : List (Nat × Nat), (∀ p ∈ ps, p.1 < p.2 ∧ p.2 ≤ s.size) ∧ (∀ i, cov ps i = true ↔ Hid s (m.drop j) i) ∧ Pts s (m.drop j) ps ∧ Ev (fun k => Z8.l0 k s (acc.map spn) (m.map spn) (m.length : Int) (j : Int)) ((acc ++ ps).map spn) := by
  have stop : ∀ (j : Nat) (acc : List (Nat × Nat)), j ≤ m.length → ¬ j < m.length → ∃ ps : List (Nat × Nat), (∀ p ∈ ps, p.1 < p.2 ∧ p.2 ≤ s.size) ∧ (∀ i, cov ps i = true ↔ Hid s (m.drop j) i) ∧ Pts s (m.drop j) ps ∧ Ev (fun k => Z8.l0 k s (acc.map spn) (m.map spn) (m.length : Int) (j : Int)) ((acc ++ ps).map spn) := by
    intro j acc h1 h2
    refine ⟨[], fun p hp => (by cases hp), fun i => ?_, ?_, ?_⟩
    · rw [List.drop_eq_nil_of_le (by omega)]
      constructor
      · intro h; exact absurd h (by rw [cov_nil]; decide)
      · rintro ⟨j, h, _⟩; exact absurd h (by rw [cov_nil]; decide)
    · rw [List.drop_eq_nil_of_le (by omega)]
      trivial
    · rw [List.append_nil]
      exact Ev.step (fun _ => Z8.l0.eq_2 ..) (ev_neg (by omega) (ev_val rfl))
  induction d with
  | zero => exact fun j acc h1 h2 _ => stop j acc h2 (by omega)
  | succ d ih =>
    intro j acc h1 h2 ha
    by_cases hlt : j < m.length
    · obtain ⟨v1, v2⟩ := hv m[j] (List.getElem_mem hlt)
      have er := rdT_spn m j hlt
      rw [List.drop_eq_getElem_cons hlt]
      generalize m[j] = p at *
      have hw := Aside0.mk (show wrap64 ((j : Int) + 1) = ((j + 1 : Nat) : Int) by rw [wr64 (by omega) (by omega)]; omega)
      obtain ⟨a, a1, a2, a3, a4⟩ := pl_ev s hs (acc.map spn) (m.map spn) (m.length : Int) (j : Int) (p.2 : Int) p.1 (by omega)
      obtain ⟨b, b1, b2, b3, b4, b5⟩ := pr_ev s hs (acc.map spn) (m.map spn) (by rw [List.length_map]; omega) (m.length : Int) (j : Int) (a : Int) _ p.2 (Nat.le_refl _) v2
      obtain ⟨ps, c1, c2, c4, c3⟩ := ih (j + 1) (acc ++ [(a, b)]) (by omega) (by omega) (by rw [List.length_append]; simp only [List.length_cons, List.length_nil]; omega)
      have key := span_same v1 a1 a2 a3 b1 b3 b4
      refine ⟨(a, b) :: ps, ?_, fun i => ?_, ⟨fun i => ?_, c4⟩, ?_⟩
      · intro q hq
        rcases List.mem_cons.1 hq with rfl | hq
        · exact ⟨by simp only []; omega, b2⟩
        · exact c1 q hq
      · rw [cov_cons, Bool.or_eq_true, c2 i, Bool.and_eq_true, decide_eq_true_eq, decide_eq_true_eq, key i]
        constructor
        · rintro (⟨q, q1, q2, q3⟩ | ⟨q, q1, q2⟩)
          · exact ⟨q, by rw [cov_cons, decide_eq_true q1, decide_eq_true q2]; rfl, q3⟩
          · exact ⟨q, by rw [cov_cons, q1, Bool.or_true], q2⟩
        · rintro ⟨q, q1, q2⟩
          rw [cov_cons, Bool.or_eq_true, Bool.and_eq_true, decide_eq_true_eq, decide_eq_true_eq] at q1
          rcases q1 with ⟨r1, r2⟩ | r
          · exact .inl ⟨q, r1, r2, q2⟩
          · exact .inr ⟨q, r, q2⟩
      · refine (key i).trans ⟨fun ⟨q, q1, q2, q3⟩ => ⟨q, by rw [cov_cons, decide_eq_true q1, decide_eq_true q2]; rfl, q3⟩, fun ⟨q, q1, q2⟩ => ?_⟩
        rw [cov_cons, cov_nil, Bool.or_false, Bool.and_eq_true, decide_eq_true_eq, decide_eq_true_eq] at q1
        exact ⟨q, q1.1, q1.2, q2⟩
      · refine Ev.step (fun _ => Z8.l0.eq_2 ..) (ev_pos (by omega) (ev_pos (by omega) (ev_pos (by rw [List.length_map]; omega) ?_)))
        simp only [er]
        refine a4 _ (Ev.step (fun _ => Z8.j2.eq_2 ..) (b5 _ ?_))
        rw [hw.out]
        rw [List.map_append, List.append_assoc] at c3
        rw [show acc ++ (a, b) :: ps = acc ++ ([(a, b)] ++ ps) from rfl]
        exact c3
    · exact stop j acc h2 hlt
theorem pts_ev (s : ByteArray) (hs : s.size ≤ 1000000) (m : List (Nat × Nat)) (hm : m.length ≤ 100000) (hv : ∀ p ∈ m, p.1 < p.2 ∧ p.2 ≤ s.size) :
    ∃ ps : List (Nat × Nat), (∀ p ∈ ps, p.1 < p.2 ∧ p.2 ≤ s.size) ∧ (∀ i, cov ps i = true ↔ Hid s m i) ∧ Pts s m ps ∧ Ev (fun k => Z8.f k s (m.map spn)) (ps.map spn) := by
  obtain ⟨ps, h1, h2, h4, h3⟩ := pts_loop s hs m hm hv _ 0 [] (Nat.le_refl _) (Nat.zero_le _) (Nat.le_refl _)
  refine ⟨ps, h1, h2, h4, Ev.congr (fun _ => Z8.f.eq_1 ..) ?_⟩
  rw [List.length_map]
  exact h3
theorem hideN_is (n : Nat) : ∀ (f : Nat) (bs : List UInt8), f + n ≤ bs.length → ∃ cs, hideN n (f : Int) bs = some cs ∧ cs.length = bs.length ∧ ∀ i, cs.getD i 0 = if f ≤ i ∧ i < f + n then hideB (bs.getD i 0) else bs.getD i 0 := by
  induction n with
  | zero =>
    intro f bs h
    exact ⟨bs, rfl, rfl, fun i => by rw [if_neg (by omega)]⟩
  | succ n ih =>
    intro f bs h
    obtain ⟨cs, h1, h2, h3⟩ := ih (f + 1) (bs.set f (hideB (bs.getD f 0))) (by rw [List.length_set]; omega)
    refine ⟨cs, ?_, by rw [h2, List.length_set], fun i => ?_⟩
    · rw [hideN.eq_2, if_pos ⟨by omega, by omega⟩, Int.toNat_natCast]
      exact h1
    · rw [h3 i]
      by_cases e : i = f
      · subst e
        rw [if_neg (by omega), if_pos ⟨Nat.le_refl _, by omega⟩]
        simp [List.getD, List.getElem?_set, show i < bs.length by omega]
      · have : (bs.set f (hideB (bs.getD f 0))).getD i 0 = bs.getD i 0 := by simp [List.getD, List.getElem?_set, Ne.symm e]
        rw [this]
        by_cases q : f ≤ i ∧ i < f + (n + 1)
        · rw [if_pos q, if_pos (by omega)]
        · rw [if_neg q, if_neg (by omega)]
theorem hideB_twice (c : UInt8) : hideB (hideB c) = hideB c := by
  unfold hideB
  by_cases h : c = 32 ∨ c = 10
  · rw [if_pos h, if_pos h]
  · rw [if_neg h, if_neg (by decide)]
theorem hideAll_is : ∀ (ps : List (Nat × Nat)) (bs : List UInt8), (∀ p ∈ ps, p.1 ≤ p.2 ∧ p.2 ≤ bs.length) → ∃ cs, hideAll (ps.map fun p => ((p.1 : Int), (p.2 : Int))) bs = some cs ∧ cs.length = bs.length ∧ ∀ i, cs.getD i 0 = if cov ps i = true then hideB (bs.getD i 0) else bs.getD i 0
  | [], bs, _ => ⟨bs, rfl, rfl, fun i => by rw [cov_nil, if_neg (by decide)]⟩
  | p :: ps, bs, h => by
    obtain ⟨p1, p2⟩ := h p List.mem_cons_self
    obtain ⟨cs, h1, h2, h3⟩ := hideN_is (p.2 - p.1) p.1 bs (by omega)
    obtain ⟨ds, g1, g2, g3⟩ := hideAll_is ps cs (fun q hq => by rw [h2]; exact h q (List.mem_cons_of_mem _ hq))
    refine ⟨ds, ?_, g2.trans h2, fun i => ?_⟩
    · rw [List.map_cons, hideAll.eq_2]
      have e1 : (((p.2 : Nat) : Int) - ((p.1 : Nat) : Int)).toNat = p.2 - p.1 := by omega
      simp only [e1]
      rw [h1]
      exact g1
    · rw [g3 i, h3 i, cov_cons]
      have e2 : p.1 + (p.2 - p.1) = p.2 := by omega
      rw [e2]
      by_cases q : p.1 ≤ i ∧ i < p.2
      · rw [if_pos q, decide_eq_true q.1, decide_eq_true q.2]
        simp only [Bool.and_self, Bool.true_or, if_true]
        split
        · exact hideB_twice _
        · rfl
      · rw [if_neg q]
        have : (decide (p.1 ≤ i) && decide (i < p.2)) = false := by
          rw [Bool.and_eq_false_iff, decide_eq_false_iff_not, decide_eq_false_iff_not]
          omega
        rw [this, Bool.false_or]
def Hides (s : ByteArray) (m : List (Nat × Nat)) (x : ByteArray) : Prop := x.data.toList.length = s.data.toList.length ∧ (∀ i, Hid s m i → x.data.toList.getD i 0 = hideB (s.data.toList.getD i 0)) ∧ ∀ i, ¬ Hid s m i → x.data.toList.getD i 0 = s.data.toList.getD i 0
theorem Redact_ev (s : ByteArray) (hs : s.size ≤ 20000) (ht : textOk s = true) (m : List (Nat × Nat)) (hn : Norm m) (hb : ∀ p ∈ m, p.2 ≤ s.size) (hl : m.length ≤ 1000) :
    ∃ x, Ev (fun k => Z26.f k s (m.map spn)) (x, 0) ∧ Hides s m x := by
  obtain ⟨ps, p1, p2, p4, p3⟩ := pts_ev s (by omega) m (by omega) (fun p hp => ⟨hn.1 p hp, hb p hp⟩)
  obtain ⟨cs, c1, c2, c3⟩ := hideAll_is ps s.data.toList (fun p hp => ⟨Nat.le_of_lt (p1 p hp).1, (p1 p hp).2⟩)
  refine ⟨⟨cs.toArray⟩, ?_, c2, fun i h => ?_, fun i h => ?_⟩
  · have e : Z26.prs (ps.map spn) = ps.map fun p => ((p.1 : Int), (p.2 : Int)) := by
      unfold Z26.prs
      rw [List.map_map]
      rfl
    refine Ev.congr (fun _ => Z26.f.eq_1 ..) (ev_pos (by omega) (Ev.bind (textError_zero s hs _ (by rw [List.length_map]; omega) ht (norm_chk hn hb (by omega) hl)) (ev_pos rfl (Ev.bind p3 (ev_bindc (a := cs) ?_ (ev_val rfl))))))
    rw [e]
    exact c1
  · show cs.getD i 0 = _
    rw [c3 i, if_pos ((p2 i).2 h)]
  · show cs.getD i 0 = _
    rw [c3 i, if_neg (fun q => h ((p2 i).1 q))]
end Go.Proofs.YtolcpmdojlbhcaaDoor.Px
namespace Go.Proofs.YtolcpmdojlbhcaaDoor.GBase
open Go.RowKit Go.Lib
set_option linter.unusedVariables false
theorem dec_step (l : List UInt8) (hne : l ≠ []) (h : ¬ ((decodeL l).1 = 65533 ∧ (decodeL l).2 = 1)) :
    1 ≤ (decodeL l).2 ∧ (decodeL l).2 ≤ l.length ∧ (l.getD 0 0).toNat / 64 ≠ 2 ∧ ∀ j, 0 < j → j < (decodeL l).2 → 128 ≤ (l.getD (j - 1) 0).toNat := by
  have h2 := decodeL_width l
  have h3 := decodeL_le l hne
  refine ⟨h2, h3, ?_⟩
  clear h2 h3
  rw [decodeL_N] at h ⊢
  rcases decodeN_shape l.length (l.getD 0 0).toNat (l.getD 1 0).toNat (l.getD 2 0).toNat (l.getD 3 0).toNat with ⟨c, e⟩ | ⟨c1, c2, c3, c4, e⟩ | ⟨c1, c2, c3, c4, c5, c6, e⟩ | ⟨c1, c2, c3, c4, c5, c6, c7, e⟩ | e
  · rw [e]
    exact ⟨by omega, fun j h1 h2 => by simp only [] at h2; omega⟩
  · rw [e]
    refine ⟨by omega, fun j h1 h2 => ?_⟩
    simp only [] at h2
    obtain rfl : j = 1 := by omega
    show 128 ≤ (l.getD 0 0).toNat
    omega
  · rw [e]
    refine ⟨by omega, fun j h1 h2 => ?_⟩
    simp only [] at h2
    obtain rfl | rfl : j = 1 ∨ j = 2 := by omega
    · show 128 ≤ (l.getD 0 0).toNat
      omega
    · show 128 ≤ (l.getD 1 0).toNat
      omega
  · rw [e]
    refine ⟨by omega, fun j h1 h2 => ?_⟩
    simp only [] at h2
    obtain rfl | rfl | rfl : j = 1 ∨ j = 2 ∨ j = 3 := by omega
    · show 128 ≤ (l.getD 0 0).toNat
      omega
    · show 128 ≤ (l.getD 1 0).toNat
      omega
    · show 128 ≤ (l.getD 2 0).toNat
      omega
  · rw [e] at h
    exact absurd ⟨rfl, rfl⟩ h
end Go.Proofs.YtolcpmdojlbhcaaDoor.GBase
namespace Go.Proofs.YtolcpmdojlbhcaaDoor.Px
open Go.RowKit Go.Proofs.YtolcpmdojlbhcaaDoor.GBase Go.Proofs.YtolcpmdojlbhcaaDoorW.PrintWords Go.Proofs.YtolcpmdojlbhcaaDoorW.PrintLast
set_option linter.unusedVariables false
set_option linter.unusedSimpArgs false
theorem ls_size (s : ByteArray) : s.data.toList.length = s.size := by
  show s.data.toList.length = s.data.size
  exact Array.length_toList
theorem bt_D (s : ByteArray) (j : Nat) (h : j < s.size) : bt s (j : Int) = ((s.data.toList.getD j 0).toNat : Int) := by
  have hl : j < s.data.toList.length := by rw [ls_size]; exact h
  rw [bt_get s j hl, List.getD_eq_getElem?_getD, List.getElem?_eq_getElem hl]
  rfl
theorem insd_iff (s : ByteArray) (j : Nat) : insd s j = true ↔ j < s.size ∧ (s.data.toList.getD j 0).toNat / 64 = 2 := by
  unfold insd
  rw [Bool.and_eq_true, decide_eq_true_eq]
  refine and_congr_right fun h => ?_
  rw [bt_D s j h, beq_iff_eq]
  omega
theorem list_ext {a b : List UInt8} (hl : a.length = b.length) (h : ∀ i, i < b.length → a.getD i 0 = b.getD i 0) : a = b := by
  apply List.ext_getElem hl
  intro i h1 h2
  have := h i h2
  rw [List.getD_eq_getElem?_getD, List.getD_eq_getElem?_getD, List.getElem?_eq_getElem h1, List.getElem?_eq_getElem h2] at this
  exact this
theorem ba_list' {a b : ByteArray} (h : a.data.toList = b.data.toList) : a = b := by
  obtain ⟨⟨x⟩⟩ := a
  obtain ⟨⟨y⟩⟩ := b
  simp only [] at h
  rw [h]
end Go.Proofs.YtolcpmdojlbhcaaDoor.Px
namespace Go.Proofs.YtolcpmdojlbhcaaDoor.Px
open Go.RowKit Go.Proofs.YtolcpmdojlbhcaaDoor.GBase Go.Proofs.YtolcpmdojlbhcaaDoorW.PrintWords Go.Proofs.YtolcpmdojlbhcaaDoorW.PrintLast
set_option linter.unusedVariables false
set_option linter.unusedSimpArgs false
theorem sort_is (l : List S46) (h : ∀ x ∈ l, 0 ≤ x.f0 ∧ x.f0 ≤ 1099511627776) (hl : l.length < 4611686018427387904) :
    ∃ r, Z11.f l 92 = some r ∧ r.Perm l ∧ r.Pairwise (fun x y => x.f0 ≤ y.f0) := by
  unfold Z11.f
  have hc : 92 = 92 ∧ (∀ x ∈ l, Z11.ok x) ∧ l.length < 4611686018427387904 := ⟨rfl, h, hl⟩
  rw [dif_pos hc]
  obtain ⟨L, hL⟩ : ∃ L, l.attachWith Z11.ok hc.2.1 = L := ⟨_, rfl⟩
  have hm : L.map (fun x => x.1) = l := by rw [← hL]; simp
  rw [hL]
  have hP := Go.Sort.pdq_sorts (ltOf Z11.cf) Z11.swo L.toArray 0 L.toArray.size (Lib.bitLen L.toArray.size) true true (Nat.zero_le _) (Nat.le_refl _) (Or.inl rfl)
  generalize Go.Sort.pdq (ltOf Z11.cf) L.toArray 0 L.toArray.size (Lib.bitLen L.toArray.size) true true = d' at hP
  obtain ⟨⟨hsz, _, hperm⟩, hsort⟩ := hP
  refine ⟨_, rfl, ?_, ?_⟩
  · rw [← hm]
    refine List.Perm.map _ ?_
    have e1 : (d'.extract 0 L.toArray.size).toList = d'.toList := by
      rw [← hsz]
      simp
    have e2 : (L.toArray.extract 0 L.toArray.size).toList = L := by simp
    rw [e1, e2] at hperm
    exact hperm
  · rw [List.pairwise_map, List.pairwise_iff_getElem]
    intro i j hi hj hij
    have hi' : i < d'.size := by simpa using hi
    have hj' : j < d'.size := by simpa using hj
    have hs := hsort i j (Nat.zero_le _) hij (by omega)
    rw [getElem!_pos d' i hi', getElem!_pos d' j hj'] at hs
    have h2 : ¬ (d'[j].1.f0 - d'[i].1.f0 < 0) := of_decide_eq_false hs
    simp only [Array.getElem_toList]
    omega
theorem perm_spn {r : List S46} {m : List (Nat × Nat)} (h : r.Perm (m.map spn)) : ∃ q : List (Nat × Nat), r = q.map spn ∧ q.Perm m := by
  refine ⟨r.map fun s => (s.f0.toNat, s.f1.toNat), ?_, ?_⟩
  · rw [List.map_map]
    refine (List.map_id r).symm.trans (List.map_congr_left fun s hs => ?_)
    obtain ⟨p, _, rfl⟩ := List.mem_map.1 (h.mem_iff.1 hs)
    simp [spn]
  · have := h.map fun s : S46 => (s.f0.toNat, s.f1.toNat)
    rw [List.map_map] at this
    have e : m.map ((fun s : S46 => (s.f0.toNat, s.f1.toNat)) ∘ spn) = m := (List.map_congr_left (fun p _ => by simp [spn])).trans (List.map_id m)
    rwa [e] at this
theorem rd_last (o : List (Nat × Nat)) (p : Nat × Nat) : rd_T46 (((p :: o).reverse).map spn) (((((p :: o).reverse).map spn).length - 1 : Nat) : Int) = spn p := by
  have h : (((p :: o).reverse).map spn).length = o.length + 1 := by simp
  rw [rdT_at _ _ (by omega)]
  simp
theorem set_last (o : List (Nat × Nat)) (p q : Nat × Nat) : (((p :: o).reverse).map spn).set ((((p :: o).reverse).map spn).length - 1) (spn q) = ((q :: o).reverse).map spn := by
  simp only [List.reverse_cons, List.map_append, List.map_cons, List.map_nil, List.length_append, List.length_map, List.length_reverse, List.length_singleton, Nat.add_sub_cancel]
  rw [List.set_append_right _ _ (by simp)]
  simp
theorem put_loop (q : List (Nat × Nat)) (hq : q.length ≤ 1000000) (d : Nat) : ∀ (j : Nat) (o : List (Nat × Nat)), q.length - j ≤ d → j ≤ q.length → o.length ≤ j →
    Ev (fun k => Z4.l0 k (o.reverse.map spn) (q.map spn) (q.length : Int) (j : Int)) ((putR o (q.drop j)).reverse.map spn) := by
  induction d with
  | zero =>
    intro j o hd hj ho
    obtain rfl : j = q.length := by omega
    rw [List.drop_length]
    exact Ev.step (fun _ => Z4.l0.eq_2 ..) (ev_neg (by omega) (ev_val (by cases o <;> rfl)))
  | succ d ih =>
    intro j o hd hj ho
    by_cases hlt : j < q.length
    · have hw : wrap64 ((j : Int) + 1) = ((j + 1 : Nat) : Int) := by rw [wr64 (by omega) (by omega)]; omega
      have hlen : ((q.map spn).length : Int) = (q.length : Int) := by simp
      rw [List.drop_eq_getElem_cons hlt]
      refine Ev.step (fun _ => Z4.l0.eq_2 ..) (ev_pos (by omega) (ev_pos (by omega) (ev_pos (by omega) ?_)))
      rw [rdT_spn q j hlt, hw]
      generalize q[j] = s at *
      cases o with
      | nil =>
        have e : wrap64 ((((([] : List (Nat × Nat)).reverse.map spn).length : Nat) : Int) - 1) = -1 := by
          show wrap64 ((0 : Int) - 1) = -1
          rw [wr64 (by omega) (by omega)]
          rfl
        rw [e]
        refine ev_neg (by decide) (ev_pos (by simp) ?_)
        exact ih (j + 1) [s] (by omega) (by omega) (by simp)
      | cons p o =>
        have hlo : (((p :: o).reverse).map spn).length = o.length + 1 := by simp
        have e : wrap64 (((((p :: o).reverse.map spn).length : Nat) : Int) - 1) = (((((p :: o).reverse).map spn).length - 1 : Nat) : Int) := by
          rw [hlo]
          simp only [List.length_cons] at ho
          rw [wr64 (by omega) (by omega)]
          omega
        rw [e]
        refine ev_pos (by omega) (ev_pos (by omega) (ev_pos (by omega) ?_))
        rw [rd_last, Int.toNat_natCast]
        simp only [putR]
        by_cases hle : s.1 ≤ p.2
        · rw [if_pos hle]
          refine ev_pos (by simp only [spn]; omega) ?_
          have hm : (⟨(spn p).f0, mx (spn p).f1 (spn s).f1⟩ : S46) = spn (p.1, max p.2 s.2) := by
            simp only [spn]
            congr 1
            unfold mx
            split <;> omega
          rw [hm, set_last]
          exact ih (j + 1) ((p.1, max p.2 s.2) :: o) (by omega) (by omega) (by simpa using Nat.le_trans ho (Nat.le_succ j))
        · rw [if_neg hle]
          refine ev_neg (by simp only [spn]; omega) (ev_pos (by rw [hlo]; simp only [List.length_cons] at ho; omega) ?_)
          have ha : ((p :: o).reverse).map spn ++ [(⟨(spn s).f0, (spn s).f1⟩ : S46)] = ((s :: p :: o).reverse).map spn := by
            rw [List.reverse_cons (a := s), List.map_append]
            rfl
          rw [ha]
          exact ih (j + 1) (s :: p :: o) (by omega) (by omega) (by simpa using ho)
    · obtain rfl : j = q.length := by omega
      exact ih _ o (by omega) (by omega) ho
theorem put_ev (m : List (Nat × Nat)) (hm : m.length ≤ 1000000) (hv : ∀ p ∈ m, p.1 < p.2) (hb : ∀ p ∈ m, p.2 ≤ 1000000) :
    ∃ r : List (Nat × Nat), Ev (fun k => Z4.f k (m.map spn)) (r.map spn) ∧ Norm r ∧ ∀ i, cov r i = cov m i := by
  obtain ⟨x, hx, hp, hs⟩ := sort_is (m.map spn) (fun x hx => by
    obtain ⟨p, hp, rfl⟩ := List.mem_map.1 hx
    have h1 := hv p hp
    have h2 := hb p hp
    simp only [spn]
    omega) (by simp; omega)
  obtain ⟨q, rfl, hq⟩ := perm_spn hp
  have hlen : q.length = m.length := hq.length_eq
  have hs2 : q.Pairwise (fun a b => a.1 ≤ b.1) := by
    rw [List.pairwise_map] at hs
    exact hs.imp fun {a b} h => by simp only [spn] at h; omega
  obtain ⟨h1, h2⟩ := putR_law q [] ⟨by simp, by simp⟩ (fun s hsq => hv s (hq.mem_iff.1 hsq)) hs2 (by simp)
  refine ⟨(putR [] q).reverse, ?_, h1.norm, fun i => ?_⟩
  · unfold Z4.f
    refine ev_bindc hx ?_
    have := put_loop q (by omega) _ 0 [] (Nat.le_refl _) (by omega) (by simp)
    simpa [hlen] using this
  · rw [cov_reverse, h2, cov_nil, Bool.false_or]
    exact cov_perm hq i
end Go.Proofs.YtolcpmdojlbhcaaDoor.Px
namespace Go.Proofs.YtolcpmdojlbhcaaDoor.Px
open Go.RowKit Go.Proofs.YtolcpmdojlbhcaaDoor.GBase Go.Proofs.YtolcpmdojlbhcaaDoorW.PrintWords Go.Proofs.YtolcpmdojlbhcaaDoorW.PrintLast
set_option linter.unusedVariables false
set_option linter.unusedSimpArgs false
def marks (m : List (Nat × Nat)) (n : Nat) : List Bool := (List.range n).map (cov m)
theorem marks_length (m : List (Nat × Nat)) (n : Nat) : (marks m n).length = n := by simp [marks]
theorem marks_get (m : List (Nat × Nat)) (n i : Nat) (h : i < n) : (marks m n)[i]'(by rw [marks_length]; exact h) = cov m i := by simp [marks]
theorem marks_ext {l : List Bool} {m : List (Nat × Nat)} {n : Nat} (hl : l.length = n) (h : ∀ i, i < n → l.getD i false = cov m i) : l = marks m n := by
  apply List.ext_getElem
  · rw [marks_length, hl]
  · intro i h1 h2
    rw [marks_get m n i (by omega), ← h i (by omega), List.getD_eq_getElem?_getD, List.getElem?_eq_getElem h1]
    rfl
theorem rdB_at (l : List Bool) (j : Nat) (hj : j < l.length) : rdOf false l (j : Int) = l[j] := by
  simp [rdOf, List.getD_eq_getElem?_getD, List.getElem?_eq_getElem hj]
def paintN (b : List Bool) (f : Nat) : Nat → List Bool
  | 0 => b
  | n + 1 => paintN (b.set f true) (f + 1) n
theorem paintN_length (n : Nat) : ∀ (b : List Bool) (f : Nat), (paintN b f n).length = b.length := by
  induction n with
  | zero => intro b f; rfl
  | succ n ih => intro b f; rw [paintN, ih, List.length_set]
theorem paintN_get (n : Nat) : ∀ (b : List Bool) (f i : Nat), f + n ≤ b.length → (paintN b f n).getD i false = (b.getD i false || (decide (f ≤ i) && decide (i < f + n))) := by
  induction n with
  | zero => intro b f i _; have : (decide (f ≤ i) && decide (i < f + 0)) = false := by simp
            rw [this]; simp [paintN]
  | succ n ih =>
    intro b f i h
    rw [paintN, ih _ _ _ (by rw [List.length_set]; omega), List.getD_eq_getElem?_getD, List.getD_eq_getElem?_getD, List.getElem?_set]
    by_cases e : f = i
    · subst e
      have hlt : f < b.length := by omega
      simp [hlt]
    · rw [if_neg e]
      congr 1
      rw [Bool.eq_iff_iff]
      simp only [Bool.and_eq_true, decide_eq_true_eq]
      omega
theorem paint_in (m : List (Nat × Nat)) (hm : m.length ≤ 1000000) (j : Nat) (hj : j < m.length) (t : Int) (R : List Bool) (n : Nat) : ∀ (b : List Bool) (f : Nat), b.length ≤ 1000000 → f + n ≤ b.length → t = ((f + n : Nat) : Int) → ∀ a0 : Int,
    Ev (fun k => Z20.l0 k (paintN b f n) (m.map spn) (m.length : Int) ((j + 1 : Nat) : Int)) R →
    Ev (fun k => Z20.l1 k b (f : Int) (m.map spn) (m.length : Int) (j : Int) a0 t) R := by
  have hw : wrap64 ((j : Int) + 1) = ((j + 1 : Nat) : Int) := by rw [wr64 (by omega) (by omega)]; omega
  induction n with
  | zero =>
    intro b f hb hf ht a0 h
    refine Ev.step (fun _ => Z20.l1.eq_2 ..) (ev_neg (by omega) ?_)
    rw [hw]
    exact h
  | succ n ih =>
    intro b f hb hf ht a0 h
    have hwf : wrap64 ((f : Int) + 1) = ((f + 1 : Nat) : Int) := by rw [wr64 (by omega) (by omega)]; omega
    refine Ev.step (fun _ => Z20.l1.eq_2 ..) (ev_pos (by omega) (ev_pos (by omega) (ev_pos (by omega) ?_)))
    rw [hwf, Int.toNat_natCast]
    exact ih _ _ (by rw [List.length_set]; exact hb) (by rw [List.length_set]; omega) (by omega) a0 h
def paintAll : List (Nat × Nat) → List Bool → List Bool
  | [], b => b
  | p :: m, b => paintAll m (paintN b p.1 (p.2 - p.1))
theorem paintAll_length (m : List (Nat × Nat)) : ∀ b, (paintAll m b).length = b.length := by
  induction m with
  | nil => intro b; rfl
  | cons p m ih => intro b; rw [paintAll, ih, paintN_length]
theorem paintAll_get (m : List (Nat × Nat)) : ∀ b : List Bool, (∀ p ∈ m, p.1 < p.2 ∧ p.2 ≤ b.length) → ∀ i, (paintAll m b).getD i false = (b.getD i false || cov m i) := by
  induction m with
  | nil => intro b _ i; simp [paintAll, cov_nil]
  | cons p m ih =>
    intro b h i
    have hp := h p List.mem_cons_self
    rw [paintAll, ih _ (fun q hq => by rw [paintN_length]; exact h q (List.mem_cons_of_mem _ hq)), paintN_get _ _ _ _ (by omega), cov_cons]
    have : p.1 + (p.2 - p.1) = p.2 := by omega
    rw [this, Bool.or_assoc]
theorem paint_loop (m : List (Nat × Nat)) (hm : m.length ≤ 1000000) (d : Nat) : ∀ (j : Nat) (b : List Bool), b.length ≤ 1000000 → (∀ p ∈ m, p.1 < p.2 ∧ p.2 ≤ b.length) → m.length - j ≤ d → j ≤ m.length →
    Ev (fun k => Z20.l0 k b (m.map spn) (m.length : Int) (j : Int)) (paintAll (m.drop j) b) := by
  induction d with
  | zero =>
    intro j b _ _ hd hj
    obtain rfl : j = m.length := by omega
    rw [List.drop_length]
    exact Ev.step (fun _ => Z20.l0.eq_2 ..) (ev_neg (by omega) (ev_val rfl))
  | succ d ih =>
    intro j b hb hv hd hj
    by_cases hlt : j < m.length
    · have hp := hv _ (List.getElem_mem hlt)
      rw [List.drop_eq_getElem_cons hlt, paintAll]
      have hlen : ((m.map spn).length : Int) = (m.length : Int) := by simp
      refine Ev.step (fun _ => Z20.l0.eq_2 ..) (ev_pos (by omega) (ev_pos (by omega) (ev_pos (by omega) ?_)))
      rw [rdT_spn m j hlt]
      exact paint_in m hm j hlt _ _ (m[j].2 - m[j].1) b m[j].1 hb (by omega) (by simp only [spn]; omega) _ (ih (j + 1) _ (by rw [paintN_length]; exact hb) (fun p hp => by rw [paintN_length]; exact hv p hp) (by omega) (by omega))
    · obtain rfl : j = m.length := by omega
      exact ih _ b hb hv (by omega) (by omega)
theorem painted_ev (m : List (Nat × Nat)) (hm : m.length ≤ 1000000) (n : Nat) (hn : n ≤ 1000000) (hv : ∀ p ∈ m, p.1 < p.2 ∧ p.2 ≤ n) : Ev (fun k => Z20.f k (m.map spn) (n : Int)) (marks m n) := by
  unfold Z20.f
  refine ev_pos (by omega) (ev_pos (by rw [Int.toNat_natCast]; omega) ?_)
  rw [Int.toNat_natCast]
  have h := paint_loop m hm _ 0 (List.replicate n false) (by simpa using hn) (by simpa using hv) (Nat.le_refl _) (by omega)
  have e : paintAll (m.drop 0) (List.replicate n false) = marks m n := marks_ext (by rw [paintAll_length]; simp) (fun i hi => by
    rw [List.drop_zero, paintAll_get m _ (by simpa using hv)]
    simp [List.getD_eq_getElem?_getD, List.getElem?_replicate, hi])
  rw [e] at h
  simpa using h
theorem from_loop (p : List Bool) (hp : p.length ≤ 1000000) (d : Nat) : ∀ (j : Nat) (o : List (Nat × Nat)), p.length - j ≤ d → j ≤ p.length → o.length ≤ j → (0 < j → p.getD (j - 1) false = true → ∃ q o', o = q :: o' ∧ q.2 = j) →
    Ev (fun k => Z10.l0 k p (o.reverse.map spn) p (p.length : Int) (j : Int)) ((sfR (decide (0 < j) && p.getD (j - 1) false) j o (p.drop j)).reverse.map spn) := by
  induction d with
  | zero =>
    intro j o hd hj _ _
    obtain rfl : j = p.length := by omega
    rw [List.drop_length]
    exact Ev.step (fun _ => Z10.l0.eq_2 ..) (ev_neg (by omega) (ev_val rfl))
  | succ d ih =>
    intro j o hd hj ho hl
    by_cases hlt : j < p.length
    · have hw : wrap64 ((j : Int) + 1) = ((j + 1 : Nat) : Int) := by rw [wr64 (by omega) (by omega)]; omega
      have hgd : p.getD j false = p[j] := by simp [List.getD_eq_getElem?_getD, hlt]
      rw [List.drop_eq_getElem_cons hlt]
      refine Ev.step (fun _ => Z10.l0.eq_2 ..) (ev_pos (by omega) (ev_pos (by omega) (ev_pos (by omega) ?_)))
      rw [rdB_at p j hlt]
      have hnx := fun o' => ih (j + 1) o' (by omega) (by omega)
      simp only [Nat.add_sub_cancel, Nat.zero_lt_succ, decide_true, Bool.true_and, hgd] at hnx
      by_cases hon : p[j] = true
      · rw [hon] at hnx ⊢
        refine ev_pos rfl ?_
        simp only [sfR]
        rw [if_pos trivial]
        have fresh : (decide (0 < j) && p.getD (j - 1) false) = false → Ev (fun k => Z10.j1 k p (o.reverse.map spn) (j : Int) true p (p.length : Int) (j : Int) true) ((if (decide (0 < j) && p.getD (j - 1) false) = true then sfR true (j + 1) (((o.headD (0, 0)).1, j + 1) :: o.tail) (p.drop (j + 1)) else sfR true (j + 1) ((j, j + 1) :: o) (p.drop (j + 1))).reverse.map spn) := fun hf => by
          rw [if_neg (by rw [hf]; simp)]
          refine Ev.step (fun _ => Z10.j1.eq_2 ..) (ev_pos rfl (ev_pos (by simp; omega) (ev_bindc rfl (ev_pos rfl ?_))))
          have ha : o.reverse.map spn ++ [(⟨(j : Int), 0⟩ : S46)] = (((j, 0) :: o).reverse).map spn := by
            rw [List.reverse_cons, List.map_append]
            rfl
          have hlo : ((((j, 0) :: o).reverse).map spn).length = o.length + 1 := by simp
          rw [ha]
          have e : wrap64 ((((((j, 0) :: o).reverse.map spn).length : Nat) : Int) - 1) = ((((((j, 0) :: o).reverse).map spn).length - 1 : Nat) : Int) := by
            rw [hlo, wr64 (by omega) (by omega)]
            omega
          rw [e]
          refine ev_pos (by omega) (ev_pos (by omega) ?_)
          rw [rd_last, Int.toNat_natCast, hw]
          have hq : (⟨(spn (j, 0)).f0, ((j + 1 : Nat) : Int)⟩ : S46) = spn (j, j + 1) := rfl
          rw [hq, set_last]
          exact hnx _ (by simpa using ho) (fun _ _ => ⟨_, _, rfl, rfl⟩)
        by_cases hj0 : (j : Int) = 0
        · refine ev_pos hj0 ?_
          have : j = 0 := by omega
          subst this
          exact fresh (by simp)
        · have hm : wrap64 ((j : Int) - 1) = ((j - 1 : Nat) : Int) := by rw [wr64 (by omega) (by omega)]; omega
          refine ev_neg hj0 ?_
          rw [hm]
          refine ev_pos (by omega) (ev_pos (by omega) ?_)
          rw [rdB_at p (j - 1) (by omega)]
          have hg2 : p.getD (j - 1) false = p[j - 1] := by
            have : j - 1 < p.length := by omega
            simp [List.getD_eq_getElem?_getD, this]
          have hdj : decide (0 < j) = true := by simp; omega
          by_cases hpr : p[j - 1] = true
          · obtain ⟨q, o', rfl, hqj⟩ := hl (by omega) (by rw [hg2]; exact hpr)
            rw [hg2, hpr, hdj]
            simp only [Bool.and_true, Bool.not_true]
            rw [if_pos trivial]
            have hlo : (((q :: o').reverse).map spn).length = o'.length + 1 := by simp
            refine Ev.step (fun _ => Z10.j1.eq_2 ..) (ev_neg (by simp) (ev_pos rfl ?_))
            have e : wrap64 (((((q :: o').reverse.map spn).length : Nat) : Int) - 1) = (((((q :: o').reverse).map spn).length - 1 : Nat) : Int) := by
              simp only [List.length_cons] at ho
              rw [hlo, wr64 (by omega) (by omega)]
              omega
            rw [e]
            refine ev_pos (by omega) (ev_pos (by omega) ?_)
            rw [rd_last, Int.toNat_natCast, hw]
            have hq : (⟨(spn q).f0, ((j + 1 : Nat) : Int)⟩ : S46) = spn (q.1, j + 1) := rfl
            rw [hq, set_last]
            exact hnx _ (by simpa using Nat.le_trans ho (Nat.le_succ j)) (fun _ _ => ⟨_, _, rfl, rfl⟩)
          · have hpf : p[j - 1] = false := by simpa using hpr
            have := fresh (by rw [hg2, hpf]; simp)
            rw [hpf]
            exact this
      · have hof : p[j] = false := by simpa using hon
        rw [hof] at hnx ⊢
        refine ev_neg (by simp) (Ev.step (fun _ => Z10.j1.eq_2 ..) (ev_neg (by simp) (ev_neg (by simp) ?_)))
        rw [hw]
        simp only [sfR]
        rw [if_neg (by simp)]
        exact hnx o (by omega) (fun _ h => by cases h)
    · obtain rfl : j = p.length := by omega
      exact ih _ o (by omega) (by omega) ho hl
theorem from_ev (p : List Bool) (hp : p.length ≤ 1000000) : ∃ r : List (Nat × Nat), Ev (fun k => Z10.f k p) (r.map spn) ∧ Norm r ∧ ∀ i, cov r i = p.getD i false := by
  obtain ⟨h1, h2⟩ := sfR_law p false 0 [] ⟨by simp, by simp⟩ (by simp) (fun h => by cases h) (by simp)
  refine ⟨(sfR false 0 [] p).reverse, ?_, h1.norm, fun i => ?_⟩
  · have := from_loop p hp _ 0 [] (Nat.le_refl _) (by omega) (by simp) (fun h => absurd h (by omega))
    unfold Z10.f
    simpa using this
  · rw [cov_reverse, h2, cov_nil]
    simp
end Go.Proofs.YtolcpmdojlbhcaaDoor.Px
namespace Go.Proofs.YtolcpmdojlbhcaaDoor.Px
open Go.RowKit Go.Proofs.YtolcpmdojlbhcaaDoor.GBase Go.Proofs.YtolcpmdojlbhcaaDoorW.PrintWords Go.Proofs.YtolcpmdojlbhcaaDoorW.PrintLast
set_option linter.unusedVariables false
set_option linter.unusedSimpArgs false
def isW (c : Int) : Bool := decide (97 ≤ c ∧ c ≤ 122) || decide (65 ≤ c ∧ c ≤ 90) || decide (48 ≤ c ∧ c ≤ 57) || decide (128 ≤ c)
theorem letter_is (c : Int) : Z55.f c = some (isW c) := by
  by_cases h1 : 97 ≤ c <;> by_cases h2 : c ≤ 122 <;> by_cases h3 : 65 ≤ c <;> by_cases h4 : c ≤ 90 <;> by_cases h5 : 48 ≤ c <;> by_cases h6 : c ≤ 57 <;> by_cases h7 : 128 ≤ c <;>
    first | (exfalso; omega) | simp [Z55.f, Z28.f, isW, h1, h2, h3, h4, h5, h6, h7]
theorem wordByte_is (c : Int) (h0 : 0 ≤ c) (h1 : c ≤ 255) : Z30.f c = some (isW c) := by
  have key : ∀ n : Fin 256, Z30.f (n.val : Int) = some (isW (n.val : Int)) := by decide +kernel
  obtain ⟨n, rfl⟩ := Int.eq_ofNat_of_zero_le h0
  exact key ⟨n, by omega⟩
def wEnd (s : ByteArray) (i : Nat) : Nat := if h : i < s.size then (if isW (bt s i) = true then wEnd s (i + 1) else i) else i
  termination_by s.size - i
theorem wEnd_in {s : ByteArray} {i : Nat} (h : i < s.size) (hw : isW (bt s i) = true) : wEnd s i = wEnd s (i + 1) := by
  rw [wEnd, dif_pos h, if_pos hw]
theorem wEnd_stop {s : ByteArray} {i : Nat} (h : i < s.size) (hw : ¬ isW (bt s i) = true) : wEnd s i = i := by
  rw [wEnd, dif_pos h, if_neg hw]
theorem wEnd_end {s : ByteArray} {i : Nat} (h : ¬ i < s.size) : wEnd s i = i := by
  rw [wEnd, dif_neg h]
theorem le_wEnd (s : ByteArray) (d : Nat) : ∀ i, s.size - i ≤ d → i ≤ wEnd s i ∧ (i ≤ s.size → wEnd s i ≤ s.size) := by
  induction d with
  | zero => intro i hi; rw [wEnd_end (by omega)]; exact ⟨Nat.le_refl _, id⟩
  | succ d ih =>
    intro i hi
    by_cases h : i < s.size
    · by_cases hw : isW (bt s i) = true
      · rw [wEnd_in h hw]
        have := ih (i + 1) (by omega)
        omega
      · rw [wEnd_stop h hw]; exact ⟨Nat.le_refl _, id⟩
    · rw [wEnd_end h]; exact ⟨Nat.le_refl _, id⟩
theorem wEnd_ge (s : ByteArray) (i : Nat) : i ≤ wEnd s i := (le_wEnd s _ i (Nat.le_refl _)).1
theorem wEnd_le {s : ByteArray} {i : Nat} (h : i ≤ s.size) : wEnd s i ≤ s.size := (le_wEnd s _ i (Nat.le_refl _)).2 h
def spans (s : ByteArray) (i : Nat) : List (Nat × Nat) := if h : i < s.size then (if isW (bt s i) = true then (i, wEnd s i) :: spans s (wEnd s i + 1) else spans s (i + 1)) else []
  termination_by s.size - i
  decreasing_by
    all_goals have := wEnd_ge s i
    all_goals omega
theorem spans_in {s : ByteArray} {i : Nat} (h : i < s.size) (hw : isW (bt s i) = true) : spans s i = (i, wEnd s i) :: spans s (wEnd s i + 1) := by
  rw [spans, dif_pos h, if_pos hw]
theorem spans_out {s : ByteArray} {i : Nat} (h : i < s.size) (hw : ¬ isW (bt s i) = true) : spans s i = spans s (i + 1) := by
  rw [spans, dif_pos h, if_neg hw]
theorem spans_end {s : ByteArray} {i : Nat} (h : ¬ i < s.size) : spans s i = [] := by
  rw [spans, dif_neg h]
def wd (s : ByteArray) (p : Nat × Nat) : ByteArray := lowA (s.extract p.1 p.2)
def wordsOf (s : ByteArray) : List ByteArray := (spans s 0).map (wd s)
theorem ex_size (s : ByteArray) (a b : Nat) : (s.extract a b).size ≤ s.size := by
  rw [ByteArray.size_extract]; omega
theorem near_words_ev (s : ByteArray) (hs : s.size < 8796093022208) (d : Nat) : ∀ (i : Nat) (acc : List ByteArray), s.size - i ≤ d → i ≤ s.size → acc.length ≤ i →
    Ev (fun k => Z7.l0 k s acc (-1) (i : Int)) (acc ++ (spans s i).map (wd s)) ∧
    ∀ f : Nat, f < i → Ev (fun k => Z7.l0 k s acc (f : Int) (i : Int)) (acc ++ wd s (f, wEnd s i) :: (spans s (wEnd s i + 1)).map (wd s)) := by
  have hlow : ∀ a b, Z41.f (s.extract a b) = some (lowA (s.extract a b)) := fun a b => by
    have := ex_size s a b
    unfold Z41.f; rw [if_pos (by omega)]
  have hend : ∀ (acc : List ByteArray) (x : Int), Ev (fun k => Z7.l0 k s acc x ((s.size : Int) + 1)) acc := fun acc x =>
    Ev.step (fun _ => Z7.l0.eq_2 ..) (ev_neg (by omega) (ev_val rfl))
  induction d with
  | zero =>
    intro i acc hd hi ha
    obtain rfl : i = s.size := by omega
    have hw : wrap64 ((s.size : Int) + 1) = (s.size : Int) + 1 := wr64 (by omega) (by omega)
    refine ⟨?_, fun f hf => ?_⟩
    · rw [spans_end (by omega)]
      refine Ev.step (fun _ => Z7.l0.eq_2 ..) (ev_pos (by omega) (ev_neg (by omega) ?_))
      refine Ev.step (fun _ => Z7.j1.eq_2 ..) (ev_neg (by simp) ?_)
      refine Ev.step (fun _ => Z7.j2.eq_2 ..) (ev_neg (by simp) (ev_neg (by simp) (ev_neg (by omega) ?_)))
      rw [hw]
      simpa using hend acc (-1)
    · rw [wEnd_end (by omega), spans_end (by omega)]
      refine Ev.step (fun _ => Z7.l0.eq_2 ..) (ev_pos (by omega) (ev_neg (by omega) ?_))
      refine Ev.step (fun _ => Z7.j1.eq_2 ..) (ev_neg (by simp) ?_)
      refine Ev.step (fun _ => Z7.j2.eq_2 ..) (ev_neg (by simp) (ev_neg (by simp) (ev_pos (by omega) (ev_pos (by omega) (ev_pos (by omega) (ev_pos (by omega) ?_))))))
      refine ev_bindc (hlow _ _) (ev_pos (by omega) ?_)
      rw [hw]
      simpa [wd] using hend _ (-1)
  | succ d ih =>
    intro i acc hd hi ha
    by_cases hlt : i < s.size
    · have hw : wrap64 ((i : Int) + 1) = ((i + 1 : Nat) : Int) := by rw [wr64 (by omega) (by omega)]; omega
      by_cases hc : isW (bt s i) = true
      · have ihf := (ih (i + 1) acc (by omega) (by omega) (by omega)).2
        refine ⟨?_, fun f hf => ?_⟩
        · rw [spans_in hlt hc]
          refine Ev.step (fun _ => Z7.l0.eq_2 ..) (ev_pos (by omega) (ev_pos (by omega) (ev_pos (by omega) (ev_bindc (letter_is _) ?_))))
          rw [hc]
          refine Ev.step (fun _ => Z7.j1.eq_2 ..) (ev_pos rfl ?_)
          refine Ev.step (fun _ => Z7.j2.eq_2 ..) (ev_pos (by simp) (ev_pos rfl ?_))
          rw [hw, wEnd_in hlt hc]
          exact ihf i (by omega)
        · rw [wEnd_in hlt hc]
          refine Ev.step (fun _ => Z7.l0.eq_2 ..) (ev_pos (by omega) (ev_pos (by omega) (ev_pos (by omega) (ev_bindc (letter_is _) ?_))))
          rw [hc]
          refine Ev.step (fun _ => Z7.j1.eq_2 ..) (ev_pos rfl ?_)
          refine Ev.step (fun _ => Z7.j2.eq_2 ..) (ev_neg (by simp) (ev_pos rfl ?_))
          rw [hw]
          exact ihf f (by omega)
      · have hcf : isW (bt s i) = false := by simpa using hc
        refine ⟨?_, fun f hf => ?_⟩
        · rw [spans_out hlt hc]
          refine Ev.step (fun _ => Z7.l0.eq_2 ..) (ev_pos (by omega) (ev_pos (by omega) (ev_pos (by omega) (ev_bindc (letter_is _) ?_))))
          rw [hcf]
          refine Ev.step (fun _ => Z7.j1.eq_2 ..) (ev_neg (by simp) ?_)
          refine Ev.step (fun _ => Z7.j2.eq_2 ..) (ev_neg (by simp) (ev_neg (by simp) (ev_neg (by omega) ?_)))
          rw [hw]
          exact (ih (i + 1) acc (by omega) (by omega) (by omega)).1
        · rw [wEnd_stop hlt hc]
          refine Ev.step (fun _ => Z7.l0.eq_2 ..) (ev_pos (by omega) (ev_pos (by omega) (ev_pos (by omega) (ev_bindc (letter_is _) ?_))))
          rw [hcf]
          refine Ev.step (fun _ => Z7.j1.eq_2 ..) (ev_neg (by simp) ?_)
          refine Ev.step (fun _ => Z7.j2.eq_2 ..) (ev_neg (by simp) (ev_neg (by simp) (ev_pos (by omega) (ev_pos (by omega) (ev_pos (by omega) (ev_pos (by omega) ?_))))))
          refine ev_bindc (hlow _ _) (ev_pos (by omega) ?_)
          rw [hw]
          have := (ih (i + 1) (acc ++ [wd s (f, i)]) (by omega) (by omega) (by simp; omega)).1
          simpa [wd] using this
    · obtain rfl : i = s.size := by omega
      exact ih s.size acc (by omega) (by omega) ha
theorem near_Words_ev (s : ByteArray) (hs : s.size < 8796093022208) : Ev (fun k => Z7.f k s) (wordsOf s) := by
  have := (near_words_ev s hs s.size 0 [] (by omega) (by omega) (by simp)).1
  simpa [Z7.f, wordsOf] using this
def sp (p : Nat × Nat) : S46 := ⟨(p.1 : Int), (p.2 : Int)⟩
theorem ref_spans_ev (s : ByteArray) (hs : s.size < 8796093022208) (d : Nat) : ∀ (i : Nat) (acc : List S46), s.size + 1 - i ≤ d → i ≤ s.size + 1 → acc.length ≤ i →
    Ev (fun k => Z18.l0 k s acc (i : Int)) (acc ++ (spans s i).map sp) ∧
    ∀ f : Nat, f < i → i ≤ s.size → acc.length ≤ f → Ev (fun k => Z18.l1 k s acc (f : Int) (i : Int)) (acc ++ sp (f, wEnd s i) :: (spans s (wEnd s i + 1)).map sp) := by
  have hend : ∀ (acc : List S46) (i : Nat), s.size ≤ i → Ev (fun k => Z18.l0 k s acc (i : Int)) acc := fun acc i hi =>
    Ev.step (fun _ => Z18.l0.eq_2 ..) (ev_neg (by omega) (ev_val rfl))
  induction d with
  | zero =>
    intro i acc hd hi ha
    refine ⟨?_, fun f hf h1 _ => by omega⟩
    rw [spans_end (by omega)]
    simpa using hend acc i (by omega)
  | succ d ih =>
    intro i acc hd hi ha
    by_cases hlt : i < s.size
    · have hw : wrap64 ((i : Int) + 1) = ((i + 1 : Nat) : Int) := by rw [wr64 (by omega) (by omega)]; omega
      have hb := bt_range s (i : Int)
      by_cases hc : isW (bt s i) = true
      · have hl1 : ∀ f : Nat, f < i + 1 → acc.length ≤ f → Ev (fun k => Z18.l1 k s acc (f : Int) (i : Int)) (acc ++ sp (f, wEnd s i) :: (spans s (wEnd s i + 1)).map sp) := fun f hf hfa => by
          rw [wEnd_in hlt hc]
          refine Ev.step (fun _ => Z18.l1.eq_2 ..) (ev_pos (by omega) (ev_pos (by omega) (ev_bindc (wordByte_is _ hb.1 hb.2) (ev_pos hc ?_))))
          rw [hw]
          exact (ih (i + 1) acc (by omega) (by omega) (by omega)).2 f (by omega) (by omega) hfa
        refine ⟨?_, fun f hf _ hfa => hl1 f (by omega) hfa⟩
        rw [spans_in hlt hc]
        refine Ev.step (fun _ => Z18.l0.eq_2 ..) (ev_pos (by omega) (ev_pos (by omega) (ev_bindc (wordByte_is _ hb.1 hb.2) (ev_pos hc ?_))))
        exact hl1 i (by omega) ha
      · refine ⟨?_, fun f hf _ hfa => ?_⟩
        · rw [spans_out hlt hc]
          refine Ev.step (fun _ => Z18.l0.eq_2 ..) (ev_pos (by omega) (ev_pos (by omega) (ev_bindc (wordByte_is _ hb.1 hb.2) (ev_neg hc ?_))))
          rw [hw]
          exact (ih (i + 1) acc (by omega) (by omega) (by omega)).1
        · rw [wEnd_stop hlt hc]
          refine Ev.step (fun _ => Z18.l1.eq_2 ..) (ev_pos (by omega) (ev_pos (by omega) (ev_bindc (wordByte_is _ hb.1 hb.2) (ev_neg hc (ev_pos (by omega) ?_)))))
          rw [hw]
          have := (ih (i + 1) (acc ++ [sp (f, i)]) (by omega) (by omega) (by simp; omega)).1
          simpa [sp] using this
    · refine ⟨?_, fun f hf h1 hfa => ?_⟩
      · rw [spans_end hlt]
        simpa using hend acc i (by omega)
      · obtain rfl : i = s.size := by omega
        have hw : wrap64 ((s.size : Int) + 1) = ((s.size + 1 : Nat) : Int) := by rw [wr64 (by omega) (by omega)]; omega
        rw [wEnd_end (by omega), spans_end (by omega)]
        refine Ev.step (fun _ => Z18.l1.eq_2 ..) (ev_neg (by omega) (ev_pos (by omega) ?_))
        rw [hw]
        simpa [sp] using hend _ (s.size + 1) (by omega)
theorem wordSpans_ev (s : ByteArray) (hs : s.size < 8796093022208) : Ev (fun k => Z18.f k s) ((spans s 0).map sp) := by
  have := (ref_spans_ev s hs (s.size + 1) 0 [] (by omega) (by omega) (by simp)).1
  simpa [Z18.f] using this
theorem spans_ok (s : ByteArray) (d : Nat) : ∀ i, s.size - i ≤ d → ∀ p ∈ spans s i, i ≤ p.1 ∧ p.1 < p.2 ∧ p.2 ≤ s.size := by
  induction d with
  | zero => intro i hi p hp; rw [spans_end (by omega)] at hp; cases hp
  | succ d ih =>
    intro i hi p hp
    by_cases h : i < s.size
    · by_cases hw : isW (bt s i) = true
      · rw [spans_in h hw] at hp
        have h1 := wEnd_ge s (i + 1)
        have h2 := wEnd_le (s := s) (i := i) (by omega)
        rw [← wEnd_in h hw] at h1
        rcases List.mem_cons.1 hp with rfl | hp
        · exact ⟨Nat.le_refl _, by simp only; omega, h2⟩
        · have := ih (wEnd s i + 1) (by omega) p hp
          omega
      · rw [spans_out h hw] at hp
        have := ih (i + 1) (by omega) p hp
        omega
    · rw [spans_end h] at hp; cases hp
theorem spans_count (s : ByteArray) (d : Nat) : ∀ i, s.size - i ≤ d → (spans s i).length ≤ s.size - i := by
  induction d with
  | zero => intro i hi; rw [spans_end (by omega)]; simp
  | succ d ih =>
    intro i hi
    by_cases h : i < s.size
    · by_cases hw : isW (bt s i) = true
      · rw [spans_in h hw]
        have h1 := wEnd_ge s (i + 1)
        rw [← wEnd_in h hw] at h1
        have := ih (wEnd s i + 1) (by omega)
        simp only [List.length_cons]
        omega
      · rw [spans_out h hw]
        have := ih (i + 1) (by omega)
        omega
    · rw [spans_end h]; simp
theorem wordsOf_count (s : ByteArray) : (wordsOf s).length ≤ s.size := by
  have := spans_count s _ 0 (Nat.le_refl _)
  simpa [wordsOf] using this
theorem rd_sp (l : List (Nat × Nat)) (j : Nat) (hj : j < l.length) : rd_T46 (l.map sp) (j : Int) = sp l[j] := by
  unfold rd_T46
  simp [List.getD, hj]
theorem ref_words_ev (s : ByteArray) (hs : s.size < 8796093022208) (l : List (Nat × Nat)) (hl : ∀ p ∈ l, p.1 < p.2 ∧ p.2 ≤ s.size) (hn : l.length ≤ s.size) (d : Nat) : ∀ (j : Nat) (acc : List ByteArray), l.length - j ≤ d → j ≤ l.length → acc.length = j →
    Ev (fun k => Z31.l0 k s acc (l.map sp) (l.length : Int) (j : Int)) (acc ++ (l.drop j).map (wd s)) := by
  induction d with
  | zero =>
    intro j acc hd hj ha
    obtain rfl : j = l.length := by omega
    refine Ev.step (fun _ => Z31.l0.eq_2 ..) (ev_neg (by omega) (ev_val ?_))
    simp
  | succ d ih =>
    intro j acc hd hj ha
    by_cases hlt : j < l.length
    · have hw : wrap64 ((j : Int) + 1) = ((j + 1 : Nat) : Int) := by rw [wr64 (by omega) (by omega)]; omega
      have hp := hl l[j] (List.getElem_mem hlt)
      have hr := rd_sp l j hlt
      have hlow : Z48.f (s.extract l[j].1 l[j].2) = some (wd s l[j]) := by
        have := ex_size s l[j].1 l[j].2
        unfold Z48.f; rw [if_pos (by omega)]; rfl
      refine Ev.step (fun _ => Z31.l0.eq_2 ..) ?_
      rw [hr]
      refine ev_pos (by omega) (ev_pos (by omega) (ev_pos (by simp; omega) (ev_pos (by simp [sp]) (ev_pos (by simp [sp]; omega) (ev_pos (by simp [sp]; omega) (ev_bindc (a := wd s l[j]) (by simpa [sp] using hlow) (ev_pos (by omega) ?_)))))))
      rw [hw]
      have := ih (j + 1) (acc ++ [wd s l[j]]) (by omega) (by omega) (by simp [ha])
      have e : (l.drop j).map (wd s) = wd s l[j] :: (l.drop (j + 1)).map (wd s) := by rw [List.drop_eq_getElem_cons hlt, List.map_cons]
      exact ev_eq this (by rw [e, List.append_assoc]; rfl)
    · obtain rfl : j = l.length := by omega
      exact ih l.length acc (by omega) (by omega) ha
theorem WordsOf_ev (s : ByteArray) (hs : s.size < 8796093022208) : Ev (fun k => Z31.f k s) (wordsOf s) := by
  unfold Z31.f
  refine Ev.bind (wordSpans_ev s hs) ?_
  have := ref_words_ev s hs (spans s 0) (fun p hp => (spans_ok s _ 0 (Nat.le_refl _) p hp).2) (by have := spans_count s _ 0 (Nat.le_refl _); simpa using this) (spans s 0).length 0 [] (by omega) (by omega) (by simp)
  simpa [wordsOf] using this
end Go.Proofs.YtolcpmdojlbhcaaDoor.Px
namespace Go.Proofs.YtolcpmdojlbhcaaDoor.Px
open Go.RowKit Go.Proofs.YtolcpmdojlbhcaaDoor.GBase Go.Proofs.YtolcpmdojlbhcaaDoorW.PrintWords Go.Proofs.YtolcpmdojlbhcaaDoorW.PrintLast
set_option linter.unusedVariables false
set_option linter.unusedSimpArgs false
def wAt (s : ByteArray) (j : Nat) : Bool := isW (bt s (j : Int))
theorem wAt_out (s : ByteArray) (j : Nat) (h : s.size ≤ j) : wAt s j = false := by
  unfold wAt bt
  rw [dif_neg (by rw [Int.toNat_natCast]; omega)]
  rfl
def IsWord (s : ByteArray) (p : Nat × Nat) : Prop := p.1 < p.2 ∧ p.2 ≤ s.size ∧ (∀ j, p.1 ≤ j → j < p.2 → wAt s j = true) ∧ (p.1 = 0 ∨ wAt s (p.1 - 1) = false) ∧ wAt s p.2 = false
theorem IsWord.same {s : ByteArray} {p q : Nat × Nat} (hp : IsWord s p) (hq : IsWord s q) {j : Nat} (h1 : p.1 ≤ j) (h2 : j < p.2) (h3 : q.1 ≤ j) (h4 : j < q.2) : p = q := by
  obtain ⟨a1, a2, a3, a4, a5⟩ := hp
  obtain ⟨b1, b2, b3, b4, b5⟩ := hq
  have e1 : p.1 = q.1 := by
    rcases Nat.lt_trichotomy p.1 q.1 with c | c | c
    · rcases b4 with b4 | b4
      · omega
      · rw [a3 (q.1 - 1) (by omega) (by omega)] at b4; exact absurd b4 (by decide)
    · exact c
    · rcases a4 with a4 | a4
      · omega
      · rw [b3 (p.1 - 1) (by omega) (by omega)] at a4; exact absurd a4 (by decide)
  have e2 : p.2 = q.2 := by
    rcases Nat.lt_trichotomy p.2 q.2 with c | c | c
    · rw [b3 p.2 (by omega) c] at a5; exact absurd a5 (by decide)
    · exact c
    · rw [a3 q.2 (by omega) c] at b5; exact absurd b5 (by decide)
  exact Prod.ext e1 e2
end Go.Proofs.YtolcpmdojlbhcaaDoor.Px
namespace Go.Proofs.YtolcpmdojlbhcaaDoor.Px
open Go.RowKit Go.Proofs.YtolcpmdojlbhcaaDoor.GBase Go.Proofs.YtolcpmdojlbhcaaDoorW.PrintWords Go.Proofs.YtolcpmdojlbhcaaDoorW.PrintLast
set_option linter.unusedVariables false
set_option linter.unusedSimpArgs false
theorem isL_isW (c : Int) : Z1.isL c = isW c := by
  have h : Z25.f c = some (isW c) := by
    by_cases h1 : 97 ≤ c <;> by_cases h2 : c ≤ 122 <;> by_cases h3 : 65 ≤ c <;> by_cases h4 : c ≤ 90 <;> by_cases h5 : 48 ≤ c <;> by_cases h6 : c ≤ 57 <;> by_cases h7 : 128 ≤ c <;>
      first | (exfalso; omega) | simp [Z25.f, Z28.f, isW, h1, h2, h3, h4, h5, h6, h7]
  unfold Z1.isL
  rw [h]
  rfl
theorem anyB_loop (l : List Bool) (hl : l.length ≤ 1000000) (d : Nat) : ∀ j : Nat, l.length - j ≤ d → j ≤ l.length → ∃ x : Int, Ev (fun k => Z35.l0 k l true (l.length : Int) (j : Int)) x ∧ decide (x ≥ 0) = (l.drop j).any id := by
  have stop : ∀ j : Nat, ¬ j < l.length → ∃ x : Int, Ev (fun k => Z35.l0 k l true (l.length : Int) (j : Int)) x ∧ decide (x ≥ 0) = (l.drop j).any id := fun j h => by
    rw [List.drop_eq_nil_of_le (by omega)]
    exact ⟨-1, Ev.step (fun _ => Z35.l0.eq_2 ..) (ev_neg (by omega) (Ev.now _)), rfl⟩
  induction d with
  | zero => exact fun j h1 h2 => stop j (by omega)
  | succ d ih =>
    intro j h1 h2
    by_cases hlt : j < l.length
    · have e : rdOf false l (j : Int) = l[j] := by simp [rdOf, List.getD, hlt]
      have hw : wrap64 ((j : Int) + 1) = ((j + 1 : Nat) : Int) := by rw [wr64 (by omega) (by omega)]; omega
      rw [List.drop_eq_getElem_cons hlt, List.any_cons]
      cases hb : l[j] with
      | true =>
        refine ⟨(j : Int), Ev.step (fun _ => Z35.l0.eq_2 ..) (ev_pos (by omega) (ev_pos (by omega) (ev_pos (by omega) (ev_pos (by rw [e, hb]; rfl) (Ev.now _))))), ?_⟩
        rw [decide_eq_true (by omega)]
        rfl
      | false =>
        obtain ⟨x, hx, hx2⟩ := ih (j + 1) (by omega) (by omega)
        refine ⟨x, Ev.step (fun _ => Z35.l0.eq_2 ..) (ev_pos (by omega) (ev_pos (by omega) (ev_pos (by omega) (ev_neg (by rw [e, hb]; decide) ?_)))), ?_⟩
        · rw [hw]
          exact hx
        · rw [hx2]
          rfl
    · exact stop j hlt
theorem anyB_ev (l : List Bool) (hl : l.length ≤ 1000000) : Ev (fun k => Z37.f k l true) (l.any id) := by
  obtain ⟨x, hx, hx2⟩ := anyB_loop l hl _ 0 (Nat.le_refl _) (Nat.zero_le _)
  rw [List.drop_zero] at hx2
  refine Ev.congr (fun _ => Z37.f.eq_1 ..) (Ev.bind (Ev.congr (fun _ => Z35.f.eq_1 ..) hx) (ev_val ?_))
  rw [hx2]
def leakG (s : ByteArray) (c : List Bool) (S : List (List UInt8)) (p : Nat × Nat) : Bool := decide (4 ≤ p.2 - p.1) && (!(((c.take p.2).drop p.1).any id) && decide ((wd s p).data.toList ∈ S))
def leakSp (p : Nat × Nat) : S46 := ⟨(p.1 : Int), (p.2 : Int)⟩
def leakRest (s : ByteArray) (i : Nat) : Option Nat → List (Nat × Nat)
  | none => spans s i
  | some f => (f, wEnd s i) :: spans s (wEnd s i + 1)
theorem scan_step (k : Nat) (s : ByteArray) (c : List Bool) (S : List (List UInt8)) (n i : Nat) (fr : Option Nat) (out : List S46) : Z1.scan k s c S (n + 1) i fr out = if i < s.size ∧ Z1.isL (bt s (i : Int)) = true then Z1.scan k s c S n (i + 1) (some (fr.getD i)) out
    else (match fr with
      | none => Z1.scan k s c S n (i + 1) none out
      | some f => if 4 ≤ i - f then ((Z37.f k ((c.take i).drop f) true).bind fun b => (if b = true then Z1.scan k s c S n (i + 1) none out else (if decide ((lowA (s.extract f i)).data.toList ∈ S) = true then (if out.length < 8796093022208 then Z1.scan k s c S n (i + 1) none (out ++ [⟨(f : Int), (i : Int)⟩]) else none) else Z1.scan k s c S n (i + 1) none out))) else Z1.scan k s c S n (i + 1) none out) := by
  cases fr <;> rfl
theorem scan_ev (s : ByteArray) (c : List Bool) (S : List (List UInt8)) (hc : c.length = s.size) (hs : s.size ≤ 100000) (n : Nat) : ∀ (i : Nat) (fr : Option Nat) (out : List S46), i + n = s.size + 1 → (∀ f, fr = some f → f < i ∧ ∀ j, f ≤ j → j < i → wAt s j = true) → out.length ≤ i →
    Ev (fun k => Z1.scan k s c S n i fr out) (out ++ ((leakRest s i fr).filter (leakG s c S)).map leakSp) := by
  induction n with
  | zero =>
    intro i fr out hin hf ho
    refine Ev.congr (fun _ => Z1.scan.eq_1 ..) (ev_val ?_)
    cases fr with
    | none =>
      show some out = some (out ++ ((spans s i).filter _).map _)
      rw [spans_end (by omega)]
      simp
    | some f =>
      obtain ⟨h1, h2⟩ := hf f rfl
      have := h2 s.size (by omega) (by omega)
      rw [wAt_out s s.size (Nat.le_refl _)] at this
      exact absurd this (by decide)
  | succ n ih =>
    intro i fr out hin hf ho
    refine Ev.congr (fun _ => scan_step ..) ?_
    by_cases hi : i < s.size ∧ Z1.isL (bt s (i : Int)) = true
    · have hw : isW (bt s (i : Int)) = true := by rw [← isL_isW]; exact hi.2
      refine ev_pos hi (ev_eq (ih (i + 1) (some (fr.getD i)) out (by omega) ?_ (by omega)) ?_)
      · intro f e
        obtain rfl := Option.some.inj e
        cases fr with
        | none =>
          refine ⟨Nat.lt_succ_self i, fun j h1 h2 => ?_⟩
          have h3 : i ≤ j := h1
          obtain rfl : j = i := by omega
          exact hw
        | some f =>
          obtain ⟨h1, h2⟩ := hf f rfl
          refine ⟨by simp; omega, fun j h3 h4 => ?_⟩
          by_cases e : j = i
          · subst e; exact hw
          · exact h2 j (by simpa using h3) (by omega)
      · cases fr with
        | none =>
          show _ = out ++ ((spans s i).filter _).map _
          rw [spans_in hi.1 hw, wEnd_in hi.1 hw]
          rfl
        | some f =>
          show _ = out ++ (((f, wEnd s i) :: spans s (wEnd s i + 1)).filter _).map _
          rw [wEnd_in hi.1 hw]
          rfl
    · have hw : i < s.size → ¬ isW (bt s (i : Int)) = true := fun h h2 => hi ⟨h, by rw [isL_isW]; exact h2⟩
      have hsp : spans s i = spans s (i + 1) := by
        by_cases h : i < s.size
        · exact spans_out h (hw h)
        · rw [spans_end h, spans_end (by omega)]
      have hwe : wEnd s i = i := by
        by_cases h : i < s.size
        · exact wEnd_stop h (hw h)
        · exact wEnd_end h
      refine ev_neg hi ?_
      have next := fun (o : List S46) (h : o.length ≤ i + 1) => ih (i + 1) none o (by omega) (fun f e => by cases e) h
      cases fr with
      | none =>
        refine ev_eq (next out (by omega)) ?_
        show out ++ ((spans s (i + 1)).filter _).map _ = out ++ ((spans s i).filter _).map _
        rw [hsp]
      | some f =>
        obtain ⟨h1, h2⟩ := hf f rfl
        have hcl : ((c.take i).drop f).length ≤ 1000000 := by rw [List.length_drop, List.length_take]; omega
        have goal : ∀ b : Bool, leakG s c S (f, i) = b → out ++ ((leakRest s i (some f)).filter (leakG s c S)).map leakSp = (out ++ if b = true then [leakSp (f, i)] else []) ++ ((leakRest s (i + 1) none).filter (leakG s c S)).map leakSp := by
          intro b hb
          show out ++ (((f, wEnd s i) :: spans s (wEnd s i + 1)).filter _).map _ = _
          rw [hwe, List.filter_cons, hb]
          cases b with
          | true => simp [leakRest]
          | false => simp [leakRest]
        by_cases h4 : 4 ≤ i - f
        · refine ev_pos h4 (Ev.bind (anyB_ev _ hcl) ?_)
          cases hb : ((c.take i).drop f).any id with
          | true =>
            rw [goal false (by show (decide (4 ≤ i - f) && (!(((c.take i).drop f).any id) && decide ((lowA (s.extract f i)).data.toList ∈ S))) = false; rw [hb]; simp)]
            refine ev_pos rfl (ev_eq (next out (by omega)) ?_)
            simp
          | false =>
            refine ev_neg (by decide) ?_
            cases hd : decide ((lowA (s.extract f i)).data.toList ∈ S) with
            | true =>
              rw [goal true (by show (decide (4 ≤ i - f) && (!(((c.take i).drop f).any id) && decide ((lowA (s.extract f i)).data.toList ∈ S))) = true; rw [hb, hd, decide_eq_true h4]; rfl)]
              refine ev_pos rfl (ev_pos (by omega) (ev_eq (next _ (by rw [List.length_append]; simp only [List.length_cons, List.length_nil]; omega)) ?_))
              rfl
            | false =>
              rw [goal false (by show (decide (4 ≤ i - f) && (!(((c.take i).drop f).any id) && decide ((lowA (s.extract f i)).data.toList ∈ S))) = false; rw [hd]; simp)]
              refine ev_neg (by decide) (ev_eq (next out (by omega)) ?_)
              simp
        · rw [goal false (by show (decide (4 ≤ i - f) && (!(((c.take i).drop f).any id) && decide ((lowA (s.extract f i)).data.toList ∈ S))) = false; rw [decide_eq_false h4]; rfl)]
          refine ev_neg h4 (ev_eq (next out (by omega)) ?_)
          simp
end Go.Proofs.YtolcpmdojlbhcaaDoor.Px
namespace Go.Proofs.YtolcpmdojlbhcaaDoor.Px
open Go.RowKit Go.Proofs.YtolcpmdojlbhcaaDoor.GBase Go.Proofs.YtolcpmdojlbhcaaDoorW.PrintWords Go.Proofs.YtolcpmdojlbhcaaDoorW.PrintLast
set_option linter.unusedVariables false
set_option linter.unusedSimpArgs false
theorem any_range (c : List Bool) (a b : Nat) : ((c.take b).drop a).any id = true ↔ ∃ j, a ≤ j ∧ j < b ∧ c.getD j false = true := by
  constructor
  · intro h
    obtain ⟨x, hx, hx2⟩ := List.any_eq_true.1 h
    obtain ⟨i, hi, e⟩ := List.getElem_of_mem hx
    rw [List.length_drop, List.length_take] at hi
    rw [List.getElem_drop, List.getElem_take] at e
    refine ⟨a + i, by omega, by omega, ?_⟩
    rw [List.getD_eq_getElem?_getD, List.getElem?_eq_getElem (by omega), e]
    exact hx2
  · rintro ⟨j, h1, h2, h3⟩
    have hj : j < c.length := by
      rcases Nat.lt_or_ge j c.length with h | h
      · exact h
      · rw [List.getD_eq_getElem?_getD, List.getElem?_eq_none h] at h3
        exact absurd h3 (by decide)
    rw [List.getD_eq_getElem?_getD, List.getElem?_eq_getElem hj] at h3
    refine List.any_eq_true.2 ⟨true, List.mem_iff_getElem.2 ⟨j - a, by rw [List.length_drop, List.length_take]; omega, ?_⟩, rfl⟩
    rw [List.getElem_drop, List.getElem_take]
    have : a + (j - a) = j := by omega
    simp only [this]
    exact h3
theorem rune_is (s : ByteArray) (pos : Nat) (hp : pos < s.size) : Lib.decodeGo (s.extract pos s.size) = Lib.decodeL (s.data.toList.drop pos) := by
  have e : (s.extract pos s.size).data.toList = s.data.toList.drop pos := by
    rw [Lib.extract_data, List.take_of_length_le (by rw [List.length_drop, ls_size]; exact Nat.le_refl _)]
  unfold Lib.decodeGo Lib.decodeL
  rw [if_neg (by rw [ByteArray.size_extract]; omega), ← e]
theorem rune_same {s : ByteArray} {m : List (Nat × Nat)} {pos w : Nat} (hw : 1 ≤ w) (h1 : ∀ j, pos < j → j < pos + w → insd s j = true) (h2 : pos = 0 ∨ insd s pos = false) (h3 : insd s (pos + w) = false) (i : Nat) (hi : pos ≤ i) (hi2 : i < pos + w) :
    Hid s m i ↔ ∃ j, pos ≤ j ∧ j < pos + w ∧ cov m j = true := by
  constructor
  · rintro ⟨j, j1, j2⟩
    refine ⟨j, ?_, ?_, j1⟩
    · rcases Nat.lt_or_ge j pos with c | c
      · rcases h2 with h2 | h2
        · omega
        · rw [j2 pos (by omega) (by omega)] at h2
          exact absurd h2 (by decide)
      · exact c
    · rcases Nat.lt_or_ge j (pos + w) with c | c
      · exact c
      · rw [j2 (pos + w) (by omega) (by omega)] at h3
        exact absurd h3 (by decide)
  · rintro ⟨j, j1, j2, j3⟩
    exact ⟨j, j3, fun k k1 k2 => h1 k (by omega) (by omega)⟩
theorem cover_in (s : ByteArray) (hs : s.size ≤ 1000000) (p : List Bool) (pos w : Nat) (hw : pos + w ≤ s.size) (on : Bool) (R : List Bool) (d : Nat) : ∀ (j : Nat) (out : List Bool), w - j ≤ d → j ≤ w → out.length = s.size →
    (∀ out' : List Bool, out'.length = s.size → (∀ i, out'.getD i false = if pos + j ≤ i ∧ i < pos + w then on else out.getD i false) → Ev (fun k => Z14.l0 k s p out' ((pos + w : Nat) : Int)) R) →
    Ev (fun k => Z14.l1 k s p out (pos : Int) (w : Int) on (w : Int) (j : Int)) R := by
  have hwp := Aside0.mk (show wrap64 ((pos : Int) + (w : Int)) = ((pos + w : Nat) : Int) by rw [wr64 (by omega) (by omega)]; omega)
  have stop : ∀ (out : List Bool), out.length = s.size → (∀ out' : List Bool, out'.length = s.size → (∀ i, out'.getD i false = if pos + w ≤ i ∧ i < pos + w then on else out.getD i false) → Ev (fun k => Z14.l0 k s p out' ((pos + w : Nat) : Int)) R) →
      Ev (fun k => Z14.l1 k s p out (pos : Int) (w : Int) on (w : Int) (w : Int)) R := fun out h1 h2 => by
    refine Ev.step (fun _ => Z14.l1.eq_2 ..) (ev_neg (by omega) ?_)
    rw [hwp.out]
    exact h2 out h1 (fun i => by rw [if_neg (by omega)])
  induction d with
  | zero =>
    intro j out h1 h2 h3 h4
    obtain rfl : j = w := by omega
    exact stop out h3 h4
  | succ d ih =>
    intro j out h1 h2 h3 h4
    by_cases hlt : j < w
    · have hwj := Aside0.mk (show wrap64 ((pos : Int) + (j : Int)) = ((pos + j : Nat) : Int) by rw [wr64 (by omega) (by omega)]; omega)
      have hw1 := Aside0.mk (show wrap64 ((j : Int) + 1) = ((j + 1 : Nat) : Int) by rw [wr64 (by omega) (by omega)]; omega)
      refine Ev.step (fun _ => Z14.l1.eq_2 ..) (ev_pos (by omega) ?_)
      simp only [hwj.out, hw1.out]
      refine ev_pos (by omega) (ev_pos (by omega) ?_)
      rw [Int.toNat_natCast]
      refine ih (j + 1) (out.set (pos + j) on) (by omega) (by omega) (by rw [List.length_set]; exact h3) (fun out' g1 g2 => h4 out' g1 (fun i => ?_))
      rw [g2 i]
      by_cases e : i = pos + j
      · subst e
        rw [if_neg (by omega), if_pos ⟨by omega, by omega⟩, List.getD_eq_getElem?_getD, List.getElem?_set_self (by omega)]
        rfl
      · have e2 : (out.set (pos + j) on).getD i false = out.getD i false := by rw [List.getD_eq_getElem?_getD, List.getElem?_set_ne (Ne.symm e), ← List.getD_eq_getElem?_getD]
        rw [e2]
        by_cases q : pos + (j + 1) ≤ i ∧ i < pos + w
        · rw [if_pos q, if_pos (by omega)]
        · rw [if_neg q, if_neg (by omega)]
    · obtain rfl : j = w := by omega
      exact stop out h3 h4
theorem cover_loop (s : ByteArray) (hs : s.size ≤ 1000000) (hv : Lib.validD s.data.toList = true) (m : List (Nat × Nat)) (p : List Bool) (hp : p.length = s.size) (hpc : ∀ i, i < s.size → p.getD i false = cov m i) (n : Nat) : ∀ (pos : Nat) (out : List Bool), s.size - pos ≤ n → pos ≤ s.size →
    Lib.validD (s.data.toList.drop pos) = true → (pos = 0 ∨ insd s pos = false) → out.length = s.size → (∀ i, i < pos → (out.getD i false = true ↔ Hid s m i)) →
    ∃ cs : List Bool, Ev (fun k => Z14.l0 k s p out (pos : Int)) cs ∧ cs.length = s.size ∧ ∀ i, i < s.size → (cs.getD i false = true ↔ Hid s m i) := by
  have fin : ∀ (out : List Bool), out.length = s.size → (∀ i, i < s.size → (out.getD i false = true ↔ Hid s m i)) → ∃ cs : List Bool, Ev (fun k => Z14.l0 k s p out (s.size : Int)) cs ∧ cs.length = s.size ∧ ∀ i, i < s.size → (cs.getD i false = true ↔ Hid s m i) := fun out h1 h2 =>
    ⟨out, Ev.step (fun _ => Z14.l0.eq_2 ..) (ev_neg (by omega) (ev_val rfl)), h1, h2⟩
  induction n with
  | zero =>
    intro pos out h1 h2 h3 h4 h5 h6
    obtain rfl : pos = s.size := by omega
    exact fin out h5 h6
  | succ n ih =>
    intro pos out h1 h2 h3 h4 h5 h6
    by_cases hlt : pos < s.size
    · have hne : s.data.toList.drop pos ≠ [] := fun e => by
        have := congrArg List.length e
        rw [List.length_drop, ls_size, List.length_nil] at this
        omega
      rw [Lib.validD_step _ hne] at h3
      by_cases hbad : (Lib.decodeL (s.data.toList.drop pos)).1 = 65533 ∧ (Lib.decodeL (s.data.toList.drop pos)).2 = 1
      · rw [if_pos hbad] at h3
        exact absurd h3 (by decide)
      rw [if_neg hbad, List.drop_drop] at h3
      obtain ⟨w1, w2, w3, w4⟩ := dec_step2 _ hne hbad
      rw [List.length_drop, ls_size] at w2
      have er := rune_is s pos hlt
      generalize hD : Lib.decodeL (s.data.toList.drop pos) = D at *
      obtain ⟨r, w⟩ := D
      simp only [] at w1 w2 w3 w4 h3
      have hin : ∀ j, pos < j → j < pos + w → insd s j = true := fun j j1 j2 => by
        have := w4 (j - pos) (by omega) (by omega)
        rw [getD_drop, show pos + (j - pos) = j by omega] at this
        exact (insd_iff s j).2 ⟨by omega, this⟩
      have hend : insd s (pos + w) = false := by
        cases hi : insd s (pos + w) with
        | false => rfl
        | true =>
          obtain ⟨g1, g2⟩ := (insd_iff s (pos + w)).1 hi
          have hne2 : s.data.toList.drop (pos + w) ≠ [] := fun e => by
            have := congrArg List.length e
            rw [List.length_drop, ls_size, List.length_nil] at this
            omega
          have h3' := h3
          rw [Lib.validD_step _ hne2] at h3'
          by_cases hb2 : (Lib.decodeL (s.data.toList.drop (pos + w))).1 = 65533 ∧ (Lib.decodeL (s.data.toList.drop (pos + w))).2 = 1
          · rw [if_pos hb2] at h3'
            exact absurd h3' (by decide)
          · have := (dec_step _ hne2 hb2).2.2.1
            rw [getD_drop, Nat.add_zero] at this
            exact absurd g2 this
      have hsame := rune_same (m := m) w1 hin h4 hend
      obtain ⟨on, hon⟩ : ∃ b, (((p.take (pos + w)).drop pos).any id) = b := ⟨_, rfl⟩
      have hon2 : ∀ i, pos ≤ i → i < pos + w → (on = true ↔ Hid s m i) := fun i i1 i2 => by
        rw [hsame i i1 i2, ← hon, any_range]
        constructor
        · rintro ⟨j, j1, j2, j3⟩
          rw [hpc j (by omega)] at j3
          exact ⟨j, j1, j2, j3⟩
        · rintro ⟨j, j1, j2, j3⟩
          exact ⟨j, j1, j2, by rw [hpc j (by omega)]; exact j3⟩
      have hwp := Aside0.mk (show wrap64 ((pos : Int) + (w : Int)) = ((pos + w : Nat) : Int) by rw [wr64 (by omega) (by omega)]; omega)
      have hany := anyB_ev ((p.take (pos + w)).drop pos) (by rw [List.length_drop, List.length_take]; omega)
      rw [hon] at hany
      have step : ∀ R, (∀ out' : List Bool, out'.length = s.size → (∀ i, out'.getD i false = if pos + 0 ≤ i ∧ i < pos + w then on else out.getD i false) → Ev (fun k => Z14.l0 k s p out' ((pos + w : Nat) : Int)) R) → Ev (fun k => Z14.l0 k s p out (pos : Int)) R := fun R hR => by
        refine Ev.step (fun _ => Z14.l0.eq_2 ..) (ev_pos (by omega) (ev_pos (by omega) (ev_pos (by omega) ?_)))
        rw [Int.toNat_natCast]
        refine ev_bindc (a := ((r : Int), (w : Int))) (by unfold Z58.f; rw [er]) ?_
        simp only [hwp.out, Int.toNat_natCast]
        refine ev_pos (by omega) (ev_pos (by omega) (Ev.bind hany ?_))
        exact cover_in s hs p pos w (by omega) on R _ 0 out (Nat.le_refl _) (Nat.zero_le _) h5 hR
      obtain ⟨o2, ho1, ho2⟩ : ∃ o2 : List Bool, o2.length = s.size ∧ ∀ i, o2.getD i false = if pos + 0 ≤ i ∧ i < pos + w then on else out.getD i false := by
        refine ⟨(List.range s.size).map fun i => if pos + 0 ≤ i ∧ i < pos + w then on else out.getD i false, by simp, fun i => ?_⟩
        rcases Nat.lt_or_ge i s.size with c | c
        · simp [List.getD_eq_getElem?_getD, c]
        · rw [if_neg (by omega), List.getD_eq_getElem?_getD, List.getD_eq_getElem?_getD, List.getElem?_eq_none (by simp; omega), List.getElem?_eq_none (by omega)]
      obtain ⟨cs, c1, c2, c3⟩ := ih (pos + w) o2 (by omega) (by omega) h3 (.inr hend) ho1 (fun i hi => by
        rw [ho2 i]
        by_cases q : pos + 0 ≤ i ∧ i < pos + w
        · rw [if_pos q]; exact hon2 i (by omega) (by omega)
        · rw [if_neg q]; exact h6 i (by omega))
      refine ⟨cs, step cs (fun out' g1 g2 => ?_), c2, c3⟩
      have : out' = o2 := by
        apply List.ext_getElem (by omega)
        intro i i1 i2
        have a := g2 i
        rw [← ho2 i, List.getD_eq_getElem?_getD, List.getD_eq_getElem?_getD, List.getElem?_eq_getElem i1, List.getElem?_eq_getElem i2] at a
        exact a
      rw [this]
      exact c1
    · obtain rfl : pos = s.size := by omega
      exact fin out h5 h6
theorem covered_of (s : ByteArray) (hs : s.size ≤ 100000) (ht : textOk s = true) (m : List (Nat × Nat)) (hm : m.length ≤ 100000) (hb : ∀ p ∈ m, p.1 < p.2 ∧ p.2 ≤ s.size) :
    ∃ cs : List Bool, Ev (fun k => Z14.f k s (m.map spn)) cs ∧ cs.length = s.size ∧ ∀ i, i < s.size → (cs.getD i false = true ↔ Hid s m i) := by
  have hv : Lib.validD s.data.toList = true := by
    unfold textOk wfC at ht
    simp only [Bool.and_eq_true] at ht
    exact ht.1.2
  obtain ⟨cs, c1, c2, c3⟩ := cover_loop s (by omega) hv m (marks m s.size) (marks_length _ _) (fun i hi => by simp [marks, List.getD_eq_getElem?_getD, hi]) _ 0 (List.replicate s.size false) (Nat.le_refl _) (Nat.zero_le _) (by rw [List.drop_zero]; exact hv) (.inl rfl) (List.length_replicate ..) (fun i hi => by omega)
  refine ⟨cs, Ev.congr (fun _ => Z14.f.eq_1 ..) (Ev.bind (painted_ev m (by omega) s.size (by omega) hb) (ev_pos (by omega) (ev_pos (by rw [Int.toNat_natCast]; omega) ?_))), c2, c3⟩
  rw [Int.toNat_natCast]
  exact c1
end Go.Proofs.YtolcpmdojlbhcaaDoor.Px
namespace Go.Proofs.YtolcpmdojlbhcaaDoor.Px
open Go.RowKit Go.Proofs.YtolcpmdojlbhcaaDoor.GBase Go.Proofs.YtolcpmdojlbhcaaDoorW.PrintWords Go.Proofs.YtolcpmdojlbhcaaDoorW.PrintLast
set_option linter.unusedVariables false
set_option linter.unusedSimpArgs false
theorem markN_is (n : Nat) : ∀ (f : Nat) (c : List Bool), f + n ≤ c.length → ∃ c', Z1.markN n (f : Int) c = some c' ∧ c'.length = c.length ∧ ∀ i, c'.getD i false = (c.getD i false || (decide (f ≤ i) && decide (i < f + n))) := by
  induction n with
  | zero =>
    intro f c h
    refine ⟨c, rfl, rfl, fun i => ?_⟩
    by_cases h1 : f ≤ i
    · rw [decide_eq_false (show ¬ i < f + 0 by omega)]
      simp
    · rw [decide_eq_false h1]
      simp
  | succ n ih =>
    intro f c h
    obtain ⟨c', h1, h2, h3⟩ := ih (f + 1) (c.set f true) (by rw [List.length_set]; omega)
    refine ⟨c', ?_, by rw [h2, List.length_set], fun i => ?_⟩
    · rw [Z1.markN.eq_2, if_pos ⟨by omega, by omega⟩, Int.toNat_natCast]
      exact h1
    · rw [h3 i]
      by_cases e : i = f
      · subst e
        have : (c.set i true).getD i false = true := by simp [List.getD, List.getElem?_set, show i < c.length by omega]
        rw [this, decide_eq_true (Nat.le_refl i), decide_eq_true (show i < i + (n + 1) by omega)]
        simp
      · have : (c.set f true).getD i false = c.getD i false := by simp [List.getD, List.getElem?_set, Ne.symm e]
        rw [this]
        have e1 : decide (f + 1 ≤ i) = decide (f ≤ i) := by
          by_cases q : f ≤ i
          · rw [decide_eq_true q, decide_eq_true (by omega)]
          · rw [decide_eq_false q, decide_eq_false (by omega)]
        rw [e1, show f + 1 + n = f + (n + 1) by omega]
theorem wd_size (s : ByteArray) (p : Nat × Nat) : (wd s p).size ≤ s.size := by
  have e : (wd s p).size = (s.extract p.1 p.2).size := by
    show ((s.extract p.1 p.2).data.map lowB).size = (s.extract p.1 p.2).data.size
    exact Array.size_map
  rw [e, ByteArray.size_extract]
  omega
theorem wordsOf_small (s : ByteArray) : ∀ x ∈ wordsOf s, x.size ≤ s.size := by
  intro x hx
  unfold wordsOf at hx
  obtain ⟨p, _, rfl⟩ := List.mem_map.1 hx
  exact wd_size s p
theorem gather_ev (s : ByteArray) (hs : s.size ≤ 100000) : ∀ (m : List (Nat × Nat)) (c : List Bool) (S : List (List UInt8)), (∀ p ∈ m, p.1 < p.2 ∧ p.2 ≤ s.size) → c.length = s.size → S.length + m.length * 100001 ≤ 1000000000000 →
    ∃ c' S', Ev (fun k => Z1.gather k s (m.map leakSp) c S) (c', S') ∧ c'.length = s.size ∧ (∀ i, c'.getD i false = (c.getD i false || cov m i)) ∧ ∀ x, x ∈ S' ↔ x ∈ S ∨ ∃ p ∈ m, ∃ w ∈ wordsOf (s.extract p.1 p.2), w.data.toList = x
  | [], c, S, _, hc, _ => ⟨c, S, Ev.congr (fun _ => Z1.gather.eq_1 ..) (Ev.now _), hc, fun i => by rw [cov_nil]; simp, fun x => by simp⟩
  | p :: m, c, S, hm, hc, hb => by
    obtain ⟨p1, p2⟩ := hm p List.mem_cons_self
    obtain ⟨c1, h1, h2, h3⟩ := markN_is (p.2 - p.1) p.1 c (by omega)
    have hw := wordsOf_count (s.extract p.1 p.2)
    have hx := ex_size s p.1 p.2
    simp only [List.length_cons] at hb
    have hmul : (m.length + 1) * 100001 = m.length * 100001 + 100001 := Nat.succ_mul _ _
    obtain ⟨c', S', g1, g2, g3, g4⟩ := gather_ev s hs m c1 (S ++ (wordsOf (s.extract p.1 p.2)).map (·.data.toList)) (fun q hq => hm q (List.mem_cons_of_mem _ hq)) (by omega) (by rw [List.length_append, List.length_map]; omega)
    refine ⟨c', S', ?_, g2, fun i => ?_, fun x => ?_⟩
    · refine Ev.congr (fun _ => Z1.gather.eq_2 ..) ?_
      have e1 : ((p.2 : Int) - (p.1 : Int)).toNat = p.2 - p.1 := by omega
      have e2 : (leakSp p).f0 = (p.1 : Int) := rfl
      have e3 : (leakSp p).f1 = (p.2 : Int) := rfl
      simp only [e1, e2, e3, Int.toNat_natCast]
      refine ev_bindc h1 (ev_pos ⟨by omega, by omega, by omega⟩ (Ev.bind (near_Words_ev _ (by omega)) (ev_pos ⟨by omega, ?_⟩ g1)))
      exact List.all_eq_true.2 fun x hx2 => decide_eq_true (by have := wordsOf_small _ x hx2; omega)
    · rw [g3 i, h3 i, cov_cons, show p.1 + (p.2 - p.1) = p.2 by omega, Bool.or_assoc]
    · rw [g4 x, List.mem_append, List.mem_map]
      constructor
      · rintro ((h | ⟨w, hw1, hw2⟩) | ⟨q, hq, r⟩)
        · exact .inl h
        · exact .inr ⟨p, List.mem_cons_self, w, hw1, hw2⟩
        · exact .inr ⟨q, List.mem_cons_of_mem _ hq, r⟩
      · rintro (h | ⟨q, hq, w, hw1, hw2⟩)
        · exact .inl (.inl h)
        · rcases List.mem_cons.1 hq with rfl | hq
          · exact .inl (.inr ⟨w, hw1, hw2⟩)
          · exact .inr ⟨q, hq, w, hw1, hw2⟩
end Go.Proofs.YtolcpmdojlbhcaaDoor.Px
namespace Go.Proofs.YtolcpmdojlbhcaaDoor.Px
open Go.RowKit Go.Proofs.YtolcpmdojlbhcaaDoor.GBase Go.Proofs.YtolcpmdojlbhcaaDoorW.PrintWords Go.Proofs.YtolcpmdojlbhcaaDoorW.PrintLast
set_option linter.unusedVariables false
set_option linter.unusedSimpArgs false
def fewL (l : List S46) : List S46 × Int := if (l.length : Int) > 1000 then ([], 2) else (l, 0)
theorem few_is (l : List S46) : Z56.f l = some (fewL l) := by
  unfold Z56.f fewL
  split <;> rfl
theorem bounded_is (l : List S46) : Z59.f l = some (fewL l) := by
  unfold Z59.f fewL
  split <;> rfl
theorem eqN_loop (l : List S46) (hn : l.length ≤ 1048577) (d : Nat) : ∀ j : Nat, l.length - j ≤ d → j ≤ l.length → Ev (fun k => Z17.l0 k l l (l.length : Int) (j : Int)) true := by
  induction d with
  | zero => intro j hd hj; exact Ev.step (fun _ => Z17.l0.eq_2 ..) (ev_neg (by omega) (ev_val rfl))
  | succ d ih =>
    intro j hd hj
    by_cases hlt : j < l.length
    · have hw : wrap64 ((j : Int) + 1) = ((j + 1 : Nat) : Int) := by rw [wr64 (by omega) (by omega)]; omega
      refine Ev.step (fun _ => Z17.l0.eq_2 ..) (ev_pos (by omega) (ev_pos (by omega) (ev_pos (by omega) (ev_pos (by omega) (ev_neg (by simp) ?_)))))
      rw [hw]
      exact ih (j + 1) (by omega) (by omega)
    · exact Ev.step (fun _ => Z17.l0.eq_2 ..) (ev_neg (by omega) (ev_val rfl))
theorem eqN_ev (l : List S46) (hn : l.length ≤ 1048577) : Ev (fun k => Z17.f k l l) true := by
  unfold Z17.f
  exact ev_pos rfl (eqN_loop l hn _ 0 (Nat.le_refl _) (by omega))
end Go.Proofs.YtolcpmdojlbhcaaDoor.Px
namespace Go.Proofs.YtolcpmdojlbhcaaDoor.Px
open Go.RowKit Go.Proofs.YtolcpmdojlbhcaaDoor.GBase Go.Proofs.YtolcpmdojlbhcaaDoorW.PrintWords Go.Proofs.YtolcpmdojlbhcaaDoorW.PrintLast
set_option linter.unusedVariables false
set_option linter.unusedSimpArgs false
theorem ext_list (s : ByteArray) (a b : Nat) : (s.extract a b).data.toList = (s.data.toList.take b).drop a := by
  rw [Lib.extract_data, List.drop_take]
theorem parts_is (s : ByteArray) (hs : s.size ≤ 100000) (cs : List Bool) (a b : Nat) (hb : b ≤ s.size) (hc : ∀ i, i < s.size → (cs.getD i false = true ↔ a ≤ i ∧ i < b)) (m : Nat) : ∀ (j : Nat), j + m = s.size →
    Z6.parts cs s m j (s.extract a (min j b)) = some (s.extract a b) := by
  induction m with
  | zero =>
    intro j hj
    rw [Z6.parts.eq_1, show min j b = b by omega]
  | succ m ih =>
    intro j hj
    rw [Z6.parts.eq_2]
    have hsz : (s.extract a (min j b)).size ≤ s.size := by rw [ByteArray.size_extract]; omega
    by_cases q : a ≤ j ∧ j < b
    · rw [if_pos ((hc j (by omega)).2 q), if_pos ⟨by omega, by omega⟩]
      have e : s.extract a (min j b) ++ s.extract j (j + 1) = s.extract a (min (j + 1) b) := by
        apply ba_list'
        rw [ByteArray.data_append, Array.toList_append, ext_list, ext_list, ext_list, show min j b = j by omega, show min (j + 1) b = j + 1 by omega]
        have hjl : j < s.data.toList.length := by rw [ls_size]; omega
        have e1 : (s.data.toList.take (j + 1)).drop j = [s.data.toList[j]] := by
          rw [List.take_add_one, List.getElem?_eq_getElem hjl, List.drop_append_of_le_length (by rw [List.length_take]; omega), List.drop_eq_nil_of_le (by rw [List.length_take]; omega)]
          rfl
        have e2 : (s.data.toList.take (j + 1)).drop a = (s.data.toList.take j).drop a ++ [s.data.toList[j]] := by
          rw [List.take_add_one, List.getElem?_eq_getElem hjl, List.drop_append_of_le_length (by rw [List.length_take]; omega)]
          rfl
        rw [e1, e2]
      rw [e]
      exact ih (j + 1) (by omega)
    · rw [if_neg (fun h => q ((hc j (by omega)).1 h))]
      have e : s.extract a (min j b) = s.extract a (min (j + 1) b) := by
        apply ba_list'
        rw [ext_list, ext_list]
        by_cases r : j < b
        · rw [List.drop_eq_nil_of_le (by rw [List.length_take]; omega), List.drop_eq_nil_of_le (by rw [List.length_take]; omega)]
        · rw [show min j b = b by omega, show min (j + 1) b = b by omega]
      rw [e]
      exact ih (j + 1) (by omega)
theorem gatherOf_ev (s : ByteArray) (hs : s.size ≤ 20000) (ht : textOk s = true) : ∀ (m ps : List (Nat × Nat)) (S : List (List UInt8)), Pts s m ps → (∀ p ∈ m, p.1 < p.2 ∧ p.2 ≤ s.size) → (∀ p ∈ ps, p.1 < p.2 ∧ p.2 ≤ s.size) → S.length + m.length * 100001 ≤ 1000000000000 →
    ∃ S', Ev (fun k => Z6.gather k s (m.map spn) S) S' ∧ ∀ x, x ∈ S' ↔ x ∈ S ∨ ∃ p ∈ ps, ∃ w ∈ wordsOf (s.extract p.1 p.2), w.data.toList = x
  | [], [], S, _, _, _, _ => ⟨S, Ev.congr (fun _ => Z6.gather.eq_1 ..) (Ev.now _), fun x => by simp⟩
  | [], q :: ps, S, h, _, _, _ => h.elim
  | p :: m, [], S, h, _, _, _ => h.elim
  | p :: m, q :: ps, S, h, hm, hq, hb => by
    obtain ⟨h1, h2⟩ := h
    obtain ⟨q1, q2⟩ := hq q List.mem_cons_self
    have hp := hm p List.mem_cons_self
    obtain ⟨cs, c1, c2, c3⟩ := covered_of s (by omega) ht [p] (by simp) (fun r hr => by rw [List.mem_singleton.1 hr]; exact hp)
    have hparts := parts_is s (by omega) cs q.1 q.2 q2 (fun i hi => (c3 i hi).trans (h1 i).symm) s.size 0 (by omega)
    have e0 : s.extract q.1 (min 0 q.2) = (⟨#[]⟩ : ByteArray) := by
      apply ba_list'
      rw [ext_list, Nat.zero_min, List.take_zero, List.drop_nil]
    rw [e0] at hparts
    have hw := wordsOf_count (s.extract q.1 q.2)
    have hx := ex_size s q.1 q.2
    simp only [List.length_cons] at hb
    have hmul : (m.length + 1) * 100001 = m.length * 100001 + 100001 := Nat.succ_mul _ _
    obtain ⟨S', g1, g2⟩ := gatherOf_ev s hs ht m ps (S ++ (wordsOf (s.extract q.1 q.2)).map (·.data.toList)) h2 (fun r hr => hm r (List.mem_cons_of_mem _ hr)) (fun r hr => hq r (List.mem_cons_of_mem _ hr)) (by rw [List.length_append, List.length_map]; omega)
    refine ⟨S', ?_, fun x => ?_⟩
    · refine Ev.congr (fun _ => Z6.gather.eq_2 ..) (Ev.bind c1 (ev_bindc (a := s.extract q.1 q.2) (by rw [c2]; exact hparts) (Ev.bind (WordsOf_ev _ (by omega)) (ev_pos ⟨by omega, ?_⟩ g1))))
      exact List.all_eq_true.2 fun x hx2 => decide_eq_true (by have := wordsOf_small _ x hx2; omega)
    · rw [g2 x, List.mem_append, List.mem_map]
      constructor
      · rintro ((h | ⟨w, hw1, hw2⟩) | ⟨r, hr, t⟩)
        · exact .inl h
        · exact .inr ⟨q, List.mem_cons_self, w, hw1, hw2⟩
        · exact .inr ⟨r, List.mem_cons_of_mem _ hr, t⟩
      · rintro (h | ⟨r, hr, w, hw1, hw2⟩)
        · exact .inl (.inl h)
        · rcases List.mem_cons.1 hr with rfl | hr
          · exact .inl (.inr ⟨w, hw1, hw2⟩)
          · exact .inr ⟨r, hr, w, hw1, hw2⟩
theorem scanOf_ev (s : ByteArray) (hs : s.size ≤ 100000) (c : List Bool) (hc : c.length = s.size) (S : List (List UInt8)) : ∀ (l : List (Nat × Nat)) (o : List S46), (∀ p ∈ l, p.1 < p.2 ∧ p.2 ≤ s.size) → o.length + l.length ≤ 1000000 →
    Ev (fun k => Z6.scan k s c S (l.map spn) o) (o ++ (l.filter (leakG s c S)).map spn)
  | [], o, _, _ => Ev.congr (fun _ => Z6.scan.eq_1 ..) (ev_val (by simp))
  | p :: l, o, hl, ho => by
    obtain ⟨p1, p2⟩ := hl p List.mem_cons_self
    simp only [List.length_cons] at ho
    have ih := fun (o' : List S46) (h : o'.length + l.length ≤ 1000000) => scanOf_ev s hs c hc S l o' (fun r hr => hl r (List.mem_cons_of_mem _ hr)) h
    have e0 : (spn p).f0 = (p.1 : Int) := rfl
    have e1 : (spn p).f1 = (p.2 : Int) := rfl
    have hw : wrap64 ((p.2 : Int) - (p.1 : Int)) = ((p.2 - p.1 : Nat) : Int) := by rw [wr64 (by omega) (by omega)]; omega
    have goal : ∀ b : Bool, leakG s c S p = b → o ++ ((p :: l).filter (leakG s c S)).map spn = (o ++ if b = true then [spn p] else []) ++ (l.filter (leakG s c S)).map spn := by
      intro b hb
      rw [List.filter_cons, hb]
      cases b <;> simp
    refine Ev.congr (fun _ => Z6.scan.eq_2 ..) ?_
    simp only [e0, e1, hw, Int.toNat_natCast]
    by_cases h4 : 4 ≤ p.2 - p.1
    · have hcl : ((c.take p.2).drop p.1).length ≤ 1000000 := by rw [List.length_drop, List.length_take]; omega
      refine ev_pos (by omega) (ev_pos ⟨by omega, by omega, by omega, by omega⟩ (Ev.bind (anyB_ev _ hcl) ?_))
      cases hb : ((c.take p.2).drop p.1).any id with
      | true =>
        rw [goal false (by unfold leakG; rw [hb]; simp)]
        refine ev_pos rfl (ev_eq (ih o (by omega)) (by simp))
      | false =>
        refine ev_neg (by decide) ?_
        cases hd : decide ((lowA (s.extract p.1 p.2)).data.toList ∈ S) with
        | true =>
          rw [goal true (by show (decide (4 ≤ p.2 - p.1) && (!(((c.take p.2).drop p.1).any id) && decide ((lowA (s.extract p.1 p.2)).data.toList ∈ S))) = true; rw [hb, hd, decide_eq_true h4]; rfl)]
          refine ev_pos rfl (ev_pos (by omega) (ev_eq (ih _ (by rw [List.length_append]; simp only [List.length_cons, List.length_nil]; omega)) (by simp)))
        | false =>
          rw [goal false (by show (decide (4 ≤ p.2 - p.1) && (!(((c.take p.2).drop p.1).any id) && decide ((lowA (s.extract p.1 p.2)).data.toList ∈ S))) = false; rw [hb, hd]; simp)]
          refine ev_neg (by decide) (ev_eq (ih o (by omega)) (by simp))
    · rw [goal false (by unfold leakG; rw [decide_eq_false h4]; rfl)]
      refine ev_neg (by omega) (ev_eq (ih o (by omega)) (by simp))
theorem leakSp_is' : (leakSp : Nat × Nat → S46) = spn := rfl
theorem sp_is' : (sp : Nat × Nat → S46) = spn := rfl
theorem leaks_both (s : ByteArray) (hs : s.size ≤ 20000) (ht : textOk s = true) (m : List (Nat × Nat)) (hm : m.length ≤ 1000) (hv : ∀ p ∈ m, p.1 < p.2 ∧ p.2 ≤ s.size) (hte : Ev (fun k => Z29.f k s (m.map spn)) 0) :
    ∃ K : List (Nat × Nat), Ev (fun k => Z1.f k s (m.map spn)) (fewL (K.map spn)) ∧ Ev (fun k => Z6.f k s (m.map spn)) (fewL (K.map spn)) ∧ K.length ≤ s.size := by
  obtain ⟨ps, p1, p2, p4, p3⟩ := pts_ev s (by omega) m (by omega) hv
  have hpl : ps.length = m.length := by
    have go : ∀ (m ps : List (Nat × Nat)), Pts s m ps → ps.length = m.length := by
      intro m
      induction m with
      | nil => intro ps h; cases ps with | nil => rfl | cons _ _ => exact h.elim
      | cons p m ih => intro ps h; cases ps with | nil => exact h.elim | cons q ps => rw [List.length_cons, List.length_cons, ih ps h.2]
    exact go m ps p4
  have hmul : m.length * 100001 ≤ 1000 * 100001 := Nat.mul_le_mul_right _ hm
  obtain ⟨c, S, g1, g2, g3, g4⟩ := gather_ev s (by omega) ps (List.replicate s.size false) [] p1 (List.length_replicate ..) (by simp only [List.length_nil]; rw [hpl]; omega)
  obtain ⟨S2, k1, k2⟩ := gatherOf_ev s hs ht m ps [] p4 hv p1 (by simp only [List.length_nil]; omega)
  obtain ⟨cs, c1, c2, c3⟩ := covered_of s (by omega) ht m (by omega) hv
  have ec : c = cs := by
    apply List.ext_getElem (by omega)
    intro i h1 h2
    have a := g3 i
    have hr : (List.replicate s.size false).getD i false = false := by
      rw [List.getD_eq_getElem?_getD, List.getElem?_replicate]
      split <;> rfl
    rw [hr, Bool.false_or, List.getD_eq_getElem?_getD, List.getElem?_eq_getElem h1] at a
    have b := c3 i (by omega)
    rw [List.getD_eq_getElem?_getD, List.getElem?_eq_getElem h2, ← p2 i] at b
    rw [Bool.eq_iff_iff]
    have a' : c[i] = cov ps i := a
    rw [a']
    exact b.symm
  have eS : ∀ x, decide (x ∈ S) = decide (x ∈ S2) := fun x => by
    have : x ∈ S ↔ x ∈ S2 := (g4 x).trans (k2 x).symm
    exact decide_eq_decide.2 this
  have eg : leakG s c S = leakG s cs S2 := by
    funext p
    unfold leakG
    rw [ec, eS]
  have hsc := scan_ev s c S g2 (by omega) (s.size + 1) 0 none [] (by omega) (fun f e => by cases e) (Nat.le_refl _)
  rw [List.nil_append] at hsc
  have hcount := spans_count s _ 0 (Nat.le_refl _)
  have hso := scanOf_ev s (by omega) cs c2 S2 (spans s 0) [] (fun p hp => by have := spans_ok s _ 0 (Nat.le_refl _) p hp; omega) (by simp only [List.length_nil]; omega)
  rw [List.nil_append, ← eg] at hso
  have hws := wordSpans_ev s (by omega)
  rw [sp_is'] at hws
  rw [leakSp_is'] at g1 hsc
  refine ⟨(spans s 0).filter (leakG s c S), ?_, ?_, Nat.le_trans (List.length_filter_le ..) (by omega)⟩
  · exact Ev.congr (fun _ => Z1.f.eq_1 ..) (ev_pos (by omega) (Ev.bind hte (ev_pos rfl (Ev.bind p3 (Ev.bind g1 (Ev.bind hsc (ev_val (few_is _))))))))
  · exact Ev.congr (fun _ => Z6.f.eq_1 ..) (ev_pos (by omega) (Ev.bind c1 (Ev.bind k1 (Ev.bind hws (Ev.bind hso (ev_val (bounded_is _)))))))
end Go.Proofs.YtolcpmdojlbhcaaDoor.Px
namespace Go.Proofs.YtolcpmdojlbhcaaDoor.Px
open Go.RowKit Go.Proofs.YtolcpmdojlbhcaaDoor.GBase Go.Proofs.YtolcpmdojlbhcaaDoorW.PrintWords Go.Proofs.YtolcpmdojlbhcaaDoorW.PrintLast
set_option linter.unusedVariables false
set_option linter.unusedSimpArgs false
theorem Below_is (x n : Int) (hn : n ≤ 4611686018427387904) (hx : -9223372036854775808 ≤ x) : ∃ r, Z40.f x n = some r ∧ 0 ≤ r ∧ (1 ≤ n → r < n) ∧ (n < 1 → r = 0) := by
  unfold Z40.f
  by_cases h : n < 1
  · rw [if_pos h]; exact ⟨0, rfl, by omega, by omega, fun _ => rfl⟩
  · rw [if_neg h, if_neg (by omega)]
    have h1 := Int.tmod_lt_of_pos x (b := n) (by omega)
    have h2 : -n < Int.tmod x n := by
      have := Int.tmod_lt_of_pos (-x) (b := n) (by omega)
      rw [Int.neg_tmod] at this
      omega
    by_cases h3 : Int.tmod x n < 0
    · rw [if_pos h3]; exact ⟨_, rfl, by rw [wr64 (by omega) (by omega)]; omega, by rw [wr64 (by omega) (by omega)]; omega, by omega⟩
    · rw [if_neg h3]; exact ⟨_, rfl, by omega, fun _ => h1, by omega⟩
theorem wrap_ge (x : Int) : -9223372036854775808 ≤ wrap64 x := by unfold wrap64; omega
def Nums (l : List Int) : Prop := l.length * 8 ≤ 140737488351232 ∧ ∀ x ∈ l, (Lit.int .i64 x).wf = true
theorem Nums.ge {l : List Int} (h : Nums l) (i : Int) : -9223372036854775808 ≤ rd l i := by
  unfold rd
  by_cases hi : i.toNat < l.length
  · have h1 := h.2 _ (List.getElem_mem hi)
    have h2 : IntKind.i64.min ≤ l[i.toNat] := by
      simp only [Lit.wf, Bool.and_eq_true, decide_eq_true_eq] at h1
      exact h1.1
    have h3 : IntKind.i64.min = -9223372036854775808 := by decide
    simp [List.getD, hi]
    omega
  · simp [List.getD, hi]
theorem Next_is (l : List Int) (at_ n : Int) (hl : Nums l) (h0 : 0 ≤ at_) (h1 : at_ < 1099511627776) (hn : n ≤ 4611686018427387904) :
    ∃ r, Z42.f l at_ n = some (r, at_ + 1) ∧ 0 ≤ r ∧ (1 ≤ n → r < n) ∧ (n < 1 → r = 0) := by
  have hw : wrap64 (at_ + 1) = at_ + 1 := wr64 (by omega) (by omega)
  have hw2 : wrap64 (at_ + 1 - 1) = at_ := by rw [wr64 (by omega) (by omega)]; omega
  unfold Z42.f
  rw [hw, hw2]
  by_cases hz : (l.length : Int) = 0
  · rw [if_pos hz]
    obtain ⟨r, hr, h⟩ := Below_is (wrap64 ((at_ + 1) * 7919)) n hn (wrap_ge _)
    rw [hr]
    exact ⟨r, rfl, h⟩
  · rw [if_neg hz]
    have h2 := Int.tmod_lt_of_pos at_ (b := (l.length : Int)) (by omega)
    have h3 := Int.tmod_nonneg (l.length : Int) h0
    rw [if_pos h3, if_pos h2]
    obtain ⟨r1, hr1, _⟩ := Below_is (rd l (Int.tmod at_ (l.length : Int))) 1073741824 (by omega) (hl.ge _)
    rw [hr1, Option.bind_some]
    obtain ⟨r, hr, h⟩ := Below_is (wrap64 (r1 + (wrap64 ((wrap64 (Int.tdiv at_ (l.length : Int))) * (wrap64 (7919 + (Int.tmod at_ (l.length : Int)))))))) n hn (wrap_ge _)
    rw [hr]
    exact ⟨r, rfl, h⟩
theorem one_is (l : List Int) (at_ : Int) (xs : List ByteArray) (hl : Nums l) (h0 : 0 ≤ at_) (h1 : at_ < 1099511627776) (hx : 0 < xs.length) (hm : xs.length < 1000) :
    ∃ x ∈ xs, Z44.f l at_ xs = some (x, at_ + 1) := by
  obtain ⟨r, hr, h2, h3, _⟩ := Next_is l at_ (xs.length : Int) hl h0 h1 (by omega)
  have h4 := h3 (by omega)
  unfold Z44.f
  rw [hr, Option.bind_some, if_pos h2, if_pos h4]
  have hi : r.toNat < xs.length := by omega
  refine ⟨xs[r.toNat], List.getElem_mem hi, ?_⟩
  simp [rdOf, List.getD, hi]
theorem Pick_is (l : List Int) (at_ : Int) (xs : List Int) (hl : Nums l) (h0 : 0 ≤ at_) (h1 : at_ < 1099511627776) (hx : 0 < xs.length) (hm : xs.length < 1000) :
    ∃ x ∈ xs, Z36.f l at_ xs = some (x, at_ + 1) := by
  obtain ⟨r, hr, h2, h3, _⟩ := Next_is l at_ (xs.length : Int) hl h0 h1 (by omega)
  have h4 := h3 (by omega)
  unfold Z36.f
  rw [hr, Option.bind_some, if_pos h2, if_pos h4]
  have hi : r.toNat < xs.length := by omega
  refine ⟨xs[r.toNat], List.getElem_mem hi, ?_⟩
  simp [rd, List.getD, hi]
theorem Flip_is (l : List Int) (at_ n : Int) (hl : Nums l) (h0 : 0 ≤ at_) (h1 : at_ < 1099511627776) (hn : n ≤ 4611686018427387904) :
    ∃ b, Z45.f l at_ n = some (b, at_ + 1) := by
  obtain ⟨r, hr, _⟩ := Next_is l at_ n hl h0 h1 hn
  unfold Z45.f
  rw [hr]
  exact ⟨_, rfl⟩
end Go.Proofs.YtolcpmdojlbhcaaDoor.Px
namespace Go.Proofs.YtolcpmdojlbhcaaDoor.Px
open Go.RowKit Go.Proofs.YtolcpmdojlbhcaaDoor.GBase Go.Proofs.YtolcpmdojlbhcaaDoorW.PrintWords Go.Proofs.YtolcpmdojlbhcaaDoorW.PrintLast
set_option linter.unusedVariables false
set_option linter.unusedSimpArgs false
theorem SpanList_loop (l : List Int) (hl : Nums l) (size n : Int) (d : Nat) (hd5 : d ≤ 100) : ∀ (i at_ x6 : Int) (x5 : List S46), 0 ≤ i → n - i ≤ d → i + d ≤ 1000 → x5.length + d ≤ 1000 → 0 ≤ at_ → at_ < 1099511627776 - 2 * (d + 1) →
    ∃ (r : List S46) (a' : Int), Ev (fun k => Z27.l0 k size x5 x6 n i l at_) (r, a') ∧ r.length ≤ x5.length + d ∧ at_ ≤ a' ∧ a' ≤ at_ + 2 * d := by
  induction d with
  | zero =>
    intro i at_ x6 x5 h0 hn hi h5 ha hb
    exact ⟨x5, at_, Ev.step (fun _ => Z27.l0.eq_2 ..) (ev_neg (by omega) (ev_val rfl)), by omega, by omega, by omega⟩
  | succ d ih =>
    intro i at_ x6 x5 h0 hn hi h5 ha hb
    by_cases hlt : i < n
    · obtain ⟨p, _, hp⟩ := Pick_is l at_ [0, 1, 2, 5] hl ha (by omega) (by decide) (by decide)
      obtain ⟨q, _, hq⟩ := Pick_is l (at_ + 1) [1, 1, 2, 4, 9] hl (by omega) (by omega) (by decide) (by decide)
      by_cases hbig : (wrap64 ((wrap64 (x6 + p)) + q)) > size
      · exact ⟨x5, at_ + 1 + 1, Ev.step (fun _ => Z27.l0.eq_2 ..) (ev_pos hlt (ev_bindc hp (ev_bindc hq (ev_pos hbig (ev_val rfl))))), by omega, by omega, by omega⟩
      · have hw : wrap64 (i + 1) = i + 1 := wr64 (by omega) (by omega)
        obtain ⟨r, a', hr, h1, h2, h3⟩ := ih (by omega) (i + 1) (at_ + 1 + 1) (wrap64 ((wrap64 ((wrap64 (x6 + p)) + q)) + 1)) (x5 ++ [⟨wrap64 (x6 + p), wrap64 ((wrap64 (x6 + p)) + q)⟩]) (by omega) (by omega) (by omega) (by simp only [List.length_append, List.length_singleton]; omega) (by omega) (by omega)
        refine ⟨r, a', Ev.step (fun _ => Z27.l0.eq_2 ..) (ev_pos hlt (ev_bindc hp (ev_bindc hq (ev_neg hbig (ev_pos (by omega) ?_))))), by simp only [List.length_append, List.length_singleton] at h1; omega, by omega, by omega⟩
        rw [hw]
        exact hr
    · exact ⟨x5, at_, Ev.step (fun _ => Z27.l0.eq_2 ..) (ev_neg hlt (ev_val rfl)), by omega, by omega, by omega⟩
theorem SpanList_ev (l : List Int) (hl : Nums l) (at_ size : Int) (h0 : 0 ≤ at_) (h1 : at_ < 1099511627000) :
    ∃ (r : List S46) (a' : Int), Ev (fun k => Z27.f k l at_ size) (r, a') ∧ r.length ≤ 5 ∧ at_ ≤ a' ∧ a' ≤ at_ + 11 := by
  obtain ⟨n, hn, n0, n1, _⟩ := Next_is l at_ 5 hl h0 (by omega) (by omega)
  have n2 := n1 (by omega)
  obtain ⟨r, a', hr, g1, g2, g3⟩ := SpanList_loop l hl size n 5 (by omega) 0 (at_ + 1) 0 [] (by omega) (by omega) (by omega) (by simp) (by omega) (by omega)
  refine ⟨r, a', ?_, by simpa using g1, by omega, by omega⟩
  unfold Z27.f
  exact ev_bindc hn hr
theorem AnySpans_ev (l : List Int) (hl : Nums l) (at_ size : Int) (h0 : 0 ≤ at_) (h1 : at_ < 1099511627000) :
    ∃ (r : List S46) (a' : Int), Ev (fun k => Z43.f k l at_ size) (r, a') ∧ r.length ≤ 6 ∧ at_ ≤ a' ∧ a' ≤ at_ + 14 := by
  obtain ⟨r, a1, hr, g1, g2, g3⟩ := SpanList_ev l hl at_ size h0 h1
  obtain ⟨b, hb⟩ := Flip_is l a1 10 hl (by omega) (by omega) (by omega)
  unfold Z43.f
  by_cases hbt : b = true
  · obtain ⟨p, _, hp⟩ := Pick_is l (a1 + 1) [(-1), 0, size, wrap64 (size - 1)] hl (by omega) (by omega) (by simp) (by simp)
    obtain ⟨q, _, hq⟩ := Pick_is l (a1 + 1 + 1) [0, size, wrap64 (size + 1)] hl (by omega) (by omega) (by simp) (by simp)
    exact ⟨r ++ [⟨p, q⟩], a1 + 1 + 1 + 1, Ev.bind hr (ev_bindc hb (ev_pos hbt (ev_bindc hp (ev_bindc hq (ev_pos (by simp only; omega) (ev_val rfl)))))), by simp; omega, by omega, by omega⟩
  · exact ⟨r, a1 + 1, Ev.bind hr (ev_bindc hb (ev_neg hbt (ev_val rfl))), by omega, by omega, by omega⟩
end Go.Proofs.YtolcpmdojlbhcaaDoor.Px
namespace Go.Proofs.YtolcpmdojlbhcaaDoor.Px
open Go.RowKit Go.Proofs.YtolcpmdojlbhcaaDoor.GBase Go.Proofs.YtolcpmdojlbhcaaDoorW.PrintWords Go.Proofs.YtolcpmdojlbhcaaDoorW.PrintLast
set_option linter.unusedVariables false
set_option linter.unusedSimpArgs false
theorem Memo_end (l : List Int) (hl : Nums l) (at_ : Int) (t : ByteArray) (h0 : 0 ≤ at_) (h1 : at_ < 1099511627000) (ht : t.size ≤ 950) :
    ∃ (r : ByteArray) (a' : Int), Ev (fun k => Z12.j2 k t l at_) (r, a') ∧ (r.size ≤ 1000 ∨ (20000 < r.size ∧ r.size ≤ 30000)) ∧ at_ ≤ a' ∧ a' ≤ at_ + 2 := by
  obtain ⟨b, hb⟩ := Flip_is l at_ 20 hl h0 (by omega) (by omega)
  by_cases hbt : b = true
  · have hrep : Z49.f (⟨#[109]⟩ : ByteArray) 20000 = some (⟨(Lib.repeatL [109] 20000).toArray⟩ : ByteArray) := by
      unfold Z49.f
      rw [if_pos ⟨by decide, by decide, by decide, by decide⟩]
      rfl
    have hsz : (⟨(Lib.repeatL [109] 20000).toArray⟩ : ByteArray).size = 20000 := by
      show (Lib.repeatL [109] 20000).toArray.size = 20000
      rw [List.size_toArray, Lib.repeatL_length]
      rfl
    generalize (⟨(Lib.repeatL [109] 20000).toArray⟩ : ByteArray) = q at *
    obtain ⟨x, hx, he⟩ := one_is l (at_ + 1) [(⟨#[97, 9, 98, 10]⟩ : ByteArray), (⟨#[255, 10]⟩ : ByteArray), q ++ (⟨#[10]⟩ : ByteArray)] hl (by omega) (by omega) (by simp) (by simp)
    refine ⟨x, at_ + 1 + 1, Ev.step (fun _ => Z12.j2.eq_2 ..) (ev_bindc hb (ev_pos hbt (ev_bindc hrep (ev_pos (by omega) (ev_bindc he (ev_val rfl)))))), ?_, by omega, by omega⟩
    have e1 : (⟨#[97, 9, 98, 10]⟩ : ByteArray).size = 4 := rfl
    have e2 : (⟨#[255, 10]⟩ : ByteArray).size = 2 := rfl
    have e3 : (⟨#[10]⟩ : ByteArray).size = 1 := rfl
    rcases List.mem_cons.1 hx with rfl | hx
    · omega
    · rcases List.mem_cons.1 hx with rfl | hx
      · omega
      · rcases List.mem_cons.1 hx with rfl | hx
        · rw [ByteArray.size_append]; omega
        · cases hx
  · exact ⟨t, at_ + 1, Ev.step (fun _ => Z12.j2.eq_2 ..) (ev_bindc hb (ev_neg hbt (ev_val rfl))), by omega, by omega, by omega⟩
theorem Memo_mid (l : List Int) (hl : Nums l) (at_ : Int) (t : ByteArray) (b : Bool) (h0 : 0 ≤ at_) (h1 : at_ < 1099511627000) (ht : t.size ≤ 900) :
    ∃ (r : ByteArray) (a' : Int), Ev (fun k => Z12.j1 k t b l at_) (r, a') ∧ (r.size ≤ 1000 ∨ (20000 < r.size ∧ r.size ≤ 30000)) ∧ at_ ≤ a' ∧ a' ≤ at_ + 2 := by
  cases b with
  | true =>
    have e3 : (⟨#[10]⟩ : ByteArray).size = 1 := rfl
    obtain ⟨r, a', hr, h⟩ := Memo_end l hl at_ (t ++ (⟨#[10]⟩ : ByteArray)) h0 h1 (by rw [ByteArray.size_append]; omega)
    exact ⟨r, a', Ev.step (fun _ => Z12.j1.eq_2 ..) (ev_pos rfl (ev_pos (by omega) hr)), h⟩
  | false =>
    obtain ⟨r, a', hr, h⟩ := Memo_end l hl at_ t h0 h1 (by omega)
    exact ⟨r, a', Ev.step (fun _ => Z12.j1.eq_2 ..) (ev_neg (by simp) hr), h⟩
theorem Memo_loop (l : List Int) (hl : Nums l) (n : Int) (d : Nat) (hd100 : d ≤ 20) : ∀ (i at_ : Int) (t : ByteArray), 0 ≤ i → i ≤ 1000 - d → n - i ≤ d → 0 ≤ at_ → at_ < 1099511626000 - 2 * (d + 1) → t.size ≤ 900 - 20 * d →
    ∃ (r : ByteArray) (a' : Int), Ev (fun k => Z12.l0 k t n i l at_) (r, a') ∧ (r.size ≤ 1000 ∨ (20000 < r.size ∧ r.size ≤ 30000)) ∧ at_ ≤ a' ∧ a' ≤ at_ + 2 * d + 3 := by
  have fin : ∀ (i at_ : Int) (t : ByteArray), ¬ i < n → 0 ≤ at_ → at_ < 1099511626000 → t.size ≤ 900 → ∃ (r : ByteArray) (a' : Int), Ev (fun k => Z12.l0 k t n i l at_) (r, a') ∧ (r.size ≤ 1000 ∨ (20000 < r.size ∧ r.size ≤ 30000)) ∧ at_ ≤ a' ∧ a' ≤ at_ + 3 := by
    intro i at_ t hn ha hb ht
    by_cases he : t.toList = []
    · obtain ⟨r, a', hr, h2, h3, h4⟩ := Memo_mid l hl at_ t false ha (by omega) ht
      exact ⟨r, a', Ev.step (fun _ => Z12.l0.eq_2 ..) (ev_neg hn (ev_pos he hr)), h2, h3, by omega⟩
    · obtain ⟨b, hb2⟩ := Flip_is l at_ 12 hl ha (by omega) (by omega)
      obtain ⟨r, a', hr, h2, h3, h4⟩ := Memo_mid l hl (at_ + 1) t (!b) (by omega) (by omega) ht
      exact ⟨r, a', Ev.step (fun _ => Z12.l0.eq_2 ..) (ev_neg hn (ev_neg he (ev_bindc hb2 hr))), h2, by omega, by omega⟩
  induction d with
  | zero =>
    intro i at_ t h0 hi hn ha hb ht
    obtain ⟨r, a', hr, h2, h3, h4⟩ := fin i at_ t (by omega) ha (by omega) (by omega)
    exact ⟨r, a', hr, h2, h3, by omega⟩
  | succ d ih =>
    intro i at_ t h0 hi hn ha hb ht
    by_cases hlt : i < n
    · obtain ⟨x, hx, e1⟩ := one_is l at_ [(⟨#[109, 101, 109, 111]⟩ : ByteArray), (⟨#[77, 101, 109, 111]⟩ : ByteArray), (⟨#[109, 101, 109, 111, 115]⟩ : ByteArray), (⟨#[115, 101, 101, 32, 116, 104, 101]⟩ : ByteArray), (⟨#[195, 169, 116, 195, 169]⟩ : ByteArray), (⟨#[115, 101, 99, 114, 101, 116]⟩ : ByteArray), (⟨#[83, 69, 67, 82, 69, 84, 32, 112, 108, 97, 110]⟩ : ByteArray), (⟨#[97]⟩ : ByteArray), (⟨#[120, 45, 121]⟩ : ByteArray), (⟨#[51, 114, 100]⟩ : ByteArray)] hl ha (by omega) (by simp) (by simp)
      obtain ⟨y, hy, e2⟩ := one_is l (at_ + 1) [(⟨#[32]⟩ : ByteArray), (⟨#[32]⟩ : ByteArray), (⟨#[10]⟩ : ByteArray), (⟨#[44, 32]⟩ : ByteArray), (⟨#[]⟩ : ByteArray)] hl (by omega) (by omega) (by simp) (by simp)
      have sx : x.size ≤ 11 := by
        have h : ∀ z ∈ [(⟨#[109, 101, 109, 111]⟩ : ByteArray), (⟨#[77, 101, 109, 111]⟩ : ByteArray), (⟨#[109, 101, 109, 111, 115]⟩ : ByteArray), (⟨#[115, 101, 101, 32, 116, 104, 101]⟩ : ByteArray), (⟨#[195, 169, 116, 195, 169]⟩ : ByteArray), (⟨#[115, 101, 99, 114, 101, 116]⟩ : ByteArray), (⟨#[83, 69, 67, 82, 69, 84, 32, 112, 108, 97, 110]⟩ : ByteArray), (⟨#[97]⟩ : ByteArray), (⟨#[120, 45, 121]⟩ : ByteArray), (⟨#[51, 114, 100]⟩ : ByteArray)], z.size ≤ 11 := by decide
        exact h x hx
      have sy : y.size ≤ 2 := by
        have h : ∀ z ∈ [(⟨#[32]⟩ : ByteArray), (⟨#[32]⟩ : ByteArray), (⟨#[10]⟩ : ByteArray), (⟨#[44, 32]⟩ : ByteArray), (⟨#[]⟩ : ByteArray)], z.size ≤ 2 := by decide
        exact h y hy
      have hw : wrap64 (i + 1) = i + 1 := wr64 (by omega) (by omega)
      obtain ⟨r, a', hr, h2, h3, h4⟩ := ih (by omega) (i + 1) (at_ + 1 + 1) (t ++ (x ++ y)) (by omega) (by omega) (by omega) (by omega) (by omega) (by simp only [ByteArray.size_append]; omega)
      refine ⟨r, a', Ev.step (fun _ => Z12.l0.eq_2 ..) (ev_pos hlt (ev_bindc e1 (ev_bindc e2 (ev_pos (by simp only; omega) (ev_pos (by simp only [ByteArray.size_append]; omega) ?_))))), h2, by omega, by omega⟩
      rw [hw]
      exact hr
    · obtain ⟨r, a', hr, h2, h3, h4⟩ := fin i at_ t hlt ha (by omega) (by omega)
      exact ⟨r, a', hr, h2, h3, by omega⟩
theorem Memo_ev (l : List Int) (at_ : Int) (hl : Nums l) (h0 : 0 ≤ at_) (h1 : at_ < 1099511625000) :
    ∃ (r : ByteArray) (a' : Int), Ev (fun k => Z12.f k l at_) (r, a') ∧ (r.size ≤ 1000 ∨ (20000 < r.size ∧ r.size ≤ 30000)) ∧ at_ ≤ a' ∧ a' ≤ at_ + 30 := by
  obtain ⟨n, hn, n0, n1, _⟩ := Next_is l at_ 10 hl h0 (by omega) (by omega)
  have n2 := n1 (by omega)
  obtain ⟨r, a', hr, g1, g2, g3⟩ := Memo_loop l hl n 10 (by omega) 0 (at_ + 1) ⟨#[]⟩ (by omega) (by omega) (by omega) (by omega) (by omega) (by decide)
  refine ⟨r, a', ?_, g1, by omega, by omega⟩
  unfold Z12.f
  exact ev_bindc hn hr
end Go.Proofs.YtolcpmdojlbhcaaDoor.Px
namespace Go.Proofs.YtolcpmdojlbhcaaDoor.Px
open Go.RowKit Go.Proofs.YtolcpmdojlbhcaaDoor.GBase Go.Proofs.YtolcpmdojlbhcaaDoorW.PrintWords Go.Proofs.YtolcpmdojlbhcaaDoorW.PrintLast
theorem privileges_ev : Ev (fun k => Z22.f k) true := Ev.of (fun k => Z22.mono k) (k := 12) (by decide +kernel)
end Go.Proofs.YtolcpmdojlbhcaaDoor.Px
namespace Go.Proofs.YtolcpmdojlbhcaaDoor.Px
open Go.RowKit Go.Proofs.YtolcpmdojlbhcaaDoor.GBase Go.Proofs.YtolcpmdojlbhcaaDoorW.PrintWords Go.Proofs.YtolcpmdojlbhcaaDoorW.PrintLast
set_option linter.unusedVariables false
set_option linter.unusedSimpArgs false
theorem hide1_is (cs : List Bool) (m : Nat) : ∀ (j : Nat) (bs : List UInt8), j + m ≤ bs.length → (Z21.hide1 cs m j bs).length = bs.length ∧ ∀ i, (Z21.hide1 cs m j bs).getD i 0 = if (j ≤ i ∧ i < j + m) ∧ cs.getD i false = true then hideB (bs.getD i 0) else bs.getD i 0 := by
  induction m with
  | zero =>
    intro j bs h
    exact ⟨rfl, fun i => by rw [if_neg (by omega)]; rfl⟩
  | succ m ih =>
    intro j bs h
    rw [Z21.hide1.eq_2]
    cases hc : cs.getD j false with
    | false =>
      rw [if_neg (by decide)]
      obtain ⟨h1, h2⟩ := ih (j + 1) bs (by omega)
      refine ⟨h1, fun i => ?_⟩
      rw [h2 i]
      by_cases e : i = j
      · subst e
        rw [if_neg (by omega), if_neg (fun q => by rw [hc] at q; exact absurd q.2 (by decide))]
      · by_cases q : (j + 1 ≤ i ∧ i < j + 1 + m) ∧ cs.getD i false = true
        · rw [if_pos q, if_pos ⟨by omega, q.2⟩]
        · rw [if_neg q, if_neg (fun r => q ⟨by omega, r.2⟩)]
    | true =>
      rw [if_pos rfl]
      obtain ⟨h1, h2⟩ := ih (j + 1) (bs.set j (hideB (bs.getD j 0))) (by rw [List.length_set]; omega)
      refine ⟨by rw [h1, List.length_set], fun i => ?_⟩
      rw [h2 i]
      by_cases e : i = j
      · subst e
        rw [if_neg (by omega), if_pos ⟨by omega, hc⟩]
        simp [List.getD, List.getElem?_set, show i < bs.length by omega]
      · have e2 : (bs.set j (hideB (bs.getD j 0))).getD i 0 = bs.getD i 0 := by simp [List.getD, List.getElem?_set, Ne.symm e]
        rw [e2]
        by_cases q : (j + 1 ≤ i ∧ i < j + 1 + m) ∧ cs.getD i false = true
        · rw [if_pos q, if_pos ⟨by omega, q.2⟩]
        · rw [if_neg q, if_neg (fun r => q ⟨by omega, r.2⟩)]
theorem RedactOf_ev (s : ByteArray) (hs : s.size ≤ 20000) (ht : textOk s = true) (m : List (Nat × Nat)) (hm : m.length ≤ 1000) (hb : ∀ p ∈ m, p.1 < p.2 ∧ p.2 ≤ s.size) {x : ByteArray} (hx : Hides s m x) :
    Ev (fun k => Z21.f k s (m.map spn)) x := by
  obtain ⟨cs, c1, c2, c3⟩ := covered_of s (by omega) ht m (by omega) hb
  obtain ⟨h1, h2⟩ := hide1_is cs cs.length 0 s.data.toList (by rw [ls_size]; omega)
  have e : (⟨(Z21.hide1 cs cs.length 0 s.data.toList).toArray⟩ : ByteArray) = x := by
    apply ba_list'
    show Z21.hide1 cs cs.length 0 s.data.toList = x.data.toList
    refine list_ext (by rw [h1, hx.1]) (fun i hi => ?_)
    have hi2 : i < s.size := by rw [hx.1, ls_size] at hi; exact hi
    rw [h2 i]
    by_cases q : Hid s m i
    · rw [if_pos ⟨by omega, (c3 i hi2).2 q⟩, hx.2.1 i q]
    · rw [if_neg (fun r => q ((c3 i hi2).1 r.2)), hx.2.2 i q]
  rw [← e]
  exact Ev.congr (fun _ => Z21.f.eq_1 ..) (ev_pos (by omega) (Ev.bind c1 (ev_pos (by omega) (ev_val rfl))))
end Go.Proofs.YtolcpmdojlbhcaaDoor.Px
namespace Go.Proofs.YtolcpmdojlbhcaaDoor.Px
open Go.RowKit Go.Proofs.YtolcpmdojlbhcaaDoor.GBase Go.Proofs.YtolcpmdojlbhcaaDoorW.PrintWords Go.Proofs.YtolcpmdojlbhcaaDoorW.PrintLast
set_option linter.unusedVariables false
set_option linter.unusedSimpArgs false
def gapsN (n : Nat) : Nat → List (Nat × Nat) → List (Nat × Nat)
  | a, [] => if a < n then [(a, n)] else []
  | a, p :: r => (if a < p.1 then [(a, p.1)] else []) ++ gapsN n p.2 r
theorem gaps_law (n : Nat) : ∀ (r : List (Nat × Nat)) (a : Nat), a ≤ n → Norm r → (∀ p ∈ r, a ≤ p.1 ∧ p.2 ≤ n) → Norm (gapsN n a r) ∧ (∀ g ∈ gapsN n a r, a ≤ g.1) ∧ ∀ i, cov (gapsN n a r) i = true ↔ a ≤ i ∧ i < n ∧ cov r i = false
  | [], a, ha, _, _ => by
    unfold gapsN
    by_cases h : a < n
    · rw [if_pos h]
      refine ⟨⟨fun p hp => by rw [List.mem_singleton.1 hp]; exact h, by simp⟩, fun g hg => by rw [List.mem_singleton.1 hg]; exact Nat.le_refl _, fun i => ?_⟩
      rw [cov_cons, cov_nil, Bool.or_false, Bool.and_eq_true, decide_eq_true_eq, decide_eq_true_eq]
      exact ⟨fun q => ⟨q.1, q.2, rfl⟩, fun q => ⟨q.1, q.2.1⟩⟩
    · rw [if_neg h]
      refine ⟨⟨by simp, by simp⟩, by simp, fun i => ?_⟩
      rw [cov_nil]
      exact ⟨fun q => absurd q (by decide), fun q => by omega⟩
  | p :: r, a, ha, hN, hb => by
    have p0 := hN.1 p List.mem_cons_self
    have p1 := hb p List.mem_cons_self
    have hN2 : Norm r := ⟨fun q hq => hN.1 q (List.mem_cons_of_mem _ hq), (List.pairwise_cons.1 hN.2).2⟩
    have hsep := (List.pairwise_cons.1 hN.2).1
    obtain ⟨i1, i2, i3⟩ := gaps_law n r p.2 p1.2 hN2 (fun q hq => ⟨by have := hsep q hq; omega, (hb q (List.mem_cons_of_mem _ hq)).2⟩)
    have hcr : ∀ i, i < p.2 → cov r i = false := fun i hi => by
      cases hc : cov r i with
      | false => rfl
      | true =>
        obtain ⟨q, q1, q2, q3⟩ := cov_iff.1 hc
        have := hsep q q1
        omega
    rw [gapsN]
    refine ⟨?_, ?_, fun i => ?_⟩
    · by_cases h : a < p.1
      · rw [if_pos h]
        refine ⟨fun q hq => ?_, List.pairwise_cons.2 ⟨fun q hq => ?_, i1.2⟩⟩
        · rcases List.mem_cons.1 hq with rfl | hq
          · exact h
          · exact i1.1 q hq
        · have := i2 q hq
          show p.1 < q.1
          omega
      · rw [if_neg h]
        exact i1
    · intro g hg
      rcases List.mem_append.1 hg with hg | hg
      · by_cases h : a < p.1
        · rw [if_pos h] at hg
          rw [List.mem_singleton.1 hg]
          exact Nat.le_refl _
        · rw [if_neg h] at hg
          cases hg
      · have := i2 g hg
        omega
    · rw [cov_append, Bool.or_eq_true, i3 i, cov_cons, Bool.or_eq_false_iff]
      have hin : (decide (p.1 ≤ i) && decide (i < p.2)) = false ↔ ¬ (p.1 ≤ i ∧ i < p.2) := by
        rw [← Bool.not_eq_true, Bool.and_eq_true, decide_eq_true_eq, decide_eq_true_eq]
      rw [hin]
      by_cases h : a < p.1
      · rw [if_pos h, cov_cons, cov_nil, Bool.or_false, Bool.and_eq_true, decide_eq_true_eq, decide_eq_true_eq]
        constructor
        · rintro (⟨q1, q2⟩ | ⟨q1, q2, q3⟩)
          · exact ⟨q1, by simp only [] at q2; omega, by simp only [] at q2; omega, hcr i (by simp only [] at q2; omega)⟩
          · exact ⟨by omega, q2, by omega, q3⟩
        · rintro ⟨q1, q2, q3, q4⟩
          rcases Nat.lt_or_ge i p.1 with c | c
          · exact .inl ⟨q1, c⟩
          · exact .inr ⟨by omega, q2, q4⟩
      · rw [if_neg h, cov_nil]
        constructor
        · rintro (q | ⟨q1, q2, q3⟩)
          · exact absurd q (by decide)
          · exact ⟨by omega, q2, by omega, q3⟩
        · rintro ⟨q1, q2, q3, q4⟩
          exact .inr ⟨by omega, q2, q4⟩
def wsOf (s : ByteArray) (g : Nat × Nat) : List ByteArray := wordsOf (s.extract g.1 g.2)
theorem words_none (s : ByteArray) (a b : Nat) (h : b ≤ a) : wordsOf (s.extract a b) = [] := by
  unfold wordsOf
  rw [spans_end (by rw [ByteArray.size_extract]; omega)]
  rfl
theorem ws_count (s : ByteArray) (a b : Nat) : (wordsOf (s.extract a b)).length ≤ s.size := by
  have h1 := wordsOf_count (s.extract a b)
  have h2 := ex_size s a b
  omega
theorem seen_loop (s : ByteArray) (hs : s.size ≤ 20000) (r : List (Nat × Nat)) (hr : r.length ≤ 20000) (hN : Norm r) (hb : ∀ p ∈ r, p.2 ≤ s.size) (d : Nat) : ∀ (j a : Nat) (acc : List ByteArray), r.length - j ≤ d → j ≤ r.length → a ≤ s.size → (∀ p ∈ r.drop j, a ≤ p.1) → acc.length ≤ j * 20000 →
    Ev (fun k => Z24.l0 k s acc (a : Int) (r.map spn) (r.length : Int) (j : Int)) (acc ++ (gapsN s.size a (r.drop j)).flatMap (wsOf s), 0) := by
  have stop : ∀ (a : Nat) (acc : List ByteArray), a ≤ s.size → acc.length ≤ r.length * 20000 → Ev (fun k => Z24.l0 k s acc (a : Int) (r.map spn) (r.length : Int) (r.length : Int)) (acc ++ (gapsN s.size a []).flatMap (wsOf s), 0) := by
    intro a acc ha hacc
    have hc := ws_count s a s.size
    refine Ev.step (fun _ => Z24.l0.eq_2 ..) (ev_neg (by omega) (ev_pos (by omega) (ev_pos (by omega) ?_)))
    rw [Int.toNat_natCast]
    refine Ev.bind (near_Words_ev _ (by have := ex_size s a s.size; omega)) (ev_pos (by omega) (ev_val ?_))
    unfold gapsN
    by_cases h : a < s.size
    · rw [if_pos h]
      simp [wsOf]
    · rw [if_neg h, words_none s a s.size (by omega)]
      simp
  induction d with
  | zero =>
    intro j a acc h1 h2 h3 h4 h5
    obtain rfl : j = r.length := by omega
    rw [List.drop_length]
    exact stop a acc h3 h5
  | succ d ih =>
    intro j a acc h1 h2 h3 h4 h5
    by_cases hlt : j < r.length
    · have hmem := List.getElem_mem hlt
      have er := rdT_spn r j hlt
      have hsep : ∀ p ∈ r.drop (j + 1), r[j].2 < p.1 := fun p hp => by
        have := List.pairwise_iff_getElem.1 hN.2
        obtain ⟨i, hi, e⟩ := List.getElem_of_mem hp
        rw [List.getElem_drop] at e
        rw [List.length_drop] at hi
        have := this j (j + 1 + i) hlt (by omega) (by omega)
        rw [e] at this
        exact this
      rw [List.drop_eq_getElem_cons hlt] at h4 ⊢
      have p0 := hN.1 _ hmem
      have p1 := hb _ hmem
      have p2 := h4 _ List.mem_cons_self
      generalize r[j] = p at *
      have hw := Aside0.mk (show wrap64 ((j : Int) + 1) = ((j + 1 : Nat) : Int) by rw [wr64 (by omega) (by omega)]; omega)
      have hc := ws_count s a p.1
      have e0 : (spn p).f0 = (p.1 : Int) := rfl
      have e1 : (spn p).f1 = (p.2 : Int) := rfl
      refine Ev.step (fun _ => Z24.l0.eq_2 ..) (ev_pos (by omega) (ev_pos (by omega) (ev_pos (by rw [List.length_map]; omega) (ev_pos (by omega) ?_))))
      simp only [er, e0, e1, Int.toNat_natCast]
      refine ev_pos (by omega) (ev_pos (by omega) (Ev.bind (near_Words_ev _ (by have := ex_size s a p.1; omega)) (ev_pos (by omega) ?_)))
      rw [hw.out]
      refine ev_eq (ih (j + 1) p.2 _ (by omega) (by omega) p1 (fun q hq => by have := hsep q hq; omega) (by rw [List.length_append]; omega)) ?_
      rw [gapsN]
      by_cases h : a < p.1
      · rw [if_pos h]
        simp [wsOf]
      · rw [if_neg h, words_none s a p.1 (by omega)]
        simp
    · obtain rfl : j = r.length := by omega
      rw [List.drop_length]
      exact stop a acc h3 h5
theorem flip_loop (s : ByteArray) (n : Nat) (hn : n ≤ 100000) (d : Nat) : ∀ (j : Nat) (b : List Bool), n - j ≤ d → j ≤ n → b.length = n →
    ∃ c : List Bool, c.length = n ∧ (∀ i, c.getD i false = if j ≤ i ∧ i < n then !(b.getD i false) else b.getD i false) ∧ ∀ R, Ev (fun k => (Z10.f k c).bind fun t => Z15.l1 k s ([] : List ByteArray) t (t.length : Int) 0) R → Ev (fun k => Z15.l0 k s b (n : Int) (j : Int)) R := by
  have stop : ∀ (b : List Bool), b.length = n → ∃ c : List Bool, c.length = n ∧ (∀ i, c.getD i false = if n ≤ i ∧ i < n then !(b.getD i false) else b.getD i false) ∧ ∀ R, Ev (fun k => (Z10.f k c).bind fun t => Z15.l1 k s ([] : List ByteArray) t (t.length : Int) 0) R → Ev (fun k => Z15.l0 k s b (n : Int) (n : Int)) R := fun b hb =>
    ⟨b, hb, fun i => by rw [if_neg (by omega)], fun R h => Ev.step (fun _ => Z15.l0.eq_2 ..) (ev_neg (by omega) h)⟩
  induction d with
  | zero =>
    intro j b h1 h2 h3
    obtain rfl : j = n := by omega
    exact stop b h3
  | succ d ih =>
    intro j b h1 h2 h3
    by_cases hlt : j < n
    · have hw := Aside0.mk (show wrap64 ((j : Int) + 1) = ((j + 1 : Nat) : Int) by rw [wr64 (by omega) (by omega)]; omega)
      have er : rdOf false b (j : Int) = b.getD j false := by simp [rdOf]
      obtain ⟨c, c1, c2, c3⟩ := ih (j + 1) (b.set j (!(b.getD j false))) (by omega) (by omega) (by rw [List.length_set]; exact h3)
      refine ⟨c, c1, fun i => ?_, fun R h => ?_⟩
      · rw [c2 i]
        by_cases e : i = j
        · subst e
          rw [if_neg (by omega), if_pos ⟨Nat.le_refl _, hlt⟩, List.getD_eq_getElem?_getD, List.getElem?_set_self (by omega)]
          rfl
        · have e2 : (b.set j (!(b.getD j false))).getD i false = b.getD i false := by rw [List.getD_eq_getElem?_getD, List.getElem?_set_ne (Ne.symm e), ← List.getD_eq_getElem?_getD]
          rw [e2]
          by_cases q : j + 1 ≤ i ∧ i < n
          · rw [if_pos q, if_pos (by omega)]
          · rw [if_neg q, if_neg (by omega)]
      · refine Ev.step (fun _ => Z15.l0.eq_2 ..) (ev_pos (by omega) (ev_pos (by omega) (ev_pos (by omega) ?_)))
        rw [hw.out, er, Int.toNat_natCast]
        exact c3 R h
    · obtain rfl : j = n := by omega
      exact stop b h3
theorem words_loop (s : ByteArray) (hs : s.size ≤ 20000) (q : List (Nat × Nat)) (hq : q.length ≤ 20000) (hb : ∀ p ∈ q, p.1 < p.2 ∧ p.2 ≤ s.size) (d : Nat) : ∀ (j : Nat) (acc : List ByteArray), q.length - j ≤ d → j ≤ q.length → acc.length ≤ j * 20000 →
    Ev (fun k => Z15.l1 k s acc (q.map spn) (q.length : Int) (j : Int)) (acc ++ (q.drop j).flatMap (wsOf s)) := by
  induction d with
  | zero =>
    intro j acc h1 h2 h3
    obtain rfl : j = q.length := by omega
    rw [List.drop_length]
    exact Ev.step (fun _ => Z15.l1.eq_2 ..) (ev_neg (by omega) (ev_val (by simp)))
  | succ d ih =>
    intro j acc h1 h2 h3
    by_cases hlt : j < q.length
    · obtain ⟨p1, p2⟩ := hb q[j] (List.getElem_mem hlt)
      have er := rdT_spn q j hlt
      rw [List.drop_eq_getElem_cons hlt]
      generalize q[j] = p at *
      have hw := Aside0.mk (show wrap64 ((j : Int) + 1) = ((j + 1 : Nat) : Int) by rw [wr64 (by omega) (by omega)]; omega)
      have hc := ws_count s p.1 p.2
      have e0 : (spn p).f0 = (p.1 : Int) := rfl
      have e1 : (spn p).f1 = (p.2 : Int) := rfl
      refine Ev.step (fun _ => Z15.l1.eq_2 ..) (ev_pos (by omega) (ev_pos (by omega) (ev_pos (by rw [List.length_map]; omega) ?_)))
      simp only [er, e0, e1, Int.toNat_natCast]
      refine ev_pos (by omega) (ev_pos (by omega) (ev_pos (by omega) (Ev.bind (WordsOf_ev _ (by have := ex_size s p.1 p.2; omega)) (ev_pos (by omega) ?_))))
      rw [hw.out]
      refine ev_eq (ih (j + 1) _ (by omega) (by omega) (by rw [List.length_append]; omega)) ?_
      rw [List.flatMap_cons, List.append_assoc]
      rfl
    · obtain rfl : j = q.length := by omega
      rw [List.drop_length]
      exact Ev.step (fun _ => Z15.l1.eq_2 ..) (ev_neg (by omega) (ev_val (by simp)))
theorem seen_both (s : ByteArray) (hs : s.size ≤ 20000) (ht : textOk s = true) (m : List (Nat × Nat)) (hm : m.length ≤ 1000) (hv : ∀ p ∈ m, p.1 < p.2 ∧ p.2 ≤ s.size) (hte : Ev (fun k => Z29.f k s (m.map spn)) 0) :
    ∃ l : List ByteArray, Ev (fun k => Z24.f k s (m.map spn)) (l, 0) ∧ Ev (fun k => Z15.f k s (m.map spn)) l ∧ l.length ≤ s.size * s.size := by
  obtain ⟨ps, p1, p2, p4, p3⟩ := pts_ev s (by omega) m (by omega) hv
  have hpl : ps.length = m.length := by
    have go : ∀ (m ps : List (Nat × Nat)), Pts s m ps → ps.length = m.length := by
      intro m
      induction m with
      | nil => intro ps h; cases ps with | nil => rfl | cons _ _ => exact h.elim
      | cons p m ih => intro ps h; cases ps with | nil => exact h.elim | cons q ps => rw [List.length_cons, List.length_cons, ih ps h.2]
    exact go m ps p4
  obtain ⟨r, r1, r2, r3⟩ := put_ev ps (by omega) (fun p hp => (p1 p hp).1) (fun p hp => by have := (p1 p hp).2; omega)
  have hrc : ∀ i, cov r i = true ↔ Hid s m i := fun i => by rw [r3 i]; exact p2 i
  have hrs : ∀ p ∈ r, p.2 ≤ s.size := fun p hp => by
    have hlt := r2.1 p hp
    have h := cov_iff.2 ⟨p, hp, show p.1 ≤ p.2 - 1 by omega, by omega⟩
    rw [r3] at h
    obtain ⟨q, q1, q2, q3⟩ := cov_iff.1 h
    have := (p1 q q1).2
    omega
  have hrl : r.length ≤ s.size := by
    have := norm_len s.size r 0 r2 (fun p hp => ⟨Nat.zero_le _, hrs p hp⟩)
    omega
  obtain ⟨g1, g2, g3⟩ := gaps_law s.size r 0 (Nat.zero_le _) r2 (fun p hp => ⟨Nat.zero_le _, hrs p hp⟩)
  obtain ⟨cs, c1, c2, c3⟩ := covered_of s (by omega) ht m (by omega) hv
  obtain ⟨c, d1, d2, d3⟩ := flip_loop s s.size (by omega) _ 0 cs (Nat.le_refl _) (Nat.zero_le _) c2
  obtain ⟨q, q1, q2, q3⟩ := from_ev c (by omega)
  have e : gapsN s.size 0 r = q := g1.unique q2 (fun i => by
    rw [Bool.eq_iff_iff, g3 i, q3 i, d2 i]
    by_cases hi : i < s.size
    · rw [if_pos ⟨Nat.zero_le _, hi⟩]
      have a := (hrc i).trans (c3 i hi).symm
      cases h1 : cov r i <;> cases h2 : cs.getD i false
      · simp [hi]
      · rw [h1, h2] at a; simp at a
      · rw [h1, h2] at a; simp at a
      · simp
    · rw [if_neg (by omega), List.getD_eq_getElem?_getD, List.getElem?_eq_none (by omega)]
      simp
      omega)
  have hqb : ∀ p ∈ q, p.1 < p.2 ∧ p.2 ≤ s.size := fun p hp => by
    have hlt := q2.1 p hp
    refine ⟨hlt, ?_⟩
    have h := cov_iff.2 ⟨p, hp, show p.1 ≤ p.2 - 1 by omega, by omega⟩
    rw [← e] at h
    have := ((g3 _).1 h).2.1
    omega
  have hql : q.length ≤ s.size := by
    have := norm_len s.size q 0 q2 (fun p hp => ⟨Nat.zero_le _, (hqb p hp).2⟩)
    omega
  have hS := seen_loop s hs r (by omega) r2 hrs _ 0 0 [] (Nat.le_refl _) (Nat.zero_le _) (Nat.zero_le _) (fun p _ => Nat.zero_le _) (Nat.le_refl _)
  have hO := words_loop s hs q (by omega) hqb _ 0 [] (Nat.le_refl _) (Nat.zero_le _) (Nat.le_refl _)
  rw [List.drop_zero, List.nil_append] at hS hO
  rw [e] at hS
  refine ⟨q.flatMap (wsOf s), ?_, ?_, ?_⟩
  · refine Ev.congr (fun _ => Z24.f.eq_1 ..) (Ev.bind hte (ev_pos rfl (Ev.bind p3 (Ev.bind r1 ?_))))
    rw [List.length_map]
    exact hS
  · refine Ev.congr (fun _ => Z15.f.eq_1 ..) (Ev.bind c1 ?_)
    rw [c2]
    refine d3 _ (Ev.bind q1 ?_)
    rw [List.length_map]
    exact hO
  · have : ∀ l : List (Nat × Nat), (l.flatMap (wsOf s)).length ≤ l.length * s.size := by
      intro l
      induction l with
      | nil => simp
      | cons p l ih =>
        rw [List.flatMap_cons, List.length_append, List.length_cons, Nat.succ_mul]
        have h1 := ws_count s p.1 p.2
        have e2 : (wsOf s p).length = (wordsOf (s.extract p.1 p.2)).length := rfl
        omega
    exact Nat.le_trans (this q) (Nat.mul_le_mul_right _ hql)
end Go.Proofs.YtolcpmdojlbhcaaDoor.Px
namespace Go.Proofs.YtolcpmdojlbhcaaDoor.Px
open Go.RowKit Go.Proofs.YtolcpmdojlbhcaaDoor.GBase Go.Proofs.YtolcpmdojlbhcaaDoorW.PrintWords Go.Proofs.YtolcpmdojlbhcaaDoorW.PrintLast
set_option linter.unusedVariables false
set_option linter.unusedSimpArgs false
theorem pletter (c : Int) : Z25.f c = some (isW c) := by rw [Z1.isL_is, isL_isW]
def glue (s : ByteArray) (j : Nat) : Bool := (wAt s (j - 1) && wAt s j) || insd s j
theorem left_ev (s : ByteArray) (hs : s.size ≤ 1000000) (x7 x16 : List S46) (x17 x18 : Int) (t : Int) : ∀ (i : Nat), i < s.size →
    ∃ i', i' ≤ i ∧ (i' = 0 ∨ glue s i' = false) ∧ (∀ k, i' < k → k ≤ i → glue s k = true) ∧ ∀ R, Ev (fun k => Z5.j2 k s x7 x16 x17 x18 (i' : Int) t) R → Ev (fun k => Z5.l1 k s x7 x16 x17 x18 (i : Int) t) R
  | 0, _ => ⟨0, Nat.le_refl _, .inl rfl, fun k k1 k2 => by omega, fun R h => Ev.step (fun _ => Z5.l1.eq_2 ..) (ev_neg (by omega) h)⟩
  | i + 1, hi => by
    obtain ⟨i', h1, h2, hk, h3⟩ := left_ev s hs x7 x16 x17 x18 t i (by omega)
    have hw : wrap64 (((i + 1 : Nat) : Int) - 1) = (i : Int) := by rw [wr64 (by omega) (by omega)]; omega
    have ha : (isW (bt s (i : Int))) = wAt s i := rfl
    have hb : (isW (bt s ((i + 1 : Nat) : Int))) = wAt s (i + 1) := rfl
    by_cases hg : glue s (i + 1) = true
    · refine ⟨i', by omega, h2, fun k k1 k2 => ?_, fun R h => ?_⟩
      · by_cases e : k = i + 1
        · rw [e]; exact hg
        · exact hk k k1 (by omega)
      · have hh := h3 R h
        refine Ev.step (fun _ => Z5.l1.eq_2 ..) (ev_pos (by omega) ?_)
        simp only [hw]
        refine ev_pos (by omega) (ev_pos (by omega) (ev_bindc (pletter _) ?_))
        rw [ha]
        unfold glue at hg
        rw [Nat.add_sub_cancel] at hg
        cases q1 : wAt s i with
        | true =>
          refine ev_pos rfl (ev_pos (by omega) (ev_pos (by omega) (ev_bindc (pletter _) ?_)))
          rw [hb]
          cases q2 : wAt s (i + 1) with
          | true => exact ev_pos rfl hh
          | false =>
            rw [q1, q2] at hg
            refine ev_neg (by decide) (ev_bindc (inside_is s (i + 1)) (ev_pos (by simpa using hg) hh))
        | false =>
          rw [q1] at hg
          refine ev_neg (by decide) (ev_bindc (inside_is s (i + 1)) (ev_pos (by simpa using hg) hh))
    · have hg' : glue s (i + 1) = false := by simpa using hg
      refine ⟨i + 1, Nat.le_refl _, .inr hg', fun k k1 k2 => by omega, fun R h => ?_⟩
      refine Ev.step (fun _ => Z5.l1.eq_2 ..) (ev_pos (by omega) ?_)
      simp only [hw]
      refine ev_pos (by omega) (ev_pos (by omega) (ev_bindc (pletter _) ?_))
      rw [ha]
      unfold glue at hg'
      rw [Nat.add_sub_cancel] at hg'
      cases q1 : wAt s i with
      | true =>
        refine ev_pos rfl (ev_pos (by omega) (ev_pos (by omega) (ev_bindc (pletter _) ?_)))
        rw [hb]
        cases q2 : wAt s (i + 1) with
        | true => rw [q1, q2] at hg'; exact absurd hg' (by simp)
        | false =>
          rw [q1, q2] at hg'
          refine ev_neg (by decide) (ev_bindc (inside_is s (i + 1)) (ev_neg (by simpa using hg') h))
      | false =>
        rw [q1] at hg'
        refine ev_neg (by decide) (ev_bindc (inside_is s (i + 1)) (ev_neg (by simpa using hg') h))
theorem right_ev (s : ByteArray) (hs : s.size ≤ 1000000) (x7 x16 : List S46) (hx : x7.length < 1000000) (x17 x18 : Int) (f : Int) (d : Nat) : ∀ (i : Nat), s.size - i ≤ d → 0 < i → i ≤ s.size →
    ∃ i', i ≤ i' ∧ i' ≤ s.size ∧ (i' = s.size ∨ glue s i' = false) ∧ (∀ k, i ≤ k → k < i' → glue s k = true) ∧ ∀ R, Ev (fun k => Z5.l0 k s (x7 ++ [⟨f, (i' : Int)⟩]) x16 x17 (wrap64 (x18 + 1))) R → Ev (fun k => Z5.l2 k s x7 x16 x17 x18 f (i : Int)) R := by
  have stop : ∀ i : Nat, i = s.size → ∃ i', i ≤ i' ∧ i' ≤ s.size ∧ (i' = s.size ∨ glue s i' = false) ∧ (∀ k, i ≤ k → k < i' → glue s k = true) ∧ ∀ R, Ev (fun k => Z5.l0 k s (x7 ++ [⟨f, (i' : Int)⟩]) x16 x17 (wrap64 (x18 + 1))) R → Ev (fun k => Z5.l2 k s x7 x16 x17 x18 f (i : Int)) R :=
    fun i hi => ⟨i, Nat.le_refl _, by omega, .inl hi, fun k k1 k2 => by omega, fun R h => Ev.step (fun _ => Z5.l2.eq_2 ..) (ev_neg (by omega) (ev_pos (by omega) h))⟩
  induction d with
  | zero => exact fun i h1 h2 h3 => stop i (by omega)
  | succ d ih =>
    intro i h1 h2 h3
    by_cases hlt : i < s.size
    · have hw : wrap64 ((i : Int) - 1) = ((i - 1 : Nat) : Int) := by rw [wr64 (by omega) (by omega)]; omega
      have hw2 : wrap64 ((i : Int) + 1) = ((i + 1 : Nat) : Int) := by rw [wr64 (by omega) (by omega)]; omega
      have ha : (isW (bt s (i : Int))) = wAt s i := rfl
      have hb : (isW (bt s ((i - 1 : Nat) : Int))) = wAt s (i - 1) := rfl
      by_cases hg : glue s i = true
      · obtain ⟨i', g1, g2, g3, hk, g4⟩ := ih (i + 1) (by omega) (by omega) (by omega)
        refine ⟨i', by omega, g2, g3, fun k k1 k2 => ?_, fun R h => ?_⟩
        · by_cases e : k = i
          · rw [e]; exact hg
          · exact hk k (by omega) k2
        · have hh := g4 R h
          refine Ev.step (fun _ => Z5.l2.eq_2 ..) (ev_pos (by omega) (ev_pos (by omega) (ev_bindc (pletter _) ?_)))
          simp only [hw, hw2]
          rw [ha]
          unfold glue at hg
          cases q1 : wAt s i with
          | true =>
            refine ev_pos rfl (ev_pos (by omega) (ev_pos (by omega) (ev_bindc (pletter _) ?_)))
            rw [hb]
            cases q2 : wAt s (i - 1) with
            | true => exact ev_pos rfl hh
            | false =>
              rw [q1, q2] at hg
              refine ev_neg (by decide) (ev_bindc (inside_is s i) (ev_pos (by simpa using hg) hh))
          | false =>
            rw [q1] at hg
            refine ev_neg (by decide) (ev_bindc (inside_is s i) (ev_pos (by simpa using hg) hh))
      · have hg' : glue s i = false := by simpa using hg
        refine ⟨i, Nat.le_refl _, h3, .inr hg', fun k k1 k2 => by omega, fun R h => ?_⟩
        refine Ev.step (fun _ => Z5.l2.eq_2 ..) (ev_pos (by omega) (ev_pos (by omega) (ev_bindc (pletter _) ?_)))
        simp only [hw, hw2]
        rw [ha]
        unfold glue at hg'
        cases q1 : wAt s i with
        | true =>
          refine ev_pos rfl (ev_pos (by omega) (ev_pos (by omega) (ev_bindc (pletter _) ?_)))
          rw [hb]
          cases q2 : wAt s (i - 1) with
          | true => rw [q1, q2] at hg'; exact absurd hg' (by simp)
          | false =>
            rw [q1, q2] at hg'
            refine ev_neg (by decide) (ev_bindc (inside_is s i) (ev_neg (by simpa using hg') (ev_pos (by omega) h)))
        | false =>
          rw [q1] at hg'
          refine ev_neg (by decide) (ev_bindc (inside_is s i) (ev_neg (by simpa using hg') (ev_pos (by omega) h)))
    · exact stop i (by omega)
def Hang (s : ByteArray) (m : List (Nat × Nat)) (i : Nat) : Prop := ∃ j, cov m j = true ∧ same (glue s) i j
theorem glue_end (s : ByteArray) : glue s s.size = false := by
  unfold glue insd
  rw [wAt_out s s.size (Nat.le_refl _), Bool.and_false, Bool.false_or, decide_eq_false (by omega), Bool.false_and]
theorem hang_cons (s : ByteArray) (p : Nat × Nat) (m : List (Nat × Nat)) (i : Nat) : Hang s (p :: m) i ↔ (∃ j, p.1 ≤ j ∧ j < p.2 ∧ same (glue s) i j) ∨ Hang s m i := by
  constructor
  · rintro ⟨q, q1, q2⟩
    rw [cov_cons, Bool.or_eq_true, Bool.and_eq_true, decide_eq_true_eq, decide_eq_true_eq] at q1
    rcases q1 with ⟨r1, r2⟩ | r
    · exact .inl ⟨q, r1, r2, q2⟩
    · exact .inr ⟨q, r, q2⟩
  · rintro (⟨q, q1, q2, q3⟩ | ⟨q, q1, q2⟩)
    · exact ⟨q, by rw [cov_cons, decide_eq_true q1, decide_eq_true q2]; rfl, q3⟩
    · exact ⟨q, by rw [cov_cons, q1, Bool.or_true], q2⟩
theorem hang_nil (s : ByteArray) (i : Nat) : ¬ Hang s [] i := by
  rintro ⟨j, h, _⟩
  exact absurd h (by rw [cov_nil]; decide)
theorem wide_loop (s : ByteArray) (hs : s.size ≤ 100000) (m : List (Nat × Nat)) (hm : m.length ≤ 100000) (hv : ∀ p ∈ m, p.1 < p.2 ∧ p.2 ≤ s.size) (d : Nat) : ∀ (j : Nat) (acc : List S46), m.length - j ≤ d → j ≤ m.length → acc.length ≤ j →
    ∃ m2 : List (Nat × Nat), m2.length = m.length - j ∧ (∀ q ∈ m2, q.1 < q.2 ∧ q.2 ≤ s.size) ∧ (∀ i, cov m2 i = true ↔ Hang s (m.drop j) i) ∧ ∀ R, Ev (fun k => (Z4.f k (acc ++ m2.map spn)).bind fun t => some (t, 0)) R → Ev (fun k => Z5.l0 k s acc (m.map spn) (m.length : Int) (j : Int)) R := by
  have stop : ∀ (j : Nat) (acc : List S46), j ≤ m.length → ¬ j < m.length → ∃ m2 : List (Nat × Nat), m2.length = m.length - j ∧ (∀ q ∈ m2, q.1 < q.2 ∧ q.2 ≤ s.size) ∧ (∀ i, cov m2 i = true ↔ Hang s (m.drop j) i) ∧ ∀ R, Ev (fun k => (Z4.f k (acc ++ m2.map spn)).bind fun t => some (t, 0)) R → Ev (fun k => Z5.l0 k s acc (m.map spn) (m.length : Int) (j : Int)) R := by
    intro j acc h1 h2
    refine ⟨[], by simp only [List.length_nil]; omega, fun q hq => (by cases hq), fun i => ?_, fun R h => ?_⟩
    · rw [List.drop_eq_nil_of_le (by omega), cov_nil]
      exact ⟨fun h => absurd h (by decide), fun h => absurd h (hang_nil s i)⟩
    · rw [List.map_nil, List.append_nil] at h
      exact Ev.step (fun _ => Z5.l0.eq_2 ..) (ev_neg (by omega) h)
  induction d with
  | zero => exact fun j acc h1 h2 _ => stop j acc h2 (by omega)
  | succ d ih =>
    intro j acc h1 h2 ha
    by_cases hlt : j < m.length
    · obtain ⟨v1, v2⟩ := hv m[j] (List.getElem_mem hlt)
      have er := rdT_spn m j hlt
      rw [List.drop_eq_getElem_cons hlt]
      generalize m[j] = p at *
      have hw := Aside0.mk (show wrap64 ((j : Int) + 1) = ((j + 1 : Nat) : Int) by rw [wr64 (by omega) (by omega)]; omega)
      obtain ⟨a, a1, a2, a3, a4⟩ := left_ev s (by omega) acc (m.map spn) (m.length : Int) (j : Int) (p.2 : Int) p.1 (by omega)
      obtain ⟨b, b1, b2, b3, b4, b5⟩ := right_ev s (by omega) acc (m.map spn) (by omega) (m.length : Int) (j : Int) (a : Int) _ p.2 (Nat.le_refl _) (by omega) v2
      obtain ⟨m2, c1, c2, c3, c4⟩ := ih (j + 1) (acc ++ [⟨(a : Int), (b : Int)⟩]) (by omega) (by omega) (by rw [List.length_append]; simp only [List.length_cons, List.length_nil]; omega)
      have key := span_same v1 a1 a2 a3 b1 (b3.elim (fun h => by rw [h]; exact glue_end s) id) b4
      refine ⟨(a, b) :: m2, by simp only [List.length_cons]; omega, ?_, fun i => ?_, fun R h => ?_⟩
      · intro q hq
        rcases List.mem_cons.1 hq with rfl | hq
        · exact ⟨by simp only []; omega, b2⟩
        · exact c2 q hq
      · rw [cov_cons, Bool.or_eq_true, c3 i, Bool.and_eq_true, decide_eq_true_eq, decide_eq_true_eq, key i, hang_cons]
      · refine Ev.step (fun _ => Z5.l0.eq_2 ..) (ev_pos (by omega) (ev_pos (by omega) (ev_pos (by rw [List.length_map]; omega) ?_)))
        simp only [er]
        refine a4 R (Ev.step (fun _ => Z5.j2.eq_2 ..) (b5 R ?_))
        rw [hw.out]
        refine c4 R ?_
        rw [List.append_assoc]
        exact h
    · exact stop j acc h2 hlt
theorem Widen_gen (s : ByteArray) (hs : s.size ≤ 100000) (m : List (Nat × Nat)) (hm : m.length ≤ 1000) (hv : ∀ p ∈ m, p.1 < p.2 ∧ p.2 ≤ s.size) (ht : Ev (fun k => Z29.f k s (m.map spn)) 0) :
    ∃ r : List (Nat × Nat), Ev (fun k => Z5.f k s (m.map spn)) (r.map spn, 0) ∧ Norm r ∧ ∀ i, cov r i = true ↔ Hang s m i := by
  obtain ⟨m2, a1, a2, a3, a4⟩ := wide_loop s hs m (by omega) hv m.length 0 [] (by omega) (by omega) (by simp)
  rw [List.drop_zero] at a3
  obtain ⟨r, b1, b2, b3⟩ := put_ev m2 (by omega) (fun p hp => (a2 p hp).1) (fun p hp => by have := (a2 p hp).2; omega)
  refine ⟨r, ?_, b2, fun i => by rw [b3]; exact a3 i⟩
  unfold Z5.f
  refine Ev.bind ht (ev_pos rfl ?_)
  rw [List.length_map]
  exact a4 (r.map spn, 0) (Ev.bind b1 (ev_val rfl))
theorem bt_D' (s : ByteArray) (j : Nat) (h : j < s.size) : bt s (j : Int) = ((s.data.toList.getD j 0).toNat : Int) := by
  have hl : j < s.data.toList.length := h
  rw [bt_get s j hl, List.getD_eq_getElem?_getD, List.getElem?_eq_getElem hl]
  rfl
theorem starts_is (s : ByteArray) (j : Nat) (hj : j ≤ s.size) : Z38.f s (j : Int) = some (!insd s j) := by
  have key : ∀ n : Fin 256, (Go.bits .and .u8 ((n.val : Nat) : Int) 192 != 128) = !(((n.val : Nat) : Int) / 64 == 2) := by decide +kernel
  unfold Z38.f insd
  by_cases h : j = s.size
  · rw [if_pos (by omega), decide_eq_false (by omega)]
    rfl
  · have hlt : j < s.size := by omega
    rw [if_neg (by omega), if_pos (by omega), if_pos (by omega), decide_eq_true hlt, Bool.true_and, bt_D' s j hlt]
    exact congrArg some (key ⟨(s.data.toList.getD j 0).toNat, UInt8.toNat_lt _⟩)
theorem rbyte (s : ByteArray) (j : Nat) (hj : j < s.size) : Z30.f (bt s (j : Int)) = some (wAt s j) := by
  have := UInt8.toNat_lt (s.data.toList.getD j 0)
  rw [wordByte_is _ (by rw [bt_D' s j hj]; omega) (by rw [bt_D' s j hj]; omega)]
  rfl
theorem rleft_ev (s : ByteArray) (hs : s.size ≤ 1000000) (x5 : List Bool) (x12 : List S46) (x13 x14 t : Int) : ∀ (i : Nat), i < s.size →
    ∃ i', i' ≤ i ∧ (i' = 0 ∨ glue s i' = false) ∧ (∀ k, i' < k → k ≤ i → glue s k = true) ∧ ∀ R, Ev (fun k => Z3.j2 k s x5 x12 x13 x14 (i' : Int) t) R → Ev (fun k => Z3.l1 k s x5 x12 x13 x14 (i : Int) t) R
  | 0, _ => ⟨0, Nat.le_refl _, .inl rfl, fun k k1 k2 => by omega, fun R h => Ev.step (fun _ => Z3.l1.eq_2 ..) (ev_neg (by omega) h)⟩
  | i + 1, hi => by
    obtain ⟨i', h1, h2, hk, h3⟩ := rleft_ev s hs x5 x12 x13 x14 t i (by omega)
    have hw : wrap64 (((i + 1 : Nat) : Int) - 1) = (i : Int) := by rw [wr64 (by omega) (by omega)]; omega
    have both : ∀ R, Ev (fun k => Z3.l1 k s x5 x12 x13 x14 (i : Int) t) R → glue s (i + 1) = true → Ev (fun k => Z3.l1 k s x5 x12 x13 x14 ((i + 1 : Nat) : Int) t) R := fun R h hg => by
      refine Ev.step (fun _ => Z3.l1.eq_2 ..) (ev_pos (by omega) ?_)
      simp only [hw]
      refine ev_pos (by omega) (ev_pos (by omega) (ev_bindc (rbyte s i (by omega)) ?_))
      unfold glue at hg
      rw [Nat.add_sub_cancel] at hg
      cases q1 : wAt s i with
      | true =>
        refine ev_pos rfl (ev_pos (by omega) (ev_pos (by omega) (ev_bindc (rbyte s (i + 1) hi) ?_)))
        cases q2 : wAt s (i + 1) with
        | true => exact ev_pos rfl h
        | false =>
          rw [q1, q2] at hg
          have hg2 : insd s (i + 1) = true := by simpa using hg
          exact ev_neg (by decide) (ev_bindc (starts_is s (i + 1) (by omega)) (ev_neg (by rw [hg2]; decide) h))
      | false =>
        rw [q1] at hg
        have hg2 : insd s (i + 1) = true := by simpa using hg
        exact ev_neg (by decide) (ev_bindc (starts_is s (i + 1) (by omega)) (ev_neg (by rw [hg2]; decide) h))
    have none_ : ∀ R, Ev (fun k => Z3.j2 k s x5 x12 x13 x14 ((i + 1 : Nat) : Int) t) R → glue s (i + 1) = false → Ev (fun k => Z3.l1 k s x5 x12 x13 x14 ((i + 1 : Nat) : Int) t) R := fun R h hg => by
      refine Ev.step (fun _ => Z3.l1.eq_2 ..) (ev_pos (by omega) ?_)
      simp only [hw]
      refine ev_pos (by omega) (ev_pos (by omega) (ev_bindc (rbyte s i (by omega)) ?_))
      unfold glue at hg
      rw [Nat.add_sub_cancel] at hg
      cases q1 : wAt s i with
      | true =>
        refine ev_pos rfl (ev_pos (by omega) (ev_pos (by omega) (ev_bindc (rbyte s (i + 1) hi) ?_)))
        cases q2 : wAt s (i + 1) with
        | true => rw [q1, q2] at hg; exact absurd hg (by simp)
        | false =>
          rw [q1, q2] at hg
          have hg2 : insd s (i + 1) = false := by simpa using hg
          exact ev_neg (by decide) (ev_bindc (starts_is s (i + 1) (by omega)) (ev_pos (by rw [hg2]; rfl) h))
      | false =>
        rw [q1] at hg
        have hg2 : insd s (i + 1) = false := by simpa using hg
        exact ev_neg (by decide) (ev_bindc (starts_is s (i + 1) (by omega)) (ev_pos (by rw [hg2]; rfl) h))
    cases hg : glue s (i + 1) with
    | true =>
      refine ⟨i', by omega, h2, fun k k1 k2 => ?_, fun R h => both R (h3 R h) hg⟩
      by_cases e : k = i + 1
      · rw [e]; exact hg
      · exact hk k k1 (by omega)
    | false => exact ⟨i + 1, Nat.le_refl _, .inr hg, fun k k1 k2 => by omega, fun R h => none_ R h hg⟩
theorem rright_ev (s : ByteArray) (hs : s.size ≤ 1000000) (x5 : List Bool) (x12 : List S46) (x13 x14 f : Int) (d : Nat) : ∀ (i : Nat), s.size - i ≤ d → 0 < i → i ≤ s.size →
    ∃ i', i ≤ i' ∧ i' ≤ s.size ∧ (i' = s.size ∨ glue s i' = false) ∧ (∀ k, i ≤ k → k < i' → glue s k = true) ∧ ∀ R, Ev (fun k => Z3.j4 k s x5 x12 x13 x14 f (i' : Int)) R → Ev (fun k => Z3.l2 k s x5 x12 x13 x14 f (i : Int)) R := by
  have stop : ∀ i : Nat, i = s.size → ∃ i', i ≤ i' ∧ i' ≤ s.size ∧ (i' = s.size ∨ glue s i' = false) ∧ (∀ k, i ≤ k → k < i' → glue s k = true) ∧ ∀ R, Ev (fun k => Z3.j4 k s x5 x12 x13 x14 f (i' : Int)) R → Ev (fun k => Z3.l2 k s x5 x12 x13 x14 f (i : Int)) R :=
    fun i hi => ⟨i, Nat.le_refl _, by omega, .inl hi, fun k k1 k2 => by omega, fun R h => Ev.step (fun _ => Z3.l2.eq_2 ..) (ev_neg (by omega) h)⟩
  induction d with
  | zero => exact fun i h1 h2 h3 => stop i (by omega)
  | succ d ih =>
    intro i h1 h2 h3
    by_cases hlt : i < s.size
    · have hw := Aside0.mk (show wrap64 ((i : Int) - 1) = ((i - 1 : Nat) : Int) by rw [wr64 (by omega) (by omega)]; omega)
      have hw2 := Aside0.mk (show wrap64 ((i : Int) + 1) = ((i + 1 : Nat) : Int) by rw [wr64 (by omega) (by omega)]; omega)
      have both : ∀ R, Ev (fun k => Z3.l2 k s x5 x12 x13 x14 f ((i + 1 : Nat) : Int)) R → glue s i = true → Ev (fun k => Z3.l2 k s x5 x12 x13 x14 f (i : Int)) R := fun R h hg => by
        refine Ev.step (fun _ => Z3.l2.eq_2 ..) (ev_pos (by omega) (ev_pos (by omega) (ev_bindc (rbyte s i hlt) ?_)))
        simp only [hw.out, hw2.out]
        unfold glue at hg
        cases q1 : wAt s i with
        | true =>
          refine ev_pos rfl (ev_pos (by omega) (ev_pos (by omega) (ev_bindc (rbyte s (i - 1) (by omega)) ?_)))
          cases q2 : wAt s (i - 1) with
          | true => exact ev_pos rfl h
          | false =>
            rw [q1, q2] at hg
            have hg2 : insd s i = true := by simpa using hg
            exact ev_neg (by decide) (ev_bindc (starts_is s i h3) (ev_neg (by rw [hg2]; decide) h))
        | false =>
          rw [q1] at hg
          have hg2 : insd s i = true := by simpa using hg
          exact ev_neg (by decide) (ev_bindc (starts_is s i h3) (ev_neg (by rw [hg2]; decide) h))
      have none_ : ∀ R, Ev (fun k => Z3.j4 k s x5 x12 x13 x14 f (i : Int)) R → glue s i = false → Ev (fun k => Z3.l2 k s x5 x12 x13 x14 f (i : Int)) R := fun R h hg => by
        refine Ev.step (fun _ => Z3.l2.eq_2 ..) (ev_pos (by omega) (ev_pos (by omega) (ev_bindc (rbyte s i hlt) ?_)))
        simp only [hw.out, hw2.out]
        unfold glue at hg
        cases q1 : wAt s i with
        | true =>
          refine ev_pos rfl (ev_pos (by omega) (ev_pos (by omega) (ev_bindc (rbyte s (i - 1) (by omega)) ?_)))
          cases q2 : wAt s (i - 1) with
          | true => rw [q1, q2] at hg; exact absurd hg (by simp)
          | false =>
            rw [q1, q2] at hg
            have hg2 : insd s i = false := by simpa using hg
            exact ev_neg (by decide) (ev_bindc (starts_is s i h3) (ev_pos (by rw [hg2]; rfl) h))
        | false =>
          rw [q1] at hg
          have hg2 : insd s i = false := by simpa using hg
          exact ev_neg (by decide) (ev_bindc (starts_is s i h3) (ev_pos (by rw [hg2]; rfl) h))
      cases hg : glue s i with
      | true =>
        obtain ⟨i', g1, g2, g3, hk, g4⟩ := ih (i + 1) (by omega) (by omega) (by omega)
        refine ⟨i', by omega, g2, g3, fun k k1 k2 => ?_, fun R h => both R (g4 R h) hg⟩
        by_cases e : k = i
        · rw [e]; exact hg
        · exact hk k (by omega) k2
      | false => exact ⟨i, Nat.le_refl _, h3, .inr hg, fun k k1 k2 => by omega, fun R h => none_ R h hg⟩
    · exact stop i (by omega)
theorem rpaint (s : ByteArray) (x12 : List S46) (x13 : Int) (j : Nat) (hj : j ≤ 1000000) (f : Int) (R : List S46) (n : Nat) : ∀ (b : List Bool) (a : Nat), b.length ≤ 1000000 → a + n ≤ b.length →
    Ev (fun k => Z3.l0 k s (paintN b a n) x12 x13 ((j + 1 : Nat) : Int)) R → Ev (fun k => Z3.l3 k s b (a : Int) x12 x13 (j : Int) f ((a + n : Nat) : Int)) R := by
  have hwj := Aside0.mk (show wrap64 ((j : Int) + 1) = ((j + 1 : Nat) : Int) by rw [wr64 (by omega) (by omega)]; omega)
  induction n with
  | zero =>
    intro b a h1 h2 h
    refine Ev.step (fun _ => Z3.l3.eq_2 ..) (ev_neg (by omega) ?_)
    rw [hwj.out]
    exact h
  | succ n ih =>
    intro b a h1 h2 h
    have hwa := Aside0.mk (show wrap64 ((a : Int) + 1) = ((a + 1 : Nat) : Int) by rw [wr64 (by omega) (by omega)]; omega)
    refine Ev.step (fun _ => Z3.l3.eq_2 ..) (ev_pos (by omega) (ev_pos (by omega) (ev_pos (by omega) ?_)))
    rw [hwa.out, Int.toNat_natCast]
    have := ih (b.set a true) (a + 1) (by rw [List.length_set]; exact h1) (by rw [List.length_set]; omega) h
    rw [show a + 1 + n = a + (n + 1) by omega] at this
    exact this
theorem rwide_loop (s : ByteArray) (hs : s.size ≤ 100000) (m : List (Nat × Nat)) (hm : m.length ≤ 100000) (hv : ∀ p ∈ m, p.1 < p.2 ∧ p.2 ≤ s.size) (d : Nat) : ∀ (j : Nat) (b : List Bool), m.length - j ≤ d → j ≤ m.length → b.length = s.size →
    ∃ c : List Bool, c.length = s.size ∧ (∀ i, i < s.size → (c.getD i false = true ↔ b.getD i false = true ∨ Hang s (m.drop j) i)) ∧ ∀ R, Ev (fun k => (Z10.f k c).bind fun t => some t) R → Ev (fun k => Z3.l0 k s b (m.map spn) (m.length : Int) (j : Int)) R := by
  have stop : ∀ (j : Nat) (b : List Bool), j ≤ m.length → ¬ j < m.length → b.length = s.size → ∃ c : List Bool, c.length = s.size ∧ (∀ i, i < s.size → (c.getD i false = true ↔ b.getD i false = true ∨ Hang s (m.drop j) i)) ∧ ∀ R, Ev (fun k => (Z10.f k c).bind fun t => some t) R → Ev (fun k => Z3.l0 k s b (m.map spn) (m.length : Int) (j : Int)) R := by
    intro j b h1 h2 h3
    refine ⟨b, h3, fun i _ => ?_, fun R h => Ev.step (fun _ => Z3.l0.eq_2 ..) (ev_neg (by omega) h)⟩
    rw [List.drop_eq_nil_of_le (by omega)]
    exact ⟨.inl, fun h => h.elim id (fun q => absurd q (hang_nil s i))⟩
  induction d with
  | zero => exact fun j b h1 h2 h3 => stop j b h2 (by omega) h3
  | succ d ih =>
    intro j b h1 h2 h3
    by_cases hlt : j < m.length
    · obtain ⟨v1, v2⟩ := hv m[j] (List.getElem_mem hlt)
      have er := rdT_spn m j hlt
      rw [List.drop_eq_getElem_cons hlt]
      generalize m[j] = p at *
      obtain ⟨a, a1, a2, a3, a4⟩ := rleft_ev s (by omega) b (m.map spn) (m.length : Int) (j : Int) (p.2 : Int) p.1 (by omega)
      obtain ⟨e, e1, e2, e3, e4, e5⟩ := rright_ev s (by omega) b (m.map spn) (m.length : Int) (j : Int) (a : Int) _ p.2 (Nat.le_refl _) (by omega) v2
      have key := span_same v1 a1 a2 a3 e1 (e3.elim (fun h => by rw [h]; exact glue_end s) id) e4
      have hn : a + (e - a) = e := by omega
      obtain ⟨c, c1, c2, c3⟩ := ih (j + 1) (paintN b a (e - a)) (by omega) (by omega) (by rw [paintN_length]; exact h3)
      refine ⟨c, c1, fun i hi => ?_, fun R h => ?_⟩
      · rw [c2 i hi, paintN_get _ _ _ _ (by omega), hn, Bool.or_eq_true, Bool.and_eq_true, decide_eq_true_eq, decide_eq_true_eq, key i, hang_cons, or_assoc]
      · refine Ev.step (fun _ => Z3.l0.eq_2 ..) (ev_pos (by omega) (ev_pos (by omega) (ev_pos (by rw [List.length_map]; omega) ?_)))
        simp only [er]
        refine a4 R (Ev.step (fun _ => Z3.j2.eq_2 ..) (e5 R (Ev.step (fun _ => Z3.j4.eq_2 ..) ?_)))
        have := rpaint s (m.map spn) (m.length : Int) j (by omega) (a : Int) R (e - a) b a (by omega) (by omega) (c3 R h)
        rw [hn] at this
        exact this
    · exact stop j b h2 hlt h3
theorem WidenOf_gen (s : ByteArray) (hs : s.size ≤ 100000) (m : List (Nat × Nat)) (hm : m.length ≤ 1000) (hv : ∀ p ∈ m, p.1 < p.2 ∧ p.2 ≤ s.size) :
    ∃ r : List (Nat × Nat), Ev (fun k => Z3.f k s (m.map spn)) (r.map spn) ∧ Norm r ∧ ∀ i, cov r i = true ↔ i < s.size ∧ Hang s m i := by
  obtain ⟨c, c1, c2, c3⟩ := rwide_loop s hs m (by omega) hv m.length 0 (List.replicate s.size false) (by omega) (by omega) (List.length_replicate ..)
  obtain ⟨r, hr, hr1, hr2⟩ := from_ev c (by omega)
  refine ⟨r, Ev.congr (fun _ => Z3.f.eq_1 ..) (ev_pos (by omega) (ev_pos (by rw [Int.toNat_natCast]; omega) ?_)), hr1, fun i => ?_⟩
  · rw [Int.toNat_natCast, List.length_map]
    exact c3 _ (Ev.bind hr (ev_val rfl))
  · rw [hr2]
    by_cases hi : i < s.size
    · rw [c2 i hi, List.drop_zero]
      constructor
      · rintro (h | h)
        · rw [List.getD_eq_getElem?_getD, List.getElem?_replicate, if_pos hi] at h
          exact absurd h (by decide)
        · exact ⟨hi, h⟩
      · exact fun h => .inr h.2
    · rw [List.getD_eq_getElem?_getD, List.getElem?_eq_none (by omega)]
      exact ⟨fun h => absurd h (by decide), fun h => absurd h.1 hi⟩
theorem widen_both (s : ByteArray) (hs : s.size ≤ 100000) (m : List (Nat × Nat)) (hm : m.length ≤ 1000) (hv : ∀ p ∈ m, p.1 < p.2 ∧ p.2 ≤ s.size) (ht : Ev (fun k => Z29.f k s (m.map spn)) 0) :
    ∃ r : List (Nat × Nat), Ev (fun k => Z5.f k s (m.map spn)) (r.map spn, 0) ∧ Ev (fun k => Z3.f k s (m.map spn)) (r.map spn) ∧ Norm r ∧ ∀ p ∈ r, p.2 ≤ s.size := by
  obtain ⟨r, r1, r2, r3⟩ := Widen_gen s hs m hm hv ht
  obtain ⟨q, q1, q2, q3⟩ := WidenOf_gen s hs m hm hv
  have out : ∀ i, s.size ≤ i → ¬ Hang s m i := fun i hi ⟨j, j1, j2⟩ => by
    obtain ⟨p, p1, p2, p3⟩ := cov_iff.1 j1
    have := (hv p p1).2
    have h := j2 s.size (by omega) (by omega)
    rw [glue_end] at h
    exact absurd h (by decide)
  have e : q = r := q2.unique r2 (fun i => by
    rw [Bool.eq_iff_iff, q3 i, r3 i]
    exact ⟨fun h => h.2, fun h => ⟨by
      rcases Nat.lt_or_ge i s.size with c | c
      · exact c
      · exact absurd h (out i c), h⟩⟩)
  subst e
  refine ⟨q, r1, q1, q2, fun p hp => ?_⟩
  have hlt := q2.1 p hp
  have := ((q3 (p.2 - 1)).1 (cov_iff.2 ⟨p, hp, by omega, by omega⟩)).1
  omega
end Go.Proofs.YtolcpmdojlbhcaaDoor.Px
