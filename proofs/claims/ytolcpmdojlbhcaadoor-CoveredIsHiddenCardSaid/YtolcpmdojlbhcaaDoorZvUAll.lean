/- Part of the proof that the law coveredIsHidden is true for every input. No conditions. Laid by a program of this session over the kit's print and words; declarations that nothing names are left out. -/
import Derived.Test.YtolcpmdojlbhcaaDoorZvPcx3
import Derived.Test.YtolcpmdojlbhcaaDoorZvGBase
import Derived.Test.YtolcpmdojlbhcaaDoorZvPcx7
import Derived.Test.YtolcpmdojlbhcaaDoorZvPcx8
import Derived.Test.YtolcpmdojlbhcaaDoorZvPcx5
import Derived.Test.YtolcpmdojlbhcaaDoorZvPcx2
import Derived.Lib.ValidLaws
import Derived.Lib.MapLaws
import Derived.Test.YtolcpmdojlbhcaaDoorZvPcx6
import Derived.Test.YtolcpmdojlbhcaaDoorZvPcx9
namespace Go.Proofs.YtolcpmdojlbhcaaDoor.Pc
open Go.RowKit Go.Proofs.YtolcpmdojlbhcaaDoor.GBase Go.Proofs.YtolcpmdojlbhcaaDoorW.PrintWords Go.Proofs.YtolcpmdojlbhcaaDoorW.PrintLast
set_option linter.unusedVariables false
set_option linter.unusedSimpArgs false
theorem When_is (b : Bool) (e : Int) : base_When.f b e = some (if b = true then e else 0) := by
  unfold base_When.f
  cases b <;> simp
theorem In_is (a lo hi : Int) : base_In.f a lo hi = some (decide (lo ≤ a) && decide (a ≤ hi)) := by
  unfold base_In.f
  by_cases h : a ≥ lo
  · rw [if_pos h]
    have : lo ≤ a := h
    simp [this]
  · rw [if_neg h]
    have : ¬ lo ≤ a := h
    simp [this]
def firstOf : List Int → Int
  | [] => 0
  | x :: r => if x = 0 then firstOf r else x
theorem First_loop (l : List Int) (hl : l.length < 1000000) (d : Nat) : ∀ j : Nat, l.length - j ≤ d → j ≤ l.length → Ev (fun k => base_First.l0 k l (l.length : Int) (j : Int)) (firstOf (l.drop j)) := by
  induction d with
  | zero =>
    intro j hd hj
    obtain rfl : j = l.length := by omega
    rw [List.drop_length]
    exact Ev.step (fun _ => base_First.l0.eq_2 ..) (ev_neg (by omega) (ev_val rfl))
  | succ d ih =>
    intro j hd hj
    by_cases hlt : j < l.length
    · have hw : wrap64 ((j : Int) + 1) = ((j + 1 : Nat) : Int) := by rw [wr64 (by omega) (by omega)]; omega
      have hr : rd l (j : Int) = l[j] := by simp [rd, List.getD, hlt]
      rw [List.drop_eq_getElem_cons hlt]
      refine Ev.step (fun _ => base_First.l0.eq_2 ..) (ev_pos (by omega) (ev_pos (by omega) (ev_pos (by omega) ?_)))
      rw [hr]
      unfold firstOf
      by_cases hz : l[j] = 0
      · rw [if_pos hz]
        refine ev_pos hz ?_
        rw [hw]
        exact ih (j + 1) (by omega) (by omega)
      · rw [if_neg hz]
        exact ev_neg hz (ev_val rfl)
    · obtain rfl : j = l.length := by omega
      exact ih _ (by omega) (by omega)
theorem First_ev (l : List Int) (hl : l.length < 1000000) : Ev (fun k => base_First.f k l) (firstOf l) := First_loop l hl _ 0 (Nat.le_refl _) (by omega)
end Go.Proofs.YtolcpmdojlbhcaaDoor.Pc
namespace Go.Proofs.YtolcpmdojlbhcaaDoor.GBase
def cov (l : List (Nat × Nat)) (i : Nat) : Bool := l.any fun p => decide (p.1 ≤ i) && decide (i < p.2)
def Norm (l : List (Nat × Nat)) : Prop := (∀ p ∈ l, p.1 < p.2) ∧ l.Pairwise (fun p q => p.2 < q.1)
theorem cov_iff {l : List (Nat × Nat)} {i : Nat} : cov l i = true ↔ ∃ p ∈ l, p.1 ≤ i ∧ i < p.2 := by
  simp [cov]
theorem cov_cons (p : Nat × Nat) (l : List (Nat × Nat)) (i : Nat) : cov (p :: l) i = ((decide (p.1 ≤ i) && decide (i < p.2)) || cov l i) := by simp [cov]
theorem cov_append (l m : List (Nat × Nat)) (i : Nat) : cov (l ++ m) i = (cov l i || cov m i) := by simp [cov]
theorem cov_nil (i : Nat) : cov [] i = false := rfl
theorem cov_perm {l m : List (Nat × Nat)} (h : l.Perm m) (i : Nat) : cov l i = cov m i := by
  rw [Bool.eq_iff_iff, cov_iff, cov_iff]
  constructor
  · rintro ⟨p, hp, h1⟩; exact ⟨p, h.mem_iff.1 hp, h1⟩
  · rintro ⟨p, hp, h1⟩; exact ⟨p, h.mem_iff.2 hp, h1⟩
theorem Norm.tail {p : Nat × Nat} {l : List (Nat × Nat)} (h : Norm (p :: l)) : Norm l := ⟨fun q hq => h.1 q (List.mem_cons_of_mem _ hq), (List.pairwise_cons.1 h.2).2⟩
theorem Norm.after {p : Nat × Nat} {l : List (Nat × Nat)} (h : Norm (p :: l)) {i : Nat} (hc : cov l i = true) : p.2 < i := by
  obtain ⟨q, hq, h1, h2⟩ := cov_iff.1 hc
  have := (List.pairwise_cons.1 h.2).1 q hq
  omega
theorem Norm.first {p : Nat × Nat} {l : List (Nat × Nat)} (h : Norm (p :: l)) {i : Nat} (hc : cov (p :: l) i = true) : p.1 ≤ i := by
  obtain ⟨q, hq, h1, h2⟩ := cov_iff.1 hc
  have hp := h.1 p List.mem_cons_self
  rcases List.mem_cons.1 hq with rfl | hq
  · exact h1
  · have := (List.pairwise_cons.1 h.2).1 q hq
    omega
theorem cov_head {p : Nat × Nat} {l : List (Nat × Nat)} {i : Nat} (h1 : p.1 ≤ i) (h2 : i < p.2) : cov (p :: l) i = true := cov_iff.2 ⟨p, List.mem_cons_self, h1, h2⟩
theorem Norm.gap {p : Nat × Nat} {l : List (Nat × Nat)} (h : Norm (p :: l)) : cov (p :: l) p.2 = false := by
  cases hc : cov (p :: l) p.2 with
  | false => rfl
  | true =>
    rw [cov_cons] at hc
    simp at hc
    have := h.after hc
    omega
theorem Norm.head_lt {p : Nat × Nat} {l : List (Nat × Nat)} (h : Norm (p :: l)) : p.1 < p.2 := h.1 p List.mem_cons_self
theorem Norm.unique {l m : List (Nat × Nat)} (hl : Norm l) (hm : Norm m) (h : ∀ i, cov l i = cov m i) : l = m := by
  induction l generalizing m with
  | nil =>
    cases m with
    | nil => rfl
    | cons q m =>
      have := h q.1
      rw [cov_head (Nat.le_refl _) hm.head_lt] at this
      cases this
  | cons p l ih =>
    cases m with
    | nil =>
      have := h p.1
      rw [cov_head (Nat.le_refl _) hl.head_lt] at this
      cases this
    | cons q m =>
      have a1 : p.1 ≤ q.1 := hl.first (by rw [h, cov_head (Nat.le_refl _) hm.head_lt])
      have a2 : q.1 ≤ p.1 := hm.first (by rw [← h, cov_head (Nat.le_refl _) hl.head_lt])
      have b1 : ¬ p.2 < q.2 := fun hlt => by
        have e := h p.2
        rw [hl.gap, cov_head (by have := hl.head_lt; omega) hlt] at e
        cases e
      have b2 : ¬ q.2 < p.2 := fun hlt => by
        have e := h q.2
        rw [hm.gap, cov_head (by have := hm.head_lt; omega) hlt] at e
        cases e
      obtain rfl : p = q := Prod.ext (by omega) (by omega)
      congr 1
      refine ih hl.tail hm.tail fun i => ?_
      have e := h i
      rw [cov_cons, cov_cons] at e
      by_cases hi : i < p.2
      · cases c1 : cov l i with
        | true => have := hl.after c1; omega
        | false =>
          cases c2 : cov m i with
          | true => have := hm.after c2; omega
          | false => rfl
      · have : (decide (p.1 ≤ i) && decide (i < p.2)) = false := by simp; omega
        rw [this] at e
        simpa using e
def NormR (l : List (Nat × Nat)) : Prop := (∀ p ∈ l, p.1 < p.2) ∧ l.Pairwise (fun p q => q.2 < p.1)
theorem NormR.norm {l : List (Nat × Nat)} (h : NormR l) : Norm l.reverse := ⟨fun p hp => h.1 p (List.mem_reverse.1 hp), List.pairwise_reverse.2 h.2⟩
theorem cov_reverse (l : List (Nat × Nat)) (i : Nat) : cov l.reverse i = cov l i := cov_perm l.reverse_perm i
def putR : List (Nat × Nat) → List (Nat × Nat) → List (Nat × Nat)
  | out, [] => out
  | [], s :: l => putR [s] l
  | p :: out, s :: l => if s.1 ≤ p.2 then putR ((p.1, max p.2 s.2) :: out) l else putR (s :: p :: out) l
theorem putR_law (l : List (Nat × Nat)) : ∀ out : List (Nat × Nat), NormR out → (∀ s ∈ l, s.1 < s.2) → l.Pairwise (fun a b => a.1 ≤ b.1) → (∀ p ∈ out, ∀ s ∈ l, p.1 ≤ s.1) →
    NormR (putR out l) ∧ ∀ i, cov (putR out l) i = (cov out i || cov l i) := by
  induction l with
  | nil => intro out h _ _ _; cases out <;> exact ⟨h, fun i => by simp [putR, cov_nil]⟩
  | cons s l ih =>
    intro out h hv hs ho
    have hs1 := List.pairwise_cons.1 hs
    have hsv : s.1 < s.2 := hv s List.mem_cons_self
    cases out with
    | nil =>
      obtain ⟨a, b⟩ := ih [s] ⟨by simpa using hsv, by simp⟩ (fun q hq => hv q (List.mem_cons_of_mem _ hq)) hs1.2 (fun p hp q hq => by
        obtain rfl := List.mem_singleton.1 hp
        exact hs1.1 q hq)
      refine ⟨by simpa [putR] using a, fun i => ?_⟩
      simp only [putR]
      rw [b i, cov_cons s [], cov_cons s l, cov_nil]
      simp
    | cons p out =>
      have hp1 : p.1 < p.2 := h.1 p List.mem_cons_self
      have hp2 := List.pairwise_cons.1 h.2
      have hps : p.1 ≤ s.1 := ho p List.mem_cons_self s List.mem_cons_self
      simp only [putR]
      by_cases hle : s.1 ≤ p.2
      · rw [if_pos hle]
        obtain ⟨a, b⟩ := ih ((p.1, max p.2 s.2) :: out) ⟨fun q hq => by
            rcases List.mem_cons.1 hq with rfl | hq
            · simp only; omega
            · exact h.1 q (List.mem_cons_of_mem _ hq), List.pairwise_cons.2 ⟨hp2.1, hp2.2⟩⟩ (fun q hq => hv q (List.mem_cons_of_mem _ hq)) hs1.2 (fun q hq t ht => by
            rcases List.mem_cons.1 hq with rfl | hq
            · exact ho p List.mem_cons_self t (List.mem_cons_of_mem _ ht)
            · exact ho q (List.mem_cons_of_mem _ hq) t (List.mem_cons_of_mem _ ht))
        refine ⟨a, fun i => ?_⟩
        rw [b i, cov_cons, cov_cons p out, cov_cons s l]
        have e : (decide (p.1 ≤ i) && decide (i < max p.2 s.2)) = ((decide (p.1 ≤ i) && decide (i < p.2)) || (decide (s.1 ≤ i) && decide (i < s.2))) := by
          rw [Bool.eq_iff_iff]
          simp only [Bool.and_eq_true, Bool.or_eq_true, decide_eq_true_eq]
          omega
        rw [e]
        cases (decide (p.1 ≤ i) && decide (i < p.2)) <;> cases (decide (s.1 ≤ i) && decide (i < s.2)) <;> cases cov out i <;> rfl
      · rw [if_neg hle]
        obtain ⟨a, b⟩ := ih (s :: p :: out) ⟨fun q hq => by
            rcases List.mem_cons.1 hq with rfl | hq
            · exact hsv
            · exact h.1 q hq, List.pairwise_cons.2 ⟨fun q hq => by
              rcases List.mem_cons.1 hq with rfl | hq
              · omega
              · have := hp2.1 q hq; omega, h.2⟩⟩ (fun q hq => hv q (List.mem_cons_of_mem _ hq)) hs1.2 (fun q hq t ht => by
            rcases List.mem_cons.1 hq with rfl | hq
            · exact hs1.1 t ht
            · exact ho q hq t (List.mem_cons_of_mem _ ht))
        refine ⟨a, fun i => ?_⟩
        rw [b i, cov_cons s (p :: out), cov_cons s l]
        cases (decide (s.1 ≤ i) && decide (i < s.2)) <;> cases cov (p :: out) i <;> rfl
def outR (t : Nat) : List (Nat × Nat) → Nat → List (Nat × Nat) → List (Nat × Nat)
  | acc, a, [] => if a < t then (a, t) :: acc else acc
  | acc, a, x :: b => if x.2 ≤ a ∨ x.1 ≥ t then outR t acc a b else if x.1 > a then outR t ((a, x.1) :: acc) x.2 b else outR t acc x.2 b
theorem outR_law (t : Nat) (b : List (Nat × Nat)) : ∀ (acc : List (Nat × Nat)) (a : Nat), Norm b → NormR acc → (∀ p ∈ acc, p.2 < a) →
    NormR (outR t acc a b) ∧ (∀ p ∈ outR t acc a b, p ∈ acc ∨ p.2 ≤ t) ∧ ∀ i, cov (outR t acc a b) i = (cov acc i || (decide (a ≤ i) && decide (i < t) && !cov b i)) := by
  induction b with
  | nil =>
    intro acc a _ h ha
    simp only [outR]
    by_cases hlt : a < t
    · rw [if_pos hlt]
      refine ⟨⟨fun p hp => ?_, List.pairwise_cons.2 ⟨fun q hq => ha q hq, h.2⟩⟩, fun p hp => ?_, fun i => ?_⟩
      · rcases List.mem_cons.1 hp with rfl | hp
        · exact hlt
        · exact h.1 p hp
      · rcases List.mem_cons.1 hp with rfl | hp
        · exact .inr (Nat.le_refl _)
        · exact .inl hp
      · rw [cov_cons, cov_nil]
        cases (decide (a ≤ i) && decide (i < t)) <;> cases cov acc i <;> rfl
    · rw [if_neg hlt]
      refine ⟨h, fun p hp => .inl hp, fun i => ?_⟩
      have : (decide (a ≤ i) && decide (i < t)) = false := by simp; omega
      rw [this]
      simp
  | cons x b ih =>
    intro acc a hb h ha
    have hxv := hb.head_lt
    have hxb := (List.pairwise_cons.1 hb.2).1
    simp only [outR]
    by_cases h1 : x.2 ≤ a ∨ x.1 ≥ t
    · rw [if_pos h1]
      obtain ⟨p1, p2, p3⟩ := ih acc a hb.tail h ha
      refine ⟨p1, p2, fun i => ?_⟩
      rw [p3 i, cov_cons]
      cases e1 : (decide (a ≤ i) && decide (i < t)) with
      | false => rfl
      | true =>
        simp only [Bool.and_eq_true, decide_eq_true_eq] at e1
        have : (decide (x.1 ≤ i) && decide (i < x.2)) = false := by simp; omega
        rw [this]
        simp
    · rw [if_neg h1]
      have key : ∀ i, x.2 ≤ i ∨ ¬ cov b i = true := fun i => by
        rcases Nat.lt_or_ge i x.2 with hi | hi
        · refine .inr fun hc => ?_
          have := hb.after hc
          omega
        · exact .inl hi
      by_cases h2 : x.1 > a
      · rw [if_pos h2]
        obtain ⟨p1, p2, p3⟩ := ih ((a, x.1) :: acc) x.2 hb.tail ⟨fun p hp => by
            rcases List.mem_cons.1 hp with rfl | hp
            · exact h2
            · exact h.1 p hp, List.pairwise_cons.2 ⟨fun q hq => ha q hq, h.2⟩⟩ (fun p hp => by
            rcases List.mem_cons.1 hp with rfl | hp
            · exact hxv
            · have := ha p hp; omega)
        refine ⟨p1, fun p hp => ?_, fun i => ?_⟩
        · rcases p2 p hp with hq | hq
          · rcases List.mem_cons.1 hq with rfl | hq
            · right; simp only; omega
            · exact .inl hq
          · exact .inr hq
        · rw [p3 i, cov_cons, cov_cons]
          rw [Bool.eq_iff_iff]
          have := key i
          simp only [Bool.and_eq_true, Bool.or_eq_true, decide_eq_true_eq, Bool.not_eq_true', Bool.or_eq_false_iff, Bool.and_eq_false_imp, decide_eq_false_iff_not]
          cases hcb : cov b i <;> cases hca : cov acc i <;> simp [hcb] at this ⊢ <;> omega
      · rw [if_neg h2]
        obtain ⟨p1, p2, p3⟩ := ih acc x.2 hb.tail h (fun p hp => by have := ha p hp; omega)
        refine ⟨p1, p2, fun i => ?_⟩
        rw [p3 i, cov_cons]
        rw [Bool.eq_iff_iff]
        have := key i
        simp only [Bool.and_eq_true, Bool.or_eq_true, decide_eq_true_eq, Bool.not_eq_true', Bool.or_eq_false_iff, Bool.and_eq_false_imp, decide_eq_false_iff_not]
        cases hcb : cov b i <;> cases hca : cov acc i <;> simp [hcb] at this ⊢ <;> omega
def outAll (b : List (Nat × Nat)) : List (Nat × Nat) → List (Nat × Nat) → List (Nat × Nat)
  | acc, [] => acc
  | acc, s :: a => outAll b (outR s.2 acc s.1 b) a
theorem outAll_law (b : List (Nat × Nat)) (hb : Norm b) (a : List (Nat × Nat)) : ∀ acc : List (Nat × Nat), Norm a → NormR acc → (∀ p ∈ acc, ∀ s ∈ a, p.2 < s.1) →
    NormR (outAll b acc a) ∧ ∀ i, cov (outAll b acc a) i = (cov acc i || (cov a i && !cov b i)) := by
  induction a with
  | nil => intro acc _ h _; exact ⟨h, fun i => by simp [outAll, cov_nil]⟩
  | cons s a ih =>
    intro acc ha h hg
    have hsa := (List.pairwise_cons.1 ha.2).1
    obtain ⟨p1, p2, p3⟩ := outR_law s.2 b acc s.1 hb h (fun p hp => hg p hp s List.mem_cons_self)
    obtain ⟨q1, q2⟩ := ih (outR s.2 acc s.1 b) ha.tail p1 (fun p hp t ht => by
      have h1 := hsa t ht
      rcases p2 p hp with hq | hq
      · exact hg p hq t (List.mem_cons_of_mem _ ht)
      · omega)
    refine ⟨q1, fun i => ?_⟩
    simp only [outAll]
    rw [q2 i, p3 i, cov_cons]
    cases (decide (s.1 ≤ i) && decide (i < s.2)) <;> cases cov acc i <;> cases cov a i <;> cases cov b i <;> rfl
end Go.Proofs.YtolcpmdojlbhcaaDoor.GBase
namespace Go.Proofs.YtolcpmdojlbhcaaDoor.Pc
open Go.RowKit Go.Proofs.YtolcpmdojlbhcaaDoor.GBase Go.Proofs.YtolcpmdojlbhcaaDoorW.PrintWords Go.Proofs.YtolcpmdojlbhcaaDoorW.PrintLast
set_option linter.unusedVariables false
set_option linter.unusedSimpArgs false
def spn (p : Nat × Nat) : S46 := ⟨p.1, p.2⟩
theorem rdT_at (l : List S46) (j : Nat) (hj : j < l.length) : rd_T46 l (j : Int) = l[j] := by
  simp [rd_T46, List.getD_eq_getElem?_getD, List.getElem?_eq_getElem hj]
theorem rdT_spn (l : List (Nat × Nat)) (j : Nat) (hj : j < l.length) : rd_T46 (l.map spn) (j : Int) = spn l[j] := by
  rw [rdT_at _ _ (by simpa using hj)]
  simp
theorem mx_nat (j : Nat) (h : 0 < j) (h2 : j ≤ 1000000) : wrap64 (mx (j : Int) 1 - 1) = ((j - 1 : Nat) : Int) := by
  have : mx (j : Int) 1 = (j : Int) := by unfold mx; split <;> omega
  rw [this]
  unfold wrap64
  omega
def prevOf (l : List S46) (j : Nat) : Option Int := if j = 0 then none else some (rd_T46 l ((j - 1 : Nat) : Int)).f1
def afterB : Option Int → Int → Bool
  | none, _ => false
  | some t, x => decide (x ≤ t)
def chkL (size : Int) : Option Int → List S46 → Int
  | _, [] => 0
  | prev, s :: l => if s.f0 < 0 ∨ s.f0 ≥ s.f1 ∨ s.f1 > size then 1 else if afterB prev s.f0 = true then 7 else chkL size (some s.f1) l
def chk (l : List S46) (size : Int) : Int := if size < 0 ∨ size > 200000 then 1 else if (l.length : Int) > 1000 then 2 else chkL size none l
theorem prev_pos (l : List S46) (j : Nat) (h : 0 < j) : prevOf l j = some (rd_T46 l ((j - 1 : Nat) : Int)).f1 := by
  unfold prevOf
  rw [if_neg (by omega)]
theorem prev_succ (l : List S46) (j : Nat) (h : j < l.length) : prevOf l (j + 1) = some l[j].f1 := by
  rw [prev_pos _ _ (by omega)]
  show some (rd_T46 l ((j : Nat) : Int)).f1 = _
  rw [rdT_at l j h]
theorem check_loop (l : List S46) (hl : l.length < 1000000) (size : Int) (d : Nat) : ∀ j : Nat, l.length - j ≤ d → j ≤ l.length → Ev (fun k => privilege_CheckSpans.l0 k l size l (l.length : Int) (j : Int)) (chkL size (prevOf l j) (l.drop j)) := by
  induction d with
  | zero =>
    intro j hd hj
    obtain rfl : j = l.length := by omega
    rw [List.drop_length]
    exact Ev.step (fun _ => privilege_CheckSpans.l0.eq_2 ..) (ev_neg (by omega) (ev_val rfl))
  | succ d ih =>
    intro j hd hj
    by_cases hlt : j < l.length
    · have hw : wrap64 ((j : Int) + 1) = ((j + 1 : Nat) : Int) := by rw [wr64 (by omega) (by omega)]; omega
      have hn := ih (j + 1) (by omega) (by omega)
      rw [prev_succ l j hlt] at hn
      rw [List.drop_eq_getElem_cons hlt]
      refine Ev.step (fun _ => privilege_CheckSpans.l0.eq_2 ..) (ev_pos (by omega) (ev_pos (by omega) (ev_pos (by omega) ?_)))
      rw [rdT_at l j hlt, hw]
      generalize l[j] = s at *
      simp only [chkL]
      have tail : ∀ v : Int, (v = if s.f0 < 0 ∨ s.f0 ≥ s.f1 ∨ s.f1 > size then 1 else 0) → ∀ w : Int, (w = if afterB (prevOf l j) s.f0 = true then 7 else 0) →
          Ev (fun k => (base_First.f k [v, w]).bind fun t => if t = 0 then privilege_CheckSpans.l0 k l size l (l.length : Int) ((j + 1 : Nat) : Int) else some t) (if s.f0 < 0 ∨ s.f0 ≥ s.f1 ∨ s.f1 > size then 1 else if afterB (prevOf l j) s.f0 = true then 7 else chkL size (some s.f1) (l.drop (j + 1))) := by
        intro v hv w hw2
        refine Ev.bind (First_ev [v, w] (by simp)) ?_
        by_cases h1 : s.f0 < 0 ∨ s.f0 ≥ s.f1 ∨ s.f1 > size
        · rw [if_pos h1] at hv ⊢
          subst hv
          exact ev_neg (by simp [firstOf]) (ev_val (by simp [firstOf]))
        · rw [if_neg h1] at hv ⊢
          subst hv
          by_cases h2 : afterB (prevOf l j) s.f0 = true
          · rw [if_pos h2] at hw2 ⊢
            subst hw2
            exact ev_neg (by simp [firstOf]) (ev_val (by simp [firstOf]))
          · rw [if_neg h2] at hw2 ⊢
            subst hw2
            exact ev_pos (by simp [firstOf]) hn
      rcases Nat.eq_zero_or_pos j with hj0 | hj0
      · have hp : prevOf l j = none := by rw [hj0]; rfl
        simp only [hp] at tail ⊢
        have hjn : ¬ (j : Int) > 0 := by omega
        by_cases h1 : s.f0 < 0
        · exact ev_pos h1 (ev_bindc (When_is _ _) (ev_neg hjn (ev_bindc (When_is _ _) (tail _ (by rw [if_pos rfl, if_pos (.inl h1)]) _ (by simp [afterB])))))
        · refine ev_neg h1 ?_
          by_cases h2 : s.f0 ≥ s.f1
          · exact ev_pos h2 (ev_bindc (When_is _ _) (ev_neg hjn (ev_bindc (When_is _ _) (tail _ (by rw [if_pos rfl, if_pos (.inr (.inl h2))]) _ (by simp [afterB])))))
          · refine ev_neg h2 (ev_bindc (When_is _ _) (ev_neg hjn (ev_bindc (When_is _ _) (tail _ ?_ _ (by simp [afterB])))))
            by_cases h3 : s.f1 > size
            · rw [if_pos (by simpa using h3), if_pos (.inr (.inr h3))]
            · rw [if_neg (by simpa using h3), if_neg (by rintro (h | h | h) <;> contradiction)]
      · have hp := prev_pos l j hj0
        have hm := mx_nat j hj0 (by omega)
        have hjp : (j : Int) > 0 := by omega
        simp only [hp] at tail ⊢
        simp only [hm]
        generalize (rd_T46 l ((j - 1 : Nat) : Int)).f1 = t at *
        by_cases h1 : s.f0 < 0
        · exact ev_pos h1 (ev_bindc (When_is _ _) (ev_pos hjp (ev_pos (by omega) (ev_pos (by omega) (ev_bindc (When_is _ _) (tail _ (by rw [if_pos rfl, if_pos (.inl h1)]) _ rfl))))))
        · refine ev_neg h1 ?_
          by_cases h2 : s.f0 ≥ s.f1
          · exact ev_pos h2 (ev_bindc (When_is _ _) (ev_pos hjp (ev_pos (by omega) (ev_pos (by omega) (ev_bindc (When_is _ _) (tail _ (by rw [if_pos rfl, if_pos (.inr (.inl h2))]) _ rfl))))))
          · refine ev_neg h2 (ev_bindc (When_is _ _) (ev_pos hjp (ev_pos (by omega) (ev_pos (by omega) (ev_bindc (When_is _ _) (tail _ ?_ _ rfl))))))
            by_cases h3 : s.f1 > size
            · rw [if_pos (by simpa using h3), if_pos (.inr (.inr h3))]
            · rw [if_neg (by simpa using h3), if_neg (by rintro (h | h | h) <;> contradiction)]
    · obtain rfl : j = l.length := by omega
      exact ih _ (by omega) (by omega)
theorem CheckSpans_ev (l : List S46) (hl : l.length < 1000000) (size : Int) : Ev (fun k => privilege_CheckSpans.f k l size) (chk l size) := by
  unfold privilege_CheckSpans.f
  refine ev_bindc (In_is _ _ _) (ev_bindc (When_is _ _) (ev_bindc (When_is _ _) (Ev.bind (First_ev _ (by simp)) ?_)))
  unfold chk
  by_cases h1 : size < 0 ∨ size > 200000
  · have hb : (!(decide (0 ≤ size) && decide (size ≤ 200000))) = true := by simp; omega
    rw [if_pos h1]
    simp only [hb, if_true, firstOf]
    exact ev_neg (by simp) (ev_val (by simp))
  · have hb : (!(decide (0 ≤ size) && decide (size ≤ 200000))) = false := by simp; omega
    rw [if_neg h1]
    by_cases h2 : (l.length : Int) > 1000
    · rw [if_pos h2]
      simp only [hb, h2, decide_true, if_true, firstOf]
      exact ev_neg (by simp) (ev_val (by simp))
    · rw [if_neg h2]
      simp only [hb, h2, decide_false, firstOf]
      exact ev_pos (by simp) (check_loop l hl size _ 0 (Nat.le_refl _) (by omega))
end Go.Proofs.YtolcpmdojlbhcaaDoor.Pc
namespace Go.Proofs.YtolcpmdojlbhcaaDoor.Pc
open Go.RowKit Go.Proofs.YtolcpmdojlbhcaaDoor.GBase Go.Proofs.YtolcpmdojlbhcaaDoorW.PrintWords Go.Proofs.YtolcpmdojlbhcaaDoorW.PrintLast
set_option linter.unusedVariables false
set_option linter.unusedSimpArgs false
theorem norm_chk {m : List (Nat × Nat)} {n : Nat} (h : Norm m) (hb : ∀ p ∈ m, p.2 ≤ n) (hn : n ≤ 200000) (hl : m.length ≤ 1000) : chk (m.map spn) (n : Int) = 0 := by
  have go : ∀ (m : List (Nat × Nat)) (prev : Option Int), Norm m → (∀ p ∈ m, p.2 ≤ n) → (∀ t, prev = some t → ∀ p ∈ m, t < (p.1 : Int)) → chkL (n : Int) prev (m.map spn) = 0 := by
    intro m
    induction m with
    | nil => intro prev _ _ _; cases prev <;> rfl
    | cons p m ih =>
      intro prev h hb hp
      have h1 := h.1 p List.mem_cons_self
      have h2 := hb p List.mem_cons_self
      have h3 := ih (some (p.2 : Int)) ⟨fun q hq => h.1 q (List.mem_cons_of_mem _ hq), (List.pairwise_cons.1 h.2).2⟩ (fun q hq => hb q (List.mem_cons_of_mem _ hq)) (fun t e q hq => by
        obtain rfl := Option.some.inj e
        have := (List.pairwise_cons.1 h.2).1 q hq
        omega)
      rw [List.map_cons]
      have e0 : (spn p).f0 = (p.1 : Int) := rfl
      have e1 : (spn p).f1 = (p.2 : Int) := rfl
      simp only [chkL, e0, e1]
      rw [if_neg (by omega), if_neg, h3]
      cases prev with
      | none => simp [afterB]
      | some t =>
        have := hp t rfl p List.mem_cons_self
        simp only [afterB, decide_eq_true_eq]
        omega
  unfold chk
  rw [if_neg (by omega), if_neg (by rw [List.length_map]; omega)]
  exact go m none h hb (fun t e => by cases e)
theorem norm_len (n : Nat) : ∀ (l : List (Nat × Nat)) (a : Nat), Norm l → (∀ p ∈ l, a ≤ p.1 ∧ p.2 ≤ n) → l.length ≤ n - a
  | [], a, _, _ => Nat.zero_le _
  | p :: l, a, h, hb => by
    have h1 := h.1 p List.mem_cons_self
    have h2 := hb p List.mem_cons_self
    have ih := norm_len n l (p.2 + 1) ⟨fun q hq => h.1 q (List.mem_cons_of_mem _ hq), (List.pairwise_cons.1 h.2).2⟩ (fun q hq => ⟨(List.pairwise_cons.1 h.2).1 q hq, (hb q (List.mem_cons_of_mem _ hq)).2⟩)
    rw [List.length_cons]
    omega
end Go.Proofs.YtolcpmdojlbhcaaDoor.Pc
namespace Go.Proofs.YtolcpmdojlbhcaaDoor.Pc
open Go.RowKit Go.Proofs.YtolcpmdojlbhcaaDoor.GBase Go.Proofs.YtolcpmdojlbhcaaDoorW.PrintWords Go.Proofs.YtolcpmdojlbhcaaDoorW.PrintLast
set_option linter.unusedVariables false
set_option linter.unusedSimpArgs false
theorem bt_get (s : ByteArray) (j : Nat) (h : j < s.data.toList.length) : bt s (j : Int) = ((s.data.toList[j]).toNat : Int) := by
  have h2 : j < s.size := by rw [data_length] at h; exact h
  simp only [bt, Int.toNat_natCast, h2, dif_pos]
  rfl
theorem valid_is (s : ByteArray) (hs : s.size ≤ 1073741824) : utf8_ValidString.f s = some (Lib.validD s.data.toList) := by
  unfold utf8_ValidString.f
  rw [if_pos (by omega)]
theorem suffix_total (s : ByteArray) (hs : s.size ≤ 1073741824) : ∃ b, strings_HasSuffix.f s (⟨#[10]⟩ : ByteArray) = some b := by
  unfold strings_HasSuffix.f stringslite_HasSuffix.f
  have h1 : (((⟨#[10]⟩ : ByteArray).size : Nat) : Int) = 1 := rfl
  rw [h1]
  by_cases h : (s.size : Int) ≥ 1
  · have hw : wrap64 ((s.size : Int) - 1) = (s.size : Int) - 1 := wr64 (by omega) (by omega)
    rw [if_pos h, hw, if_pos (by omega), if_pos (by omega)]
    exact ⟨_, rfl⟩
  · rw [if_neg h]
    exact ⟨_, rfl⟩
def okC (feeds : Bool) (c : UInt8) : Bool := !((decide ((c.toNat : Int) < 32) && !(feeds && decide ((c.toNat : Int) = 10))) || decide ((c.toNat : Int) = 127))
def wfC (s : ByteArray) (feeds : Bool) : Bool := s.data.toList.all (okC feeds) && Lib.validD s.data.toList
def sufB (s : ByteArray) : Bool := (strings_HasSuffix.f s (⟨#[10]⟩ : ByteArray)).getD false
theorem suf_is (s : ByteArray) (hs : s.size ≤ 1073741824) : strings_HasSuffix.f s (⟨#[10]⟩ : ByteArray) = some (sufB s) := by
  obtain ⟨b, hb⟩ := suffix_total s hs
  unfold sufB
  rw [hb]
  rfl
def textOk (s : ByteArray) : Bool := wfC s true && (decide (s.toList = []) || sufB s)
theorem Visible_loop (s : ByteArray) (hs : s.size ≤ 1073741824) (feeds : Bool) (d : Nat) : ∀ j : Nat, s.size - j ≤ d → j ≤ s.size → Ev (fun k => base_Visible.l0 k s feeds (s.size : Int) (j : Int)) ((s.data.toList.drop j).all (okC feeds) && Lib.validD s.data.toList) := by
  have hlen : s.data.toList.length = s.size := data_length s
  induction d with
  | zero =>
    intro j hd hj
    obtain rfl : j = s.size := by omega
    rw [List.drop_of_length_le (by omega)]
    exact Ev.step (fun _ => base_Visible.l0.eq_2 ..) (ev_neg (by omega) (ev_bindc (valid_is s hs) (ev_val (by simp))))
  | succ d ih =>
    intro j hd hj
    by_cases hlt : j < s.size
    · have hw : wrap64 ((j : Int) + 1) = ((j + 1 : Nat) : Int) := by rw [wr64 (by omega) (by omega)]; omega
      have hl : j < s.data.toList.length := by omega
      have hn := ih (j + 1) (by omega) (by omega)
      rw [List.drop_eq_getElem_cons hl, List.all_cons]
      refine Ev.step (fun _ => base_Visible.l0.eq_2 ..) (ev_pos (by omega) (ev_pos (by omega) (ev_pos (by omega) ?_)))
      rw [bt_get s j hl, hw]
      generalize s.data.toList[j] = c at *
      have good : okC feeds c = true → Ev (fun k => base_Visible.l0 k s feeds (s.size : Int) ((j + 1 : Nat) : Int)) (okC feeds c && (s.data.toList.drop (j + 1)).all (okC feeds) && Lib.validD s.data.toList) := fun h => by
        rw [h, Bool.true_and]; exact hn
      have bad : okC feeds c = false → Ev (fun _ => some false) (okC feeds c && (s.data.toList.drop (j + 1)).all (okC feeds) && Lib.validD s.data.toList) := fun h => by
        rw [h]; exact ev_val rfl
      by_cases h1 : (c.toNat : Int) < 32
      · refine ev_pos h1 ?_
        by_cases hf : feeds = true
        · refine ev_pos hf ?_
          by_cases h10 : (c.toNat : Int) = 10
          · exact ev_pos h10 (ev_neg (by omega) (good (by simp [okC, h10, hf])))
          · exact ev_neg h10 (bad (by simp [okC, h10, h1]))
        · exact ev_neg hf (bad (by simp [okC, h1, hf]))
      · refine ev_neg h1 ?_
        by_cases h127 : (c.toNat : Int) = 127
        · exact ev_pos h127 (bad (by simp [okC, h127]))
        · exact ev_neg h127 (good (by simp [okC, h127, h1]))
    · obtain rfl : j = s.size := by omega
      exact ih _ (by omega) (by omega)
theorem Text_ev (s : ByteArray) (hs : s.size ≤ 1073741824) : Ev (fun k => base_Text.f k s) (textOk s) := by
  unfold base_Text.f base_Visible.f
  refine Ev.bind (Visible_loop s hs true _ 0 (Nat.le_refl _) (by omega)) ?_
  rw [List.drop_zero]
  show Ev _ (wfC s true && (decide (s.toList = []) || sufB s))
  change Ev (fun k => if wfC s true = true then _ else _) _
  by_cases h : wfC s true = true
  · rw [h]
    refine ev_pos rfl ?_
    by_cases h2 : s.toList = []
    · exact ev_pos h2 (ev_val (by simp [h2]))
    · exact ev_neg h2 (ev_bindc (suf_is s hs) (ev_val (by simp [h2])))
  · have : wfC s true = false := by simpa using h
    rw [this]
    exact ev_neg (by simp) (ev_val rfl)
theorem TextOf_is (s : ByteArray) (hs : s.size ≤ 1073741824) : chaseref1_TextOf.f s = some (textOk s) := by
  have hw : chaseref1_wellFormed.f s true = some (wfC s true) := by
    unfold chaseref1_wellFormed.f
    rw [if_pos (by omega)]
    rfl
  unfold chaseref1_TextOf.f
  rw [hw, Option.bind_some]
  unfold textOk
  by_cases h : wfC s true = true
  · rw [h, if_pos rfl]
    by_cases h2 : s.toList = []
    · rw [if_pos h2]; simp [h2]
    · rw [if_neg h2, suf_is s hs]; simp [h2]
  · have : wfC s true = false := by simpa using h
    rw [this, if_neg (by simp)]
    rfl
def bodyFault (s : ByteArray) : Int := if (s.size : Int) > 20000 then 2 else if textOk s = true then 0 else 3
theorem BodyFault_is (s : ByteArray) : chaseref1_BodyFault.f s = some (bodyFault s) := by
  unfold chaseref1_BodyFault.f bodyFault
  by_cases h : (s.size : Int) > 20000
  · rw [if_pos h, if_pos h]
  · rw [if_neg h, if_neg h, TextOf_is s (by omega), Option.bind_some]
    split <;> rfl
end Go.Proofs.YtolcpmdojlbhcaaDoor.Pc
namespace Go.Proofs.YtolcpmdojlbhcaaDoor.Pc
open Go.RowKit Go.Proofs.YtolcpmdojlbhcaaDoor.GBase Go.Proofs.YtolcpmdojlbhcaaDoorW.PrintWords Go.Proofs.YtolcpmdojlbhcaaDoorW.PrintLast
set_option linter.unusedVariables false
set_option linter.unusedSimpArgs false
theorem textError_zero (s : ByteArray) (hs : s.size ≤ 20000) (l : List S46) (hl : l.length < 1000000) (h : textOk s = true) (hc : chk l (s.size : Int) = 0) : Ev (fun k => privilege_textError.f k s l) 0 := by
  have hL : privilege_large.f s = some 0 := by
    unfold privilege_large.f base_When.f
    simp <;> omega
  unfold privilege_textError.f
  refine ev_bindc hL (Ev.bind (Text_ev s (by omega)) (ev_bindc (When_is _ _) (Ev.bind (CheckSpans_ev l hl _) (Ev.bind (First_ev _ (by simp)) (ev_val ?_)))))
  simp [firstOf, h, hc]
end Go.Proofs.YtolcpmdojlbhcaaDoor.Pc
namespace Go.Proofs.YtolcpmdojlbhcaaDoor.GBase
open Go.RowKit Go.Lib
set_option linter.unusedVariables false
theorem decodeN_congr (n b0 b1 b2 b3 c1 c2 c3 : Nat) (hb : ¬ ((decodeN n b0 b1 b2 b3).1 = 65533 ∧ (decodeN n b0 b1 b2 b3).2 = 1)) (h1 : 1 < (decodeN n b0 b1 b2 b3).2 → b1 = c1) (h2 : 2 < (decodeN n b0 b1 b2 b3).2 → b2 = c2) (h3 : 3 < (decodeN n b0 b1 b2 b3).2 → b3 = c3) :
    decodeN n b0 c1 c2 c3 = decodeN n b0 b1 b2 b3 := by
  rcases decodeN_shape n b0 b1 b2 b3 with ⟨c, e⟩ | ⟨a1, a2, a3, a4, e⟩ | ⟨a1, a2, a3, a4, a5, a6, e⟩ | ⟨a1, a2, a3, a4, a5, a6, a7, e⟩ | e
  · rw [e]
    unfold decodeN
    rw [if_pos c]
  · rw [e] at h1 h2 h3 ⊢
    obtain rfl := h1 (show 1 < 2 by decide)
    unfold decodeN
    rw [if_neg (by omega), if_pos ⟨a1, a2, a3⟩, if_pos (by omega)]
  · rw [e] at h1 h2 h3 ⊢
    obtain rfl := h1 (show 1 < 3 by decide)
    obtain rfl := h2 (show 2 < 3 by decide)
    unfold decodeN
    rw [if_neg (by omega), if_neg (by omega), if_pos ⟨a1, ⟨by omega, a3⟩, a2, a4⟩, if_pos ⟨a5, by omega⟩]
  · rw [e] at h1 h2 h3
    obtain rfl := h1 (show 1 < 4 by decide)
    obtain rfl := h2 (show 2 < 4 by decide)
    obtain rfl := h3 (show 3 < 4 by decide)
    rfl
  · rw [e] at hb
    exact absurd ⟨rfl, rfl⟩ hb
theorem dec_step2 (l : List UInt8) (hne : l ≠ []) (h : ¬ ((decodeL l).1 = 65533 ∧ (decodeL l).2 = 1)) :
    1 ≤ (decodeL l).2 ∧ (decodeL l).2 ≤ l.length ∧ (decodeL l).2 ≤ 4 ∧ ∀ j, 0 < j → j < (decodeL l).2 → (l.getD j 0).toNat / 64 = 2 := by
  have h2 := decodeL_width l
  have h3 := decodeL_le l hne
  refine ⟨h2, h3, ?_⟩
  clear h2 h3
  rw [decodeL_N] at h ⊢
  rcases decodeN_shape l.length (l.getD 0 0).toNat (l.getD 1 0).toNat (l.getD 2 0).toNat (l.getD 3 0).toNat with ⟨c, e⟩ | ⟨c1, c2, c3, c4, e⟩ | ⟨c1, c2, c3, c4, c5, c6, e⟩ | ⟨c1, c2, c3, c4, c5, c6, c7, e⟩ | e
  · rw [e]
    exact ⟨(show 1 ≤ 4 by decide), fun j h1 h2 => by simp only [] at h2; omega⟩
  · rw [e]
    refine ⟨(show 2 ≤ 4 by decide), fun j h1 h2 => ?_⟩
    simp only [] at h2
    obtain rfl : j = 1 := by omega
    exact c3
  · rw [e]
    refine ⟨(show 3 ≤ 4 by decide), fun j h1 h2 => ?_⟩
    simp only [] at h2
    obtain rfl | rfl : j = 1 ∨ j = 2 := by omega
    · exact c3
    · exact c4
  · rw [e]
    refine ⟨(show 4 ≤ 4 by decide), fun j h1 h2 => ?_⟩
    simp only [] at h2
    obtain rfl | rfl | rfl : j = 1 ∨ j = 2 ∨ j = 3 := by omega
    · exact c3
    · exact c4
    · exact c5
  · rw [e] at h
    exact absurd ⟨rfl, rfl⟩ h
theorem getD_drop (l : List UInt8) (a j : Nat) : (l.drop a).getD j 0 = l.getD (a + j) 0 := by simp [List.getD, List.getElem?_drop]
theorem decodeL_congr (l m : List UInt8) (hne : l ≠ []) (hl : m.length = l.length) (hb : ¬ ((decodeL l).1 = 65533 ∧ (decodeL l).2 = 1)) (h : ∀ j, j < (decodeL l).2 → m.getD j 0 = l.getD j 0) : decodeL m = decodeL l := by
  have hw := decodeL_width l
  have h0 := h 0 (by omega)
  rw [decodeL_N] at hb h hw
  rw [decodeL_N m, decodeL_N l, hl, h0]
  exact decodeN_congr _ _ _ _ _ _ _ _ hb (fun q => by rw [h 1 q]) (fun q => by rw [h 2 q]) (fun q => by rw [h 3 q])
theorem hide_valid (S T : List UInt8) (hl : T.length = S.length) (H : Nat → Prop) (h1 : ∀ i, i < S.length → H i → (T.getD i 0).toNat < 128) (h2 : ∀ i, ¬ H i → T.getD i 0 = S.getD i 0)
    (h3 : ∀ i, i + 1 < S.length → (S.getD (i + 1) 0).toNat / 64 = 2 → (H i ↔ H (i + 1))) : ∀ (n pos : Nat), S.length - pos ≤ n → validD (S.drop pos) = true → validD (T.drop pos) = true := by
  have fin : ∀ pos, S.length ≤ pos → validD (S.drop pos) = true → validD (T.drop pos) = true := fun pos h hv => by
    rw [List.drop_eq_nil_of_le h] at hv
    rw [List.drop_eq_nil_of_le (by omega)]
    exact hv
  intro n
  induction n with
  | zero => exact fun pos h hv => fin pos (by omega) hv
  | succ n ih =>
    intro pos h hv
    rcases Nat.lt_or_ge pos S.length with hp | hp
    · have hne : S.drop pos ≠ [] := fun e => by
        have := congrArg List.length e
        rw [List.length_drop, List.length_nil] at this
        omega
      have hneT : T.drop pos ≠ [] := fun e => by
        have := congrArg List.length e
        rw [List.length_drop, List.length_nil] at this
        omega
      rw [validD_step _ hne] at hv
      by_cases hbad : (decodeL (S.drop pos)).1 = 65533 ∧ (decodeL (S.drop pos)).2 = 1
      · rw [if_pos hbad] at hv
        exact absurd hv (by decide)
      rw [if_neg hbad, List.drop_drop] at hv
      obtain ⟨w1, w2, w3, w4⟩ := dec_step2 _ hne hbad
      rw [List.length_drop] at w2
      have ih2 := ih (pos + (decodeL (S.drop pos)).2) (by omega) hv
      have hsame : ∀ j, j < (decodeL (S.drop pos)).2 → (H pos ↔ H (pos + j)) := by
        intro j
        induction j with
        | zero => exact fun _ => Iff.rfl
        | succ j ihj =>
          intro hj
          have := w4 (j + 1) (by omega) hj
          rw [getD_drop] at this
          exact (ihj (by omega)).trans (h3 (pos + j) (by omega) this)
      by_cases hH : H pos
      · rw [validD_ascii (decodeL (S.drop pos)).2 (T.drop pos) (fun b hb => ?_), List.drop_drop]
        · exact ih2
        · obtain ⟨i, hi, e⟩ := List.getElem_of_mem hb
          rw [List.length_take, List.length_drop] at hi
          rw [List.getElem_take, List.getElem_drop] at e
          have := h1 (pos + i) (by omega) ((hsame i (by omega)).1 hH)
          rw [List.getD_eq_getElem?_getD, List.getElem?_eq_getElem (by omega), e] at this
          exact this
      · have hd : decodeL (T.drop pos) = decodeL (S.drop pos) := decodeL_congr _ _ hne (by rw [List.length_drop, List.length_drop, hl]) hbad (fun j hj => by
          rw [getD_drop, getD_drop]
          exact h2 _ (fun q => hH ((hsame j hj).2 q)))
        rw [validD_step _ hneT, if_neg (by rw [hd]; exact hbad), hd, List.drop_drop]
        exact ih2
    · exact fin pos hp hv
end Go.Proofs.YtolcpmdojlbhcaaDoor.GBase
namespace Go.Proofs.YtolcpmdojlbhcaaDoor.Pc
open Go.RowKit Go.Proofs.YtolcpmdojlbhcaaDoor.GBase Go.Proofs.YtolcpmdojlbhcaaDoorW.PrintWords Go.Proofs.YtolcpmdojlbhcaaDoorW.PrintLast
set_option linter.unusedVariables false
set_option linter.unusedSimpArgs false
def insd (s : ByteArray) (j : Nat) : Bool := decide (j < s.size) && ((bt s (j : Int)) / 64 == 2)
theorem inside_is (s : ByteArray) (j : Nat) : privilege_inside.f s (j : Int) = some (insd s j) := by
  unfold privilege_inside.f insd
  by_cases h : j < s.size
  · rw [if_pos (by omega), if_pos (by omega), decide_eq_true h, Bool.true_and]
  · rw [if_neg (by omega), decide_eq_false h, Bool.false_and]
def same (g : Nat → Bool) (i j : Nat) : Prop := ∀ k, min i j < k → k ≤ max i j → g k = true
theorem same.refl (g : Nat → Bool) (i : Nat) : same g i i := fun k h1 h2 => by omega
theorem same.symm {g : Nat → Bool} {i j : Nat} (h : same g i j) : same g j i := fun k h1 h2 => h k (by omega) (by omega)
theorem same.trans {g : Nat → Bool} {i j m : Nat} (h1 : same g i j) (h2 : same g j m) : same g i m := fun k a b => by
  rcases Nat.lt_or_ge (min i j) k with c | c
  · rcases Nat.lt_or_ge (max i j) k with d | d
    · exact h2 k (by omega) (by omega)
    · exact h1 k c d
  · exact h2 k (by omega) (by omega)
theorem same.part {g : Nat → Bool} {i j k : Nat} (h : same g i j) (h1 : min i j ≤ k) (h2 : k ≤ max i j) : same g i k := fun q a b => h q (by omega) (by omega)
def Hid (s : ByteArray) (m : List (Nat × Nat)) (i : Nat) : Prop := ∃ j, cov m j = true ∧ same (insd s) i j
theorem span_same {g : Nat → Bool} {a f e b : Nat} (hfe : f < e) (h1 : a ≤ f) (h2 : a = 0 ∨ g a = false) (h3 : ∀ k, a < k → k ≤ f → g k = true) (h4 : e ≤ b) (h5 : g b = false) (h6 : ∀ k, e ≤ k → k < b → g k = true) (i : Nat) :
    (a ≤ i ∧ i < b) ↔ ∃ j, f ≤ j ∧ j < e ∧ same g i j := by
  constructor
  · rintro ⟨c1, c2⟩
    by_cases d1 : i < f
    · exact ⟨f, Nat.le_refl _, hfe, fun k k1 k2 => h3 k (by omega) (by omega)⟩
    · by_cases d2 : i < e
      · exact ⟨i, by omega, d2, same.refl g i⟩
      · exact ⟨e - 1, by omega, by omega, fun k k1 k2 => h6 k (by omega) (by omega)⟩
  · rintro ⟨j, j1, j2, j3⟩
    constructor
    · rcases Nat.lt_or_ge i a with c | c
      · rcases h2 with h2 | h2
        · omega
        · rw [j3 a (by omega) (by omega)] at h2
          exact absurd h2 (by decide)
      · exact c
    · rcases Nat.lt_or_ge i b with c | c
      · exact c
      · rw [j3 b (by omega) (by omega)] at h5
        exact absurd h5 (by decide)
theorem pl_ev (s : ByteArray) (hs : s.size ≤ 1000000) (x5 x8 : List S46) (x9 x10 t : Int) : ∀ i : Nat, i < s.size →
    ∃ a, a ≤ i ∧ (a = 0 ∨ insd s a = false) ∧ (∀ k, a < k → k ≤ i → insd s k = true) ∧ ∀ R, Ev (fun k => privilege_points.j2 k s x5 x8 x9 x10 (a : Int) t) R → Ev (fun k => privilege_points.l1 k s x5 x8 x9 x10 (i : Int) t) R
  | 0, _ => ⟨0, Nat.le_refl _, .inl rfl, fun k h1 h2 => by omega, fun R h => Ev.step (fun _ => privilege_points.l1.eq_2 ..) (ev_neg (by omega) h)⟩
  | i + 1, hi => by
    obtain ⟨a, h1, h2, h3, h4⟩ := pl_ev s hs x5 x8 x9 x10 t i (by omega)
    have hw : wrap64 (((i + 1 : Nat) : Int) - 1) = (i : Int) := by rw [wr64 (by omega) (by omega)]; omega
    cases hg : insd s (i + 1) with
    | true =>
      refine ⟨a, by omega, h2, fun k k1 k2 => ?_, fun R h => ?_⟩
      · by_cases e : k = i + 1
        · subst e; exact hg
        · exact h3 k k1 (by omega)
      · refine Ev.step (fun _ => privilege_points.l1.eq_2 ..) (ev_pos (by omega) (ev_bindc (inside_is s (i + 1)) ?_))
        rw [hg]
        refine ev_pos rfl ?_
        rw [hw]
        exact h4 R h
    | false =>
      refine ⟨i + 1, Nat.le_refl _, .inr hg, fun k k1 k2 => by omega, fun R h => ?_⟩
      refine Ev.step (fun _ => privilege_points.l1.eq_2 ..) (ev_pos (by omega) (ev_bindc (inside_is s (i + 1)) ?_))
      rw [hg]
      exact ev_neg (by decide) h
theorem pr_ev (s : ByteArray) (hs : s.size ≤ 1000000) (x5 x8 : List S46) (hx : x5.length < 1000000) (x9 x10 f : Int) (d : Nat) : ∀ i : Nat, s.size - i ≤ d → i ≤ s.size →
    ∃ b, i ≤ b ∧ b ≤ s.size ∧ insd s b = false ∧ (∀ k, i ≤ k → k < b → insd s k = true) ∧ ∀ R, Ev (fun k => privilege_points.l0 k s (x5 ++ [⟨f, (b : Int)⟩]) x8 x9 (wrap64 (x10 + 1))) R → Ev (fun k => privilege_points.l2 k s x5 x8 x9 x10 f (i : Int)) R := by
  have stop : ∀ i : Nat, i ≤ s.size → insd s i = false → ∃ b, i ≤ b ∧ b ≤ s.size ∧ insd s b = false ∧ (∀ k, i ≤ k → k < b → insd s k = true) ∧ ∀ R, Ev (fun k => privilege_points.l0 k s (x5 ++ [⟨f, (b : Int)⟩]) x8 x9 (wrap64 (x10 + 1))) R → Ev (fun k => privilege_points.l2 k s x5 x8 x9 x10 f (i : Int)) R := fun i hi hg => by
    refine ⟨i, Nat.le_refl _, hi, hg, fun k k1 k2 => by omega, fun R h => ?_⟩
    refine Ev.step (fun _ => privilege_points.l2.eq_2 ..) (ev_bindc (inside_is s i) ?_)
    rw [hg]
    exact ev_neg (by decide) (ev_pos (by omega) h)
  have last : insd s s.size = false := by unfold insd; rw [decide_eq_false (by omega), Bool.false_and]
  induction d with
  | zero =>
    intro i h1 h2
    obtain rfl : i = s.size := by omega
    exact stop _ h2 last
  | succ d ih =>
    intro i h1 h2
    cases hg : insd s i with
    | false => exact stop i h2 hg
    | true =>
      have hlt : i < s.size := by
        rcases Nat.lt_or_ge i s.size with c | c
        · exact c
        · obtain rfl : i = s.size := by omega
          rw [last] at hg
          exact absurd hg (by decide)
      obtain ⟨b, b1, b2, b3, b4, b5⟩ := ih (i + 1) (by omega) (by omega)
      refine ⟨b, by omega, b2, b3, fun k k1 k2 => ?_, fun R h => ?_⟩
      · by_cases e : k = i
        · subst e; exact hg
        · exact b4 k (by omega) k2
      · have hw : wrap64 ((i : Int) + 1) = ((i + 1 : Nat) : Int) := by rw [wr64 (by omega) (by omega)]; omega
        refine Ev.step (fun _ => privilege_points.l2.eq_2 ..) (ev_bindc (inside_is s i) ?_)
        rw [hg]
        refine ev_pos rfl ?_
        rw [hw]
        exact b5 R h
theorem pts_loop (s : ByteArray) (hs : s.size ≤ 1000000) (m : List (Nat × Nat)) (hm : m.length ≤ 100000) (hv : ∀ p ∈ m, p.1 < p.2 ∧ p.2 ≤ s.size) (d : Nat) : ∀ (j : Nat) (acc : List (Nat × Nat)), m.length - j ≤ d → j ≤ m.length → acc.length ≤ j →
    ∃ ps : List (Nat × Nat), (∀ p ∈ ps, p.1 ≤ p.2 ∧ p.2 ≤ s.size) ∧ (∀ i, cov ps i = true ↔ Hid s (m.drop j) i) ∧ Ev (fun k => privilege_points.l0 k s (acc.map spn) (m.map spn) (m.length : Int) (j : Int)) ((acc ++ ps).map spn) := by
  have stop : ∀ (j : Nat) (acc : List (Nat × Nat)), j ≤ m.length → ¬ j < m.length → ∃ ps : List (Nat × Nat), (∀ p ∈ ps, p.1 ≤ p.2 ∧ p.2 ≤ s.size) ∧ (∀ i, cov ps i = true ↔ Hid s (m.drop j) i) ∧ Ev (fun k => privilege_points.l0 k s (acc.map spn) (m.map spn) (m.length : Int) (j : Int)) ((acc ++ ps).map spn) := by
    intro j acc h1 h2
    refine ⟨[], fun p hp => (by cases hp), fun i => ?_, ?_⟩
    · rw [List.drop_eq_nil_of_le (by omega)]
      constructor
      · intro h; exact absurd h (by rw [cov_nil]; decide)
      · rintro ⟨j, h, _⟩; exact absurd h (by rw [cov_nil]; decide)
    · rw [List.append_nil]
      exact Ev.step (fun _ => privilege_points.l0.eq_2 ..) (ev_neg (by omega) (ev_val rfl))
  induction d with
  | zero => exact fun j acc h1 h2 _ => stop j acc h2 (by omega)
  | succ d ih =>
    intro j acc h1 h2 ha
    by_cases hlt : j < m.length
    · obtain ⟨v1, v2⟩ := hv m[j] (List.getElem_mem hlt)
      have er := rdT_spn m j hlt
      rw [List.drop_eq_getElem_cons hlt]
      generalize m[j] = p at *
      have hw := Aside0.mk (show wrap64 ((j : Int) + 1) = ((j + 1 : Nat) : Int) by rw [wr64 (by omega) (by omega)]; omega)
      obtain ⟨a, a1, a2, a3, a4⟩ := pl_ev s hs (acc.map spn) (m.map spn) (m.length : Int) (j : Int) (p.2 : Int) p.1 (by omega)
      obtain ⟨b, b1, b2, b3, b4, b5⟩ := pr_ev s hs (acc.map spn) (m.map spn) (by rw [List.length_map]; omega) (m.length : Int) (j : Int) (a : Int) _ p.2 (Nat.le_refl _) v2
      obtain ⟨ps, c1, c2, c3⟩ := ih (j + 1) (acc ++ [(a, b)]) (by omega) (by omega) (by rw [List.length_append]; simp only [List.length_cons, List.length_nil]; omega)
      have key := span_same v1 a1 a2 a3 b1 b3 b4
      refine ⟨(a, b) :: ps, ?_, fun i => ?_, ?_⟩
      · intro q hq
        rcases List.mem_cons.1 hq with rfl | hq
        · exact ⟨by simp only []; omega, b2⟩
        · exact c1 q hq
      · rw [cov_cons, Bool.or_eq_true, c2 i, Bool.and_eq_true, decide_eq_true_eq, decide_eq_true_eq, key i]
        constructor
        · rintro (⟨q, q1, q2, q3⟩ | ⟨q, q1, q2⟩)
          · exact ⟨q, by rw [cov_cons, decide_eq_true q1, decide_eq_true q2]; rfl, q3⟩
          · exact ⟨q, by rw [cov_cons, q1, Bool.or_true], q2⟩
        · rintro ⟨q, q1, q2⟩
          rw [cov_cons, Bool.or_eq_true, Bool.and_eq_true, decide_eq_true_eq, decide_eq_true_eq] at q1
          rcases q1 with ⟨r1, r2⟩ | r
          · exact .inl ⟨q, r1, r2, q2⟩
          · exact .inr ⟨q, r, q2⟩
      · refine Ev.step (fun _ => privilege_points.l0.eq_2 ..) (ev_pos (by omega) (ev_pos (by omega) (ev_pos (by rw [List.length_map]; omega) ?_)))
        simp only [er]
        refine a4 _ (Ev.step (fun _ => privilege_points.j2.eq_2 ..) (b5 _ ?_))
        rw [hw.out]
        rw [List.map_append, List.append_assoc] at c3
        rw [show acc ++ (a, b) :: ps = acc ++ ([(a, b)] ++ ps) from rfl]
        exact c3
    · exact stop j acc h2 hlt
theorem pts_ev (s : ByteArray) (hs : s.size ≤ 1000000) (m : List (Nat × Nat)) (hm : m.length ≤ 100000) (hv : ∀ p ∈ m, p.1 < p.2 ∧ p.2 ≤ s.size) :
    ∃ ps : List (Nat × Nat), (∀ p ∈ ps, p.1 ≤ p.2 ∧ p.2 ≤ s.size) ∧ (∀ i, cov ps i = true ↔ Hid s m i) ∧ Ev (fun k => privilege_points.f k s (m.map spn)) (ps.map spn) := by
  obtain ⟨ps, h1, h2, h3⟩ := pts_loop s hs m hm hv _ 0 [] (Nat.le_refl _) (Nat.zero_le _) (Nat.le_refl _)
  refine ⟨ps, h1, h2, Ev.congr (fun _ => privilege_points.f.eq_1 ..) ?_⟩
  rw [List.length_map]
  exact h3
theorem hideN_is (n : Nat) : ∀ (f : Nat) (bs : List UInt8), f + n ≤ bs.length → ∃ cs, hideN n (f : Int) bs = some cs ∧ cs.length = bs.length ∧ ∀ i, cs.getD i 0 = if f ≤ i ∧ i < f + n then hideB (bs.getD i 0) else bs.getD i 0 := by
  induction n with
  | zero =>
    intro f bs h
    exact ⟨bs, rfl, rfl, fun i => by rw [if_neg (by omega)]⟩
  | succ n ih =>
    intro f bs h
    obtain ⟨cs, h1, h2, h3⟩ := ih (f + 1) (bs.set f (hideB (bs.getD f 0))) (by rw [List.length_set]; omega)
    refine ⟨cs, ?_, by rw [h2, List.length_set], fun i => ?_⟩
    · rw [hideN.eq_2, if_pos ⟨by omega, by omega⟩, Int.toNat_natCast]
      exact h1
    · rw [h3 i]
      by_cases e : i = f
      · subst e
        rw [if_neg (by omega), if_pos ⟨Nat.le_refl _, by omega⟩]
        simp [List.getD, List.getElem?_set, show i < bs.length by omega]
      · have : (bs.set f (hideB (bs.getD f 0))).getD i 0 = bs.getD i 0 := by simp [List.getD, List.getElem?_set, Ne.symm e]
        rw [this]
        by_cases q : f ≤ i ∧ i < f + (n + 1)
        · rw [if_pos q, if_pos (by omega)]
        · rw [if_neg q, if_neg (by omega)]
theorem hideB_twice (c : UInt8) : hideB (hideB c) = hideB c := by
  unfold hideB
  by_cases h : c = 32 ∨ c = 10
  · rw [if_pos h, if_pos h]
  · rw [if_neg h, if_neg (by decide)]
theorem hideAll_is : ∀ (ps : List (Nat × Nat)) (bs : List UInt8), (∀ p ∈ ps, p.1 ≤ p.2 ∧ p.2 ≤ bs.length) → ∃ cs, hideAll (ps.map fun p => ((p.1 : Int), (p.2 : Int))) bs = some cs ∧ cs.length = bs.length ∧ ∀ i, cs.getD i 0 = if cov ps i = true then hideB (bs.getD i 0) else bs.getD i 0
  | [], bs, _ => ⟨bs, rfl, rfl, fun i => by rw [cov_nil, if_neg (by decide)]⟩
  | p :: ps, bs, h => by
    obtain ⟨p1, p2⟩ := h p List.mem_cons_self
    obtain ⟨cs, h1, h2, h3⟩ := hideN_is (p.2 - p.1) p.1 bs (by omega)
    obtain ⟨ds, g1, g2, g3⟩ := hideAll_is ps cs (fun q hq => by rw [h2]; exact h q (List.mem_cons_of_mem _ hq))
    refine ⟨ds, ?_, g2.trans h2, fun i => ?_⟩
    · rw [List.map_cons, hideAll.eq_2]
      have e1 : (((p.2 : Nat) : Int) - ((p.1 : Nat) : Int)).toNat = p.2 - p.1 := by omega
      simp only [e1]
      rw [h1]
      exact g1
    · rw [g3 i, h3 i, cov_cons]
      have e2 : p.1 + (p.2 - p.1) = p.2 := by omega
      rw [e2]
      by_cases q : p.1 ≤ i ∧ i < p.2
      · rw [if_pos q, decide_eq_true q.1, decide_eq_true q.2]
        simp only [Bool.and_self, Bool.true_or, if_true]
        split
        · exact hideB_twice _
        · rfl
      · rw [if_neg q]
        have : (decide (p.1 ≤ i) && decide (i < p.2)) = false := by
          rw [Bool.and_eq_false_iff, decide_eq_false_iff_not, decide_eq_false_iff_not]
          omega
        rw [this, Bool.false_or]
def Hides (s : ByteArray) (m : List (Nat × Nat)) (x : ByteArray) : Prop := x.data.toList.length = s.data.toList.length ∧ (∀ i, Hid s m i → x.data.toList.getD i 0 = hideB (s.data.toList.getD i 0)) ∧ ∀ i, ¬ Hid s m i → x.data.toList.getD i 0 = s.data.toList.getD i 0
theorem Redact_ev (s : ByteArray) (hs : s.size ≤ 20000) (ht : textOk s = true) (m : List (Nat × Nat)) (hn : Norm m) (hb : ∀ p ∈ m, p.2 ≤ s.size) (hl : m.length ≤ 1000) :
    ∃ x, Ev (fun k => privilege_Redact.f k s (m.map spn)) (x, 0) ∧ Hides s m x := by
  obtain ⟨ps, p1, p2, p3⟩ := pts_ev s (by omega) m (by omega) (fun p hp => ⟨hn.1 p hp, hb p hp⟩)
  obtain ⟨cs, c1, c2, c3⟩ := hideAll_is ps s.data.toList p1
  refine ⟨⟨cs.toArray⟩, ?_, c2, fun i h => ?_, fun i h => ?_⟩
  · have e : privilege_Redact.prs (ps.map spn) = ps.map fun p => ((p.1 : Int), (p.2 : Int)) := by
      unfold privilege_Redact.prs
      rw [List.map_map]
      rfl
    refine Ev.congr (fun _ => privilege_Redact.f.eq_1 ..) (ev_pos (by omega) (Ev.bind (textError_zero s hs _ (by rw [List.length_map]; omega) ht (norm_chk hn hb (by omega) hl)) (ev_pos rfl (Ev.bind p3 (ev_bindc (a := cs) ?_ (ev_val rfl))))))
    rw [e]
    exact c1
  · show cs.getD i 0 = _
    rw [c3 i, if_pos ((p2 i).2 h)]
  · show cs.getD i 0 = _
    rw [c3 i, if_neg (fun q => h ((p2 i).1 q))]
end Go.Proofs.YtolcpmdojlbhcaaDoor.Pc
namespace Go.Proofs.YtolcpmdojlbhcaaDoor.GBase
open Go.RowKit Go.Lib
set_option linter.unusedVariables false
theorem dec_step (l : List UInt8) (hne : l ≠ []) (h : ¬ ((decodeL l).1 = 65533 ∧ (decodeL l).2 = 1)) :
    1 ≤ (decodeL l).2 ∧ (decodeL l).2 ≤ l.length ∧ (l.getD 0 0).toNat / 64 ≠ 2 ∧ ∀ j, 0 < j → j < (decodeL l).2 → 128 ≤ (l.getD (j - 1) 0).toNat := by
  have h2 := decodeL_width l
  have h3 := decodeL_le l hne
  refine ⟨h2, h3, ?_⟩
  clear h2 h3
  rw [decodeL_N] at h ⊢
  rcases decodeN_shape l.length (l.getD 0 0).toNat (l.getD 1 0).toNat (l.getD 2 0).toNat (l.getD 3 0).toNat with ⟨c, e⟩ | ⟨c1, c2, c3, c4, e⟩ | ⟨c1, c2, c3, c4, c5, c6, e⟩ | ⟨c1, c2, c3, c4, c5, c6, c7, e⟩ | e
  · rw [e]
    exact ⟨by omega, fun j h1 h2 => by simp only [] at h2; omega⟩
  · rw [e]
    refine ⟨by omega, fun j h1 h2 => ?_⟩
    simp only [] at h2
    obtain rfl : j = 1 := by omega
    show 128 ≤ (l.getD 0 0).toNat
    omega
  · rw [e]
    refine ⟨by omega, fun j h1 h2 => ?_⟩
    simp only [] at h2
    obtain rfl | rfl : j = 1 ∨ j = 2 := by omega
    · show 128 ≤ (l.getD 0 0).toNat
      omega
    · show 128 ≤ (l.getD 1 0).toNat
      omega
  · rw [e]
    refine ⟨by omega, fun j h1 h2 => ?_⟩
    simp only [] at h2
    obtain rfl | rfl | rfl : j = 1 ∨ j = 2 ∨ j = 3 := by omega
    · show 128 ≤ (l.getD 0 0).toNat
      omega
    · show 128 ≤ (l.getD 1 0).toNat
      omega
    · show 128 ≤ (l.getD 2 0).toNat
      omega
  · rw [e] at h
    exact absurd ⟨rfl, rfl⟩ h
theorem valid_inner : ∀ (n : Nat) (l : List UInt8), l.length ≤ n → validD l = true → ∀ j, j < l.length → (l.getD j 0).toNat / 64 = 2 → 0 < j ∧ 128 ≤ (l.getD (j - 1) 0).toNat
  | 0, l, hn, _, j, hj, _ => by omega
  | n + 1, l, hn, hv, j, hj, hc => by
    have hne : l ≠ [] := fun e => by rw [e] at hj; simp at hj
    rw [validD_step l hne] at hv
    by_cases hbad : (decodeL l).1 = 65533 ∧ (decodeL l).2 = 1
    · rw [if_pos hbad] at hv
      exact absurd hv (by decide)
    · rw [if_neg hbad] at hv
      obtain ⟨h1, h2, h3, h4⟩ := dec_step l hne hbad
      by_cases hw : j < (decodeL l).2
      · by_cases h0 : j = 0
        · subst h0
          exact absurd hc h3
        · exact ⟨by omega, h4 j (by omega) hw⟩
      · have ih := valid_inner n (l.drop (decodeL l).2) (by rw [List.length_drop]; omega) hv (j - (decodeL l).2) (by rw [List.length_drop]; omega)
        have g : ∀ k, (l.drop (decodeL l).2).getD k 0 = l.getD ((decodeL l).2 + k) 0 := fun k => by simp [List.getD, List.getElem?_drop]
        rw [g, g, show (decodeL l).2 + (j - (decodeL l).2) = j by omega] at ih
        obtain ⟨i1, i2⟩ := ih hc
        rw [show (decodeL l).2 + (j - (decodeL l).2 - 1) = j - 1 by omega] at i2
        exact ⟨by omega, i2⟩
end Go.Proofs.YtolcpmdojlbhcaaDoor.GBase
namespace Go.Proofs.YtolcpmdojlbhcaaDoor.Pc
open Go.RowKit Go.Proofs.YtolcpmdojlbhcaaDoor.GBase Go.Proofs.YtolcpmdojlbhcaaDoorW.PrintWords Go.Proofs.YtolcpmdojlbhcaaDoorW.PrintLast
set_option linter.unusedVariables false
set_option linter.unusedSimpArgs false
theorem ls_size (s : ByteArray) : s.data.toList.length = s.size := by
  show s.data.toList.length = s.data.size
  exact Array.length_toList
theorem bt_D (s : ByteArray) (j : Nat) (h : j < s.size) : bt s (j : Int) = ((s.data.toList.getD j 0).toNat : Int) := by
  have hl : j < s.data.toList.length := by rw [ls_size]; exact h
  rw [bt_get s j hl, List.getD_eq_getElem?_getD, List.getElem?_eq_getElem hl]
  rfl
theorem insd_iff (s : ByteArray) (j : Nat) : insd s j = true ↔ j < s.size ∧ (s.data.toList.getD j 0).toNat / 64 = 2 := by
  unfold insd
  rw [Bool.and_eq_true, decide_eq_true_eq]
  refine and_congr_right fun h => ?_
  rw [bt_D s j h, beq_iff_eq]
  omega
theorem hideB_low (c : UInt8) : (hideB c).toNat < 128 := by
  unfold hideB
  split
  · rename_i h
    rcases h with rfl | rfl <;> decide
  · decide
theorem hideB_ok (c : UInt8) (h : okC true c = true) : okC true (hideB c) = true := by
  unfold hideB
  split
  · exact h
  · decide
theorem hideB_ten : hideB 10 = 10 := by decide
theorem list_ext {a b : List UInt8} (hl : a.length = b.length) (h : ∀ i, i < b.length → a.getD i 0 = b.getD i 0) : a = b := by
  apply List.ext_getElem hl
  intro i h1 h2
  have := h i h2
  rw [List.getD_eq_getElem?_getD, List.getD_eq_getElem?_getD, List.getElem?_eq_getElem h1, List.getElem?_eq_getElem h2] at this
  exact this
theorem ba_list' {a b : ByteArray} (h : a.data.toList = b.data.toList) : a = b := by
  obtain ⟨⟨x⟩⟩ := a
  obtain ⟨⟨y⟩⟩ := b
  simp only [] at h
  rw [h]
theorem sufB_iff (s : ByteArray) (hs : s.size ≤ 1000000) (h0 : 0 < s.size) : sufB s = true ↔ s.data.toList.getD (s.size - 1) 0 = 10 := by
  unfold sufB strings_HasSuffix.f stringslite_HasSuffix.f
  have h1 : (((⟨#[10]⟩ : ByteArray).size : Nat) : Int) = 1 := rfl
  rw [h1]
  have hw : wrap64 ((s.size : Int) - 1) = ((s.size - 1 : Nat) : Int) := by rw [wr64 (by omega) (by omega)]; omega
  rw [if_pos (by omega), hw, if_pos (by omega), if_pos (by omega), Int.toNat_natCast]
  have hl : s.size - 1 < s.data.toList.length := by rw [ls_size]; omega
  have e : (s.extract (s.size - 1) s.size).toList = [s.data.toList[s.size - 1]] := by
    rw [Lib.extract_toList, show s.size - (s.size - 1) = 1 by omega, List.drop_eq_getElem_cons hl]
    rfl
  have e2 : (⟨#[10]⟩ : ByteArray).toList = [10] := by rw [Lib.toList_data]
  rw [e, e2, List.getD_eq_getElem?_getD, List.getElem?_eq_getElem hl]
  simp
theorem hides_ok {s x : ByteArray} {m : List (Nat × Nat)} (hs : s.size ≤ 1000000) (ht : textOk s = true) (h : Hides s m x) : x.size = s.size ∧ textOk x = true := by
  obtain ⟨hl, h1, h2⟩ := h
  have hsz : x.size = s.size := by rw [← ls_size, ← ls_size]; exact hl
  refine ⟨hsz, ?_⟩
  unfold textOk wfC at ht ⊢
  rw [Bool.and_eq_true, Bool.and_eq_true] at ht ⊢
  obtain ⟨⟨t1, t2⟩, t3⟩ := ht
  refine ⟨⟨?_, ?_⟩, ?_⟩
  · rw [List.all_eq_true] at t1 ⊢
    intro c hc
    obtain ⟨i, hi, e⟩ := List.getElem_of_mem hc
    have hi2 : i < s.data.toList.length := by rw [← hl]; exact hi
    have hok := t1 _ (List.getElem_mem hi2)
    have ex : x.data.toList.getD i 0 = c := by rw [List.getD_eq_getElem?_getD, List.getElem?_eq_getElem hi]; exact e
    have es : s.data.toList.getD i 0 = s.data.toList[i] := by rw [List.getD_eq_getElem?_getD, List.getElem?_eq_getElem hi2]; rfl
    by_cases q : Hid s m i
    · rw [← ex, h1 i q, es]; exact hideB_ok _ hok
    · rw [← ex, h2 i q, es]; exact hok
  · refine hide_valid s.data.toList x.data.toList hl (Hid s m) (fun i _ q => by rw [h1 i q]; exact hideB_low _) h2 (fun i hi q => ?_) _ 0 (Nat.le_refl _) t2
    have hin : insd s (i + 1) = true := (insd_iff s (i + 1)).2 ⟨by rw [ls_size] at hi; exact hi, q⟩
    have hsm : same (insd s) i (i + 1) := fun k k1 k2 => by
      obtain rfl : k = i + 1 := by omega
      exact hin
    exact ⟨fun ⟨j, j1, j2⟩ => ⟨j, j1, hsm.symm.trans j2⟩, fun ⟨j, j1, j2⟩ => ⟨j, j1, hsm.trans j2⟩⟩
  · rcases Nat.eq_zero_or_pos s.size with h0 | h0
    · have e1 : s.data.toList = [] := List.eq_nil_of_length_eq_zero (by rw [ls_size]; exact h0)
      have e2 : x.data.toList = [] := List.eq_nil_of_length_eq_zero (by rw [ls_size, hsz]; exact h0)
      rw [Lib.toList_data, e2]
      rfl
    · have hne : ¬ s.toList = [] := by
        rw [Lib.toList_data]
        intro e
        have := congrArg List.length e
        rw [ls_size, List.length_nil] at this
        omega
      rw [decide_eq_false hne, Bool.false_or, sufB_iff s hs h0] at t3
      rw [Bool.or_eq_true]
      refine .inr ((sufB_iff x (by omega) (by omega)).2 ?_)
      rw [hsz]
      by_cases q : Hid s m (s.size - 1)
      · rw [h1 _ q, t3]; exact hideB_ten
      · rw [h2 _ q]; exact t3
theorem insd_hid {s x : ByteArray} {m : List (Nat × Nat)} (hsz : x.size = s.size) (h : Hides s m x) (k : Nat) : insd x k = true ↔ insd s k = true ∧ ¬ Hid s m k := by
  obtain ⟨hl, h1, h2⟩ := h
  rw [insd_iff, insd_iff, hsz]
  by_cases q : Hid s m k
  · rw [h1 k q]
    have := hideB_low (s.data.toList.getD k 0)
    constructor
    · rintro ⟨_, a⟩; omega
    · rintro ⟨_, a⟩; exact absurd q a
  · rw [h2 k q]
    exact ⟨fun a => ⟨a, q⟩, fun a => a.1⟩
theorem hides_twice {s x y z : ByteArray} {a b u : List (Nat × Nat)} (hsz : x.size = s.size) (hx : Hides s a x) (hy : Hides x b y) (hz : Hides s u z) (hu : ∀ i, cov u i = (cov a i || cov b i)) : y = z := by
  have hin := insd_hid hsz hx
  obtain ⟨x0, x1, x2⟩ := hx
  obtain ⟨y0, y1, y2⟩ := hy
  obtain ⟨z0, z1, z2⟩ := hz
  have hU : ∀ i, Hid s u i ↔ Hid s a i ∨ Hid s b i := fun i => by
    constructor
    · rintro ⟨j, j1, j2⟩
      rw [hu, Bool.or_eq_true] at j1
      rcases j1 with j1 | j1
      · exact .inl ⟨j, j1, j2⟩
      · exact .inr ⟨j, j1, j2⟩
    · rintro (⟨j, j1, j2⟩ | ⟨j, j1, j2⟩)
      · exact ⟨j, by rw [hu, j1, Bool.true_or], j2⟩
      · exact ⟨j, by rw [hu, j1, Bool.or_true], j2⟩
  apply ba_list'
  refine list_ext (by rw [y0, x0, z0]) (fun i hi => ?_)
  by_cases qa : Hid s a i
  · rw [z1 i ((hU i).2 (.inl qa))]
    by_cases qb : Hid x b i
    · rw [y1 i qb, x1 i qa, hideB_twice]
    · rw [y2 i qb, x1 i qa]
  · have hb : Hid x b i ↔ Hid s b i := by
      constructor
      · rintro ⟨j, j1, j2⟩
        exact ⟨j, j1, fun k k1 k2 => ((hin k).1 (j2 k k1 k2)).1⟩
      · rintro ⟨j, j1, j2⟩
        refine ⟨j, j1, fun k k1 k2 => (hin k).2 ⟨j2 k k1 k2, fun ⟨q, q1, q2⟩ => qa ⟨q, q1, ?_⟩⟩⟩
        exact (j2.part (by omega) k2).trans q2
    by_cases qb : Hid s b i
    · rw [z1 i ((hU i).2 (.inr qb)), y1 i (hb.2 qb), x2 i qa]
    · rw [z2 i (fun h => ((hU i).1 h).elim qa qb), y2 i (fun h => qb (hb.1 h)), x2 i qa]
end Go.Proofs.YtolcpmdojlbhcaaDoor.Pc
namespace Go.Proofs.YtolcpmdojlbhcaaDoor.Pc
open Go.RowKit Go.Proofs.YtolcpmdojlbhcaaDoor.GBase Go.Proofs.YtolcpmdojlbhcaaDoorW.PrintWords Go.Proofs.YtolcpmdojlbhcaaDoorW.PrintLast
set_option linter.unusedVariables false
set_option linter.unusedSimpArgs false
theorem Below_is (x n : Int) (hn : n ≤ 4611686018427387904) (hx : -9223372036854775808 ≤ x) : ∃ r, chasemake_Below.f x n = some r ∧ 0 ≤ r ∧ (1 ≤ n → r < n) ∧ (n < 1 → r = 0) := by
  unfold chasemake_Below.f
  by_cases h : n < 1
  · rw [if_pos h]; exact ⟨0, rfl, by omega, by omega, fun _ => rfl⟩
  · rw [if_neg h, if_neg (by omega)]
    have h1 := Int.tmod_lt_of_pos x (b := n) (by omega)
    have h2 : -n < Int.tmod x n := by
      have := Int.tmod_lt_of_pos (-x) (b := n) (by omega)
      rw [Int.neg_tmod] at this
      omega
    by_cases h3 : Int.tmod x n < 0
    · rw [if_pos h3]; exact ⟨_, rfl, by rw [wr64 (by omega) (by omega)]; omega, by rw [wr64 (by omega) (by omega)]; omega, by omega⟩
    · rw [if_neg h3]; exact ⟨_, rfl, by omega, fun _ => h1, by omega⟩
theorem wrap_ge (x : Int) : -9223372036854775808 ≤ wrap64 x := by unfold wrap64; omega
def Nums (l : List Int) : Prop := l.length * 8 ≤ 140737488351232 ∧ ∀ x ∈ l, (Lit.int .i64 x).wf = true
theorem Nums.ge {l : List Int} (h : Nums l) (i : Int) : -9223372036854775808 ≤ rd l i := by
  unfold rd
  by_cases hi : i.toNat < l.length
  · have h1 := h.2 _ (List.getElem_mem hi)
    have h2 : IntKind.i64.min ≤ l[i.toNat] := by
      simp only [Lit.wf, Bool.and_eq_true, decide_eq_true_eq] at h1
      exact h1.1
    have h3 : IntKind.i64.min = -9223372036854775808 := by decide
    simp [List.getD, hi]
    omega
  · simp [List.getD, hi]
theorem Next_is (l : List Int) (at_ n : Int) (hl : Nums l) (h0 : 0 ≤ at_) (h1 : at_ < 1099511627776) (hn : n ≤ 4611686018427387904) :
    ∃ r, chasemake_Stream_Next.f l at_ n = some (r, at_ + 1) ∧ 0 ≤ r ∧ (1 ≤ n → r < n) ∧ (n < 1 → r = 0) := by
  have hw : wrap64 (at_ + 1) = at_ + 1 := wr64 (by omega) (by omega)
  have hw2 : wrap64 (at_ + 1 - 1) = at_ := by rw [wr64 (by omega) (by omega)]; omega
  unfold chasemake_Stream_Next.f
  rw [hw, hw2]
  by_cases hz : (l.length : Int) = 0
  · rw [if_pos hz]
    obtain ⟨r, hr, h⟩ := Below_is (wrap64 ((at_ + 1) * 7919)) n hn (wrap_ge _)
    rw [hr]
    exact ⟨r, rfl, h⟩
  · rw [if_neg hz]
    have h2 := Int.tmod_lt_of_pos at_ (b := (l.length : Int)) (by omega)
    have h3 := Int.tmod_nonneg (l.length : Int) h0
    rw [if_pos h3, if_pos h2]
    obtain ⟨r1, hr1, _⟩ := Below_is (rd l (Int.tmod at_ (l.length : Int))) 1073741824 (by omega) (hl.ge _)
    rw [hr1, Option.bind_some]
    obtain ⟨r, hr, h⟩ := Below_is (wrap64 (r1 + (wrap64 ((wrap64 (Int.tdiv at_ (l.length : Int))) * (wrap64 (7919 + (Int.tmod at_ (l.length : Int)))))))) n hn (wrap_ge _)
    rw [hr]
    exact ⟨r, rfl, h⟩
theorem one_is (l : List Int) (at_ : Int) (xs : List ByteArray) (hl : Nums l) (h0 : 0 ≤ at_) (h1 : at_ < 1099511627776) (hx : 0 < xs.length) (hm : xs.length < 1000) :
    ∃ x ∈ xs, chasemake_Stream_h06one.f l at_ xs = some (x, at_ + 1) := by
  obtain ⟨r, hr, h2, h3, _⟩ := Next_is l at_ (xs.length : Int) hl h0 h1 (by omega)
  have h4 := h3 (by omega)
  unfold chasemake_Stream_h06one.f
  rw [hr, Option.bind_some, if_pos h2, if_pos h4]
  have hi : r.toNat < xs.length := by omega
  refine ⟨xs[r.toNat], List.getElem_mem hi, ?_⟩
  simp [rdOf, List.getD, hi]
theorem Pick_is (l : List Int) (at_ : Int) (xs : List Int) (hl : Nums l) (h0 : 0 ≤ at_) (h1 : at_ < 1099511627776) (hx : 0 < xs.length) (hm : xs.length < 1000) :
    ∃ x ∈ xs, chasemake_Stream_Pick.f l at_ xs = some (x, at_ + 1) := by
  obtain ⟨r, hr, h2, h3, _⟩ := Next_is l at_ (xs.length : Int) hl h0 h1 (by omega)
  have h4 := h3 (by omega)
  unfold chasemake_Stream_Pick.f
  rw [hr, Option.bind_some, if_pos h2, if_pos h4]
  have hi : r.toNat < xs.length := by omega
  refine ⟨xs[r.toNat], List.getElem_mem hi, ?_⟩
  simp [rd, List.getD, hi]
theorem Flip_is (l : List Int) (at_ n : Int) (hl : Nums l) (h0 : 0 ≤ at_) (h1 : at_ < 1099511627776) (hn : n ≤ 4611686018427387904) :
    ∃ b, chasemake_Stream_Flip.f l at_ n = some (b, at_ + 1) := by
  obtain ⟨r, hr, _⟩ := Next_is l at_ n hl h0 h1 hn
  unfold chasemake_Stream_Flip.f
  rw [hr]
  exact ⟨_, rfl⟩
end Go.Proofs.YtolcpmdojlbhcaaDoor.Pc
namespace Go.Proofs.YtolcpmdojlbhcaaDoor.Pc
open Go.RowKit Go.Proofs.YtolcpmdojlbhcaaDoor.GBase Go.Proofs.YtolcpmdojlbhcaaDoorW.PrintWords Go.Proofs.YtolcpmdojlbhcaaDoorW.PrintLast
set_option linter.unusedVariables false
set_option linter.unusedSimpArgs false
theorem norm_snoc {m : List (Nat × Nat)} (h : Norm m) {p : Nat × Nat} (hp : p.1 < p.2) (hm : ∀ q ∈ m, q.2 < p.1) : Norm (m ++ [p]) := by
  refine ⟨fun q hq => ?_, List.pairwise_append.2 ⟨h.2, by simp, fun q hq r hr => ?_⟩⟩
  · rcases List.mem_append.1 hq with hq | hq
    · exact h.1 q hq
    · rw [List.mem_singleton.1 hq]; exact hp
  · rw [List.mem_singleton.1 hr]; exact hm q hq
theorem SpanList_fine (l : List Int) (hl : Nums l) (size : Nat) (n : Int) (d : Nat) (hd5 : d ≤ 20) : ∀ (i at_ : Int) (a : Nat) (m : List (Nat × Nat)), 0 ≤ i → n - i ≤ d → i + d ≤ 1000 → m.length + d ≤ 1000 → 0 ≤ at_ → at_ < 1099511627776 - 2 * (d + 1) → a + 20 * d ≤ 1000 → Norm m → (∀ p ∈ m, p.2 < a ∧ p.2 ≤ size) →
    ∃ (r : List (Nat × Nat)) (a' : Int), Ev (fun k => chasemake_Stream_SpanList.l0 k (size : Int) (m.map spn) (a : Int) n i l at_) (r.map spn, a') ∧ r.length ≤ m.length + d ∧ Norm r ∧ (∀ p ∈ r, p.2 ≤ size) ∧ at_ ≤ a' ∧ a' ≤ at_ + 2 * d := by
  induction d with
  | zero =>
    intro i at_ a m h0 hn hi h5 ha hb ha2 hN hs
    exact ⟨m, at_, Ev.step (fun _ => chasemake_Stream_SpanList.l0.eq_2 ..) (ev_neg (by omega) (ev_val rfl)), by omega, hN, fun p hp => (hs p hp).2, by omega, by omega⟩
  | succ d ih =>
    intro i at_ a m h0 hn hi h5 ha hb ha2 hN hs
    by_cases hlt : i < n
    · obtain ⟨p, hp1, hp⟩ := Pick_is l at_ [0, 1, 2, 5] hl ha (by omega) (by decide) (by decide)
      obtain ⟨q, hq1, hq⟩ := Pick_is l (at_ + 1) [1, 1, 2, 4, 9] hl (by omega) (by omega) (by decide) (by decide)
      have hp2 : 0 ≤ p ∧ p ≤ 5 := by
        have h : ∀ z ∈ ([0, 1, 2, 5] : List Int), 0 ≤ z ∧ z ≤ 5 := by decide
        exact h p hp1
      have hq2 : 1 ≤ q ∧ q ≤ 9 := by
        have h : ∀ z ∈ ([1, 1, 2, 4, 9] : List Int), 1 ≤ z ∧ z ≤ 9 := by decide
        exact h q hq1
      obtain ⟨P, rfl⟩ := Int.eq_ofNat_of_zero_le hp2.1
      obtain ⟨Q, rfl⟩ := Int.eq_ofNat_of_zero_le (show 0 ≤ q by omega)
      have w1 : Aside0 (wrap64 ((a : Int) + (P : Int)) = ((a + P : Nat) : Int)) := Aside0.mk ((wr64 (by omega) (by omega)).trans (by omega))
      have w2 : Aside0 (wrap64 (((a + P : Nat) : Int) + (Q : Int)) = ((a + P + Q : Nat) : Int)) := Aside0.mk ((wr64 (by omega) (by omega)).trans (by omega))
      have w3 : Aside0 (wrap64 (((a + P + Q : Nat) : Int) + 1) = ((a + P + Q + 1 : Nat) : Int)) := Aside0.mk ((wr64 (by omega) (by omega)).trans (by omega))
      have hw : Aside0 (wrap64 (i + 1) = i + 1) := Aside0.mk (wr64 (by omega) (by omega))
      by_cases hbig : ((a + P + Q : Nat) : Int) > (size : Int)
      · refine ⟨m, at_ + 1 + 1, Ev.step (fun _ => chasemake_Stream_SpanList.l0.eq_2 ..) (ev_pos hlt (ev_bindc hp (ev_bindc hq ?_))), by omega, hN, fun p hp => (hs p hp).2, by omega, by omega⟩
        simp only [w1.out, w2.out]
        exact ev_pos hbig (ev_val rfl)
      · obtain ⟨r, a', hr, h1, h2, h3, h4, h6⟩ := ih (by omega) (i + 1) (at_ + 1 + 1) (a + P + Q + 1) (m ++ [(a + P, a + P + Q)]) (by omega) (by omega) (by omega) (by simp only [List.length_append, List.length_singleton]; omega) (by omega) (by omega) (by omega)
          (norm_snoc hN (by simp only []; omega) (fun q hq => by have := (hs q hq).1; simp only []; omega)) (fun q hq => by
            rcases List.mem_append.1 hq with hq | hq
            · have := hs q hq; omega
            · rw [List.mem_singleton.1 hq]; simp only []; omega)
        refine ⟨r, a', Ev.step (fun _ => chasemake_Stream_SpanList.l0.eq_2 ..) (ev_pos hlt (ev_bindc hp (ev_bindc hq ?_))), by simp only [List.length_append, List.length_singleton] at h1; omega, h2, h3, by omega, by omega⟩
        simp only [w1.out, w2.out, w3.out]
        refine ev_neg hbig (ev_pos (by rw [List.length_map]; omega) ?_)
        rw [hw.out]
        rw [List.map_append] at hr
        exact hr
    · exact ⟨m, at_, Ev.step (fun _ => chasemake_Stream_SpanList.l0.eq_2 ..) (ev_neg hlt (ev_val rfl)), by omega, hN, fun p hp => (hs p hp).2, by omega, by omega⟩
theorem SpanList_good (l : List Int) (hl : Nums l) (at_ : Int) (size : Nat) (h0 : 0 ≤ at_) (h1 : at_ < 1099511627000) :
    ∃ (r : List (Nat × Nat)) (a' : Int), Ev (fun k => chasemake_Stream_SpanList.f k l at_ (size : Int)) (r.map spn, a') ∧ r.length ≤ 5 ∧ Norm r ∧ (∀ p ∈ r, p.2 ≤ size) ∧ at_ ≤ a' ∧ a' ≤ at_ + 11 := by
  obtain ⟨n, hn, n0, n1, _⟩ := Next_is l at_ 5 hl h0 (by omega) (by omega)
  have n2 := n1 (by omega)
  obtain ⟨r, a', hr, g1, g2, g3, g4, g5⟩ := SpanList_fine l hl size n 5 (by omega) 0 (at_ + 1) 0 [] (by omega) (by omega) (by omega) (by simp) (by omega) (by omega) (by omega) ⟨by simp, by simp⟩ (by simp)
  refine ⟨r, a', ?_, by simpa using g1, g2, g3, by omega, by omega⟩
  unfold chasemake_Stream_SpanList.f
  exact ev_bindc hn hr
end Go.Proofs.YtolcpmdojlbhcaaDoor.Pc
namespace Go.Proofs.YtolcpmdojlbhcaaDoor.Pc
open Go.RowKit Go.Proofs.YtolcpmdojlbhcaaDoor.GBase Go.Proofs.YtolcpmdojlbhcaaDoorW.PrintWords Go.Proofs.YtolcpmdojlbhcaaDoorW.PrintLast
set_option linter.unusedVariables false
set_option linter.unusedSimpArgs false
theorem Memo_end (l : List Int) (hl : Nums l) (at_ : Int) (t : ByteArray) (h0 : 0 ≤ at_) (h1 : at_ < 1099511627000) (ht : t.size ≤ 950) :
    ∃ (r : ByteArray) (a' : Int), Ev (fun k => chasemake_Stream_Memo.j2 k t l at_) (r, a') ∧ (r.size ≤ 1000 ∨ 20000 < r.size) ∧ at_ ≤ a' ∧ a' ≤ at_ + 2 := by
  obtain ⟨b, hb⟩ := Flip_is l at_ 20 hl h0 (by omega) (by omega)
  by_cases hbt : b = true
  · have hrep : strings_Repeat.f (⟨#[109]⟩ : ByteArray) 20000 = some (⟨(Lib.repeatL [109] 20000).toArray⟩ : ByteArray) := by
      unfold strings_Repeat.f
      rw [if_pos ⟨by decide, by decide, by decide, by decide⟩]
      rfl
    have hsz : (⟨(Lib.repeatL [109] 20000).toArray⟩ : ByteArray).size = 20000 := by
      show (Lib.repeatL [109] 20000).toArray.size = 20000
      rw [List.size_toArray, Lib.repeatL_length]
      rfl
    generalize (⟨(Lib.repeatL [109] 20000).toArray⟩ : ByteArray) = q at *
    obtain ⟨x, hx, he⟩ := one_is l (at_ + 1) [(⟨#[97, 9, 98, 10]⟩ : ByteArray), (⟨#[255, 10]⟩ : ByteArray), q ++ (⟨#[10]⟩ : ByteArray)] hl (by omega) (by omega) (by simp) (by simp)
    refine ⟨x, at_ + 1 + 1, Ev.step (fun _ => chasemake_Stream_Memo.j2.eq_2 ..) (ev_bindc hb (ev_pos hbt (ev_bindc hrep (ev_pos (by omega) (ev_bindc he (ev_val rfl)))))), ?_, by omega, by omega⟩
    have e1 : (⟨#[97, 9, 98, 10]⟩ : ByteArray).size = 4 := rfl
    have e2 : (⟨#[255, 10]⟩ : ByteArray).size = 2 := rfl
    have e3 : (⟨#[10]⟩ : ByteArray).size = 1 := rfl
    rcases List.mem_cons.1 hx with rfl | hx
    · omega
    · rcases List.mem_cons.1 hx with rfl | hx
      · omega
      · rcases List.mem_cons.1 hx with rfl | hx
        · rw [ByteArray.size_append]; omega
        · cases hx
  · exact ⟨t, at_ + 1, Ev.step (fun _ => chasemake_Stream_Memo.j2.eq_2 ..) (ev_bindc hb (ev_neg hbt (ev_val rfl))), by omega, by omega, by omega⟩
theorem Memo_mid (l : List Int) (hl : Nums l) (at_ : Int) (t : ByteArray) (b : Bool) (h0 : 0 ≤ at_) (h1 : at_ < 1099511627000) (ht : t.size ≤ 900) :
    ∃ (r : ByteArray) (a' : Int), Ev (fun k => chasemake_Stream_Memo.j1 k t b l at_) (r, a') ∧ (r.size ≤ 1000 ∨ 20000 < r.size) ∧ at_ ≤ a' ∧ a' ≤ at_ + 2 := by
  cases b with
  | true =>
    have e3 : (⟨#[10]⟩ : ByteArray).size = 1 := rfl
    obtain ⟨r, a', hr, h⟩ := Memo_end l hl at_ (t ++ (⟨#[10]⟩ : ByteArray)) h0 h1 (by rw [ByteArray.size_append]; omega)
    exact ⟨r, a', Ev.step (fun _ => chasemake_Stream_Memo.j1.eq_2 ..) (ev_pos rfl (ev_pos (by omega) hr)), h⟩
  | false =>
    obtain ⟨r, a', hr, h⟩ := Memo_end l hl at_ t h0 h1 (by omega)
    exact ⟨r, a', Ev.step (fun _ => chasemake_Stream_Memo.j1.eq_2 ..) (ev_neg (by simp) hr), h⟩
theorem Memo_loop (l : List Int) (hl : Nums l) (n : Int) (d : Nat) (hd100 : d ≤ 20) : ∀ (i at_ : Int) (t : ByteArray), 0 ≤ i → i ≤ 1000 - d → n - i ≤ d → 0 ≤ at_ → at_ < 1099511626000 - 2 * (d + 1) → t.size ≤ 900 - 20 * d →
    ∃ (r : ByteArray) (a' : Int), Ev (fun k => chasemake_Stream_Memo.l0 k t n i l at_) (r, a') ∧ (r.size ≤ 1000 ∨ 20000 < r.size) ∧ at_ ≤ a' ∧ a' ≤ at_ + 2 * d + 3 := by
  have fin : ∀ (i at_ : Int) (t : ByteArray), ¬ i < n → 0 ≤ at_ → at_ < 1099511626000 → t.size ≤ 900 → ∃ (r : ByteArray) (a' : Int), Ev (fun k => chasemake_Stream_Memo.l0 k t n i l at_) (r, a') ∧ (r.size ≤ 1000 ∨ 20000 < r.size) ∧ at_ ≤ a' ∧ a' ≤ at_ + 3 := by
    intro i at_ t hn ha hb ht
    by_cases he : t.toList = []
    · obtain ⟨r, a', hr, h2, h3, h4⟩ := Memo_mid l hl at_ t false ha (by omega) ht
      exact ⟨r, a', Ev.step (fun _ => chasemake_Stream_Memo.l0.eq_2 ..) (ev_neg hn (ev_pos he hr)), h2, h3, by omega⟩
    · obtain ⟨b, hb2⟩ := Flip_is l at_ 12 hl ha (by omega) (by omega)
      obtain ⟨r, a', hr, h2, h3, h4⟩ := Memo_mid l hl (at_ + 1) t (!b) (by omega) (by omega) ht
      exact ⟨r, a', Ev.step (fun _ => chasemake_Stream_Memo.l0.eq_2 ..) (ev_neg hn (ev_neg he (ev_bindc hb2 hr))), h2, by omega, by omega⟩
  induction d with
  | zero =>
    intro i at_ t h0 hi hn ha hb ht
    obtain ⟨r, a', hr, h2, h3, h4⟩ := fin i at_ t (by omega) ha (by omega) (by omega)
    exact ⟨r, a', hr, h2, h3, by omega⟩
  | succ d ih =>
    intro i at_ t h0 hi hn ha hb ht
    by_cases hlt : i < n
    · obtain ⟨x, hx, e1⟩ := one_is l at_ [(⟨#[109, 101, 109, 111]⟩ : ByteArray), (⟨#[77, 101, 109, 111]⟩ : ByteArray), (⟨#[109, 101, 109, 111, 115]⟩ : ByteArray), (⟨#[115, 101, 101, 32, 116, 104, 101]⟩ : ByteArray), (⟨#[195, 169, 116, 195, 169]⟩ : ByteArray), (⟨#[115, 101, 99, 114, 101, 116]⟩ : ByteArray), (⟨#[83, 69, 67, 82, 69, 84, 32, 112, 108, 97, 110]⟩ : ByteArray), (⟨#[97]⟩ : ByteArray), (⟨#[120, 45, 121]⟩ : ByteArray), (⟨#[51, 114, 100]⟩ : ByteArray)] hl ha (by omega) (by simp) (by simp)
      obtain ⟨y, hy, e2⟩ := one_is l (at_ + 1) [(⟨#[32]⟩ : ByteArray), (⟨#[32]⟩ : ByteArray), (⟨#[10]⟩ : ByteArray), (⟨#[44, 32]⟩ : ByteArray), (⟨#[]⟩ : ByteArray)] hl (by omega) (by omega) (by simp) (by simp)
      have sx : x.size ≤ 11 := by
        have h : ∀ z ∈ [(⟨#[109, 101, 109, 111]⟩ : ByteArray), (⟨#[77, 101, 109, 111]⟩ : ByteArray), (⟨#[109, 101, 109, 111, 115]⟩ : ByteArray), (⟨#[115, 101, 101, 32, 116, 104, 101]⟩ : ByteArray), (⟨#[195, 169, 116, 195, 169]⟩ : ByteArray), (⟨#[115, 101, 99, 114, 101, 116]⟩ : ByteArray), (⟨#[83, 69, 67, 82, 69, 84, 32, 112, 108, 97, 110]⟩ : ByteArray), (⟨#[97]⟩ : ByteArray), (⟨#[120, 45, 121]⟩ : ByteArray), (⟨#[51, 114, 100]⟩ : ByteArray)], z.size ≤ 11 := by decide
        exact h x hx
      have sy : y.size ≤ 2 := by
        have h : ∀ z ∈ [(⟨#[32]⟩ : ByteArray), (⟨#[32]⟩ : ByteArray), (⟨#[10]⟩ : ByteArray), (⟨#[44, 32]⟩ : ByteArray), (⟨#[]⟩ : ByteArray)], z.size ≤ 2 := by decide
        exact h y hy
      have hw : wrap64 (i + 1) = i + 1 := wr64 (by omega) (by omega)
      obtain ⟨r, a', hr, h2, h3, h4⟩ := ih (by omega) (i + 1) (at_ + 1 + 1) (t ++ (x ++ y)) (by omega) (by omega) (by omega) (by omega) (by omega) (by simp only [ByteArray.size_append]; omega)
      refine ⟨r, a', Ev.step (fun _ => chasemake_Stream_Memo.l0.eq_2 ..) (ev_pos hlt (ev_bindc e1 (ev_bindc e2 (ev_pos (by simp only; omega) (ev_pos (by simp only [ByteArray.size_append]; omega) ?_))))), h2, by omega, by omega⟩
      rw [hw]
      exact hr
    · obtain ⟨r, a', hr, h2, h3, h4⟩ := fin i at_ t hlt ha (by omega) (by omega)
      exact ⟨r, a', hr, h2, h3, by omega⟩
theorem Memo_ev (l : List Int) (at_ : Int) (hl : Nums l) (h0 : 0 ≤ at_) (h1 : at_ < 1099511625000) :
    ∃ (r : ByteArray) (a' : Int), Ev (fun k => chasemake_Stream_Memo.f k l at_) (r, a') ∧ (r.size ≤ 1000 ∨ 20000 < r.size) ∧ at_ ≤ a' ∧ a' ≤ at_ + 30 := by
  obtain ⟨n, hn, n0, n1, _⟩ := Next_is l at_ 10 hl h0 (by omega) (by omega)
  have n2 := n1 (by omega)
  obtain ⟨r, a', hr, g1, g2, g3⟩ := Memo_loop l hl n 10 (by omega) 0 (at_ + 1) ⟨#[]⟩ (by omega) (by omega) (by omega) (by omega) (by omega) (by decide)
  refine ⟨r, a', ?_, g1, by omega, by omega⟩
  unfold chasemake_Stream_Memo.f
  exact ev_bindc hn hr
end Go.Proofs.YtolcpmdojlbhcaaDoor.Pc
namespace Go.Proofs.YtolcpmdojlbhcaaDoor.Pc
open Go.RowKit Go.Proofs.YtolcpmdojlbhcaaDoor.GBase Go.Proofs.YtolcpmdojlbhcaaDoorW.PrintWords Go.Proofs.YtolcpmdojlbhcaaDoorW.PrintLast
theorem privileges_ev : Ev (fun k => chasekeep1_privileges.f k) true := Ev.of (fun k => chasekeep1_privileges.mono k) (k := 12) (by decide +kernel)
end Go.Proofs.YtolcpmdojlbhcaaDoor.Pc
namespace Go.Proofs.YtolcpmdojlbhcaaDoor.Pc
open Go.RowKit Go.Proofs.YtolcpmdojlbhcaaDoor.GBase Go.Proofs.YtolcpmdojlbhcaaDoorW.PrintWords Go.Proofs.YtolcpmdojlbhcaaDoorW.PrintLast
set_option linter.unusedVariables false
set_option linter.unusedSimpArgs false
theorem sort_is (l : List S46) (h : ∀ x ∈ l, 0 ≤ x.f0 ∧ x.f0 ≤ 1099511627776) (hl : l.length < 4611686018427387904) :
    ∃ r, api_Span_91.f l 92 = some r ∧ r.Perm l ∧ r.Pairwise (fun x y => x.f0 ≤ y.f0) := by
  unfold api_Span_91.f
  have hc : 92 = 92 ∧ (∀ x ∈ l, api_Span_91.ok x) ∧ l.length < 4611686018427387904 := ⟨rfl, h, hl⟩
  rw [dif_pos hc]
  obtain ⟨L, hL⟩ : ∃ L, l.attachWith api_Span_91.ok hc.2.1 = L := ⟨_, rfl⟩
  have hm : L.map (fun x => x.1) = l := by rw [← hL]; simp
  rw [hL]
  have hP := Go.Sort.pdq_sorts (ltOf api_Span_91.cf) api_Span_91.swo L.toArray 0 L.toArray.size (Lib.bitLen L.toArray.size) true true (Nat.zero_le _) (Nat.le_refl _) (Or.inl rfl)
  generalize Go.Sort.pdq (ltOf api_Span_91.cf) L.toArray 0 L.toArray.size (Lib.bitLen L.toArray.size) true true = d' at hP
  obtain ⟨⟨hsz, _, hperm⟩, hsort⟩ := hP
  refine ⟨_, rfl, ?_, ?_⟩
  · rw [← hm]
    refine List.Perm.map _ ?_
    have e1 : (d'.extract 0 L.toArray.size).toList = d'.toList := by
      rw [← hsz]
      simp
    have e2 : (L.toArray.extract 0 L.toArray.size).toList = L := by simp
    rw [e1, e2] at hperm
    exact hperm
  · rw [List.pairwise_map, List.pairwise_iff_getElem]
    intro i j hi hj hij
    have hi' : i < d'.size := by simpa using hi
    have hj' : j < d'.size := by simpa using hj
    have hs := hsort i j (Nat.zero_le _) hij (by omega)
    rw [getElem!_pos d' i hi', getElem!_pos d' j hj'] at hs
    have h2 : ¬ (d'[j].1.f0 - d'[i].1.f0 < 0) := of_decide_eq_false hs
    simp only [Array.getElem_toList]
    omega
theorem perm_spn {r : List S46} {m : List (Nat × Nat)} (h : r.Perm (m.map spn)) : ∃ q : List (Nat × Nat), r = q.map spn ∧ q.Perm m := by
  refine ⟨r.map fun s => (s.f0.toNat, s.f1.toNat), ?_, ?_⟩
  · rw [List.map_map]
    refine (List.map_id r).symm.trans (List.map_congr_left fun s hs => ?_)
    obtain ⟨p, _, rfl⟩ := List.mem_map.1 (h.mem_iff.1 hs)
    simp [spn]
  · have := h.map fun s : S46 => (s.f0.toNat, s.f1.toNat)
    rw [List.map_map] at this
    have e : m.map ((fun s : S46 => (s.f0.toNat, s.f1.toNat)) ∘ spn) = m := (List.map_congr_left (fun p _ => by simp [spn])).trans (List.map_id m)
    rwa [e] at this
theorem Concat_ev (a b : List S46) (ha : a.length ≤ 1000000) (hb : b.length ≤ 1000000) : Ev (fun k => api_Span_58.f k [a, b]) (a ++ b) := by
  have w1 : wrap64 (0 + (a.length : Int)) = (a.length : Int) := by unfold wrap64; omega
  have w2 : wrap64 ((a.length : Int) + (b.length : Int)) = (a.length : Int) + (b.length : Int) := by unfold wrap64; omega
  have r0 : rd_L3 [a, b] 0 = a := rfl
  have r1 : rd_L3 [a, b] 1 = b := rfl
  have e0 : wrap64 ((0 : Int) + 1) = 1 := by rw [wr64 (by omega) (by omega)]; rfl
  have e1 : wrap64 ((1 : Int) + 1) = 2 := by rw [wr64 (by omega) (by omega)]; rfl
  have hl : (([a, b] : List (List S46)).length : Int) = 2 := rfl
  unfold api_Span_58.f
  rw [hl]
  refine Ev.step (fun _ => api_Span_58.l0.eq_2 ..) (ev_pos (by decide) (ev_pos (by decide) (ev_pos (by rw [hl]; decide) ?_)))
  rw [r0, w1, e0]
  refine ev_neg (by omega) (Ev.step (fun _ => api_Span_58.l0.eq_2 ..) (ev_pos (by decide) (ev_pos (by decide) (ev_pos (by rw [hl]; decide) ?_))))
  rw [r1, w2, e1]
  refine ev_neg (by omega) (Ev.step (fun _ => api_Span_58.l0.eq_2 ..) (ev_neg (by decide) ?_))
  rw [hl]
  refine ev_bindc (a := []) (by unfold api_Span_93.f; rw [if_pos (by simp; omega)]) ?_
  refine Ev.step (fun _ => api_Span_58.l1.eq_2 ..) (ev_pos (by decide) (ev_pos (by decide) (ev_pos (by rw [hl]; decide) ?_)))
  rw [r0, e0]
  refine ev_pos (by simp; omega) (Ev.step (fun _ => api_Span_58.l1.eq_2 ..) (ev_pos (by decide) (ev_pos (by decide) (ev_pos (by rw [hl]; decide) ?_))))
  rw [r1, e1]
  exact ev_pos (by simp; omega) (Ev.step (fun _ => api_Span_58.l1.eq_2 ..) (ev_neg (by decide) (ev_val (by simp))))
theorem rd_last (o : List (Nat × Nat)) (p : Nat × Nat) : rd_T46 (((p :: o).reverse).map spn) (((((p :: o).reverse).map spn).length - 1 : Nat) : Int) = spn p := by
  have h : (((p :: o).reverse).map spn).length = o.length + 1 := by simp
  rw [rdT_at _ _ (by omega)]
  simp
theorem set_last (o : List (Nat × Nat)) (p q : Nat × Nat) : (((p :: o).reverse).map spn).set ((((p :: o).reverse).map spn).length - 1) (spn q) = ((q :: o).reverse).map spn := by
  simp only [List.reverse_cons, List.map_append, List.map_cons, List.map_nil, List.length_append, List.length_map, List.length_reverse, List.length_singleton, Nat.add_sub_cancel]
  rw [List.set_append_right _ _ (by simp)]
  simp
theorem put_loop (q : List (Nat × Nat)) (hq : q.length ≤ 1000000) (d : Nat) : ∀ (j : Nat) (o : List (Nat × Nat)), q.length - j ≤ d → j ≤ q.length → o.length ≤ j →
    Ev (fun k => privilege_put.l0 k (o.reverse.map spn) (q.map spn) (q.length : Int) (j : Int)) ((putR o (q.drop j)).reverse.map spn) := by
  induction d with
  | zero =>
    intro j o hd hj ho
    obtain rfl : j = q.length := by omega
    rw [List.drop_length]
    exact Ev.step (fun _ => privilege_put.l0.eq_2 ..) (ev_neg (by omega) (ev_val (by cases o <;> rfl)))
  | succ d ih =>
    intro j o hd hj ho
    by_cases hlt : j < q.length
    · have hw : wrap64 ((j : Int) + 1) = ((j + 1 : Nat) : Int) := by rw [wr64 (by omega) (by omega)]; omega
      have hlen : ((q.map spn).length : Int) = (q.length : Int) := by simp
      rw [List.drop_eq_getElem_cons hlt]
      refine Ev.step (fun _ => privilege_put.l0.eq_2 ..) (ev_pos (by omega) (ev_pos (by omega) (ev_pos (by omega) ?_)))
      rw [rdT_spn q j hlt, hw]
      generalize q[j] = s at *
      cases o with
      | nil =>
        have e : wrap64 ((((([] : List (Nat × Nat)).reverse.map spn).length : Nat) : Int) - 1) = -1 := by
          show wrap64 ((0 : Int) - 1) = -1
          rw [wr64 (by omega) (by omega)]
          rfl
        rw [e]
        refine ev_neg (by decide) (ev_pos (by simp) ?_)
        exact ih (j + 1) [s] (by omega) (by omega) (by simp)
      | cons p o =>
        have hlo : (((p :: o).reverse).map spn).length = o.length + 1 := by simp
        have e : wrap64 (((((p :: o).reverse.map spn).length : Nat) : Int) - 1) = (((((p :: o).reverse).map spn).length - 1 : Nat) : Int) := by
          rw [hlo]
          simp only [List.length_cons] at ho
          rw [wr64 (by omega) (by omega)]
          omega
        rw [e]
        refine ev_pos (by omega) (ev_pos (by omega) (ev_pos (by omega) ?_))
        rw [rd_last, Int.toNat_natCast]
        simp only [putR]
        by_cases hle : s.1 ≤ p.2
        · rw [if_pos hle]
          refine ev_pos (by simp only [spn]; omega) ?_
          have hm : (⟨(spn p).f0, mx (spn p).f1 (spn s).f1⟩ : S46) = spn (p.1, max p.2 s.2) := by
            simp only [spn]
            congr 1
            unfold mx
            split <;> omega
          rw [hm, set_last]
          exact ih (j + 1) ((p.1, max p.2 s.2) :: o) (by omega) (by omega) (by simpa using Nat.le_trans ho (Nat.le_succ j))
        · rw [if_neg hle]
          refine ev_neg (by simp only [spn]; omega) (ev_pos (by rw [hlo]; simp only [List.length_cons] at ho; omega) ?_)
          have ha : ((p :: o).reverse).map spn ++ [(⟨(spn s).f0, (spn s).f1⟩ : S46)] = ((s :: p :: o).reverse).map spn := by
            rw [List.reverse_cons (a := s), List.map_append]
            rfl
          rw [ha]
          exact ih (j + 1) (s :: p :: o) (by omega) (by omega) (by simpa using ho)
    · obtain rfl : j = q.length := by omega
      exact ih _ o (by omega) (by omega) ho
theorem put_ev (m : List (Nat × Nat)) (hm : m.length ≤ 1000000) (hv : ∀ p ∈ m, p.1 < p.2) (hb : ∀ p ∈ m, p.2 ≤ 1000000) :
    ∃ r : List (Nat × Nat), Ev (fun k => privilege_put.f k (m.map spn)) (r.map spn) ∧ Norm r ∧ ∀ i, cov r i = cov m i := by
  obtain ⟨x, hx, hp, hs⟩ := sort_is (m.map spn) (fun x hx => by
    obtain ⟨p, hp, rfl⟩ := List.mem_map.1 hx
    have h1 := hv p hp
    have h2 := hb p hp
    simp only [spn]
    omega) (by simp; omega)
  obtain ⟨q, rfl, hq⟩ := perm_spn hp
  have hlen : q.length = m.length := hq.length_eq
  have hs2 : q.Pairwise (fun a b => a.1 ≤ b.1) := by
    rw [List.pairwise_map] at hs
    exact hs.imp fun {a b} h => by simp only [spn] at h; omega
  obtain ⟨h1, h2⟩ := putR_law q [] ⟨by simp, by simp⟩ (fun s hsq => hv s (hq.mem_iff.1 hsq)) hs2 (by simp)
  refine ⟨(putR [] q).reverse, ?_, h1.norm, fun i => ?_⟩
  · unfold privilege_put.f
    refine ev_bindc hx ?_
    have := put_loop q (by omega) _ 0 [] (Nat.le_refl _) (by omega) (by simp)
    simpa [hlen] using this
  · rw [cov_reverse, h2, cov_nil, Bool.false_or]
    exact cov_perm hq i
end Go.Proofs.YtolcpmdojlbhcaaDoor.Pc
namespace Go.Proofs.YtolcpmdojlbhcaaDoor.Pc
open Go.RowKit Go.Proofs.YtolcpmdojlbhcaaDoor.GBase Go.Proofs.YtolcpmdojlbhcaaDoorW.PrintWords Go.Proofs.YtolcpmdojlbhcaaDoorW.PrintLast
set_option linter.unusedVariables false
set_option linter.unusedSimpArgs false
def fewL (l : List S46) : List S46 × Int := if (l.length : Int) > 1000 then ([], 2) else (l, 0)
theorem few_is (l : List S46) : privilege_few.f l = some (fewL l) := by
  unfold privilege_few.f fewL
  split <;> rfl
theorem Union_ev (a b : List (Nat × Nat)) (n : Nat) (hn : n ≤ 1000000) (ha : a.length ≤ 100000) (hb : b.length ≤ 100000) (hav : ∀ p ∈ a, p.1 < p.2 ∧ p.2 ≤ n) (hbv : ∀ p ∈ b, p.1 < p.2 ∧ p.2 ≤ n) (h1 : chk (a.map spn) n = 0) (h2 : chk (b.map spn) n = 0) :
    ∃ r : List (Nat × Nat), Norm r ∧ (∀ i, cov r i = (cov a i || cov b i)) ∧ Ev (fun k => privilege_Union.f k (a.map spn) (b.map spn) (n : Int)) (fewL (r.map spn)) := by
  obtain ⟨r, hr, hr1, hr2⟩ := put_ev (a ++ b) (by simp; omega) (fun p hp => by
    rcases List.mem_append.1 hp with h | h
    · exact (hav p h).1
    · exact (hbv p h).1) (fun p hp => by
    rcases List.mem_append.1 hp with h | h
    · have := (hav p h).2; omega
    · have := (hbv p h).2; omega)
  refine ⟨r, hr1, fun i => by rw [hr2, cov_append], ?_⟩
  unfold privilege_Union.f
  refine Ev.bind (CheckSpans_ev _ (by simp; omega) _) (Ev.bind (CheckSpans_ev _ (by simp; omega) _) (Ev.bind (First_ev _ (by simp)) ?_))
  rw [h1, h2]
  refine ev_pos (by simp [firstOf]) (Ev.bind (Concat_ev _ _ (by simp; omega) (by simp; omega)) ?_)
  rw [← List.map_append]
  exact Ev.bind hr (ev_bindc (few_is _) (ev_val rfl))
theorem outR_len (t : Nat) (b : List (Nat × Nat)) : ∀ (acc : List (Nat × Nat)) (a : Nat), (outR t acc a b).length ≤ acc.length + b.length + 1 := by
  induction b with
  | nil => intro acc a; simp only [outR]; split <;> simp
  | cons x b ih =>
    intro acc a
    simp only [outR, List.length_cons]
    split
    · have := ih acc a; omega
    · split
      · have := ih ((a, x.1) :: acc) x.2; simp only [List.length_cons] at this; omega
      · have := ih acc x.2; omega
theorem snoc_spn (o : List (Nat × Nat)) (a t : Nat) : o.reverse.map spn ++ [(⟨(a : Int), (t : Int)⟩ : S46)] = (((a, t) :: o).reverse).map spn := by
  rw [List.reverse_cons, List.map_append]
  rfl
theorem out_in (A : List S46) (m : Int) (b : List (Nat × Nat)) (hb : b.length ≤ 1000000) (j : Nat) (hj : j < 1000000) (s0 : Int) (t : Nat) (R : List S46 × Int) (d : Nat) : ∀ (i : Nat) (acc : List (Nat × Nat)) (a : Nat), b.length - i ≤ d → i ≤ b.length → acc.length + (b.length - i) ≤ 4000000000000 →
    Ev (fun k => privilege_Without.l0 k (b.map spn) ((outR t acc a (b.drop i)).reverse.map spn) A m ((j + 1 : Nat) : Int)) R →
    Ev (fun k => privilege_Without.l1 k (b.map spn) (acc.reverse.map spn) (a : Int) A m (j : Int) (b.map spn) ((b.map spn).length : Int) (i : Int) s0 (t : Int)) R := by
  have hwj : wrap64 ((j : Int) + 1) = ((j + 1 : Nat) : Int) := by rw [wr64 (by omega) (by omega)]; omega
  have fin : ∀ (acc : List (Nat × Nat)) (a : Nat), acc.length ≤ 4000000000000 → Ev (fun k => privilege_Without.l0 k (b.map spn) ((outR t acc a []).reverse.map spn) A m ((j + 1 : Nat) : Int)) R →
      Ev (fun k => privilege_Without.l1 k (b.map spn) (acc.reverse.map spn) (a : Int) A m (j : Int) (b.map spn) ((b.map spn).length : Int) (b.length : Int) s0 (t : Int)) R := fun acc a ha h => by
    simp only [outR] at h
    refine Ev.step (fun _ => privilege_Without.l1.eq_2 ..) (ev_neg (by simp) ?_)
    rw [hwj]
    by_cases hlt : a < t
    · rw [if_pos hlt] at h
      refine ev_pos (by omega) (ev_pos (by simp; omega) ?_)
      rw [snoc_spn]
      exact h
    · rw [if_neg hlt] at h
      exact ev_neg (by omega) h
  induction d with
  | zero =>
    intro i acc a hd hi ha h
    obtain rfl : i = b.length := by omega
    rw [List.drop_length] at h
    exact fin acc a (by omega) h
  | succ d ih =>
    intro i acc a hd hi ha h
    by_cases hlt : i < b.length
    · have hwi : wrap64 ((i : Int) + 1) = ((i + 1 : Nat) : Int) := by rw [wr64 (by omega) (by omega)]; omega
      have hlen : ((b.map spn).length : Int) = (b.length : Int) := by simp
      rw [List.drop_eq_getElem_cons hlt] at h
      refine Ev.step (fun _ => privilege_Without.l1.eq_2 ..) (ev_pos (by omega) (ev_pos (by omega) (ev_pos (by omega) ?_)))
      rw [rdT_spn b i hlt]
      generalize b[i] = x at *
      simp only [outR] at h
      have skip : (x.2 ≤ a ∨ x.1 ≥ t) → Ev (fun k => privilege_Without.j2 k (b.map spn) (acc.reverse.map spn) (a : Int) A m (j : Int) (b.map spn) ((b.map spn).length : Int) (i : Int) true s0 (t : Int) (spn x).f0 (spn x).f1) R := fun hs => by
        rw [if_pos hs] at h
        refine Ev.step (fun _ => privilege_Without.j2.eq_2 ..) (ev_pos rfl ?_)
        rw [hwi]
        exact ih (i + 1) acc a (by omega) (by omega) (by omega) h
      by_cases h1 : x.2 ≤ a
      · exact ev_pos (by simp only [spn]; omega) (skip (.inl h1))
      · refine ev_neg (by simp only [spn]; omega) ?_
        by_cases h2 : x.1 ≥ t
        · have : decide ((spn x).f0 ≥ (t : Int)) = true := by simp [spn]; omega
          rw [this]
          exact skip (.inr h2)
        · have : decide ((spn x).f0 ≥ (t : Int)) = false := by simp [spn]; omega
          rw [this]
          rw [if_neg (by omega)] at h
          refine Ev.step (fun _ => privilege_Without.j2.eq_2 ..) (ev_neg (by simp) ?_)
          rw [hwi]
          by_cases h3 : x.1 > a
          · rw [if_pos h3] at h
            refine ev_pos (by simp only [spn]; omega) (ev_pos (by simp; omega) ?_)
            have e : (⟨(a : Int), (spn x).f0⟩ : S46) = ⟨(a : Int), (x.1 : Int)⟩ := rfl
            rw [e, snoc_spn]
            exact ih (i + 1) ((a, x.1) :: acc) x.2 (by omega) (by omega) (by simp only [List.length_cons]; omega) h
          · rw [if_neg h3] at h
            refine ev_neg (by simp only [spn]; omega) ?_
            exact ih (i + 1) acc x.2 (by omega) (by omega) (by omega) h
    · obtain rfl : i = b.length := by omega
      exact ih _ acc a (by omega) (by omega) ha h
theorem out_loop (a b : List (Nat × Nat)) (ha : a.length ≤ 1000) (hb : b.length ≤ 1000) (d : Nat) : ∀ (j : Nat) (acc : List (Nat × Nat)), a.length - j ≤ d → j ≤ a.length → acc.length ≤ j * 1001 →
    Ev (fun k => privilege_Without.l0 k (b.map spn) (acc.reverse.map spn) (a.map spn) (a.length : Int) (j : Int)) (fewL ((outAll b acc (a.drop j)).reverse.map spn)) := by
  induction d with
  | zero =>
    intro j acc hd hj _
    obtain rfl : j = a.length := by omega
    rw [List.drop_length]
    exact Ev.step (fun _ => privilege_Without.l0.eq_2 ..) (ev_neg (by omega) (ev_bindc (few_is _) (ev_val rfl)))
  | succ d ih =>
    intro j acc hd hj hacc
    by_cases hlt : j < a.length
    · have hlen : ((a.map spn).length : Int) = (a.length : Int) := by simp
      rw [List.drop_eq_getElem_cons hlt]
      refine Ev.step (fun _ => privilege_Without.l0.eq_2 ..) (ev_pos (by omega) (ev_pos (by omega) (ev_pos (by omega) ?_)))
      rw [rdT_spn a j hlt]
      have hl := outR_len a[j].2 b acc a[j].1
      refine out_in (a.map spn) _ b (by omega) j (by omega) _ a[j].2 _ _ 0 acc a[j].1 (Nat.le_refl _) (by omega) (by omega) ?_
      rw [List.drop_zero]
      exact ih (j + 1) _ (by omega) (by omega) (by omega)
    · obtain rfl : j = a.length := by omega
      exact ih _ acc (by omega) (by omega) hacc
theorem Without_ev (a b : List (Nat × Nat)) (n : Nat) (ha : Norm a) (hb : Norm b) (hal : a.length ≤ 1000) (hbl : b.length ≤ 1000) (h1 : chk (a.map spn) n = 0) (h2 : chk (b.map spn) n = 0) :
    ∃ r : List (Nat × Nat), Norm r ∧ (∀ i, cov r i = (cov a i && !cov b i)) ∧ Ev (fun k => privilege_Without.f k (a.map spn) (b.map spn) (n : Int)) (fewL (r.map spn)) := by
  obtain ⟨p1, p2⟩ := outAll_law b hb a [] ha ⟨by simp, by simp⟩ (by simp)
  refine ⟨(outAll b [] a).reverse, p1.norm, fun i => by rw [cov_reverse, p2, cov_nil]; simp, ?_⟩
  unfold privilege_Without.f
  refine Ev.bind (CheckSpans_ev _ (by simp; omega) _) (Ev.bind (CheckSpans_ev _ (by simp; omega) _) (Ev.bind (First_ev _ (by simp)) ?_))
  rw [h1, h2]
  refine ev_pos (by simp [firstOf]) ?_
  have := out_loop a b hal hbl _ 0 [] (Nat.le_refl _) (by omega) (by simp)
  simpa using this
theorem eqN_loop (l : List S46) (hn : l.length ≤ 1048577) (d : Nat) : ∀ j : Nat, l.length - j ≤ d → j ≤ l.length → Ev (fun k => api_Span_24.l0 k l l (l.length : Int) (j : Int)) true := by
  induction d with
  | zero => intro j hd hj; exact Ev.step (fun _ => api_Span_24.l0.eq_2 ..) (ev_neg (by omega) (ev_val rfl))
  | succ d ih =>
    intro j hd hj
    by_cases hlt : j < l.length
    · have hw : wrap64 ((j : Int) + 1) = ((j + 1 : Nat) : Int) := by rw [wr64 (by omega) (by omega)]; omega
      refine Ev.step (fun _ => api_Span_24.l0.eq_2 ..) (ev_pos (by omega) (ev_pos (by omega) (ev_pos (by omega) (ev_pos (by omega) (ev_neg (by simp) ?_)))))
      rw [hw]
      exact ih (j + 1) (by omega) (by omega)
    · exact Ev.step (fun _ => api_Span_24.l0.eq_2 ..) (ev_neg (by omega) (ev_val rfl))
theorem eqN_ev (l : List S46) (hn : l.length ≤ 1048577) : Ev (fun k => api_Span_24.f k l l) true := by
  unfold api_Span_24.f
  exact ev_pos rfl (eqN_loop l hn _ 0 (Nat.le_refl _) (by omega))
end Go.Proofs.YtolcpmdojlbhcaaDoor.Pc
