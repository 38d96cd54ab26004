/- A part of the proof of wordsDiffer. No conditions. Laid by program over the kit's print and words. -/
import Derived.Test.YtbamfhcifpfocaaDoorZdUwKept
import Derived.Test.YtbamfhcifpfocaaDoorZdPwx8
namespace Go.Proofs.YtbamfhcifpfocaaDoor.Pw
open Go.RowKit Go.Proofs.YtbamfhcifpfocaaDoor.GBase Go.Proofs.YtbamfhcifpfocaaDoorW.PrintWords Go.Proofs.YtbamfhcifpfocaaDoorW.PrintLast Go.Proofs.YtbamfhcifpfocaaDoorW.PrintMore
set_option linter.unusedVariables false
set_option linter.unusedSimpArgs false
theorem krl (T : List (List Int)) (p : Nat) : rd_L5 T (p : Int) = T.getD p [] := by simp [rd_L5]
theorem getD_put {T : List (List Int)} {i : Nat} (r : List Int) (hi : i < T.length) : (T.set i r).getD i [] = r := by
  simp [List.getD_eq_getElem?_getD, hi]
theorem getD_far {T : List (List Int)} {i p : Nat} (r : List Int) (h : i ≠ p) : (T.set i r).getD p [] = T.getD p [] := by
  simp [List.getD_eq_getElem?_getD, List.getElem?_set_ne h]
def Hd (a b : List ByteArray) (T : List (List Int)) (i j : Nat) : Prop :=
  T.length = a.length + 1 ∧ (∀ p, p ≤ a.length → (T.getD p []).length = b.length + 1) ∧ ∀ p q, p ≤ a.length → q ≤ b.length → (i < p ∨ (p = i ∧ j ≤ q) ∨ q = b.length) → (T.getD p [])[q]? = some (lcs (a.drop p) (b.drop q) : Int)
theorem Hd.put {a b : List ByteArray} {T : List (List Int)} {i j : Nat} (h : Hd a b T i (j + 1)) (hi : i < a.length) (hj : j < b.length) (r : List Int) (v : Int) (hr : r = (T.getD i []).set j v) (hv : v = (lcs (a.drop i) (b.drop j) : Int)) : Hd a b (T.set i r) i j := by
  subst hr
  subst hv
  have hil : i < T.length := by rw [h.1]; omega
  refine ⟨by rw [List.length_set]; exact h.1, fun p hp => ?_, fun p q hp hq hc => ?_⟩
  · by_cases e : i = p
    · subst e
      rw [getD_put _ hil, List.length_set]
      exact h.2.1 i hp
    · rw [getD_far _ e]
      exact h.2.1 p hp
  · by_cases e : i = p
    · subst e
      rw [getD_put _ hil]
      by_cases e2 : j = q
      · subst e2
        rw [List.getElem?_set_self (by rw [h.2.1 i hp]; omega)]
      · rw [List.getElem?_set_ne e2]
        refine h.2.2 i q hp hq ?_
        rcases hc with hc | hc | hc
        · exact .inl hc
        · exact .inr (.inl ⟨rfl, by omega⟩)
        · exact .inr (.inr hc)
    · rw [getD_far _ e]
      refine h.2.2 p q hp hq ?_
      rcases hc with hc | hc | hc
      · exact .inl hc
      · exact absurd hc.1.symm e
      · exact .inr (.inr hc)
def AllR (a b : List ByteArray) (T : List (List Int)) : Prop := T.length = a.length + 1 ∧ (∀ p, p ≤ a.length → (T.getD p []).length = b.length + 1) ∧ ∀ p q, p ≤ a.length → q ≤ b.length → (T.getD p [])[q]? = some (lcs (a.drop p) (b.drop q) : Int)
theorem keptOf_rows (a b : List ByteArray) (R : List S132) (hn : a.length ≤ 4000) (hm : b.length ≤ 4000)
    (fin : ∀ T, AllR a b T → Ev (fun k => chaseref1_keptOf.l3 k a b T [] 0 (a.length : Int) 0) R) :
    ∀ i, i ≤ a.length → ∀ T, Hd a b T i 0 → Ev (fun k => chaseref1_keptOf.l1 k a b T (wrap64 ((i : Int) - 1))) R := by
  intro i
  induction i with
  | zero =>
    intro _ T h
    refine Ev.step (fun _ => chaseref1_keptOf.l1.eq_2 ..) (ev_neg (by rw [wr64 (by omega) (by omega)]; omega) (fin T ⟨h.1, h.2.1, fun p q hp hq => h.2.2 p q hp hq ?_⟩))
    rcases Nat.eq_zero_or_pos p with e | e
    · exact .inr (.inl ⟨e, Nat.zero_le _⟩)
    · exact .inl e
  | succ i ih =>
    intro hi T h
    have inner : ∀ j, j ≤ b.length → ∀ T, Hd a b T i j → Ev (fun k => chaseref1_keptOf.l2 k a b T (i : Int) (wrap64 ((j : Int) - 1))) R := by
      intro j
      induction j with
      | zero =>
        intro _ T h
        exact Ev.step (fun _ => chaseref1_keptOf.l2.eq_2 ..) (ev_neg (by rw [wr64 (by omega) (by omega)]; omega) (ih (by omega) T h))
      | succ j jh =>
        intro hj T h
        have hil : i < a.length := by omega
        have hjl : j < b.length := by omega
        have w1 := Aside0.mk (kadd1 i (by omega))
        have w2 := Aside0.mk (kadd1 j (by omega))
        have tl := h.1
        have c1 := h.2.1 i (by omega)
        have c2 := h.2.1 (i + 1) (by omega)
        have e1 := krdi (h.2.2 (i + 1) (j + 1) (by omega) (by omega) (.inl (by omega)))
        have e2 := krdi (h.2.2 (i + 1) j (by omega) (by omega) (.inl (by omega)))
        have e3 := krdi (h.2.2 i (j + 1) (by omega) (by omega) (.inr (.inl ⟨rfl, by omega⟩)))
        have next := jh (by omega)
        have tab := lcs_tab2 a b i j hil hjl
        have bd := lcs_le1 (a.drop (i + 1)) (b.drop (j + 1))
        rw [List.length_drop] at bd
        have w3 := Aside0.mk (kadd1 (lcs (a.drop (i + 1)) (b.drop (j + 1))) (by omega))
        have hput := h.put hil hjl
        rw [ksub1 j (by omega)]
        refine Ev.step (fun _ => chaseref1_keptOf.l2.eq_2 ..) (ev_pos (by omega) (ev_pos (by omega) (ev_pos (by omega) ?_)))
        simp only [w1.out, w2.out, krl, e1, e2, e3, Int.toNat_natCast, krd a i hil, krd b j hjl]
        refine ev_pos (by omega) (ev_pos (by omega) (ev_pos (by omega) (ev_pos (by omega) (ev_pos (by omega) (ev_pos (by omega) (ev_pos (by omega) (ev_bindc rfl (ev_pos (by omega) (ev_pos (by omega) ?_)))))))))
        have g1 : ∀ r : List Int, (T.set i r).getD i [] = r := fun r => getD_put r (by omega)
        have g2 : ∀ r : List Int, (T.set i r).getD (i + 1) [] = T.getD (i + 1) [] := fun r => getD_far r (by omega)
        have g3 : ∀ v : Int, rd ((T.getD i []).set j v) (j : Int) = v := fun v => krdi (List.getElem?_set_self (by omega))
        simp only [g1, g2, g3, e1, w3.out, List.set_set]
        by_cases e : a[i].toList = b[j].toList
        · rw [if_pos e] at tab
          refine ev_pos e (ev_pos (by rw [List.length_set]; omega) (ev_pos (by omega) (next _ (hput _ _ rfl ?_))))
          rw [tab]
          unfold mx
          split <;> split <;> omega
        · rw [if_neg e] at tab
          refine ev_neg e (next _ (hput _ _ rfl ?_))
          rw [tab]
          unfold mx
          split <;> omega
    rw [ksub1 i (by omega)]
    refine Ev.step (fun _ => chaseref1_keptOf.l1.eq_2 ..) (ev_pos (by omega) (inner b.length (Nat.le_refl _) T ⟨h.1, h.2.1, fun p q hp hq hc => h.2.2 p q hp hq ?_⟩))
    rcases hc with hc | hc | hc
    · rcases Nat.lt_or_ge (i + 1) p with e | e
      · exact .inl e
      · exact .inr (.inl ⟨by omega, Nat.zero_le _⟩)
    · exact .inr (.inr (by omega))
    · exact .inr (.inr hc)
theorem keptOf_pick (a b : List ByteArray) (hn : a.length ≤ 4000) (hm : b.length ≤ 4000) (T : List (List Int)) (hT : AllR a b T) (d : Nat) : ∀ (i j : Nat) (acc : List S132), a.length - i ≤ d → i ≤ a.length → j ≤ b.length → acc.length ≤ i →
    Ev (fun k => chaseref1_keptOf.l3 k a b T acc (j : Int) (a.length : Int) (i : Int)) (acc ++ sel (a.drop i) (b.drop j) i j) := by
  induction d with
  | zero =>
    intro i j acc hd hi hj ha
    rw [show a.drop i = [] from List.drop_eq_nil_of_le (by omega)]
    simp only [sel, List.append_nil]
    exact Ev.step (fun _ => chaseref1_keptOf.l3.eq_2 ..) (ev_neg (by omega) (Ev.now _))
  | succ d ih =>
    intro i j acc hd hi hj ha
    by_cases hil : i < a.length
    · have w1 := Aside0.mk (kadd1 i (by omega))
      have hskip := ih (i + 1) j acc (by omega) (by omega) hj (by omega)
      have hhit : ∀ q, q < b.length → Ev (fun k => chaseref1_keptOf.l3 k a b T (acc ++ [⟨(i : Int), (q : Int)⟩]) ((q + 1 : Nat) : Int) (a.length : Int) ((i + 1 : Nat) : Int)) (acc ++ ((⟨(i : Int), (q : Int)⟩ : S132) :: sel (a.drop (i + 1)) (b.drop (q + 1)) (i + 1) (q + 1))) := fun q hq =>
        ev_eq (ih (i + 1) (q + 1) _ (by omega) (by omega) (by omega) (by rw [List.length_append]; simp only [List.length_cons, List.length_nil]; omega)) (by rw [List.append_assoc]; rfl)
      have r1 := krdi (hT.2.2 i j (by omega) hj)
      have c1 := hT.2.1 i (by omega)
      have c2 := hT.2.1 (i + 1) (by omega)
      have tl := hT.1
      have scan : ∀ (dd q : Nat), b.length - q ≤ dd → q ≤ b.length → Ev (fun k => chaseref1_keptOf.l4 k a b T acc (j : Int) (i : Int) (q : Int) (a.length : Int) (i : Int))
          (match nxtP a[i] (a.drop (i + 1)) (lcs (a.drop i) (b.drop j)) (b.drop q) with
            | none => acc ++ sel (a.drop (i + 1)) (b.drop j) (i + 1) j
            | some k => acc ++ ((⟨(i : Int), ((q + k : Nat) : Int)⟩ : S132) :: sel (a.drop (i + 1)) (b.drop (q + k + 1)) (i + 1) (q + k + 1))) := by
        intro dd
        have stop : ∀ q, ¬ q < b.length → Ev (fun k => chaseref1_keptOf.l4 k a b T acc (j : Int) (i : Int) (q : Int) (a.length : Int) (i : Int))
          (match nxtP a[i] (a.drop (i + 1)) (lcs (a.drop i) (b.drop j)) (b.drop q) with
            | none => acc ++ sel (a.drop (i + 1)) (b.drop j) (i + 1) j
            | some k => acc ++ ((⟨(i : Int), ((q + k : Nat) : Int)⟩ : S132) :: sel (a.drop (i + 1)) (b.drop (q + k + 1)) (i + 1) (q + k + 1))) := fun q hq => by
          rw [show b.drop q = [] from List.drop_eq_nil_of_le (by omega)]
          refine Ev.step (fun _ => chaseref1_keptOf.l4.eq_2 ..) (ev_neg (by omega) ?_)
          rw [w1.out]
          exact hskip
        induction dd with
        | zero => exact fun q h1 h2 => stop q (by omega)
        | succ dd jh =>
          intro q h1 h2
          by_cases hq : q < b.length
          · have w2 := Aside0.mk (kadd1 q (by omega))
            have e1 := krdi (hT.2.2 (i + 1) (q + 1) (by omega) (by omega))
            have bd := lcs_le1 (a.drop (i + 1)) (b.drop (q + 1))
            rw [List.length_drop] at bd
            have w3 := Aside0.mk (kadd1 (lcs (a.drop (i + 1)) (b.drop (q + 1))) (by omega))
            have again := jh (q + 1) (by omega) (by omega)
            have shift : (match (nxtP a[i] (a.drop (i + 1)) (lcs (a.drop i) (b.drop j)) (b.drop (q + 1))).map (· + 1) with
                | none => acc ++ sel (a.drop (i + 1)) (b.drop j) (i + 1) j
                | some k => acc ++ ((⟨(i : Int), ((q + k : Nat) : Int)⟩ : S132) :: sel (a.drop (i + 1)) (b.drop (q + k + 1)) (i + 1) (q + k + 1))) =
                (match nxtP a[i] (a.drop (i + 1)) (lcs (a.drop i) (b.drop j)) (b.drop (q + 1)) with
                | none => acc ++ sel (a.drop (i + 1)) (b.drop j) (i + 1) j
                | some k => acc ++ ((⟨(i : Int), ((q + 1 + k : Nat) : Int)⟩ : S132) :: sel (a.drop (i + 1)) (b.drop (q + 1 + k + 1)) (i + 1) (q + 1 + k + 1))) := by
              cases nxtP a[i] (a.drop (i + 1)) (lcs (a.drop i) (b.drop j)) (b.drop (q + 1)) with
              | none => rfl
              | some k =>
                simp only [Option.map_some]
                rw [show q + (k + 1) = q + 1 + k from by omega]
            refine Ev.step (fun _ => chaseref1_keptOf.l4.eq_2 ..) (ev_pos (by omega) (ev_pos (by omega) (ev_pos (by omega) (ev_pos (by omega) ?_))))
            simp only [w1.out, w2.out, krl, e1, r1, w3.out, krd a i hil, krd b q hq]
            rw [show b.drop q = b[q] :: b.drop (q + 1) from List.drop_eq_getElem_cons hq]
            simp only [nxtP]
            by_cases e : a[i].toList = b[q].toList
            · refine ev_pos e (ev_pos (by omega) (ev_pos (by omega) (ev_pos (by omega) (ev_pos (by omega) (ev_pos (by omega) (ev_pos (by omega) (ev_pos (by omega) ?_)))))))
              by_cases c : lcs (a.drop (i + 1)) (b.drop (q + 1)) + 1 = lcs (a.drop i) (b.drop j)
              · rw [if_pos ⟨e, c⟩]
                exact ev_pos (by omega) (ev_pos (by omega) (hhit q hq))
              · rw [if_neg (fun z => c z.2), shift]
                exact ev_neg (by omega) again
            · rw [if_neg (fun z => e z.1), shift]
              exact ev_neg e again
          · exact stop q hq
      have hda := List.drop_eq_getElem_cons hil
      refine Ev.step (fun _ => chaseref1_keptOf.l3.eq_2 ..) (ev_pos (by omega) (ev_eq (scan _ j (Nat.le_refl _) hj) ?_))
      rw [hda, nxtP_eq _ _ _ _ (Nat.le_refl _)]
      simp only [sel]
      cases nxt a[i] (b.drop j) with
      | none => rfl
      | some q =>
        have hdd : (b.drop j).drop (q + 1) = b.drop (j + q + 1) := by rw [List.drop_drop]; congr 1
        simp only [hdd]
        by_cases c : lcs (a.drop (i + 1)) (b.drop (j + q + 1)) + 1 = lcs (a[i] :: a.drop (i + 1)) (b.drop j)
        · simp only [if_pos c]
        · simp only [if_neg c]
    · rw [show a.drop i = [] from List.drop_eq_nil_of_le (by omega)]
      simp only [sel, List.append_nil]
      exact Ev.step (fun _ => chaseref1_keptOf.l3.eq_2 ..) (ev_neg (by omega) (Ev.now _))
theorem keptOf_fill (a b : List ByteArray) (R : List S132) (hn : a.length ≤ 4000) (hm : b.length ≤ 4000)
    (fin : Ev (fun k => chaseref1_keptOf.l1 k a b (List.replicate (a.length + 1) (List.replicate (b.length + 1) 0)) (wrap64 ((a.length : Int) - 1))) R) (d : Nat) : ∀ p, a.length + 1 - p ≤ d → p ≤ a.length + 1 →
    Ev (fun k => chaseref1_keptOf.l0 k a b (List.replicate p (List.replicate (b.length + 1) 0) ++ List.replicate (a.length + 1 - p) []) ((a.length + 1 : Nat) : Int) (p : Int)) R := by
  have stop : ∀ p, ¬ p < a.length + 1 → p ≤ a.length + 1 → Ev (fun k => chaseref1_keptOf.l0 k a b (List.replicate p (List.replicate (b.length + 1) 0) ++ List.replicate (a.length + 1 - p) []) ((a.length + 1 : Nat) : Int) (p : Int)) R := fun p h1 h2 => by
    obtain rfl : p = a.length + 1 := by omega
    rw [Nat.sub_self, List.replicate_zero, List.append_nil]
    exact Ev.step (fun _ => chaseref1_keptOf.l0.eq_2 ..) (ev_neg (by omega) fin)
  induction d with
  | zero => exact fun p h1 h2 => stop p (by omega) h2
  | succ d ih =>
    intro p h1 h2
    by_cases hp : p < a.length + 1
    · have w1 := kadd1 p (by omega)
      have w2 := kadd1 b.length (by omega)
      have hs : (List.replicate p (List.replicate (b.length + 1) (0 : Int)) ++ List.replicate (a.length + 1 - p) []).set p (List.replicate (b.length + 1) 0) = List.replicate (p + 1) (List.replicate (b.length + 1) 0) ++ List.replicate (a.length + 1 - (p + 1)) [] := by
        generalize List.replicate (b.length + 1) (0 : Int) = row
        rw [List.set_append, if_neg (by rw [List.length_replicate]; omega), List.length_replicate, Nat.sub_self, show a.length + 1 - p = (a.length + 1 - (p + 1)) + 1 from by omega, List.replicate_succ (n := a.length + 1 - (p + 1)), List.set_cons_zero, List.replicate_succ' (n := p), List.append_assoc]
        rfl
      refine Ev.step (fun _ => chaseref1_keptOf.l0.eq_2 ..) (ev_pos (by omega) ?_)
      simp only [w1, w2, Int.toNat_natCast, hs]
      refine ev_pos (by omega) (ev_pos (by omega) (ev_pos (by omega) (ev_pos ?_ (ih (p + 1) (by omega) (by omega)))))
      simp only [List.length_append, List.length_replicate]
      omega
    · exact stop p hp h2
theorem keptOf_ev (a b : List ByteArray) (hn : a.length ≤ 4000) (hm : b.length ≤ 4000) : Ev (fun k => chaseref1_keptOf.f k a b) (sel a b 0 0) := by
  have w1 := kadd1 a.length (by omega)
  refine Ev.congr (fun _ => chaseref1_keptOf.f.eq_1 ..) ?_
  simp only [w1, Int.toNat_natCast]
  refine ev_pos (by omega) (ev_pos (by omega) (ev_bindc rfl ?_))
  rw [List.length_replicate]
  refine keptOf_fill a b _ hn hm (keptOf_rows a b _ hn hm (fun T hT => ?_) a.length (Nat.le_refl _) _ ⟨List.length_replicate, fun p hp => ?_, fun p q hp hq hc => ?_⟩) _ 0 (Nat.le_refl _) (Nat.zero_le _)
  · have := keptOf_pick a b hn hm T hT _ 0 0 [] (Nat.le_refl _) (Nat.zero_le _) (Nat.zero_le _) (Nat.le_refl _)
    rw [List.drop_zero, List.drop_zero, List.nil_append] at this
    exact this
  · rw [List.getD_eq_getElem?_getD, List.getElem?_replicate, if_pos (by omega), Option.getD_some, List.length_replicate]
  · rw [List.getD_eq_getElem?_getD, List.getElem?_replicate, if_pos (by omega), Option.getD_some, List.getElem?_replicate, if_pos (by omega)]
    rcases hc with hc | hc | hc
    · omega
    · rw [show a.drop p = [] from List.drop_eq_nil_of_le (by omega), lcs_nil]; rfl
    · rw [show b.drop q = [] from List.drop_eq_nil_of_le (by omega), lcs_nil2]; rfl
end Go.Proofs.YtbamfhcifpfocaaDoor.Pw
