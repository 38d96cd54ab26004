/- Part of the proof that the law patchesLead is true for every input. No conditions. Laid by a program of this session over the kit's print and words; declarations that nothing names are left out. -/
import Derived.Test.YtomamgapdeggjaaDoorZlUlLcs
import Derived.Test.YtomamgapdeggjaaDoorZlPlx2
namespace Go.Proofs.YtomamgapdeggjaaDoor.Pl
open Go.RowKit Go.Proofs.YtomamgapdeggjaaDoor.GBase Go.Proofs.YtomamgapdeggjaaDoorW.PrintWords Go.Proofs.YtomamgapdeggjaaDoorW.PrintLast Go.Proofs.YtomamgapdeggjaaDoorW.PrintMore
set_option linter.unusedVariables false
set_option linter.unusedSimpArgs false
theorem kadd1 (a : Nat) (h : a ≤ 4611686018427387904) : wrap64 ((a : Int) + 1) = ((a + 1 : Nat) : Int) := by
  rw [wr64 (by omega) (by omega)]
  omega
theorem ksub1 (a : Nat) (h : a ≤ 4611686018427387904) : wrap64 (((a + 1 : Nat) : Int) - 1) = (a : Int) := by
  rw [wr64 (by omega) (by omega)]
  omega
theorem krd (l : List ByteArray) (j : Nat) (hj : j < l.length) : rdOf ByteArray.empty l (j : Int) = l[j] := by
  simp [rdOf, List.getD, hj]
theorem krdi {l : List Int} {j : Nat} {v : Int} (h : l[j]? = some v) : rd l (j : Int) = v := by
  simp [rd, List.getD, h]
theorem kcell (i j m : Nat) (hi : i ≤ 4001) (hj : j ≤ 4001) (hm : m ≤ 4000) : wrap64 (wrap64 ((i : Int) * ((m + 1 : Nat) : Int)) + (j : Int)) = ((i * (m + 1) + j : Nat) : Int) := by
  have h1 : i * (m + 1) ≤ 4001 * 4001 := Nat.mul_le_mul hi (by omega)
  have e : (i : Int) * ((m + 1 : Nat) : Int) = ((i * (m + 1) : Nat) : Int) := (Int.natCast_mul _ _).symm
  rw [e]
  generalize i * (m + 1) = q at *
  rw [wr64 (x := (q : Int)) (by omega) (by omega), wr64 (by omega) (by omega)]
  omega
theorem kbound (i j m : Nat) (hi : i ≤ 4001) (hj : j ≤ 4001) (hm : m ≤ 4000) : i * (m + 1) + j ≤ 100000000 := by
  have h1 : i * (m + 1) ≤ 4001 * 4001 := Nat.mul_le_mul hi (by omega)
  omega
theorem flat_inj {p q i j w : Nat} (hq : q < w) (hj : j < w) (h : p * w + q = i * w + j) : p = i ∧ q = j := by
  have h1 : (p * w + q) / w = p := by rw [Nat.mul_comm, Nat.mul_add_div (by omega), Nat.div_eq_of_lt hq]; omega
  have h2 : (i * w + j) / w = i := by rw [Nat.mul_comm, Nat.mul_add_div (by omega), Nat.div_eq_of_lt hj]; omega
  have h3 : p = i := by rw [← h1, ← h2, h]
  subst h3
  exact ⟨rfl, by omega⟩
theorem flat_lt {p q n w : Nat} (hp : p ≤ n) (hq : q < w) : p * w + q < (n + 1) * w := by
  have : p * w ≤ n * w := Nat.mul_le_mul_right w hp
  rw [Nat.succ_mul]
  omega
theorem nxt_ev (l : List ByteArray) (x : ByteArray) (hl : l.length ≤ 4000) (d : Nat) : ∀ p, l.length - p ≤ d → p ≤ l.length →
    Ev (fun k => slices_Index_string_string.l0 k l x (l.length : Int) (p : Int)) (match nxt x (l.drop p) with | none => -1 | some q => ((p + q : Nat) : Int)) := by
  induction d with
  | zero =>
    intro p hd hp
    rw [List.drop_eq_nil_of_le (by omega)]
    exact Ev.step (fun _ => slices_Index_string_string.l0.eq_2 ..) (ev_neg (by omega) (Ev.now _))
  | succ d ih =>
    intro p hd hp
    by_cases hlt : p < l.length
    · refine Ev.step (fun _ => slices_Index_string_string.l0.eq_2 ..) (ev_pos (by omega) (ev_pos (by omega) (ev_pos (by omega) ?_)))
      rw [krd l p hlt, kadd1 p (by omega), List.drop_eq_getElem_cons hlt]
      simp only [nxt]
      by_cases e : x.toList = l[p].toList
      · rw [if_pos e]
        exact ev_pos e (Ev.now _)
      · rw [if_neg e]
        refine ev_neg e (ev_eq (ih (p + 1) (by omega) (by omega)) ?_)
        cases nxt x (l.drop (p + 1)) with
        | none => rfl
        | some q => show ((p + 1 + q : Nat) : Int) = ((p + (q + 1) : Nat) : Int); omega
    · rw [List.drop_eq_nil_of_le (by omega)]
      exact Ev.step (fun _ => slices_Index_string_string.l0.eq_2 ..) (ev_neg (by omega) (Ev.now _))
theorem Index_ev (l : List ByteArray) (x : ByteArray) (hl : l.length ≤ 4000) : Ev (fun k => slices_Index_string_string.f k l x) (match nxt x l with | none => -1 | some q => (q : Int)) := by
  refine Ev.congr (fun _ => slices_Index_string_string.f.eq_1 ..) (ev_eq (nxt_ev l x hl _ 0 (Nat.le_refl _) (Nat.zero_le _)) ?_)
  rw [List.drop_zero]
  cases nxt x l with
  | none => rfl
  | some q => show ((0 + q : Nat) : Int) = (q : Int); omega
def Gd (a b : List ByteArray) (T : List Int) (i j : Nat) : Prop :=
  T.length = (a.length + 1) * (b.length + 1) ∧ ∀ p q, p ≤ a.length → q ≤ b.length → (i < p ∨ (p = i ∧ j ≤ q) ∨ q = b.length) → T[p * (b.length + 1) + q]? = some (lcs (a.drop p) (b.drop q) : Int)
theorem Gd.put {a b : List ByteArray} {T : List Int} {i j : Nat} (h : Gd a b T i (j + 1)) (hi : i < a.length) (hj : j < b.length) : Gd a b (T.set (i * (b.length + 1) + j) (lcs (a.drop i) (b.drop j) : Int)) i j := by
  refine ⟨by rw [List.length_set]; exact h.1, fun p q hp hq hc => ?_⟩
  by_cases e : p * (b.length + 1) + q = i * (b.length + 1) + j
  · obtain ⟨rfl, rfl⟩ := flat_inj (by omega) (by omega) e
    rw [List.getElem?_set_self (by rw [h.1]; exact flat_lt hp (by omega))]
  · rw [List.getElem?_set_ne (fun c => e c.symm)]
    refine h.2 p q hp hq ?_
    rcases hc with hc | hc | hc
    · exact .inl hc
    · by_cases e2 : q = j
      · subst e2
        obtain ⟨rfl, _⟩ := hc
        exact absurd rfl e
      · exact .inr (.inl ⟨hc.1, by omega⟩)
    · exact .inr (.inr hc)
def AllT (a b : List ByteArray) (T : List Int) : Prop := T.length = (a.length + 1) * (b.length + 1) ∧ ∀ p q, p ≤ a.length → q ≤ b.length → T[p * (b.length + 1) + q]? = some (lcs (a.drop p) (b.drop q) : Int)
theorem kept_rows (a b : List ByteArray) (R : List S166) (hn : a.length ≤ 4000) (hm : b.length ≤ 4000)
    (fin : ∀ T, AllT a b T → Ev (fun k => near_kept.l2 k a b ((b.length + 1 : Nat) : Int) T [] 0 0) R) :
    ∀ i, i ≤ a.length → ∀ T, Gd a b T i 0 → Ev (fun k => near_kept.l0 k a b ((b.length + 1 : Nat) : Int) T (wrap64 ((i : Int) - 1))) R := by
  intro i
  induction i with
  | zero =>
    intro _ T h
    refine Ev.step (fun _ => near_kept.l0.eq_2 ..) (ev_neg (by rw [wr64 (by omega) (by omega)]; omega) (fin T ⟨h.1, fun p q hp hq => h.2 p q hp hq ?_⟩))
    rcases Nat.eq_zero_or_pos p with e | e
    · exact .inr (.inl ⟨e, Nat.zero_le _⟩)
    · exact .inl e
  | succ i ih =>
    intro hi T h
    have inner : ∀ j, j ≤ b.length → ∀ T, Gd a b T i j → Ev (fun k => near_kept.l1 k a b ((b.length + 1 : Nat) : Int) T (i : Int) (wrap64 ((j : Int) - 1))) R := by
      intro j
      induction j with
      | zero =>
        intro _ T h
        exact Ev.step (fun _ => near_kept.l1.eq_2 ..) (ev_neg (by rw [wr64 (by omega) (by omega)]; omega) (ih (by omega) T h))
      | succ j jh =>
        intro hj T h
        have hil : i < a.length := by omega
        have hjl : j < b.length := by omega
        have w1 := Aside0.mk (kadd1 i (by omega))
        have w2 := Aside0.mk (kcell (i + 1) j b.length (by omega) (by omega) hm)
        have w3 := Aside0.mk (kadd1 ((i + 1) * (b.length + 1) + j) (by have := kbound (i + 1) j b.length (by omega) (by omega) hm; omega))
        have w4 := Aside0.mk (kcell i j b.length (by omega) (by omega) hm)
        have w5 := Aside0.mk (kadd1 (i * (b.length + 1) + j) (by have := kbound i j b.length (by omega) (by omega) hm; omega))
        have e1 := h.2 (i + 1) (j + 1) (by omega) (by omega) (.inl (by omega))
        have e2 := h.2 (i + 1) j (by omega) (by omega) (.inl (by omega))
        have e3 := h.2 i (j + 1) (by omega) (by omega) (.inr (.inl ⟨rfl, by omega⟩))
        have l1 : (i + 1) * (b.length + 1) + (j + 1) < T.length := by rw [h.1]; exact flat_lt (by omega) (by omega)
        have l2 : (i + 1) * (b.length + 1) + j < T.length := by rw [h.1]; exact flat_lt (by omega) (by omega)
        have l3 : i * (b.length + 1) + (j + 1) < T.length := by rw [h.1]; exact flat_lt (by omega) (by omega)
        have l4 : i * (b.length + 1) + j < T.length := by rw [h.1]; exact flat_lt (by omega) (by omega)
        have next := jh (by omega) _ (h.put hil hjl)
        have tab := lcs_tab a b i j hil hjl
        have bd := lcs_le1 (a.drop (i + 1)) (b.drop (j + 1))
        rw [List.length_drop] at bd
        rw [ksub1 j (by omega)]
        refine Ev.step (fun _ => near_kept.l1.eq_2 ..) (ev_pos (by omega) (ev_pos (by omega) (ev_pos (by omega) (ev_pos (by omega) (ev_pos (by omega) ?_)))))
        simp only [w1.out, w2.out, w3.out, w4.out, w5.out, krd a i hil, krd b j hjl]
        clear w1 w2 w3 w4 w5
        have l1' : (i + 1) * (b.length + 1) + j + 1 < T.length := l1
        have l3' : i * (b.length + 1) + j + 1 < T.length := l3
        have r1 : rd T (((i + 1) * (b.length + 1) + j + 1 : Nat) : Int) = _ := krdi e1
        have r2 : rd T (((i + 1) * (b.length + 1) + j : Nat) : Int) = _ := krdi e2
        have r3 : rd T ((i * (b.length + 1) + j + 1 : Nat) : Int) = _ := krdi e3
        simp only [r1, r2, r3, Int.toNat_natCast]
        clear r1 r2 r3 e1 e2 e3 l1 l3
        generalize (i + 1) * (b.length + 1) + j = P at *
        generalize i * (b.length + 1) + j = Q at *
        by_cases e : a[i].toList = b[j].toList
        · rw [if_pos e] at tab
          refine ev_pos e (ev_pos (by omega) (ev_pos (by omega) (ev_pos (by omega) (ev_pos (by omega) ?_))))
          rw [kadd1 _ (by omega), ← tab]
          exact next
        · rw [if_neg e] at tab
          refine ev_neg e (ev_pos (by omega) (ev_pos (by omega) (ev_pos (by omega) (ev_pos (by omega) (ev_pos (by omega) (ev_pos (by omega) ?_))))))
          have hmx : mx (lcs (a.drop (i + 1)) (b.drop j) : Int) (lcs (a.drop i) (b.drop (j + 1)) : Int) = (lcs (a.drop i) (b.drop j) : Int) := by
            unfold mx
            split <;> omega
          rw [hmx]
          exact next
    rw [ksub1 i (by omega)]
    refine Ev.step (fun _ => near_kept.l0.eq_2 ..) (ev_pos (by omega) (inner b.length (Nat.le_refl _) T ⟨h.1, fun p q hp hq hc => h.2 p q hp hq ?_⟩))
    rcases hc with hc | hc | hc
    · rcases Nat.lt_or_ge (i + 1) p with e | e
      · exact .inl e
      · exact .inr (.inl ⟨by omega, Nat.zero_le _⟩)
    · exact .inr (.inr (by omega))
    · exact .inr (.inr hc)
theorem kept_pick (a b : List ByteArray) (hn : a.length ≤ 4000) (hm : b.length ≤ 4000) (T : List Int) (hT : AllT a b T) (d : Nat) : ∀ (i j : Nat) (acc : List S166), a.length - i ≤ d → i ≤ a.length → j ≤ b.length → acc.length ≤ i →
    Ev (fun k => near_kept.l2 k a b ((b.length + 1 : Nat) : Int) T acc (i : Int) (j : Int)) (acc ++ sel (a.drop i) (b.drop j) i j) := by
  have stop : ∀ (i j : Nat) (acc : List S166), Ev (fun k => near_kept.j3 k a b ((b.length + 1 : Nat) : Int) T acc (i : Int) (j : Int) false) acc := fun i j acc =>
    Ev.step (fun _ => near_kept.j3.eq_2 ..) (ev_neg (by decide) (Ev.now _))
  induction d with
  | zero =>
    intro i j acc hd hi hj ha
    rw [show a.drop i = [] from List.drop_eq_nil_of_le (by omega)]
    simp only [sel, List.append_nil]
    exact Ev.step (fun _ => near_kept.l2.eq_2 ..) (ev_neg (by omega) (stop i j acc))
  | succ d ih =>
    intro i j acc hd hi hj ha
    by_cases hil : i < a.length
    · have e1 := hT.2 i j (by omega) (by omega)
      have l1 : i * (b.length + 1) + j < T.length := by rw [hT.1]; exact flat_lt (by omega) (by omega)
      have w4 := Aside0.mk (kcell i j b.length (by omega) (by omega) hm)
      have r1 := krdi e1
      refine Ev.step (fun _ => near_kept.l2.eq_2 ..) (ev_pos (by omega) ?_)
      simp only [w4.out, r1]
      refine ev_pos (by omega) (ev_pos (by omega) ?_)
      by_cases hz : lcs (a.drop i) (b.drop j) = 0
      · rw [sel_zero _ _ _ _ hz, hz, List.append_nil]
        exact stop i j acc
      · have hdt : decide ((lcs (a.drop i) (b.drop j) : Int) > 0) = true := decide_eq_true (by omega)
        rw [hdt]
        refine Ev.step (fun _ => near_kept.j3.eq_2 ..) (ev_pos rfl (ev_pos (by omega) (ev_pos (by omega) (ev_pos (by omega) (ev_pos (by omega) ?_)))))
        rw [Int.toNat_natCast, krd a i hil]
        have hskip := ih (i + 1) j acc (by omega) (by omega) hj (by omega)
        have w1 := Aside0.mk (kadd1 i (by omega))
        have hda := List.drop_eq_getElem_cons hil
        have hix := Index_ev (b.drop j) a[i] (by rw [List.length_drop]; omega)
        rw [hda] at r1 ⊢
        simp only [sel]
        cases e : nxt a[i] (b.drop j) with
        | none =>
          rw [e] at hix
          refine Ev.bind hix (ev_neg (by decide) ?_)
          rw [w1.out]
          exact hskip
        | some q =>
          rw [e] at hix
          have hq := nxt_lt _ _ _ e
          rw [List.length_drop] at hq
          have w2 := Aside0.mk (kcell (i + 1) j b.length (by omega) (by omega) hm)
          have hb2 := kbound (i + 1) j b.length (by omega) (by omega) hm
          have w3 : Aside0 (wrap64 ((((i + 1) * (b.length + 1) + j : Nat) : Int) + (q : Int)) = (((i + 1) * (b.length + 1) + j + q : Nat) : Int)) := ⟨by rw [wr64 (by omega) (by omega)]; omega⟩
          have w5 := Aside0.mk (kadd1 ((i + 1) * (b.length + 1) + j + q) (by omega))
          have w6 : Aside0 (wrap64 ((j : Int) + (q : Int)) = ((j + q : Nat) : Int)) := ⟨by rw [wr64 (by omega) (by omega)]; omega⟩
          have w7 := Aside0.mk (kadd1 q (by omega))
          have w8 : Aside0 (wrap64 ((j : Int) + ((q + 1 : Nat) : Int)) = ((j + q + 1 : Nat) : Int)) := ⟨by rw [wr64 (by omega) (by omega)]; omega⟩
          have e2 := hT.2 (i + 1) (j + q + 1) (by omega) (by omega)
          have l2 : (i + 1) * (b.length + 1) + (j + q + 1) < T.length := by rw [hT.1]; exact flat_lt (by omega) (by omega)
          have a1 : (i + 1) * (b.length + 1) + (j + q + 1) = (i + 1) * (b.length + 1) + j + q + 1 := by omega
          rw [a1] at e2 l2
          have r2 := krdi e2
          have hdd : (b.drop j).drop (q + 1) = b.drop (j + q + 1) := by rw [List.drop_drop]; congr 1
          have bd := lcs_le1 (a.drop (i + 1)) (b.drop (j + q + 1))
          rw [List.length_drop] at bd
          have w9 := Aside0.mk (kadd1 (lcs (a.drop (i + 1)) (b.drop (j + q + 1))) (by omega))
          refine Ev.bind hix (ev_pos (by show (q : Int) ≥ 0; omega) ?_)
          simp only [w1.out, w2.out, w3.out, w5.out, w4.out, w6.out, w7.out, w8.out, r1, r2, w9.out]
          refine ev_pos (by omega) (ev_pos (by omega) (ev_pos (by omega) (ev_pos (by omega) ?_)))
          rw [hdd]
          by_cases c : lcs (a.drop (i + 1)) (b.drop (j + q + 1)) + 1 = lcs (a[i] :: a.drop (i + 1)) (b.drop j)
          · rw [if_pos c]
            refine ev_pos (by omega) (ev_pos (by omega) (ev_eq (ih (i + 1) (j + q + 1) _ (by omega) (by omega) (by omega) (by rw [List.length_append]; simp only [List.length_cons, List.length_nil]; omega)) ?_))
            rw [List.append_assoc]
            rfl
          · rw [if_neg c]
            exact ev_neg (by omega) hskip
    · rw [show a.drop i = [] from List.drop_eq_nil_of_le (by omega)]
      simp only [sel, List.append_nil]
      exact Ev.step (fun _ => near_kept.l2.eq_2 ..) (ev_neg (by omega) (stop i j acc))
theorem kept_ev (a b : List ByteArray) (hn : a.length ≤ 4000) (hm : b.length ≤ 4000) : Ev (fun k => near_kept.f k a b) (sel a b 0 0) := by
  have w1 := kadd1 a.length (by omega)
  have w2 := kadd1 b.length (by omega)
  have hb : (a.length + 1) * (b.length + 1) ≤ 4001 * 4001 := Nat.mul_le_mul (by omega) (by omega)
  have e : ((a.length + 1 : Nat) : Int) * ((b.length + 1 : Nat) : Int) = (((a.length + 1) * (b.length + 1) : Nat) : Int) := (Int.natCast_mul _ _).symm
  have w3 : wrap64 ((((a.length + 1) * (b.length + 1) : Nat) : Int)) = (((a.length + 1) * (b.length + 1) : Nat) : Int) := wr64 (by omega) (by omega)
  refine Ev.congr (fun _ => near_kept.f.eq_1 ..) ?_
  simp only [w1, w2, e, w3, Int.toNat_natCast]
  refine ev_pos (by omega) (ev_pos (by omega) ?_)
  refine kept_rows a b _ hn hm (fun T hT => ?_) a.length (Nat.le_refl _) _ ⟨List.length_replicate, fun p q hp hq hc => ?_⟩
  · have := kept_pick a b hn hm T hT _ 0 0 [] (Nat.le_refl _) (Nat.zero_le _) (Nat.zero_le _) (Nat.le_refl _)
    rw [List.drop_zero, List.drop_zero, List.nil_append] at this
    exact this
  · rw [List.getElem?_replicate, if_pos (flat_lt hp (by omega))]
    rcases hc with hc | hc | hc
    · omega
    · rw [show a.drop p = [] from List.drop_eq_nil_of_le (by omega), lcs_nil]; rfl
    · rw [show b.drop q = [] from List.drop_eq_nil_of_le (by omega), lcs_nil2]; rfl
end Go.Proofs.YtomamgapdeggjaaDoor.Pl
