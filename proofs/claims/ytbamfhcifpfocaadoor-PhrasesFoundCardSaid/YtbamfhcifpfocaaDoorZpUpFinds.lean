/- Part of the proof that the law phrasesFound is true for every input. No conditions. Laid by a program of this session over the kit's print and words; declarations that nothing names are left out. -/
import Derived.Test.YtbamfhcifpfocaaDoorZpUpSpans4
import Derived.Test.YtbamfhcifpfocaaDoorZpUpTexts
import Derived.Test.YtbamfhcifpfocaaDoorZpPpx8
import Derived.Test.YtbamfhcifpfocaaDoorZpPpx10
import Derived.Lib.Index
namespace Go.Proofs.YtbamfhcifpfocaaDoor.Pp
open Go.RowKit Go.Proofs.YtbamfhcifpfocaaDoor.GBase Go.Proofs.YtbamfhcifpfocaaDoorW.PrintWords Go.Proofs.YtbamfhcifpfocaaDoorW.PrintLast
set_option linter.unusedVariables false
set_option linter.unusedSimpArgs false
theorem wadd (a b : Nat) (h : a + b ≤ 4611686018427387904) : wrap64 ((a : Int) + (b : Int)) = ((a + b : Nat) : Int) := by
  rw [wr64 (by omega) (by omega)]
  omega
theorem wadd1 (a : Nat) (h : a ≤ 4611686018427387904) : wrap64 ((a : Int) + 1) = ((a + 1 : Nat) : Int) := by
  rw [wr64 (by omega) (by omega)]
  omega
theorem lowA_sz (s : ByteArray) : (lowA s).size = s.size := by
  show (s.data.map lowB).size = s.data.size
  simp
theorem least_of (P : Nat → Prop) (k : Nat) : P k → ∃ k, P k ∧ ∀ j, j < k → ¬ P j := by
  induction k using Nat.strongRecOn with
  | ind k ih =>
    intro h
    by_cases hx : ∃ j, j < k ∧ P j
    · obtain ⟨j, hj, hp⟩ := hx
      exact ih j hj hp
    · exact ⟨k, h, fun j hj hp => hx ⟨j, hj, hp⟩⟩
theorem index_spec (s sub : List UInt8) : (∃ k : Nat, Lib.index s sub = (k : Int) ∧ k ≤ s.length ∧ Lib.occAt s sub k = true ∧ ∀ j, j < k → Lib.occAt s sub j = false) ∨ (Lib.index s sub = -1 ∧ ∀ j, j ≤ s.length → Lib.occAt s sub j = false) := by
  by_cases h : ∃ k, k ≤ s.length ∧ Lib.occAt s sub k = true
  · left
    obtain ⟨k, ⟨hk1, hk2⟩, hmin⟩ : ∃ k, (k ≤ s.length ∧ Lib.occAt s sub k = true) ∧ ∀ j, j < k → ¬ (j ≤ s.length ∧ Lib.occAt s sub j = true) := by
      obtain ⟨k, hk⟩ := h
      exact least_of _ k hk
    have hn : ∀ j, j < k → Lib.occAt s sub j = false := fun j hj => by
      have := hmin j hj
      cases ho : Lib.occAt s sub j with
      | false => rfl
      | true => exact absurd ⟨by omega, ho⟩ this
    exact ⟨k, Lib.index_first hk1 hk2 hn, hk1, hk2, hn⟩
  · right
    have hn : ∀ j, j ≤ s.length → Lib.occAt s sub j = false := fun j hj => by
      cases ho : Lib.occAt s sub j with
      | false => rfl
      | true => exact absurd ⟨j, hj, ho⟩ h
    exact ⟨Lib.index_none hn, hn⟩
theorem occ_drop (s sub : List UInt8) (a j : Nat) : Lib.occAt (s.drop a) sub j = Lib.occAt s sub (a + j) := by
  unfold Lib.occAt
  rw [List.drop_drop]
theorem extract_drop (s : ByteArray) (a : Nat) : (s.extract a s.size).data.toList = s.data.toList.drop a := by
  rw [ByteArray.data_extract, Array.toList_extract]
  have : s.size = s.data.toList.length := (data_length s).symm
  rw [this, List.extract_eq_take_drop]
  rw [List.take_of_length_le (by rw [List.length_drop]; exact Nat.le_refl _)]
def occIn (s sub : List UInt8) (a i : Nat) : Prop := ∃ o, a ≤ o ∧ Lib.occAt s sub o = true ∧ o ≤ i ∧ i < o + sub.length
theorem occ_room {s sub : List UInt8} {o : Nat} (h : Lib.occAt s sub o = true) (hs : 0 < sub.length) : o + sub.length ≤ s.length := by
  rcases Lib.occAt_room h with h | h
  · exact h
  · subst h; simp at hs
theorem find_in (low q : ByteArray) (hl : low.size ≤ 30000) (hq : 1 ≤ q.size) (hq2 : q.size ≤ 200) (ps : List ByteArray) (n : Int) (j : Nat) (hj : j < 1000) (d : Nat) : ∀ a : Nat, low.size + 1 - a ≤ d → a ≤ low.size →
    ∃ m : List (Nat × Nat), m.length ≤ low.size + 1 - a ∧ (∀ p ∈ m, p.1 < p.2 ∧ p.2 ≤ low.size) ∧ (∀ i, cov m i = true ↔ occIn low.data.toList q.data.toList a i) ∧
      ∀ (x : List S46) (R : List S46 × Int), x.length + (low.size + 1 - a) ≤ 1000000 → Ev (fun k => privilege_Find.l0 k low (x ++ m.map spn) ps n ((j + 1 : Nat) : Int)) R → Ev (fun k => privilege_Find.l1 k low x q (a : Int) ps n (j : Int)) R := by
  have hll : low.data.toList.length = low.size := data_length low
  have hql : q.data.toList.length = q.size := data_length q
  induction d with
  | zero => intro a hd ha; omega
  | succ d ih =>
    intro a hd ha
    have hidx : strings_Index.f (low.extract (a : Int).toNat low.size) q = some (Lib.index (low.data.toList.drop a) q.data.toList) := by
      have : (low.extract a low.size).size ≤ low.size := by rw [ByteArray.size_extract]; omega
      unfold strings_Index.f
      rw [Int.toNat_natCast, if_pos (by omega), extract_drop]
    rcases index_spec (low.data.toList.drop a) q.data.toList with ⟨k, hk, hk1, hk2, hk3⟩ | ⟨hk, hk3⟩
    · rw [occ_drop] at hk2
      have hroom := occ_room hk2 (by omega)
      rw [hll, hql] at hroom
      obtain ⟨m, m1, m2, m3, m4⟩ := ih (a + k + 1) (by omega) (by omega)
      refine ⟨(a + k, a + k + q.size) :: m, by simp only [List.length_cons]; omega, fun p hp => ?_, fun i => ?_, fun x R hx h => ?_⟩
      · rcases List.mem_cons.1 hp with rfl | hp
        · simp only; omega
        · exact m2 p hp
      · rw [cov_cons, Bool.or_eq_true, m3]
        simp only [Bool.and_eq_true, decide_eq_true_eq]
        constructor
        · rintro (⟨h1, h2⟩ | ⟨o, o1, o2, o3, o4⟩)
          · exact ⟨a + k, by omega, hk2, h1, by omega⟩
          · exact ⟨o, by omega, o2, o3, o4⟩
        · rintro ⟨o, o1, o2, o3, o4⟩
          by_cases e : o = a + k
          · subst e; left; omega
          · right
            refine ⟨o, ?_, o2, o3, o4⟩
            rcases Nat.lt_or_ge o (a + k) with h1 | h1
            · have := hk3 (o - a) (by omega)
              rw [occ_drop, show a + (o - a) = o by omega, o2] at this
              cases this
            · omega
      · rw [hk] at hidx
        refine Ev.step (fun _ => privilege_Find.l1.eq_2 ..) (ev_pos (by omega) (ev_pos (by omega) (ev_bindc hidx (ev_neg (by omega) (ev_pos (by omega) ?_)))))
        rw [wadd a k (by omega), wadd (a + k) q.size (by omega), wadd1 k (by omega), wadd a (k + 1) (by omega)]
        show Ev (fun k_ => privilege_Find.l1 k_ low (x ++ [(⟨((a + k : Nat) : Int), ((a + k + q.size : Nat) : Int)⟩ : S46)]) q ((a + k + 1 : Nat) : Int) ps n (j : Int)) R
        exact m4 _ R (by rw [List.length_append, List.length_singleton]; omega) (by simpa [spn] using h)
    · refine ⟨[], by simp, by simp, fun i => ?_, fun x R hx h => ?_⟩
      · rw [cov_nil]
        constructor
        · intro h; cases h
        · rintro ⟨o, o1, o2, o3, o4⟩
          have hr := occ_room o2 (by omega)
          have := hk3 (o - a) (by rw [List.length_drop]; omega)
          rw [occ_drop, show a + (o - a) = o by omega, o2] at this
          cases this
      · rw [hk] at hidx
        refine Ev.step (fun _ => privilege_Find.l1.eq_2 ..) (ev_pos (by omega) (ev_pos (by omega) (ev_bindc hidx (ev_pos (by decide) ?_))))
        rw [wadd1 j (by omega)]
        simpa using h
def occAny (low : ByteArray) (ps : List ByteArray) (i : Nat) : Prop := ∃ p ∈ ps, occIn low.data.toList (lowA p).data.toList 0 i
theorem occAny_cons (low p : ByteArray) (ps : List ByteArray) (i : Nat) : occAny low (p :: ps) i ↔ occIn low.data.toList (lowA p).data.toList 0 i ∨ occAny low ps i := by
  unfold occAny
  simp
theorem occAny_nil (low : ByteArray) (i : Nat) : ¬ occAny low [] i := by
  unfold occAny
  simp
theorem find_out (low : ByteArray) (hl : low.size ≤ 30000) (ps : List ByteArray) (hn : ps.length ≤ 10) (hv : ∀ p ∈ ps, 1 ≤ p.size ∧ p.size ≤ 200) (R : List S46 × Int) (d : Nat) : ∀ (j : Nat), ps.length - j ≤ d → j ≤ ps.length →
    ∃ m : List (Nat × Nat), m.length ≤ (ps.length - j) * 30001 ∧ (∀ p ∈ m, p.1 < p.2 ∧ p.2 ≤ low.size) ∧ (∀ i, cov m i = true ↔ occAny low (ps.drop j) i) ∧
      ∀ (x : List S46), x.length ≤ j * 30001 → Ev (fun k => (privilege_put.f k (x ++ m.map spn)).bind fun t => (privilege_few.f t).bind fun bt => some (bt.1, bt.2)) R → Ev (fun k => privilege_Find.l0 k low x ps (ps.length : Int) (j : Int)) R := by
  induction d with
  | zero =>
    intro j hd hj
    obtain rfl : j = ps.length := by omega
    refine ⟨[], by simp, by simp, fun i => ?_, fun x hx h => ?_⟩
    · rw [List.drop_length, cov_nil]
      exact ⟨fun h => (by cases h), fun h => absurd h (occAny_nil _ _)⟩
    · exact Ev.step (fun _ => privilege_Find.l0.eq_2 ..) (ev_neg (by omega) (by simpa using h))
  | succ d ih =>
    intro j hd hj
    by_cases hlt : j < ps.length
    · have hp := hv _ (List.getElem_mem hlt)
      have hsz := lowA_sz ps[j]
      obtain ⟨m2, a1, a2, a3, a4⟩ := ih (j + 1) (by omega) (by omega)
      obtain ⟨m1, b1, b2, b3, b4⟩ := find_in low (lowA ps[j]) hl (by omega) (by omega) ps (ps.length : Int) j (by omega) _ 0 (Nat.le_refl _) (by omega)
      have hlow : base_Lower.f (rdOf ByteArray.empty ps (j : Int)) = some (lowA ps[j]) := by
        have e : rdOf ByteArray.empty ps (j : Int) = ps[j] := by simp [rdOf, List.getD_eq_getElem?_getD, hlt]
        unfold base_Lower.f
        rw [e, if_pos (by omega)]
      refine ⟨m1 ++ m2, by rw [List.length_append]; have : ps.length - j = (ps.length - (j + 1)) + 1 := by omega
                           rw [this, Nat.add_mul]; omega, fun p hpm => ?_, fun i => ?_, fun x hx h => ?_⟩
      · rcases List.mem_append.1 hpm with h | h
        · exact b2 p h
        · exact a2 p h
      · rw [cov_append, Bool.or_eq_true, b3, a3, List.drop_eq_getElem_cons hlt, occAny_cons]
      · refine Ev.step (fun _ => privilege_Find.l0.eq_2 ..) (ev_pos (by omega) (ev_pos (by omega) (ev_pos (by omega) (ev_bindc hlow (b4 x R (by omega) (a4 _ ?_ ?_))))))
        · rw [List.length_append, List.length_map]
          omega
        · rw [List.append_assoc, ← List.map_append]
          exact h
    · obtain rfl : j = ps.length := by omega
      exact ih _ (by omega) (by omega)
theorem mark_in (x0 low p : ByteArray) (ps : List ByteArray) (n j i : Int) (b : Nat) (sz : Int) (R : List S46 × Int) (c : Nat) (hb : i = (b : Int)) (hps : p.size ≤ 200) : ∀ (q : Nat) (x6 : List Bool), x6.length ≤ 1000000 → b + q + c ≤ x6.length → p.size = q + c → b + q + c ≤ 1000000 →
    Ev (fun k => chaseref1_FindOf.l1 k x0 (paintN x6 (b + q) c) low p ps n j sz (wrap64 (i + 1))) R → Ev (fun k => chaseref1_FindOf.l2 k x0 x6 low p i ps n j sz i (p.size : Int) (q : Int)) R := by
  subst hb
  induction c with
  | zero =>
    intro q x6 _ _ hs _ h
    exact Ev.step (fun _ => chaseref1_FindOf.l2.eq_2 ..) (ev_neg (by omega) h)
  | succ c ih =>
    intro q x6 h6 hl hs hb h
    refine Ev.step (fun _ => chaseref1_FindOf.l2.eq_2 ..) (ev_pos (by omega) ?_)
    rw [wadd b q (by omega), wadd1 q (by omega), Int.toNat_natCast]
    refine ev_pos (by omega) (ev_pos (by omega) ?_)
    refine ih (q + 1) _ (by rw [List.length_set]; exact h6) (by rw [List.length_set]; omega) (by omega) (by omega) ?_
    rw [paintN] at h
    exact h
theorem prefix_is (s q : ByteArray) (a : Nat) (ha : a ≤ s.size) : strings_HasPrefix.f (s.extract (a : Int).toNat s.size) q = some (Lib.occAt s.data.toList q.data.toList a) := by
  have hd := extract_drop s a
  rw [Int.toNat_natCast]
  generalize s.extract a s.size = e at *
  have he : e.size = (s.data.toList.drop a).length := by rw [← hd, data_length]
  have hq : q.data.toList.length = q.size := data_length q
  unfold strings_HasPrefix.f stringslite_HasPrefix.f
  by_cases h : (e.size : Int) ≥ (q.size : Int)
  · rw [if_pos h, if_pos (by omega), if_pos (by omega), Option.bind_some, Int.toNat_natCast]
    congr 1
    unfold Lib.occAt
    have h2 : (e.extract 0 q.size).toList = (s.data.toList.drop a).take q.size := by
      rw [Lib.toList_data, ByteArray.data_extract, Array.toList_extract, hd, List.extract_eq_take_drop]
      simp
    rw [h2, Lib.toList_data, Bool.eq_iff_iff, beq_iff_eq, List.isPrefixOf_iff_prefix, List.prefix_iff_eq_take, hq]
    exact ⟨fun h => h.symm, fun h => h.symm⟩
  · rw [if_neg h]
    simp only [Option.bind_some, Option.some.injEq]
    unfold Lib.occAt
    cases hb : q.data.toList.isPrefixOf (s.data.toList.drop a) with
    | false => rfl
    | true =>
      have := (List.isPrefixOf_iff_prefix.1 hb).length_le
      omega
theorem mark_out (t T p Q : ByteArray) (hls : T.size = t.size) (hlp : Q.size = p.size) (hlow : chaseref1_lower.f p = some Q) (ht : t.size ≤ 30000) (hp : 1 ≤ p.size) (hp2 : p.size ≤ 200) (ps : List ByteArray) (n : Int) (j : Nat) (hj : j < 1000) (d : Nat) : ∀ a : Nat, t.size - a ≤ d → a ≤ t.size →
    ∃ m : List (Nat × Nat), (∀ p ∈ m, p.1 < p.2 ∧ p.2 ≤ t.size) ∧ (∀ i, cov m i = true ↔ occIn T.data.toList Q.data.toList a i) ∧
      ∀ (x6 : List Bool) (R : List S46 × Int), x6.length = t.size → Ev (fun k => chaseref1_FindOf.l0 k t (paintAll m x6) T ps n ((j + 1 : Nat) : Int)) R → Ev (fun k => chaseref1_FindOf.l1 k t x6 T p ps n (j : Int) (t.size : Int) (a : Int)) R := by
  have hll : T.data.toList.length = t.size := by rw [data_length]; exact hls
  have hql : Q.data.toList.length = p.size := by rw [data_length]; exact hlp
  have base : ∃ m : List (Nat × Nat), (∀ p ∈ m, p.1 < p.2 ∧ p.2 ≤ t.size) ∧ (∀ i, cov m i = true ↔ occIn T.data.toList Q.data.toList t.size i) ∧
      ∀ (x6 : List Bool) (R : List S46 × Int), x6.length = t.size → Ev (fun k => chaseref1_FindOf.l0 k t (paintAll m x6) T ps n ((j + 1 : Nat) : Int)) R → Ev (fun k => chaseref1_FindOf.l1 k t x6 T p ps n (j : Int) (t.size : Int) (t.size : Int)) R := by
    refine ⟨[], by simp, fun i => ?_, fun x6 R hx h => ?_⟩
    · rw [cov_nil]
      constructor
      · intro h; cases h
      · rintro ⟨o, o1, o2, _, _⟩
        have := occ_room o2 (by omega)
        omega
    · refine Ev.step (fun _ => chaseref1_FindOf.l1.eq_2 ..) (ev_neg (by omega) ?_)
      rw [wadd1 j (by omega)]
      exact h
  induction d with
  | zero =>
    intro a hd ha
    obtain rfl : a = t.size := by omega
    exact base
  | succ d ih =>
    intro a hd ha
    by_cases hlt : a < t.size
    · obtain ⟨m, m1, m2, m3⟩ := ih (a + 1) (by omega) (by omega)
      have hpre : strings_HasPrefix.f (T.extract (a : Int).toNat T.size) Q = some (Lib.occAt T.data.toList Q.data.toList a) := prefix_is _ _ a (by omega)
      cases ho : Lib.occAt T.data.toList Q.data.toList a with
      | false =>
        rw [ho] at hpre
        refine ⟨m, m1, fun i => ?_, fun x6 R hx h => ?_⟩
        · rw [m2]
          constructor
          · rintro ⟨o, o1, o2, o3⟩; exact ⟨o, by omega, o2, o3⟩
          · rintro ⟨o, o1, o2, o3⟩
            refine ⟨o, ?_, o2, o3⟩
            by_cases e : o = a
            · subst e; rw [ho] at o2; cases o2
            · omega
        · refine Ev.step (fun _ => chaseref1_FindOf.l1.eq_2 ..) (ev_pos (by omega) (ev_pos (by omega) (ev_pos (by omega) (ev_bindc hlow (ev_bindc hpre (ev_neg (by simp) ?_))))))
          rw [wadd1 a (by omega)]
          exact m3 x6 R hx h
      | true =>
        rw [ho] at hpre
        have hroom := occ_room ho (by omega)
        rw [hll, hql] at hroom
        refine ⟨(a, a + p.size) :: m, fun q hq => ?_, fun i => ?_, fun x6 R hx h => ?_⟩
        · rcases List.mem_cons.1 hq with rfl | hq
          · simp only; omega
          · exact m1 q hq
        · rw [cov_cons, Bool.or_eq_true, m2]
          simp only [Bool.and_eq_true, decide_eq_true_eq]
          constructor
          · rintro (⟨h1, h2⟩ | ⟨o, o1, o2, o3, o4⟩)
            · exact ⟨a, Nat.le_refl _, ho, h1, by omega⟩
            · exact ⟨o, by omega, o2, o3, o4⟩
          · rintro ⟨o, o1, o2, o3, o4⟩
            by_cases e : o = a
            · subst e; left; omega
            · exact .inr ⟨o, by omega, o2, o3, o4⟩
        · refine Ev.step (fun _ => chaseref1_FindOf.l1.eq_2 ..) (ev_pos (by omega) (ev_pos (by omega) (ev_pos (by omega) (ev_bindc hlow (ev_bindc hpre (ev_pos rfl ?_))))))
          refine mark_in t T p ps n (j : Int) (a : Int) a (t.size : Int) R p.size rfl hp2 0 x6 (by omega) (by omega) (by omega) (by omega) ?_
          rw [wadd1 a (by omega), Nat.add_zero]
          refine m3 _ R (by rw [paintN_length]; exact hx) ?_
          rw [paintAll] at h
          simp only at h
          have : a + p.size - a = p.size := by omega
          rw [this] at h
          exact h
    · obtain rfl : a = t.size := by omega
      exact base
theorem paintAll_append (a b : List (Nat × Nat)) : ∀ x, paintAll (a ++ b) x = paintAll b (paintAll a x) := by
  induction a with
  | nil => intro x; rfl
  | cons p a ih => intro x; simp only [List.cons_append, paintAll, ih]
theorem mark_all (t : ByteArray) (ht : t.size ≤ 30000) (ps : List ByteArray) (hn : ps.length ≤ 10) (hv : ∀ p ∈ ps, 1 ≤ p.size ∧ p.size ≤ 200) (R : List S46 × Int) (d : Nat) : ∀ (j : Nat), ps.length - j ≤ d → j ≤ ps.length →
    ∃ m : List (Nat × Nat), (∀ p ∈ m, p.1 < p.2 ∧ p.2 ≤ t.size) ∧ (∀ i, cov m i = true ↔ occAny (lowA t) (ps.drop j) i) ∧
      ∀ (x : List Bool), x.length = t.size → Ev (fun k => (chaseref1_spansFrom.f k (paintAll m x)).bind fun t => (chaseref1_bounded.f t).bind fun bt => some (bt.1, bt.2)) R → Ev (fun k => chaseref1_FindOf.l0 k t x (lowA t) ps (ps.length : Int) (j : Int)) R := by
  induction d with
  | zero =>
    intro j hd hj
    obtain rfl : j = ps.length := by omega
    refine ⟨[], by simp, fun i => ?_, fun x hx h => ?_⟩
    · rw [List.drop_length, cov_nil]
      exact ⟨fun h => (by cases h), fun h => absurd h (occAny_nil _ _)⟩
    · exact Ev.step (fun _ => chaseref1_FindOf.l0.eq_2 ..) (ev_neg (by omega) h)
  | succ d ih =>
    intro j hd hj
    by_cases hlt : j < ps.length
    · have hp := hv _ (List.getElem_mem hlt)
      obtain ⟨m2, a2, a3, a4⟩ := ih (j + 1) (by omega) (by omega)
      obtain ⟨m1, b2, b3, b4⟩ := mark_out t (lowA t) ps[j] (lowA ps[j]) (lowA_sz t) (lowA_sz ps[j]) (by unfold chaseref1_lower.f; rw [if_pos (by omega)]) ht hp.1 hp.2 ps (ps.length : Int) j (by omega) _ 0 (Nat.le_refl _) (by omega)
      have e : rdOf ByteArray.empty ps (j : Int) = ps[j] := by simp [rdOf, List.getD_eq_getElem?_getD, hlt]
      refine ⟨m1 ++ m2, fun p hpm => ?_, fun i => ?_, fun x hx h => ?_⟩
      · rcases List.mem_append.1 hpm with h | h
        · exact b2 p h
        · exact a2 p h
      · rw [cov_append, Bool.or_eq_true, b3, a3, List.drop_eq_getElem_cons hlt, occAny_cons]
      · refine Ev.step (fun _ => chaseref1_FindOf.l0.eq_2 ..) (ev_pos (by omega) (ev_pos (by omega) (ev_pos (by omega) ?_)))
        rw [e]
        refine b4 x R hx (a4 _ (by rw [paintAll_length]; exact hx) ?_)
        rw [← paintAll_append]
        exact h
    · obtain rfl : j = ps.length := by omega
      exact ih _ (by omega) (by omega)
theorem found_ev (t : ByteArray) (ht : t.size ≤ 30000) (ps : List ByteArray) (hn : ps.length ≤ 10) (hv : ∀ p ∈ ps, 1 ≤ p.size ∧ p.size ≤ 200) :
    ∃ r : List S46 × Int, r.1.length ≤ 1000 ∧ Ev (fun k => privilege_Find.l0 k (lowA t) [] ps (ps.length : Int) 0) r ∧ Ev (fun k => chaseref1_FindOf.f k t ps) r := by
  have hls := lowA_sz t
  have few_len : ∀ r : List S46, (fewL r).1.length ≤ 1000 := fun r => by
    unfold fewL
    split
    · simp
    · simp only; omega
  obtain ⟨m2, b1, b2, b3⟩ := mark_all t ht ps hn hv (fewL []) _ 0 (Nat.le_refl _) (by omega)
  obtain ⟨r2, hr2, nr2, cr2⟩ := from_ev (paintAll m2 (List.replicate t.size false)) (by rw [paintAll_length]; simp; omega)
  obtain ⟨m1, a1, a2, a3, a4⟩ := find_out (lowA t) (by omega) ps hn hv (fewL (r2.map spn)) _ 0 (Nat.le_refl _) (by omega)
  obtain ⟨m3, c1, c2, c3⟩ := mark_all t ht ps hn hv (fewL (r2.map spn)) _ 0 (Nat.le_refl _) (by omega)
  have hm1l : m1.length ≤ 1000000 := by
    have : (ps.length - 0) * 30001 ≤ 10 * 30001 := Nat.mul_le_mul_right _ (by omega)
    omega
  obtain ⟨r1, hr1, nr1, cr1⟩ := put_ev m1 hm1l (fun p hp => (a2 p hp).1) (fun p hp => by have := (a2 p hp).2; omega)
  have hpg : ∀ i, (paintAll m2 (List.replicate t.size false)).getD i false = cov m2 i := fun i => by
    rw [paintAll_get m2 _ (by simpa using b1)]
    have : (List.replicate t.size false).getD i false = false := by
      rw [List.getD_eq_getElem?_getD, List.getElem?_replicate]
      split <;> rfl
    rw [this, Bool.false_or]
  have e : r1 = r2 := nr1.unique nr2 (fun i => by
    rw [cr1, cr2, hpg, Bool.eq_iff_iff, a3, b2])
  have ep : paintAll m3 (List.replicate t.size false) = paintAll m2 (List.replicate t.size false) := by
    apply List.ext_getElem (by rw [paintAll_length, paintAll_length])
    intro i h1 h2
    have g1 : (paintAll m3 (List.replicate t.size false)).getD i false = cov m3 i := by
      rw [paintAll_get m3 _ (by simpa using c1)]
      have : (List.replicate t.size false).getD i false = false := by
        rw [List.getD_eq_getElem?_getD, List.getElem?_replicate]
        split <;> rfl
      rw [this, Bool.false_or]
    have g2 := hpg i
    have g3 : cov m3 i = cov m2 i := by rw [Bool.eq_iff_iff, c2, b2]
    simp only [List.getD_eq_getElem?_getD, h1, h2, List.getElem?_eq_getElem, Option.getD_some] at g1 g2
    rw [g1, g2, g3]
  subst e
  refine ⟨fewL (r1.map spn), few_len _, ?_, ?_⟩
  · refine a4 [] (by simp) ?_
    rw [List.nil_append]
    exact Ev.bind hr1 (ev_bindc (few_is _) (ev_val rfl))
  · unfold chaseref1_FindOf.f
    refine ev_pos (by omega) (ev_pos (by rw [Int.toNat_natCast]; omega) ?_)
    refine ev_bindc (a := lowA t) (by unfold chaseref1_lower.f; rw [if_pos (by omega)]) ?_
    rw [Int.toNat_natCast]
    refine c3 _ (by simp) ?_
    rw [ep]
    exact Ev.bind hr2 (ev_bindc (bounded_is _) (ev_val rfl))
end Go.Proofs.YtbamfhcifpfocaaDoor.Pp
