/- Part of the proof that the law patchesLead is true for every input. No conditions. Laid by a program of this session over the kit's print and words; declarations that nothing names are left out. -/
import Derived.Test.YtomamgapdeggjaaDoorZlUlLead
import Derived.Test.YtomamgapdeggjaaDoorZlUlKept
import Derived.Test.YtomamgapdeggjaaDoorZlUlTokens2
import Derived.Test.YtomamgapdeggjaaDoorZlUlNears
import Derived.Test.YtomamgapdeggjaaDoorZlPlx4
import Derived.Test.YtomamgapdeggjaaDoorZlPlx5
import Derived.Test.YtomamgapdeggjaaDoorZlPlx6
namespace Go.Proofs.YtomamgapdeggjaaDoor.Pl
open Go.RowKit Go.Proofs.YtomamgapdeggjaaDoor.GBase Go.Proofs.YtomamgapdeggjaaDoorW.PrintWords Go.Proofs.YtomamgapdeggjaaDoorW.PrintLast Go.Proofs.YtomamgapdeggjaaDoorW.PrintMore
set_option linter.unusedVariables false
set_option linter.unusedSimpArgs false
theorem clone_of (l : List ByteArray) (h : l.length ≤ 100000) : slices_Clone_string_string.f l = some l := by
  unfold slices_Clone_string_string.f
  rw [if_pos (by omega)]
theorem rd_pair (P : List S166) (p : Nat) (x y : Int) (h : P[p]? = some ⟨x, y⟩) : rd_T166 P (p : Int) = ⟨x, y⟩ := by
  simp [rd_T166, List.getD_eq_getElem?_getD, h]
theorem rd_chg (P : List S72) (p : Nat) (h : p < P.length) : rd_T72 P (p : Int) = P[p] := by
  simp [rd_T72, List.getD_eq_getElem?_getD, List.getElem?_eq_getElem h]
def gapL (a b : List ByteArray) (i j x y : Nat) : List S72 := if i < x ∨ j < y then [⟨(i : Int), (a.take x).drop i, (b.take y).drop j⟩] else []
theorem chg_step (a b : List ByteArray) (hn : a.length ≤ 4000) (hm : b.length ≤ 4000) (P : List S166) (hP : P.length ≤ 5000) (p i j x y : Nat) (acc : List S72) (hp : p < P.length) (e : P[p]? = some ⟨(x : Int), (y : Int)⟩) (h1 : i ≤ x) (h2 : x ≤ a.length) (h3 : j ≤ y) (h4 : y ≤ b.length) (ha : acc.length ≤ 5000) (r : List S72)
    (h : Ev (fun k => near_changes.l0 k a b (acc ++ gapL a b i j x y) ((x + 1 : Nat) : Int) ((y + 1 : Nat) : Int) P (P.length : Int) ((p + 1 : Nat) : Int)) r) :
    Ev (fun k => near_changes.l0 k a b acc (i : Int) (j : Int) P (P.length : Int) (p : Int)) r := by
  have w1 := Aside0.mk (kadd1 x (by omega))
  have w2 := Aside0.mk (kadd1 y (by omega))
  have w3 := Aside0.mk (kadd1 p (by omega))
  have ep := rd_pair P p _ _ e
  have lA : ((a.take x).drop i).length = x - i := by rw [List.length_drop, List.length_take]; omega
  have lB : ((b.take y).drop j).length = y - j := by rw [List.length_drop, List.length_take]; omega
  have add : i < x ∨ j < y → Ev (fun k => near_changes.j1 k a b acc (i : Int) (j : Int) P (P.length : Int) (p : Int) true (x : Int) (y : Int)) r := fun c => by
    unfold gapL at h
    rw [if_pos c] at h
    refine Ev.step (fun _ => near_changes.j1.eq_2 ..) ?_
    simp only [Int.toNat_natCast, w1.out, w2.out, w3.out]
    exact ev_pos (by trivial) (ev_pos (by omega) (ev_pos (by omega) (ev_pos (by omega) (ev_bindc (clone_of _ (by omega)) (ev_pos (by omega) (ev_pos (by omega) (ev_pos (by omega) (ev_bindc (clone_of _ (by omega)) (ev_pos (by omega) h)))))))))
  have skip : ¬ (i < x ∨ j < y) → Ev (fun k => near_changes.j1 k a b acc (i : Int) (j : Int) P (P.length : Int) (p : Int) false (x : Int) (y : Int)) r := fun c => by
    unfold gapL at h
    rw [if_neg c, List.append_nil] at h
    refine Ev.step (fun _ => near_changes.j1.eq_2 ..) ?_
    simp only [w1.out, w2.out, w3.out]
    exact ev_neg (by decide) h
  refine Ev.step (fun _ => near_changes.l0.eq_2 ..) (ev_pos (by omega) (ev_pos (by omega) (ev_pos (by omega) ?_)))
  simp only [ep]
  by_cases c1 : (i : Int) < (x : Int)
  · exact ev_pos c1 (add (by omega))
  · by_cases c2 : (j : Int) < (y : Int)
    · simp only [decide_eq_true c2]
      exact ev_neg c1 (add (by omega))
    · simp only [decide_eq_false c2]
      exact ev_neg c1 (skip (by omega))
theorem Lead.nilgap {a b : List ByteArray} (t : Bool) : Lead a b t a.length b.length [] := ⟨Nat.le_refl _, Nat.le_refl _, by rw [List.drop_length, List.drop_length]⟩
theorem Lead.gapped {a b : List ByteArray} {i j x y : Nat} {L : List S72} (h1 : i ≤ x) (h2 : x ≤ a.length) (h3 : j ≤ y) (h4 : y ≤ b.length) (h : ∀ t, Lead a b t x y L) : Lead a b true i j (gapL a b i j x y ++ L) := by
  have lA : ((a.take x).drop i).length = x - i := by rw [List.length_drop, List.length_take]; omega
  have lB : ((b.take y).drop j).length = y - j := by rw [List.length_drop, List.length_take]; omega
  unfold gapL
  by_cases c : i < x ∨ j < y
  · rw [if_pos c]
    refine ⟨i, j, rfl, Nat.le_refl _, .inl rfl, Nat.le_refl _, by simp only [lA]; omega, by simp only [lB]; omega, ?_, ?_, ?_, by simp only [lA, lB]; omega, ?_⟩
    · rw [List.drop_eq_nil_of_le (by rw [List.length_take]; omega), List.drop_eq_nil_of_le (by rw [List.length_take]; omega)]
    · simp only [lA, show i + (x - i) = x by omega]
    · simp only [lB, show j + (y - j) = y by omega]
    · simp only [lA, lB, show i + (x - i) = x by omega, show j + (y - j) = y by omega]
      exact h false
  · rw [if_neg c]
    obtain rfl : i = x := by omega
    obtain rfl : j = y := by omega
    exact h true
theorem mv_gap (a b : List ByteArray) (i j x y : Nat) (L : List S72) (h1 : i ≤ x) (h2 : x ≤ a.length) (h3 : j ≤ y) (h4 : y ≤ b.length) : mv (gapL a b i j x y ++ L) = (x - i) + (y - j) + mv L := by
  have lA : ((a.take x).drop i).length = x - i := by rw [List.length_drop, List.length_take]; omega
  have lB : ((b.take y).drop j).length = y - j := by rw [List.length_drop, List.length_take]; omega
  unfold gapL
  by_cases c : i < x ∨ j < y
  · rw [if_pos c]
    show ((a.take x).drop i).length + ((b.take y).drop j).length + mv L = _
    omega
  · rw [if_neg c]
    show mv L = _
    omega
theorem gapL_len (a b : List ByteArray) (i j x y : Nat) : (gapL a b i j x y).length ≤ 1 := by
  unfold gapL
  split <;> simp
theorem chg_loop (a b : List ByteArray) (hn : a.length ≤ 4000) (hm : b.length ≤ 4000) (R : List S166) (hR : R.length ≤ 4000) (d : Nat) : ∀ (p i j : Nat) (acc : List S72), R.length - p ≤ d → p ≤ R.length → i ≤ a.length → j ≤ b.length → Pairs a b i j (R.drop p) → acc.length ≤ p →
    ∃ L, Ev (fun k => near_changes.l0 k a b acc (i : Int) (j : Int) (R ++ [⟨(a.length : Int), (b.length : Int)⟩]) ((R ++ [(⟨(a.length : Int), (b.length : Int)⟩ : S166)]).length : Int) (p : Int)) (acc ++ L) ∧ Lead a b true i j L ∧ mv L + 2 * (R.length - p) = (a.length - i) + (b.length - j) ∧ L.length ≤ R.length + 1 - p := by
  have hPl : (R ++ [(⟨(a.length : Int), (b.length : Int)⟩ : S166)]).length = R.length + 1 := by rw [List.length_append]; rfl
  have fin : ∀ (p i j : Nat) (acc : List S72), p ≤ R.length → ¬ p < R.length → i ≤ a.length → j ≤ b.length → acc.length ≤ p →
      ∃ L, Ev (fun k => near_changes.l0 k a b acc (i : Int) (j : Int) (R ++ [⟨(a.length : Int), (b.length : Int)⟩]) ((R ++ [(⟨(a.length : Int), (b.length : Int)⟩ : S166)]).length : Int) (p : Int)) (acc ++ L) ∧ Lead a b true i j L ∧ mv L + 2 * (R.length - p) = (a.length - i) + (b.length - j) ∧ L.length ≤ R.length + 1 - p := by
    intro p i j acc hp hp2 hi hj ha
    obtain rfl : p = R.length := by omega
    have h1 := Lead.gapped hi (Nat.le_refl _) hj (Nat.le_refl _) (fun t => Lead.nilgap (a := a) (b := b) t)
    have h2 := mv_gap a b i j a.length b.length [] hi (Nat.le_refl _) hj (Nat.le_refl _)
    have h3 := gapL_len a b i j a.length b.length
    rw [List.append_nil] at h1 h2
    refine ⟨gapL a b i j a.length b.length, ?_, h1, by rw [h2]; simp only [mv]; omega, by omega⟩
    refine chg_step a b hn hm _ (by omega) R.length i j a.length b.length acc (by omega) (by rw [List.getElem?_append_right (Nat.le_refl _), Nat.sub_self]; rfl) hi (Nat.le_refl _) hj (Nat.le_refl _) (by omega) _ ?_
    exact Ev.step (fun _ => near_changes.l0.eq_2 ..) (ev_neg (by omega) (Ev.now _))
  induction d with
  | zero => exact fun p i j acc hd hp hi hj _ ha => fin p i j acc hp (by omega) hi hj ha
  | succ d ih =>
    intro p i j acc hd hp hi hj hpr ha
    by_cases hlt : p < R.length
    · rw [List.drop_eq_getElem_cons hlt] at hpr
      obtain ⟨x, y, z, e0, e1, e2, e3, ex, ey, hpr2⟩ := hpr
      have hxl := (List.getElem?_eq_some_iff.1 ex).1
      have hyl := (List.getElem?_eq_some_iff.1 ey).1
      have hg := gapL_len a b i j x y
      have eP : (R ++ [(⟨(a.length : Int), (b.length : Int)⟩ : S166)])[p]? = some ⟨(x : Int), (y : Int)⟩ := by
        rw [List.getElem?_append_left hlt, List.getElem?_eq_getElem hlt]
        generalize R[p] = c at *
        obtain ⟨f0, f1⟩ := c
        simp only [] at e0 e1
        rw [e0, e1]
      obtain ⟨L, l1, l2, l3, l4⟩ := ih (p + 1) (x + 1) (y + 1) (acc ++ gapL a b i j x y) (by omega) (by omega) (by omega) (by omega) hpr2 (by rw [List.length_append]; omega)
      have hm2 := mv_gap a b i j x y L e2 (by omega) e3 (by omega)
      refine ⟨gapL a b i j x y ++ L, ?_, Lead.gapped e2 (by omega) e3 (by omega) (fun t => l2.same ex ey t), by rw [hm2]; omega, by rw [List.length_append]; omega⟩
      refine chg_step a b hn hm _ (by omega) p i j x y acc (by omega) eP e2 (by omega) e3 (by omega) (by omega) _ (ev_eq l1 ?_)
      rw [List.append_assoc]
    · exact fin p i j acc hp hlt hi hj ha
theorem changes_lead (a b : List ByteArray) (hn : a.length ≤ 4000) (hm : b.length ≤ 4000) : ∃ L, Ev (fun k => near_changes.f k a b) L ∧ Lead a b true 0 0 L ∧ mv L + 2 * (sel a b 0 0).length = a.length + b.length ∧ L.length ≤ a.length + 1 := by
  have hlen := sel_len a b 0 0
  obtain ⟨L, l1, l2, l3, l4⟩ := chg_loop a b hn hm (sel a b 0 0) (by omega) _ 0 0 0 [] (Nat.le_refl _) (Nat.zero_le _) (Nat.zero_le _) (Nat.zero_le _) (by rw [List.drop_zero]; exact sel_pairs a b a b 0 0 rfl rfl) (Nat.le_refl _)
  rw [List.nil_append] at l1
  refine ⟨L, ?_, l2, by omega, by omega⟩
  exact Ev.congr (fun _ => near_changes.f.eq_1 ..) (Ev.bind (kept_ev a b hn hm) (ev_pos (by omega) (ev_bindc rfl l1)))
theorem containsAny_no (l : List UInt8) (h : ∀ c ∈ l, c ≠ 10 ∧ c ≠ 32) : Lib.containsAny l [32, 10] = false := by
  unfold Lib.containsAny
  rw [Lib.indexAny_none]
  · rfl
  · intro j b hj hb
    have := h b (List.mem_of_getElem? hb)
    simp [this.1, this.2]
theorem isToken_ok (z : ByteArray) (hz : z.size < 4294967281) (h : okTok z.data.toList) : near_isToken.f z = some true := by
  unfold near_isToken.f
  rcases h with h | ⟨h1, h2⟩
  · rw [if_pos (by rw [Lib.toList_data]; exact h)]
  · have e1 : ¬ z.toList = ([10] : List UInt8) := fun e => by
      rw [Lib.toList_data] at e
      exact (h2 10 (by rw [e]; simp)).1 rfl
    have e2 : ¬ z.toList = ([] : List UInt8) := fun e => by
      rw [Lib.toList_data] at e
      exact h1 e
    rw [if_neg e1, if_neg e2]
    unfold strings_ContainsAny.f
    rw [if_pos ⟨hz, rfl⟩, containsAny_no _ h2]
    rfl
theorem wrong_no (l : List ByteArray) (h : ∀ z ∈ l, z.size < 4294967281 ∧ okTok z.data.toList) : slices_ContainsFunc_string_string.f l 140 = some false := by
  unfold slices_ContainsFunc_string_string.f slices_IndexFunc_string_string.f
  have c : 140 = 140 ∧ (l.all fun x => decide (x.size < 4294967281)) = true := ⟨rfl, List.all_eq_true.2 fun z hz => decide_eq_true (h z hz).1⟩
  rw [if_pos c, Option.bind_some]
  have e : decide (Lib.idxBy (fun _ y => (near_patched_1.f y).getD false) l default ≥ 0) = l.any fun y => (near_patched_1.f y).getD false := Lib.idxBy_nonneg_iff (fun _ y => (near_patched_1.f y).getD false) l default
  rw [e]
  congr 1
  rw [List.any_eq_false]
  intro z hz
  obtain ⟨h1, h2⟩ := h z hz
  unfold near_patched_1.f
  rw [isToken_ok z h1 h2]
  simp
theorem sz_mem : ∀ (l : List ByteArray) (z : ByteArray), z ∈ l → z.size < sz1 l
  | [], z, h => by cases h
  | x :: l, z, h => by
    simp only [sz1]
    rcases List.mem_cons.1 h with rfl | h
    · omega
    · have := sz_mem l z h
      omega
theorem mem_piece {x : List ByteArray} {n i : Nat} {z : ByteArray} (h : z ∈ (x.take n).drop i) : z ∈ x := List.mem_of_mem_take (List.mem_of_mem_drop h)
theorem take_piece {y : List ByteArray} {j q : Nat} (h : j ≤ q) : y.take j ++ (y.take q).drop j = y.take q := by
  have : y.take j = (y.take q).take j := by rw [List.take_take, Nat.min_eq_left h]
  rw [this, List.take_append_drop]
theorem patched_loop (x y : List ByteArray) (hx : sz1 x ≤ 4000) (hy : sz1 y ≤ 4000) (okx : ∀ z ∈ x, okTok z.data.toList) (oky : ∀ z ∈ y, okTok z.data.toList) (P : List S72) (hP : P.length ≤ 5000) (d : Nat) : ∀ (p i j : Nat), P.length - p ≤ d → p ≤ P.length → Lead x y (decide (p = 0)) i j (P.drop p) →
    Ev (fun k => near_patched.l0 k x (y.take j) (i : Int) P (P.length : Int) (p : Int)) (y, 0) := by
  have lx := len_le_sz1 x
  have ly := len_le_sz1 y
  have stop : ∀ (p i j : Nat), ¬ p < P.length → Lead x y (decide (p = 0)) i j (P.drop p) → Ev (fun k => near_patched.l0 k x (y.take j) (i : Int) P (P.length : Int) (p : Int)) (y, 0) := by
    intro p i j hp h
    rw [List.drop_eq_nil_of_le (by omega)] at h
    obtain ⟨h1, h2, h3⟩ := h
    have e1 : y.take j ++ x.drop i = y := by rw [h3, List.take_append_drop]
    have e2 : (y.take j).length ≤ y.length := by rw [List.length_take]; omega
    have e3 : (x.drop i).length ≤ x.length := by rw [List.length_drop]; omega
    have hj := joinB_is y (by omega)
    have hl := large_is (joinB y)
    have hs := joinB_size y
    rw [if_neg (by omega)] at hl
    refine Ev.step (fun _ => near_patched.l0.eq_2 ..) (ev_neg (by omega) (ev_pos (by omega) (ev_pos (by omega) ?_)))
    simp only [Int.toNat_natCast]
    refine ev_bindc rfl (ev_pos (by omega) (ev_bindc rfl ?_))
    rw [e1]
    exact ev_bindc hj (ev_bindc hl (Ev.now _))
  induction d with
  | zero => exact fun p i j hd hp h => stop p i j (by omega) h
  | succ d ih =>
    intro p i j hd hp h
    by_cases hlt : p < P.length
    · rw [List.drop_eq_getElem_cons hlt] at h
      have ep := rd_chg P p hlt
      generalize P[p] = c at *
      obtain ⟨f0, D, A⟩ := c
      obtain ⟨pp, q, e0, e1, e2, e3, e4, e5, e6, e7, e8, e9, e10⟩ := h
      simp only [] at e0 e4 e5 e7 e8 e9 e10
      subst e0
      have w1 := Aside0.mk (kadd1 p (by omega))
      have w2 : Aside0 (wrap64 ((pp : Int) + (D.length : Int)) = ((pp + D.length : Nat) : Int)) := ⟨by rw [wr64 (by omega) (by omega)]; omega⟩
      have w3 : Aside0 (wrap64 ((x.length : Int) - (pp : Int)) = ((x.length - pp : Nat) : Int)) := ⟨by rw [wr64 (by omega) (by omega)]; omega⟩
      have hin : base_In.f (pp : Int) 0 (x.length : Int) = some true := by
        unfold base_In.f
        rw [if_pos (by omega), decide_eq_true (by omega)]
      have okD : slices_ContainsFunc_string_string.f D 140 = some false := wrong_no D fun z hz => by
        rw [e7] at hz
        have hm := mem_piece hz
        exact ⟨by have := sz_mem x z hm; omega, okx z hm⟩
      have okA : slices_ContainsFunc_string_string.f A 140 = some false := wrong_no A fun z hz => by
        rw [e8] at hz
        have hm := mem_piece hz
        exact ⟨by have := sz_mem y z hm; omega, oky z hm⟩
      have eq := eqS_ev D (by omega)
      have l1 : (y.take j).length ≤ y.length := by rw [List.length_take]; omega
      have l2 : ((x.take pp).drop i).length ≤ x.length := by rw [List.length_drop, List.length_take]; omega
      have t1 : y.take j ++ (x.take pp).drop i = y.take q := by rw [e6, take_piece e3]
      have t2 : y.take q ++ A = y.take (q + A.length) := by
        rw [show y.take (q + A.length) = y.take q ++ (y.take (q + A.length)).drop q from (take_piece (by omega)).symm, ← e8]
      have l3 : (y.take q).length ≤ y.length := by rw [List.length_take]; omega
      have next := ih (p + 1) (pp + D.length) (q + A.length) (by omega) (by omega) (by
        have : decide (p + 1 = 0) = false := decide_eq_false (by omega)
        rw [this]
        exact e10)
      have j2 : Ev (fun k => near_patched.j2 k x (y.take j) (i : Int) P (P.length : Int) (p : Int) false (pp : Int) D A) (y, 0) := by
        refine Ev.step (fun _ => near_patched.j2.eq_2 ..) (ev_neg (by decide) ?_)
        simp only [w1.out, w2.out, w3.out, Int.toNat_natCast]
        refine ev_neg (by omega) (ev_pos (by omega) (ev_pos (by omega) (ev_pos (by omega) ?_)))
        rw [← e7]
        refine Ev.bind eq (ev_pos rfl (ev_pos (by omega) (ev_pos (by omega) (ev_pos (by omega) (ev_bindc rfl (ev_pos (by omega) (ev_bindc rfl ?_)))))))
        rw [t1]
        refine ev_pos (by omega) ?_
        rw [t2]
        exact next
      have j1 : Ev (fun k => near_patched.j1 k x (y.take j) (i : Int) 140 P (P.length : Int) (p : Int) false (pp : Int) D A) (y, 0) := by
        refine Ev.step (fun _ => near_patched.j1.eq_2 ..) (ev_neg (by decide) ?_)
        by_cases hD : (D.length : Int) = 0
        · exact ev_pos hD (ev_neg (by omega) (ev_bindc okD (ev_neg (by decide) (ev_bindc okA j2))))
        · exact ev_neg hD (ev_bindc okD (ev_neg (by decide) (ev_bindc okA j2)))
      refine Ev.step (fun _ => near_patched.l0.eq_2 ..) (ev_pos (by omega) (ev_pos (by omega) (ev_pos (by omega) ?_)))
      simp only [ep]
      refine ev_bindc hin (ev_pos rfl ?_)
      by_cases h0 : (p : Int) > 0
      · have hs : ¬ (pp : Int) ≤ (i : Int) := by
          rcases e2 with e | e
          · have := of_decide_eq_true e
            omega
          · omega
        rw [decide_eq_false hs]
        exact ev_pos h0 j1
      · exact ev_neg h0 j1
    · exact stop p i j hlt h
theorem patched_lead (s : ByteArray) (x y : List ByteArray) (L : List S72) (hs : Ev (fun k => near_tokens.f k s) (x, 0)) (hx : sz1 x ≤ 4000) (hy : sz1 y ≤ 4000) (okx : ∀ z ∈ x, okTok z.data.toList) (oky : ∀ z ∈ y, okTok z.data.toList) (hP : L.length ≤ 5000) (h : Lead x y true 0 0 L) : Ev (fun k => near_patched.f k s L) (y, 0) := by
  refine Ev.congr (fun _ => near_patched.f.eq_1 ..) (Ev.bind hs (ev_pos rfl ?_))
  have := patched_loop x y hx hy okx oky L hP _ 0 0 0 (Nat.le_refl _) (Nat.zero_le _) (by rw [List.drop_zero]; exact h)
  rw [List.take_zero] at this
  exact this
theorem Patch_lead (s : ByteArray) (x y : List ByteArray) (L : List S72) (hs : Ev (fun k => near_tokens.f k s) (x, 0)) (hx : sz1 x ≤ 4000) (hy : sz1 y ≤ 4000) (okx : ∀ z ∈ x, okTok z.data.toList) (oky : ∀ z ∈ y, okTok z.data.toList) (hP : L.length ≤ 5000) (h : Lead x y true 0 0 L) : Ev (fun k => near_Patch.f k s L) (joinB y, 0) :=
  Ev.congr (fun _ => near_Patch.f.eq_1 ..) (Ev.bind (patched_lead s x y L hs hx hy okx oky hP h) (ev_pos rfl (ev_bindc (joinB_is y (by omega)) (Ev.now _))))
theorem Lead.bds {x y : List ByteArray} (hx : x.length ≤ 4000) (hy : y.length ≤ 4000) : ∀ {L : List S72} {s : Bool} {i j : Nat}, Lead x y s i j L → ∀ c ∈ L, 0 ≤ c.f0 ∧ c.f0 ≤ 4000 ∧ c.f1.length ≤ 4000 ∧ c.f2.length ≤ 4000
  | [], _, _, _, _, c, hc => by cases hc
  | c :: r, _, _, _, h, c', hc => by
    obtain ⟨p, q, e0, e1, e2, e3, e4, e5, e6, e7, e8, e9, e10⟩ := h
    rcases List.mem_cons.1 hc with rfl | hc
    · exact ⟨by omega, by omega, by omega, by omega⟩
    · exact e10.bds hx hy c' hc
theorem turnL_len : ∀ (m : Int) (L : List S72), (turnL m L).length = L.length
  | _, [] => rfl
  | m, c :: r => by simp only [turnL, List.length_cons, turnL_len]
theorem turn_loop (P : List S72) (hP : P.length ≤ 5000) (hb : ∀ c ∈ P, 0 ≤ c.f0 ∧ c.f0 ≤ 4000 ∧ c.f1.length ≤ 4000 ∧ c.f2.length ≤ 4000) (d : Nat) : ∀ (p : Nat) (acc : List S72) (m : Int), P.length - p ≤ d → p ≤ P.length → acc.length ≤ p → -4000 * (p : Int) ≤ m → m ≤ 4000 * (p : Int) →
    Ev (fun k => near_Turn.l0 k acc m P (P.length : Int) (p : Int)) (acc ++ turnL m (P.drop p), 0) := by
  have stop : ∀ (p : Nat) (acc : List S72) (m : Int), ¬ p < P.length → Ev (fun k => near_Turn.l0 k acc m P (P.length : Int) (p : Int)) (acc ++ turnL m (P.drop p), 0) := by
    intro p acc m hp
    rw [List.drop_eq_nil_of_le (by omega)]
    simp only [turnL, List.append_nil]
    exact Ev.step (fun _ => near_Turn.l0.eq_2 ..) (ev_neg (by omega) (Ev.now _))
  induction d with
  | zero => exact fun p acc m hd hp _ _ _ => stop p acc m (by omega)
  | succ d ih =>
    intro p acc m hd hp ha h1 h2
    by_cases hlt : p < P.length
    · rw [List.drop_eq_getElem_cons hlt]
      have ep := rd_chg P p hlt
      obtain ⟨b1, b2, b3, b4⟩ := hb P[p] (List.getElem_mem hlt)
      generalize P[p] = c at *
      obtain ⟨f0, D, A⟩ := c
      simp only [] at b1 b2 b3 b4
      have w1 := Aside0.mk (kadd1 p (by omega))
      have w2 : Aside0 (wrap64 (f0 + m) = f0 + m) := ⟨by rw [wr64 (by omega) (by omega)]⟩
      have w3 : Aside0 (wrap64 ((A.length : Int) - (D.length : Int)) = (A.length : Int) - (D.length : Int)) := ⟨by rw [wr64 (by omega) (by omega)]⟩
      have w4 : Aside0 (wrap64 (m + ((A.length : Int) - (D.length : Int))) = m + ((A.length : Int) - (D.length : Int))) := ⟨by rw [wr64 (by omega) (by omega)]⟩
      refine Ev.step (fun _ => near_Turn.l0.eq_2 ..) (ev_pos (by omega) (ev_pos (by omega) (ev_pos (by omega) ?_)))
      simp only [ep, w1.out, w2.out, w3.out, w4.out]
      refine ev_bindc (clone_of A (by omega)) (ev_bindc (clone_of D (by omega)) (ev_pos (by omega) (ev_eq (ih (p + 1) _ _ (by omega) (by omega) (by rw [List.length_append]; simp only [List.length_cons, List.length_nil]; omega) (by omega) (by omega)) ?_)))
      simp only [turnL, List.append_assoc, List.cons_append, List.nil_append]
    · exact stop p acc m hlt
end Go.Proofs.YtomamgapdeggjaaDoor.Pl
