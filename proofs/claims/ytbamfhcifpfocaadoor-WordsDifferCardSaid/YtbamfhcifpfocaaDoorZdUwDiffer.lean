/- A part of the proof of wordsDiffer. No conditions. Laid by program over the kit's print and words. -/
import Derived.Test.YtbamfhcifpfocaaDoorZdUwKeptof
import Derived.Test.YtbamfhcifpfocaaDoorZdUwTokens
import Derived.Test.YtbamfhcifpfocaaDoorZdPwx6
import Derived.Test.YtbamfhcifpfocaaDoorZdPwx10
import Derived.Test.YtbamfhcifpfocaaDoorZdPwx11
namespace Go.Proofs.YtbamfhcifpfocaaDoor.Pw
open Go.RowKit Go.Proofs.YtbamfhcifpfocaaDoor.GBase Go.Proofs.YtbamfhcifpfocaaDoorW.PrintWords Go.Proofs.YtbamfhcifpfocaaDoorW.PrintLast Go.Proofs.YtbamfhcifpfocaaDoorW.PrintMore
set_option linter.unusedVariables false
set_option linter.unusedSimpArgs false
theorem change_same (k : Nat) : (∀ a b c d e f g h, near_changes.l0 k a b c d e f g h = chaseref1_DifferOf.l0 k a b c d e f g h) ∧ (∀ a b c d e f g h x y z, near_changes.j1 k a b c d e f g h x y z = chaseref1_DifferOf.j1 k a b c d e f g h x y z) := by
  induction k with
  | zero => exact ⟨fun _ _ _ _ _ _ _ _ => rfl, fun _ _ _ _ _ _ _ _ _ _ _ => rfl⟩
  | succ k ih =>
    obtain ⟨h0, h1⟩ := ih
    refine ⟨fun a b c d e f g h => ?_, fun a b c d e f g h x y z => ?_⟩
    · rw [near_changes.l0.eq_2, chaseref1_DifferOf.l0.eq_2]
      simp only [h1, gt_iff_lt]
    · rw [near_changes.j1.eq_2, chaseref1_DifferOf.j1.eq_2]
      simp only [h0]
def chC : List S129 → Nat
  | [] => 0
  | c :: r => sz1 c.f1 + sz1 c.f2 + 10 + chC r
def CW (n : Nat) : Nat → List S129 → Prop
  | _, [] => True
  | t, c :: r => ∃ p : Nat, c.f0 = (p : Int) ∧ t ≤ p ∧ p + c.f1.length ≤ n ∧ CW n (p + c.f1.length) r
theorem CW.mono {n : Nat} : ∀ {L : List S129} {t t' : Nat}, CW n t' L → t ≤ t' → CW n t L
  | [], _, _, _, _ => trivial
  | c :: r, _, _, ⟨p, h1, h2, h3, h4⟩, h => ⟨p, h1, by omega, h3, h4⟩
theorem sz1_cut (a : List ByteArray) (i x : Nat) (h : i ≤ x) (hx : x ≤ a.length) : sz1 ((a.take x).drop i) + sz1 (a.drop x) = sz1 (a.drop i) := by
  rw [← sz1_append, ← List.drop_append_of_le_length (by rw [List.length_take]; omega), List.take_append_drop]
theorem sz1_drop1 (a : List ByteArray) (x : Nat) : sz1 (a.drop (x + 1)) ≤ sz1 (a.drop x) := by
  by_cases h : x < a.length
  · rw [List.drop_eq_getElem_cons h]
    simp only [sz1]
    omega
  · rw [show a.drop x = [] from List.drop_eq_nil_of_le (by omega), show a.drop (x + 1) = [] from List.drop_eq_nil_of_le (by omega)]
    exact Nat.le_refl _
theorem clone_is (l : List ByteArray) (h : l.length ≤ 100000) : slices_Clone_string_string.f l = some l := by
  unfold slices_Clone_string_string.f
  rw [if_pos (by omega)]
theorem rdP (P : List S132) (p : Nat) (h : p < P.length) : rd_T132 P (p : Int) = P[p] := by
  simp [rd_T132, List.getD_eq_getElem?_getD, List.getElem?_eq_getElem h]
theorem rdC (P : List S129) (p : Nat) (h : p < P.length) : rd_T129 P (p : Int) = P[p] := by
  simp [rd_T129, List.getD_eq_getElem?_getD, List.getElem?_eq_getElem h]
theorem changes_loop (a b : List ByteArray) (hn : a.length ≤ 4000) (hm : b.length ≤ 4000) (P : List S132) (hP : P.length ≤ 5000) (d : Nat) : ∀ (p i j : Nat) (acc : List S129), P.length - p ≤ d → p ≤ P.length → Rise a.length b.length i j (P.drop p) → acc.length ≤ p →
    ∃ L, Ev (fun k => near_changes.l0 k a b acc (i : Int) (j : Int) P (P.length : Int) (p : Int)) (acc ++ L) ∧ CW a.length i L ∧ chC L ≤ sz1 (a.drop i) + sz1 (b.drop j) + 10 * (P.length - p) ∧ L.length ≤ P.length - p := by
  have stop : ∀ (p i j : Nat) (acc : List S129), ¬ p < P.length → ∃ L, Ev (fun k => near_changes.l0 k a b acc (i : Int) (j : Int) P (P.length : Int) (p : Int)) (acc ++ L) ∧ CW a.length i L ∧ chC L ≤ sz1 (a.drop i) + sz1 (b.drop j) + 10 * (P.length - p) ∧ L.length ≤ P.length - p := fun p i j acc h =>
    ⟨[], Ev.step (fun _ => near_changes.l0.eq_2 ..) (ev_neg (by omega) (ev_val (by rw [List.append_nil]))), trivial, Nat.zero_le _, Nat.zero_le _⟩
  induction d with
  | zero => exact fun p i j acc h1 h2 _ _ => stop p i j acc (by omega)
  | succ d ih =>
    intro p i j acc h1 h2 hr ha
    by_cases hp : p < P.length
    · rw [List.drop_eq_getElem_cons hp] at hr
      obtain ⟨r1, r2, r3, r4, r5⟩ := hr
      have w3 := Aside0.mk (kadd1 p (by omega))
      have ep := rdP P p hp
      generalize P[p] = c at *
      obtain ⟨f0, f1⟩ := c
      simp only [] at r1 r2 r3 r4 r5
      obtain ⟨x, rfl⟩ := Int.eq_ofNat_of_zero_le (show 0 ≤ f0 by omega)
      obtain ⟨y, rfl⟩ := Int.eq_ofNat_of_zero_le (show 0 ≤ f1 by omega)
      have w1 := Aside0.mk (kadd1 x (by omega))
      have w2 := Aside0.mk (kadd1 y (by omega))
      have r5' : Rise a.length b.length ((x + 1 : Nat) : Int) ((y + 1 : Nat) : Int) (P.drop (p + 1)) := r5
      have cA := sz1_cut a i x (by omega) (by omega)
      have cB := sz1_cut b j y (by omega) (by omega)
      have dA := sz1_drop1 a x
      have dB := sz1_drop1 b y
      have lA : ((a.take x).drop i).length = x - i := by rw [List.length_drop, List.length_take]; omega
      have lB : ((b.take y).drop j).length = y - j := by rw [List.length_drop, List.length_take]; omega
      have add : ∃ L, Ev (fun k => near_changes.j1 k a b acc (i : Int) (j : Int) P (P.length : Int) (p : Int) true (x : Int) (y : Int)) (acc ++ L) ∧ CW a.length i L ∧ chC L ≤ sz1 (a.drop i) + sz1 (b.drop j) + 10 * (P.length - p) ∧ L.length ≤ P.length - p := by
        obtain ⟨L, l1, l2, l3, l4⟩ := ih (p + 1) (x + 1) (y + 1) (acc ++ [⟨(i : Int), (a.take x).drop i, (b.take y).drop j⟩]) (by omega) (by omega) r5' (by rw [List.length_append]; simp only [List.length_cons, List.length_nil]; omega)
        refine ⟨⟨(i : Int), (a.take x).drop i, (b.take y).drop j⟩ :: L, Ev.step (fun _ => near_changes.j1.eq_2 ..) ?_, ⟨i, rfl, Nat.le_refl _, by simp only [lA]; omega, l2.mono (by simp only [lA]; omega)⟩, ?_, ?_⟩
        · simp only [Int.toNat_natCast, w1.out, w2.out, w3.out]
          refine ev_pos (by trivial) (ev_pos (by omega) (ev_pos (by omega) (ev_pos (by omega) (ev_bindc (clone_is _ (by omega)) (ev_pos (by omega) (ev_pos (by omega) (ev_pos (by omega) (ev_bindc (clone_is _ (by omega)) (ev_pos (by omega) (ev_eq l1 ?_))))))))))
          rw [List.append_assoc]
          rfl
        · simp only [chC]
          omega
        · simp only [List.length_cons]
          omega
      have skip : ∃ L, Ev (fun k => near_changes.j1 k a b acc (i : Int) (j : Int) P (P.length : Int) (p : Int) false (x : Int) (y : Int)) (acc ++ L) ∧ CW a.length i L ∧ chC L ≤ sz1 (a.drop i) + sz1 (b.drop j) + 10 * (P.length - p) ∧ L.length ≤ P.length - p := by
        obtain ⟨L, l1, l2, l3, l4⟩ := ih (p + 1) (x + 1) (y + 1) acc (by omega) (by omega) r5' (by omega)
        refine ⟨L, Ev.step (fun _ => near_changes.j1.eq_2 ..) ?_, l2.mono (by omega), by omega, by omega⟩
        simp only [w1.out, w2.out, w3.out]
        exact ev_neg (by decide) l1
      by_cases c1 : (i : Int) < (x : Int)
      · obtain ⟨L, l1, l2⟩ := add
        refine ⟨L, Ev.step (fun _ => near_changes.l0.eq_2 ..) (ev_pos (by omega) (ev_pos (by omega) (ev_pos (by omega) ?_))), l2⟩
        simp only [ep]
        exact ev_pos c1 l1
      · by_cases c2 : (j : Int) < (y : Int)
        · obtain ⟨L, l1, l2⟩ := add
          refine ⟨L, Ev.step (fun _ => near_changes.l0.eq_2 ..) (ev_pos (by omega) (ev_pos (by omega) (ev_pos (by omega) ?_))), l2⟩
          simp only [ep, decide_eq_true c2]
          exact ev_neg c1 l1
        · obtain ⟨L, l1, l2⟩ := skip
          refine ⟨L, Ev.step (fun _ => near_changes.l0.eq_2 ..) (ev_pos (by omega) (ev_pos (by omega) (ev_pos (by omega) ?_))), l2⟩
          simp only [ep, decide_eq_false c2]
          exact ev_neg c1 l1
    · exact stop p i j acc hp
theorem changes_ev (a b : List ByteArray) (hn : a.length ≤ 4000) (hm : b.length ≤ 4000) : ∃ L, Ev (fun k => near_changes.f k a b) L ∧ (∀ (s t : ByteArray), Ev (fun k => chaseref1_TokensOf.f k s) a → Ev (fun k => chaseref1_TokensOf.f k t) b → Ev (fun k => chaseref1_DifferOf.f k s t) L) ∧ CW a.length 0 L ∧ chC L ≤ sz1 a + sz1 b + 10 * (a.length + 1) ∧ L.length ≤ a.length + 1 := by
  have hlen := sel_len a b 0 0
  have hPl : (sel a b 0 0 ++ ([⟨(a.length : Int), (b.length : Int)⟩] : List S132)).length ≤ a.length + 1 := by rw [List.length_append]; simp only [List.length_cons, List.length_nil]; omega
  have hrise := sel_rise a.length b.length a b 0 0 (by omega) (by omega)
  obtain ⟨L, l1, l2, l3, l4⟩ := changes_loop a b hn hm (sel a b 0 0 ++ ([⟨(a.length : Int), (b.length : Int)⟩] : List S132)) (by omega) _ 0 0 0 [] (Nat.le_refl _) (Nat.zero_le _) hrise (Nat.le_refl _)
  rw [List.drop_zero, List.drop_zero] at l3
  rw [List.nil_append] at l1
  refine ⟨L, ?_, fun s t hs ht => ?_, l2, by omega, by omega⟩
  · exact Ev.congr (fun _ => near_changes.f.eq_1 ..) (Ev.bind (kept_ev a b hn hm) (ev_pos (by omega) (ev_bindc rfl l1)))
  · refine Ev.congr (fun _ => chaseref1_DifferOf.f.eq_1 ..) (Ev.bind hs (Ev.bind ht (Ev.bind (keptOf_ev a b hn hm) (ev_pos (by omega) (ev_bindc rfl ?_)))))
    simp only [← (change_same _).1]
    exact l1
theorem wrapped (x y z : ByteArray) (h1 : x.size = 2) (h3 : z.size = 2) : sz1 [(x ++ y) ++ z] = y.size + 5 := by
  simp only [sz1, ByteArray.size_append]
  omega
theorem joined (l : List ByteArray) (h : sz1 l ≤ 100000) : ∃ j, near_Join.f l = some j ∧ chaseref1_JoinOf.f l = some j ∧ j.size ≤ sz1 l := by
  obtain ⟨h1, h2⟩ := join_is l (by omega)
  refine ⟨_, h1, h2, ?_⟩
  have h3 := jt_sz1 l l.length (Nat.le_refl _)
  rw [List.take_length] at h3
  show (jt l l.length).toArray.size ≤ _
  rw [List.size_toArray]
  exact h3
theorem marked_loop (a : List ByteArray) (hn : a.length ≤ 4000) (P : List S129) (hP : P.length ≤ 5000) (d : Nat) : ∀ (p t : Nat) (acc : List ByteArray), P.length - p ≤ d → p ≤ P.length → t ≤ a.length → CW a.length t (P.drop p) → sz1 acc + sz1 (a.drop t) + chC (P.drop p) ≤ 60000 →
    ∃ s : ByteArray, Ev (fun k => near_Marked.l0 k a acc (t : Int) P (P.length : Int) (p : Int)) (s, 0) ∧ Ev (fun k => chaseref1_MarkedOf.l0 k a acc (t : Int) P (P.length : Int) (p : Int)) s := by
  have stop : ∀ (p t : Nat) (acc : List ByteArray), ¬ p < P.length → t ≤ a.length → sz1 acc + sz1 (a.drop t) + chC (P.drop p) ≤ 60000 → ∃ s : ByteArray, Ev (fun k => near_Marked.l0 k a acc (t : Int) P (P.length : Int) (p : Int)) (s, 0) ∧ Ev (fun k => chaseref1_MarkedOf.l0 k a acc (t : Int) P (P.length : Int) (p : Int)) s := by
    intro p t acc hp ht hb
    have e := sz1_append acc (a.drop t)
    have l1 := len_le_sz1 acc
    have l2 := len_le_sz1 (a.drop t)
    obtain ⟨j, j1, j2, j3⟩ := joined (acc ++ a.drop t) (by omega)
    refine ⟨j, Ev.step (fun _ => near_Marked.l0.eq_2 ..) (ev_neg (by omega) (ev_pos (by omega) (ev_pos (by omega) (ev_bindc rfl ?_)))), Ev.step (fun _ => chaseref1_MarkedOf.l0.eq_2 ..) (ev_neg (by omega) (ev_pos (by omega) (ev_pos (by omega) (ev_bindc rfl ?_))))⟩
    · simp only [Int.toNat_natCast]
      exact ev_pos (by omega) (ev_bindc j1 (ev_neg (by omega) (Ev.now _)))
    · simp only [Int.toNat_natCast]
      exact ev_pos (by omega) (ev_bindc j2 (Ev.now _))
  induction d with
  | zero => exact fun p t acc h1 h2 h3 _ h5 => stop p t acc (by omega) h3 h5
  | succ d ih =>
    intro p t acc h1 h2 h3 hw hb
    by_cases hp : p < P.length
    · rw [List.drop_eq_getElem_cons hp] at hw hb
      have ep := rdC P p hp
      have w1 := Aside0.mk (kadd1 p (by omega))
      generalize P[p] = c at *
      obtain ⟨f0, D, A⟩ := c
      obtain ⟨x, e0, x1, x2, x3⟩ := hw
      simp only [] at e0 x2 x3
      subst e0
      simp only [chC] at hb
      have w2 : Aside0 (wrap64 ((x : Int) + (D.length : Int)) = ((x + D.length : Nat) : Int)) := ⟨by rw [wr64 (by omega) (by omega)]; omega⟩
      have cA := sz1_cut a t x x1 (by omega)
      have cD := sz1_cut a x (x + D.length) (by omega) x2
      generalize hy : (a.take x).drop t = Y at *
      have e1 := sz1_append acc Y
      have l1 := len_le_sz1 acc
      have l2 := len_le_sz1 Y
      obtain ⟨jD, d1, d2, d3⟩ := joined D (by omega)
      obtain ⟨jA, a1, a2, a3⟩ := joined A (by omega)
      have e2 := wrapped ⟨#[91, 45]⟩ jD ⟨#[45, 93]⟩ rfl rfl
      have e3 := wrapped ⟨#[123, 43]⟩ jA ⟨#[43, 125]⟩ rfl rfl
      have s2 : ((⟨#[91, 45]⟩ : ByteArray) ++ jD).size = 2 + jD.size := ByteArray.size_append
      have s3 : ((⟨#[123, 43]⟩ : ByteArray) ++ jA).size = 2 + jA.size := ByteArray.size_append
      have next : ∀ out, sz1 out ≤ sz1 acc + sz1 Y + (sz1 D + sz1 A + 10) → ∃ s : ByteArray, Ev (fun k => near_Marked.l0 k a out ((x + D.length : Nat) : Int) P (P.length : Int) ((p + 1 : Nat) : Int)) (s, 0) ∧ Ev (fun k => chaseref1_MarkedOf.l0 k a out ((x + D.length : Nat) : Int) P (P.length : Int) ((p + 1 : Nat) : Int)) s := fun out ho => ih (p + 1) (x + D.length) out (by omega) (by omega) x2 x3 (by omega)
      by_cases cD : (D.length : Int) > 0
      · have e4 := sz1_append (acc ++ Y) [((⟨#[91, 45]⟩ : ByteArray) ++ jD) ++ (⟨#[45, 93]⟩ : ByteArray)]
        have l4 := len_le_sz1 ((acc ++ Y) ++ [((⟨#[91, 45]⟩ : ByteArray) ++ jD) ++ (⟨#[45, 93]⟩ : ByteArray)])
        have l5 := len_le_sz1 (acc ++ Y)
        have l6 : (acc ++ Y).length = acc.length + Y.length := List.length_append
        by_cases cA2 : (A.length : Int) > 0
        · obtain ⟨s, n1, n2⟩ := next (((acc ++ Y) ++ [((⟨#[91, 45]⟩ : ByteArray) ++ jD) ++ (⟨#[45, 93]⟩ : ByteArray)]) ++ [((⟨#[123, 43]⟩ : ByteArray) ++ jA) ++ (⟨#[43, 125]⟩ : ByteArray)]) (by rw [sz1_append]; omega)
          refine ⟨s, Ev.step (fun _ => near_Marked.l0.eq_2 ..) ?_, Ev.step (fun _ => chaseref1_MarkedOf.l0.eq_2 ..) ?_⟩
          · simp only [ep, w1.out, w2.out, Int.toNat_natCast, hy]
            exact ev_pos (by omega) (ev_pos (by omega) (ev_pos (by omega) (ev_pos (by omega) (ev_pos (by omega) (ev_pos (by omega) (ev_bindc rfl (ev_pos (by omega) (ev_bindc rfl (ev_pos cD (ev_bindc d1 (ev_pos (by omega) (ev_pos (by omega) (ev_pos (by omega) (ev_bindc rfl (ev_pos cA2 (ev_bindc a1 (ev_pos (by omega) (ev_pos (by omega) (ev_pos (by omega) n1)))))))))))))))))))
          · simp only [ep, w1.out, w2.out, Int.toNat_natCast, hy]
            exact ev_pos (by omega) (ev_pos (by omega) (ev_pos (by omega) (ev_pos (by omega) (ev_pos (by omega) (ev_pos (by omega) (ev_bindc rfl (ev_pos (by omega) (ev_bindc rfl (ev_pos cD (ev_bindc d2 (ev_pos (by omega) (ev_pos (by omega) (ev_pos (by omega) (ev_bindc rfl (ev_pos cA2 (ev_bindc a2 (ev_pos (by omega) (ev_pos (by omega) (ev_pos (by omega) n2)))))))))))))))))))
        · obtain ⟨s, n1, n2⟩ := next ((acc ++ Y) ++ [((⟨#[91, 45]⟩ : ByteArray) ++ jD) ++ (⟨#[45, 93]⟩ : ByteArray)]) (by omega)
          refine ⟨s, Ev.step (fun _ => near_Marked.l0.eq_2 ..) ?_, Ev.step (fun _ => chaseref1_MarkedOf.l0.eq_2 ..) ?_⟩
          · simp only [ep, w1.out, w2.out, Int.toNat_natCast, hy]
            exact ev_pos (by omega) (ev_pos (by omega) (ev_pos (by omega) (ev_pos (by omega) (ev_pos (by omega) (ev_pos (by omega) (ev_bindc rfl (ev_pos (by omega) (ev_bindc rfl (ev_pos cD (ev_bindc d1 (ev_pos (by omega) (ev_pos (by omega) (ev_pos (by omega) (ev_bindc rfl (ev_neg cA2 n1)))))))))))))))
          · simp only [ep, w1.out, w2.out, Int.toNat_natCast, hy]
            exact ev_pos (by omega) (ev_pos (by omega) (ev_pos (by omega) (ev_pos (by omega) (ev_pos (by omega) (ev_pos (by omega) (ev_bindc rfl (ev_pos (by omega) (ev_bindc rfl (ev_pos cD (ev_bindc d2 (ev_pos (by omega) (ev_pos (by omega) (ev_pos (by omega) (ev_bindc rfl (ev_neg cA2 n2)))))))))))))))
      · have l5 := len_le_sz1 (acc ++ Y)
        have l6 : (acc ++ Y).length = acc.length + Y.length := List.length_append
        by_cases cA2 : (A.length : Int) > 0
        · obtain ⟨s, n1, n2⟩ := next ((acc ++ Y) ++ [((⟨#[123, 43]⟩ : ByteArray) ++ jA) ++ (⟨#[43, 125]⟩ : ByteArray)]) (by rw [sz1_append]; omega)
          refine ⟨s, Ev.step (fun _ => near_Marked.l0.eq_2 ..) ?_, Ev.step (fun _ => chaseref1_MarkedOf.l0.eq_2 ..) ?_⟩
          · simp only [ep, w1.out, w2.out, Int.toNat_natCast, hy]
            exact ev_pos (by omega) (ev_pos (by omega) (ev_pos (by omega) (ev_pos (by omega) (ev_pos (by omega) (ev_pos (by omega) (ev_bindc rfl (ev_pos (by omega) (ev_bindc rfl (ev_neg cD (ev_pos cA2 (ev_bindc a1 (ev_pos (by omega) (ev_pos (by omega) (ev_pos (by omega) n1))))))))))))))
          · simp only [ep, w1.out, w2.out, Int.toNat_natCast, hy]
            exact ev_pos (by omega) (ev_pos (by omega) (ev_pos (by omega) (ev_pos (by omega) (ev_pos (by omega) (ev_pos (by omega) (ev_bindc rfl (ev_pos (by omega) (ev_bindc rfl (ev_neg cD (ev_pos cA2 (ev_bindc a2 (ev_pos (by omega) (ev_pos (by omega) (ev_pos (by omega) n2))))))))))))))
        · obtain ⟨s, n1, n2⟩ := next (acc ++ Y) (by omega)
          refine ⟨s, Ev.step (fun _ => near_Marked.l0.eq_2 ..) ?_, Ev.step (fun _ => chaseref1_MarkedOf.l0.eq_2 ..) ?_⟩
          · simp only [ep, w1.out, w2.out, Int.toNat_natCast, hy]
            exact ev_pos (by omega) (ev_pos (by omega) (ev_pos (by omega) (ev_pos (by omega) (ev_pos (by omega) (ev_pos (by omega) (ev_bindc rfl (ev_pos (by omega) (ev_bindc rfl (ev_neg cD (ev_neg cA2 n1))))))))))
          · simp only [ep, w1.out, w2.out, Int.toNat_natCast, hy]
            exact ev_pos (by omega) (ev_pos (by omega) (ev_pos (by omega) (ev_pos (by omega) (ev_pos (by omega) (ev_pos (by omega) (ev_bindc rfl (ev_pos (by omega) (ev_bindc rfl (ev_neg cD (ev_neg cA2 n2))))))))))
    · exact stop p t acc hp h3 hb
end Go.Proofs.YtbamfhcifpfocaaDoor.Pw
