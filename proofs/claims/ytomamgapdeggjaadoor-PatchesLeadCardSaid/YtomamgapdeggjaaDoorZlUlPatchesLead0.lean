/- Part of the proof that the law patchesLead is true for every input. No conditions. Laid by a program of this session over the kit's print and words; declarations that nothing names are left out. -/
import Derived.Test.YtomamgapdeggjaaDoorZlUlLead2
import Derived.Test.YtomamgapdeggjaaDoorZlUlStream
import Derived.Test.YtomamgapdeggjaaDoorZlPlx8
import Derived.Test.YtomamgapdeggjaaDoorZlPlx2
import Derived.Test.YtomamgapdeggjaaDoorZlPlx7
import Derived.Test.YtomamgapdeggjaaDoorZlPlx4
import Derived.Test.YtomamgapdeggjaaDoorZlPlx6
namespace Go.Proofs.YtomamgapdeggjaaDoor.Pl
open Go.RowKit Go.Proofs.YtomamgapdeggjaaDoor.GBase Go.Proofs.YtomamgapdeggjaaDoorW.PrintWords Go.Proofs.YtomamgapdeggjaaDoorW.PrintLast Go.Proofs.YtomamgapdeggjaaDoorW.PrintMore
set_option linter.unusedVariables false
set_option linter.unusedSimpArgs false
theorem When_toks (l : List ByteArray) (h : l.length ≤ 2000) : base_When.f (decide ((l.length : Int) > 2000)) 2 = some 0 := by
  rw [decide_eq_false (by omega)]
  rfl
theorem toks_ev (s : ByteArray) (hs : s.size ≤ 600) : Ev (fun k => near_tokens.f k s) (tokB s, 0) := by
  have h1 := large_is s
  rw [if_neg (by omega)] at h1
  have h2 := tokB_sz s
  have h3 := len_le_sz1 (tokB s)
  exact Ev.congr (fun _ => near_tokens.f.eq_1 ..) (ev_bindc h1 (ev_pos rfl (Ev.bind (tokB_ev s (by omega)) (ev_bindc (When_toks _ (by omega)) (Ev.now _)))))
theorem toks_ev2 (s : ByteArray) (hs : s.size ≤ 20000) (h : (tokB s).length ≤ 2000) : Ev (fun k => near_tokens.f k s) (tokB s, 0) := by
  have h1 := large_is s
  rw [if_neg (by omega)] at h1
  exact Ev.congr (fun _ => near_tokens.f.eq_1 ..) (ev_bindc h1 (ev_pos rfl (Ev.bind (tokB_ev s (by omega)) (ev_bindc (When_toks _ h) (Ev.now _)))))
theorem two_ev (s t : ByteArray) (x y : List ByteArray) (hs : Ev (fun k => near_tokens.f k s) (x, 0)) (ht : Ev (fun k => near_tokens.f k t) (y, 0)) : Ev (fun k => near_both.f k s t) (x, y, 0) :=
  Ev.congr (fun _ => near_both.f.eq_1 ..) (Ev.bind hs (ev_pos rfl (Ev.bind ht (Ev.now _))))
theorem dist_ev (s t : ByteArray) (hs : s.size ≤ 600) (ht : t.size ≤ 600) : Ev (fun k => near_Distance.f k s t) (((tokB s).length : Int) + ((tokB t).length : Int) - 2 * ((lcs (tokB s) (tokB t) : Nat) : Int), 0) := by
  have a1 := tokB_sz s
  have a2 := len_le_sz1 (tokB s)
  have b1 := tokB_sz t
  have b2 := len_le_sz1 (tokB t)
  have c := sel_count (tokB s) (tokB t) 0 0
  have c2 := lcs_le1 (tokB s) (tokB t)
  refine Ev.congr (fun _ => near_Distance.f.eq_1 ..) (Ev.bind (two_ev s t _ _ (toks_ev s hs) (toks_ev t ht)) (ev_pos rfl (Ev.bind (kept_ev (tokB s) (tokB t) (by omega) (by omega)) (ev_val ?_))))
  simp only [c]
  rw [wr64 (x := ((tokB s).length : Int) + ((tokB t).length : Int)) (by omega) (by omega), wr64 (x := 2 * ((lcs (tokB s) (tokB t) : Nat) : Int)) (by omega) (by omega), wr64 (by omega) (by omega)]
theorem moved_loop (x4 x5 x8 x12 : ByteArray) (x14 x16 : Int) (P : List S72) (hP : P.length ≤ 5000) (hb : ∀ c ∈ P, 0 ≤ c.f0 ∧ c.f0 ≤ 4000 ∧ c.f1.length ≤ 4000 ∧ c.f2.length ≤ 4000) (R : Bool)
    (fin : Ev (fun k => chasekeep1_PatchesLead.l1 k x4 x5 x8 x12 x14 x16 (mv P : Int) P (P.length : Int) (P.length : Int)) R) (d : Nat) : ∀ (p m : Nat), P.length - p ≤ d → p ≤ P.length → m + mv (P.drop p) = mv P → m ≤ 8000 * p →
    Ev (fun k => chasekeep1_PatchesLead.l1 k x4 x5 x8 x12 x14 x16 (m : Int) P (P.length : Int) (p : Int)) R := by
  have stop : ∀ (p m : Nat), p ≤ P.length → ¬ p < P.length → m + mv (P.drop p) = mv P → Ev (fun k => chasekeep1_PatchesLead.l1 k x4 x5 x8 x12 x14 x16 (m : Int) P (P.length : Int) (p : Int)) R := by
    intro p m hp hp2 h
    obtain rfl : p = P.length := by omega
    rw [List.drop_length] at h
    simp only [mv] at h
    obtain rfl : m = mv P := by omega
    exact fin
  induction d with
  | zero => exact fun p m hd hp h _ => stop p m hp (by omega) h
  | succ d ih =>
    intro p m hd hp h hm
    by_cases hlt : p < P.length
    · rw [List.drop_eq_getElem_cons hlt] at h
      have ep := rd_chg P p hlt
      obtain ⟨b1, b2, b3, b4⟩ := hb P[p] (List.getElem_mem hlt)
      generalize P[p] = c at *
      obtain ⟨f0, D, A⟩ := c
      simp only [mv] at b1 b2 b3 b4 h
      have w1 := Aside0.mk (kadd1 p (by omega))
      have w3 : Aside0 (wrap64 ((D.length : Int) + (A.length : Int)) = ((D.length + A.length : Nat) : Int)) := ⟨by rw [wr64 (by omega) (by omega)]; omega⟩
      have w4 : Aside0 (wrap64 ((m : Int) + ((D.length + A.length : Nat) : Int)) = ((m + (D.length + A.length) : Nat) : Int)) := ⟨by rw [wr64 (by omega) (by omega)]; omega⟩
      refine Ev.step (fun _ => chasekeep1_PatchesLead.l1.eq_2 ..) (ev_pos (by omega) (ev_pos (by omega) (ev_pos (by omega) ?_)))
      simp only [ep, w1.out, w3.out, w4.out]
      exact ih (p + 1) (m + (D.length + A.length)) (by omega) (by omega) (by omega) (by omega)
    · exact stop p m hp hlt h
theorem leads_ev (l : List Int) (hl : Nums l) : Ev (fun k => chasekeep1_PatchesLead.f k l) true := by
  obtain ⟨s, a1, ht, hts, b1, b2⟩ := Prose_ev l 0 14 hl (by omega) (by omega) (by omega) (by omega)
  obtain ⟨u, a2, hu, hus, b3, b4⟩ := Changed_ev l a1 s ⟨#[97, 98, 99, 32, 120, 10]⟩ hl (by omega) (by omega) (by omega) (by decide) (by decide)
  have z1 : (⟨#[97, 98, 99, 32, 120, 10]⟩ : ByteArray).size = 6 := rfl
  have z2 : (⟨#[100, 32]⟩ : ByteArray).size = 2 := rfl
  obtain ⟨t, a3, hv, hvs, b5, b6⟩ := Changed_ev l a2 u ⟨#[100, 32]⟩ hl (by omega) (by omega) (by omega) (by decide) (by decide)
  have x1 := tokB_sz s
  have x2 := len_le_sz1 (tokB s)
  have y1 := tokB_sz t
  have y2 := len_le_sz1 (tokB t)
  have okx := tokB_ok s
  have oky := tokB_ok t
  have hxs := toks_ev s (by omega)
  have hyt := toks_ev t (by omega)
  have hd1 := dist_ev s t (by omega) (by omega)
  have hd2 := dist_ev t s (by omega) (by omega)
  have hts2 := tokB_ev s (by omega)
  have htt2 := tokB_ev t (by omega)
  have hjs := joinB_size (tokB t)
  have hyy := toks_ev2 (joinB (tokB t))
  rw [tokB_join _ oky] at hyy
  rw [lcs_symm (tokB t) (tokB s)] at hd2
  have hcount := sel_count (tokB s) (tokB t) 0 0
  have hlc := lcs_le1 (tokB s) (tokB t)
  have js := joinB_is (tokB s) (by omega)
  have jt := joinB_is (tokB t) (by omega)
  have hc : ∃ L, Ev (fun k => near_changes.f k (tokB s) (tokB t)) L ∧ Lead (tokB s) (tokB t) true 0 0 L ∧ mv L + 2 * (sel (tokB s) (tokB t) 0 0).length = (tokB s).length + (tokB t).length ∧ L.length ≤ (tokB s).length + 1 := changes_lead _ _ (by omega) (by omega)
  generalize tokB s = x at *
  generalize tokB t = y at *
  obtain ⟨L, c1, c2, c3, c4⟩ := hc
  have hyy2 := hyy (by omega) (by omega)
  have hbds := c2.bds (by omega) (by omega)
  have hDif : Ev (fun k => near_Differ.f k s t) (L, 0) := Ev.congr (fun _ => near_Differ.f.eq_1 ..) (Ev.bind (two_ev s t x y hxs hyt) (ev_pos rfl (Ev.bind c1 (Ev.now _))))
  have hP1 := Patch_lead s x y L hxs (by omega) (by omega) okx oky (by omega) c2
  have hTl := turn_loop L (by omega) hbds _ 0 [] 0 (Nat.le_refl _) (Nat.zero_le _) (Nat.zero_le _) (by omega) (by omega)
  rw [List.drop_zero, List.nil_append] at hTl
  have hT : Ev (fun k => near_Turn.f k s L) (turnL 0 L, 0) := Ev.congr (fun _ => near_Turn.f.eq_1 ..) (Ev.bind (patched_lead s x y L hxs (by omega) (by omega) okx oky (by omega) c2) (ev_pos rfl hTl))
  have hturn : Lead y x true 0 0 (turnL 0 L) := c2.turn
  have hlen := turnL_len 0 L
  have hP2 := Patch_lead (joinB y) y x (turnL 0 L) hyy2 (by omega) (by omega) oky okx (by omega) hturn
  have fin : Ev (fun k => chasekeep1_PatchesLead.l1 k s t (joinB y) (joinB x) ((x.length : Int) + (y.length : Int) - 2 * ((lcs x y : Nat) : Int)) ((y.length : Int) + (x.length : Int) - 2 * ((lcs x y : Nat) : Int)) (mv L : Int) L (L.length : Int) (L.length : Int)) true := by
    refine Ev.step (fun _ => chasekeep1_PatchesLead.l1.eq_2 ..) (ev_neg (by omega) (Ev.bind nears_ev (ev_pos rfl (Ev.bind htt2 (ev_bindc jt (ev_pos rfl (Ev.bind hts2 (ev_bindc js (ev_pos rfl (ev_pos (by omega) ?_))))))))))
    have e : ((x.length : Int) + (y.length : Int) - 2 * ((lcs x y : Nat) : Int) == (mv L : Int)) = true := beq_iff_eq.2 (by omega)
    rw [e]
    exact Ev.step (fun _ => chasekeep1_PatchesLead.j2.eq_2 ..) (Ev.now _)
  have hmv := moved_loop s t (joinB y) (joinB x) _ _ L (by omega) hbds true fin _ 0 0 (Nat.le_refl _) (Nat.zero_le _) (by rw [List.drop_zero]; omega) (by omega)
  have errs : ∀ X : List Int, X = [0, 0, 0, 0, 0, 0] → Ev (fun k => chasekeep1_PatchesLead.l0 k s t L (joinB y) (joinB x) ((x.length : Int) + (y.length : Int) - 2 * ((lcs x y : Nat) : Int)) ((y.length : Int) + (x.length : Int) - 2 * ((lcs x y : Nat) : Int)) X (X.length : Int) 0) true := by
    intro X hX
    subst hX
    have hz : ∀ j : Nat, j < 6 → rd [0, 0, 0, 0, 0, 0] (j : Int) = 0 := by
      intro j hj
      match j, hj with
      | 0, _ => rfl
      | 1, _ => rfl
      | 2, _ => rfl
      | 3, _ => rfl
      | 4, _ => rfl
      | 5, _ => rfl
    have go : ∀ d j : Nat, j + d = 6 → Ev (fun k => chasekeep1_PatchesLead.l0 k s t L (joinB y) (joinB x) ((x.length : Int) + (y.length : Int) - 2 * ((lcs x y : Nat) : Int)) ((y.length : Int) + (x.length : Int) - 2 * ((lcs x y : Nat) : Int)) [0, 0, 0, 0, 0, 0] 6 (j : Int)) true := by
      intro d
      induction d with
      | zero =>
        intro j hj
        exact Ev.step (fun _ => chasekeep1_PatchesLead.l0.eq_2 ..) (ev_neg (by omega) hmv)
      | succ d ih =>
        intro j hj
        have w1 := Aside0.mk (kadd1 j (by omega))
        refine Ev.step (fun _ => chasekeep1_PatchesLead.l0.eq_2 ..) (ev_pos (by omega) (ev_pos (by omega) (ev_pos (by simp only [List.length_cons, List.length_nil]; omega) ?_)))
        simp only [w1.out]
        exact ev_pos (hz j (by omega)) (ih (j + 1) (by omega))
    exact go 6 0 rfl
  exact Ev.congr (fun _ => chasekeep1_PatchesLead.f.eq_1 ..) (Ev.bind ht (Ev.bind hu (Ev.bind hv (Ev.bind hDif (Ev.bind hP1 (Ev.bind hT (Ev.bind hP2 (Ev.bind hd1 (Ev.bind hd2 (ev_bindc rfl (errs _ rfl)))))))))))
end Go.Proofs.YtomamgapdeggjaaDoor.Pl
