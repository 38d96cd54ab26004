/- Part of the proof that the law patchesLead is true for every input. No conditions. Laid by a program of this session over the kit's print and words; declarations that nothing names are left out. -/
import Derived.Test.YtomamgapdeggjaaDoorZlGJt
import Derived.Test.YtomamgapdeggjaaDoorZlUlSz
import Derived.Test.YtomamgapdeggjaaDoorZlUlToklist
import Derived.Lib.SplitLaws
import Derived.Test.YtomamgapdeggjaaDoorZlPlx1
import Derived.Test.YtomamgapdeggjaaDoorZlPlx4
namespace Go.Proofs.YtomamgapdeggjaaDoor.Pl
open Go.RowKit Go.Proofs.YtomamgapdeggjaaDoor.GBase Go.Proofs.YtomamgapdeggjaaDoorW.PrintWords Go.Proofs.YtomamgapdeggjaaDoorW.PrintLast Go.Proofs.YtomamgapdeggjaaDoorW.PrintMore
set_option linter.unusedVariables false
set_option linter.unusedSimpArgs false
def neB : List ByteArray → List ByteArray
  | [] => []
  | w :: r => if w.toList = [] then neB r else w :: neB r
def spB (c : UInt8) (s : ByteArray) : List ByteArray := Lib.splitB (⟨#[c]⟩ : ByteArray) 0 (Lib.countB s ⟨#[c]⟩) s
def tokL : List ByteArray → List ByteArray
  | [] => []
  | l :: r => (⟨#[10]⟩ : ByteArray) :: (neB (spB 32 l) ++ tokL r)
def tokB (s : ByteArray) : List ByteArray := neB (spB 32 ((spB 10 s).headD ByteArray.empty)) ++ tokL (spB 10 s).tail
theorem spB_spl (c : UInt8) (s : ByteArray) : (spB c s).map (·.data.toList) = spl c s.data.toList := by
  unfold spB
  rw [Lib.splitB_data]
  exact splitK_spl c s.data.toList
theorem neB_ne1 : ∀ l : List ByteArray, (neB l).map (·.data.toList) = ne1 (l.map (·.data.toList))
  | [] => rfl
  | w :: r => by
    have ih := neB_ne1 r
    simp only [neB, List.map_cons, ne1, Lib.toList_data]
    by_cases h : w.data.toList = []
    · rw [if_pos h, if_pos h, ih]
    · rw [if_neg h, if_neg h, List.map_cons, ih]
theorem tokL_linesT : ∀ l : List ByteArray, (tokL l).map (·.data.toList) = linesT (l.map (·.data.toList))
  | [] => rfl
  | l :: r => by
    simp only [tokL, List.map_cons, List.map_append, linesT, lineT]
    rw [tokL_linesT r, neB_ne1, spB_spl]
theorem tokB_toks (s : ByteArray) : (tokB s).map (·.data.toList) = toks s.data.toList := by
  unfold tokB toks lineT
  have h := spB_spl 10 s
  have hl : spB 10 s ≠ [] := by
    intro e
    rw [e, spl_ne] at h
    exact absurd h (by simp)
  cases hs : spB 10 s with
  | nil => exact absurd hs hl
  | cons u r =>
    rw [hs, List.map_cons] at h
    rw [← h]
    simp only [List.headD_cons, List.tail_cons, List.map_append]
    rw [neB_ne1, spB_spl, tokL_linesT]
theorem neB_sz : ∀ l : List ByteArray, sz1 (neB l) ≤ sz1 l
  | [] => Nat.le_refl _
  | w :: r => by
    have ih := neB_sz r
    simp only [neB]
    split <;> simp only [sz1] <;> omega
theorem spB_sz (c : UInt8) (s : ByteArray) : sz1 (spB c s) ≤ s.size + 1 := split_sz1 (⟨#[c]⟩ : ByteArray) (Nat.le_refl 1) _ s
theorem tokL_sz : ∀ l : List ByteArray, sz1 (tokL l) ≤ cost l
  | [] => Nat.le_refl _
  | l :: r => by
    have ih := tokL_sz r
    have h1 := neB_sz (spB 32 l)
    have h2 := spB_sz 32 l
    have hn : (⟨#[10]⟩ : ByteArray).size = 1 := rfl
    simp only [tokL, sz1, sz1_append, cost, hn]
    omega
theorem tokB_sz (s : ByteArray) : sz1 (tokB s) ≤ 3 * (s.size + 1) := by
  have h1 := spB_sz 10 s
  have h2 := cost_le (spB 10 s)
  have hl : spB 10 s ≠ [] := by
    intro e
    have h := spB_spl 10 s
    rw [e, spl_ne] at h
    exact absurd h (by simp)
  unfold tokB
  cases hs : spB 10 s with
  | nil => exact absurd hs hl
  | cons u r =>
    rw [hs] at h1 h2
    have h3 := neB_sz (spB 32 u)
    have h4 := spB_sz 32 u
    have h5 := tokL_sz r
    simp only [cost] at h2
    simp only [List.headD_cons, List.tail_cons, sz1_append]
    omega
theorem rd_tk (l : List ByteArray) (j : Nat) (hj : j < l.length) : rdOf ByteArray.empty l (j : Int) = l[j] := by
  simp [rdOf, List.getD, hj]
theorem tkb_inner (L : List ByteArray) (n i : Int) (R : List ByteArray) (t : List ByteArray) (ht : t.length ≤ 1000000000) (d : Nat) : ∀ (j : Nat) (acc : List ByteArray), t.length - j ≤ d → j ≤ t.length → acc.length + (t.length - j) ≤ 1000000000 →
    Ev (fun k => near_Tokens.l0 k (acc ++ neB (t.drop j)) L n (wrap64 (i + 1))) R → Ev (fun k => near_Tokens.l1 k acc L n i t (t.length : Int) (j : Int)) R := by
  have stop : ∀ (j : Nat) (acc : List ByteArray), ¬ j < t.length → Ev (fun k => near_Tokens.l0 k (acc ++ neB (t.drop j)) L n (wrap64 (i + 1))) R → Ev (fun k => near_Tokens.l1 k acc L n i t (t.length : Int) (j : Int)) R := by
    intro j acc hj h
    rw [List.drop_eq_nil_of_le (by omega)] at h
    simp only [neB, List.append_nil] at h
    exact Ev.step (fun _ => near_Tokens.l1.eq_2 ..) (ev_neg (by omega) h)
  induction d with
  | zero => exact fun j acc hd hj hb h => stop j acc (by omega) h
  | succ d ih =>
    intro j acc hd hj hb h
    by_cases hlt : j < t.length
    · have w1 : wrap64 ((j : Int) + 1) = ((j + 1 : Nat) : Int) := by rw [wr64 (by omega) (by omega)]; omega
      rw [List.drop_eq_getElem_cons hlt] at h
      simp only [neB] at h
      by_cases he : t[j].toList = ([] : List UInt8)
      · rw [if_pos he] at h
        refine Ev.step (fun _ => near_Tokens.l1.eq_2 ..) (ev_pos (by omega) (ev_pos (by omega) (ev_pos (by omega) ?_)))
        rw [rd_tk t j hlt, w1]
        exact ev_pos he (ih (j + 1) acc (by omega) (by omega) (by omega) h)
      · rw [if_neg he] at h
        refine Ev.step (fun _ => near_Tokens.l1.eq_2 ..) (ev_pos (by omega) (ev_pos (by omega) (ev_pos (by omega) ?_)))
        rw [rd_tk t j hlt, w1]
        refine ev_neg he (ev_pos (by omega) (ih (j + 1) (acc ++ [t[j]]) (by omega) (by omega) (by rw [List.length_append]; simp only [List.length_cons, List.length_nil]; omega) ?_))
        rw [List.append_assoc]
        exact h
    · exact stop j acc hlt h
theorem tkb_outer (L : List ByteArray) (hL : L.length ≤ 1000000000) (d : Nat) : ∀ (i : Nat) (acc : List ByteArray), L.length - i ≤ d → i ≤ L.length → 0 < i → acc.length + cost (L.drop i) ≤ 1000000000 →
    Ev (fun k => near_Tokens.l0 k acc L (L.length : Int) (i : Int)) (acc ++ tokL (L.drop i)) := by
  have stop : ∀ (i : Nat) (acc : List ByteArray), ¬ i < L.length → Ev (fun k => near_Tokens.l0 k acc L (L.length : Int) (i : Int)) (acc ++ tokL (L.drop i)) := by
    intro i acc hi
    rw [List.drop_eq_nil_of_le (by omega)]
    simp only [tokL, List.append_nil]
    exact Ev.step (fun _ => near_Tokens.l0.eq_2 ..) (ev_neg (by omega) (Ev.now _))
  induction d with
  | zero => exact fun i acc hd hi h0 hb => stop i acc (by omega)
  | succ d ih =>
    intro i acc hd hi h0 hb
    by_cases hlt : i < L.length
    · have w1 : wrap64 ((i : Int) + 1) = ((i + 1 : Nat) : Int) := by rw [wr64 (by omega) (by omega)]; omega
      rw [List.drop_eq_getElem_cons hlt] at hb ⊢
      simp only [cost] at hb
      have hs := spB_sz 32 L[i]
      have hsl := len_le_sz1 (spB 32 L[i])
      have hn := neB_sz (spB 32 L[i])
      have hnl := len_le_sz1 (neB (spB 32 L[i]))
      have hsp : strings_Split.f L[i] (⟨#[32]⟩ : ByteArray) = some (spB 32 L[i]) := by
        unfold strings_Split.f
        rw [if_pos ⟨by omega, Nat.le_refl 1⟩]
        rfl
      refine Ev.step (fun _ => near_Tokens.l0.eq_2 ..) (ev_pos (by omega) (ev_pos (by omega) (ev_pos (by omega) (ev_pos (by omega) (ev_pos (by omega) ?_)))))
      rw [rd_tk L i hlt]
      refine Ev.step (fun _ => near_Tokens.j1.eq_2 ..) (ev_bindc hsp (tkb_inner L _ _ _ (spB 32 L[i]) (by omega) _ 0 _ (Nat.le_refl _) (by omega) (by rw [List.length_append]; simp only [List.length_cons, List.length_nil]; omega) ?_))
      rw [w1, List.drop_zero]
      refine ev_eq (ih (i + 1) _ (by omega) (by omega) (by omega) (by rw [List.length_append, List.length_append]; simp only [List.length_cons, List.length_nil]; omega)) ?_
      simp only [tokL, List.append_assoc, List.cons_append, List.nil_append]
    · exact stop i acc hlt
theorem tokB_ev (s : ByteArray) (hs : s.size ≤ 1048576) : Ev (fun k => near_Tokens.f k s) (tokB s) := by
  have h1 := spB_sz 10 s
  have h2 := len_le_sz1 (spB 10 s)
  have h3 := cost_le (spB 10 s)
  have hsp : strings_Split.f s (⟨#[10]⟩ : ByteArray) = some (spB 10 s) := by
    unfold strings_Split.f
    rw [if_pos ⟨by omega, Nat.le_refl 1⟩]
    rfl
  refine Ev.congr (fun _ => near_Tokens.f.eq_1 ..) (ev_bindc hsp ?_)
  unfold tokB
  have hl : spB 10 s ≠ [] := by
    intro e
    have h := spB_spl 10 s
    rw [e, spl_ne] at h
    exact absurd h (by simp)
  generalize spB 10 s = L at *
  cases L with
  | nil => exact absurd rfl hl
  | cons u r =>
    simp only [List.headD_cons, List.tail_cons]
    have w1 : wrap64 ((0 : Int) + 1) = ((1 : Nat) : Int) := by rw [wr64 (by omega) (by omega)]; omega
    simp only [cost, sz1, List.length_cons] at h1 h2 h3
    have hs4 := spB_sz 32 u
    have hsl := len_le_sz1 (spB 32 u)
    have hn := neB_sz (spB 32 u)
    have hnl := len_le_sz1 (neB (spB 32 u))
    have hsp : strings_Split.f u (⟨#[32]⟩ : ByteArray) = some (spB 32 u) := by
      unfold strings_Split.f
      rw [if_pos ⟨by omega, Nat.le_refl 1⟩]
      rfl
    have e0 : rdOf ByteArray.empty (u :: r) 0 = u := rfl
    refine Ev.step (fun _ => near_Tokens.l0.eq_2 ..) (ev_pos (by simp only [List.length_cons]; omega) (ev_pos (by omega) (ev_pos (by simp only [List.length_cons]; omega) (ev_neg (by omega) ?_))))
    rw [e0]
    refine Ev.step (fun _ => near_Tokens.j1.eq_2 ..) (ev_bindc hsp (tkb_inner (u :: r) _ _ _ (spB 32 u) (by omega) _ 0 [] (Nat.le_refl _) (by omega) (by simp only [List.length_nil]; omega) ?_))
    rw [w1, List.drop_zero, List.nil_append]
    exact tkb_outer (u :: r) (by simp only [List.length_cons]; omega) _ 1 _ (Nat.le_refl _) (by simp only [List.length_cons]; omega) (by omega) (by simp only [List.drop_succ_cons, List.drop_zero]; omega)
theorem tokB_ok (s : ByteArray) : ∀ z ∈ tokB s, okTok z.data.toList := fun z hz => toks_ok s.data.toList _ (by rw [← tokB_toks]; exact List.mem_map_of_mem hz)
theorem ba_of_data {a b : List ByteArray} (h : a.map (·.data.toList) = b.map (·.data.toList)) : a = b := by
  induction a generalizing b with
  | nil => cases b with
    | nil => rfl
    | cons y b => exact absurd h (by simp)
  | cons x a ih => cases b with
    | nil => exact absurd h (by simp)
    | cons y b =>
      simp only [List.map_cons, List.cons.injEq] at h
      rw [ih h.2]
      obtain ⟨⟨p⟩⟩ := x
      obtain ⟨⟨q⟩⟩ := y
      have h1 := h.1
      simp only [] at h1
      rw [h1]
def joinB (l : List ByteArray) : ByteArray := ⟨(jt l l.length).toArray⟩
theorem tokB_join (l : List ByteArray) (h : ∀ z ∈ l, okTok z.data.toList) : tokB (joinB l) = l := by
  apply ba_of_data
  rw [tokB_toks]
  exact toks_jt l h
theorem joinB_size (l : List ByteArray) : (joinB l).size ≤ sz1 l := by
  have h2 := jt_sz1 l l.length (Nat.le_refl _)
  rw [List.take_length] at h2
  show (jt l l.length).toArray.size ≤ _
  rw [List.size_toArray]
  exact h2
theorem joinB_is (l : List ByteArray) (h : sz1 l ≤ 4000000) : near_Join.f l = some (joinB l) := by
  have h1 := len_le_sz1 l
  have h2 := jt_sz1 l l.length (Nat.le_refl _)
  rw [List.take_length] at h2
  unfold near_Join.f
  rw [if_pos ⟨by omega, by omega⟩]
  rfl
end Go.Proofs.YtomamgapdeggjaaDoor.Pl
