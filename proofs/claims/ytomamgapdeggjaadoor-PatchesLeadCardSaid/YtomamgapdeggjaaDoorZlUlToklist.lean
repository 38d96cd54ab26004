/- Part of the proof that the law patchesLead is true for every input. No conditions. Laid by a program of this session over the kit's print and words; declarations that nothing names are left out. -/
import Derived.Test.YtomamgapdeggjaaDoorZlGJt
import Derived.Lib.SplitLaws
namespace Go.Proofs.YtomamgapdeggjaaDoor.GBase
open Go.RowKit
def spl (c : UInt8) : List UInt8 → List (List UInt8)
  | [] => [[]]
  | b :: r => if b = c then [] :: spl c r else (b :: (spl c r).headD []) :: (spl c r).tail
theorem spl_ne (c : UInt8) : ∀ l, spl c l = (spl c l).headD [] :: (spl c l).tail
  | [] => rfl
  | b :: r => by
    unfold spl
    split <;> rfl
theorem splitK_spl (c : UInt8) : ∀ l : List UInt8, Lib.splitK [c] 0 (Lib.count l [c]) l = spl c l
  | [] => by rw [Lib.count_one]; rfl
  | b :: l => by
    have ih := splitK_spl c l
    by_cases h : b = c
    · subst h
      have hix : Lib.index (b :: l) [b] = 0 := by rw [Lib.index]; simp [List.isPrefixOf]
      rw [Lib.count_cons_eq, Nat.add_comm]
      unfold Lib.splitK
      rw [hix]
      simp only [spl, if_true]
      rw [← ih]
      rfl
    · have hp : ([c] : List UInt8).isPrefixOf (b :: l) = false := by simp [List.isPrefixOf, Ne.symm h]
      have hix : Lib.index (b :: l) [c] = if Lib.index l [c] == -1 then -1 else Lib.index l [c] + 1 := by rw [Lib.index, hp]; simp
      rw [Lib.count_cons_ne b c l h]
      simp only [spl, if_neg h]
      rw [← ih]
      cases hk : Lib.count l [c] with
      | zero => rfl
      | succ k =>
        have hge := Lib.index_ge l [c]
        have hm : Lib.index l [c] ≠ -1 := fun e => by rw [Lib.count_miss e] at hk; omega
        have h1 : (Lib.index l [c] == -1) = false := beq_eq_false_iff_ne.2 hm
        rw [h1] at hix
        simp only [Bool.false_eq_true, if_false] at hix
        have h2 : (Lib.index (b :: l) [c] == -1) = false := beq_eq_false_iff_ne.2 (by omega)
        have h3 : (Lib.index (b :: l) [c]).toNat = (Lib.index l [c]).toNat + 1 := by omega
        simp only [Lib.splitK, h1, h2, h3, Bool.false_eq_true, if_false, List.headD_cons, List.tail_cons, Nat.add_zero, List.take_succ_cons, List.length_cons, List.length_nil, Nat.zero_add, List.drop_succ_cons]
def ne1 : List (List UInt8) → List (List UInt8)
  | [] => []
  | w :: r => if w = [] then ne1 r else w :: ne1 r
def fl (cur : List UInt8) : List (List UInt8) := if cur = [] then [] else [cur]
def lineT (l : List UInt8) : List (List UInt8) := ne1 (spl 32 l)
def linesT : List (List UInt8) → List (List UInt8)
  | [] => []
  | l :: r => [10] :: (lineT l ++ linesT r)
def toks (t : List UInt8) : List (List UInt8) := lineT ((spl 10 t).headD []) ++ linesT (spl 10 t).tail
def tk (cur : List UInt8) : List UInt8 → List (List UInt8)
  | [] => fl cur
  | b :: r => if b = 10 then fl cur ++ [10] :: tk [] r else if b = 32 then fl cur ++ tk [] r else tk (cur ++ [b]) r
theorem ne1_cons (w : List UInt8) (r : List (List UInt8)) : ne1 (w :: r) = fl w ++ ne1 r := by
  unfold fl
  by_cases h : w = []
  · rw [if_pos h]; simp only [ne1, if_pos h]; rfl
  · rw [if_neg h]; simp only [ne1, if_neg h]; rfl
theorem tk_is : ∀ (t cur : List UInt8), tk cur t = ne1 ((cur ++ (spl 32 ((spl 10 t).headD [])).headD []) :: (spl 32 ((spl 10 t).headD [])).tail) ++ linesT (spl 10 t).tail
  | [], cur => by
    simp [tk, spl, linesT, ne1, fl]
  | b :: r, cur => by
    by_cases h1 : b = 10
    · subst h1
      have ih := tk_is r []
      simp only [tk, if_true, spl, List.headD_cons, List.tail_cons, List.append_nil, ne1]
      rw [ih, spl_ne 10 r]
      simp only [linesT, lineT, List.headD_cons, List.tail_cons, List.nil_append]
      rw [← spl_ne 32]
      rfl
    · by_cases h2 : b = 32
      · subst h2
        have ih := tk_is r []
        have e : spl 10 ((32 : UInt8) :: r) = ((32 : UInt8) :: (spl 10 r).headD []) :: (spl 10 r).tail := by simp only [spl, if_neg h1]
        rw [e]
        simp only [tk, if_neg h1, if_true, List.headD_cons, List.tail_cons]
        rw [ih]
        simp only [spl, if_true, List.headD_cons, List.tail_cons, List.append_nil, ne1_cons cur, List.nil_append]
        rw [← spl_ne 32, List.append_assoc]
      · have ih := tk_is r (cur ++ [b])
        have e : spl 10 (b :: r) = (b :: (spl 10 r).headD []) :: (spl 10 r).tail := by simp only [spl, if_neg h1]
        have e2 : spl 32 (b :: (spl 10 r).headD []) = (b :: (spl 32 ((spl 10 r).headD [])).headD []) :: (spl 32 ((spl 10 r).headD [])).tail := by
          generalize (spl 10 r).headD [] = z
          simp only [spl, if_neg h2]
        simp only [tk, if_neg h1, if_neg h2]
        rw [ih, e]
        simp only [List.headD_cons, List.tail_cons]
        rw [e2]
        simp only [List.headD_cons, List.tail_cons, List.append_assoc, List.singleton_append]
theorem toks_tk (t : List UInt8) : toks t = tk [] t := by
  rw [tk_is, List.nil_append, ← spl_ne 32]
  rfl
def tstep (s : List (List UInt8) × List UInt8) (b : UInt8) : List (List UInt8) × List UInt8 :=
  if b = 10 then (s.1 ++ (fl s.2 ++ [[10]]), []) else if b = 32 then (s.1 ++ fl s.2, []) else (s.1, s.2 ++ [b])
theorem tk_fold : ∀ (t : List UInt8) (s : List (List UInt8) × List UInt8), s.1 ++ tk s.2 t = (t.foldl tstep s).1 ++ fl (t.foldl tstep s).2
  | [], s => rfl
  | b :: r, s => by
    rw [List.foldl_cons, ← tk_fold r (tstep s b)]
    unfold tstep
    by_cases h1 : b = 10
    · simp only [tk, if_pos h1, List.append_assoc, List.cons_append, List.nil_append]
    · by_cases h2 : b = 32
      · simp only [tk, if_neg h1, if_pos h2, List.append_assoc]
      · simp only [tk, if_neg h1, if_neg h2]
def okTok (w : List UInt8) : Prop := w = [10] ∨ (w ≠ [] ∧ ∀ c ∈ w, c ≠ 10 ∧ c ≠ 32)
theorem fold_word : ∀ (w : List UInt8) (s : List (List UInt8) × List UInt8), (∀ c ∈ w, c ≠ 10 ∧ c ≠ 32) → w.foldl tstep s = (s.1, s.2 ++ w)
  | [], s, _ => by rw [List.append_nil]; rfl
  | b :: r, s, h => by
    have hb := h b (List.mem_cons_self)
    rw [List.foldl_cons, fold_word r _ (fun c hc => h c (List.mem_cons_of_mem _ hc))]
    unfold tstep
    rw [if_neg hb.1, if_neg hb.2]
    simp
theorem fold_jt (l : List ByteArray) (h : ∀ x ∈ l, okTok x.data.toList) : ∀ k, k ≤ l.length →
    ((jt l k).foldl tstep ([], [])).1 ++ fl ((jt l k).foldl tstep ([], [])).2 = (l.take k).map (·.data.toList) ∧ (((jt l k).foldl tstep ([], [])).2 = [] ↔ (k = 0 ∨ (l.getD (k - 1) ByteArray.empty).data.toList = [10])) := by
  intro k
  induction k with
  | zero => exact fun _ => ⟨rfl, ⟨fun _ => .inl rfl, fun _ => rfl⟩⟩
  | succ k ih =>
    intro hk
    obtain ⟨i1, i2⟩ := ih (by omega)
    have hk' : k < l.length := by omega
    have ex : l.getD k ByteArray.empty = l[k] := by simp [List.getD, hk']
    have hx := h l[k] (List.getElem_mem hk')
    have et : l.take (k + 1) = l.take k ++ [l[k]] := by rw [List.take_add_one, List.getElem?_eq_getElem hk']; rfl
    have tl : ∀ x : ByteArray, x.toList = x.data.toList := Lib.toList_data
    rw [et, List.map_append, ← i1]
    simp only [jt, tl, ex, Nat.add_sub_cancel, List.foldl_append]
    generalize (jt l k).foldl tstep ([], []) = s at *
    generalize l[k] = x at *
    generalize (l.getD (k - 1) ByteArray.empty).data.toList = y at *
    simp only [List.map_cons, List.map_nil]
    have e10 : ∀ s : List (List UInt8) × List UInt8, ([10] : List UInt8).foldl tstep s = (s.1 ++ (fl s.2 ++ [[10]]), []) := fun _ => rfl
    have e32 : ∀ s : List (List UInt8) × List UInt8, ([32] : List UInt8).foldl tstep s = (s.1 ++ fl s.2, []) := fun _ => rfl
    rcases hx with hx | ⟨hx1, hx2⟩
    · rw [hx, if_neg (by intro hc; exact hc.2.1 rfl)]
      simp only [List.foldl_nil, e10]
      exact ⟨by simp [fl], by simp⟩
    · have hx10 : ¬ x.data.toList = [10] := fun e => (hx2 10 (by rw [e]; simp)).1 rfl
      by_cases hs : s.2 = []
      · have hc : ¬ (0 < k ∧ ¬ x.data.toList = [10] ∧ ¬ y = [10]) := by
          rintro ⟨h1, _, h3⟩
          rcases i2.1 hs with h4 | h4
          · omega
          · exact h3 h4
        rw [if_neg hc]
        simp only [List.foldl_nil]
        rw [fold_word _ _ hx2, hs]
        exact ⟨by simp [fl, hx1], ⟨fun e => absurd e (by simpa using hx1), fun e => by
          rcases e with e | e
          · omega
          · exact absurd e hx10⟩⟩
      · have hc : 0 < k ∧ ¬ x.data.toList = [10] ∧ ¬ y = [10] := by
          have h5 : ¬ (k = 0 ∨ y = [10]) := fun e => hs (i2.2 e)
          exact ⟨by omega, hx10, fun e => h5 (.inr e)⟩
        rw [if_pos hc, e32, fold_word _ _ hx2]
        exact ⟨by simp [fl, hx1], ⟨fun e => absurd e (by simpa using hx1), fun e => by
          rcases e with e | e
          · omega
          · exact absurd e hx10⟩⟩
theorem toks_jt (l : List ByteArray) (h : ∀ x ∈ l, okTok x.data.toList) : toks (jt l l.length) = l.map (·.data.toList) := by
  have h1 := (fold_jt l h l.length (Nat.le_refl _)).1
  have h2 := tk_fold (jt l l.length) ([], [])
  rw [List.take_length] at h1
  rw [toks_tk, ← h1, ← h2]
  rfl
theorem spl_mem (c : UInt8) : ∀ (l x : List UInt8), x ∈ spl c l → (∀ b ∈ x, b ≠ c) ∧ ∀ b ∈ x, b ∈ l
  | [], x, h => by
    simp only [spl, List.mem_cons, List.not_mem_nil, or_false] at h
    subst h
    exact ⟨fun _ h => absurd h List.not_mem_nil, fun _ h => absurd h List.not_mem_nil⟩
  | b :: r, x, h => by
    have ih := spl_mem c r
    unfold spl at h
    by_cases hb : b = c
    · rw [if_pos hb] at h
      rcases List.mem_cons.1 h with rfl | h
      · exact ⟨fun _ h => absurd h List.not_mem_nil, fun _ h => absurd h List.not_mem_nil⟩
      · exact ⟨(ih x h).1, fun y hy => List.mem_cons_of_mem _ ((ih x h).2 y hy)⟩
    · rw [if_neg hb] at h
      have hh : (spl c r).headD [] ∈ spl c r := by rw [spl_ne c r]; simp
      have ht : ∀ z, z ∈ (spl c r).tail → z ∈ spl c r := fun z hz => by rw [spl_ne c r]; exact List.mem_cons_of_mem _ hz
      rcases List.mem_cons.1 h with rfl | h
      · refine ⟨fun y hy => ?_, fun y hy => ?_⟩
        · rcases List.mem_cons.1 hy with rfl | hy
          · exact hb
          · exact (ih _ hh).1 y hy
        · rcases List.mem_cons.1 hy with rfl | hy
          · exact List.mem_cons_self
          · exact List.mem_cons_of_mem _ ((ih _ hh).2 y hy)
      · exact ⟨(ih x (ht x h)).1, fun y hy => List.mem_cons_of_mem _ ((ih x (ht x h)).2 y hy)⟩
theorem ne1_mem : ∀ (l : List (List UInt8)) (x : List UInt8), x ∈ ne1 l → x ∈ l ∧ x ≠ []
  | [], x, h => by cases h
  | w :: r, x, h => by
    unfold ne1 at h
    by_cases hw : w = []
    · rw [if_pos hw] at h
      exact ⟨List.mem_cons_of_mem _ (ne1_mem r x h).1, (ne1_mem r x h).2⟩
    · rw [if_neg hw] at h
      rcases List.mem_cons.1 h with rfl | h
      · exact ⟨List.mem_cons_self, hw⟩
      · exact ⟨List.mem_cons_of_mem _ (ne1_mem r x h).1, (ne1_mem r x h).2⟩
theorem lineT_ok (l : List UInt8) (h : ∀ b ∈ l, b ≠ 10) : ∀ x ∈ lineT l, okTok x := fun x hx => by
  obtain ⟨h1, h2⟩ := ne1_mem _ x hx
  obtain ⟨h3, h4⟩ := spl_mem 32 l x h1
  exact .inr ⟨h2, fun c hc => ⟨h c (h4 c hc), h3 c hc⟩⟩
theorem linesT_ok : ∀ (L : List (List UInt8)), (∀ l ∈ L, ∀ b ∈ l, b ≠ 10) → ∀ x ∈ linesT L, okTok x
  | [], _, x, hx => by cases hx
  | l :: L, h, x, hx => by
    rcases List.mem_cons.1 hx with rfl | hx
    · exact .inl rfl
    · rcases List.mem_append.1 hx with hx | hx
      · exact lineT_ok l (h l List.mem_cons_self) x hx
      · exact linesT_ok L (fun l hl => h l (List.mem_cons_of_mem _ hl)) x hx
theorem toks_ok (t : List UInt8) : ∀ x ∈ toks t, okTok x := fun x hx => by
  have h : ∀ l ∈ spl 10 t, ∀ b ∈ l, b ≠ 10 := fun l hl => (spl_mem 10 t l hl).1
  rw [spl_ne] at h
  rcases List.mem_append.1 hx with hx | hx
  · exact lineT_ok _ (h _ List.mem_cons_self) x hx
  · exact linesT_ok _ (fun l hl => h l (List.mem_cons_of_mem _ hl)) x hx
end Go.Proofs.YtomamgapdeggjaaDoor.GBase
