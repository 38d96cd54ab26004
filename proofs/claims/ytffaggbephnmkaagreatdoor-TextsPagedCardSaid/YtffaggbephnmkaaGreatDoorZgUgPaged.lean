/- Part of the proof that the law textsPaged is true for every input. No conditions. Laid by a program of this session over the kit's print and words; declarations that nothing names are left out. -/
import Derived.Test.YtffaggbephnmkaaGreatDoorZgUgWrap
import Derived.Test.YtffaggbephnmkaaGreatDoorZgPgx5
import Derived.Test.YtffaggbephnmkaaGreatDoorZgPgx8
namespace Go.Proofs.YtffaggbephnmkaaGreatDoor.Pg
open Go.RowKit Go.Proofs.YtffaggbephnmkaaGreatDoor.GBase Go.Proofs.YtffaggbephnmkaaGreatDoorW.PrintWords Go.Proofs.YtffaggbephnmkaaGreatDoorW.PrintLast
set_option linter.unusedVariables false
set_option linter.unusedSimpArgs false
def mkB (l : List UInt8) : ByteArray := ⟨l.toArray⟩
theorem mkB_of (s : ByteArray) : mkB s.data.toList = s := rfl
theorem spl_len (c : UInt8) : ∀ l : List UInt8, (spl c l).length ≤ l.length + 1
  | [] => Nat.le_refl _
  | b :: r => by
    have ih := spl_len c r
    have hne := spl_ne c r
    unfold spl
    split
    · simp only [List.length_cons]; omega
    · rw [hne] at ih
      simp only [List.length_cons] at ih ⊢
      omega
theorem spl_mem_len (c : UInt8) : ∀ (l x : List UInt8), x ∈ spl c l → x.length ≤ l.length := by
  intro l x hx
  rw [spl_ne] at hx
  rcases List.mem_cons.1 hx with rfl | hx
  · obtain ⟨B, hB⟩ := spl_head c l
    have := congrArg List.length hB
    rw [List.length_append] at this
    omega
  · obtain ⟨A, B, hB⟩ := spl_tail c l x hx
    have := congrArg List.length hB
    simp only [List.length_append] at this
    omega
theorem split_spl (c : UInt8) (s : ByteArray) (hs : s.size ≤ 1000000) : strings_Split.f s (⟨#[c]⟩ : ByteArray) = some ((spl c s.data.toList).map mkB) := by
  unfold strings_Split.f
  rw [if_pos ⟨by omega, Nat.le_refl 1⟩]
  congr 1
  have h : (Lib.splitB (⟨#[c]⟩ : ByteArray) 0 (Lib.countB s ⟨#[c]⟩) s).map (·.data.toList) = spl c s.data.toList := by
    rw [Lib.splitB_data]
    exact splitK_spl c s.data.toList
  rw [← h, List.map_map]
  have e : (mkB ∘ fun x : ByteArray => x.data.toList) = id := funext mkB_of
  rw [e, List.map_id]
def Ls (s : ByteArray) : List ByteArray := if s.data.toList = [] then [] else (spl 10 s.data.toList.dropLast).map mkB
theorem Ls_len (s : ByteArray) : (Ls s).length ≤ s.size + 1 := by
  unfold Ls
  split
  · simp
  · rw [List.length_map]
    have := spl_len 10 s.data.toList.dropLast
    rw [List.length_dropLast, data_length] at this
    omega
theorem tail_of {s : ByteArray} (h : textOk s = true) (hs : s.size ≤ 20000) (hne : s.data.toList ≠ []) : s.data.toList = s.data.toList.dropLast ++ [10] ∧ 1 ≤ s.size := by
  have h1 : 1 ≤ s.size := by
    rw [← data_length]
    cases hl : s.data.toList with
    | nil => exact absurd hl hne
    | cons a r => simp
  refine ⟨?_, h1⟩
  unfold textOk at h
  have hd : decide (s.toList = []) = false := decide_eq_false (by rw [Lib.toList_data]; exact hne)
  rw [hd, Bool.false_or, Bool.and_eq_true] at h
  have h2 := suf_is s (by omega)
  rw [h.2] at h2
  unfold strings_HasSuffix.f stringslite_HasSuffix.f at h2
  have hz : (((⟨#[10]⟩ : ByteArray).size : Nat) : Int) = 1 := rfl
  have hw : wrap64 ((s.size : Int) - 1) = (s.size : Int) - 1 := wr64 (by omega) (by omega)
  rw [hz, if_pos (by omega), hw, if_pos (by omega), if_pos (by omega), Option.bind_some] at h2
  have h3 := eq_of_beq (Option.some.inj h2)
  rw [Lib.toList_data, Lib.toList_data, show ((s.size : Int) - 1).toNat = s.size - 1 by omega, ext_drop] at h3
  have h4 : (⟨#[10]⟩ : ByteArray).data.toList = [10] := rfl
  rw [h4] at h3
  have h5 := List.take_append_drop (s.size - 1) s.data.toList
  rw [h3] at h5
  rw [List.dropLast_eq_take, data_length]
  exact h5.symm
theorem Lines_is {s : ByteArray} (h : textOk s = true) (hs : s.size ≤ 20000) : ∃ b, base_Lines.f s = some (Ls s, b) := by
  unfold base_Lines.f Ls
  by_cases hne : s.data.toList = []
  · rw [if_pos (by rw [Lib.toList_data]; exact hne), if_pos hne]
    exact ⟨_, rfl⟩
  · obtain ⟨h1, h2⟩ := tail_of h hs hne
    rw [if_neg (by rw [Lib.toList_data]; exact hne), if_neg hne]
    have hz : (((⟨#[10]⟩ : ByteArray).size : Nat) : Int) = 1 := rfl
    have hw : wrap64 ((s.size : Int) - 1) = (s.size : Int) - 1 := wr64 (by omega) (by omega)
    have h3 : stringslite_HasSuffix.f s (⟨#[10]⟩ : ByteArray) = some true := by
      unfold stringslite_HasSuffix.f
      rw [hz, if_pos (by omega), hw, if_pos (by omega), if_pos (by omega)]
      congr 1
      rw [Lib.toList_data, Lib.toList_data, show ((s.size : Int) - 1).toNat = s.size - 1 by omega, ext_drop]
      have hl := congrArg List.length h1
      rw [List.length_append, List.length_singleton, data_length] at hl
      rw [h1, show s.size - 1 = s.data.toList.dropLast.length by omega, List.drop_left]
      rfl
    have h4 : strings_CutSuffix.f s (⟨#[10]⟩ : ByteArray) = some (mkB s.data.toList.dropLast, true) := by
      unfold strings_CutSuffix.f stringslite_CutSuffix.f
      rw [h3, Option.bind_some, if_pos rfl, hz, hw, if_pos (by omega), if_pos (by omega), Option.bind_some]
      congr 2
      rw [← mkB_of (s.extract 0 ((s.size : Int) - 1).toNat), ext_list, List.drop_zero, show ((s.size : Int) - 1).toNat = s.size - 1 by omega, List.dropLast_eq_take, data_length]
    have h5 : (mkB s.data.toList.dropLast).size ≤ 1000000 := by
      have e : (mkB s.data.toList.dropLast).size = s.data.toList.dropLast.length := by rw [← data_length]; rfl
      rw [e, List.length_dropLast, data_length]
      omega
    refine ⟨true, ?_⟩
    rw [h4, Option.bind_some]
    show (strings_Split.f (mkB s.data.toList.dropLast) (⟨#[10]⟩ : ByteArray)).bind _ = _
    rw [split_spl 10 _ h5]
    rfl
theorem linesOf_is {s : ByteArray} (h : textOk s = true) (hs : s.size ≤ 20000) : chaseref1_linesOf.f s = some (Ls s) := by
  unfold chaseref1_linesOf.f
  rw [split_spl 10 s (by omega), Option.bind_some]
  have hle := spl_len 10 s.data.toList
  rw [data_length] at hle
  have hp : 1 ≤ (spl 10 s.data.toList).length := by rw [spl_ne]; simp
  have hw : wrap64 ((((spl 10 s.data.toList).map mkB).length : Int) - 1) = (((spl 10 s.data.toList).length - 1 : Nat) : Int) := by
    rw [List.length_map, wr64 (by omega) (by omega)]
    omega
  rw [hw, if_pos (by omega), if_pos (by rw [List.length_map]; omega), Int.toNat_natCast]
  congr 1
  unfold Ls
  by_cases hne : s.data.toList = []
  · rw [if_pos hne, hne]
    rfl
  · rw [if_neg hne]
    obtain ⟨h1, h2⟩ := tail_of h hs hne
    have e := spl_snoc 10 s.data.toList.dropLast
    rw [← h1] at e
    rw [e, List.map_append, List.length_append, List.length_singleton, Nat.add_sub_cancel]
    exact List.take_left' (by rw [List.length_map])
theorem Ls_Q {s : ByteArray} (h : textOk s = true) (hs : s.size ≤ 20000) : ∀ x ∈ Ls s, Qv x.data.toList ∧ x.size ≤ 20000 := by
  intro x hx
  unfold Ls at hx
  split at hx
  · cases hx
  · rename_i hne
    obtain ⟨h1, h2⟩ := tail_of h hs hne
    have hv : Lib.validD s.data.toList = true := by
      unfold textOk wfC at h
      simp only [Bool.and_eq_true] at h
      exact h.1.2
    have hq := valid_Q _ s.data.toList (Nat.le_refl _) hv
    have hq2 : Qv s.data.toList.dropLast := by
      rw [h1] at hq
      exact Qv.piece (A := []) (B := [10]) hq (.inl rfl)
    obtain ⟨y, hy, rfl⟩ := List.mem_map.1 hx
    refine ⟨spl_Q hq2 y hy, ?_⟩
    have := spl_mem_len 10 _ y hy
    rw [List.length_dropLast, data_length] at this
    have e : (mkB y).size = y.length := by rw [← data_length]; rfl
    omega
def pcs (s : ByteArray) : List ByteArray := (Ls s).flatMap (wr 20000)
theorem fm_len (L : List ByteArray) : (L.flatMap (wr 20000)).length ≤ L.length * 20001 := by
  induction L with
  | nil => simp
  | cons a r ih =>
    rw [List.flatMap_cons, List.length_append, List.length_cons, Nat.add_mul, Nat.one_mul]
    have := wr_len 20000 a
    omega
theorem pcs_len (s : ByteArray) (hs : s.size ≤ 20000) : (pcs s).length ≤ 400040001 := by
  have h1 := fm_len (Ls s)
  have h2 := Ls_len s
  have h3 : (Ls s).length * 20001 ≤ 20001 * 20001 := Nat.mul_le_mul_right _ (by omega)
  exact Nat.le_trans h1 h3
theorem rd_at (L : List ByteArray) (j : Nat) (hj : j < L.length) : rdOf ByteArray.empty L (j : Int) = L[j] := by
  simp [rdOf, List.getD, hj]
theorem pieces_loop (L : List ByteArray) (hL : L.length ≤ 20001) (hQ : ∀ x ∈ L, Qv x.data.toList ∧ x.size ≤ 20000) (d : Nat) : ∀ (j : Nat) (acc : List ByteArray), L.length - j ≤ d → j ≤ L.length → acc.length ≤ j * 20001 →
    Ev (fun k => produce_pieces.l0 k acc L (L.length : Int) (j : Int)) (acc ++ (L.drop j).flatMap (wr 20000)) := by
  induction d with
  | zero =>
    intro j acc hd hj ha
    rw [List.drop_eq_nil_of_le (by omega)]
    exact Ev.step (fun _ => produce_pieces.l0.eq_2 ..) (ev_neg (by omega) (ev_val (by simp)))
  | succ d ih =>
    intro j acc hd hj ha
    by_cases hlt : j < L.length
    · obtain ⟨q1, q2⟩ := hQ L[j] (List.getElem_mem hlt)
      have hm : j * 20001 ≤ 20001 * 20001 := Nat.mul_le_mul_right _ (by omega)
      have hw : wrap64 ((j : Int) + 1) = ((j + 1 : Nat) : Int) := by rw [wr64 (by omega) (by omega)]; omega
      have hwl := wr_len 20000 L[j]
      have e1 := wrapped_ev 20000 L[j] [] (by omega) (by omega) q1 (by simp)
      rw [List.nil_append] at e1
      rw [List.drop_eq_getElem_cons hlt, List.flatMap_cons, ← List.append_assoc]
      refine Ev.step (fun _ => produce_pieces.l0.eq_2 ..) (ev_pos (by omega) (ev_pos (by omega) (ev_pos (by omega) ?_)))
      rw [rd_at L j hlt, hw]
      exact Ev.bind e1 (ev_pos (by omega) (ih (j + 1) _ (by omega) (by omega) (by rw [List.length_append, Nat.add_mul, Nat.one_mul]; omega)))
    · rw [List.drop_eq_nil_of_le (by omega)]
      exact Ev.step (fun _ => produce_pieces.l0.eq_2 ..) (ev_neg (by omega) (ev_val (by simp)))
theorem wrapOf_loop (L : List ByteArray) (hL : L.length ≤ 20001) (hQ : ∀ x ∈ L, Qv x.data.toList ∧ x.size ≤ 20000) (d : Nat) : ∀ (j : Nat) (acc : List ByteArray), L.length - j ≤ d → j ≤ L.length → acc.length ≤ j * 20001 →
    Ev (fun k => chaseref1_WrapOf.l0 k acc L (L.length : Int) (j : Int)) (acc ++ (L.drop j).flatMap (wr 20000)) := by
  induction d with
  | zero =>
    intro j acc hd hj ha
    rw [List.drop_eq_nil_of_le (by omega)]
    exact Ev.step (fun _ => chaseref1_WrapOf.l0.eq_2 ..) (ev_neg (by omega) (ev_val (by simp)))
  | succ d ih =>
    intro j acc hd hj ha
    by_cases hlt : j < L.length
    · obtain ⟨q1, q2⟩ := hQ L[j] (List.getElem_mem hlt)
      have hm : j * 20001 ≤ 20001 * 20001 := Nat.mul_le_mul_right _ (by omega)
      have hw : wrap64 ((j : Int) + 1) = ((j + 1 : Nat) : Int) := by rw [wr64 (by omega) (by omega)]; omega
      have hwl := wr_len 20000 L[j]
      rw [List.drop_eq_getElem_cons hlt, List.flatMap_cons, ← List.append_assoc]
      refine Ev.step (fun _ => chaseref1_WrapOf.l0.eq_2 ..) (ev_pos (by omega) (ev_pos (by omega) (ev_pos (by omega) ?_)))
      rw [rd_at L j hlt]
      refine wrapOf_ev L (L.length : Int) (j : Int) _ 20000 L[j] acc (by omega) (by omega) q1 (by omega) ?_
      rw [hw]
      exact ih (j + 1) _ (by omega) (by omega) (by rw [List.length_append, Nat.add_mul, Nat.one_mul]; omega)
    · rw [List.drop_eq_nil_of_le (by omega)]
      exact Ev.step (fun _ => chaseref1_WrapOf.l0.eq_2 ..) (ev_neg (by omega) (ev_val (by simp)))
theorem pieces_ev {s : ByteArray} (h : textOk s = true) (hs : s.size ≤ 20000) : Ev (fun k => produce_pieces.f k s) (pcs s) := by
  obtain ⟨b, hb⟩ := Lines_is h hs
  have hl := Ls_len s
  unfold produce_pieces.f
  exact ev_bindc hb (pieces_loop (Ls s) (by omega) (Ls_Q h hs) _ 0 [] (Nat.le_refl _) (Nat.zero_le _) (by simp))
theorem WrapOf_ev {s : ByteArray} (h : textOk s = true) (hs : s.size ≤ 20000) : Ev (fun k => chaseref1_WrapOf.f k s) (pcs s) := by
  have hl := Ls_len s
  unfold chaseref1_WrapOf.f
  exact ev_bindc (linesOf_is h hs) (wrapOf_loop (Ls s) (by omega) (Ls_Q h hs) _ 0 [] (Nat.le_refl _) (Nat.zero_le _) (by simp))
def chunks (l : List ByteArray) : List (List ByteArray) := (List.range ((l.length + 49) / 50)).map (chunkL l)
theorem chunks_of (last : List ByteArray) (h1 : 0 < last.length) (h2 : last.length ≤ 50) : ∀ full : List (List ByteArray), (∀ x ∈ full, x.length = 50) → chunks (full.flatten ++ last) = full ++ [last]
  | [], _ => by
    unfold chunks
    rw [List.flatten_nil, List.nil_append, show (last.length + 49) / 50 = 1 by omega]
    show [chunkL last 0] = [last]
    unfold chunkL
    rw [Nat.mul_zero, List.drop_zero, List.take_of_length_le h2]
  | x :: r, hf => by
    have ih := chunks_of last h1 h2 r (fun y hy => hf y (List.mem_cons_of_mem _ hy))
    have hx := hf x List.mem_cons_self
    unfold chunks at ih ⊢
    rw [List.flatten_cons, List.append_assoc, show ((x ++ (r.flatten ++ last)).length + 49) / 50 = ((r.flatten ++ last).length + 49) / 50 + 1 by rw [List.length_append, hx]; omega, List.range_succ_eq_map, List.map_cons, List.map_map, List.cons_append]
    congr 1
    · unfold chunkL
      rw [Nat.mul_zero, List.drop_zero, List.take_left' hx]
    · rw [← ih]
      congr 1
      funext k
      show chunkL (x ++ (r.flatten ++ last)) (k + 1) = chunkL (r.flatten ++ last) k
      unfold chunkL
      rw [show 50 * (k + 1) = x.length + 50 * k by omega, ← List.drop_drop, List.drop_left]
def pagesOf (l : List ByteArray) : List (List ByteArray) := if l.length = 0 then [[]] else chunks l
theorem PagesOf_loop (l : List ByteArray) (hl : l.length ≤ 1000000000) (d : Nat) : ∀ (j : Nat) (full : List (List ByteArray)) (last : List ByteArray), l.length - j ≤ d → j ≤ l.length → full.flatten ++ last = l.take j → (∀ x ∈ full, x.length = 50) → last.length ≤ 50 → (last.length = 0 → full = []) → full.length ≤ j →
    Ev (fun k => chaseref1_PagesOf.l0 k (full ++ [last]) l (l.length : Int) (j : Int)) (pagesOf l) := by
  have fin : ∀ (j : Nat) (full : List (List ByteArray)) (last : List ByteArray), ¬ j < l.length → j ≤ l.length → full.flatten ++ last = l.take j → (∀ x ∈ full, x.length = 50) → last.length ≤ 50 → (last.length = 0 → full = []) → Ev (fun k => chaseref1_PagesOf.l0 k (full ++ [last]) l (l.length : Int) (j : Int)) (pagesOf l) := by
    intro j full last h1 h2 h3 h4 h5 h6
    refine Ev.step (fun _ => chaseref1_PagesOf.l0.eq_2 ..) (ev_neg (by omega) (ev_val ?_))
    rw [List.take_of_length_le (by omega)] at h3
    congr 1
    unfold pagesOf
    by_cases hz : last.length = 0
    · obtain rfl := h6 hz
      obtain rfl := List.eq_nil_of_length_eq_zero hz
      simp only [List.flatten_nil, List.append_nil] at h3
      rw [← h3]
      rfl
    · have hlen := congrArg List.length h3
      rw [List.length_append] at hlen
      rw [if_neg (by omega), ← h3, chunks_of last (by omega) h5 full h4]
  induction d with
  | zero => exact fun j full last h0 h1 h2 h3 h4 h5 _ => fin j full last (by omega) h1 h2 h3 h4 h5
  | succ d ih =>
    intro j full last h0 h1 h2 h3 h4 h5 h6
    by_cases hlt : j < l.length
    · have hw : wrap64 ((j : Int) + 1) = ((j + 1 : Nat) : Int) := by rw [wr64 (by omega) (by omega)]; omega
      have hk : ∀ (f : List (List ByteArray)) (x : List ByteArray), f.length ≤ 1000000001 → wrap64 (((f ++ [x]).length : Int) - 1) = ((f.length : Nat) : Int) := fun f x hf => by
        rw [List.length_append, List.length_singleton, wr64 (by omega) (by omega)]
        omega
      have hr : ∀ (f : List (List ByteArray)) (x : List ByteArray), rd_L3 (f ++ [x]) ((f.length : Nat) : Int) = x := fun f x => by
        simp [rd_L3, List.getD_eq_getElem?_getD]
      have hs : ∀ (f : List (List ByteArray)) (x y : List ByteArray), (f ++ [x]).set (((f.length : Nat) : Int)).toNat y = f ++ [y] := fun f x y => by
        rw [Int.toNat_natCast, List.set_append_right _ _ (Nat.le_refl _), Nat.sub_self]
        rfl
      have ht : l.take (j + 1) = l.take j ++ [l[j]] := List.take_succ_eq_append_getElem hlt
      refine Ev.step (fun _ => chaseref1_PagesOf.l0.eq_2 ..) (ev_pos (by omega) (ev_pos (by omega) (ev_pos (by omega) ?_)))
      rw [hk full last (by omega), hr, rd_at l j hlt, hw]
      refine ev_pos (by omega) (ev_pos (by rw [List.length_append, List.length_singleton]; omega) ?_)
      by_cases h50 : (last.length : Int) = 50
      · refine ev_pos h50 (ev_pos (by rw [List.length_append, List.length_singleton]; omega) ?_)
        refine ev_bindc rfl ?_
        rw [hk (full ++ [last]) [] (by rw [List.length_append, List.length_singleton]; omega), hr, hs]
        refine ev_pos (by omega) (ev_pos (by simp only [List.length_append, List.length_singleton]; omega) (ev_pos (by simp) ?_))
        refine ih (j + 1) (full ++ [last]) ([] ++ [l[j]]) (by omega) (by omega) ?_ ?_ (by simp) (by simp) (by rw [List.length_append, List.length_singleton]; omega)
        · rw [ht, ← h2, List.flatten_append]
          simp
        · intro x hx
          rcases List.mem_append.1 hx with hx | hx
          · exact h3 x hx
          · rw [List.mem_singleton.1 hx]; omega
      · refine ev_neg h50 (ev_pos (by omega) ?_)
        rw [hs]
        refine ih (j + 1) full (last ++ [l[j]]) (by omega) (by omega) ?_ h3 (by rw [List.length_append, List.length_singleton]; omega) (by simp) (by omega)
        rw [ht, ← h2, List.append_assoc]
    · exact fin j full last hlt h1 h2 h3 h4 h5
theorem PagesOf_ev {s : ByteArray} (h : textOk s = true) (hs : s.size ≤ 20000) : Ev (fun k => chaseref1_PagesOf.f k s) (pagesOf (pcs s)) := by
  have hl := pcs_len s hs
  unfold chaseref1_PagesOf.f
  exact Ev.bind (WrapOf_ev h hs) (PagesOf_loop (pcs s) (by omega) _ 0 [] [] (Nat.le_refl _) (Nat.zero_le _) (by simp) (fun x hx => by cases hx) (by simp) (fun _ => rfl) (by simp))
end Go.Proofs.YtffaggbephnmkaaGreatDoor.Pg
