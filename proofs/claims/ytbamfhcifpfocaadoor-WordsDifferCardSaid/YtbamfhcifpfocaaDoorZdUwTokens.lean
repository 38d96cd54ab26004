/- A part of the proof of wordsDiffer. No conditions. Laid by program over the kit's print and words. -/
import Derived.Test.YtbamfhcifpfocaaDoorZdGJt
import Derived.Lib.SplitLaws
import Derived.Test.YtbamfhcifpfocaaDoorZdPwx3
import Derived.Test.YtbamfhcifpfocaaDoorZdPwx7
import Derived.Test.YtbamfhcifpfocaaDoorZdPwx6
import Derived.Test.YtbamfhcifpfocaaDoorZdPwx11
namespace Go.Proofs.YtbamfhcifpfocaaDoor.Pw
open Go.RowKit Go.Proofs.YtbamfhcifpfocaaDoor.GBase Go.Proofs.YtbamfhcifpfocaaDoorW.PrintWords Go.Proofs.YtbamfhcifpfocaaDoorW.PrintLast Go.Proofs.YtbamfhcifpfocaaDoorW.PrintMore
set_option linter.unusedVariables false
set_option linter.unusedSimpArgs false
def sz1 : List ByteArray → Nat
  | [] => 0
  | x :: r => x.size + 1 + sz1 r
def cost : List ByteArray → Nat
  | [] => 0
  | x :: r => x.size + 3 + cost r
theorem sz1_append (a b : List ByteArray) : sz1 (a ++ b) = sz1 a + sz1 b := by
  induction a with
  | nil => simp [sz1]
  | cons x a ih => simp only [List.cons_append, sz1, ih]; omega
theorem len_le_sz1 (a : List ByteArray) : a.length ≤ sz1 a := by
  induction a with
  | nil => exact Nat.le_refl _
  | cons x a ih => simp only [List.length_cons, sz1]; omega
theorem cost_le (a : List ByteArray) : cost a ≤ 3 * sz1 a := by
  induction a with
  | nil => exact Nat.le_refl _
  | cons x a ih => simp only [cost, sz1]; omega
theorem split_sz1 (sep : ByteArray) (h1 : 1 ≤ sep.size) : ∀ (k : Nat) (s : ByteArray), sz1 (Lib.splitB sep 0 k s) ≤ s.size + 1
  | 0, s => by rw [Lib.splitB_zero]; simp [sz1]
  | k + 1, s => by
    rcases Lib.indexB_cases s sep with hix | ⟨i, hix, hroom⟩
    · rw [Lib.splitB_miss sep 0 (k + 1) s hix]
      simp [sz1]
    · rw [Lib.splitB_hit sep 0 k s i hix]
      have ih := split_sz1 sep h1 k (s.extract (i + sep.size) s.size)
      have e1 : (s.extract 0 (i + 0)).size ≤ i := by rw [ByteArray.size_extract]; omega
      have e2 : (s.extract (i + sep.size) s.size).size = s.size - (i + sep.size) := by rw [ByteArray.size_extract]; omega
      simp only [sz1]
      omega
theorem rd_at' (l : List ByteArray) (j : Nat) (hj : j < l.length) : rdOf ByteArray.empty l (j : Int) = l[j] := by
  simp [rdOf, List.getD, hj]
theorem tok_same (k : Nat) : (∀ a b c d, near_Tokens.l0 k a b c d = chaseref1_TokensOf.l0 k a b c d) ∧ (∀ a b c d e, near_Tokens.j1 k a b c d e = chaseref1_TokensOf.j1 k a b c d e) ∧ (∀ a b c d e f g, near_Tokens.l1 k a b c d e f g = chaseref1_TokensOf.l1 k a b c d e f g) := by
  induction k with
  | zero => exact ⟨fun _ _ _ _ => rfl, fun _ _ _ _ _ => rfl, fun _ _ _ _ _ _ _ => rfl⟩
  | succ k ih =>
    obtain ⟨h0, h1, h2⟩ := ih
    refine ⟨fun a b c d => ?_, fun a b c d e => ?_, fun a b c d e f g => ?_⟩
    · rw [near_Tokens.l0.eq_2, chaseref1_TokensOf.l0.eq_2]
      simp only [h1]
    · rw [near_Tokens.j1.eq_2, chaseref1_TokensOf.j1.eq_2]
      simp only [h2]
    · rw [near_Tokens.l1.eq_2, chaseref1_TokensOf.l1.eq_2]
      simp only [h0, h2]
theorem tok_inner (L : List ByteArray) (n i : Int) (C B : Nat) (hB : B ≤ 1000000000) (t : List ByteArray) (ht : t.length ≤ 1000000000)
    (next : ∀ acc, sz1 acc ≤ B → ∃ r, Ev (fun k => near_Tokens.l0 k acc L n (wrap64 (i + 1))) r ∧ sz1 r ≤ C) (d : Nat) : ∀ (j : Nat) (acc : List ByteArray), t.length - j ≤ d → j ≤ t.length → sz1 acc + sz1 (t.drop j) ≤ B →
    ∃ r, Ev (fun k => near_Tokens.l1 k acc L n i t (t.length : Int) (j : Int)) r ∧ sz1 r ≤ C := by
  induction d with
  | zero =>
    intro j acc hd hj hb
    obtain ⟨r, hr, hc⟩ := next acc (by omega)
    exact ⟨r, Ev.step (fun _ => near_Tokens.l1.eq_2 ..) (ev_neg (by omega) hr), hc⟩
  | succ d ih =>
    intro j acc hd hj hb
    by_cases hlt : j < t.length
    · have w1 : wrap64 ((j : Int) + 1) = ((j + 1 : Nat) : Int) := by rw [wr64 (by omega) (by omega)]; omega
      have hdr : t.drop j = t[j] :: t.drop (j + 1) := List.drop_eq_getElem_cons hlt
      rw [hdr] at hb
      simp only [sz1] at hb
      by_cases he : t[j].toList = ([] : List UInt8)
      · obtain ⟨r, hr, hc⟩ := ih (j + 1) acc (by omega) (by omega) (by omega)
        refine ⟨r, Ev.step (fun _ => near_Tokens.l1.eq_2 ..) (ev_pos (by omega) (ev_pos (by omega) (ev_pos (by omega) ?_))), hc⟩
        rw [rd_at' t j hlt, w1]
        exact ev_pos he hr
      · obtain ⟨r, hr, hc⟩ := ih (j + 1) (acc ++ [t[j]]) (by omega) (by omega) (by rw [sz1_append]; simp only [sz1]; omega)
        have hl := len_le_sz1 acc
        refine ⟨r, Ev.step (fun _ => near_Tokens.l1.eq_2 ..) (ev_pos (by omega) (ev_pos (by omega) (ev_pos (by omega) ?_))), hc⟩
        rw [rd_at' t j hlt, w1]
        exact ev_neg he (ev_pos (by omega) hr)
    · obtain ⟨r, hr, hc⟩ := next acc (by omega)
      exact ⟨r, Ev.step (fun _ => near_Tokens.l1.eq_2 ..) (ev_neg (by omega) hr), hc⟩
theorem tok_outer (L : List ByteArray) (hL : L.length ≤ 1000000000) (C : Nat) (hC : C ≤ 1000000000) (d : Nat) : ∀ (i : Nat) (acc : List ByteArray), L.length - i ≤ d → i ≤ L.length → sz1 acc + cost (L.drop i) ≤ C →
    ∃ r, Ev (fun k => near_Tokens.l0 k acc L (L.length : Int) (i : Int)) r ∧ sz1 r ≤ C := by
  induction d with
  | zero =>
    intro i acc hd hi hb
    exact ⟨acc, Ev.step (fun _ => near_Tokens.l0.eq_2 ..) (ev_neg (by omega) (ev_val rfl)), by omega⟩
  | succ d ih =>
    intro i acc hd hi hb
    by_cases hlt : i < L.length
    · have w1 : wrap64 ((i : Int) + 1) = ((i + 1 : Nat) : Int) := by rw [wr64 (by omega) (by omega)]; omega
      have hdr : L.drop i = L[i] :: L.drop (i + 1) := List.drop_eq_getElem_cons hlt
      rw [hdr] at hb
      simp only [cost] at hb
      have hn : (⟨#[10]⟩ : ByteArray).size = 1 := rfl
      have hs := split_sz1 (⟨#[32]⟩ : ByteArray) (Nat.le_refl 1) (Lib.countB L[i] ⟨#[32]⟩) L[i]
      have hsl := len_le_sz1 (Lib.splitB (⟨#[32]⟩ : ByteArray) 0 (Lib.countB L[i] ⟨#[32]⟩) L[i])
      have hsp : strings_Split.f L[i] (⟨#[32]⟩ : ByteArray) = some (Lib.splitB (⟨#[32]⟩ : ByteArray) 0 (Lib.countB L[i] ⟨#[32]⟩) L[i]) := by
        unfold strings_Split.f
        rw [if_pos ⟨by omega, Nat.le_refl 1⟩]
      have hl := len_le_sz1 acc
      have inner : ∀ acc', sz1 acc' ≤ sz1 acc + 2 → ∃ r, Ev (fun k => near_Tokens.j1 k acc' L[i] L (L.length : Int) (i : Int)) r ∧ sz1 r ≤ C := by
        intro acc' ha
        obtain ⟨r, hr, hc⟩ := tok_inner L (L.length : Int) (i : Int) C (sz1 acc + 2 + (L[i].size + 1)) (by omega) (Lib.splitB (⟨#[32]⟩ : ByteArray) 0 (Lib.countB L[i] ⟨#[32]⟩) L[i]) (by omega)
          (fun acc2 h2 => by rw [w1]; exact ih (i + 1) acc2 (by omega) (by omega) (by omega)) _ 0 acc' (Nat.le_refl _) (by omega) (by rw [List.drop_zero]; omega)
        exact ⟨r, Ev.step (fun _ => near_Tokens.j1.eq_2 ..) (ev_bindc hsp hr), hc⟩
      by_cases h0 : 0 < i
      · obtain ⟨r, hr, hc⟩ := inner (acc ++ [(⟨#[10]⟩ : ByteArray)]) (by rw [sz1_append]; simp only [sz1, hn]; omega)
        refine ⟨r, Ev.step (fun _ => near_Tokens.l0.eq_2 ..) (ev_pos (by omega) (ev_pos (by omega) (ev_pos (by omega) (ev_pos (by omega) (ev_pos (by omega) ?_))))), hc⟩
        rw [rd_at' L i hlt]
        exact hr
      · obtain ⟨r, hr, hc⟩ := inner acc (by omega)
        refine ⟨r, Ev.step (fun _ => near_Tokens.l0.eq_2 ..) (ev_pos (by omega) (ev_pos (by omega) (ev_pos (by omega) (ev_neg (by omega) ?_)))), hc⟩
        rw [rd_at' L i hlt]
        exact hr
    · exact ⟨acc, Ev.step (fun _ => near_Tokens.l0.eq_2 ..) (ev_neg (by omega) (ev_val rfl)), by omega⟩
theorem tokens_ev2 (s : ByteArray) (hs : s.size ≤ 1048576) : ∃ r, Ev (fun k => near_Tokens.f k s) r ∧ Ev (fun k => chaseref1_TokensOf.f k s) r ∧ sz1 r ≤ (3 * (s.size + 1)) := by
  have h1 := split_sz1 (⟨#[10]⟩ : ByteArray) (Nat.le_refl 1) (Lib.countB s ⟨#[10]⟩) s
  have h2 := len_le_sz1 (Lib.splitB (⟨#[10]⟩ : ByteArray) 0 (Lib.countB s ⟨#[10]⟩) s)
  have h3 := cost_le (Lib.splitB (⟨#[10]⟩ : ByteArray) 0 (Lib.countB s ⟨#[10]⟩) s)
  obtain ⟨r, hr, hc⟩ := tok_outer (Lib.splitB (⟨#[10]⟩ : ByteArray) 0 (Lib.countB s ⟨#[10]⟩) s) (by omega) (3 * (s.size + 1)) (by omega) _ 0 [] (Nat.le_refl _) (by omega) (by rw [List.drop_zero]; simp only [sz1]; omega)
  have hsp : strings_Split.f s (⟨#[10]⟩ : ByteArray) = some (Lib.splitB (⟨#[10]⟩ : ByteArray) 0 (Lib.countB s ⟨#[10]⟩) s) := by
    unfold strings_Split.f
    rw [if_pos ⟨by omega, Nat.le_refl 1⟩]
  have e : Ev (fun k => near_Tokens.f k s) r := by
    unfold near_Tokens.f
    exact ev_bindc hsp hr
  refine ⟨r, e, Ev.congr (fun k => ?_) e, hc⟩
  unfold near_Tokens.f chaseref1_TokensOf.f
  simp only [(tok_same k).1]
theorem jt_sz1 (l : List ByteArray) (k : Nat) : k ≤ l.length → (jt l k).length ≤ sz1 (l.take k) := by
  induction k with
  | zero => intro _; exact Nat.zero_le _
  | succ k ih =>
    intro h
    have h1 := ih (by omega)
    have hk : k < l.length := by omega
    have e : l.take (k + 1) = l.take k ++ [l[k]] := by rw [List.take_add_one, List.getElem?_eq_getElem hk]; rfl
    have e2 : l.getD k ByteArray.empty = l[k] := by simp [List.getD, hk]
    have e3 : ∀ (c : Prop) [Decidable c], (if c then [(32 : UInt8)] else []).length ≤ 1 := by intro c _; split <;> simp
    rw [e, sz1_append]
    show (jt l k ++ (_ ++ _)).length ≤ _
    rw [List.length_append, List.length_append, e2]
    have h4 := Lib.size_eq l[k]
    have h5 := e3 (0 < k ∧ ¬ (l[k]).toList = [10] ∧ ¬ (l.getD (k - 1) ByteArray.empty).toList = [10])
    simp only [sz1]
    omega
theorem join_is (l : List ByteArray) (h : sz1 l ≤ 4000000) : near_Join.f l = some (⟨(jt l l.length).toArray⟩ : ByteArray) ∧ chaseref1_JoinOf.f l = some (⟨(jt l l.length).toArray⟩ : ByteArray) := by
  have h1 := len_le_sz1 l
  have h2 := jt_sz1 l l.length (Nat.le_refl _)
  rw [List.take_length] at h2
  unfold near_Join.f chaseref1_JoinOf.f
  have c : l.length ≤ 140737488355328 ∧ (jt l l.length).length ≤ 140737488355328 := ⟨by omega, by omega⟩
  rw [if_pos c]
  exact ⟨rfl, rfl⟩
end Go.Proofs.YtbamfhcifpfocaaDoor.Pw
