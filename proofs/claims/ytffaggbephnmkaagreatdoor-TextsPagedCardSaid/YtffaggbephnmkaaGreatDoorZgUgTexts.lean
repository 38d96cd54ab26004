/- Part of the proof that the law textsPaged is true for every input. No conditions. Laid by a program of this session over the kit's print and words; declarations that nothing names are left out. -/
import Derived.Test.YtffaggbephnmkaaGreatDoorZgUgSmall
import Derived.Test.YtffaggbephnmkaaGreatDoorZgPgx3
import Derived.Test.YtffaggbephnmkaaGreatDoorZgPgx5
namespace Go.Proofs.YtffaggbephnmkaaGreatDoor.Pg
open Go.RowKit Go.Proofs.YtffaggbephnmkaaGreatDoor.GBase Go.Proofs.YtffaggbephnmkaaGreatDoorW.PrintWords Go.Proofs.YtffaggbephnmkaaGreatDoorW.PrintLast
set_option linter.unusedVariables false
set_option linter.unusedSimpArgs false
theorem bt_get (s : ByteArray) (j : Nat) (h : j < s.data.toList.length) : bt s (j : Int) = ((s.data.toList[j]).toNat : Int) := by
  have h2 : j < s.size := by rw [data_length] at h; exact h
  simp only [bt, Int.toNat_natCast, h2, dif_pos]
  rfl
theorem valid_is (s : ByteArray) (hs : s.size ≤ 1073741824) : utf8_ValidString.f s = some (Lib.validD s.data.toList) := by
  unfold utf8_ValidString.f
  rw [if_pos (by omega)]
theorem suffix_total (s : ByteArray) (hs : s.size ≤ 1073741824) : ∃ b, strings_HasSuffix.f s (⟨#[10]⟩ : ByteArray) = some b := by
  unfold strings_HasSuffix.f stringslite_HasSuffix.f
  have h1 : (((⟨#[10]⟩ : ByteArray).size : Nat) : Int) = 1 := rfl
  rw [h1]
  by_cases h : (s.size : Int) ≥ 1
  · have hw : wrap64 ((s.size : Int) - 1) = (s.size : Int) - 1 := wr64 (by omega) (by omega)
    rw [if_pos h, hw, if_pos (by omega), if_pos (by omega)]
    exact ⟨_, rfl⟩
  · rw [if_neg h]
    exact ⟨_, rfl⟩
def okC (feeds : Bool) (c : UInt8) : Bool := !((decide ((c.toNat : Int) < 32) && !(feeds && decide ((c.toNat : Int) = 10))) || decide ((c.toNat : Int) = 127))
def wfC (s : ByteArray) (feeds : Bool) : Bool := s.data.toList.all (okC feeds) && Lib.validD s.data.toList
def sufB (s : ByteArray) : Bool := (strings_HasSuffix.f s (⟨#[10]⟩ : ByteArray)).getD false
theorem suf_is (s : ByteArray) (hs : s.size ≤ 1073741824) : strings_HasSuffix.f s (⟨#[10]⟩ : ByteArray) = some (sufB s) := by
  obtain ⟨b, hb⟩ := suffix_total s hs
  unfold sufB
  rw [hb]
  rfl
def textOk (s : ByteArray) : Bool := wfC s true && (decide (s.toList = []) || sufB s)
theorem Visible_loop (s : ByteArray) (hs : s.size ≤ 1073741824) (feeds : Bool) (d : Nat) : ∀ j : Nat, s.size - j ≤ d → j ≤ s.size → Ev (fun k => base_Visible.l0 k s feeds (s.size : Int) (j : Int)) ((s.data.toList.drop j).all (okC feeds) && Lib.validD s.data.toList) := by
  have hlen : s.data.toList.length = s.size := data_length s
  induction d with
  | zero =>
    intro j hd hj
    obtain rfl : j = s.size := by omega
    rw [List.drop_of_length_le (by omega)]
    exact Ev.step (fun _ => base_Visible.l0.eq_2 ..) (ev_neg (by omega) (ev_bindc (valid_is s hs) (ev_val (by simp))))
  | succ d ih =>
    intro j hd hj
    by_cases hlt : j < s.size
    · have hw : wrap64 ((j : Int) + 1) = ((j + 1 : Nat) : Int) := by rw [wr64 (by omega) (by omega)]; omega
      have hl : j < s.data.toList.length := by omega
      have hn := ih (j + 1) (by omega) (by omega)
      rw [List.drop_eq_getElem_cons hl, List.all_cons]
      refine Ev.step (fun _ => base_Visible.l0.eq_2 ..) (ev_pos (by omega) (ev_pos (by omega) (ev_pos (by omega) ?_)))
      rw [bt_get s j hl, hw]
      generalize s.data.toList[j] = c at *
      have good : okC feeds c = true → Ev (fun k => base_Visible.l0 k s feeds (s.size : Int) ((j + 1 : Nat) : Int)) (okC feeds c && (s.data.toList.drop (j + 1)).all (okC feeds) && Lib.validD s.data.toList) := fun h => by
        rw [h, Bool.true_and]; exact hn
      have bad : okC feeds c = false → Ev (fun _ => some false) (okC feeds c && (s.data.toList.drop (j + 1)).all (okC feeds) && Lib.validD s.data.toList) := fun h => by
        rw [h]; exact ev_val rfl
      by_cases h1 : (c.toNat : Int) < 32
      · refine ev_pos h1 ?_
        by_cases hf : feeds = true
        · refine ev_pos hf ?_
          by_cases h10 : (c.toNat : Int) = 10
          · exact ev_pos h10 (ev_neg (by omega) (good (by simp [okC, h10, hf])))
          · exact ev_neg h10 (bad (by simp [okC, h10, h1]))
        · exact ev_neg hf (bad (by simp [okC, h1, hf]))
      · refine ev_neg h1 ?_
        by_cases h127 : (c.toNat : Int) = 127
        · exact ev_pos h127 (bad (by simp [okC, h127]))
        · exact ev_neg h127 (good (by simp [okC, h127, h1]))
    · obtain rfl : j = s.size := by omega
      exact ih _ (by omega) (by omega)
theorem Text_ev (s : ByteArray) (hs : s.size ≤ 1073741824) : Ev (fun k => base_Text.f k s) (textOk s) := by
  unfold base_Text.f base_Visible.f
  refine Ev.bind (Visible_loop s hs true _ 0 (Nat.le_refl _) (by omega)) ?_
  rw [List.drop_zero]
  show Ev _ (wfC s true && (decide (s.toList = []) || sufB s))
  change Ev (fun k => if wfC s true = true then _ else _) _
  by_cases h : wfC s true = true
  · rw [h]
    refine ev_pos rfl ?_
    by_cases h2 : s.toList = []
    · exact ev_pos h2 (ev_val (by simp [h2]))
    · exact ev_neg h2 (ev_bindc (suf_is s hs) (ev_val (by simp [h2])))
  · have : wfC s true = false := by simpa using h
    rw [this]
    exact ev_neg (by simp) (ev_val rfl)
theorem TextOf_is (s : ByteArray) (hs : s.size ≤ 1073741824) : chaseref1_TextOf.f s = some (textOk s) := by
  have hw : chaseref1_wellFormed.f s true = some (wfC s true) := by
    unfold chaseref1_wellFormed.f
    rw [if_pos (by omega)]
    rfl
  unfold chaseref1_TextOf.f
  rw [hw, Option.bind_some]
  unfold textOk
  by_cases h : wfC s true = true
  · rw [h, if_pos rfl]
    by_cases h2 : s.toList = []
    · rw [if_pos h2]; simp [h2]
    · rw [if_neg h2, suf_is s hs]; simp [h2]
  · have : wfC s true = false := by simpa using h
    rw [this, if_neg (by simp)]
    rfl
def bodyFault (s : ByteArray) : Int := if (s.size : Int) > 20000 then 2 else if textOk s = true then 0 else 3
theorem BodyFault_is (s : ByteArray) : chaseref1_BodyFault.f s = some (bodyFault s) := by
  unfold chaseref1_BodyFault.f bodyFault
  by_cases h : (s.size : Int) > 20000
  · rw [if_pos h, if_pos h]
  · rw [if_neg h, if_neg h, TextOf_is s (by omega), Option.bind_some]
    split <;> rfl
end Go.Proofs.YtffaggbephnmkaaGreatDoor.Pg
