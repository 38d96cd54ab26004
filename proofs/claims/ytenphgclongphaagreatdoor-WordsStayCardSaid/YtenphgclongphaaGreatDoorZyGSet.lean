/- A part of the proof of wordsStay. No conditions. Laid by program over the kit's print and words. -/
import Derived.Test.YtenphgclongphaaGreatDoorZyGBase
import Derived.Maps.OwnSet
set_option linter.unusedVariables false
namespace Go.Proofs.YtenphgclongphaaGreatDoor.GBase
open Go.RowKit
def boolR : Value → Option (DataW Unit × List MemPlace)
  | .bool b => some (.lit (.bool b), [])
  | _ => none
def SetAt (P : Program) (k : TypeId) (w : World) (b : Nat) (S : List (List UInt8)) : Prop :=
  ∃ D : DataW Unit, w.ownsMap P k boolR b S.length D ∧ Maps.IsMap D ∧ ∀ s : ByteArray, D.atKey (.string s.data.toList) (.lit (.bool false)) = .lit (.bool (decide (s.data.toList ∈ S)))
variable {P : Program} {k t e : TypeId} {w w' : World} {b : Nat} {S : List (List UInt8)}
theorem SetAt.lt (h : SetAt P k w b S) : b < w.heap.size := by
  obtain ⟨D, h1, _⟩ := h
  exact h1.lt
theorem SetAt.kept (h : SetAt P k w b S) {row : Option Nat} (hg : w.grownBy w' row) (hne : some b ≠ row) : SetAt P k w' b S := by
  obtain ⟨D, h1, h2⟩ := h
  exact ⟨D, h1.kept hg hne, h2⟩
theorem SetAt.below (h : SetAt P k w b S) (hb : Below w.heap.size w w') : SetAt P k w' b S :=
  h.kept (row := none) ⟨hb.os, hb.tape, hb.output, hb.size, fun i hi _ => hb.block i hi⟩ (by simp)
theorem SetAt.far (h : SetAt P k w b S) {a : Addr} (ha : b ≠ a.block) (u : Value) : SetAt P k (w.setCell a u) b S := by
  obtain ⟨D, h1, h2⟩ := h
  exact ⟨D, h1.setCell ha u, h2⟩
theorem SetAt.put (h : SetAt P k w b S) (ht : P.underlying t = some (.map k e)) (hk : P.underlying k = some .string) (s : ByteArray) (hs : s.size ≤ 9223372036854775807) (hn : S.length < 9223372036854775807) :
    ∃ w', (Instr.mapUpdate t (.map (some b)) (.string s) (.bool true)).run P w = .ok () w' ∧ SetAt P k w' b (S ++ [s.data.toList]) ∧ w.grownBy w' (some b) := by
  obtain ⟨D, h1, h2, h3⟩ := h
  obtain ⟨w', hrun, ho, hg⟩ := h1.update (Maps.string_keyed hk) ht hn (val := .bool true) (d := .lit (.bool true)) (ps := []) (WideMaps.keyOf_string_mk hk hs) rfl
  refine ⟨w', hrun, ⟨_, by rw [List.length_append]; exact ho, h2.put _ _, fun s' => ?_⟩, hg⟩
  have hkl := (Maps.string_keyed hk).key (WideMaps.keyOf_string_mk hk hs)
  by_cases hss : s'.data.toList = s.data.toList
  · rw [hss, Maps.atKey_put_same h2 hkl]
    simp
  · rw [Maps.atKey_put_other (fun hc => hss (Lit.string.inj hc)), h3 s']
    simp [hss]
end Go.Proofs.YtenphgclongphaaGreatDoor.GBase
