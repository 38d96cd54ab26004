/- A part of the proof of wordsStay. No conditions. Laid by program over the kit's print and words. -/
import Derived.Test.YtenphgclongphaaGreatDoorZyGBase
import Derived.Shelf.Unicode.DecodeSlow
namespace Go.Proofs.YtenphgclongphaaGreatDoor.GBase
open Go.RowKit Go.Proofs.YtenphgclongphaaGreatDoorW.PrintWords
def Wd (w : World) : Prop := (∃ m, w.cell? ⟨0, 0, none⟩ = some (.int .i64 m)) ∧ Lib.Utf8Tabs 1 2 w
theorem Wd.below {w w' : World} (h : Wd w) (hb : Below w.heap.size w w') : Wd w' := by
  obtain ⟨⟨m, hm⟩, ht⟩ := h
  exact ⟨⟨m, (hb.cell (World.block_lt_of_cell? w _ hm)).trans hm⟩, Utf8Tabs_below ht hb⟩
theorem Wd.drewN {w : World} (h : Wd w) (n : Nat) : Wd (w.drewN n) := h.below (Drawn0.below ⟨n, rfl⟩)
theorem Wd.drew {w : World} (h : Wd w) : Wd w.drew := h.drewN 1
end Go.Proofs.YtenphgclongphaaGreatDoor.GBase
