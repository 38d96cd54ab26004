/- A part of the proof of wordsStay. No conditions. Laid by program over the kit's print and words. -/
import Derived.Test.YtenphgclongphaaGreatDoorZyPkx0
import Derived.Test.YtenphgclongphaaGreatDoorZyPkx9
import Derived.Test.YtenphgclongphaaGreatDoorZyGSet
import Derived.Test.YtenphgclongphaaGreatDoorZyShelf
import Derived.Maps.OwnSet
import Derived.Test.YtenphgclongphaaGreatDoorZyGJt
import Derived.Lib.SplitLaws
import Derived.Test.YtenphgclongphaaGreatDoorZyPkx6
import Derived.Test.YtenphgclongphaaGreatDoorZyPkx1
import Derived.Test.YtenphgclongphaaGreatDoorZyPkx7
import Derived.Test.YtenphgclongphaaGreatDoorZyPkx11
import Derived.Test.YtenphgclongphaaGreatDoorZyPkx2
import Derived.Test.YtenphgclongphaaGreatDoorZyPkx4
import Derived.Test.YtenphgclongphaaGreatDoorZyPkx5
import Derived.Laws.Cover4
import Derived.Lib.Repeat
import Derived.Test.YtenphgclongphaaGreatDoorZyPkx10
import Derived.Test.YtenphgclongphaaGreatDoorZyPkx8
namespace Go.Proofs.YtenphgclongphaaGreatDoor.Pk
open Go.RowKit Go.Proofs.YtenphgclongphaaGreatDoor.GBase Go.Proofs.YtenphgclongphaaGreatDoorW.PrintWords Go.Proofs.YtenphgclongphaaGreatDoorW.PrintLast Go.Proofs.YtenphgclongphaaGreatDoorW.PrintMore
attribute [local go_sem] str_leq max2_int min2_int max_two min_two max_three min_three max_four min_four
set_option linter.unusedVariables false
set_option linter.unusedSimpArgs false
def strR : Value → Option (DataW Unit × List MemPlace)
  | .string s => some (.lit (.string s.data.toList), [])
  | _ => none
def CatE (w : World) (g b : Nat) : Prop :=
  w.heap[g]? = some (.cells #[.int .i64 2, .int .i64 0, .map (some b)] 60 (0, 0)) ∧ w.heap[b]? = some (.map #[] 0) ∧ g ≠ b
def CatAt (w : World) (g b n : Nat) (D : DataW Unit) (bytes : Int) : Prop :=
  w.heap[g]? = some (.cells #[.int .i64 2, .int .i64 bytes, .map (some b)] 60 (0, 0)) ∧ w.ownsMap Tryz.prog 9 strR b n D ∧ g ≠ b
structure AddK (g b : Nat) (w w' : World) : Prop where
  os : w'.os = w.os
  tape : w'.tape = w.tape
  output : w'.output = w.output
  size : w.heap.size ≤ w'.heap.size
  block : ∀ k, k < w.heap.size → k ≠ g → k ≠ b → w'.heap[k]? = w.heap[k]?
theorem CatE.below {w w' : World} {g b : Nat} (h : CatE w g b) (hb : Below w.heap.size w w') : CatE w' g b := ⟨blk_below h.1 hb, blk_below h.2.1 hb, h.2.2⟩
theorem CatAt.below {w w' : World} {g b n : Nat} {D : DataW Unit} {i : Int} (h : CatAt w g b n D i) (hb : Below w.heap.size w w') : CatAt w' g b n D i :=
  ⟨blk_below h.1 hb, h.2.1.kept (row := none) ⟨hb.os, hb.tape, hb.output, hb.size, fun i hi _ => hb.block i hi⟩ (by simp), h.2.2⟩
theorem own_empty {w : World} {b : Nat} (hb : w.heap[b]? = some (.map #[] 0)) : w.ownsMap Tryz.prog 9 strR b 0 (.map []) := ⟨#[], 0, hb, ⟨by simp, MapKept.stamped_empty 0, by simp⟩, Nat.le_refl _, rfl⟩
theorem own_drew {w : World} {b n : Nat} {D : DataW Unit} (h : w.ownsMap Tryz.prog 9 strR b n D) : w.drew.ownsMap Tryz.prog 9 strR b n D := h.drew
theorem look_empty {w : World} {b : Nat} (hb : w.heap[b]? = some (.map #[] 0)) (s : ByteArray) (hs : s.size ≤ 9223372036854775807) :
    (Instr.lookup 58 (.map (some b)) (.string s) true).run Tryz.prog w = .ok (.tuple #[.string ByteArray.empty, .bool false]) w := by
  rcases Maps.fit_look true (Maps.string_keyed Tryz.underlying9) Tryz.underlying58 (Tryz.zeroValue9 w) hb (R := strR) ⟨by simp, MapKept.stamped_empty 0, by simp⟩ (WideMaps.keyOf_string_mk Tryz.underlying9 hs) with ⟨hrun, _, _⟩ | ⟨e0, y, he, _⟩
  · exact hrun
  · simp at he
theorem len_empty {w : World} {b : Nat} (hb : w.heap[b]? = some (.map #[] 0)) : (Builtin.len_ #[58] 3 #[.map (some b)]).run Tryz.prog w = .ok (.int .i64 0) w := (own_empty hb).len Tryz.underlying58 3
theorem put_empty {w : World} {b : Nat} (hb : w.heap[b]? = some (.map #[] 0)) (s t : ByteArray) (hs : s.size ≤ 9223372036854775807) (ht : t.size ≤ 9223372036854775807) :
    ∃ W2, (Instr.mapUpdate 58 (.map (some b)) (.string s) (.string t)).run Tryz.prog w = .ok () W2 ∧ W2.ownsMap Tryz.prog 9 strR b 1 ((DataW.map []).put (.string s.data.toList) (.lit (.string t.data.toList))) ∧ w.grownBy W2 (some b) :=
  (own_empty hb).update (Maps.string_keyed Tryz.underlying9) Tryz.underlying58 (by decide) (WideMaps.keyOf_string_mk Tryz.underlying9 hs) rfl
theorem AddK.of_grown {w w1 W2 : World} {g b : Nat} (hB : Below w.heap.size w w1) (hg : w1.grownBy W2 (some b)) : AddK g b w W2 :=
  ⟨hg.os.trans hB.os, hg.tape.trans hB.tape, hg.output.trans hB.output, Nat.le_trans hB.size hg.size, fun k hk _ hb => (hg.block k (Nat.lt_of_lt_of_le hk hB.size) (fun e => hb (by injection e))).trans (hB.block k hk)⟩
theorem AddK.drew {g b : Nat} {w w' : World} (h : AddK g b w w') : AddK g b w w'.drew := ⟨h.os, h.tape, h.output, h.size, h.block⟩
theorem AddK.store {g b : Nat} {w w' : World} (h : AddK g b w w') (p : Addr) (hp : p.block = g) (v : Value) : AddK g b w (w'.setCell p v) := by
  have hb := (Below.refl g w').setCell (p := p) (by rw [hp]; exact Nat.le_refl _) v
  refine ⟨hb.os.trans h.os, hb.tape.trans h.tape, hb.output.trans h.output, Nat.le_trans h.size hb.size, fun k hk h1 h2 => ?_⟩
  rw [← h.block k hk h1 h2]
  simp only [World.setCell]
  rw [Array.getElem?_modify]
  rw [if_neg (by rw [hp]; exact fun e => h1 e.symm)]
theorem blk_set {w : World} {g : Nat} {cs : Array Value} {t : TypeId} (h : w.heap[g]? = some (.cells cs t (0, 0))) (i : Nat) (v : Value) : (w.setCell ⟨g, i, none⟩ v).heap[g]? = some (.cells (cs.setIfInBounds i v) t (0, 0)) := by
  simp only [World.setCell]
  rw [Array.getElem?_modify, if_pos rfl, h]
  rfl
theorem CatAt.stored {w : World} {g b n : Nat} {D : DataW Unit} (hg : w.heap[g]? = some (.cells #[.int .i64 2, .int .i64 0, .map (some b)] 60 (0, 0))) (h : w.ownsMap Tryz.prog 9 strR b n D) (hne : g ≠ b) (i : Int) :
    CatAt (w.setCell ⟨g, 1, none⟩ (.int .i64 i)) g b n D i := ⟨by rw [blk_set hg]; rfl, h.setCell (fun e => hne e.symm) _, hne⟩
def AddC.T1 : Bool × List (List Nat × List Nat) := (true, [([], []), ([0], [0]), ([1], [1]), ([2], [2]), ([], []), ([4], [4]), ([3, 5], [3, 5]), ([6], [6]), ([7], [7]), ([7], [7]), ([8, 0, 1, 2, 3, 4, 5, 6, 7, 8], [8]), ([9, 10, 0, 1, 2, 3, 4, 5, 6, 7, 8, 9, 10], [9])])
def AddC.B1 : List Nat := [0, 1, 3, 7, 0, 16, 63, 127, 255, 255, 511, 2047]
theorem AddC.tab1 : rtab .any (opsOf Tryz.f8 1) = AddC.T1 := by kernel_rfl
theorem AddC.bits1 : waitsOk AddC.T1.2 AddC.B1 = true := by kernel_rfl
def AddC.T2 : Bool × List (List Nat × List Nat) := (true, [([], []), ([0], [0]), ([1], [1]), ([2], [2]), ([3], [3]), ([4], [4]), ([5, 4], [5]), ([6], [6]), ([7, 6], [6, 7]), ([8, 6], [6, 8]), ([9, 6], [6, 9]), ([6], [6]), ([11, 6], [6, 11]), ([12, 6], [6, 12]), ([10, 13, 6], [6, 10, 13]), ([14, 6], [6, 14]), ([6, 15], [6, 15]), ([16, 6, 0, 1, 2, 3, 4, 5, 6, 7, 8, 9, 10, 11, 12, 13, 14, 15, 16], [16])])
def AddC.B2 : List Nat := [0, 1, 3, 7, 15, 31, 63, 127, 255, 511, 1023, 127, 2175, 6271, 16383, 32767, 65535, 131071]
theorem AddC.tab2 : rtab .any (opsOf Tryz.f8 2) = AddC.T2 := by kernel_rfl
theorem AddC.bits2 : waitsOk AddC.T2.2 AddC.B2 = true := by kernel_rfl
def AddC.T3 : Bool × List (List Nat × List Nat) := (true, [([], []), ([0], [0]), ([1], [1]), ([2], [2]), ([3, 2], [3]), ([], []), ([5], [5]), ([6, 4], [6]), ([], []), ([8, 7], [8]), ([], []), ([10, 9], [10]), ([4, 7, 9, 11], [4, 7, 9, 11]), ([12, 11], [12]), ([13, 13, 0, 1, 2, 3, 4, 5, 6, 7, 8, 9, 10, 11, 12, 13], [13])])
def AddC.B3 : List Nat := [0, 1, 3, 7, 15, 0, 32, 127, 0, 511, 0, 2047, 4095, 8191, 16383]
theorem AddC.tab3 : rtab .any (opsOf Tryz.f8 3) = AddC.T3 := by kernel_rfl
theorem AddC.bits3 : waitsOk AddC.T3.2 AddC.B3 = true := by kernel_rfl
def AddC.T6 : Bool × List (List Nat × List Nat) := (true, [([], []), ([0], [0]), ([1], [1]), ([2], [2]), ([], []), ([4], [4]), ([], []), ([6], [6]), ([3, 5, 7, 0, 1, 2, 3, 4, 5, 6, 7], [3, 5, 7])])
def AddC.B6 : List Nat := [0, 1, 3, 7, 0, 16, 0, 64, 255]
theorem AddC.tab6 : rtab .any (opsOf Tryz.f8 6) = AddC.T6 := by kernel_rfl
theorem AddC.bits6 : waitsOk AddC.T6.2 AddC.B6 = true := by kernel_rfl
def AddC.T7 : Bool × List (List Nat × List Nat) := (true, [([], []), ([0], [0]), ([1], [1]), ([2], [2]), ([], []), ([4], [4]), ([5], [5]), ([3, 6], [3, 6]), ([0, 0, 1, 2, 3, 4, 5, 6, 7], [0]), ([8, 0, 1, 2, 3, 4, 5, 6, 7], [8]), ([9, 7, 0, 1, 2, 3, 4, 5, 6, 7], [7, 9])])
def AddC.B7 : List Nat := [0, 1, 3, 7, 0, 16, 48, 127, 255, 511, 1023]
theorem AddC.tab7 : rtab .any (opsOf Tryz.f8 7) = AddC.T7 := by kernel_rfl
theorem AddC.bits7 : waitsOk AddC.T7.2 AddC.B7 = true := by kernel_rfl
abbrev AddC.D0 : Array Bool := #[false, false, false, false, false, false, false, false, false, false, false, false, false, false, false, false, false, false]
abbrev AddC.D1 : Array Bool := #[false, false, false, false, false, false, false, false, false, false, false, false, false, false, false]
abbrev AddC.D2 : Array Bool := #[false, false, false, false, false, false, false, false, false, false, false, false]
abbrev AddC.D3 : Array Bool := #[false, false, false, false, false, false, false, false, false, false, false]
abbrev AddC.D4 : Array Bool := #[false, false, false, false, false, false, false, false, false]
abbrev AddC.D5 : Array Bool := #[true, false, false, false, false, false, false, false, false, false, false, false, false, false, false, false, false, false]
abbrev AddC.D6 : Array Bool := #[true, false, false, false, false, false, false, false, false, false, false, false, false, false, false]
abbrev AddC.D7 : Array Bool := #[true, false, false, false, false, false, false, false, false, false, false, false]
abbrev AddC.D8 : Array Bool := #[true, false, false, false, false, false, false, false, false, false, false]
abbrev AddC.D9 : Array Bool := #[true, false, false, false, false, false, false, false, false]
abbrev AddC.D10 : Array Bool := #[true, false, false, false, false, true, false, false, false, false, false, false, false, false, false]
abbrev AddC.D11 : Array Bool := #[true, false, false, false, false, true, false, false, true, false, false, false, false, false, false]
abbrev AddC.D12 : Array Bool := #[true, false, false, false, false, true, false, false, true, false, true, false, false, false, false]
abbrev AddC.D13 : Array Bool := #[true, true, false, false, false, false, false, false, false, false, false, false, false, false, false, false, false, false]
abbrev AddC.D14 : Array Bool := #[true, true, false, false, false, false, false, false, false, false, false, false]
abbrev AddC.D15 : Array Bool := #[true, true, false, false, false, false, false, false, false, false, false]
abbrev AddC.D16 : Array Bool := #[true, true, false, false, false, false, false, false, false]
abbrev AddC.D17 : Array Bool := #[true, true, false, false, false, true, false, false, true, false, true, false, false, false, false]
abbrev AddC.D18 : Array Bool := #[true, true, false, false, false, true, true, false, true, false, true, false, false, false, false]
abbrev AddC.D19 : Array Bool := #[true, true, true, false, false, false, false, false, false, false, false, false, false, false, false, false, false, false]
abbrev AddC.D20 : Array Bool := #[true, true, true, false, false, false, false, false, false, false, false, false]
abbrev AddC.D21 : Array Bool := #[true, true, true, false, false, false, false, false, false, false, false]
abbrev AddC.D22 : Array Bool := #[true, true, true, false, false, false, false, false, false]
abbrev AddC.D23 : Array Bool := #[true, true, true, false, false, true, true, false, true, false, true, false, false, false, false]
abbrev AddC.D24 : Array Bool := #[true, true, true, true, false, false, false, false, false, false, false, false, false, false, false, false, false, false]
abbrev AddC.D25 : Array Bool := #[true, true, true, true, false, false, false, false, false, false, false, false]
abbrev AddC.D26 : Array Bool := #[true, true, true, true, false, false, false, false, false, false, false]
abbrev AddC.D27 : Array Bool := #[true, true, true, true, false, false, false, false, false]
abbrev AddC.D28 : Array Bool := #[true, true, true, true, false, true, true, false, true, false, true, false, false, false, false]
abbrev AddC.D29 : Array Bool := #[true, true, true, true, true, false, false, false, false, false, false, false, false, false, false, false, false, false]
abbrev AddC.D30 : Array Bool := #[true, true, true, true, true, false, false, false, false, false, false, false]
abbrev AddC.D31 : Array Bool := #[true, true, true, true, true, false, false, false, false, false, false]
abbrev AddC.D32 : Array Bool := #[true, true, true, true, true, false, false, false, false]
abbrev AddC.D33 : Array Bool := #[true, true, true, true, true, false, true, false, false]
abbrev AddC.D34 : Array Bool := #[true, true, true, true, true, true, false, false, false, false, false, false, false, false, false, false, false, false]
abbrev AddC.D35 : Array Bool := #[true, true, true, true, true, true, false, false, false, false, false, false]
abbrev AddC.D36 : Array Bool := #[true, true, true, true, true, true, false, false, false, false, false]
abbrev AddC.D37 : Array Bool := #[true, true, true, true, true, true, true, false, false, false, false, false, false, false, false, false, false, false]
abbrev AddC.D38 : Array Bool := #[true, true, true, true, true, true, true, false, false, false, false, false]
abbrev AddC.D39 : Array Bool := #[true, true, true, true, true, true, true, false, false, false, false]
abbrev AddC.D40 : Array Bool := #[true, true, true, true, true, true, true, false, false]
abbrev AddC.D41 : Array Bool := #[true, true, true, true, true, true, true, false, true, false, true, false, false, false, false]
abbrev AddC.D42 : Array Bool := #[true, true, true, true, true, true, true, true, false, false, false, false, false, false, false, false, false, false]
abbrev AddC.D43 : Array Bool := #[true, true, true, true, true, true, true, true, false, false, false, false]
abbrev AddC.D44 : Array Bool := #[true, true, true, true, true, true, true, true, false, false, false]
abbrev AddC.D45 : Array Bool := #[true, true, true, true, true, true, true, true, false]
abbrev AddC.D46 : Array Bool := #[true, true, true, true, true, true, true, true, true, false, false, false, false, false, false, false, false, false]
abbrev AddC.D47 : Array Bool := #[true, true, true, true, true, true, true, true, true, false, false, false]
abbrev AddC.D48 : Array Bool := #[true, true, true, true, true, true, true, true, true, false, false]
abbrev AddC.D49 : Array Bool := #[true, true, true, true, true, true, true, true, true, false, true, false, false, false, false]
abbrev AddC.D50 : Array Bool := #[true, true, true, true, true, true, true, true, true, true, false, false, false, false, false, false, false, false]
abbrev AddC.D51 : Array Bool := #[true, true, true, true, true, true, true, true, true, true, false, false]
abbrev AddC.D52 : Array Bool := #[true, true, true, true, true, true, true, true, true, true, false]
abbrev AddC.D53 : Array Bool := #[true, true, true, true, true, true, true, true, true, true, true, false, false, false, false, false, false, false]
abbrev AddC.D54 : Array Bool := #[true, true, true, true, true, true, true, true, true, true, true, false, false, false, false]
abbrev AddC.D55 : Array Bool := #[true, true, true, true, true, true, true, true, true, true, true, false]
abbrev AddC.D56 : Array Bool := #[true, true, true, true, true, true, true, true, true, true, true, true, false, false, false, false, false, false]
abbrev AddC.D57 : Array Bool := #[true, true, true, true, true, true, true, true, true, true, true, true, false, false, false]
abbrev AddC.D58 : Array Bool := #[true, true, true, true, true, true, true, true, true, true, true, true, true, false, false, false, false, false]
abbrev AddC.D59 : Array Bool := #[true, true, true, true, true, true, true, true, true, true, true, true, true, false, false]
abbrev AddC.D60 : Array Bool := #[true, true, true, true, true, true, true, true, true, true, true, true, true, true, false, false, false, false]
abbrev AddC.D61 : Array Bool := #[true, true, true, true, true, true, true, true, true, true, true, true, true, true, false]
abbrev AddC.D62 : Array Bool := #[true, true, true, true, true, true, true, true, true, true, true, true, true, true, true, false, false, false]
abbrev AddC.D63 : Array Bool := #[true, true, true, true, true, true, true, true, true, true, true, true, true, true, true, true, false, false]
abbrev AddC.D64 : Array Bool := #[true, true, true, true, true, true, true, true, true, true, true, true, true, true, true, true, true, false]
abbrev AddC.D65 : Array Bool := #[true, true, true, true, true, true, true, true, true, true, true, true, true, true, true, true, true, true]
abbrev AddC.D66 : Array Bool := #[true, true, true, true, true, true, true, true, true, true, true, true, true, true, true]
abbrev AddC.D67 : Array Bool := #[true, true, true, true, true, true, true, true, true, true, true, true]
abbrev AddC.D68 : Array Bool := #[true, true, true, true, true, true, true, true, true, true, true]
abbrev AddC.D69 : Array Bool := #[true, true, true, true, true, true, true, true, true]
abbrev AddC.DE9_000000000 : Array Bool := #[false, false, false, false, false, false, false, false, false]
abbrev AddC.DE9_100000000 : Array Bool := #[true, false, false, false, false, false, false, false, false]
abbrev AddC.DE9_110000000 : Array Bool := #[true, true, false, false, false, false, false, false, false]
abbrev AddC.DE9_111000000 : Array Bool := #[true, true, true, false, false, false, false, false, false]
abbrev AddC.DE9_111010000 : Array Bool := #[true, true, true, false, true, false, false, false, false]
abbrev AddC.DE9_111010100 : Array Bool := #[true, true, true, false, true, false, true, false, false]
abbrev AddC.DE9_111110100 : Array Bool := #[true, true, true, true, true, false, true, false, false]
abbrev AddC.DE9_111111100 : Array Bool := #[true, true, true, true, true, true, true, false, false]
abbrev AddC.DE9_111111110 : Array Bool := #[true, true, true, true, true, true, true, true, false]
abbrev AddC.DE9_111111111 : Array Bool := #[true, true, true, true, true, true, true, true, true]
abbrev AddC.DE11_00000000000 : Array Bool := #[false, false, false, false, false, false, false, false, false, false, false]
abbrev AddC.DE11_10000000000 : Array Bool := #[true, false, false, false, false, false, false, false, false, false, false]
abbrev AddC.DE11_11000000000 : Array Bool := #[true, true, false, false, false, false, false, false, false, false, false]
abbrev AddC.DE11_11100000000 : Array Bool := #[true, true, true, false, false, false, false, false, false, false, false]
abbrev AddC.DE11_11101000000 : Array Bool := #[true, true, true, false, true, false, false, false, false, false, false]
abbrev AddC.DE11_11111000000 : Array Bool := #[true, true, true, true, true, false, false, false, false, false, false]
abbrev AddC.DE11_11111100000 : Array Bool := #[true, true, true, true, true, true, false, false, false, false, false]
abbrev AddC.DE11_11111110000 : Array Bool := #[true, true, true, true, true, true, true, false, false, false, false]
abbrev AddC.DE11_11111111000 : Array Bool := #[true, true, true, true, true, true, true, true, false, false, false]
abbrev AddC.DE11_11111111100 : Array Bool := #[true, true, true, true, true, true, true, true, true, false, false]
abbrev AddC.DE11_11111111110 : Array Bool := #[true, true, true, true, true, true, true, true, true, true, false]
abbrev AddC.DE11_11111111111 : Array Bool := #[true, true, true, true, true, true, true, true, true, true, true]
set_option maxHeartbeats 8000000 in
set_option maxRecDepth 100000 in
theorem Add_calls (k : Nat) (gC bC : Nat) (a1_0 a1_1 : ByteArray) (r : Int) (hr0 : r = 0) (w : World) (hg : CatE w gC bC) (hid : a1_0.size ≤ 9223372036854775807) (htx : a1_1.size ≤ 9223372036854775807) (h : near_Catalog_Add.f k 0 a1_0 a1_1 = some r) :
  Calls Tryz.prog 8 #[.pointer (some ⟨gC, 0, none⟩), .agg #[.string a1_0, .string a1_1]] w fun e w' => e = .returned (.int .i64 0) ∧ ∃ n : Int, AddK gC bC w w' ∧ CatAt w' gC bC 1 ((DataW.map []).put (.string a1_0.data.toList) (.lit (.string a1_1.data.toList))) n := by
 have HR0 := Aside0.mk hr0
 have BKg := Aside0.mk hg.1
 have BKb := Aside0.mk hg.2.1
 have HID := Aside0.mk hid
 have HTX := Aside0.mk htx
 have HGB : Aside0 (gC ≠ bC ∧ ∀ x, w.heap.size ≤ x → x ≠ bC) := ⟨hg.2.2, fun x hx e => by have := blk_lt hg.2.1; omega⟩
 clear hr0 hg hid htx
 have hu40 := Tryz.underlying40
 have HB := Aside0.mk (Below.refl w.heap.size w)
 have H : (if 0 = 300 then (near_Catalog_Add.j0 k false true a1_0 a1_1) else (near_Catalog_Add.j0 k false (decide ((wrap64 (0 + (a1_1.size : Int))) > 500000)) a1_0 a1_1)) = some r := h
 clear h
 have HC3 := Aside0.mk H
 clear H
 go_enter Tryz.func8, Tryz.ntmps8
 try go_wp2_with (first | ((with_reducible refine gate_dst (N := 3) rfl ?_); (try (refine gate_guard (by rfl) ?_; dsimp only)); refine box_event ?hg (N := 3) ?hd (cs := #[.string a1_0, .string a1_1]) (t := 40) ?hr ?_; (case hd => rfl); (case hg => rfl); (case hr => first | (go_simp; done) | (go_simp; rfl)); intro gb342 hg w4 hbox hb; have n0_ := Aside0.mk (below_step (by repeat (first | (with_reducible first | exact HB.out | apply below_alloc | apply pw_below_drewN | apply below_drew1) | exact HB.out)) hb); have n1_ := Aside0.mk (hbox); have n2_ := Aside0.mk ((by rw [hg]; exact (below_size (by repeat (first | (with_reducible first | exact HB.out | apply below_alloc | apply pw_below_drewN | apply below_drew1) | exact HB.out))) : w.heap.size ≤ gb342)); have n3_ := Aside0.mk ((by rw [hg]; exact (below_size (by repeat (first | (with_reducible first | exact HB.out | apply below_alloc | apply pw_below_drewN | apply below_drew1) | exact HB.out))) : w.heap.size ≤ gb342)); replace BKg := Aside0.mk (blk_below BKg.out hb); replace BKb := Aside0.mk (blk_below BKb.out hb); clear HB; have HB := n0_; have BK342 := n1_; have GW342 := n2_; have GE342 := n3_; clear n0_ n1_ n2_ n3_; clear hb hbox hg))
 have n0_ := Aside0.mk (blk_drew BK342.out)
 replace BKg := Aside0.mk (blk_drew BKg.out)
 replace BKb := Aside0.mk (blk_drew BKb.out)
 have n1_ := Aside0.mk (below_drew1 HB.out)
 clear BK342
 clear HB
 have BK342 := n0_
 have HB := n1_
 clear n0_ n1_
 refine start_ (n := 12) (S := fun w' => w'.cell? ⟨gb342, 0, none⟩ = some (.string a1_0) ∧ w'.cell? ⟨gb342, 1, none⟩ = some (.string a1_1) ∧ w'.cell? ⟨gC, 1, none⟩ = some (.int .i64 0) ∧ w'.cell? ⟨gC, 2, none⟩ = some (.map (some bC)) ∧ w'.heap[bC]? = some (.map #[] 0)) (ds := []) AddC.D2 (by kernel_rfl) rfl rfl ⟨(blk_cell BK342.out 0).trans rfl, (blk_cell BK342.out 1).trans rfl, (blk_cell BKg.out 1).trans rfl, (blk_cell BKg.out 2).trans rfl, BKb.out⟩ (fun hHeld => ?_); refine with_tabW AddC.tab1 AddC.bits1 (fun HT_ HW_ => ?_)
 generalize w4.drew = w5 at BK342 BKg BKb HB hHeld ⊢
 refine pu_ (i := 0) (N := some 10) (v := ?_) (a' := ?_) AddC.D7 (any_of HT_.out (by kernel_rfl)) ?_ ?_ ?_; rotate_left 2
 ·intro w'; go_simp; with_reducible rfl
 ·simp only [Act.put, s_t, s_z, s_s, i64_w, i32_w]; rfl
 refine pu_ (i := 1) (N := some 11) (v := ?_) (a' := ?_) AddC.D14 (any_of HT_.out (by kernel_rfl)) ?_ ?_ ?_; rotate_left 2
 ·intro w'; go_simp; with_reducible rfl
 ·simp only [Act.put, s_t, s_z, s_s, i64_w, i32_w]; rfl
 refine pu_ (i := 2) (N := some 12) (v := ?_) (a' := ?_) AddC.D20 (any_of HT_.out (by kernel_rfl)) ?_ ?_ ?_; rotate_left 2
 ·intro w'; go_simp; with_reducible rfl
 ·simp only [Act.put, s_t, s_z, s_s, i64_w, i32_w]; rfl
 refine take_ (i := 3) (N := some 13) (v := ?_) (a' := ?_) AddC.D25 rfl rfl (take_ofW HT_.out HW_.out (by kernel_rfl)) (fun _ _ _ h => h) (Or.inl ⟨by rfl, ?_⟩) hHeld ?_ ?_
 rotate_left
 ·rintro w' ⟨s0, s1, s2, s3, s4⟩
  go_simp
  with_reducible rfl
 rotate_left
 ·simp only [Act.put, List.setIfInBounds_toArray, List.set_cons_zero, List.set_cons_succ, i64_w, i32_w]
  rfl
 refine pu_ (i := 4) (N := some 14) (v := ?_) (a' := ?_) AddC.D30 (any_of HT_.out (by kernel_rfl)) ?_ ?_ ?_; rotate_left 2
 ·intro w'; go_simp; with_reducible rfl
 ·simp only [Act.put, s_t, s_z, s_s, i64_w, i32_w]; rfl
 refine take_ (i := 5) (N := some 15) (v := ?_) (a' := ?_) AddC.D35 rfl rfl (take_ofW HT_.out HW_.out (by kernel_rfl)) (fun _ _ _ h => h) (Or.inl ⟨by rfl, ?_⟩) hHeld ?_ ?_
 rotate_left
 ·rintro w' ⟨s0, s1, s2, s3, s4⟩
  go_simp
  with_reducible rfl
 rotate_left
 ·simp only [Act.put, List.setIfInBounds_toArray, List.set_cons_zero, List.set_cons_succ, i64_w, i32_w]
  rfl
 refine take_ (i := 6) (N := some 16) (v := ?_) (a' := ?_) AddC.D38 rfl rfl (take_ofW HT_.out HW_.out (by kernel_rfl)) (fun _ _ _ h => h) (Or.inl ⟨by rfl, ?_⟩) hHeld ?_ ?_
 rotate_left
 ·rintro w' ⟨s0, s1, s2, s3, s4⟩
  have hlk := look_empty s4 a1_0 HID.out
  go_simp
  with_reducible rfl
 rotate_left
 ·simp only [Act.put, List.setIfInBounds_toArray, List.set_cons_zero, List.set_cons_succ, i64_w, i32_w]
  rfl
 refine pu_ (i := 7) (N := some 9) (v := ?_) (a' := ?_) AddC.D43 (any_of HT_.out (by kernel_rfl)) ?_ ?_ ?_; rotate_left 2
 ·intro w'; go_simp; with_reducible rfl
 ·simp only [Act.put, s_t, s_z, s_s, i64_w, i32_w]; rfl
 refine pu_ (i := 8) (N := some 17) (v := ?_) (a' := ?_) AddC.D47 (any_of HT_.out (by kernel_rfl)) ?_ ?_ ?_; rotate_left 2
 ·intro w'; go_simp; with_reducible rfl
 ·simp only [Act.put, s_t, s_z, s_s, i64_w, i32_w]; rfl
 refine pu_ (i := 9) (N := some 18) (v := ?_) (a' := ?_) AddC.D51 (any_of HT_.out (by kernel_rfl)) ?_ ?_ ?_; rotate_left 2
 ·intro w'; go_simp; with_reducible rfl
 ·simp only [Act.put, s_t, s_z, s_s, i64_w, i32_w]; rfl
 refine pu_ (i := 10) (N := some 5) (v := ?_) (a' := ?_) AddC.D55 (any_of HT_.out (by kernel_rfl)) ?_ ?_ ?_; rotate_left 2
 ·intro w'; go_simp; with_reducible rfl
 ·simp only [Act.put, s_t, s_z, s_s, i64_w, i32_w]; rfl
 refine pu_ (i := 11) (N := some 6) (v := ?_) (a' := ?_) AddC.D67 (any_of HT_.out (by kernel_rfl)) ?_ ?_ ?_; rotate_left 2
 ·intro w'; go_simp; with_reducible rfl
 ·simp only [Act.put, s_t, s_z, s_s, i64_w, i32_w]; rfl
 refine done_ (done_of HT_.out (by kernel_rfl)) ?_
 go_upto_region 2 with (fail)
 go_cut [7] (fun v7 wc => ∃ (kq : Nat) (x7_2 : Bool), v7 = .bool x7_2 ∧ Aside0 (near_Catalog_Add.j0 kq false x7_2 a1_0 a1_1 = some r) ∧ Aside0 (kq ≤ k) ∧ Aside0 (wc.heap[gb342]? = some (.cells #[.string a1_0, .string a1_1] 40 (0, 0))) ∧ Aside0 (wc.heap[gC]? = some (.cells #[.int .i64 2, .int .i64 0, .map (some bC)] 60 (0, 0))) ∧ Aside0 (wc.heap[bC]? = some (.map #[] 0)) ∧ Aside0 (Below w.heap.size w wc))
 case first =>
  have H := HC3.out
  clear HC3
  have c6 : ¬ (0 = 300) := by decide
  rw [if_neg c6] at H
  have c6b0 : (0 == 300) = false := beq_eq_false_iff_ne.mpr c6
  have c6b1 : (0 != 300) = true := bne_iff_ne.mpr c6
  (first | rw [c6b0] | (simp only [i64_w, i32_w]; rw [c6b0]) | skip)
  have H' := Aside0.mk H
  clear H
  try go_wp2
  have n0_ := Aside0.mk (blk_drew BK342.out)
  replace BKg := Aside0.mk (blk_drew BKg.out)
  replace BKb := Aside0.mk (blk_drew BKb.out)
  have n1_ := Aside0.mk (below_drew1 HB.out)
  clear BK342
  clear HB
  have BK342 := n0_
  have HB := n1_
  clear n0_ n1_
  refine start_ (n := 18) (S := fun w' => w'.cell? ⟨gb342, 0, none⟩ = some (.string a1_0) ∧ w'.cell? ⟨gb342, 1, none⟩ = some (.string a1_1) ∧ w'.cell? ⟨gC, 1, none⟩ = some (.int .i64 0) ∧ w'.cell? ⟨gC, 2, none⟩ = some (.map (some bC)) ∧ w'.heap[bC]? = some (.map #[] 0)) (ds := []) AddC.D0 (by kernel_rfl) rfl rfl ⟨(blk_cell BK342.out 0).trans rfl, (blk_cell BK342.out 1).trans rfl, (blk_cell BKg.out 1).trans rfl, (blk_cell BKg.out 2).trans rfl, BKb.out⟩ (fun hHeld => ?_); refine with_tabW AddC.tab2 AddC.bits2 (fun HT_ HW_ => ?_)
  generalize w5.drew = w8 at BK342 BKg BKb HB hHeld ⊢
  refine pu_ (i := 0) (N := some 19) (v := ?_) (a' := ?_) AddC.D5 (any_of HT_.out (by kernel_rfl)) ?_ ?_ ?_; rotate_left 2
  ·intro w'; go_simp; with_reducible rfl
  ·simp only [Act.put, s_t, s_z, s_s, i64_w, i32_w]; rfl
  refine pu_ (i := 1) (N := some 20) (v := ?_) (a' := ?_) AddC.D13 (any_of HT_.out (by kernel_rfl)) ?_ ?_ ?_; rotate_left 2
  ·intro w'; go_simp; with_reducible rfl
  ·simp only [Act.put, s_t, s_z, s_s, i64_w, i32_w]; rfl
  refine pu_ (i := 2) (N := some 21) (v := ?_) (a' := ?_) AddC.D19 (any_of HT_.out (by kernel_rfl)) ?_ ?_ ?_; rotate_left 2
  ·intro w'; go_simp; with_reducible rfl
  ·simp only [Act.put, s_t, s_z, s_s, i64_w, i32_w]; rfl
  refine take_ (i := 3) (N := some 22) (v := ?_) (a' := ?_) AddC.D24 rfl rfl (take_ofW HT_.out HW_.out (by kernel_rfl)) (fun _ _ _ h => h) (Or.inl ⟨by rfl, ?_⟩) hHeld ?_ ?_
  rotate_left
  ·rintro w' ⟨s0, s1, s2, s3, s4⟩
   go_simp
   with_reducible rfl
  rotate_left
  ·simp only [Act.put, List.setIfInBounds_toArray, List.set_cons_zero, List.set_cons_succ, i64_w, i32_w]
   rfl
  refine take_ (i := 4) (N := some 23) (v := ?_) (a' := ?_) AddC.D29 rfl rfl (take_ofW HT_.out HW_.out (by kernel_rfl)) (fun _ _ _ h => h) (Or.inl ⟨by rfl, ?_⟩) hHeld ?_ ?_
  rotate_left
  ·rintro w' ⟨s0, s1, s2, s3, s4⟩
   have hlk := len_empty s4
   go_simp
   with_reducible rfl
  rotate_left
  ·simp only [Act.put, List.setIfInBounds_toArray, List.set_cons_zero, List.set_cons_succ, i64_w, i32_w]
   rfl
  refine pu_ (i := 5) (N := some 24) (v := ?_) (a' := ?_) AddC.D34 (any_of HT_.out (by kernel_rfl)) ?_ ?_ ?_; rotate_left 2
  ·intro w'; go_simp; with_reducible rfl
  ·simp only [Act.put, s_t, s_z, s_s, i64_w, i32_w]; rfl
  refine pu_ (i := 6) (N := some 25) (v := ?_) (a' := ?_) AddC.D37 (any_of HT_.out (by kernel_rfl)) ?_ ?_ ?_; rotate_left 2
  ·intro w'; go_simp; with_reducible rfl
  ·simp only [Act.put, s_t, s_z, s_s, i64_w, i32_w]; rfl
  refine pu_ (i := 7) (N := some 26) (v := ?_) (a' := ?_) AddC.D42 (any_of HT_.out (by kernel_rfl)) ?_ ?_ ?_; rotate_left 2
  ·intro w'; go_simp; with_reducible rfl
  ·simp only [Act.put, s_t, s_z, s_s, i64_w, i32_w]; rfl
  refine pu_ (i := 8) (N := some 27) (v := ?_) (a' := ?_) AddC.D46 (any_of HT_.out (by kernel_rfl)) ?_ ?_ ?_; rotate_left 2
  ·intro w'; go_simp; with_reducible rfl
  ·simp only [Act.put, s_t, s_z, s_s, i64_w, i32_w]; rfl
  refine pu_ (i := 9) (N := some 28) (v := ?_) (a' := ?_) AddC.D50 (any_of HT_.out (by kernel_rfl)) ?_ ?_ ?_; rotate_left 2
  ·intro w'; go_simp; with_reducible rfl
  ·simp only [Act.put, s_t, s_z, s_s, i64_w, i32_w]; rfl
  refine take_ (i := 10) (N := some 29) (v := ?_) (a' := ?_) AddC.D53 rfl rfl (take_ofW HT_.out HW_.out (by kernel_rfl)) (fun _ _ _ h => h) (Or.inl ⟨by rfl, ?_⟩) hHeld ?_ ?_
  rotate_left
  ·rintro w' ⟨s0, s1, s2, s3, s4⟩
   go_simp
   with_reducible rfl
  rotate_left
  ·simp only [Act.put, List.setIfInBounds_toArray, List.set_cons_zero, List.set_cons_succ, i64_w, i32_w]
   rfl
  refine pu_ (i := 11) (N := some 30) (v := ?_) (a' := ?_) AddC.D56 (any_of HT_.out (by kernel_rfl)) ?_ ?_ ?_; rotate_left 2
  ·intro w'; go_simp; with_reducible rfl
  ·simp only [Act.put, s_t, s_z, s_s, i64_w, i32_w]; rfl
  refine take_ (i := 12) (N := some 31) (v := ?_) (a' := ?_) AddC.D58 rfl rfl (take_ofW HT_.out HW_.out (by kernel_rfl)) (fun _ _ _ h => h) (Or.inl ⟨by rfl, ?_⟩) hHeld ?_ ?_
  rotate_left
  ·rintro w' ⟨s0, s1, s2, s3, s4⟩
   go_simp
   with_reducible rfl
  rotate_left
  ·simp only [Act.put, List.setIfInBounds_toArray, List.set_cons_zero, List.set_cons_succ, i64_w, i32_w]
   rfl
  refine pu_ (i := 13) (N := some 32) (v := ?_) (a' := ?_) AddC.D60 (any_of HT_.out (by kernel_rfl)) ?_ ?_ ?_; rotate_left 2
  ·intro w'; go_simp; with_reducible rfl
  ·simp only [Act.put, s_t, s_z, s_s, i64_w, i32_w]; rfl
  refine pu_ (i := 14) (N := some 33) (v := ?_) (a' := ?_) AddC.D62 (any_of HT_.out (by kernel_rfl)) ?_ ?_ ?_; rotate_left 2
  ·intro w'; go_simp; with_reducible rfl
  ·simp only [Act.put, s_t, s_z, s_s, i64_w, i32_w]; rfl
  refine pu_ (i := 15) (N := some 34) (v := ?_) (a' := ?_) AddC.D63 (any_of HT_.out (by kernel_rfl)) ?_ ?_ ?_; rotate_left 2
  ·intro w'; go_simp; with_reducible rfl
  ·simp only [Act.put, s_t, s_z, s_s, i64_w, i32_w]; rfl
  refine pu_ (i := 16) (N := some 35) (v := ?_) (a' := ?_) AddC.D64 (any_of HT_.out (by kernel_rfl)) ?_ ?_ ?_; rotate_left 2
  ·intro w'; go_simp; with_reducible rfl
  ·simp only [Act.put, s_t, s_z, s_s, i64_w, i32_w]; rfl
  refine pu_ (i := 17) (N := some 7) (v := ?_) (a' := ?_) AddC.D65 (any_of HT_.out (by kernel_rfl)) ?_ ?_ ?_; rotate_left 2
  ·intro w'; go_simp; with_reducible rfl
  ·simp only [Act.put, s_t, s_z, s_s, i64_w, i32_w]; rfl
  refine done_ (done_of HT_.out (by kernel_rfl)) ?_
  try go_wp2
  go_meet
  case rel => exact ⟨_, (decide ((wrap64 (0 + (a1_1.size : Int))) > 500000)), (by first | rfl | (simp; done) | (simp [*]; done)), H', ⟨by first | omega | exact Nat.le_refl _⟩, ⟨by (with_reducible repeat (first | refine blk_drewN ?_ _ | refine blk_drew ?_ | refine blk_alloc ?_ _)); exact BK342.out⟩, ⟨by (with_reducible repeat (first | refine blk_drewN ?_ _ | refine blk_drew ?_ | refine blk_alloc ?_ _)); exact BKg.out⟩, ⟨by (with_reducible repeat (first | refine blk_drewN ?_ _ | refine blk_drew ?_ | refine blk_alloc ?_ _)); exact BKb.out⟩, ⟨by repeat (first | (with_reducible first | exact HB.out | apply below_alloc | apply pw_below_drewN | apply below_drew1 | refine below_set ?_ GE342.out) | exact HB.out)⟩⟩
 case rest =>
  clear HC3
  try clear p2
  try clear c6
  try clear c6b0
  try clear c6b1
  try clear p6
  try clear c8
  obtain ⟨kq, x7_2, rfl, HA, HJ2, BK342, BKg, BKb, HB⟩ := hcut
  cases kq with
  | zero => exact absurd HA.out (by simp [near_Catalog_Add.j0])
  | succ kj2 =>
   have H := HA.out
   clear HA
   simp only [near_Catalog_Add.j0] at H
   replace H := Option.bind_eq_some_iff.mp H
   obtain ⟨t343, A90, H⟩ := H
   replace H : ((base_When.f (!t343) 5).bind fun t344 => ((near_large.f a1_1).bind fun t345 => ((base_When.f false 6).bind fun t346 => ((base_When.f x7_2 12).bind fun t347 => ((base_First.f kj2 (([t344, t345, t346, t347] : List Int))).bind fun t351 => (if t351 = 0 then (some 0) else (some t351))))))) = some r := H
   have A9 := Aside0.mk A90
   clear A90
   replace H := Option.bind_eq_some_iff.mp H
   obtain ⟨t344, A100, H⟩ := H
   replace H : ((near_large.f a1_1).bind fun t345 => ((base_When.f false 6).bind fun t346 => ((base_When.f x7_2 12).bind fun t347 => ((base_First.f kj2 (([t344, t345, t346, t347] : List Int))).bind fun t351 => (if t351 = 0 then (some 0) else (some t351)))))) = some r := H
   have A10 := Aside0.mk A100
   clear A100
   replace H := Option.bind_eq_some_iff.mp H
   obtain ⟨t345, A110, H⟩ := H
   replace H : ((base_When.f false 6).bind fun t346 => ((base_When.f x7_2 12).bind fun t347 => ((base_First.f kj2 (([t344, t345, t346, t347] : List Int))).bind fun t351 => (if t351 = 0 then (some 0) else (some t351))))) = some r := H
   have A11 := Aside0.mk A110
   clear A110
   replace H := Option.bind_eq_some_iff.mp H
   obtain ⟨t346, A120, H⟩ := H
   replace H : ((base_When.f x7_2 12).bind fun t347 => ((base_First.f kj2 (([t344, t345, t346, t347] : List Int))).bind fun t351 => (if t351 = 0 then (some 0) else (some t351)))) = some r := H
   have A12 := Aside0.mk A120
   clear A120
   replace H := Option.bind_eq_some_iff.mp H
   obtain ⟨t347, A130, H⟩ := H
   replace H : ((base_First.f kj2 (([t344, t345, t346, t347] : List Int))).bind fun t351 => (if t351 = 0 then (some 0) else (some t351))) = some r := H
   have A13 := Aside0.mk A130
   clear A130
   obtain ⟨y348, hy348⟩ : ∃ y_ : List Int, y_ = (([t344, t345, t346, t347] : List Int)) := ⟨_, rfl⟩
   replace H : ((base_First.f kj2 y348).bind fun t351 => (if t351 = 0 then (some 0) else (some t351))) = some r := by first | (rw [hy348]; with_reducible exact H) | (have H2_ := (Option.bind_some _ _).symm.trans H; rw [hy348]; with_reducible exact H2_) | (have H2_ := (Option.bind_some _ _).symm.trans H; with_reducible exact H2_) | with_reducible exact H | (rw [hy348]; exact H) | exact H
   have Ny348 := Aside0.mk hy348
   clear hy348
   replace H := Option.bind_eq_some_iff.mp H
   obtain ⟨t351, A140, H⟩ := H
   replace H : (if t351 = 0 then (some 0) else (some t351)) = some r := H
   have A14 := Aside0.mk A140
   clear A140
   by_cases c15 : t351 = 0
   rotate_left
   ·rw [if_neg c15] at H
    exact absurd ((Option.some.inj H).trans HR0.out) c15
   rw [if_pos c15] at H
   have c15b0 : (t351 == 0) = true := beq_iff_eq.mpr c15
   have c15b1 : (t351 != 0) = false := bne_eq_false_iff_eq.mpr c15
   clear c15
   obtain rfl := Option.some.inj H
   try go_wp2
   have n0_ := Aside0.mk (blk_drew BK342.out)
   replace BKg := Aside0.mk (blk_drew BKg.out)
   replace BKb := Aside0.mk (blk_drew BKb.out)
   have n1_ := Aside0.mk (below_drew1 HB.out)
   clear BK342
   clear HB
   have BK342 := n0_
   have HB := n1_
   clear n0_ n1_
   refine start_ (n := 15) (S := fun w' => w'.cell? ⟨gb342, 0, none⟩ = some (.string a1_0) ∧ w'.cell? ⟨gb342, 1, none⟩ = some (.string a1_1)) (ds := []) AddC.D1 (by kernel_rfl) rfl rfl ⟨(blk_cell BK342.out 0).trans rfl, (blk_cell BK342.out 1).trans rfl⟩ (fun hHeld => ?_); refine with_tabW AddC.tab3 AddC.bits3 (fun HT_ HW_ => ?_)
   generalize wc.drew = w16 at BK342 BKg BKb HB hHeld ⊢
   refine pu_ (i := 0) (N := some 36) (v := ?_) (a' := ?_) AddC.D6 (any_of HT_.out (by kernel_rfl)) ?_ ?_ ?_; rotate_left 2
   ·intro w'; go_simp; with_reducible rfl
   ·simp only [Act.put, s_t, s_z, s_s, i64_w, i32_w]; rfl
   refine pu_ (i := 5) (N := some 41) (v := ?_) (a' := ?_) AddC.D10 (any_of HT_.out (by kernel_rfl)) ?_ ?_ ?_; rotate_left 2
   ·intro w'; go_simp; with_reducible rfl
   ·simp only [Act.put, s_t, s_z, s_s, i64_w, i32_w]; rfl
   refine pu_ (i := 8) (N := some 44) (v := ?_) (a' := ?_) AddC.D11 (any_of HT_.out (by kernel_rfl)) ?_ ?_ ?_; rotate_left 2
   ·intro w'; go_simp; with_reducible rfl
   ·simp only [Act.put, s_t, s_z, s_s, i64_w, i32_w]; rfl
   refine pu_ (i := 10) (N := some 46) (v := ?_) (a' := ?_) AddC.D12 (any_of HT_.out (by kernel_rfl)) ?_ ?_ ?_; rotate_left 2
   ·intro w'; go_simp; with_reducible rfl
   ·simp only [Act.put, s_t, s_z, s_s, i64_w, i32_w]; rfl
   refine take_ (i := 1) (N := some 37) (v := ?_) (a' := ?_) AddC.D17 rfl rfl (take_ofW HT_.out HW_.out (by kernel_rfl)) (fun _ _ _ h => h) (Or.inl ⟨by rfl, ?_⟩) hHeld ?_ ?_
   rotate_left
   ·rintro w' ⟨s0, s1⟩
    go_simp
    with_reducible rfl
   rotate_left
   ·simp only [Act.put, List.setIfInBounds_toArray, List.set_cons_zero, List.set_cons_succ, i64_w, i32_w]
    rfl
   refine take_ (i := 6) (N := some 42) (v := ?_) (a' := ?_) AddC.D18 rfl rfl (take_ofW HT_.out HW_.out (by kernel_rfl)) (fun _ _ _ h => h) (Or.inl ⟨by rfl, ?_⟩) hHeld ?_ ?_
   rotate_left
   ·rintro w' ⟨s0, s1⟩
    go_simp
    with_reducible rfl
   rotate_left
   ·simp only [Act.put, List.setIfInBounds_toArray, List.set_cons_zero, List.set_cons_succ, i64_w, i32_w]
    rfl
   refine one_ (i := 2) (N := some 38) AddC.D23 rfl rfl (one_of HT_.out (by kernel_rfl)) (by decide) (fun K hK => ?_)
   refine goes_ Tryz.func25 (by kernel_rfl) rfl #[.string a1_0] (by rfl) rfl rfl (by (try simp only [List.map_toArray, List.map_cons, List.map_nil]); first | done | rfl | (simp only [List.length_drop, List.length_take]; rfl)) ?_
   with_reducible refine (base_Key.calls kj2 a1_0 t343 _ A9.out).mono ?_
   rintro e w' ⟨rfl, ⟨nd, rfl⟩⟩
   refine ⟨_, rfl, ?_⟩
   refine hK.out _ _ ⟨(blk_cell BK342.out 0).trans rfl, (blk_cell BK342.out 1).trans rfl⟩ (fun hHeld => ?_)
   clear hK K
   refine norm_ (a' := ?_) ?_ ?_
   rotate_left
   ·show Act.put _ (some 38) _ = _
    simp only [Act.put, List.setIfInBounds_toArray, List.set_cons_zero, List.set_cons_succ, i64_w, i32_w]
    rfl
   refine pu_ (i := 3) (N := some 39) (v := ?_) (a' := ?_) AddC.D28 (any_of HT_.out (by kernel_rfl)) ?_ ?_ ?_; rotate_left 2
   ·intro w'; go_simp; with_reducible rfl
   ·simp only [Act.put, s_t, s_z, s_s, i64_w, i32_w]; rfl
   refine one_ (i := 4) (N := some 40) AddC.D41 rfl rfl (one_of HT_.out (by kernel_rfl)) (by decide) (fun K hK => ?_)
   refine goes_ Tryz.func24 (by kernel_rfl) rfl #[.bool (!t343), .int .i64 5] (by rfl) rfl rfl (by (try simp only [List.map_toArray, List.map_cons, List.map_nil]); first | done | rfl | (simp only [List.length_drop, List.length_take]; rfl)) ?_
   with_reducible refine (base_When.calls (!t343) 5 t344 _ A10.out).mono ?_
   rintro e w' ⟨rfl, ⟨nd, rfl⟩⟩
   refine ⟨_, rfl, ?_⟩
   refine hK.out _ _ ⟨(blk_cell BK342.out 0).trans rfl, (blk_cell BK342.out 1).trans rfl⟩ (fun hHeld => ?_)
   clear hK K
   refine norm_ (a' := ?_) ?_ ?_
   rotate_left
   ·show Act.put _ (some 40) _ = _
    simp only [Act.put, List.setIfInBounds_toArray, List.set_cons_zero, List.set_cons_succ, i64_w, i32_w]
    rfl
   refine one_ (i := 7) (N := some 43) AddC.D49 rfl rfl (one_of HT_.out (by kernel_rfl)) (by decide) (fun K hK => ?_)
   refine goes_ Tryz.func26 (by kernel_rfl) rfl #[.string a1_1] (by rfl) rfl rfl (by (try simp only [List.map_toArray, List.map_cons, List.map_nil]); first | done | rfl | (simp only [List.length_drop, List.length_take]; rfl)) ?_
   with_reducible refine (near_large.calls a1_1 t345 _ A11.out).mono ?_
   rintro e w' ⟨rfl, ⟨nd, rfl⟩⟩
   refine ⟨_, rfl, ?_⟩
   refine hK.out _ _ ⟨(blk_cell BK342.out 0).trans rfl, (blk_cell BK342.out 1).trans rfl⟩ (fun hHeld => ?_)
   clear hK K
   refine norm_ (a' := ?_) ?_ ?_
   rotate_left
   ·show Act.put _ (some 43) _ = _
    simp only [Act.put, List.setIfInBounds_toArray, List.set_cons_zero, List.set_cons_succ, i64_w, i32_w]
    rfl
   refine one_ (i := 9) (N := some 45) AddC.D54 rfl rfl (one_of HT_.out (by kernel_rfl)) (by decide) (fun K hK => ?_)
   refine goes_ Tryz.func24 (by kernel_rfl) rfl #[.bool false, .int .i64 6] (by rfl) rfl rfl (by (try simp only [List.map_toArray, List.map_cons, List.map_nil]); first | done | rfl | (simp only [List.length_drop, List.length_take]; rfl)) ?_
   with_reducible refine (base_When.calls false 6 t346 _ A12.out).mono ?_
   rintro e w' ⟨rfl, ⟨nd, rfl⟩⟩
   refine ⟨_, rfl, ?_⟩
   refine hK.out _ _ ⟨(blk_cell BK342.out 0).trans rfl, (blk_cell BK342.out 1).trans rfl⟩ (fun hHeld => ?_)
   clear hK K
   refine norm_ (a' := ?_) ?_ ?_
   rotate_left
   ·show Act.put _ (some 45) _ = _
    simp only [Act.put, List.setIfInBounds_toArray, List.set_cons_zero, List.set_cons_succ, i64_w, i32_w]
    rfl
   refine one_ (i := 11) (N := some 47) AddC.D57 rfl rfl (one_of HT_.out (by kernel_rfl)) (by decide) (fun K hK => ?_)
   refine goes_ Tryz.func24 (by kernel_rfl) rfl #[.bool x7_2, .int .i64 12] (by rfl) rfl rfl (by (try simp only [List.map_toArray, List.map_cons, List.map_nil]); first | done | rfl | (simp only [List.length_drop, List.length_take]; rfl)) ?_
   with_reducible refine (base_When.calls x7_2 12 t347 _ A13.out).mono ?_
   rintro e w' ⟨rfl, ⟨nd, rfl⟩⟩
   refine ⟨_, rfl, ?_⟩
   refine hK.out _ _ ⟨(blk_cell BK342.out 0).trans rfl, (blk_cell BK342.out 1).trans rfl⟩ (fun hHeld => ?_)
   clear hK K
   refine norm_ (a' := ?_) ?_ ?_
   rotate_left
   ·show Act.put _ (some 47) _ = _
    simp only [Act.put, List.setIfInBounds_toArray, List.set_cons_zero, List.set_cons_succ, i64_w, i32_w]
    rfl
   refine one_ (i := 12) (N := some 48) AddC.D59 rfl rfl (one_of HT_.out (by kernel_rfl)) (by decide) (fun K hK => ?_)
   refine Kd.R_lit_step (Kd.int .i64) _ 29 ?hg (N := 48) ?hd (xs := ([t344, t345, t346, t347] : List Int)) (inner := [.int .i64 t344, .int .i64 t345, .int .i64 t346, .int .i64 t347]) (ok := fun _ => True) (okp := fun _ => True) ?hr ?hp (fun _ hk => hk) trivial (Below.refl _ _) (Nat.le_refl _) (by simp) ?_; (case hd => rfl); (case hg => rfl); (case hr => first | (go_simp; done) | (go_simp; rfl)); (case hp => exact (Reps.one (show Kd.M (Kd.int .i64) _ _ _ t344 [.int .i64 t344] from rfl) (Reps.one (show Kd.M (Kd.int .i64) _ _ _ t345 [.int .i64 t345] from rfl) (Reps.one (show Kd.M (Kd.int .i64) _ _ _ t346 [.int .i64 t346] from rfl) (Reps.one (show Kd.M (Kd.int .i64) _ _ _ t347 [.int .i64 t347] from rfl) (Reps.none _ _))))))
   intro v349 w17 ho18 hb hg_ hnew_
   clear hg_ hnew_
   (first | rw [← Ny348.out] at ho18 | (simp only [Int.reduceToNat] at ho18; rw [← Ny348.out] at ho18))
   have n0_ := Aside0.mk (Kd.R_lower ho18 (below_size (by repeat (first | (with_reducible first | exact HB.out | apply below_alloc | apply pw_below_drewN | apply below_drew1 | refine below_set ?_ GE342.out) | exact HB.out))))
   have n1_ := Aside0.mk (blk_below (g := gb342) (o := .cells #[.string a1_0, .string a1_1] 40 (0, 0)) (by (with_reducible repeat (first | refine blk_drewN ?_ _ | refine blk_drew ?_ | refine blk_alloc ?_ _)); exact BK342.out) hb)
   replace BKg := Aside0.mk (blk_below (g := gC) (by (with_reducible repeat (first | refine blk_drewN ?_ _ | refine blk_drew ?_ | refine blk_alloc ?_ _)); exact BKg.out) hb)
   replace BKb := Aside0.mk (blk_below (g := bC) (by (with_reducible repeat (first | refine blk_drewN ?_ _ | refine blk_drew ?_ | refine blk_alloc ?_ _)); exact BKb.out) hb)
   have n2_ := Aside0.mk (below_step (by repeat (first | (with_reducible first | exact HB.out | apply below_alloc | apply pw_below_drewN | apply below_drew1 | refine below_set ?_ GE342.out) | exact HB.out)) hb)
   clear BK342
   clear HB
   have HO350 := n0_
   have BK342 := n1_
   have HB := n2_
   clear n0_ n1_ n2_
   clear hb ho18
   obtain ⟨Ao19, co19, eo19⟩ := Kd.R_slice HO350.out
   (first | subst eo19 | (injection eo19 with f1_ f2_ f3_; have f4_ := f1_.symm; have f5_ := f3_.symm; clear f1_ f2_ f3_; subst f4_; subst f5_))
   refine hK.out _ _ ⟨(blk_cell BK342.out 0).trans rfl, (blk_cell BK342.out 1).trans rfl⟩ (fun hHeld => ?_)
   clear hK K
   refine norm_ (a' := ?_) ?_ ?_
   rotate_left
   ·show Act.put _ (some 48) _ = _
    simp only [Act.put, List.setIfInBounds_toArray, List.set_cons_zero, List.set_cons_succ, i64_w, i32_w]
    rfl
   refine one_ (i := 13) (N := some 49) AddC.D61 rfl rfl (one_of HT_.out (by kernel_rfl)) (by decide) (fun K hK => ?_)
   refine goes_ Tryz.func23 (by kernel_rfl) rfl #[.slice Ao19 y348.length co19] (by rfl) rfl rfl (by (try simp only [List.map_toArray, List.map_cons, List.map_nil]); first | done | rfl | (simp only [List.length_drop, List.length_take]; rfl)) ?_
   with_reducible refine (base_First.calls kj2 _ _ y348 t351 _ ?side1 ?side2 A14.out).mono ?_
   (case side1 => repeat (first | exact (Kd.R_reads' HO350.out).2.2 | (with_reducible refine Kd.C_alloc ?_ _) | (with_reducible refine Kd.C_drewN ?_ _) | (with_reducible refine Kd.C_drew ?_)))
   (case side2 => exact (Kd.R_reads' HO350.out).2.1)
   rintro e w' ⟨rfl, ⟨nd, rfl⟩⟩
   refine ⟨_, rfl, ?_⟩
   refine hK.out _ _ ⟨(blk_cell BK342.out 0).trans rfl, (blk_cell BK342.out 1).trans rfl⟩ (fun hHeld => ?_)
   clear hK K
   refine norm_ (a' := ?_) ?_ ?_
   rotate_left
   ·show Act.put _ (some 49) _ = _
    simp only [Act.put, List.setIfInBounds_toArray, List.set_cons_zero, List.set_cons_succ, i64_w, i32_w]
    rfl
   refine pu_ (i := 14) (N := some 8) (v := ?_) (a' := ?_) AddC.D66 (any_of HT_.out (by kernel_rfl)) ?_ ?_ ?_; rotate_left 2
   ·intro w'; go_simp; with_reducible rfl
   ·simp only [Act.put, s_t, s_z, s_s, i64_w, i32_w]; rfl
   refine done_ (done_of HT_.out (by kernel_rfl)) ?_
   try go_wp2
   (try (rw [drewN_self w17]; generalize hq_ : World.drewN w17 _ = w17; have n0_ : Aside0 (Kd.R (Kd.int .i64) 29 w17 w.heap.size (fun _ => True) (.slice Ao19 y348.length co19) y348) := ⟨by rw [← hq_]; exact (by (with_reducible repeat (first | apply Kd.R_alloc | apply Kd.R_drewN | apply Kd.R_drew)); exact HO350.out)⟩; have n1_ : Aside0 (w17.heap[gb342]? = some (.cells #[.string a1_0, .string a1_1] 40 (0, 0))) := ⟨by rw [← hq_]; exact (by (with_reducible repeat (first | refine blk_drewN ?_ _ | refine blk_drew ?_ | refine blk_alloc ?_ _)); exact BK342.out)⟩; have n2_ : Aside0 (Below w.heap.size w w17) := ⟨by rw [← hq_]; exact (by repeat (first | (with_reducible first | exact HB.out | apply below_alloc | apply pw_below_drewN | apply below_drew1 | refine below_set ?_ GE342.out) | exact HB.out))⟩; have m1_ : Aside0 (w17.heap[gC]? = some (.cells #[.int .i64 2, .int .i64 0, .map (some bC)] 60 (0, 0))) := ⟨by rw [← hq_]; exact (by (with_reducible repeat (first | refine blk_drewN ?_ _ | refine blk_drew ?_ | refine blk_alloc ?_ _)); exact BKg.out)⟩; have m2_ : Aside0 (w17.heap[bC]? = some (.map #[] 0)) := ⟨by rw [← hq_]; exact (by (with_reducible repeat (first | refine blk_drewN ?_ _ | refine blk_drew ?_ | refine blk_alloc ?_ _)); exact BKb.out)⟩; clear HO350 BK342 BKg BKb HB hq_; have BKg := m1_; have BKb := m2_; clear m1_ m2_; have HO350 := n0_; have BK342 := n1_; have HB := n2_; clear n0_ n1_ n2_))
   have n0_ := Aside0.mk (Kd.R_drew HO350.out)
   have n1_ := Aside0.mk (blk_drew BK342.out)
   replace BKg := Aside0.mk (blk_drew BKg.out)
   replace BKb := Aside0.mk (blk_drew BKb.out)
   have n2_ := Aside0.mk (below_drew1 HB.out)
   clear HO350
   clear BK342
   clear HB
   have HO350 := n0_
   have BK342 := n1_
   have HB := n2_
   clear n0_ n1_ n2_
   refine start_ (n := 9) (S := fun w' => w'.cell? ⟨gb342, 0, none⟩ = some (.string a1_0) ∧ w'.cell? ⟨gb342, 1, none⟩ = some (.string a1_1) ∧ w'.cell? ⟨gC, 2, none⟩ = some (.map (some bC))) (ds := [8]) AddC.DE9_000000000 (by kernel_rfl) rfl rfl ⟨(blk_cell BK342.out 0).trans rfl, (blk_cell BK342.out 1).trans rfl, (blk_cell BKg.out 2).trans rfl⟩ (fun hHeld => ?_); refine with_tabW AddC.tab6 AddC.bits6 (fun HT_ HW_ => ?_)
   clear HO350
   generalize w17.drew = w20 at BK342 BKg BKb HB hHeld ⊢
   refine pu_ (i := 0) (N := some 53) (v := ?_) (a' := ?_) AddC.DE9_100000000 (any_of HT_.out (by kernel_rfl)) ?_ ?_ ?_; rotate_left 2
   ·intro w'; go_simp; with_reducible rfl
   ·simp only [Act.put, s_t, s_z, s_s, i64_w, i32_w]; rfl
   refine pu_ (i := 1) (N := some 54) (v := ?_) (a' := ?_) AddC.DE9_110000000 (any_of HT_.out (by kernel_rfl)) ?_ ?_ ?_; rotate_left 2
   ·intro w'; go_simp; with_reducible rfl
   ·simp only [Act.put, s_t, s_z, s_s, i64_w, i32_w]; rfl
   refine pu_ (i := 2) (N := some 55) (v := ?_) (a' := ?_) AddC.DE9_111000000 (any_of HT_.out (by kernel_rfl)) ?_ ?_ ?_; rotate_left 2
   ·intro w'; go_simp; with_reducible rfl
   ·simp only [Act.put, s_t, s_z, s_s, i64_w, i32_w]; rfl
   refine pu_ (i := 4) (N := some 57) (v := ?_) (a' := ?_) AddC.DE9_111010000 (any_of HT_.out (by kernel_rfl)) ?_ ?_ ?_; rotate_left 2
   ·intro w'; go_simp; with_reducible rfl
   ·simp only [Act.put, s_t, s_z, s_s, i64_w, i32_w]; rfl
   refine pu_ (i := 6) (N := some 59) (v := ?_) (a' := ?_) AddC.DE9_111010100 (any_of HT_.out (by kernel_rfl)) ?_ ?_ ?_; rotate_left 2
   ·intro w'; go_simp; with_reducible rfl
   ·simp only [Act.put, s_t, s_z, s_s, i64_w, i32_w]; rfl
   refine take_ (i := 3) (N := some 56) (v := ?_) (a' := ?_) AddC.DE9_111110100 rfl rfl (take_ofW HT_.out HW_.out (by kernel_rfl)) (fun _ _ _ h => h) (Or.inl ⟨by rfl, ?_⟩) hHeld ?_ ?_
   rotate_left
   ·rintro w' ⟨s0, s1, s2⟩
    go_simp
    with_reducible rfl
   rotate_left
   ·simp only [Act.put, List.setIfInBounds_toArray, List.set_cons_zero, List.set_cons_succ, i64_w, i32_w]
    rfl
   refine take_ (i := 5) (N := some 58) (v := ?_) (a' := ?_) AddC.DE9_111111100 rfl rfl (take_ofW HT_.out HW_.out (by kernel_rfl)) (fun _ _ _ h => h) (Or.inl ⟨by rfl, ?_⟩) hHeld ?_ ?_
   rotate_left
   ·rintro w' ⟨s0, s1, s2⟩
    go_simp
    with_reducible rfl
   rotate_left
   ·simp only [Act.put, List.setIfInBounds_toArray, List.set_cons_zero, List.set_cons_succ, i64_w, i32_w]
    rfl
   refine take_ (i := 7) (N := some 60) (v := ?_) (a' := ?_) AddC.DE9_111111110 rfl rfl (take_ofW HT_.out HW_.out (by kernel_rfl)) (fun _ _ _ h => h) (Or.inl ⟨by rfl, ?_⟩) hHeld ?_ ?_
   rotate_left
   ·rintro w' ⟨s0, s1, s2⟩
    go_simp
    with_reducible rfl
   rotate_left
   ·simp only [Act.put, List.setIfInBounds_toArray, List.set_cons_zero, List.set_cons_succ, i64_w, i32_w]
    rfl
   obtain ⟨W2, hup, hown2, hgr⟩ := put_empty BKb.out a1_0 a1_1 HID.out HTX.out
   refine last_ (i := 8) (N := none) AddC.DE9_111111111 rfl rfl (one_of HT_.out (by kernel_rfl)) (by decide) (fun K hK => ?_)
   refine skip_ (w1 := ?_) (by rfl) rfl ?_ ?_
   rotate_left
   ·go_simp
    rfl
   refine hK.out _ _ ?_
   clear hK K
   refine done_ (done_of HT_.out (by kernel_rfl)) ?_
   try go_wp2
   clear hup
   have HKb := Aside0.mk (AddK.of_grown (g := gC) HB.out hgr)
   replace BK342 := Aside0.mk ((hgr.block _ (blk_lt BK342.out) (fun e => by injection e with e; exact HGB.out.2 _ GE342.out e)).trans BK342.out)
   replace BKg := Aside0.mk ((hgr.block _ (blk_lt BKg.out) (fun e => by injection e with e; exact HGB.out.1 e)).trans BKg.out)
   have HOW := Aside0.mk hown2
   clear hgr hown2 BKb HB
   replace BK342 := Aside0.mk (blk_drew BK342.out)
   replace BKg := Aside0.mk (blk_drew BKg.out)
   replace HKb := Aside0.mk (HKb.out.drew)
   replace HOW := Aside0.mk (own_drew HOW.out)
   refine start_ (n := 11) (S := fun w' => w'.cell? ⟨gb342, 1, none⟩ = some (.string a1_1) ∧ w'.cell? ⟨gC, 1, none⟩ = some (.int .i64 0)) (ds := [10]) AddC.DE11_00000000000 (by kernel_rfl) rfl rfl ⟨(blk_cell BK342.out 1).trans rfl, (blk_cell BKg.out 1).trans rfl⟩ (fun hHeld => ?_); refine with_tabW AddC.tab7 AddC.bits7 (fun HT_ HW_ => ?_)
   generalize W2.drew = w21 at BK342 BKg HKb HOW hHeld ⊢
   refine pu_ (i := 0) (N := some 61) (v := ?_) (a' := ?_) AddC.DE11_10000000000 (any_of HT_.out (by kernel_rfl)) ?_ ?_ ?_; rotate_left 2
   ·intro w'; go_simp; with_reducible rfl
   ·simp only [Act.put, s_t, s_z, s_s, i64_w, i32_w]; rfl
   refine pu_ (i := 1) (N := some 62) (v := ?_) (a' := ?_) AddC.DE11_11000000000 (any_of HT_.out (by kernel_rfl)) ?_ ?_ ?_; rotate_left 2
   ·intro w'; go_simp; with_reducible rfl
   ·simp only [Act.put, s_t, s_z, s_s, i64_w, i32_w]; rfl
   refine pu_ (i := 2) (N := some 63) (v := ?_) (a' := ?_) AddC.DE11_11100000000 (any_of HT_.out (by kernel_rfl)) ?_ ?_ ?_; rotate_left 2
   ·intro w'; go_simp; with_reducible rfl
   ·simp only [Act.put, s_t, s_z, s_s, i64_w, i32_w]; rfl
   refine pu_ (i := 4) (N := some 65) (v := ?_) (a' := ?_) AddC.DE11_11101000000 (any_of HT_.out (by kernel_rfl)) ?_ ?_ ?_; rotate_left 2
   ·intro w'; go_simp; with_reducible rfl
   ·simp only [Act.put, s_t, s_z, s_s, i64_w, i32_w]; rfl
   refine take_ (i := 3) (N := some 64) (v := ?_) (a' := ?_) AddC.DE11_11111000000 rfl rfl (take_ofW HT_.out HW_.out (by kernel_rfl)) (fun _ _ _ h => h) (Or.inl ⟨by rfl, ?_⟩) hHeld ?_ ?_
   rotate_left
   ·rintro w' ⟨s0, s1⟩
    go_simp
    with_reducible rfl
   rotate_left
   ·simp only [Act.put, List.setIfInBounds_toArray, List.set_cons_zero, List.set_cons_succ, i64_w, i32_w]
    rfl
   refine take_ (i := 5) (N := some 66) (v := ?_) (a' := ?_) AddC.DE11_11111100000 rfl rfl (take_ofW HT_.out HW_.out (by kernel_rfl)) (fun _ _ _ h => h) (Or.inl ⟨by rfl, ?_⟩) hHeld ?_ ?_
   rotate_left
   ·rintro w' ⟨s0, s1⟩
    go_simp
    with_reducible rfl
   rotate_left
   ·simp only [Act.put, List.setIfInBounds_toArray, List.set_cons_zero, List.set_cons_succ, i64_w, i32_w]
    rfl
   refine pu_ (i := 6) (N := some 67) (v := ?_) (a' := ?_) AddC.DE11_11111110000 (any_of HT_.out (by kernel_rfl)) ?_ ?_ ?_; rotate_left 2
   ·intro w'; go_simp; with_reducible rfl
   ·simp only [Act.put, s_t, s_z, s_s, i64_w, i32_w]; rfl
   refine pu_ (i := 7) (N := some 68) (v := ?_) (a' := ?_) AddC.DE11_11111111000 (any_of HT_.out (by kernel_rfl)) ?_ ?_ ?_; rotate_left 2
   ·intro w'; go_simp; with_reducible rfl
   ·simp only [Act.put, s_t, s_z, s_s, i64_w, i32_w]; rfl
   refine pu_ (i := 8) (N := some 69) (v := ?_) (a' := ?_) AddC.DE11_11111111100 (any_of HT_.out (by kernel_rfl)) ?_ ?_ ?_; rotate_left 2
   ·intro w'; go_simp; with_reducible rfl
   ·simp only [Act.put, s_t, s_z, s_s, i64_w, i32_w]; rfl
   refine pu_ (i := 9) (N := some 70) (v := ?_) (a' := ?_) AddC.DE11_11111111110 (any_of HT_.out (by kernel_rfl)) ?_ ?_ ?_; rotate_left 2
   ·intro w'; go_simp; with_reducible rfl
   ·simp only [Act.put, s_t, s_z, s_s, i64_w, i32_w]; rfl
   have hc1 : w21.cell? ⟨gC, 1, none⟩ = some (.int .i64 0) := (blk_cell BKg.out 1).trans rfl
   have hf1 : w21.frozen? ⟨gC, 1, none⟩ = false := by simp [World.frozen?, BKg.out]
   refine last_ (i := 10) (N := none) AddC.DE11_11111111111 rfl rfl (one_of HT_.out (by kernel_rfl)) (by decide) (fun K hK => ?_)
   refine skip_ (w1 := ?_) (by rfl) rfl ?_ ?_
   rotate_left
   ·go_simp
    rfl
   refine hK.out _ _ ?_
   clear hK K
   refine done_ (done_of HT_.out (by kernel_rfl)) ?_
   try go_wp2
   go_ret
   exact ⟨rfl, _, HKb.out.store _ rfl _, CatAt.stored BKg.out HOW.out HGB.out.1 _⟩
theorem New_calls (w : World) : Calls Tryz.prog 7 #[.int .i64 2] w fun e w' => ∃ g b : Nat, e = .returned (.tuple #[.pointer (some ⟨g, 0, none⟩), .int .i64 0]) ∧ CatE w' g b ∧ w.heap.size ≤ g ∧ w.heap.size ≤ b ∧ Below w.heap.size w w' := by
  have hu60 := Tryz.underlying60
  have hmm := @run_makeMap Tryz.prog
  have HE : near_kError.f 2 = some 0 := by decide
  go_enter Tryz.func7, Tryz.ntmps7
  go_wp2_with (first | (go_at_call 22; refine (near_kError.calls 2 0 _ HE).mono ?_; rintro e w' ⟨rfl, ⟨nd, rfl⟩⟩))
  go_ret2
  have e1 : ((w.drewN nd).alloc (.map #[] 0)).heap.size = w.heap.size + 1 := by rw [World.size_alloc]; rfl
  have h1 := blk_new ((w.drewN nd).alloc (.map #[] 0)) (.cells #[.int .i64 2, .int .i64 0, .map (some w.heap.size)] 60)
  rw [e1] at h1
  exact ⟨w.heap.size + 1, w.heap.size, rfl, ⟨h1, blk_alloc (blk_new (w.drewN nd) (.map #[] 0)) _, Nat.succ_ne_self _⟩, Nat.le_succ _, Nat.le_refl _, below_alloc (below_alloc (pw_below_drewN (Below.refl _ _) _) _) _⟩
set_option maxHeartbeats 4000000 in
theorem Ids_calls (g b : Nat) (t : List UInt8) (n : Int) (w : World) (hg : CatAt w g b 1 ((DataW.map []).put (.string [98, 97]) (.lit (.string t))) n) :
    Calls Tryz.prog 9 #[.pointer (some ⟨g, 0, none⟩)] w fun e w' => ∃ v : Value, e = .returned v ∧ Kd.R Kd.string 9 w' w.heap.size (fun _ => True) v [(⟨#[98, 97]⟩ : ByteArray)] ∧ Below w.heap.size w w' := by
  obtain ⟨hg1, hown, hne⟩ := hg
  have hx : w.cell? ⟨g, 2, none⟩ = some (.map (some b)) := (blk_cell hg1 2).trans rfl
  have hkeys : strKeys ((DataW.map []).put (.string [98, 97]) (.lit (.string t)) : DataW Unit) = [[98, 97]] := by rfl
  have hsz : Maps.size ((DataW.map []).put (.string [98, 97]) (.lit (.string t)) : DataW Unit) = 1 := by rfl
  have hS0 := Tryz.slices_Sorted_keys_27_28 b 1 _ strR w hown (by rw [hsz]; decide) (by rw [hsz]; decide)
  clear hown hg1 hne hsz
  refine (callsIn_wide (n := 6)).1 ?_
  have hfK : Fence.wide.fn 28 := trivial
  have hfS : Fence.wide.fn 27 := trivial
  refine callsIn_of_wp Tryz.func9 rfl trivial ?_ rfl
  simp only [Tryz.ntmps9, List.size_toArray, List.length_cons, List.length_nil, Nat.reduceAdd, Nat.reduceSub, Array.replicate_succ, Array.replicate_zero, List.push_toArray, List.append_toArray, List.nil_append, List.cons_append]
  gi_wp2_with (first
    | (gi_at_call 28; refine (Tryz.maps_Keys_28 _ _).mono ?_; rintro e w' ⟨rfl, rfl⟩)
    | (gi_at_call 27; refine hS0.mono ?_; rintro e w' ⟨v, ss, rfl, hS, hrow, hnil, hb⟩))
  go_ret
  rw [hkeys] at hS
  obtain rfl := List.perm_singleton.1 hS
  refine ⟨v, rfl, ⟨fun _ _ => trivial, _, ownsRow_base_a hrow (by simp), ?_⟩, ((Below.refl _ w).alloc (Nat.le_refl _) _).trans (hb.mono (by simp))⟩
  have e : ([[98, 97]].mergeSort (fun x y => decide (x ≤ y))).map encStr = [.string (⟨#[98, 97]⟩ : ByteArray)] := by
    rw [List.mergeSort_singleton]
    rfl
  rw [e]
  exact Reps.one (show Kd.M Kd.string _ _ _ (⟨#[98, 97]⟩ : ByteArray) [.string (⟨#[98, 97]⟩ : ByteArray)] from rfl) (Reps.none _ _)
end Go.Proofs.YtenphgclongphaaGreatDoor.Pk
namespace Go.Proofs.YtenphgclongphaaGreatDoor.Pk
open Go.RowKit Go.Proofs.YtenphgclongphaaGreatDoor.GBase
set_option linter.unusedVariables false
def sz1 : List ByteArray → Nat
  | [] => 0
  | x :: r => x.size + 1 + sz1 r
def cost : List ByteArray → Nat
  | [] => 0
  | x :: r => x.size + 3 + cost r
theorem sz1_append (a b : List ByteArray) : sz1 (a ++ b) = sz1 a + sz1 b := by
  induction a with
  | nil => simp [sz1]
  | cons x a ih => simp only [List.cons_append, sz1, ih]; omega
theorem len_le_sz1 (a : List ByteArray) : a.length ≤ sz1 a := by
  induction a with
  | nil => exact Nat.le_refl _
  | cons x a ih => simp only [List.length_cons, sz1]; omega
theorem cost_le (a : List ByteArray) : cost a ≤ 3 * sz1 a := by
  induction a with
  | nil => exact Nat.le_refl _
  | cons x a ih => simp only [cost, sz1]; omega
theorem split_sz1 (sep : ByteArray) (h1 : 1 ≤ sep.size) : ∀ (k : Nat) (s : ByteArray), sz1 (Lib.splitB sep 0 k s) ≤ s.size + 1
  | 0, s => by rw [Lib.splitB_zero]; simp [sz1]
  | k + 1, s => by
    rcases Lib.indexB_cases s sep with hix | ⟨i, hix, hroom⟩
    · rw [Lib.splitB_miss sep 0 (k + 1) s hix]
      simp [sz1]
    · rw [Lib.splitB_hit sep 0 k s i hix]
      have ih := split_sz1 sep h1 k (s.extract (i + sep.size) s.size)
      have e1 : (s.extract 0 (i + 0)).size ≤ i := by rw [ByteArray.size_extract]; omega
      have e2 : (s.extract (i + sep.size) s.size).size = s.size - (i + sep.size) := by rw [ByteArray.size_extract]; omega
      simp only [sz1]
      omega
theorem jt_sz1 (l : List ByteArray) (k : Nat) : k ≤ l.length → (jt l k).length ≤ sz1 (l.take k) := by
  induction k with
  | zero => intro _; exact Nat.zero_le _
  | succ k ih =>
    intro h
    have h1 := ih (by omega)
    have hk : k < l.length := by omega
    have e : l.take (k + 1) = l.take k ++ [l[k]] := by rw [List.take_add_one, List.getElem?_eq_getElem hk]; rfl
    have e2 : l.getD k ByteArray.empty = l[k] := by simp [List.getD, hk]
    have e3 : ∀ (c : Prop) [Decidable c], (if c then [(32 : UInt8)] else []).length ≤ 1 := by intro c _; split <;> simp
    rw [e, sz1_append]
    show (jt l k ++ (_ ++ _)).length ≤ _
    rw [List.length_append, List.length_append, e2]
    have h4 := Lib.size_eq l[k]
    have h5 := e3 (0 < k ∧ ¬ (l[k]).toList = [10] ∧ ¬ (l.getD (k - 1) ByteArray.empty).toList = [10])
    simp only [sz1]
    omega
end Go.Proofs.YtenphgclongphaaGreatDoor.Pk
namespace Go.Proofs.YtenphgclongphaaGreatDoor.GBase
open Go.RowKit
def spl (c : UInt8) : List UInt8 → List (List UInt8)
  | [] => [[]]
  | b :: r => if b = c then [] :: spl c r else (b :: (spl c r).headD []) :: (spl c r).tail
theorem spl_ne (c : UInt8) : ∀ l, spl c l = (spl c l).headD [] :: (spl c l).tail
  | [] => rfl
  | b :: r => by
    unfold spl
    split <;> rfl
theorem splitK_spl (c : UInt8) : ∀ l : List UInt8, Lib.splitK [c] 0 (Lib.count l [c]) l = spl c l
  | [] => by rw [Lib.count_one]; rfl
  | b :: l => by
    have ih := splitK_spl c l
    by_cases h : b = c
    · subst h
      have hix : Lib.index (b :: l) [b] = 0 := by rw [Lib.index]; simp [List.isPrefixOf]
      rw [Lib.count_cons_eq, Nat.add_comm]
      unfold Lib.splitK
      rw [hix]
      simp only [spl, if_true]
      rw [← ih]
      rfl
    · have hp : ([c] : List UInt8).isPrefixOf (b :: l) = false := by simp [List.isPrefixOf, Ne.symm h]
      have hix : Lib.index (b :: l) [c] = if Lib.index l [c] == -1 then -1 else Lib.index l [c] + 1 := by rw [Lib.index, hp]; simp
      rw [Lib.count_cons_ne b c l h]
      simp only [spl, if_neg h]
      rw [← ih]
      cases hk : Lib.count l [c] with
      | zero => rfl
      | succ k =>
        have hge := Lib.index_ge l [c]
        have hm : Lib.index l [c] ≠ -1 := fun e => by rw [Lib.count_miss e] at hk; omega
        have h1 : (Lib.index l [c] == -1) = false := beq_eq_false_iff_ne.2 hm
        rw [h1] at hix
        simp only [Bool.false_eq_true, if_false] at hix
        have h2 : (Lib.index (b :: l) [c] == -1) = false := beq_eq_false_iff_ne.2 (by omega)
        have h3 : (Lib.index (b :: l) [c]).toNat = (Lib.index l [c]).toNat + 1 := by omega
        simp only [Lib.splitK, h1, h2, h3, Bool.false_eq_true, if_false, List.headD_cons, List.tail_cons, Nat.add_zero, List.take_succ_cons, List.length_cons, List.length_nil, Nat.zero_add, List.drop_succ_cons]
end Go.Proofs.YtenphgclongphaaGreatDoor.GBase
namespace Go.Proofs.YtenphgclongphaaGreatDoor.Pk
open Go.RowKit Go.Proofs.YtenphgclongphaaGreatDoor.GBase Go.Proofs.YtenphgclongphaaGreatDoorW.PrintWords Go.Proofs.YtenphgclongphaaGreatDoorW.PrintLast Go.Proofs.YtenphgclongphaaGreatDoorW.PrintMore
set_option linter.unusedVariables false
set_option linter.unusedSimpArgs false
def neB : List ByteArray → List ByteArray
  | [] => []
  | w :: r => if w.toList = [] then neB r else w :: neB r
def spB (c : UInt8) (s : ByteArray) : List ByteArray := Lib.splitB (⟨#[c]⟩ : ByteArray) 0 (Lib.countB s ⟨#[c]⟩) s
def tokL : List ByteArray → List ByteArray
  | [] => []
  | l :: r => (⟨#[10]⟩ : ByteArray) :: (neB (spB 32 l) ++ tokL r)
def tokB (s : ByteArray) : List ByteArray := neB (spB 32 ((spB 10 s).headD ByteArray.empty)) ++ tokL (spB 10 s).tail
theorem spB_spl (c : UInt8) (s : ByteArray) : (spB c s).map (·.data.toList) = spl c s.data.toList := by
  unfold spB
  rw [Lib.splitB_data]
  exact splitK_spl c s.data.toList
theorem neB_sz : ∀ l : List ByteArray, sz1 (neB l) ≤ sz1 l
  | [] => Nat.le_refl _
  | w :: r => by
    have ih := neB_sz r
    simp only [neB]
    split <;> simp only [sz1] <;> omega
theorem spB_sz (c : UInt8) (s : ByteArray) : sz1 (spB c s) ≤ s.size + 1 := split_sz1 (⟨#[c]⟩ : ByteArray) (Nat.le_refl 1) _ s
theorem tokL_sz : ∀ l : List ByteArray, sz1 (tokL l) ≤ cost l
  | [] => Nat.le_refl _
  | l :: r => by
    have ih := tokL_sz r
    have h1 := neB_sz (spB 32 l)
    have h2 := spB_sz 32 l
    have hn : (⟨#[10]⟩ : ByteArray).size = 1 := rfl
    simp only [tokL, sz1, sz1_append, cost, hn]
    omega
theorem tokB_sz (s : ByteArray) : sz1 (tokB s) ≤ 3 * (s.size + 1) := by
  have h1 := spB_sz 10 s
  have h2 := cost_le (spB 10 s)
  have hl : spB 10 s ≠ [] := by
    intro e
    have h := spB_spl 10 s
    rw [e, spl_ne] at h
    exact absurd h (by simp)
  unfold tokB
  cases hs : spB 10 s with
  | nil => exact absurd hs hl
  | cons u r =>
    rw [hs] at h1 h2
    have h3 := neB_sz (spB 32 u)
    have h4 := spB_sz 32 u
    have h5 := tokL_sz r
    simp only [cost] at h2
    simp only [List.headD_cons, List.tail_cons, sz1_append]
    omega
theorem rd_tk (l : List ByteArray) (j : Nat) (hj : j < l.length) : rdOf ByteArray.empty l (j : Int) = l[j] := by
  simp [rdOf, List.getD, hj]
theorem tkb_inner (L : List ByteArray) (n i : Int) (R : List ByteArray) (t : List ByteArray) (ht : t.length ≤ 1000000000) (d : Nat) : ∀ (j : Nat) (acc : List ByteArray), t.length - j ≤ d → j ≤ t.length → acc.length + (t.length - j) ≤ 1000000000 →
    Ev (fun k => near_Tokens.l0 k (acc ++ neB (t.drop j)) L n (wrap64 (i + 1))) R → Ev (fun k => near_Tokens.l1 k acc L n i t (t.length : Int) (j : Int)) R := by
  have stop : ∀ (j : Nat) (acc : List ByteArray), ¬ j < t.length → Ev (fun k => near_Tokens.l0 k (acc ++ neB (t.drop j)) L n (wrap64 (i + 1))) R → Ev (fun k => near_Tokens.l1 k acc L n i t (t.length : Int) (j : Int)) R := by
    intro j acc hj h
    rw [List.drop_eq_nil_of_le (by omega)] at h
    simp only [neB, List.append_nil] at h
    exact Ev.step (fun _ => near_Tokens.l1.eq_2 ..) (ev_neg (by omega) h)
  induction d with
  | zero => exact fun j acc hd hj hb h => stop j acc (by omega) h
  | succ d ih =>
    intro j acc hd hj hb h
    by_cases hlt : j < t.length
    · have w1 : wrap64 ((j : Int) + 1) = ((j + 1 : Nat) : Int) := by rw [wr64 (by omega) (by omega)]; omega
      rw [List.drop_eq_getElem_cons hlt] at h
      simp only [neB] at h
      by_cases he : t[j].toList = ([] : List UInt8)
      · rw [if_pos he] at h
        refine Ev.step (fun _ => near_Tokens.l1.eq_2 ..) (ev_pos (by omega) (ev_pos (by omega) (ev_pos (by omega) ?_)))
        rw [rd_tk t j hlt, w1]
        exact ev_pos he (ih (j + 1) acc (by omega) (by omega) (by omega) h)
      · rw [if_neg he] at h
        refine Ev.step (fun _ => near_Tokens.l1.eq_2 ..) (ev_pos (by omega) (ev_pos (by omega) (ev_pos (by omega) ?_)))
        rw [rd_tk t j hlt, w1]
        refine ev_neg he (ev_pos (by omega) (ih (j + 1) (acc ++ [t[j]]) (by omega) (by omega) (by rw [List.length_append]; simp only [List.length_cons, List.length_nil]; omega) ?_))
        rw [List.append_assoc]
        exact h
    · exact stop j acc hlt h
theorem tkb_outer (L : List ByteArray) (hL : L.length ≤ 1000000000) (d : Nat) : ∀ (i : Nat) (acc : List ByteArray), L.length - i ≤ d → i ≤ L.length → 0 < i → acc.length + cost (L.drop i) ≤ 1000000000 →
    Ev (fun k => near_Tokens.l0 k acc L (L.length : Int) (i : Int)) (acc ++ tokL (L.drop i)) := by
  have stop : ∀ (i : Nat) (acc : List ByteArray), ¬ i < L.length → Ev (fun k => near_Tokens.l0 k acc L (L.length : Int) (i : Int)) (acc ++ tokL (L.drop i)) := by
    intro i acc hi
    rw [List.drop_eq_nil_of_le (by omega)]
    simp only [tokL, List.append_nil]
    exact Ev.step (fun _ => near_Tokens.l0.eq_2 ..) (ev_neg (by omega) (Ev.now _))
  induction d with
  | zero => exact fun i acc hd hi h0 hb => stop i acc (by omega)
  | succ d ih =>
    intro i acc hd hi h0 hb
    by_cases hlt : i < L.length
    · have w1 : wrap64 ((i : Int) + 1) = ((i + 1 : Nat) : Int) := by rw [wr64 (by omega) (by omega)]; omega
      rw [List.drop_eq_getElem_cons hlt] at hb ⊢
      simp only [cost] at hb
      have hs := spB_sz 32 L[i]
      have hsl := len_le_sz1 (spB 32 L[i])
      have hn := neB_sz (spB 32 L[i])
      have hnl := len_le_sz1 (neB (spB 32 L[i]))
      have hsp : strings_Split.f L[i] (⟨#[32]⟩ : ByteArray) = some (spB 32 L[i]) := by
        unfold strings_Split.f
        rw [if_pos ⟨by omega, Nat.le_refl 1⟩]
        rfl
      refine Ev.step (fun _ => near_Tokens.l0.eq_2 ..) (ev_pos (by omega) (ev_pos (by omega) (ev_pos (by omega) (ev_pos (by omega) (ev_pos (by omega) ?_)))))
      rw [rd_tk L i hlt]
      refine Ev.step (fun _ => near_Tokens.j1.eq_2 ..) (ev_bindc hsp (tkb_inner L _ _ _ (spB 32 L[i]) (by omega) _ 0 _ (Nat.le_refl _) (by omega) (by rw [List.length_append]; simp only [List.length_cons, List.length_nil]; omega) ?_))
      rw [w1, List.drop_zero]
      refine ev_eq (ih (i + 1) _ (by omega) (by omega) (by omega) (by rw [List.length_append, List.length_append]; simp only [List.length_cons, List.length_nil]; omega)) ?_
      simp only [tokL, List.append_assoc, List.cons_append, List.nil_append]
    · exact stop i acc hlt
theorem tokB_ev (s : ByteArray) (hs : s.size ≤ 1048576) : Ev (fun k => near_Tokens.f k s) (tokB s) := by
  have h1 := spB_sz 10 s
  have h2 := len_le_sz1 (spB 10 s)
  have h3 := cost_le (spB 10 s)
  have hsp : strings_Split.f s (⟨#[10]⟩ : ByteArray) = some (spB 10 s) := by
    unfold strings_Split.f
    rw [if_pos ⟨by omega, Nat.le_refl 1⟩]
    rfl
  refine Ev.congr (fun _ => near_Tokens.f.eq_1 ..) (ev_bindc hsp ?_)
  unfold tokB
  have hl : spB 10 s ≠ [] := by
    intro e
    have h := spB_spl 10 s
    rw [e, spl_ne] at h
    exact absurd h (by simp)
  generalize spB 10 s = L at *
  cases L with
  | nil => exact absurd rfl hl
  | cons u r =>
    simp only [List.headD_cons, List.tail_cons]
    have w1 : wrap64 ((0 : Int) + 1) = ((1 : Nat) : Int) := by rw [wr64 (by omega) (by omega)]; omega
    simp only [cost, sz1, List.length_cons] at h1 h2 h3
    have hs4 := spB_sz 32 u
    have hsl := len_le_sz1 (spB 32 u)
    have hn := neB_sz (spB 32 u)
    have hnl := len_le_sz1 (neB (spB 32 u))
    have hsp : strings_Split.f u (⟨#[32]⟩ : ByteArray) = some (spB 32 u) := by
      unfold strings_Split.f
      rw [if_pos ⟨by omega, Nat.le_refl 1⟩]
      rfl
    have e0 : rdOf ByteArray.empty (u :: r) 0 = u := rfl
    refine Ev.step (fun _ => near_Tokens.l0.eq_2 ..) (ev_pos (by simp only [List.length_cons]; omega) (ev_pos (by omega) (ev_pos (by simp only [List.length_cons]; omega) (ev_neg (by omega) ?_))))
    rw [e0]
    refine Ev.step (fun _ => near_Tokens.j1.eq_2 ..) (ev_bindc hsp (tkb_inner (u :: r) _ _ _ (spB 32 u) (by omega) _ 0 [] (Nat.le_refl _) (by omega) (by simp only [List.length_nil]; omega) ?_))
    rw [w1, List.drop_zero, List.nil_append]
    exact tkb_outer (u :: r) (by simp only [List.length_cons]; omega) _ 1 _ (Nat.le_refl _) (by simp only [List.length_cons]; omega) (by omega) (by simp only [List.drop_succ_cons, List.drop_zero]; omega)
def joinB (l : List ByteArray) : ByteArray := ⟨(jt l l.length).toArray⟩
theorem joinB_is (l : List ByteArray) (h : sz1 l ≤ 4000000) : near_Join.f l = some (joinB l) := by
  have h1 := len_le_sz1 l
  have h2 := jt_sz1 l l.length (Nat.le_refl _)
  rw [List.take_length] at h2
  unfold near_Join.f
  rw [if_pos ⟨by omega, by omega⟩]
  rfl
theorem tokens_same (k : Nat) : (∀ a b c d, near_Tokens.l0 k a b c d = chaseref1_TokensOf.l0 k a b c d) ∧ (∀ a b c d e, near_Tokens.j1 k a b c d e = chaseref1_TokensOf.j1 k a b c d e) ∧ (∀ a b c d e f g, near_Tokens.l1 k a b c d e f g = chaseref1_TokensOf.l1 k a b c d e f g) := by
  induction k with
  | zero => exact ⟨fun _ _ _ _ => rfl, fun _ _ _ _ _ => rfl, fun _ _ _ _ _ _ _ => rfl⟩
  | succ k ih =>
    obtain ⟨h0, h1, h2⟩ := ih
    refine ⟨fun a b c d => ?_, fun a b c d e => ?_, fun a b c d e f g => ?_⟩
    · rw [near_Tokens.l0.eq_2, chaseref1_TokensOf.l0.eq_2]
      simp only [h1]
    · rw [near_Tokens.j1.eq_2, chaseref1_TokensOf.j1.eq_2]
      simp only [h2]
    · rw [near_Tokens.l1.eq_2, chaseref1_TokensOf.l1.eq_2]
      simp only [h0, h2]
theorem tokB_ev2 (s : ByteArray) (hs : s.size ≤ 1048576) : Ev (fun k => chaseref1_TokensOf.f k s) (tokB s) := by
  refine Ev.congr (fun k => ?_) (tokB_ev s hs)
  unfold near_Tokens.f chaseref1_TokensOf.f
  simp only [(tokens_same k).1]
end Go.Proofs.YtenphgclongphaaGreatDoor.Pk
namespace Go.Proofs.YtenphgclongphaaGreatDoor.Pk
open Go.RowKit Go.Proofs.YtenphgclongphaaGreatDoor.GBase Go.Proofs.YtenphgclongphaaGreatDoorW.PrintWords Go.Proofs.YtenphgclongphaaGreatDoorW.PrintLast Go.Proofs.YtenphgclongphaaGreatDoorW.PrintMore
def lcs : List ByteArray → List ByteArray → Nat
  | [], _ => 0
  | _ :: _, [] => 0
  | x :: a, y :: b => if x.toList = y.toList then lcs a b + 1 else max (lcs a (y :: b)) (lcs (x :: a) b)
termination_by a b => a.length + b.length
theorem lcs_nil (b : List ByteArray) : lcs [] b = 0 := by simp [lcs]
theorem lcs_nil2 (a : List ByteArray) : lcs a [] = 0 := by cases a <;> simp [lcs]
theorem lcs_eq {x y : ByteArray} (a b : List ByteArray) (h : x.toList = y.toList) : lcs (x :: a) (y :: b) = lcs a b + 1 := by rw [lcs, if_pos h]
theorem lcs_ne {x y : ByteArray} (a b : List ByteArray) (h : ¬ x.toList = y.toList) : lcs (x :: a) (y :: b) = max (lcs a (y :: b)) (lcs (x :: a) b) := by rw [lcs, if_neg h]
theorem lcs_all (n : Nat) : ∀ a b : List ByteArray, a.length + b.length ≤ n → (∀ x, lcs a b ≤ lcs (x :: a) b) ∧ (∀ y, lcs a b ≤ lcs a (y :: b)) ∧ (∀ x, lcs (x :: a) b ≤ lcs a b + 1) ∧ (∀ y, lcs a (y :: b) ≤ lcs a b + 1) := by
  induction n with
  | zero =>
    intro a b h
    obtain rfl : a = [] := List.eq_nil_of_length_eq_zero (by omega)
    obtain rfl : b = [] := List.eq_nil_of_length_eq_zero (by omega)
    exact ⟨fun x => by rw [lcs_nil]; omega, fun y => by rw [lcs_nil]; omega, fun x => by rw [lcs_nil2]; omega, fun y => by rw [lcs_nil]; omega⟩
  | succ n ih =>
    intro a b h
    refine ⟨fun x => ?_, fun y => ?_, fun x => ?_, fun y => ?_⟩
    · cases b with
      | nil => rw [lcs_nil2]; omega
      | cons y b =>
        simp only [List.length_cons] at h
        obtain ⟨_, _, _, s2⟩ := ih a b (by omega)
        by_cases e : x.toList = y.toList
        · rw [lcs_eq a b e]; exact s2 y
        · rw [lcs_ne a b e]; omega
    · cases a with
      | nil => rw [lcs_nil]; omega
      | cons x a =>
        simp only [List.length_cons] at h
        obtain ⟨_, _, s1, _⟩ := ih a b (by omega)
        by_cases e : x.toList = y.toList
        · rw [lcs_eq a b e]; exact s1 x
        · rw [lcs_ne a b e]; omega
    · cases b with
      | nil => rw [lcs_nil2]; omega
      | cons y b =>
        simp only [List.length_cons] at h
        obtain ⟨_, m2, s1, _⟩ := ih a b (by omega)
        have h1 := m2 y
        have h2 := s1 x
        by_cases e : x.toList = y.toList
        · rw [lcs_eq a b e]; omega
        · rw [lcs_ne a b e]; omega
    · cases a with
      | nil => rw [lcs_nil]; omega
      | cons x a =>
        simp only [List.length_cons] at h
        obtain ⟨m1, _, _, s2⟩ := ih a b (by omega)
        have h1 := m1 x
        have h2 := s2 y
        by_cases e : x.toList = y.toList
        · rw [lcs_eq a b e]; omega
        · rw [lcs_ne a b e]; omega
theorem lcs_up2 (y : ByteArray) (a b : List ByteArray) : lcs a b ≤ lcs a (y :: b) := (lcs_all _ a b (Nat.le_refl _)).2.1 y
theorem lcs_s1 (x : ByteArray) (a b : List ByteArray) : lcs (x :: a) b ≤ lcs a b + 1 := (lcs_all _ a b (Nat.le_refl _)).2.2.1 x
theorem lcs_s2 (y : ByteArray) (a b : List ByteArray) : lcs a (y :: b) ≤ lcs a b + 1 := (lcs_all _ a b (Nat.le_refl _)).2.2.2 y
theorem lcs_le1 : ∀ (a b : List ByteArray), lcs a b ≤ a.length
  | [], b => by rw [lcs_nil]; exact Nat.zero_le _
  | x :: a, b => by have := lcs_s1 x a b; have := lcs_le1 a b; simp only [List.length_cons]; omega
theorem lcs_tab (a b : List ByteArray) (i j : Nat) (hi : i < a.length) (hj : j < b.length) :
    lcs (a.drop i) (b.drop j) = if a[i].toList = b[j].toList then lcs (a.drop (i + 1)) (b.drop (j + 1)) + 1 else max (lcs (a.drop (i + 1)) (b.drop j)) (lcs (a.drop i) (b.drop (j + 1))) := by
  rw [List.drop_eq_getElem_cons hi, List.drop_eq_getElem_cons hj]
  by_cases e : a[i].toList = b[j].toList
  · rw [lcs_eq _ _ e, if_pos e]
  · rw [lcs_ne _ _ e, if_neg e]
theorem lcs_tab2 (a b : List ByteArray) (i j : Nat) (hi : i < a.length) (hj : j < b.length) :
    lcs (a.drop i) (b.drop j) = if a[i].toList = b[j].toList then max (max (lcs (a.drop (i + 1)) (b.drop j)) (lcs (a.drop i) (b.drop (j + 1)))) (lcs (a.drop (i + 1)) (b.drop (j + 1)) + 1) else max (lcs (a.drop (i + 1)) (b.drop j)) (lcs (a.drop i) (b.drop (j + 1))) := by
  rw [lcs_tab a b i j hi hj]
  by_cases e : a[i].toList = b[j].toList
  · rw [if_pos e, if_pos e]
    have h1 := lcs_s2 b[j] (a.drop (i + 1)) (b.drop (j + 1))
    have h2 := lcs_s1 a[i] (a.drop (i + 1)) (b.drop (j + 1))
    rw [← List.drop_eq_getElem_cons hj] at h1
    rw [← List.drop_eq_getElem_cons hi] at h2
    omega
  · rw [if_neg e, if_neg e]
def nxt (x : ByteArray) : List ByteArray → Option Nat
  | [] => none
  | y :: b => if x.toList = y.toList then some 0 else (nxt x b).map (· + 1)
def nxtP (x : ByteArray) (a : List ByteArray) (L : Nat) : List ByteArray → Option Nat
  | [] => none
  | y :: b => if x.toList = y.toList ∧ lcs a b + 1 = L then some 0 else (nxtP x a L b).map (· + 1)
theorem nxt_lt (x : ByteArray) : ∀ (b : List ByteArray) (k : Nat), nxt x b = some k → k < b.length
  | [], k, h => by simp [nxt] at h
  | y :: b, k, h => by
    simp only [nxt] at h
    by_cases e : x.toList = y.toList
    · rw [if_pos e] at h
      obtain rfl := Option.some.inj h
      simp
    · rw [if_neg e] at h
      cases e2 : nxt x b with
      | none => rw [e2] at h; exact absurd h (by simp)
      | some q =>
        rw [e2] at h
        obtain rfl := Option.some.inj h
        have := nxt_lt x b q e2
        simp only [List.length_cons]
        omega
theorem nxtP_none (x : ByteArray) (a : List ByteArray) (L : Nat) : ∀ (b : List ByteArray), lcs a b + 1 < L → nxtP x a L b = none
  | [], _ => rfl
  | y :: b, h => by
    have h1 := lcs_up2 y a b
    simp only [nxtP]
    rw [if_neg (by omega), nxtP_none x a L b (by omega)]
    rfl
theorem nxtP_eq (x : ByteArray) (a : List ByteArray) (L : Nat) : ∀ (b : List ByteArray), lcs (x :: a) b ≤ L → nxtP x a L b = (match nxt x b with | none => none | some k => if lcs a (b.drop (k + 1)) + 1 = L then some k else none)
  | [], _ => rfl
  | y :: b, h => by
    simp only [nxtP, nxt]
    by_cases e : x.toList = y.toList
    · rw [lcs_eq a b e] at h
      rw [if_pos e]
      by_cases e2 : lcs a b + 1 = L
      · rw [if_pos ⟨e, e2⟩]
        simp only [List.drop_succ_cons, Nat.zero_add, List.drop_zero]
        rw [if_pos e2]
      · rw [if_neg (fun c => e2 c.2), nxtP_none x a L b (by omega)]
        simp only [List.drop_succ_cons, Nat.zero_add, List.drop_zero]
        rw [if_neg e2]
        rfl
    · rw [if_neg (fun c => e c.1), if_neg e, nxtP_eq x a L b (Nat.le_trans (lcs_up2 y _ _) h)]
      cases nxt x b with
      | none => rfl
      | some k =>
        simp only [Option.map_some, List.drop_succ_cons]
        by_cases e2 : lcs a (b.drop (k + 1)) + 1 = L
        · rw [if_pos e2, if_pos e2]; rfl
        · rw [if_neg e2, if_neg e2]; rfl
def sel : List ByteArray → List ByteArray → Nat → Nat → List S76
  | [], _, _, _ => []
  | x :: a, b, i, j => match nxt x b with
    | none => sel a b (i + 1) j
    | some k => if lcs a (b.drop (k + 1)) + 1 = lcs (x :: a) b then ⟨(i : Int), ((j + k : Nat) : Int)⟩ :: sel a (b.drop (k + 1)) (i + 1) (j + k + 1) else sel a b (i + 1) j
def Rise (n m : Int) : Int → Int → List S76 → Prop
  | _, _, [] => True
  | i, j, p :: r => i ≤ p.f0 ∧ p.f0 ≤ n ∧ j ≤ p.f1 ∧ p.f1 ≤ m ∧ Rise n m (p.f0 + 1) (p.f1 + 1) r
theorem Rise.mono {n m : Int} : ∀ {r : List S76} {i j i' j' : Int}, Rise n m i j r → i' ≤ i → j' ≤ j → Rise n m i' j' r
  | [], _, _, _, _, _, _, _ => trivial
  | p :: r, _, _, _, _, h, h1, h2 => ⟨by have := h.1; omega, h.2.1, by have := h.2.2.1; omega, h.2.2.2.1, h.2.2.2.2⟩
theorem sel_rise (n m : Nat) : ∀ (a b : List ByteArray) (i j : Nat), i + a.length = n → j + b.length = m → Rise n m i j (sel a b i j ++ [⟨(n : Int), (m : Int)⟩])
  | [], b, i, j, h1, h2 => by
    simp only [List.length_nil] at h1
    refine ⟨?_, ?_, ?_, ?_, trivial⟩ <;> simp only [] <;> omega
  | x :: a, b, i, j, h1, h2 => by
    simp only [List.length_cons] at h1
    have skip := (sel_rise n m a b (i + 1) j (by omega) h2).mono (i' := i) (j' := j) (by omega) (by omega)
    simp only [sel]
    cases e : nxt x b with
    | none => exact skip
    | some k =>
      have hk := nxt_lt x b k e
      show Rise _ _ _ _ ((if _ then _ else _) ++ _)
      by_cases e2 : lcs a (b.drop (k + 1)) + 1 = lcs (x :: a) b
      · rw [if_pos e2]
        have ih := sel_rise n m a (b.drop (k + 1)) (i + 1) (j + k + 1) (by omega) (by rw [List.length_drop]; omega)
        refine ⟨?_, ?_, ?_, ?_, ih.mono ?_ ?_⟩ <;> simp only [] <;> omega
      · rw [if_neg e2]
        exact skip
theorem sel_len : ∀ (a b : List ByteArray) (i j : Nat), (sel a b i j).length ≤ a.length
  | [], _, _, _ => Nat.le_refl _
  | x :: a, b, i, j => by
    have h1 := sel_len a b (i + 1) j
    simp only [sel, List.length_cons]
    cases nxt x b with
    | none => show (sel a b (i + 1) j).length ≤ _; omega
    | some k =>
      have h2 := sel_len a (b.drop (k + 1)) (i + 1) (j + k + 1)
      show (if _ then _ else _ : List _).length ≤ _
      split
      · simp only [List.length_cons]; omega
      · omega
end Go.Proofs.YtenphgclongphaaGreatDoor.Pk
namespace Go.Proofs.YtenphgclongphaaGreatDoor.Pk
open Go.RowKit Go.Proofs.YtenphgclongphaaGreatDoor.GBase Go.Proofs.YtenphgclongphaaGreatDoorW.PrintWords Go.Proofs.YtenphgclongphaaGreatDoorW.PrintLast Go.Proofs.YtenphgclongphaaGreatDoorW.PrintMore
set_option linter.unusedVariables false
set_option linter.unusedSimpArgs false
theorem kadd1 (a : Nat) (h : a ≤ 4611686018427387904) : wrap64 ((a : Int) + 1) = ((a + 1 : Nat) : Int) := by
  rw [wr64 (by omega) (by omega)]
  omega
theorem ksub1 (a : Nat) (h : a ≤ 4611686018427387904) : wrap64 (((a + 1 : Nat) : Int) - 1) = (a : Int) := by
  rw [wr64 (by omega) (by omega)]
  omega
theorem krd (l : List ByteArray) (j : Nat) (hj : j < l.length) : rdOf ByteArray.empty l (j : Int) = l[j] := by
  simp [rdOf, List.getD, hj]
theorem krdi {l : List Int} {j : Nat} {v : Int} (h : l[j]? = some v) : rd l (j : Int) = v := by
  simp [rd, List.getD, h]
theorem flat_inj {p q i j w : Nat} (hq : q < w) (hj : j < w) (h : p * w + q = i * w + j) : p = i ∧ q = j := by
  have h1 : (p * w + q) / w = p := by rw [Nat.mul_comm, Nat.mul_add_div (by omega), Nat.div_eq_of_lt hq]; omega
  have h2 : (i * w + j) / w = i := by rw [Nat.mul_comm, Nat.mul_add_div (by omega), Nat.div_eq_of_lt hj]; omega
  have h3 : p = i := by rw [← h1, ← h2, h]
  subst h3
  exact ⟨rfl, by omega⟩
theorem flat_lt {p q n w : Nat} (hp : p ≤ n) (hq : q < w) : p * w + q < (n + 1) * w := by
  have : p * w ≤ n * w := Nat.mul_le_mul_right w hp
  rw [Nat.succ_mul]
  omega
def Gd (a b : List ByteArray) (T : List Int) (i j : Nat) : Prop :=
  T.length = (a.length + 1) * (b.length + 1) ∧ ∀ p q, p ≤ a.length → q ≤ b.length → (i < p ∨ (p = i ∧ j ≤ q) ∨ q = b.length) → T[p * (b.length + 1) + q]? = some (lcs (a.drop p) (b.drop q) : Int)
theorem Gd.put {a b : List ByteArray} {T : List Int} {i j : Nat} (h : Gd a b T i (j + 1)) (hi : i < a.length) (hj : j < b.length) : Gd a b (T.set (i * (b.length + 1) + j) (lcs (a.drop i) (b.drop j) : Int)) i j := by
  refine ⟨by rw [List.length_set]; exact h.1, fun p q hp hq hc => ?_⟩
  by_cases e : p * (b.length + 1) + q = i * (b.length + 1) + j
  · obtain ⟨rfl, rfl⟩ := flat_inj (by omega) (by omega) e
    rw [List.getElem?_set_self (by rw [h.1]; exact flat_lt hp (by omega))]
  · rw [List.getElem?_set_ne (fun c => e c.symm)]
    refine h.2 p q hp hq ?_
    rcases hc with hc | hc | hc
    · exact .inl hc
    · by_cases e2 : q = j
      · subst e2
        obtain ⟨rfl, _⟩ := hc
        exact absurd rfl e
      · exact .inr (.inl ⟨hc.1, by omega⟩)
    · exact .inr (.inr hc)
end Go.Proofs.YtenphgclongphaaGreatDoor.Pk
namespace Go.Proofs.YtenphgclongphaaGreatDoor.Pk
open Go.RowKit Go.Proofs.YtenphgclongphaaGreatDoor.GBase Go.Proofs.YtenphgclongphaaGreatDoorW.PrintWords Go.Proofs.YtenphgclongphaaGreatDoorW.PrintLast Go.Proofs.YtenphgclongphaaGreatDoorW.PrintMore
set_option linter.unusedVariables false
set_option linter.unusedSimpArgs false
theorem clone_of (l : List ByteArray) (h : l.length ≤ 100000) : slices_Clone_string_string.f l = some l := by
  unfold slices_Clone_string_string.f
  rw [if_pos (by omega)]
theorem rd_chg (P : List S34) (p : Nat) (h : p < P.length) : rd_T34 P (p : Int) = P[p] := by
  simp [rd_T34, List.getD_eq_getElem?_getD, List.getElem?_eq_getElem h]
def okB (z : ByteArray) : Bool := decide (z.data.toList = [10]) || (decide (z.data.toList ≠ []) && z.data.toList.all fun c => decide (c ≠ 10) && decide (c ≠ 32))
theorem containsAny_is (l : List UInt8) (hne : l ≠ []) : Lib.containsAny l [32, 10] = !(l.all fun c => decide (c ≠ 10) && decide (c ≠ 32)) := by
  cases h : l.all fun c => decide (c ≠ 10) && decide (c ≠ 32) with
  | true =>
    unfold Lib.containsAny
    rw [Lib.indexAny_none]
    · rfl
    · intro j b hj hb
      have := List.all_eq_true.1 h b (List.mem_of_getElem? hb)
      simp only [Bool.and_eq_true, decide_eq_true_eq] at this
      simp [this.1, this.2]
  | false =>
    unfold Lib.containsAny
    have hge := Lib.indexAny_ge [32, 10] l
    by_cases hn : Lib.indexAny l [32, 10] = -1
    · exfalso
      have key : ∀ (l : List UInt8), Lib.indexAny l [32, 10] = -1 → ∀ c ∈ l, c ≠ 10 ∧ c ≠ 32 := by
        intro l
        induction l with
        | nil => intro _ c hc; cases hc
        | cons a r ih =>
          intro h c hc
          unfold Lib.indexAny at h
          have hr := Lib.indexAny_ge [32, 10] r
          by_cases ha : ([32, 10] : List UInt8).contains a = true
          · rw [if_pos ha] at h
            exact absurd h (by decide)
          · rw [if_neg ha] at h
            have h2 : Lib.indexAny r [32, 10] = -1 := by
              split at h
              · rename_i e
                exact eq_of_beq e
              · omega
            rcases List.mem_cons.1 hc with rfl | hc
            · simp at ha
              exact ⟨ha.2, ha.1⟩
            · exact ih h2 c hc
      have : (l.all fun c => decide (c ≠ 10) && decide (c ≠ 32)) = true := List.all_eq_true.2 fun c hc => by
        have := key l hn c hc
        simp [this.1, this.2]
      rw [this] at h
      cases h
    · rw [decide_eq_true (by omega)]
      rfl
theorem isToken_is (z : ByteArray) (hz : z.size < 4294967281) : near_isToken.f z = some (okB z) := by
  unfold near_isToken.f okB
  rw [Lib.toList_data]
  by_cases h1 : z.data.toList = [10]
  · rw [if_pos h1, decide_eq_true h1]
    rfl
  · rw [if_neg h1, decide_eq_false h1, Bool.false_or]
    by_cases h2 : z.data.toList = []
    · rw [if_pos h2, decide_eq_false (by simp [h2]), Bool.false_and]
    · rw [if_neg h2, decide_eq_true h2, Bool.true_and]
      unfold strings_ContainsAny.f
      rw [if_pos ⟨hz, rfl⟩, Option.bind_some]
      refine congrArg some ?_
      show (!Lib.containsAny z.data.toList [32, 10]) = _
      rw [containsAny_is _ h2, Bool.not_not]
theorem wrong_is (l : List ByteArray) (h : ∀ z ∈ l, z.size < 4294967281) : slices_ContainsFunc_string_string.f l 42 = some (l.any fun z => !okB z) := by
  unfold slices_ContainsFunc_string_string.f slices_IndexFunc_string_string.f
  have c : 42 = 42 ∧ (l.all fun x => decide (x.size < 4294967281)) = true := ⟨rfl, List.all_eq_true.2 fun z hz => decide_eq_true (h z hz)⟩
  rw [if_pos c, Option.bind_some]
  have e : decide (Lib.idxBy (fun _ y => (near_patched_1.f y).getD false) l default ≥ 0) = l.any fun y => (near_patched_1.f y).getD false := Lib.idxBy_nonneg_iff (fun _ y => (near_patched_1.f y).getD false) l default
  rw [e]
  congr 1
  have g : ∀ (m : List ByteArray), (∀ z ∈ m, z.size < 4294967281) → (m.any fun y => (near_patched_1.f y).getD false) = m.any fun z => !okB z := by
    intro m
    induction m with
    | nil => exact fun _ => rfl
    | cons a r ih =>
      intro hm
      rw [List.any_cons, List.any_cons, ih (fun z hz => hm z (List.mem_cons_of_mem _ hz))]
      congr 1
      unfold near_patched_1.f
      rw [isToken_is a (hm a List.mem_cons_self)]
      rfl
  exact g l h
end Go.Proofs.YtenphgclongphaaGreatDoor.Pk
namespace Go.Proofs.YtenphgclongphaaGreatDoor.Pk
open Go.RowKit Go.Proofs.YtenphgclongphaaGreatDoor.GBase Go.Proofs.YtenphgclongphaaGreatDoorW.PrintWords Go.Proofs.YtenphgclongphaaGreatDoorW.PrintLast Go.Proofs.YtenphgclongphaaGreatDoorW.PrintMore
set_option linter.unusedVariables false
set_option linter.unusedSimpArgs false
abbrev WC := S34
def bad (c : WC) : Bool := (decide (c.f1.length = 0) && decide (c.f2.length = 0)) || (c.f1.any (fun z => !okB z) || c.f2.any (fun z => !okB z))
def far (x : List ByteArray) (c : WC) : Bool := decide (x.length < c.f0.toNat + c.f1.length) || !api_WordChange.eqL ((x.take (c.f0.toNat + c.f1.length)).drop c.f0.toNat) c.f1
def pt (x : List ByteArray) : Bool → Nat → List ByteArray → List WC → List WC → Int × List ByteArray × List WC
  | _, at_, out, back, [] => (0, out ++ x.drop at_, back)
  | s, at_, out, back, c :: r =>
    if c.f0 < 0 ∨ (x.length : Int) < c.f0 then (1, [], []) else
    if s = false ∧ c.f0 ≤ (at_ : Int) then (7, [], []) else
    if bad c = true then (3, [], []) else
    if far x c = true then (13, [], []) else
    pt x false (c.f0.toNat + c.f1.length) ((out ++ (x.take c.f0.toNat).drop at_) ++ c.f2) (back ++ [⟨((out ++ (x.take c.f0.toNat).drop at_).length : Int), c.f2, c.f1⟩]) r
def Gd1 (c : WC) : Prop := -1000000 ≤ c.f0 ∧ c.f0 ≤ 1000000 ∧ c.f1.length ≤ 100000 ∧ c.f2.length ≤ 100000 ∧ (∀ z ∈ c.f1, z.size ≤ 100000) ∧ ∀ z ∈ c.f2, z.size ≤ 100000
def tot2 : List WC → Nat
  | [] => 0
  | c :: r => sz1 c.f2 + tot2 r
def resN (r : Int × List ByteArray × List WC) : List ByteArray × Int := if r.1 = 0 then (r.2.1, if ((joinB r.2.1).size : Int) > 20000 then 2 else 0) else ([], r.1)
def resR (r : Int × List ByteArray × List WC) : ByteArray × List WC × Int := if r.1 = 0 then (if ((joinB r.2.1).size : Int) > 20000 then ((⟨#[]⟩ : ByteArray), [], 2) else (joinB r.2.1, r.2.2, 0)) else ((⟨#[]⟩ : ByteArray), [], r.1)
theorem sz_cut (a : List ByteArray) (i x : Nat) (h : i ≤ x) (hx : x ≤ a.length) : sz1 ((a.take x).drop i) + sz1 (a.drop x) = sz1 (a.drop i) := by
  rw [← sz1_append, ← List.drop_append_of_le_length (by rw [List.length_take]; omega), List.take_append_drop]
theorem sz_drop : ∀ (a : List ByteArray) (x : Nat), sz1 (a.drop x) ≤ sz1 a
  | [], x => by simp
  | z :: r, 0 => Nat.le_refl _
  | z :: r, x + 1 => by
    have := sz_drop r x
    simp only [List.drop_succ_cons, sz1]
    omega
theorem sz_drop2 (a : List ByteArray) (p n : Nat) : sz1 (a.drop (p + n)) ≤ sz1 (a.drop p) := by
  rw [← List.drop_drop]
  exact sz_drop _ _
theorem In_at (a : Int) (n : Int) : base_In.f a 0 n = some (decide (0 ≤ a) && decide (a ≤ n)) := by
  unfold base_In.f
  by_cases h : 0 ≤ a
  · rw [if_pos h, decide_eq_true h, Bool.true_and]
  · rw [if_neg h, decide_eq_false h, Bool.false_and]
theorem large_at (s : ByteArray) : near_large.f s = some (if (s.size : Int) > 20000 then 2 else 0) := by
  unfold near_large.f base_When.f
  by_cases h : (s.size : Int) > 20000
  · rw [decide_eq_true h, if_pos rfl, if_pos h]; rfl
  · rw [decide_eq_false h, if_neg (by decide), if_neg h]; rfl
theorem patchN (x : List ByteArray) (hx : x.length ≤ 4000) (P : List WC) (hP : P.length ≤ 5000) (hG : ∀ c ∈ P, Gd1 c) (d : Nat) : ∀ (p at_ : Nat) (out : List ByteArray) (back : List WC), P.length - p ≤ d → p ≤ P.length → at_ ≤ x.length → (p = 0 → at_ = 0) → sz1 out + sz1 (x.drop at_) + tot2 (P.drop p) ≤ 4000000 →
    Ev (fun k => near_patched.l0 k x out (at_ : Int) P (P.length : Int) (p : Int)) (resN (pt x (decide (p = 0)) at_ out back (P.drop p))) := by
  have stop : ∀ (p at_ : Nat) (out : List ByteArray) (back : List WC), ¬ p < P.length → at_ ≤ x.length → sz1 out + sz1 (x.drop at_) + tot2 (P.drop p) ≤ 4000000 →
      Ev (fun k => near_patched.l0 k x out (at_ : Int) P (P.length : Int) (p : Int)) (resN (pt x (decide (p = 0)) at_ out back (P.drop p))) := by
    intro p at_ out back hp ha hs
    rw [List.drop_eq_nil_of_le (by omega : P.length ≤ p)]
    have h1 := len_le_sz1 out
    have h2 := len_le_sz1 (x.drop at_)
    have hj := joinB_is (out ++ x.drop at_) (by rw [sz1_append]; omega)
    refine Ev.step (fun _ => near_patched.l0.eq_2 ..) (ev_neg (by omega) (ev_pos (by omega) (ev_pos (by omega) ?_)))
    simp only [Int.toNat_natCast]
    refine ev_bindc rfl (ev_pos (by omega) (ev_bindc rfl (ev_bindc hj (ev_bindc (large_at _) (ev_val ?_)))))
    rfl
  induction d with
  | zero => exact fun p at_ out back hd hp ha _ hs => stop p at_ out back (by omega) ha hs
  | succ d ih =>
    intro p at_ out back hd hp ha h0 hs
    by_cases hlt : p < P.length
    · rw [List.drop_eq_getElem_cons hlt] at hs ⊢
      have ep := rd_chg P p hlt
      obtain ⟨g1, g2, g3, g4, g5, g6⟩ := hG P[p] (List.getElem_mem hlt)
      generalize P[p] = c at *
      obtain ⟨f0, D, A⟩ := c
      simp only [] at g1 g2 g3 g4 g5 g6
      simp only [tot2] at hs
      refine Ev.step (fun _ => near_patched.l0.eq_2 ..) (ev_pos (by omega) (ev_pos (by omega) (ev_pos (by omega) ?_)))
      simp only [ep]
      refine ev_bindc (In_at _ _) ?_
      by_cases hin : f0 < 0 ∨ (x.length : Int) < f0
      · have e : (decide (0 ≤ f0) && decide (f0 ≤ (x.length : Int))) = false := by
          rcases hin with h | h
          · rw [decide_eq_false (by omega), Bool.false_and]
          · rw [decide_eq_false (p := f0 ≤ (x.length : Int)) (by omega), Bool.and_false]
        rw [e]
        refine ev_neg (by decide) (ev_val ?_)
        unfold pt
        rw [if_pos hin]
        rfl
      · have e : (decide (0 ≤ f0) && decide (f0 ≤ (x.length : Int))) = true := by rw [decide_eq_true (by omega), decide_eq_true (by omega)]; rfl
        obtain ⟨q, rfl⟩ := Int.eq_ofNat_of_zero_le (show 0 ≤ f0 by omega)
        rw [e]
        refine ev_pos rfl ?_
        have w1 := Aside0.mk (kadd1 p (by omega))
        have w2 : Aside0 (wrap64 ((q : Int) + (D.length : Int)) = ((q + D.length : Nat) : Int)) := ⟨by rw [wr64 (by omega) (by omega)]; omega⟩
        have w3 : Aside0 (wrap64 ((x.length : Int) - (q : Int)) = ((x.length - q : Nat) : Int)) := ⟨by rw [wr64 (by omega) (by omega)]; omega⟩
        have okD := wrong_is D (fun z hz => by have := g5 z hz; omega)
        have okA := wrong_is A (fun z hz => by have := g6 z hz; omega)
        have j2 : (decide (p = 0) = true ∨ at_ < q) → Ev (fun k => near_patched.j2 k x out (at_ : Int) P (P.length : Int) (p : Int) (bad ⟨(q : Int), D, A⟩) (q : Int) D A) (resN (pt x (decide (p = 0)) at_ out back (⟨(q : Int), D, A⟩ :: P.drop (p + 1)))) := by
          intro hord
          have hatq : at_ ≤ q := by
            rcases hord with h | h
            · have := h0 (of_decide_eq_true h); omega
            · omega
          have n1 : ¬ ((q : Int) < 0 ∨ (x.length : Int) < (q : Int)) := hin
          have n2 : ¬ (decide (p = 0) = false ∧ (q : Int) ≤ (at_ : Int)) := by
            rintro ⟨h1, h2⟩
            rcases hord with h | h
            · rw [h] at h1; cases h1
            · omega
          unfold pt
          rw [if_neg n1, if_neg n2]
          cases hb : bad ⟨(q : Int), D, A⟩ with
          | true =>
            rw [if_pos rfl]
            exact Ev.step (fun _ => near_patched.j2.eq_2 ..) (ev_pos rfl (ev_val rfl))
          | false =>
            rw [if_neg (by decide)]
            refine Ev.step (fun _ => near_patched.j2.eq_2 ..) (ev_neg (by decide) ?_)
            simp only [w1.out, w2.out, w3.out, Int.toNat_natCast]
            by_cases hf : x.length < q + D.length
            · have : far x ⟨(q : Int), D, A⟩ = true := by unfold far; simp only [Int.toNat_natCast]; rw [decide_eq_true hf, Bool.true_or]
              rw [if_pos this]
              exact ev_pos (by omega) (ev_val rfl)
            · refine ev_neg (by omega) (ev_pos (by omega) (ev_pos (by omega) (ev_pos (by omega) (Ev.bind (api_WordChange.eqL_ev _ D (by rw [List.length_drop, List.length_take]; omega)) ?_))))
              have hfar : far x ⟨(q : Int), D, A⟩ = !api_WordChange.eqL ((x.take (q + D.length)).drop q) D := by
                unfold far
                simp only [Int.toNat_natCast]
                rw [decide_eq_false hf, Bool.false_or]
              rw [hfar]
              cases he : api_WordChange.eqL ((x.take (q + D.length)).drop q) D with
              | false =>
                rw [if_pos (by decide)]
                exact ev_neg (by decide) (ev_val rfl)
              | true =>
                rw [if_neg (by decide)]
                have s1 := sz_cut x at_ q hatq (by omega)
                have s2 := sz_drop2 x q D.length
                have l1 := len_le_sz1 out
                have l2 := len_le_sz1 ((x.take q).drop at_)
                have l3 := len_le_sz1 A
                refine ev_pos rfl (ev_pos (by omega) (ev_pos (by omega) (ev_pos (by omega) (ev_bindc rfl (ev_pos (by omega) (ev_bindc rfl (ev_pos (by rw [List.length_append]; omega) ?_)))))))
                have hd2 : decide (p + 1 = 0) = false := decide_eq_false (by omega)
                have next := ih (p + 1) (q + D.length) ((out ++ (x.take q).drop at_) ++ A) (back ++ [⟨((out ++ (x.take q).drop at_).length : Int), A, D⟩]) (by omega) (by omega) (by omega) (fun h => absurd h (by omega)) (by simp only [sz1_append]; omega)
                rw [hd2] at next
                exact next
        have j1 : (decide (p = 0) = true ∨ at_ < q) → Ev (fun k => near_patched.j1 k x out (at_ : Int) 42 P (P.length : Int) (p : Int) false (q : Int) D A) (resN (pt x (decide (p = 0)) at_ out back (⟨(q : Int), D, A⟩ :: P.drop (p + 1)))) := by
          intro hord
          have hj := j2 hord
          refine Ev.step (fun _ => near_patched.j1.eq_2 ..) (ev_neg (by decide) ?_)
          by_cases hD : (D.length : Int) = 0
          · refine ev_pos hD ?_
            obtain rfl := List.eq_nil_of_length_eq_zero (by omega : D.length = 0)
            by_cases hA : (A.length : Int) = 0
            · obtain rfl := List.eq_nil_of_length_eq_zero (by omega : A.length = 0)
              exact ev_pos hA hj
            · refine ev_neg hA (ev_bindc okD (ev_neg (by decide) (ev_bindc okA ?_)))
              have : bad ⟨(q : Int), [], A⟩ = A.any fun z => !okB z := by
                unfold bad
                simp only [List.any_nil, Bool.false_or]
                rw [decide_eq_false (p := A.length = 0) (by omega), Bool.and_false, Bool.false_or]
              rw [← this]
              exact hj
          · refine ev_neg hD (ev_bindc okD ?_)
            have : bad ⟨(q : Int), D, A⟩ = ((D.any fun z => !okB z) || A.any fun z => !okB z) := by
              unfold bad
              simp only []
              rw [decide_eq_false (p := D.length = 0) (by omega), Bool.false_and, Bool.false_or]
            rw [this] at hj
            cases hDn : D.any fun z => !okB z with
            | true =>
              rw [hDn, Bool.true_or] at hj
              exact ev_pos rfl hj
            | false =>
              rw [hDn, Bool.false_or] at hj
              exact ev_neg (by decide) (ev_bindc okA hj)
        by_cases hp0 : (p : Int) > 0
        · refine ev_pos hp0 ?_
          by_cases hle : (q : Int) ≤ (at_ : Int)
          · rw [decide_eq_true hle]
            refine Ev.step (fun _ => near_patched.j1.eq_2 ..) (ev_pos rfl (ev_val ?_))
            unfold pt
            rw [if_neg hin, if_pos ⟨decide_eq_false (by omega), hle⟩]
            rfl
          · rw [decide_eq_false hle]
            exact j1 (.inr (by omega))
        · exact ev_neg hp0 (j1 (.inl (decide_eq_true (by omega))))
    · exact stop p at_ out back hlt ha hs
end Go.Proofs.YtenphgclongphaaGreatDoor.Pk
namespace Go.Proofs.YtenphgclongphaaGreatDoor.Pk
open Go.RowKit Go.Proofs.YtenphgclongphaaGreatDoor.GBase Go.Proofs.YtenphgclongphaaGreatDoorW.PrintWords Go.Proofs.YtenphgclongphaaGreatDoorW.PrintLast Go.Proofs.YtenphgclongphaaGreatDoorW.PrintMore
set_option linter.unusedVariables false
set_option linter.unusedSimpArgs false
def turnW (more : Int) : List WC → List WC
  | [] => []
  | c :: r => ⟨c.f0 + more, c.f2, c.f1⟩ :: turnW (more + ((c.f2.length : Int) - (c.f1.length : Int))) r
theorem pt_sz (x : List ByteArray) : ∀ (P : List WC) (s : Bool) (at_ : Nat) (out : List ByteArray) (back : List WC), at_ ≤ x.length → (s = true → at_ = 0) → (pt x s at_ out back P).1 = 0 →
    sz1 (pt x s at_ out back P).2.1 ≤ sz1 out + sz1 (x.drop at_) + tot2 P ∧ (pt x s at_ out back P).2.2 = back ++ turnW ((out.length : Int) - (at_ : Int)) P
  | [], s, at_, out, back, ha, hs, _ => by
    refine ⟨?_, ?_⟩
    · show sz1 (out ++ x.drop at_) ≤ _
      rw [sz1_append]
      omega
    · show back = back ++ []
      rw [List.append_nil]
  | c :: r, s, at_, out, back, ha, hs, h => by
    obtain ⟨f0, D, A⟩ := c
    unfold pt at h ⊢
    by_cases c1 : f0 < 0 ∨ (x.length : Int) < f0
    · rw [if_pos c1] at h
      exact absurd h (by decide)
    · rw [if_neg c1] at h ⊢
      by_cases c2 : s = false ∧ f0 ≤ (at_ : Int)
      · rw [if_pos c2] at h
        exact absurd h (by decide)
      · rw [if_neg c2] at h ⊢
        by_cases c3 : bad ⟨f0, D, A⟩ = true
        · rw [if_pos c3] at h
          exact absurd h (by decide)
        · rw [if_neg c3] at h ⊢
          by_cases c4 : far x ⟨f0, D, A⟩ = true
          · rw [if_pos c4] at h
            exact absurd h (by decide)
          · rw [if_neg c4] at h ⊢
            obtain ⟨q, rfl⟩ := Int.eq_ofNat_of_zero_le (show 0 ≤ f0 by omega)
            have hq : at_ ≤ q := by
              cases s with
              | true => have := hs rfl; omega
              | false =>
                have : ¬ (q : Int) ≤ (at_ : Int) := fun hle => c2 ⟨rfl, hle⟩
                omega
            have hf : q + D.length ≤ x.length := by
              unfold far at c4
              simp only [Int.toNat_natCast, Bool.or_eq_true, decide_eq_true_eq, not_or] at c4
              omega
            simp only [Int.toNat_natCast] at h ⊢
            have s1 := sz_cut x at_ q hq (by omega)
            have s2 := sz_drop2 x q D.length
            obtain ⟨i1, i2⟩ := pt_sz x r false (q + D.length) ((out ++ (x.take q).drop at_) ++ A) (back ++ [⟨((out ++ (x.take q).drop at_).length : Int), A, D⟩]) hf (fun h => by cases h) h
            have hl : ((x.take q).drop at_).length = q - at_ := by rw [List.length_drop, List.length_take]; omega
            refine ⟨?_, ?_⟩
            · simp only [sz1_append] at i1
              simp only [tot2]
              omega
            · rw [i2, List.append_assoc]
              congr 1
              simp only [turnW, List.cons_append, List.nil_append, List.length_append, hl]
              congr 2
              · congr 1
                omega
              · omega
theorem turnW_loop (P : List WC) (hP : P.length ≤ 5000) (hb : ∀ c ∈ P, Gd1 c) (d : Nat) : ∀ (p : Nat) (acc : List WC) (m : Int), P.length - p ≤ d → p ≤ P.length → acc.length ≤ p → -100000 * (p : Int) ≤ m → m ≤ 100000 * (p : Int) →
    Ev (fun k => near_Turn.l0 k acc m P (P.length : Int) (p : Int)) (acc ++ turnW m (P.drop p), 0) := by
  have stop : ∀ (p : Nat) (acc : List WC) (m : Int), ¬ p < P.length → Ev (fun k => near_Turn.l0 k acc m P (P.length : Int) (p : Int)) (acc ++ turnW m (P.drop p), 0) := by
    intro p acc m hp
    rw [List.drop_eq_nil_of_le (by omega)]
    simp only [turnW, List.append_nil]
    exact Ev.step (fun _ => near_Turn.l0.eq_2 ..) (ev_neg (by omega) (Ev.now _))
  induction d with
  | zero => exact fun p acc m hd hp _ _ _ => stop p acc m (by omega)
  | succ d ih =>
    intro p acc m hd hp ha h1 h2
    by_cases hlt : p < P.length
    · rw [List.drop_eq_getElem_cons hlt]
      have ep := rd_chg P p hlt
      obtain ⟨b1, b2, b3, b4, _, _⟩ := hb P[p] (List.getElem_mem hlt)
      generalize P[p] = c at *
      obtain ⟨f0, D, A⟩ := c
      simp only [] at b1 b2 b3 b4
      have w1 := Aside0.mk (kadd1 p (by omega))
      have w2 : Aside0 (wrap64 (f0 + m) = f0 + m) := ⟨by rw [wr64 (by omega) (by omega)]⟩
      have w3 : Aside0 (wrap64 ((A.length : Int) - (D.length : Int)) = (A.length : Int) - (D.length : Int)) := ⟨by rw [wr64 (by omega) (by omega)]⟩
      have w4 : Aside0 (wrap64 (m + ((A.length : Int) - (D.length : Int))) = m + ((A.length : Int) - (D.length : Int))) := ⟨by rw [wr64 (by omega) (by omega)]⟩
      refine Ev.step (fun _ => near_Turn.l0.eq_2 ..) (ev_pos (by omega) (ev_pos (by omega) (ev_pos (by omega) ?_)))
      simp only [ep, w1.out, w2.out, w3.out, w4.out]
      refine ev_bindc (clone_of A (by omega)) (ev_bindc (clone_of D (by omega)) (ev_pos (by omega) (ev_eq (ih (p + 1) _ _ (by omega) (by omega) (by rw [List.length_append]; simp only [List.length_cons, List.length_nil]; omega) (by omega) (by omega)) ?_)))
      simp only [turnW, List.append_assoc, List.cons_append, List.nil_append]
    · exact stop p acc m hlt
def Good (P : List WC) : Prop := P.length ≤ 5000 ∧ (∀ c ∈ P, Gd1 c) ∧ tot2 P ≤ 1000000
theorem toks_ev (s : ByteArray) (hs : s.size ≤ 600) : Ev (fun k => near_tokens.f k s) (tokB s, 0) := by
  have h1 := large_at s
  rw [if_neg (by omega)] at h1
  have h2 := tokB_sz s
  have h3 := len_le_sz1 (tokB s)
  refine Ev.congr (fun _ => near_tokens.f.eq_1 ..) (ev_bindc h1 (ev_pos rfl (Ev.bind (tokB_ev s (by omega)) (ev_bindc (a := 0) ?_ (Ev.now _)))))
  rw [decide_eq_false (by omega)]
  rfl
section
variable (a : ByteArray) (P : List WC)
def rr : Int × List ByteArray × List WC := pt (tokB a) true 0 [] [] P
theorem sums (ha : a.size ≤ 600) (hP : Good P) : (tokB a).length ≤ 4000 ∧ sz1 ([] : List ByteArray) + sz1 ((tokB a).drop 0) + tot2 (P.drop 0) ≤ 4000000 := by
  have h2 := tokB_sz a
  have h3 := len_le_sz1 (tokB a)
  have h4 := hP.2.2
  have h5 : sz1 ([] : List ByteArray) = 0 := rfl
  rw [List.drop_zero, List.drop_zero]
  omega
theorem pN_ev (ha : a.size ≤ 600) (hP : Good P) : Ev (fun k => near_patched.f k a P) (resN (rr a P)) := by
  obtain ⟨h1, h2⟩ := sums a P ha hP
  refine Ev.congr (fun _ => near_patched.f.eq_1 ..) (Ev.bind (toks_ev a ha) (ev_pos rfl ?_))
  have := patchN (tokB a) h1 P hP.1 hP.2.1 _ 0 0 [] [] (Nat.le_refl _) (Nat.zero_le _) (Nat.zero_le _) (fun _ => rfl) h2
  rw [List.drop_zero] at this
  exact this
def patT : List WC × Int := ((resR (rr a P)).2.1, (resR (rr a P)).2.2)
theorem Turn_ev (ha : a.size ≤ 600) (hP : Good P) : Ev (fun k => near_Turn.f k a P) (patT a P) := by
  have hN := pN_ev a P ha hP
  obtain ⟨h1, h2⟩ := sums a P ha hP
  · refine Ev.congr (fun _ => near_Turn.f.eq_1 ..) (Ev.bind hN ?_)
    unfold patT resN resR
    by_cases h0 : (rr a P).1 = 0
    · simp only [if_pos h0]
      obtain ⟨i1, i2⟩ := pt_sz (tokB a) P true 0 [] [] (Nat.zero_le _) (fun _ => rfl) h0
      have hz : ((([] : List ByteArray).length : Int) - ((0 : Nat) : Int)) = 0 := rfl
      rw [hz, List.nil_append] at i2
      by_cases hb : ((joinB (rr a P).2.1).size : Int) > 20000
      · simp only [if_pos hb]
        exact ev_neg (by decide) (Ev.now _)
      · simp only [if_neg hb]
        refine ev_pos trivial (ev_eq (turnW_loop P hP.1 hP.2.1 _ 0 [] 0 (Nat.le_refl _) (Nat.zero_le _) (Nat.zero_le _) (by omega) (by omega)) ?_)
        rw [List.nil_append, List.drop_zero]
        exact congrArg (fun z => (z, (0 : Int))) i2.symm
    · simp only [if_neg h0]
      exact Ev.now _
end
end Go.Proofs.YtenphgclongphaaGreatDoor.Pk
namespace Go.Proofs.YtenphgclongphaaGreatDoor.Pk
open Go.RowKit Go.Proofs.YtenphgclongphaaGreatDoor.GBase Go.Proofs.YtenphgclongphaaGreatDoorW.PrintWords Go.Proofs.YtenphgclongphaaGreatDoorW.PrintLast Go.Proofs.YtenphgclongphaaGreatDoorW.PrintMore
set_option linter.unusedVariables false
set_option linter.unusedSimpArgs false
theorem krl (T : List (List Int)) (p : Nat) : rd_L2 T (p : Int) = T.getD p [] := by simp [rd_L2]
theorem getD_put {T : List (List Int)} {i : Nat} (r : List Int) (hi : i < T.length) : (T.set i r).getD i [] = r := by
  simp [List.getD_eq_getElem?_getD, hi]
theorem getD_far {T : List (List Int)} {i p : Nat} (r : List Int) (h : i ≠ p) : (T.set i r).getD p [] = T.getD p [] := by
  simp [List.getD_eq_getElem?_getD, List.getElem?_set_ne h]
def Hd (a b : List ByteArray) (T : List (List Int)) (i j : Nat) : Prop :=
  T.length = a.length + 1 ∧ (∀ p, p ≤ a.length → (T.getD p []).length = b.length + 1) ∧ ∀ p q, p ≤ a.length → q ≤ b.length → (i < p ∨ (p = i ∧ j ≤ q) ∨ q = b.length) → (T.getD p [])[q]? = some (lcs (a.drop p) (b.drop q) : Int)
theorem Hd.put {a b : List ByteArray} {T : List (List Int)} {i j : Nat} (h : Hd a b T i (j + 1)) (hi : i < a.length) (hj : j < b.length) (r : List Int) (v : Int) (hr : r = (T.getD i []).set j v) (hv : v = (lcs (a.drop i) (b.drop j) : Int)) : Hd a b (T.set i r) i j := by
  subst hr
  subst hv
  have hil : i < T.length := by rw [h.1]; omega
  refine ⟨by rw [List.length_set]; exact h.1, fun p hp => ?_, fun p q hp hq hc => ?_⟩
  · by_cases e : i = p
    · subst e
      rw [getD_put _ hil, List.length_set]
      exact h.2.1 i hp
    · rw [getD_far _ e]
      exact h.2.1 p hp
  · by_cases e : i = p
    · subst e
      rw [getD_put _ hil]
      by_cases e2 : j = q
      · subst e2
        rw [List.getElem?_set_self (by rw [h.2.1 i hp]; omega)]
      · rw [List.getElem?_set_ne e2]
        refine h.2.2 i q hp hq ?_
        rcases hc with hc | hc | hc
        · exact .inl hc
        · exact .inr (.inl ⟨rfl, by omega⟩)
        · exact .inr (.inr hc)
    · rw [getD_far _ e]
      refine h.2.2 p q hp hq ?_
      rcases hc with hc | hc | hc
      · exact .inl hc
      · exact absurd hc.1.symm e
      · exact .inr (.inr hc)
def AllR (a b : List ByteArray) (T : List (List Int)) : Prop := T.length = a.length + 1 ∧ (∀ p, p ≤ a.length → (T.getD p []).length = b.length + 1) ∧ ∀ p q, p ≤ a.length → q ≤ b.length → (T.getD p [])[q]? = some (lcs (a.drop p) (b.drop q) : Int)
theorem keptOf_rows (a b : List ByteArray) (R : List S76) (hn : a.length ≤ 4000) (hm : b.length ≤ 4000)
    (fin : ∀ T, AllR a b T → Ev (fun k => chaseref1_keptOf.l3 k a b T [] 0 (a.length : Int) 0) R) :
    ∀ i, i ≤ a.length → ∀ T, Hd a b T i 0 → Ev (fun k => chaseref1_keptOf.l1 k a b T (wrap64 ((i : Int) - 1))) R := by
  intro i
  induction i with
  | zero =>
    intro _ T h
    refine Ev.step (fun _ => chaseref1_keptOf.l1.eq_2 ..) (ev_neg (by rw [wr64 (by omega) (by omega)]; omega) (fin T ⟨h.1, h.2.1, fun p q hp hq => h.2.2 p q hp hq ?_⟩))
    rcases Nat.eq_zero_or_pos p with e | e
    · exact .inr (.inl ⟨e, Nat.zero_le _⟩)
    · exact .inl e
  | succ i ih =>
    intro hi T h
    have inner : ∀ j, j ≤ b.length → ∀ T, Hd a b T i j → Ev (fun k => chaseref1_keptOf.l2 k a b T (i : Int) (wrap64 ((j : Int) - 1))) R := by
      intro j
      induction j with
      | zero =>
        intro _ T h
        exact Ev.step (fun _ => chaseref1_keptOf.l2.eq_2 ..) (ev_neg (by rw [wr64 (by omega) (by omega)]; omega) (ih (by omega) T h))
      | succ j jh =>
        intro hj T h
        have hil : i < a.length := by omega
        have hjl : j < b.length := by omega
        have w1 := Aside0.mk (kadd1 i (by omega))
        have w2 := Aside0.mk (kadd1 j (by omega))
        have tl := h.1
        have c1 := h.2.1 i (by omega)
        have c2 := h.2.1 (i + 1) (by omega)
        have e1 := krdi (h.2.2 (i + 1) (j + 1) (by omega) (by omega) (.inl (by omega)))
        have e2 := krdi (h.2.2 (i + 1) j (by omega) (by omega) (.inl (by omega)))
        have e3 := krdi (h.2.2 i (j + 1) (by omega) (by omega) (.inr (.inl ⟨rfl, by omega⟩)))
        have next := jh (by omega)
        have tab := lcs_tab2 a b i j hil hjl
        have bd := lcs_le1 (a.drop (i + 1)) (b.drop (j + 1))
        rw [List.length_drop] at bd
        have w3 := Aside0.mk (kadd1 (lcs (a.drop (i + 1)) (b.drop (j + 1))) (by omega))
        have hput := h.put hil hjl
        rw [ksub1 j (by omega)]
        refine Ev.step (fun _ => chaseref1_keptOf.l2.eq_2 ..) (ev_pos (by omega) (ev_pos (by omega) (ev_pos (by omega) ?_)))
        simp only [w1.out, w2.out, krl, e1, e2, e3, Int.toNat_natCast, krd a i hil, krd b j hjl]
        refine ev_pos (by omega) (ev_pos (by omega) (ev_pos (by omega) (ev_pos (by omega) (ev_pos (by omega) (ev_pos (by omega) (ev_pos (by omega) (ev_bindc rfl (ev_pos (by omega) (ev_pos (by omega) ?_)))))))))
        have g1 : ∀ r : List Int, (T.set i r).getD i [] = r := fun r => getD_put r (by omega)
        have g2 : ∀ r : List Int, (T.set i r).getD (i + 1) [] = T.getD (i + 1) [] := fun r => getD_far r (by omega)
        have g3 : ∀ v : Int, rd ((T.getD i []).set j v) (j : Int) = v := fun v => krdi (List.getElem?_set_self (by omega))
        simp only [g1, g2, g3, e1, w3.out, List.set_set]
        by_cases e : a[i].toList = b[j].toList
        · rw [if_pos e] at tab
          refine ev_pos e (ev_pos (by rw [List.length_set]; omega) (ev_pos (by omega) (next _ (hput _ _ rfl ?_))))
          rw [tab]
          unfold mx
          split <;> split <;> omega
        · rw [if_neg e] at tab
          refine ev_neg e (next _ (hput _ _ rfl ?_))
          rw [tab]
          unfold mx
          split <;> omega
    rw [ksub1 i (by omega)]
    refine Ev.step (fun _ => chaseref1_keptOf.l1.eq_2 ..) (ev_pos (by omega) (inner b.length (Nat.le_refl _) T ⟨h.1, h.2.1, fun p q hp hq hc => h.2.2 p q hp hq ?_⟩))
    rcases hc with hc | hc | hc
    · rcases Nat.lt_or_ge (i + 1) p with e | e
      · exact .inl e
      · exact .inr (.inl ⟨by omega, Nat.zero_le _⟩)
    · exact .inr (.inr (by omega))
    · exact .inr (.inr hc)
theorem keptOf_pick (a b : List ByteArray) (hn : a.length ≤ 4000) (hm : b.length ≤ 4000) (T : List (List Int)) (hT : AllR a b T) (d : Nat) : ∀ (i j : Nat) (acc : List S76), a.length - i ≤ d → i ≤ a.length → j ≤ b.length → acc.length ≤ i →
    Ev (fun k => chaseref1_keptOf.l3 k a b T acc (j : Int) (a.length : Int) (i : Int)) (acc ++ sel (a.drop i) (b.drop j) i j) := by
  induction d with
  | zero =>
    intro i j acc hd hi hj ha
    rw [show a.drop i = [] from List.drop_eq_nil_of_le (by omega)]
    simp only [sel, List.append_nil]
    exact Ev.step (fun _ => chaseref1_keptOf.l3.eq_2 ..) (ev_neg (by omega) (Ev.now _))
  | succ d ih =>
    intro i j acc hd hi hj ha
    by_cases hil : i < a.length
    · have w1 := Aside0.mk (kadd1 i (by omega))
      have hskip := ih (i + 1) j acc (by omega) (by omega) hj (by omega)
      have hhit : ∀ q, q < b.length → Ev (fun k => chaseref1_keptOf.l3 k a b T (acc ++ [⟨(i : Int), (q : Int)⟩]) ((q + 1 : Nat) : Int) (a.length : Int) ((i + 1 : Nat) : Int)) (acc ++ ((⟨(i : Int), (q : Int)⟩ : S76) :: sel (a.drop (i + 1)) (b.drop (q + 1)) (i + 1) (q + 1))) := fun q hq =>
        ev_eq (ih (i + 1) (q + 1) _ (by omega) (by omega) (by omega) (by rw [List.length_append]; simp only [List.length_cons, List.length_nil]; omega)) (by rw [List.append_assoc]; rfl)
      have r1 := krdi (hT.2.2 i j (by omega) hj)
      have c1 := hT.2.1 i (by omega)
      have c2 := hT.2.1 (i + 1) (by omega)
      have tl := hT.1
      have scan : ∀ (dd q : Nat), b.length - q ≤ dd → q ≤ b.length → Ev (fun k => chaseref1_keptOf.l4 k a b T acc (j : Int) (i : Int) (q : Int) (a.length : Int) (i : Int))
          (match nxtP a[i] (a.drop (i + 1)) (lcs (a.drop i) (b.drop j)) (b.drop q) with
            | none => acc ++ sel (a.drop (i + 1)) (b.drop j) (i + 1) j
            | some k => acc ++ ((⟨(i : Int), ((q + k : Nat) : Int)⟩ : S76) :: sel (a.drop (i + 1)) (b.drop (q + k + 1)) (i + 1) (q + k + 1))) := by
        intro dd
        have stop : ∀ q, ¬ q < b.length → Ev (fun k => chaseref1_keptOf.l4 k a b T acc (j : Int) (i : Int) (q : Int) (a.length : Int) (i : Int))
          (match nxtP a[i] (a.drop (i + 1)) (lcs (a.drop i) (b.drop j)) (b.drop q) with
            | none => acc ++ sel (a.drop (i + 1)) (b.drop j) (i + 1) j
            | some k => acc ++ ((⟨(i : Int), ((q + k : Nat) : Int)⟩ : S76) :: sel (a.drop (i + 1)) (b.drop (q + k + 1)) (i + 1) (q + k + 1))) := fun q hq => by
          rw [show b.drop q = [] from List.drop_eq_nil_of_le (by omega)]
          refine Ev.step (fun _ => chaseref1_keptOf.l4.eq_2 ..) (ev_neg (by omega) ?_)
          rw [w1.out]
          exact hskip
        induction dd with
        | zero => exact fun q h1 h2 => stop q (by omega)
        | succ dd jh =>
          intro q h1 h2
          by_cases hq : q < b.length
          · have w2 := Aside0.mk (kadd1 q (by omega))
            have e1 := krdi (hT.2.2 (i + 1) (q + 1) (by omega) (by omega))
            have bd := lcs_le1 (a.drop (i + 1)) (b.drop (q + 1))
            rw [List.length_drop] at bd
            have w3 := Aside0.mk (kadd1 (lcs (a.drop (i + 1)) (b.drop (q + 1))) (by omega))
            have again := jh (q + 1) (by omega) (by omega)
            have shift : (match (nxtP a[i] (a.drop (i + 1)) (lcs (a.drop i) (b.drop j)) (b.drop (q + 1))).map (· + 1) with
                | none => acc ++ sel (a.drop (i + 1)) (b.drop j) (i + 1) j
                | some k => acc ++ ((⟨(i : Int), ((q + k : Nat) : Int)⟩ : S76) :: sel (a.drop (i + 1)) (b.drop (q + k + 1)) (i + 1) (q + k + 1))) =
                (match nxtP a[i] (a.drop (i + 1)) (lcs (a.drop i) (b.drop j)) (b.drop (q + 1)) with
                | none => acc ++ sel (a.drop (i + 1)) (b.drop j) (i + 1) j
                | some k => acc ++ ((⟨(i : Int), ((q + 1 + k : Nat) : Int)⟩ : S76) :: sel (a.drop (i + 1)) (b.drop (q + 1 + k + 1)) (i + 1) (q + 1 + k + 1))) := by
              cases nxtP a[i] (a.drop (i + 1)) (lcs (a.drop i) (b.drop j)) (b.drop (q + 1)) with
              | none => rfl
              | some k =>
                simp only [Option.map_some]
                rw [show q + (k + 1) = q + 1 + k from by omega]
            refine Ev.step (fun _ => chaseref1_keptOf.l4.eq_2 ..) (ev_pos (by omega) (ev_pos (by omega) (ev_pos (by omega) (ev_pos (by omega) ?_))))
            simp only [w1.out, w2.out, krl, e1, r1, w3.out, krd a i hil, krd b q hq]
            rw [show b.drop q = b[q] :: b.drop (q + 1) from List.drop_eq_getElem_cons hq]
            simp only [nxtP]
            by_cases e : a[i].toList = b[q].toList
            · refine ev_pos e (ev_pos (by omega) (ev_pos (by omega) (ev_pos (by omega) (ev_pos (by omega) (ev_pos (by omega) (ev_pos (by omega) (ev_pos (by omega) ?_)))))))
              by_cases c : lcs (a.drop (i + 1)) (b.drop (q + 1)) + 1 = lcs (a.drop i) (b.drop j)
              · rw [if_pos ⟨e, c⟩]
                exact ev_pos (by omega) (ev_pos (by omega) (hhit q hq))
              · rw [if_neg (fun z => c z.2), shift]
                exact ev_neg (by omega) again
            · rw [if_neg (fun z => e z.1), shift]
              exact ev_neg e again
          · exact stop q hq
      have hda := List.drop_eq_getElem_cons hil
      refine Ev.step (fun _ => chaseref1_keptOf.l3.eq_2 ..) (ev_pos (by omega) (ev_eq (scan _ j (Nat.le_refl _) hj) ?_))
      rw [hda, nxtP_eq _ _ _ _ (Nat.le_refl _)]
      simp only [sel]
      cases nxt a[i] (b.drop j) with
      | none => rfl
      | some q =>
        have hdd : (b.drop j).drop (q + 1) = b.drop (j + q + 1) := by rw [List.drop_drop]; congr 1
        simp only [hdd]
        by_cases c : lcs (a.drop (i + 1)) (b.drop (j + q + 1)) + 1 = lcs (a[i] :: a.drop (i + 1)) (b.drop j)
        · simp only [if_pos c]
        · simp only [if_neg c]
    · rw [show a.drop i = [] from List.drop_eq_nil_of_le (by omega)]
      simp only [sel, List.append_nil]
      exact Ev.step (fun _ => chaseref1_keptOf.l3.eq_2 ..) (ev_neg (by omega) (Ev.now _))
theorem keptOf_fill (a b : List ByteArray) (R : List S76) (hn : a.length ≤ 4000) (hm : b.length ≤ 4000)
    (fin : Ev (fun k => chaseref1_keptOf.l1 k a b (List.replicate (a.length + 1) (List.replicate (b.length + 1) 0)) (wrap64 ((a.length : Int) - 1))) R) (d : Nat) : ∀ p, a.length + 1 - p ≤ d → p ≤ a.length + 1 →
    Ev (fun k => chaseref1_keptOf.l0 k a b (List.replicate p (List.replicate (b.length + 1) 0) ++ List.replicate (a.length + 1 - p) []) ((a.length + 1 : Nat) : Int) (p : Int)) R := by
  have stop : ∀ p, ¬ p < a.length + 1 → p ≤ a.length + 1 → Ev (fun k => chaseref1_keptOf.l0 k a b (List.replicate p (List.replicate (b.length + 1) 0) ++ List.replicate (a.length + 1 - p) []) ((a.length + 1 : Nat) : Int) (p : Int)) R := fun p h1 h2 => by
    obtain rfl : p = a.length + 1 := by omega
    rw [Nat.sub_self, List.replicate_zero, List.append_nil]
    exact Ev.step (fun _ => chaseref1_keptOf.l0.eq_2 ..) (ev_neg (by omega) fin)
  induction d with
  | zero => exact fun p h1 h2 => stop p (by omega) h2
  | succ d ih =>
    intro p h1 h2
    by_cases hp : p < a.length + 1
    · have w1 := kadd1 p (by omega)
      have w2 := kadd1 b.length (by omega)
      have hs : (List.replicate p (List.replicate (b.length + 1) (0 : Int)) ++ List.replicate (a.length + 1 - p) []).set p (List.replicate (b.length + 1) 0) = List.replicate (p + 1) (List.replicate (b.length + 1) 0) ++ List.replicate (a.length + 1 - (p + 1)) [] := by
        generalize List.replicate (b.length + 1) (0 : Int) = row
        rw [List.set_append, if_neg (by rw [List.length_replicate]; omega), List.length_replicate, Nat.sub_self, show a.length + 1 - p = (a.length + 1 - (p + 1)) + 1 from by omega, List.replicate_succ (n := a.length + 1 - (p + 1)), List.set_cons_zero, List.replicate_succ' (n := p), List.append_assoc]
        rfl
      refine Ev.step (fun _ => chaseref1_keptOf.l0.eq_2 ..) (ev_pos (by omega) ?_)
      simp only [w1, w2, Int.toNat_natCast, hs]
      refine ev_pos (by omega) (ev_pos (by omega) (ev_pos (by omega) (ev_pos ?_ (ih (p + 1) (by omega) (by omega)))))
      simp only [List.length_append, List.length_replicate]
      omega
    · exact stop p hp h2
theorem keptOf_ev (a b : List ByteArray) (hn : a.length ≤ 4000) (hm : b.length ≤ 4000) : Ev (fun k => chaseref1_keptOf.f k a b) (sel a b 0 0) := by
  have w1 := kadd1 a.length (by omega)
  refine Ev.congr (fun _ => chaseref1_keptOf.f.eq_1 ..) ?_
  simp only [w1, Int.toNat_natCast]
  refine ev_pos (by omega) (ev_pos (by omega) (ev_bindc rfl ?_))
  rw [List.length_replicate]
  refine keptOf_fill a b _ hn hm (keptOf_rows a b _ hn hm (fun T hT => ?_) a.length (Nat.le_refl _) _ ⟨List.length_replicate, fun p hp => ?_, fun p q hp hq hc => ?_⟩) _ 0 (Nat.le_refl _) (Nat.zero_le _)
  · have := keptOf_pick a b hn hm T hT _ 0 0 [] (Nat.le_refl _) (Nat.zero_le _) (Nat.zero_le _) (Nat.le_refl _)
    rw [List.drop_zero, List.drop_zero, List.nil_append] at this
    exact this
  · rw [List.getD_eq_getElem?_getD, List.getElem?_replicate, if_pos (by omega), Option.getD_some, List.length_replicate]
  · rw [List.getD_eq_getElem?_getD, List.getElem?_replicate, if_pos (by omega), Option.getD_some, List.getElem?_replicate, if_pos (by omega)]
    rcases hc with hc | hc | hc
    · omega
    · rw [show a.drop p = [] from List.drop_eq_nil_of_le (by omega), lcs_nil]; rfl
    · rw [show b.drop q = [] from List.drop_eq_nil_of_le (by omega), lcs_nil2]; rfl
end Go.Proofs.YtenphgclongphaaGreatDoor.Pk
namespace Go.Proofs.YtenphgclongphaaGreatDoor.Pk
open Go.RowKit Go.Proofs.YtenphgclongphaaGreatDoor.GBase Go.Proofs.YtenphgclongphaaGreatDoorW.PrintWords Go.Proofs.YtenphgclongphaaGreatDoorW.PrintLast Go.Proofs.YtenphgclongphaaGreatDoorW.PrintMore
set_option linter.unusedVariables false
set_option linter.unusedSimpArgs false
def chC : List S34 → Nat
  | [] => 0
  | c :: r => sz1 c.f1 + sz1 c.f2 + 10 + chC r
def CW (n : Nat) : Nat → List S34 → Prop
  | _, [] => True
  | t, c :: r => ∃ p : Nat, c.f0 = (p : Int) ∧ t ≤ p ∧ p + c.f1.length ≤ n ∧ CW n (p + c.f1.length) r
theorem CW.mono {n : Nat} : ∀ {L : List S34} {t t' : Nat}, CW n t' L → t ≤ t' → CW n t L
  | [], _, _, _, _ => trivial
  | c :: r, _, _, ⟨p, h1, h2, h3, h4⟩, h => ⟨p, h1, by omega, h3, h4⟩
theorem sz1_cut (a : List ByteArray) (i x : Nat) (h : i ≤ x) (hx : x ≤ a.length) : sz1 ((a.take x).drop i) + sz1 (a.drop x) = sz1 (a.drop i) := by
  rw [← sz1_append, ← List.drop_append_of_le_length (by rw [List.length_take]; omega), List.take_append_drop]
theorem sz1_drop1 (a : List ByteArray) (x : Nat) : sz1 (a.drop (x + 1)) ≤ sz1 (a.drop x) := by
  by_cases h : x < a.length
  · rw [List.drop_eq_getElem_cons h]
    simp only [sz1]
    omega
  · rw [show a.drop x = [] from List.drop_eq_nil_of_le (by omega), show a.drop (x + 1) = [] from List.drop_eq_nil_of_le (by omega)]
    exact Nat.le_refl _
theorem clone_is (l : List ByteArray) (h : l.length ≤ 100000) : slices_Clone_string_string.f l = some l := by
  unfold slices_Clone_string_string.f
  rw [if_pos (by omega)]
theorem rdP (P : List S76) (p : Nat) (h : p < P.length) : rd_T76 P (p : Int) = P[p] := by
  simp [rd_T76, List.getD_eq_getElem?_getD, List.getElem?_eq_getElem h]
theorem differ_loop (a b : List ByteArray) (hn : a.length ≤ 4000) (hm : b.length ≤ 4000) (P : List S76) (hP : P.length ≤ 5000) (d : Nat) : ∀ (p i j : Nat) (acc : List S34), P.length - p ≤ d → p ≤ P.length → Rise a.length b.length i j (P.drop p) → acc.length ≤ p →
    ∃ L, Ev (fun k => chaseref1_DifferOf.l0 k a b acc (i : Int) (j : Int) P (P.length : Int) (p : Int)) (acc ++ L) ∧ CW a.length i L ∧ chC L ≤ sz1 (a.drop i) + sz1 (b.drop j) + 10 * (P.length - p) ∧ L.length ≤ P.length - p := by
  have stop : ∀ (p i j : Nat) (acc : List S34), ¬ p < P.length → ∃ L, Ev (fun k => chaseref1_DifferOf.l0 k a b acc (i : Int) (j : Int) P (P.length : Int) (p : Int)) (acc ++ L) ∧ CW a.length i L ∧ chC L ≤ sz1 (a.drop i) + sz1 (b.drop j) + 10 * (P.length - p) ∧ L.length ≤ P.length - p := fun p i j acc h =>
    ⟨[], Ev.step (fun _ => chaseref1_DifferOf.l0.eq_2 ..) (ev_neg (by omega) (ev_val (by rw [List.append_nil]))), trivial, Nat.zero_le _, Nat.zero_le _⟩
  induction d with
  | zero => exact fun p i j acc h1 h2 _ _ => stop p i j acc (by omega)
  | succ d ih =>
    intro p i j acc h1 h2 hr ha
    by_cases hp : p < P.length
    · rw [List.drop_eq_getElem_cons hp] at hr
      obtain ⟨r1, r2, r3, r4, r5⟩ := hr
      have w3 := Aside0.mk (kadd1 p (by omega))
      have ep := rdP P p hp
      generalize P[p] = c at *
      obtain ⟨f0, f1⟩ := c
      simp only [] at r1 r2 r3 r4 r5
      obtain ⟨x, rfl⟩ := Int.eq_ofNat_of_zero_le (show 0 ≤ f0 by omega)
      obtain ⟨y, rfl⟩ := Int.eq_ofNat_of_zero_le (show 0 ≤ f1 by omega)
      have w1 := Aside0.mk (kadd1 x (by omega))
      have w2 := Aside0.mk (kadd1 y (by omega))
      have r5' : Rise a.length b.length ((x + 1 : Nat) : Int) ((y + 1 : Nat) : Int) (P.drop (p + 1)) := r5
      have cA := sz1_cut a i x (by omega) (by omega)
      have cB := sz1_cut b j y (by omega) (by omega)
      have dA := sz1_drop1 a x
      have dB := sz1_drop1 b y
      have lA : ((a.take x).drop i).length = x - i := by rw [List.length_drop, List.length_take]; omega
      have lB : ((b.take y).drop j).length = y - j := by rw [List.length_drop, List.length_take]; omega
      have add : ∃ L, Ev (fun k => chaseref1_DifferOf.j1 k a b acc (i : Int) (j : Int) P (P.length : Int) (p : Int) true (x : Int) (y : Int)) (acc ++ L) ∧ CW a.length i L ∧ chC L ≤ sz1 (a.drop i) + sz1 (b.drop j) + 10 * (P.length - p) ∧ L.length ≤ P.length - p := by
        obtain ⟨L, l1, l2, l3, l4⟩ := ih (p + 1) (x + 1) (y + 1) (acc ++ [⟨(i : Int), (a.take x).drop i, (b.take y).drop j⟩]) (by omega) (by omega) r5' (by rw [List.length_append]; simp only [List.length_cons, List.length_nil]; omega)
        refine ⟨⟨(i : Int), (a.take x).drop i, (b.take y).drop j⟩ :: L, Ev.step (fun _ => chaseref1_DifferOf.j1.eq_2 ..) ?_, ⟨i, rfl, Nat.le_refl _, by simp only [lA]; omega, l2.mono (by simp only [lA]; omega)⟩, ?_, ?_⟩
        · simp only [Int.toNat_natCast, w1.out, w2.out, w3.out]
          refine ev_pos (by trivial) (ev_pos (by omega) (ev_pos (by omega) (ev_pos (by omega) (ev_bindc (clone_is _ (by omega)) (ev_pos (by omega) (ev_pos (by omega) (ev_pos (by omega) (ev_bindc (clone_is _ (by omega)) (ev_pos (by omega) (ev_eq l1 ?_))))))))))
          rw [List.append_assoc]
          rfl
        · simp only [chC]
          omega
        · simp only [List.length_cons]
          omega
      have skip : ∃ L, Ev (fun k => chaseref1_DifferOf.j1 k a b acc (i : Int) (j : Int) P (P.length : Int) (p : Int) false (x : Int) (y : Int)) (acc ++ L) ∧ CW a.length i L ∧ chC L ≤ sz1 (a.drop i) + sz1 (b.drop j) + 10 * (P.length - p) ∧ L.length ≤ P.length - p := by
        obtain ⟨L, l1, l2, l3, l4⟩ := ih (p + 1) (x + 1) (y + 1) acc (by omega) (by omega) r5' (by omega)
        refine ⟨L, Ev.step (fun _ => chaseref1_DifferOf.j1.eq_2 ..) ?_, l2.mono (by omega), by omega, by omega⟩
        simp only [w1.out, w2.out, w3.out]
        exact ev_neg (by decide) l1
      by_cases c1 : (i : Int) < (x : Int)
      · obtain ⟨L, l1, l2⟩ := add
        refine ⟨L, Ev.step (fun _ => chaseref1_DifferOf.l0.eq_2 ..) (ev_pos (by omega) (ev_pos (by omega) (ev_pos (by omega) ?_))), l2⟩
        simp only [ep]
        exact ev_pos c1 l1
      · by_cases c2 : (j : Int) < (y : Int)
        · obtain ⟨L, l1, l2⟩ := add
          refine ⟨L, Ev.step (fun _ => chaseref1_DifferOf.l0.eq_2 ..) (ev_pos (by omega) (ev_pos (by omega) (ev_pos (by omega) ?_))), l2⟩
          simp only [ep, decide_eq_true c2]
          exact ev_neg c1 l1
        · obtain ⟨L, l1, l2⟩ := skip
          refine ⟨L, Ev.step (fun _ => chaseref1_DifferOf.l0.eq_2 ..) (ev_pos (by omega) (ev_pos (by omega) (ev_pos (by omega) ?_))), l2⟩
          simp only [ep, decide_eq_false c2]
          exact ev_neg c1 l1
    · exact stop p i j acc hp
theorem DifferOf_ev (s t : ByteArray) (hs : s.size ≤ 600) (ht : t.size ≤ 600) : ∃ L, Ev (fun k => chaseref1_DifferOf.f k s t) L ∧ CW (tokB s).length 0 L ∧ chC L ≤ sz1 (tokB s) + sz1 (tokB t) + 10 * ((tokB s).length + 1) ∧ L.length ≤ (tokB s).length + 1 := by
  have hn : (tokB s).length ≤ 4000 := by have := tokB_sz s; have := len_le_sz1 (tokB s); omega
  have hm : (tokB t).length ≤ 4000 := by have := tokB_sz t; have := len_le_sz1 (tokB t); omega
  have hlen := sel_len (tokB s) (tokB t) 0 0
  have hPl : (sel (tokB s) (tokB t) 0 0 ++ ([⟨((tokB s).length : Int), ((tokB t).length : Int)⟩] : List S76)).length ≤ (tokB s).length + 1 := by rw [List.length_append]; simp only [List.length_cons, List.length_nil]; omega
  have hrise := sel_rise (tokB s).length (tokB t).length (tokB s) (tokB t) 0 0 (by omega) (by omega)
  obtain ⟨L, l1, l2, l3, l4⟩ := differ_loop (tokB s) (tokB t) hn hm (sel (tokB s) (tokB t) 0 0 ++ ([⟨((tokB s).length : Int), ((tokB t).length : Int)⟩] : List S76)) (by omega) _ 0 0 0 [] (Nat.le_refl _) (Nat.zero_le _) hrise (Nat.le_refl _)
  rw [List.drop_zero, List.drop_zero] at l3
  rw [List.nil_append] at l1
  refine ⟨L, ?_, l2, by omega, by omega⟩
  exact Ev.congr (fun _ => chaseref1_DifferOf.f.eq_1 ..) (Ev.bind (tokB_ev2 s (by omega)) (Ev.bind (tokB_ev2 t (by omega)) (Ev.bind (keptOf_ev (tokB s) (tokB t) hn hm) (ev_pos (by omega) (ev_bindc rfl l1)))))
end Go.Proofs.YtenphgclongphaaGreatDoor.Pk
namespace Go.Proofs.YtenphgclongphaaGreatDoor.Pk
open Go.RowKit Go.Proofs.YtenphgclongphaaGreatDoor.GBase Go.Proofs.YtenphgclongphaaGreatDoorW.PrintWords Go.Proofs.YtenphgclongphaaGreatDoorW.PrintLast
set_option linter.unusedVariables false
set_option linter.unusedSimpArgs false
theorem Below_is (x n : Int) (hn : n ≤ 4611686018427387904) (hx : -9223372036854775808 ≤ x) : ∃ r, chasemake_Below.f x n = some r ∧ 0 ≤ r ∧ (1 ≤ n → r < n) ∧ (n < 1 → r = 0) := by
  unfold chasemake_Below.f
  by_cases h : n < 1
  · rw [if_pos h]; exact ⟨0, rfl, by omega, by omega, fun _ => rfl⟩
  · rw [if_neg h, if_neg (by omega)]
    have h1 := Int.tmod_lt_of_pos x (b := n) (by omega)
    have h2 : -n < Int.tmod x n := by
      have := Int.tmod_lt_of_pos (-x) (b := n) (by omega)
      rw [Int.neg_tmod] at this
      omega
    by_cases h3 : Int.tmod x n < 0
    · rw [if_pos h3]; exact ⟨_, rfl, by rw [wr64 (by omega) (by omega)]; omega, by rw [wr64 (by omega) (by omega)]; omega, by omega⟩
    · rw [if_neg h3]; exact ⟨_, rfl, by omega, fun _ => h1, by omega⟩
theorem wrap_ge (x : Int) : -9223372036854775808 ≤ wrap64 x := by unfold wrap64; omega
def Nums (l : List Int) : Prop := l.length * 8 ≤ 140737488351232 ∧ ∀ x ∈ l, (Lit.int .i64 x).wf = true
theorem Nums.ge {l : List Int} (h : Nums l) (i : Int) : -9223372036854775808 ≤ rd l i := by
  unfold rd
  by_cases hi : i.toNat < l.length
  · have h1 := h.2 _ (List.getElem_mem hi)
    have h2 : IntKind.i64.min ≤ l[i.toNat] := by
      simp only [Lit.wf, Bool.and_eq_true, decide_eq_true_eq] at h1
      exact h1.1
    have h3 : IntKind.i64.min = -9223372036854775808 := by decide
    simp [List.getD, hi]
    omega
  · simp [List.getD, hi]
theorem Next_is (l : List Int) (at_ n : Int) (hl : Nums l) (h0 : 0 ≤ at_) (h1 : at_ < 1099511627776) (hn : n ≤ 4611686018427387904) :
    ∃ r, chasemake_Stream_Next.f l at_ n = some (r, at_ + 1) ∧ 0 ≤ r ∧ (1 ≤ n → r < n) ∧ (n < 1 → r = 0) := by
  have hw : wrap64 (at_ + 1) = at_ + 1 := wr64 (by omega) (by omega)
  have hw2 : wrap64 (at_ + 1 - 1) = at_ := by rw [wr64 (by omega) (by omega)]; omega
  unfold chasemake_Stream_Next.f
  rw [hw, hw2]
  by_cases hz : (l.length : Int) = 0
  · rw [if_pos hz]
    obtain ⟨r, hr, h⟩ := Below_is (wrap64 ((at_ + 1) * 7919)) n hn (wrap_ge _)
    rw [hr]
    exact ⟨r, rfl, h⟩
  · rw [if_neg hz]
    have h2 := Int.tmod_lt_of_pos at_ (b := (l.length : Int)) (by omega)
    have h3 := Int.tmod_nonneg (l.length : Int) h0
    rw [if_pos h3, if_pos h2]
    obtain ⟨r1, hr1, _⟩ := Below_is (rd l (Int.tmod at_ (l.length : Int))) 1073741824 (by omega) (hl.ge _)
    rw [hr1, Option.bind_some]
    obtain ⟨r, hr, h⟩ := Below_is (wrap64 (r1 + (wrap64 ((wrap64 (Int.tdiv at_ (l.length : Int))) * (wrap64 (7919 + (Int.tmod at_ (l.length : Int)))))))) n hn (wrap_ge _)
    rw [hr]
    exact ⟨r, rfl, h⟩
theorem one_is (l : List Int) (at_ : Int) (xs : List ByteArray) (hl : Nums l) (h0 : 0 ≤ at_) (h1 : at_ < 1099511627776) (hx : 0 < xs.length) (hm : xs.length < 1000) :
    ∃ x ∈ xs, chasemake_Stream_h06one.f l at_ xs = some (x, at_ + 1) := by
  obtain ⟨r, hr, h2, h3, _⟩ := Next_is l at_ (xs.length : Int) hl h0 h1 (by omega)
  have h4 := h3 (by omega)
  unfold chasemake_Stream_h06one.f
  rw [hr, Option.bind_some, if_pos h2, if_pos h4]
  have hi : r.toNat < xs.length := by omega
  refine ⟨xs[r.toNat], List.getElem_mem hi, ?_⟩
  simp [rdOf, List.getD, hi]
theorem Flip_is (l : List Int) (at_ n : Int) (hl : Nums l) (h0 : 0 ≤ at_) (h1 : at_ < 1099511627776) (hn : n ≤ 4611686018427387904) :
    ∃ b, chasemake_Stream_Flip.f l at_ n = some (b, at_ + 1) := by
  obtain ⟨r, hr, _⟩ := Next_is l at_ n hl h0 h1 hn
  unfold chasemake_Stream_Flip.f
  rw [hr]
  exact ⟨_, rfl⟩
theorem Range_is (l : List Int) (at_ a b : Int) (hl : Nums l) (h0 : 0 ≤ at_) (h1 : at_ < 1099511627776) (ha : -1000000 ≤ a) (hab : a ≤ b) (hb : b ≤ 1000000) :
    ∃ r, chasemake_Stream_Range.f l at_ a b = some (r, at_ + 1) ∧ a ≤ r ∧ r ≤ b := by
  have w : wrap64 ((wrap64 (b - a)) + 1) = b - a + 1 := by rw [wr64 (x := b - a) (by omega) (by omega), wr64 (by omega) (by omega)]
  obtain ⟨r, hr, h2, h3, _⟩ := Next_is l at_ (b - a + 1) hl h0 h1 (by omega)
  have h4 := h3 (by omega)
  unfold chasemake_Stream_Range.f
  rw [if_neg (by omega), w, hr, Option.bind_some]
  exact ⟨_, rfl, by simp only; rw [wr64 (by omega) (by omega)]; omega, by simp only; rw [wr64 (by omega) (by omega)]; omega⟩
theorem Changed_ev (l : List Int) (at_ : Int) (s a : ByteArray) (hl : Nums l) (h0 : 0 ≤ at_) (h1 : at_ < 1099511627000) (hs : s.size ≤ 1000000) (ha : 0 < a.size) (ha2 : a.size ≤ 1000) :
    ∃ (t : ByteArray) (at' : Int), Ev (fun k => chasemake_Stream_Changed.f k l at_ s a) (t, at') ∧ t.size ≤ s.size + a.size + 4 ∧ at_ ≤ at' ∧ at' ≤ at_ + 3 := by
  unfold chasemake_Stream_Changed.f
  by_cases hz : s.toList = ([] : List UInt8)
  · exact ⟨a, at_, ev_pos hz (Ev.step (fun _ => chasemake_Stream_Changed.j0.eq_2 ..) (ev_pos rfl (ev_val rfl))), by omega, by omega, by omega⟩
  · have hs0 : 0 < s.size := by
      rcases Nat.eq_zero_or_pos s.size with h | h
      · exfalso
        apply hz
        rw [Lib.toList_data]
        exact List.eq_nil_of_length_eq_zero (by simpa using h)
      · exact h
    have ha0 : ¬ (a.toList == ([] : List UInt8)) = true := by
      rw [Lib.toList_data]
      intro h
      have h2 := congrArg List.length (eq_of_beq h)
      have h3 : a.data.toList.length = a.size := by simp
      rw [h2] at h3
      have h4 : ([] : List UInt8).length = 0 := rfl
      omega
    obtain ⟨p, hp, p0, p1, _⟩ := Next_is l at_ (s.size : Int) hl h0 (by omega) (by omega)
    have p2 := p1 (by omega)
    obtain ⟨q, hq, q0, q1, _⟩ := Next_is l (at_ + 1) (a.size : Int) hl (by omega) (by omega) (by omega)
    have q2 := q1 (by omega)
    obtain ⟨r, hr, r0, r1, _⟩ := Next_is l (at_ + 1 + 1) 3 hl (by omega) (by omega) (by omega)
    have r2 := r1 (by omega)
    have w : wrap64 (p + 1) = p + 1 := wr64 (by omega) (by omega)
    have e1 := encode_size_le (wrap32 (bt a q))
    have x1 : (s.extract 0 (p : Int).toNat).size ≤ s.size := by rw [ByteArray.size_extract]; omega
    have x2 : (s.extract (p : Int).toNat s.size).size ≤ s.size := by rw [ByteArray.size_extract]; omega
    have x3 : (s.extract (p + 1 : Int).toNat s.size).size ≤ s.size := by rw [ByteArray.size_extract]; omega
    have x4 : (s.extract 0 (p : Int).toNat).size + (s.extract (p : Int).toNat s.size).size ≤ s.size := by rw [ByteArray.size_extract, ByteArray.size_extract]; omega
    have x5 : (s.extract 0 (p : Int).toNat).size + (s.extract (p + 1 : Int).toNat s.size).size ≤ s.size := by rw [ByteArray.size_extract, ByteArray.size_extract]; omega
    by_cases c0 : r = 0
    · refine ⟨_, at_ + 1 + 1 + 1, ev_neg hz (Ev.step (fun _ => chasemake_Stream_Changed.j0.eq_2 ..) (ev_neg ha0 (ev_bindc hp (ev_bindc hq (ev_pos q0 (ev_pos q2 (ev_bindc hr (ev_pos c0 (ev_pos p0 (ev_pos (by simp only; omega) (ev_pos (by simp only; omega) (ev_pos (by simp only; omega) (ev_pos (by simp only; omega) (ev_pos (by simp only [ByteArray.size_append, w]; omega) (ev_val rfl))))))))))))))), ?_, by omega, by omega⟩
      simp only [ByteArray.size_append, w]
      omega
    · by_cases c1 : r = 1
      · refine ⟨_, at_ + 1 + 1 + 1, ev_neg hz (Ev.step (fun _ => chasemake_Stream_Changed.j0.eq_2 ..) (ev_neg ha0 (ev_bindc hp (ev_bindc hq (ev_pos q0 (ev_pos q2 (ev_bindc hr (ev_neg c0 (ev_pos c1 (ev_pos p0 (ev_pos (by simp only; omega) (ev_pos (by simp only; omega) (ev_pos (by simp only [ByteArray.size_append]; omega) (ev_val rfl)))))))))))))), ?_, by omega, by omega⟩
        simp only [ByteArray.size_append]
        omega
      · refine ⟨_, at_ + 1 + 1 + 1, ev_neg hz (Ev.step (fun _ => chasemake_Stream_Changed.j0.eq_2 ..) (ev_neg ha0 (ev_bindc hp (ev_bindc hq (ev_pos q0 (ev_pos q2 (ev_bindc hr (ev_neg c0 (ev_neg c1 (ev_pos p0 (ev_pos (by simp only; omega) (ev_pos (by simp only; omega) (ev_pos (by simp only; omega) (ev_pos (by simp only [w]; omega) (ev_val rfl))))))))))))))), ?_, by omega, by omega⟩
        simp only [ByteArray.size_append, w]
        omega
theorem Prose_loop (l : List Int) (hl : Nums l) (n : Int) (hn : n ≤ 100) (d : Nat) : ∀ (i at_ : Int) (t : ByteArray), 0 ≤ i → n - i ≤ d → 0 ≤ at_ → at_ < 1099511627776 - 2 * (d + 1) → t.size < 1099511627776 - 6 * (d + 1) →
    ∃ (t' : ByteArray) (at' : Int), Ev (fun k => chasemake_Stream_Prose.l0 k t n i l at_) (t', at') ∧ t'.size ≤ t.size + 6 * d ∧ at_ ≤ at' ∧ at' ≤ at_ + 2 * d := by
  induction d with
  | zero =>
    intro i at_ t h0 hd ha hb hs
    exact ⟨t, at_, Ev.step (fun _ => chasemake_Stream_Prose.l0.eq_2 ..) (ev_neg (by omega) (ev_val rfl)), by omega, by omega, by omega⟩
  | succ d ih =>
    intro i at_ t h0 hd ha hb hs
    by_cases hlt : i < n
    · have hw : wrap64 (i + 1) = i + 1 := wr64 (by omega) (by omega)
      obtain ⟨x, hx, e1⟩ := one_is l at_ [(⟨#[97]⟩ : ByteArray), (⟨#[98]⟩ : ByteArray), (⟨#[99]⟩ : ByteArray), (⟨#[100]⟩ : ByteArray), (⟨#[101]⟩ : ByteArray), (⟨#[65]⟩ : ByteArray), (⟨#[66]⟩ : ByteArray), (⟨#[105, 116, 39, 115]⟩ : ByteArray), (⟨#[195, 169]⟩ : ByteArray), (⟨#[120, 44]⟩ : ByteArray), (⟨#[57]⟩ : ByteArray)] hl ha (by omega) (by simp) (by simp)
      obtain ⟨y, hy, e2⟩ := one_is l (at_ + 1) [(⟨#[32]⟩ : ByteArray), (⟨#[32]⟩ : ByteArray), (⟨#[32]⟩ : ByteArray), (⟨#[32, 32]⟩ : ByteArray), (⟨#[10]⟩ : ByteArray), (⟨#[10, 10]⟩ : ByteArray), (⟨#[44, 32]⟩ : ByteArray), (⟨#[]⟩ : ByteArray)] hl (by omega) (by omega) (by simp) (by simp)
      have hx4 : x.size ≤ 4 := (by decide : ∀ z ∈ [(⟨#[97]⟩ : ByteArray), (⟨#[98]⟩ : ByteArray), (⟨#[99]⟩ : ByteArray), (⟨#[100]⟩ : ByteArray), (⟨#[101]⟩ : ByteArray), (⟨#[65]⟩ : ByteArray), (⟨#[66]⟩ : ByteArray), (⟨#[105, 116, 39, 115]⟩ : ByteArray), (⟨#[195, 169]⟩ : ByteArray), (⟨#[120, 44]⟩ : ByteArray), (⟨#[57]⟩ : ByteArray)], z.size ≤ 4) x hx
      have hy2 : y.size ≤ 2 := (by decide : ∀ z ∈ [(⟨#[32]⟩ : ByteArray), (⟨#[32]⟩ : ByteArray), (⟨#[32]⟩ : ByteArray), (⟨#[32, 32]⟩ : ByteArray), (⟨#[10]⟩ : ByteArray), (⟨#[10, 10]⟩ : ByteArray), (⟨#[44, 32]⟩ : ByteArray), (⟨#[]⟩ : ByteArray)], z.size ≤ 2) y hy
      obtain ⟨t', at', h, h1, h2, h3⟩ := ih (i + 1) (at_ + 1 + 1) (t ++ (x ++ y)) (by omega) (by omega) (by omega) (by omega) (by simp only [ByteArray.size_append]; omega)
      refine ⟨t', at', Ev.step (fun _ => chasemake_Stream_Prose.l0.eq_2 ..) (ev_pos hlt (ev_bindc e1 (ev_bindc e2 (ev_pos (by simp only; omega) (ev_pos (by simp only [ByteArray.size_append]; omega) ?_))))), by simp only [ByteArray.size_append] at h1; omega, by omega, by omega⟩
      rw [hw]
      exact h
    · exact ⟨t, at_, Ev.step (fun _ => chasemake_Stream_Prose.l0.eq_2 ..) (ev_neg (by omega) (ev_val rfl)), by omega, by omega, by omega⟩
theorem Prose_ev (l : List Int) (at_ m : Int) (hl : Nums l) (h0 : 0 ≤ at_) (h1 : at_ < 1099511627000) (hm : 0 ≤ m) (hm2 : m ≤ 50) :
    ∃ (t : ByteArray) (at' : Int), Ev (fun k => chasemake_Stream_Prose.f k l at_ m) (t, at') ∧ t.size ≤ 300 ∧ at_ ≤ at' ∧ at' ≤ at_ + 101 := by
  have hw : wrap64 (m + 1) = m + 1 := wr64 (by omega) (by omega)
  obtain ⟨r, hr, h2, h3, _⟩ := Next_is l at_ (m + 1) hl h0 (by omega) (by omega)
  have h4 := h3 (by omega)
  obtain ⟨t, at', h, g1, g2, g3⟩ := Prose_loop l hl r (by omega) 50 0 (at_ + 1) ⟨#[]⟩ (by omega) (by omega) (by omega) (by omega) (by decide)
  refine ⟨t, at', ?_, by have hz : (⟨#[]⟩ : ByteArray).size = 0 := rfl; omega, by omega, by omega⟩
  unfold chasemake_Stream_Prose.f
  rw [hw]
  exact ev_bindc hr h
end Go.Proofs.YtenphgclongphaaGreatDoor.Pk
namespace Go.Proofs.YtenphgclongphaaGreatDoor.Pk
open Go.RowKit Go.Proofs.YtenphgclongphaaGreatDoor.GBase Go.Proofs.YtenphgclongphaaGreatDoorW.PrintWords Go.Proofs.YtenphgclongphaaGreatDoorW.PrintLast Go.Proofs.YtenphgclongphaaGreatDoorW.PrintMore
set_option linter.unusedVariables false
set_option linter.unusedSimpArgs false
theorem mem_sz1 (z : ByteArray) : ∀ l : List ByteArray, z ∈ l → z.size ≤ sz1 l
  | [], h => by simp at h
  | x :: r, h => by
    simp only [sz1]
    rcases List.mem_cons.mp h with rfl | h
    · omega
    · have := mem_sz1 z r h
      omega
def Sml (c : WC) : Prop := 0 ≤ c.f0 ∧ c.f0 ≤ 5000 ∧ sz1 c.f1 ≤ 30000 ∧ sz1 c.f2 ≤ 30000
def Med (c : WC) : Prop := -10 ≤ c.f0 ∧ c.f0 ≤ 6000 ∧ sz1 c.f1 ≤ 60000 ∧ sz1 c.f2 ≤ 60000
theorem Sml.med {c : WC} (h : Sml c) : Med c := by
  obtain ⟨h1, h2, h3, h4⟩ := h
  exact ⟨by omega, by omega, by omega, by omega⟩
theorem Med.gd {c : WC} (h : Med c) : Gd1 c := by
  obtain ⟨h1, h2, h3, h4⟩ := h
  have g1 := len_le_sz1 c.f1
  have g2 := len_le_sz1 c.f2
  exact ⟨by omega, by omega, by omega, by omega, fun z hz => by have := mem_sz1 z _ hz; omega, fun z hz => by have := mem_sz1 z _ hz; omega⟩
theorem sml_of (n : Nat) (hn : n ≤ 5000) : ∀ (L : List WC) (t : Nat), CW n t L → chC L ≤ 30000 → ∀ c ∈ L, Sml c
  | [], _, _, _, c, hc => by simp at hc
  | d :: r, t, h, hs, c, hc => by
    obtain ⟨p, h1, h2, h3, h4⟩ := h
    simp only [chC] at hs
    rcases List.mem_cons.mp hc with rfl | hc
    · exact ⟨by omega, by omega, by omega, by omega⟩
    · exact sml_of n hn r _ h4 (by omega) c hc
theorem tot_of : ∀ L : List WC, tot2 L ≤ chC L
  | [] => Nat.le_refl _
  | c :: r => by
    have := tot_of r
    simp only [tot2, chC]
    omega
theorem tot_app : ∀ (L : List WC) (c : WC), tot2 (L ++ [c]) = tot2 L + sz1 c.f2
  | [], c => by simp only [List.nil_append, tot2]; omega
  | d :: r, c => by
    have := tot_app r c
    simp only [List.cons_append, tot2]
    omega
theorem tot_set : ∀ (L : List WC) (i : Nat) (c : WC), tot2 (L.set i c) ≤ tot2 L + sz1 c.f2
  | [], _, c => by simp only [List.set_nil, tot2]; omega
  | d :: r, 0, c => by simp only [List.set_cons_zero, tot2]; omega
  | d :: r, i + 1, c => by
    have := tot_set r i c
    simp only [List.set_cons_succ, tot2]
    omega
def Few (L : List WC) : Prop := L.length ≤ 2000 ∧ (∀ c ∈ L, Sml c) ∧ tot2 L ≤ 30000
theorem Few.good {L : List WC} (h : Few L) : Good L := ⟨by have := h.1; omega, fun c hc => (h.2.1 c hc).med.gd, by have := h.2.2; omega⟩
theorem Few.put {L : List WC} (h : Few L) (i : Nat) (c : WC) (hc : Med c) : Good (L.set i c) := by
  refine ⟨by rw [List.length_set]; have := h.1; omega, fun d hd => ?_, ?_⟩
  · rcases List.mem_or_eq_of_mem_set hd with hd | rfl
    · exact (h.2.1 d hd).med.gd
    · exact hc.gd
  · have := tot_set L i c
    have := h.2.2
    have := hc.2.2.2
    omega
theorem Few.app {L : List WC} (h : Few L) (c : WC) (hc : Med c) : Good (L ++ [c]) := by
  refine ⟨by rw [List.length_append]; have := h.1; simp only [List.length_cons, List.length_nil]; omega, fun d hd => ?_, ?_⟩
  · rcases List.mem_append.mp hd with hd | hd
    · exact (h.2.1 d hd).med.gd
    · rw [List.mem_singleton.mp hd]
      exact hc.gd
  · have := tot_app L c
    have := h.2.2
    have := hc.2.2.2
    omega
theorem x20000 : ∃ z : ByteArray, strings_Repeat.f (⟨#[120]⟩ : ByteArray) 20000 = some z ∧ z.size ≤ 20000 := by
  unfold strings_Repeat.f
  rw [if_pos ⟨by omega, by omega, by decide, by decide⟩]
  refine ⟨_, rfl, ?_⟩
  show (Lib.repeatL _ _).toArray.size ≤ _
  rw [List.size_toArray, Lib.repeatL_length]
  decide
theorem med_app {L : List ByteArray} {z : ByteArray} (h : sz1 L ≤ 30000) (hz : z.size ≤ 20000) : sz1 (L ++ [z]) ≤ 60000 := by
  rw [sz1_append]
  simp only [sz1]
  omega
theorem Changes_j (l : List Int) (at_ : Int) (L : List WC) (b : Bool) (hl : Nums l) (h0 : 0 ≤ at_) (h1 : at_ < 1099511627000) (hL : Few L) (hb : b = true → 0 < L.length) :
    ∃ (P : List WC) (at' : Int), Ev (fun k => chasemake_Stream_Changes.j0 k L b l at_) (P, at') ∧ Good P := by
  cases b with
  | false => exact ⟨L, at_, Ev.step (fun _ => chasemake_Stream_Changes.j0.eq_2 ..) (ev_neg (by decide) (Ev.now _)), hL.good⟩
  | true =>
    have hp := hb rfl
    have hlen := hL.1
    obtain ⟨r, e1, r0, r1, _⟩ := Next_is l at_ (L.length : Int) hl h0 (by omega) (by omega)
    have r2 := r1 (by omega)
    obtain ⟨q, e2, q0, q1, _⟩ := Next_is l (at_ + 1) 5 hl (by omega) (by omega) (by omega)
    obtain ⟨i, rfl⟩ := Int.eq_ofNat_of_zero_le r0
    have hi : i < L.length := by omega
    have ei := rd_chg L i hi
    obtain ⟨s1, s2, s3, s4⟩ := hL.2.1 L[i] (List.getElem_mem hi)
    have ci := clone_is L[i].f1 (by have := len_le_sz1 L[i].f1; omega)
    have ci2 := clone_is L[i].f2 (by have := len_le_sz1 L[i].f2; omega)
    have l1 := len_le_sz1 L[i].f1
    have l2 := len_le_sz1 L[i].f2
    by_cases c0 : q = 0
    · obtain ⟨d, e3, d0, d1⟩ := Range_is l (at_ + 1 + 1) (-2) 2 hl (by omega) (by omega) (by omega) (by omega) (by omega)
      have w : wrap64 (L[i].f0 + d) = L[i].f0 + d := wr64 (by omega) (by omega)
      refine ⟨_, _, Ev.step (fun _ => chasemake_Stream_Changes.j0.eq_2 ..) (ev_pos rfl (ev_bindc e1 (ev_pos (by simp only; omega) (ev_pos (by simp only; omega) (ev_bindc e2 (ev_pos c0 (ev_bindc e3 (Ev.now _)))))))), ?_⟩
      simp only [ei, w]
      exact hL.put _ _ ⟨by simp only; omega, by simp only; omega, by simp only; omega, by simp only; omega⟩
    · by_cases c1 : q = 1
      · obtain ⟨z, hz, e3⟩ := one_is l (at_ + 1 + 1) [(⟨#[97]⟩ : ByteArray), (⟨#[]⟩ : ByteArray), (⟨#[97, 32, 98]⟩ : ByteArray), (⟨#[10]⟩ : ByteArray)] hl (by omega) (by omega) (by simp) (by simp)
        have hz4 : z.size ≤ 20000 := (by decide : ∀ z ∈ [(⟨#[97]⟩ : ByteArray), (⟨#[]⟩ : ByteArray), (⟨#[97, 32, 98]⟩ : ByteArray), (⟨#[10]⟩ : ByteArray)], z.size ≤ 20000) z hz
        refine ⟨_, _, Ev.step (fun _ => chasemake_Stream_Changes.j0.eq_2 ..) (ev_pos rfl (ev_bindc e1 (ev_pos (by simp only; omega) (ev_pos (by simp only; omega) (ev_bindc e2 (ev_neg c0 (ev_pos c1 (ev_bindc (by simp only [ei]; exact ci) (ev_bindc e3 (ev_pos (by omega) (Ev.now _))))))))))), ?_⟩
        simp only [ei]
        exact hL.put _ _ ⟨by simp only; omega, by simp only; omega, med_app s3 hz4, by simp only; omega⟩
      · by_cases c2 : q = 2
        · obtain ⟨y, e4, y1⟩ := x20000
          obtain ⟨z, hz, e3⟩ := one_is l (at_ + 1 + 1) [(⟨#[97]⟩ : ByteArray), (⟨#[]⟩ : ByteArray), (⟨#[97, 32, 98]⟩ : ByteArray), (⟨#[10]⟩ : ByteArray), y] hl (by omega) (by omega) (by simp) (by simp)
          have hz4 : z.size ≤ 20000 := by
            simp only [List.mem_cons, List.not_mem_nil, or_false] at hz
            rcases hz with rfl | rfl | rfl | rfl | rfl
            · decide
            · decide
            · decide
            · decide
            · exact y1
          refine ⟨_, _, Ev.step (fun _ => chasemake_Stream_Changes.j0.eq_2 ..) (ev_pos rfl (ev_bindc e1 (ev_pos (by simp only; omega) (ev_pos (by simp only; omega) (ev_bindc e2 (ev_neg c0 (ev_neg c1 (ev_pos c2 (ev_bindc (by simp only [ei]; exact ci2) (ev_bindc e4 (ev_bindc e3 (ev_pos (by omega) (Ev.now _))))))))))))), ?_⟩
          simp only [ei]
          exact hL.put _ _ ⟨by simp only; omega, by simp only; omega, by simp only; omega, med_app s4 hz4⟩
        · by_cases c3 : q = 3
          · have e5 := rd_chg (L.set i ⟨L[i].f0, [], L[i].f2⟩) i (by rw [List.length_set]; exact hi)
            rw [List.getElem_set_self] at e5
            refine ⟨_, _, Ev.step (fun _ => chasemake_Stream_Changes.j0.eq_2 ..) (ev_pos rfl (ev_bindc e1 (ev_pos (by simp only; omega) (ev_pos (by simp only; omega) (ev_bindc e2 (ev_neg c0 (ev_neg c1 (ev_neg c2 (ev_pos c3 (ev_bindc rfl (Ev.now _))))))))))), ?_⟩
            simp only [ei, Int.toNat_natCast, e5, List.set_set]
            exact hL.put _ _ ⟨by simp only; omega, by simp only; omega, Nat.zero_le _, Nat.zero_le _⟩
          · have e6 : rd_T34 L 0 = L[0] := rd_chg L 0 hp
            refine ⟨_, _, Ev.step (fun _ => chasemake_Stream_Changes.j0.eq_2 ..) (ev_pos rfl (ev_bindc e1 (ev_pos (by simp only; omega) (ev_pos (by simp only; omega) (ev_bindc e2 (ev_neg c0 (ev_neg c1 (ev_neg c2 (ev_neg c3 (ev_pos (by omega) (ev_pos (by omega) (Ev.now _)))))))))))), ?_⟩
            simp only [e6]
            exact hL.app _ (hL.2.1 _ (List.getElem_mem hp)).med
theorem Changes_ev (l : List Int) (at_ : Int) (a : ByteArray) (hl : Nums l) (h0 : 0 ≤ at_) (h1 : at_ < 1099511620000) (ha : a.size ≤ 300) :
    ∃ (P : List WC) (at' : Int), Ev (fun k => chasemake_Stream_Changes.f k l at_ a) (P, at') ∧ Good P := by
  have z1 : (⟨#[97, 98, 32, 120, 10]⟩ : ByteArray).size = 5 := rfl
  have z2 : (⟨#[99, 100, 32]⟩ : ByteArray).size = 3 := rfl
  obtain ⟨u, a2, hu, hus, b3, b4⟩ := Changed_ev l at_ a ⟨#[97, 98, 32, 120, 10]⟩ hl (by omega) (by omega) (by omega) (by decide) (by decide)
  obtain ⟨v, a3, hv, hvs, b5, b6⟩ := Changed_ev l a2 u ⟨#[99, 100, 32]⟩ hl (by omega) (by omega) (by omega) (by decide) (by decide)
  obtain ⟨L, l1, l2, l3, l4⟩ := DifferOf_ev a v (by omega) (by omega)
  have t1 := tokB_sz a
  have t2 := tokB_sz v
  have t3 := len_le_sz1 (tokB a)
  have t4 := tot_of L
  have hL : Few L := ⟨by omega, sml_of _ (by omega) L 0 l2 (by omega), by omega⟩
  obtain ⟨f, hf⟩ := Flip_is l a3 3 hl (by omega) (by omega) (by omega)
  cases f with
  | true =>
    obtain ⟨P, a4, p1, p2⟩ := Changes_j l (a3 + 1) L (decide ((L.length : Int) > 0)) hl (by omega) (by omega) hL (fun h => by have := of_decide_eq_true h; omega)
    exact ⟨P, a4, Ev.congr (fun _ => chasemake_Stream_Changes.f.eq_1 ..) (Ev.bind hu (Ev.bind hv (Ev.bind l1 (ev_bindc hf (ev_pos rfl p1))))), p2⟩
  | false =>
    obtain ⟨P, a4, p1, p2⟩ := Changes_j l (a3 + 1) L false hl (by omega) (by omega) hL (fun h => by cases h)
    exact ⟨P, a4, Ev.congr (fun _ => chasemake_Stream_Changes.f.eq_1 ..) (Ev.bind hu (Ev.bind hv (Ev.bind l1 (ev_bindc hf (ev_neg (by simp) p1))))), p2⟩
end Go.Proofs.YtenphgclongphaaGreatDoor.Pk
namespace Go.Proofs.YtenphgclongphaaGreatDoor.Pk
open Go.RowKit Go.Proofs.YtenphgclongphaaGreatDoor.GBase Go.Proofs.YtenphgclongphaaGreatDoorW.PrintWords Go.Proofs.YtenphgclongphaaGreatDoorW.PrintLast
set_option linter.unusedVariables false
set_option linter.unusedSimpArgs false
def isW (c : Int) : Bool := decide (97 ≤ c ∧ c ≤ 122) || decide (65 ≤ c ∧ c ≤ 90) || decide (48 ≤ c ∧ c ≤ 57) || decide (128 ≤ c)
theorem letter_is (c : Int) : near_letter.f c = some (isW c) := by
  by_cases h1 : 97 ≤ c <;> by_cases h2 : c ≤ 122 <;> by_cases h3 : 65 ≤ c <;> by_cases h4 : c ≤ 90 <;> by_cases h5 : 48 ≤ c <;> by_cases h6 : c ≤ 57 <;> by_cases h7 : 128 ≤ c <;>
    first | (exfalso; omega) | simp [near_letter.f, base_Digit.f, isW, h1, h2, h3, h4, h5, h6, h7]
def wEnd (s : ByteArray) (i : Nat) : Nat := if h : i < s.size then (if isW (bt s i) = true then wEnd s (i + 1) else i) else i
  termination_by s.size - i
theorem wEnd_in {s : ByteArray} {i : Nat} (h : i < s.size) (hw : isW (bt s i) = true) : wEnd s i = wEnd s (i + 1) := by
  rw [wEnd, dif_pos h, if_pos hw]
theorem wEnd_stop {s : ByteArray} {i : Nat} (h : i < s.size) (hw : ¬ isW (bt s i) = true) : wEnd s i = i := by
  rw [wEnd, dif_pos h, if_neg hw]
theorem wEnd_end {s : ByteArray} {i : Nat} (h : ¬ i < s.size) : wEnd s i = i := by
  rw [wEnd, dif_neg h]
theorem le_wEnd (s : ByteArray) (d : Nat) : ∀ i, s.size - i ≤ d → i ≤ wEnd s i ∧ (i ≤ s.size → wEnd s i ≤ s.size) := by
  induction d with
  | zero => intro i hi; rw [wEnd_end (by omega)]; exact ⟨Nat.le_refl _, id⟩
  | succ d ih =>
    intro i hi
    by_cases h : i < s.size
    · by_cases hw : isW (bt s i) = true
      · rw [wEnd_in h hw]
        have := ih (i + 1) (by omega)
        omega
      · rw [wEnd_stop h hw]; exact ⟨Nat.le_refl _, id⟩
    · rw [wEnd_end h]; exact ⟨Nat.le_refl _, id⟩
theorem wEnd_ge (s : ByteArray) (i : Nat) : i ≤ wEnd s i := (le_wEnd s _ i (Nat.le_refl _)).1
def spans (s : ByteArray) (i : Nat) : List (Nat × Nat) := if h : i < s.size then (if isW (bt s i) = true then (i, wEnd s i) :: spans s (wEnd s i + 1) else spans s (i + 1)) else []
  termination_by s.size - i
  decreasing_by
    all_goals have := wEnd_ge s i
    all_goals omega
theorem spans_in {s : ByteArray} {i : Nat} (h : i < s.size) (hw : isW (bt s i) = true) : spans s i = (i, wEnd s i) :: spans s (wEnd s i + 1) := by
  rw [spans, dif_pos h, if_pos hw]
theorem spans_out {s : ByteArray} {i : Nat} (h : i < s.size) (hw : ¬ isW (bt s i) = true) : spans s i = spans s (i + 1) := by
  rw [spans, dif_pos h, if_neg hw]
theorem spans_end {s : ByteArray} {i : Nat} (h : ¬ i < s.size) : spans s i = [] := by
  rw [spans, dif_neg h]
def wd (s : ByteArray) (p : Nat × Nat) : ByteArray := lowA (s.extract p.1 p.2)
def wordsOf (s : ByteArray) : List ByteArray := (spans s 0).map (wd s)
theorem ex_size (s : ByteArray) (a b : Nat) : (s.extract a b).size ≤ s.size := by
  rw [ByteArray.size_extract]; omega
theorem near_words_ev (s : ByteArray) (hs : s.size < 8796093022208) (d : Nat) : ∀ (i : Nat) (acc : List ByteArray), s.size - i ≤ d → i ≤ s.size → acc.length ≤ i →
    Ev (fun k => near_Words.l0 k s acc (-1) (i : Int)) (acc ++ (spans s i).map (wd s)) ∧
    ∀ f : Nat, f < i → Ev (fun k => near_Words.l0 k s acc (f : Int) (i : Int)) (acc ++ wd s (f, wEnd s i) :: (spans s (wEnd s i + 1)).map (wd s)) := by
  have hlow : ∀ a b, base_Lower.f (s.extract a b) = some (lowA (s.extract a b)) := fun a b => by
    have := ex_size s a b
    unfold base_Lower.f; rw [if_pos (by omega)]
  have hend : ∀ (acc : List ByteArray) (x : Int), Ev (fun k => near_Words.l0 k s acc x ((s.size : Int) + 1)) acc := fun acc x =>
    Ev.step (fun _ => near_Words.l0.eq_2 ..) (ev_neg (by omega) (ev_val rfl))
  induction d with
  | zero =>
    intro i acc hd hi ha
    obtain rfl : i = s.size := by omega
    have hw : wrap64 ((s.size : Int) + 1) = (s.size : Int) + 1 := wr64 (by omega) (by omega)
    refine ⟨?_, fun f hf => ?_⟩
    · rw [spans_end (by omega)]
      refine Ev.step (fun _ => near_Words.l0.eq_2 ..) (ev_pos (by omega) (ev_neg (by omega) ?_))
      refine Ev.step (fun _ => near_Words.j1.eq_2 ..) (ev_neg (by simp) ?_)
      refine Ev.step (fun _ => near_Words.j2.eq_2 ..) (ev_neg (by simp) (ev_neg (by simp) (ev_neg (by omega) ?_)))
      rw [hw]
      simpa using hend acc (-1)
    · rw [wEnd_end (by omega), spans_end (by omega)]
      refine Ev.step (fun _ => near_Words.l0.eq_2 ..) (ev_pos (by omega) (ev_neg (by omega) ?_))
      refine Ev.step (fun _ => near_Words.j1.eq_2 ..) (ev_neg (by simp) ?_)
      refine Ev.step (fun _ => near_Words.j2.eq_2 ..) (ev_neg (by simp) (ev_neg (by simp) (ev_pos (by omega) (ev_pos (by omega) (ev_pos (by omega) (ev_pos (by omega) ?_))))))
      refine ev_bindc (hlow _ _) (ev_pos (by omega) ?_)
      rw [hw]
      simpa [wd] using hend _ (-1)
  | succ d ih =>
    intro i acc hd hi ha
    by_cases hlt : i < s.size
    · have hw : wrap64 ((i : Int) + 1) = ((i + 1 : Nat) : Int) := by rw [wr64 (by omega) (by omega)]; omega
      by_cases hc : isW (bt s i) = true
      · have ihf := (ih (i + 1) acc (by omega) (by omega) (by omega)).2
        refine ⟨?_, fun f hf => ?_⟩
        · rw [spans_in hlt hc]
          refine Ev.step (fun _ => near_Words.l0.eq_2 ..) (ev_pos (by omega) (ev_pos (by omega) (ev_pos (by omega) (ev_bindc (letter_is _) ?_))))
          rw [hc]
          refine Ev.step (fun _ => near_Words.j1.eq_2 ..) (ev_pos rfl ?_)
          refine Ev.step (fun _ => near_Words.j2.eq_2 ..) (ev_pos (by simp) (ev_pos rfl ?_))
          rw [hw, wEnd_in hlt hc]
          exact ihf i (by omega)
        · rw [wEnd_in hlt hc]
          refine Ev.step (fun _ => near_Words.l0.eq_2 ..) (ev_pos (by omega) (ev_pos (by omega) (ev_pos (by omega) (ev_bindc (letter_is _) ?_))))
          rw [hc]
          refine Ev.step (fun _ => near_Words.j1.eq_2 ..) (ev_pos rfl ?_)
          refine Ev.step (fun _ => near_Words.j2.eq_2 ..) (ev_neg (by simp) (ev_pos rfl ?_))
          rw [hw]
          exact ihf f (by omega)
      · have hcf : isW (bt s i) = false := by simpa using hc
        refine ⟨?_, fun f hf => ?_⟩
        · rw [spans_out hlt hc]
          refine Ev.step (fun _ => near_Words.l0.eq_2 ..) (ev_pos (by omega) (ev_pos (by omega) (ev_pos (by omega) (ev_bindc (letter_is _) ?_))))
          rw [hcf]
          refine Ev.step (fun _ => near_Words.j1.eq_2 ..) (ev_neg (by simp) ?_)
          refine Ev.step (fun _ => near_Words.j2.eq_2 ..) (ev_neg (by simp) (ev_neg (by simp) (ev_neg (by omega) ?_)))
          rw [hw]
          exact (ih (i + 1) acc (by omega) (by omega) (by omega)).1
        · rw [wEnd_stop hlt hc]
          refine Ev.step (fun _ => near_Words.l0.eq_2 ..) (ev_pos (by omega) (ev_pos (by omega) (ev_pos (by omega) (ev_bindc (letter_is _) ?_))))
          rw [hcf]
          refine Ev.step (fun _ => near_Words.j1.eq_2 ..) (ev_neg (by simp) ?_)
          refine Ev.step (fun _ => near_Words.j2.eq_2 ..) (ev_neg (by simp) (ev_neg (by simp) (ev_pos (by omega) (ev_pos (by omega) (ev_pos (by omega) (ev_pos (by omega) ?_))))))
          refine ev_bindc (hlow _ _) (ev_pos (by omega) ?_)
          rw [hw]
          have := (ih (i + 1) (acc ++ [wd s (f, i)]) (by omega) (by omega) (by simp; omega)).1
          simpa [wd] using this
    · obtain rfl : i = s.size := by omega
      exact ih s.size acc (by omega) (by omega) ha
theorem near_Words_ev (s : ByteArray) (hs : s.size < 8796093022208) : Ev (fun k => near_Words.f k s) (wordsOf s) := by
  have := (near_words_ev s hs s.size 0 [] (by omega) (by omega) (by simp)).1
  simpa [near_Words.f, wordsOf] using this
theorem spans_count (s : ByteArray) (d : Nat) : ∀ i, s.size - i ≤ d → (spans s i).length ≤ s.size - i := by
  induction d with
  | zero => intro i hi; rw [spans_end (by omega)]; simp
  | succ d ih =>
    intro i hi
    by_cases h : i < s.size
    · by_cases hw : isW (bt s i) = true
      · rw [spans_in h hw]
        have h1 := wEnd_ge s (i + 1)
        rw [← wEnd_in h hw] at h1
        have := ih (wEnd s i + 1) (by omega)
        simp only [List.length_cons]
        omega
      · rw [spans_out h hw]
        have := ih (i + 1) (by omega)
        omega
    · rw [spans_end h]; simp
theorem wordsOf_count (s : ByteArray) : (wordsOf s).length ≤ s.size := by
  have := spans_count s _ 0 (Nat.le_refl _)
  simpa [wordsOf] using this
end Go.Proofs.YtenphgclongphaaGreatDoor.Pk
namespace Go.Proofs.YtenphgclongphaaGreatDoor.Pk
open Go.RowKit Go.Proofs.YtenphgclongphaaGreatDoor.GBase Go.Proofs.YtenphgclongphaaGreatDoorW.PrintWords Go.Proofs.YtenphgclongphaaGreatDoorW.PrintLast Go.Proofs.YtenphgclongphaaGreatDoorW.PrintMore
set_option linter.unusedVariables false
set_option linter.unusedSimpArgs false
theorem lowA_size (s : ByteArray) : (lowA s).size = s.size := by
  show (s.data.map lowB).size = s.data.size
  exact Array.size_map
theorem wordsOf_size (s : ByteArray) : ∀ w ∈ wordsOf s, w.size ≤ s.size := by
  intro w hw
  obtain ⟨p, _, rfl⟩ := List.mem_map.1 hw
  unfold wd
  rw [lowA_size]
  exact ex_size s _ _
theorem joinTail_le (B : Nat) (sep : List UInt8) : ∀ l : List (List UInt8), (∀ x ∈ l, x.length ≤ B) → (Lib.joinTail sep l).length ≤ l.length * (B + sep.length)
  | [], _ => by simp [Lib.joinTail]
  | x :: r, h => by
    have h1 := joinTail_le B sep r (fun y hy => h y (List.mem_cons_of_mem _ hy))
    have h2 := h x List.mem_cons_self
    unfold Lib.joinTail at h1 ⊢
    simp only [List.map_cons, List.flatten_cons, List.length_append, List.length_cons]
    rw [Nat.succ_mul]
    omega
theorem join_le (B : Nat) (sep : List UInt8) (l : List (List UInt8)) (h : ∀ x ∈ l, x.length ≤ B) : (Lib.join l sep).length ≤ l.length * (B + sep.length) := by
  cases l with
  | nil => simp [Lib.join_nil]
  | cons x r =>
    rw [Lib.join_cons]
    have h1 := joinTail_le B sep r (fun y hy => h y (List.mem_cons_of_mem _ hy))
    have h2 := h x List.mem_cons_self
    simp only [List.length_append, List.length_cons]
    rw [Nat.succ_mul]
    omega
theorem joinS_le (B : Nat) (l : List ByteArray) (sep : ByteArray) (h : ∀ x ∈ l, x.size ≤ B) : (joinS l sep).size ≤ l.length * (B + sep.size) := by
  have := join_le B sep.data.toList (toL l) (fun x hx => by
    obtain ⟨y, hy, rfl⟩ := List.mem_map.1 hx
    have e : y.data.toList.length = y.size := Array.length_toList
    rw [e]
    exact h y hy)
  rw [toL_length] at this
  show ((Lib.join (toL l) sep.data.toList).toArray).size ≤ _
  rw [List.size_toArray]
  have e : sep.data.toList.length = sep.size := Array.length_toList
  rw [e] at this
  exact this
def gram (w : List ByteArray) (m i : Nat) : ByteArray := joinS ((w.take (i + m)).drop i) (⟨#[32]⟩ : ByteArray)
def grams (w : List ByteArray) (m : Nat) : List ByteArray := (List.range (w.length - m + 1)).map (gram w m)
def shinglesOf (s : ByteArray) (k : Nat) : List ByteArray := if (wordsOf s).length = 0 then [] else compactS (sortS (grams (wordsOf s) (min k (wordsOf s).length)))
theorem gram_join (s : ByteArray) (hs : s.size ≤ 1048576) (m i : Nat) (hm : m ≤ s.size) : strings_Join.f (((wordsOf s).take (i + m)).drop i) (⟨#[32]⟩ : ByteArray) = some (gram (wordsOf s) m i) := by
  have hl : (((wordsOf s).take (i + m)).drop i).length ≤ m := by simp; omega
  have hj := joinS_le s.size (((wordsOf s).take (i + m)).drop i) (⟨#[32]⟩ : ByteArray) (fun x hx => wordsOf_size s x (List.mem_of_mem_take (List.mem_of_mem_drop hx)))
  have h1 : (⟨#[32]⟩ : ByteArray).size = 1 := rfl
  rw [h1] at hj
  have h2 : (((wordsOf s).take (i + m)).drop i).length * (s.size + 1) ≤ 1048576 * 1048577 := Nat.mul_le_mul (by omega) (by omega)
  unfold strings_Join.f
  rw [if_pos ⟨by omega, by omega⟩]
  rfl
theorem mn_is (a b : Nat) : mn (a : Int) (b : Int) = ((min a b : Nat) : Int) := by unfold mn; split <;> omega
theorem range_snoc (f : Nat → ByteArray) (i : Nat) : (List.range (i + 1)).map f = (List.range i).map f ++ [f i] := by simp [List.range_succ]
theorem near_gr (s : ByteArray) (hs : s.size ≤ 1048576) (m : Nat) (hm : m ≤ (wordsOf s).length) (d : Nat) : ∀ i : Nat, (wordsOf s).length - m + 1 - i ≤ d → i ≤ (wordsOf s).length - m + 1 →
    Ev (fun k => near_shingles.l0 k (m : Int) (wordsOf s) ((List.range i).map (gram (wordsOf s) m)) (((wordsOf s).length - m + 1 : Nat) : Int) (i : Int)) (compactS (sortS (grams (wordsOf s) m))) := by
  have hc := wordsOf_count s
  induction d with
  | zero =>
    intro i hd hi
    obtain rfl : i = (wordsOf s).length - m + 1 := by omega
    refine Ev.step (fun _ => near_shingles.l0.eq_2 ..) (ev_neg (by omega) ?_)
    refine ev_bindc (a := sortS (grams (wordsOf s) m)) ?_ (ev_bindc (a := compactS (sortS (grams (wordsOf s) m))) rfl (ev_val rfl))
    unfold slices_Sort_string_string.f
    rw [if_pos (by simp; omega)]
    rfl
  | succ d ih =>
    intro i hd hi
    by_cases hlt : i < (wordsOf s).length - m + 1
    · have hw1 : wrap64 ((i : Int) + 1) = ((i + 1 : Nat) : Int) := by rw [wr64 (by omega) (by omega)]; omega
      have hw2 : wrap64 ((i : Int) + (m : Int)) = ((i + m : Nat) : Int) := by rw [wr64 (by omega) (by omega)]; omega
      have hj := gram_join s hs m i (by omega)
      have hn : (((i + m : Nat) : Int)).toNat = i + m := by omega
      have hn2 : ((i : Int)).toNat = i := by omega
      refine Ev.step (fun _ => near_shingles.l0.eq_2 ..) ?_
      rw [hw1, hw2, hn, hn2]
      refine ev_pos (by omega) (ev_pos (by omega) (ev_pos (by omega) (ev_pos (by omega) (ev_bindc hj (ev_pos (by simp; omega) ?_)))))
      rw [← range_snoc]
      exact ih (i + 1) (by omega) (by omega)
    · obtain rfl : i = (wordsOf s).length - m + 1 := by omega
      exact ih _ (by omega) (by omega)
theorem near_shingles_ev (s : ByteArray) (hs : s.size ≤ 1048576) (n : Nat) : Ev (fun k => near_shingles.f k s (n : Int)) (shinglesOf s n) := by
  have hc := wordsOf_count s
  unfold near_shingles.f shinglesOf
  refine Ev.bind (near_Words_ev s (by omega)) ?_
  by_cases hz : (wordsOf s).length = 0
  · rw [if_pos hz]
    exact ev_pos (by omega) (ev_val rfl)
  · rw [if_neg hz]
    have e1 : wrap64 (((wordsOf s).length : Int) - mn (n : Int) ((wordsOf s).length : Int)) = (((wordsOf s).length - min n (wordsOf s).length : Nat) : Int) := by rw [mn_is, wr64 (by omega) (by omega)]; omega
    have e2 : wrap64 ((((wordsOf s).length - min n (wordsOf s).length : Nat) : Int) + 1) = (((wordsOf s).length - min n (wordsOf s).length + 1 : Nat) : Int) := by rw [wr64 (by omega) (by omega)]; omega
    refine ev_neg (by omega) ?_
    rw [e1, e2, mn_is]
    exact near_gr s hs (min n (wordsOf s).length) (by omega) _ 0 (Nat.le_refl _) (by omega)
end Go.Proofs.YtenphgclongphaaGreatDoor.Pk
namespace Go.Proofs.YtenphgclongphaaGreatDoor.Pk
open Go.RowKit Go.Proofs.YtenphgclongphaaGreatDoor.GBase Go.Proofs.YtenphgclongphaaGreatDoorW.PrintWords Go.Proofs.YtenphgclongphaaGreatDoorW.PrintLast Go.Proofs.YtenphgclongphaaGreatDoorW.PrintMore
set_option linter.unusedVariables false
set_option linter.unusedSimpArgs false
theorem large_is (s : ByteArray) : near_large.f s = some (if (s.size : Int) > 20000 then 2 else 0) := by
  unfold near_large.f base_When.f
  by_cases h : (s.size : Int) > 20000 <;> simp [h]
theorem kError_is (k : Int) : near_kError.f k = some (if k < 1 ∨ k > 10 then 1 else 0) := by
  unfold near_kError.f base_In.f base_When.f
  by_cases h : k ≥ 1
  · by_cases h2 : k ≤ 10
    · have : ¬ (k < 1 ∨ k > 10) := by omega
      simp [h, h2, this]
    · have : k < 1 ∨ k > 10 := by omega
      simp [h, h2, this]
  · have : k < 1 ∨ k > 10 := by omega
    simp [h, this]
def firstOf : List Int → Int
  | [] => 0
  | x :: r => if x = 0 then firstOf r else x
theorem First_loop (l : List Int) (hl : l.length < 1000000) (d : Nat) : ∀ j : Nat, l.length - j ≤ d → j ≤ l.length → Ev (fun k => base_First.l0 k l (l.length : Int) (j : Int)) (firstOf (l.drop j)) := by
  induction d with
  | zero =>
    intro j hd hj
    obtain rfl : j = l.length := by omega
    rw [List.drop_length]
    exact Ev.step (fun _ => base_First.l0.eq_2 ..) (ev_neg (by omega) (ev_val rfl))
  | succ d ih =>
    intro j hd hj
    by_cases hlt : j < l.length
    · have hw : wrap64 ((j : Int) + 1) = ((j + 1 : Nat) : Int) := by rw [wr64 (by omega) (by omega)]; omega
      have hr : rd l (j : Int) = l[j] := by simp [rd, List.getD, hlt]
      rw [List.drop_eq_getElem_cons hlt]
      refine Ev.step (fun _ => base_First.l0.eq_2 ..) (ev_pos (by omega) (ev_pos (by omega) (ev_pos (by omega) ?_)))
      rw [hr]
      unfold firstOf
      by_cases hz : l[j] = 0
      · rw [if_pos hz]
        refine ev_pos hz ?_
        rw [hw]
        exact ih (j + 1) (by omega) (by omega)
      · rw [if_neg hz]
        exact ev_neg hz (ev_val rfl)
    · obtain rfl : j = l.length := by omega
      exact ih _ (by omega) (by omega)
theorem First_ev (l : List Int) (hl : l.length < 1000000) : Ev (fun k => base_First.f k l) (firstOf l) := First_loop l hl _ 0 (Nat.le_refl _) (by omega)
def kErr (k : Int) : Int := if k < 1 ∨ k > 10 then 1 else 0
theorem Shingles_ev (s : ByteArray) (hs : s.size ≤ 20000) (n : Nat) : Ev (fun q => near_Shingles.f q s (n : Int)) (if kErr (n : Int) = 0 then (shinglesOf s n, 0) else ([], kErr (n : Int))) := by
  have c1 : ¬ (s.size : Int) > 20000 := by omega
  unfold near_Shingles.f
  refine ev_bindc (large_is s) (ev_bindc (kError_is _) (Ev.bind (First_ev _ (by simp)) ?_))
  have e : firstOf [if (s.size : Int) > 20000 then 2 else 0, if (n : Int) < 1 ∨ (n : Int) > 10 then 1 else 0] = kErr (n : Int) := by
    rw [if_neg c1]
    unfold kErr
    split <;> rfl
  rw [e]
  by_cases hz : kErr (n : Int) = 0
  · rw [if_pos hz]
    exact ev_pos hz (Ev.bind (near_shingles_ev s (by omega) n) (ev_val rfl))
  · rw [if_neg hz]
    exact ev_neg hz (ev_val rfl)
theorem words_abc : wordsOf ⟨#[97, 32, 98, 32, 99]⟩ = [⟨#[97]⟩, ⟨#[98]⟩, ⟨#[99]⟩] := by decide +kernel
theorem grams_abc : grams [⟨#[97]⟩, ⟨#[98]⟩, ⟨#[99]⟩] 2 = [⟨#[97, 32, 98]⟩, ⟨#[98, 32, 99]⟩] := by decide +kernel
theorem sort_abc : sortS [⟨#[97, 32, 98]⟩, ⟨#[98, 32, 99]⟩] = [⟨#[97, 32, 98]⟩, ⟨#[98, 32, 99]⟩] := by
  unfold sortS toL
  rw [List.mergeSort_of_pairwise (by decide +kernel)]
  decide +kernel
theorem compact_abc : compactS [⟨#[97, 32, 98]⟩, ⟨#[98, 32, 99]⟩] = [⟨#[97, 32, 98]⟩, ⟨#[98, 32, 99]⟩] := by decide +kernel
theorem shingles_abc : shinglesOf ⟨#[97, 32, 98, 32, 99]⟩ 2 = [⟨#[97, 32, 98]⟩, ⟨#[98, 32, 99]⟩] := by
  unfold shinglesOf
  rw [words_abc]
  show (if (3 : Nat) = 0 then [] else compactS (sortS (grams [⟨#[97]⟩, ⟨#[98]⟩, ⟨#[99]⟩] 2))) = _
  rw [if_neg (by decide), grams_abc, sort_abc, compact_abc]
theorem eqS_loop (l : List ByteArray) (hn : l.length ≤ 4000000000) (d : Nat) : ∀ j : Nat, l.length - j ≤ d → j ≤ l.length → Ev (fun k => slices_Equal_string_string.l0 k l l (l.length : Int) (j : Int)) true := by
  induction d with
  | zero =>
    intro j hd hj
    obtain rfl : j = l.length := by omega
    exact Ev.step (fun _ => slices_Equal_string_string.l0.eq_2 ..) (ev_neg (by omega) (ev_val rfl))
  | succ d ih =>
    intro j hd hj
    by_cases hlt : j < l.length
    · have hw : wrap64 ((j : Int) + 1) = ((j + 1 : Nat) : Int) := by rw [wr64 (by omega) (by omega)]; omega
      refine Ev.step (fun _ => slices_Equal_string_string.l0.eq_2 ..) (ev_pos (by omega) (ev_pos (by omega) (ev_pos (by omega) (ev_pos (by omega) (ev_pos rfl ?_)))))
      rw [hw]
      exact ih (j + 1) (by omega) (by omega)
    · obtain rfl : j = l.length := by omega
      exact ih _ (by omega) (by omega)
theorem eqS_ev (l : List ByteArray) (hn : l.length ≤ 4000000000) : Ev (fun k => slices_Equal_string_string.f k l l) true :=
  ev_pos rfl (eqS_loop l hn _ 0 (Nat.le_refl _) (by omega))
theorem nears_ev : Ev (fun k => chasekeep1_nears.f k) true := by
  unfold chasekeep1_nears.f
  have h := Shingles_ev ⟨#[97, 32, 98, 32, 99]⟩ (by decide) 2
  rw [shingles_abc, if_pos (by decide)] at h
  exact Ev.bind h (ev_pos rfl (Ev.bind (eqS_ev _ (by decide)) (ev_val rfl)))
end Go.Proofs.YtenphgclongphaaGreatDoor.Pk
