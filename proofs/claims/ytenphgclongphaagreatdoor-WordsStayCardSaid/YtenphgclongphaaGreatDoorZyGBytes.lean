/- A part of the proof of wordsStay. No conditions. Laid by program over the kit's print and words. -/
import Derived.Test.YtenphgclongphaaGreatDoorZyGBase
namespace Go.Proofs.YtenphgclongphaaGreatDoor.GBase
open Go.RowKit Go.Proofs.YtenphgclongphaaGreatDoorW.PrintWords
def BAt (e : Nat) (w0 wr : World) (g : Nat) (bs : List UInt8) : Prop :=
  Below w0.heap.size w0 wr ∧ w0.heap.size ≤ g ∧ ∃ cur N, wr.heap[g]? = some (.cells cur e (N, N + 1)) ∧ cur.size = N ∧ bs.length ≤ N ∧ ∀ j (h : j < bs.length), cur[j]? = some (.int .u8 (bs[j].toNat : Int))
theorem BAt.start {e : Nat} {w0 w : World} (hB : Below w0.heap.size w0 w) (s : ByteArray) : BAt e w0 (Lib.bytesWorld w e s) w.heap.size s.data.toList := by
  have h0 := hB.size
  have hb : Below w.heap.size w (Lib.bytesWorld w e s) := ⟨rfl, rfl, rfl, by rw [Lib.bytesWorld_size]; omega, fun k hk => Lib.bytesWorld_at_old w e s k hk⟩
  refine ⟨below_step hB hb, h0, Lib.bytesCells w e s, _, Lib.bytesWorld_at_new w e s, rfl, ?_, fun j h => ?_⟩
  · simp [Lib.bytesCells]
  · have hd : j < s.data.size := by simpa using h
    simp only [Lib.bytesCells, Array.getElem?_append, Array.size_map, if_pos hd, Array.getElem?_map, Array.getElem?_eq_getElem hd, Option.map_some]
    simp
theorem BAt.cell {e : Nat} {w0 wr : World} {g : Nat} {bs : List UInt8} (h : BAt e w0 wr g bs) {k : Nat} (hk : k < bs.length) : wr.cell? ⟨g, k, none⟩ = some (.int .u8 (bs[k].toNat : Int)) := by
  obtain ⟨_, _, cur, N, hb, hN, hs, hc⟩ := h
  simp [World.cell?, hb]
  simpa using hc k hk
theorem BAt.free {e : Nat} {w0 wr : World} {g : Nat} {bs : List UInt8} (h : BAt e w0 wr g bs) {k : Nat} (hk : k < bs.length) : wr.frozen? ⟨g, k, none⟩ = false := by
  obtain ⟨_, _, cur, N, hb, hN, hs, hc⟩ := h
  simp [World.frozen?, hb]
  omega
theorem BAt.put {e : Nat} {w0 wr : World} {g : Nat} {bs : List UInt8} (h : BAt e w0 wr g bs) {k : Nat} (hk : k < bs.length) (c : UInt8) : BAt e w0 (wr.setCell ⟨g, k, none⟩ (.int .u8 (c.toNat : Int))) g (bs.set k c) := by
  obtain ⟨hB, hg, cur, N, hb, hN, hs, hc⟩ := h
  refine ⟨hB.setCell hg _, hg, cur.setIfInBounds k (.int .u8 (c.toNat : Int)), N, ?_, by simpa using hN, by simpa using hs, fun j hj => ?_⟩
  · simp [World.setCell, Array.getElem?_modify, hb]
  · have hj2 : j < bs.length := by simpa using hj
    by_cases e2 : j = k
    · subst e2
      rw [Array.getElem?_setIfInBounds_self_of_lt (by omega)]
      simp
    · rw [Array.getElem?_setIfInBounds_ne (Ne.symm e2), hc j hj2, List.getElem_set_ne (Ne.symm e2)]
theorem BAt.lt {e : Nat} {w0 wr : World} {g : Nat} {bs : List UInt8} (h : BAt e w0 wr g bs) : g < wr.heap.size := by
  obtain ⟨_, _, cur, N, hb, _⟩ := h
  rcases Nat.lt_or_ge g wr.heap.size with h' | h'
  · exact h'
  · simp [Array.getElem?_eq_none h'] at hb
theorem BAt.below {e : Nat} {w0 wr w' : World} {g : Nat} {bs : List UInt8} (h : BAt e w0 wr g bs) (hb : Below wr.heap.size wr w') : BAt e w0 w' g bs := by
  have hl := h.lt
  obtain ⟨hB, hg, cur, N, hc, r⟩ := h
  exact ⟨below_step hB hb, hg, cur, N, (hb.block g hl).trans hc, r⟩
theorem BAt.alloc {e : Nat} {w0 wr : World} {g : Nat} {bs : List UInt8} (h : BAt e w0 wr g bs) (o : Obj) : BAt e w0 (wr.alloc o) g bs := h.below ((Below.refl _ _).alloc (Nat.le_refl _) _)
theorem BAt.far {e : Nat} {w0 wr : World} {g : Nat} {bs : List UInt8} (h : BAt e w0 wr g bs) {p : Addr} (hp : w0.heap.size ≤ p.block) (hn : p.block ≠ g) (v : Value) : BAt e w0 (wr.setCell p v) g bs := by
  obtain ⟨hB, hg, cur, N, hc, r⟩ := h
  refine ⟨hB.setCell hp _, hg, cur, N, ?_, r⟩
  simp [World.setCell, Array.getElem?_modify, hn, hc]
theorem BAt.done {e : Nat} {w0 wr : World} {g : Nat} {bs : List UInt8} (h : BAt e w0 wr g bs) (P : Program) (src dst : TypeId) (cap : Nat) (hs : P.underlying src = some (.slice e)) (he : P.underlying e = some (.int .u8)) (hd : P.underlying dst = some .string) :
    (convert src dst (.slice (some ⟨g, 0, none⟩) bs.length cap)).run P wr = .ok (.string ⟨bs.toArray⟩) wr := by
  have hcell := fun k hk => h.cell (k := k) hk
  exact run_convert_bytes_back (P := P) wr src dst e ⟨g, 0, none⟩ cap bs hs he hd (fun j hj => by
    rw [add_plain]
    exact hcell j hj)
end Go.Proofs.YtenphgclongphaaGreatDoor.GBase
