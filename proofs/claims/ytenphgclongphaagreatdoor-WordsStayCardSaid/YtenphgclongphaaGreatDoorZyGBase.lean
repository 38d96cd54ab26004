/- A part of the proof of wordsStay. No conditions. Laid by program over the kit's print and words. -/
import Derived.Test.YtenphgclongphaaGreatDoorProg
import Derived.Test.YtenphgclongphaaGreatDoorZyWWords
import Derived.Test.YtenphgclongphaaGreatDoorZyWKept
import Derived.Lib.ConvBytes
import Derived.Laws.IdiomStrings
import Derived.Sort.Grow
import Derived.Sort.EncStr
import Derived.Lib.SlicesCompact
import Derived.Lib.Join
import Derived.Lib.IndexBytes
namespace Go.Proofs.YtenphgclongphaaGreatDoor.GBase
open Go.RowKit Go.Proofs.YtenphgclongphaaGreatDoorW.PrintWords
open Go.Sort (Holds putRow putCells grow mapBlock)
set_option linter.unusedVariables false
set_option linter.unusedSimpArgs false
section
variable {α β : Type}
theorem ev_pos {c : Prop} [Decidable c] {f g : Nat → Option α} {r : α} (h : c) (k : Ev f r) : Ev (fun n => if c then f n else g n) r := by
  simpa only [if_pos h] using k
theorem ev_neg {c : Prop} [Decidable c] {f g : Nat → Option α} {r : α} (h : ¬ c) (k : Ev g r) : Ev (fun n => if c then f n else g n) r := by
  simpa only [if_neg h] using k
theorem ev_bindc {o : Option α} {f : Nat → α → Option β} {a : α} {r : β} (h : o = some a) (k : Ev (fun n => f n a) r) : Ev (fun n => o.bind (f n)) r := by
  subst h
  exact k
theorem ev_val {o : Option α} {r : α} (h : o = some r) : Ev (fun _ => o) r := by
  subst h
  exact Ev.now r
theorem ev_eq {f : Nat → Option α} {r r' : α} (h : Ev f r) (e : r = r') : Ev f r' := e ▸ h
end
theorem wr64 {x : Int} (h0 : -9223372036854775808 ≤ x) (h1 : x ≤ 9223372036854775807) : wrap64 x = x := by unfold wrap64; omega
section
variable {α : Type} {enc : α → Value} {h1 : ∀ x, (enc x).oneCell' = true} {e : Nat} {w : World} {base : Nat} {ok : Nat → Prop} {v : Value} {xs : List α}
theorem R_scalar (h : (Kd.scalar enc h1).R e w base ok v xs) : (∀ k, v.ownBlock = some k → ok k) ∧ w.ownsRow base e 1 v xs.length (xs.map enc) := by
  obtain ⟨h0, inner, ho, hl, hr⟩ := h
  refine ⟨h0, ?_⟩
  have he : inner = xs.map enc := by
    have hl' : inner.length = xs.length := by rw [hl]; exact Nat.mul_one _
    apply List.ext_getElem
    · simpa using hl'
    · intro j h2 h3
      have hj : j < xs.length := by omega
      have h4 : (inner.drop (j * 1)).take 1 = [enc xs[j]] := hr j xs[j] (List.getElem?_eq_getElem hj)
      rw [Nat.mul_one, List.drop_eq_getElem_cons h2, List.take_succ_cons, List.take_zero] at h4
      injection h4 with h4
      rw [h4, List.getElem_map]
  rw [← he]
  exact ho
theorem R_of (h0 : ∀ k, v.ownBlock = some k → ok k) (ho : w.ownsRow base e 1 v xs.length (xs.map enc)) : (Kd.scalar enc h1).R e w base ok v xs := by
  refine ⟨h0, xs.map enc, ho, by simp [Kd.scalar], fun j p hp => ?_⟩
  show ((xs.map enc).drop (j * 1)).take 1 = [enc p]
  obtain ⟨hj, rfl⟩ := List.getElem?_eq_some_iff.1 hp
  rw [Nat.mul_one, List.drop_eq_getElem_cons (by simpa using hj)]
  simp
theorem C_cells {A : Option Addr} {n : Nat} (h : (Kd.scalar enc h1).C w A n xs) (hn : 0 < n) : ∃ b o, A = some ⟨b, o, none⟩ ∧ b < w.heap.size ∧ ∀ j p, xs[j]? = some p → w.cell? ⟨b, o + j, none⟩ = some (enc p) := by
  obtain ⟨hl, hm, hc⟩ := h
  obtain ⟨ad, hA, hc⟩ := hc hn
  have hcell : ∀ j p, xs[j]? = some p → w.cell? (ad.add j) = some (enc p) := by
    intro j p hp
    obtain ⟨c, hlc, hR, hcc⟩ := hc j p hp
    have hR' : c = [enc p] := hR
    subst hR'
    have := hcc 0 (enc p) rfl
    rwa [Nat.add_zero, show j * (Kd.scalar enc h1).sz = j from Nat.mul_one j] at this
  have h0 : 0 < xs.length := by omega
  have hc0 := hcell 0 xs[0] (List.getElem?_eq_getElem h0)
  have hspot : ad.spot = none := by
    simp only [Addr.add, if_true] at hc0
    unfold World.cell? at hc0
    revert hc0
    cases hb : w.heap[ad.block]? with
    | none => simp
    | some o =>
      cases o with
      | cells c t fr =>
        cases hs : ad.spot with
        | none => simp
        | some x => simp
      | _ => simp
  obtain ⟨b, o, sp⟩ := ad
  simp only at hspot
  subst hspot
  refine ⟨b, o, hA, ?_, fun j p hp => ?_⟩
  · have := World.block_lt_of_cell? w _ hc0
    simpa [Addr.add] using this
  · have := hcell j p hp
    simp only [Addr.add] at this
    by_cases hj : j = 0
    · subst hj; simpa using this
    · rwa [if_neg hj] at this
end
section
variable {α : Type} [Inhabited α] {enc : α → Value}
theorem holds_of_row {w : World} {g : Nat} {cur : Array Value} {e : TypeId} {xs : List α} (hb : w.heap[g]? = some (.cells cur e (0, 0))) (ht : cur.toList.take xs.length = xs.map enc) : Holds enc w g 0 xs.toArray := by
  intro j hj
  have hj' : j < xs.length := by simpa using hj
  refine ⟨?_, by simp [World.frozen?, hb]⟩
  have h2 : (cur.toList.take xs.length)[j]? = (xs.map enc)[j]? := by rw [ht]
  rw [List.getElem?_take_of_lt hj', List.getElem?_map, List.getElem?_eq_getElem hj'] at h2
  simp [World.cell?, hb]
  rw [← Array.getElem?_toList, h2]
  simp [hj']
theorem heap_put {w : World} {g n : Nat} {os : Array Obj} {cur : Array Value} {e : TypeId} {fr : Nat × Nat} (d : Array α) (hb : w.heap[g]? = some (.cells cur e fr)) :
    (grow (putRow enc (Sort.ahead w n) g 0 d) os).heap[g]? = some (.cells (putCells enc 0 d cur) e fr) := by
  have hg : g < w.heap.size := (Array.getElem?_eq_some_iff.1 hb).1
  rw [Go.Sort.heap_grow_old _ _ (by simpa using hg)]
  simp [putRow, mapBlock, Go.Sort.onCells, Array.getElem?_modify, hb]
theorem kept_put {w : World} {g n : Nat} {os : Array Obj} (d : Array α) : w.grownBy (grow (putRow enc (Sort.ahead w n) g 0 d) os) (some g) := by
  refine ⟨rfl, rfl, rfl, by simp, fun k hk hne => ?_⟩
  rw [Go.Sort.heap_grow_old _ _ (by simpa using hk)]
  have : g ≠ k := fun e => hne (by rw [e])
  simp [putRow, mapBlock, Array.getElem?_modify, this]
theorem take_put (cur : Array Value) (ts : List α) (h : ts.length ≤ cur.size) : (putCells enc 0 ts.toArray cur).toList.take ts.length = ts.map enc := by
  apply List.ext_getElem?
  intro j
  by_cases hj : j < ts.length
  · have hc : j < cur.size := by omega
    rw [List.getElem?_take_of_lt hj, List.getElem?_map, List.getElem?_eq_getElem hj]
    simp [putCells, hc, hj]
  · rw [List.getElem?_eq_none (by simp; omega), List.getElem?_eq_none (by simp; omega)]
theorem put_out {e : TypeId} {w0 w : World} {P : Nat → Prop} {g cap n m : Nat} {cur : Array Value} {ts ys : List α} {os : Array Obj} {h1 : ∀ x, (enc x).oneCell' = true}
    (hB : Below w0.heap.size w0 w) (hP : P g) (hg : w0.heap.size ≤ g) (hb : w.heap[g]? = some (.cells cur e (0, 0))) (hn : ts.length ≤ cap) (hc : cap ≤ maxLen) (hs : cur.size = cap * 1) (hy : ts.take m = ys) (hm : m = ys.length) :
    (Kd.scalar enc h1).R e (grow (putRow enc (Sort.ahead w n) g 0 ts.toArray) os) w0.heap.size (fun k_ => (P k_ ∨ w.heap.size ≤ k_)) (.slice (some ⟨g, 0, none⟩) m cap) ys ∧
    Below w0.heap.size w0 (grow (putRow enc (Sort.ahead w n) g 0 ts.toArray) os) ∧ Kept w (grow (putRow enc (Sort.ahead w n) g 0 ts.toArray) os) (fun k_ => P k_) := by
  have hgb := kept_put (enc := enc) (w := w) (g := g) (n := n) (os := os) ts.toArray
  have hle : m ≤ ts.length := by
    have : (ts.take m).length = ys.length := by rw [hy]
    rw [List.length_take] at this
    omega
  refine ⟨R_of (fun k hk => ?_) ⟨by simp, .inr ⟨g, cap, _, by rw [hm], hg, heap_put _ hb, by omega, hc, by simp [putCells, hs], ?_⟩⟩, hB.grown hgb hB.size (fun k hk => by cases hk; exact hg), Kept.of_grown hgb (Kept.refl _ _) (fun k hk => by cases hk; exact .inl hP)⟩
  · have : g = k := by simpa [Value.ownBlock] using hk
    subst this
    exact .inl hP
  · rw [Nat.mul_one, ← hm]
    have h2 := take_put (enc := enc) cur ts (by omega)
    have h3 : ((putCells enc 0 ts.toArray cur).toList.take ts.length).take m = (ts.map enc).take m := by rw [h2]
    rw [List.take_take, Nat.min_eq_left hle, ← List.map_take, hy] at h3
    exact h3
end
def toL (l : List ByteArray) : List (List UInt8) := l.map (·.data.toList)
def ofL (l : List (List UInt8)) : List ByteArray := l.map fun x => ⟨x.toArray⟩
theorem toL_length (l : List ByteArray) : (toL l).length = l.length := by simp [toL]
theorem ofL_length (l : List (List UInt8)) : (ofL l).length = l.length := by simp [ofL]
theorem ofL_enc (l : List (List UInt8)) : (ofL l).map Value.string = l.map encStr := by simp [ofL, encStr]
theorem toL_enc (l : List ByteArray) : (toL l).map encStr = l.map Value.string := by simp [toL, encStr]
theorem encStr_one (x : List UInt8) : (encStr x).oneCell' = true := rfl
theorem R_str {e : Nat} {w : World} {base : Nat} {ok : Nat → Prop} {v : Value} {l : List (List UInt8)} (h : (Kd.scalar encStr encStr_one).R e w base ok v l) : Kd.string.R e w base ok v (ofL l) := by
  obtain ⟨h0, ho⟩ := R_scalar h
  refine R_of h0 ?_
  rw [ofL_length, ofL_enc]
  exact ho
def sortS (l : List ByteArray) : List ByteArray := ofL ((toL l).mergeSort fun x y => decide (x ≤ y))
def compactS (l : List ByteArray) : List ByteArray := ofL (Lib.compact (toL l))
def joinS (l : List ByteArray) (sep : ByteArray) : ByteArray := ⟨(Lib.join (toL l) sep.data.toList).toArray⟩
theorem compact_le {α : Type} [Inhabited α] [DecidableEq α] (zs : List α) : (Lib.compact zs).length ≤ zs.length := by
  unfold Lib.compact Lib.compactUpTo
  rw [List.length_map]
  exact Nat.le_trans (List.length_filter_le _ _) (by simp)
def lowB (c : UInt8) : UInt8 := if 65 ≤ c ∧ c ≤ 90 then c + 32 else c
def lowA (s : ByteArray) : ByteArray := ⟨s.data.map lowB⟩
theorem lowB_yes {c : UInt8} (h1 : 65 ≤ (c.toNat : Int)) (h2 : (c.toNat : Int) ≤ 90) : ((lowB c).toNat : Int) = (c.toNat : Int) + 32 := by
  have hc : 65 ≤ c ∧ c ≤ 90 := by rw [UInt8.le_iff_toNat_le, UInt8.le_iff_toNat_le]; simp; omega
  unfold lowB
  rw [if_pos hc, UInt8.toNat_add]
  simp
  omega
theorem lowB_no {c : UInt8} (h : ¬ (65 ≤ (c.toNat : Int) ∧ (c.toNat : Int) ≤ 90)) : ((lowB c).toNat : Int) = (c.toNat : Int) := by
  have hc : ¬ (65 ≤ c ∧ c ≤ 90) := by rw [UInt8.le_iff_toNat_le, UInt8.le_iff_toNat_le]; simp; omega
  unfold lowB
  rw [if_neg hc]
def LowAt (e : Nat) (w wr : World) (s : ByteArray) (k : Nat) : Prop :=
  Below w.heap.size w wr ∧ ∃ cur N, wr.heap[w.heap.size]? = some (.cells cur e (N, N + 1)) ∧ cur.size = N ∧ s.size ≤ N ∧ ∀ j (h : j < s.size), cur[j]? = some (.int .u8 ((if j < k then lowB s[j] else s[j]).toNat : Int))
theorem LowAt.start (e : Nat) (w : World) (s : ByteArray) : LowAt e w (Lib.bytesWorld w e s) s 0 := by
  refine ⟨?_, Lib.bytesCells w e s, _, Lib.bytesWorld_at_new w e s, rfl, ?_, fun j h => ?_⟩
  · refine ⟨rfl, rfl, rfl, by rw [Lib.bytesWorld_size]; omega, fun k hk => Lib.bytesWorld_at_old w e s k hk⟩
  · simp [Lib.bytesCells]
  · have hd : j < s.data.size := h
    simp only [Lib.bytesCells, Array.getElem?_append, Array.size_map, if_pos hd, Array.getElem?_map, Array.getElem?_eq_getElem hd, Option.map_some, Nat.not_lt_zero, if_false]
    rfl
theorem LowAt.cell {e : Nat} {w wr : World} {s : ByteArray} {k : Nat} (h : LowAt e w wr s k) (hk : k < s.size) : wr.cell? ⟨w.heap.size, k, none⟩ = some (.int .u8 (s[k].toNat : Int)) := by
  obtain ⟨_, cur, N, hb, hN, hs, hc⟩ := h
  have := hc k hk
  simp [World.cell?, hb]
  simpa using this
theorem LowAt.free {e : Nat} {w wr : World} {s : ByteArray} {k : Nat} (h : LowAt e w wr s k) (hk : k < s.size) : wr.frozen? ⟨w.heap.size, k, none⟩ = false := by
  obtain ⟨_, cur, N, hb, hN, hs, hc⟩ := h
  simp [World.frozen?, hb]
  omega
theorem LowAt.keep {e : Nat} {w wr : World} {s : ByteArray} {k : Nat} (h : LowAt e w wr s k) (hk : k < s.size) (hn : ¬ (65 ≤ (s[k].toNat : Int) ∧ (s[k].toNat : Int) ≤ 90)) : LowAt e w wr s (k + 1) := by
  obtain ⟨hB, cur, N, hb, hN, hs, hc⟩ := h
  refine ⟨hB, cur, N, hb, hN, hs, fun j hj => ?_⟩
  rw [hc j hj]
  by_cases h1 : j < k
  · rw [if_pos h1, if_pos (by omega)]
  · by_cases h2 : j = k
    · subst h2
      rw [if_neg h1, if_pos (by omega), lowB_no hn]
    · rw [if_neg h1, if_neg (by omega)]
theorem LowAt.put {e : Nat} {w wr : World} {s : ByteArray} {k : Nat} (h : LowAt e w wr s k) (hk : k < s.size) (h1 : 65 ≤ (s[k].toNat : Int)) (h2 : (s[k].toNat : Int) ≤ 90) : LowAt e w (wr.setCell ⟨w.heap.size, k, none⟩ (.int .u8 ((s[k].toNat : Int) + 32))) s (k + 1) := by
  obtain ⟨hB, cur, N, hb, hN, hs, hc⟩ := h
  refine ⟨hB.setCell (Nat.le_refl _) _, cur.setIfInBounds k (.int .u8 ((s[k].toNat : Int) + 32)), N, ?_, by simpa using hN, hs, fun j hj => ?_⟩
  · simp [World.setCell, Array.getElem?_modify, hb]
  · by_cases e2 : j = k
    · subst e2
      rw [if_pos (by omega), lowB_yes h1 h2, Array.getElem?_setIfInBounds_self_of_lt (by omega)]
    · rw [Array.getElem?_setIfInBounds_ne (Ne.symm e2), hc j hj]
      by_cases h3 : j < k
      · rw [if_pos h3, if_pos (by omega)]
      · rw [if_neg h3, if_neg (by omega)]
theorem LowAt.done {e : Nat} {w wr : World} {s : ByteArray} (h : LowAt e w wr s s.size) (P : Program) (src dst : TypeId) (cap : Nat) (hs : P.underlying src = some (.slice e)) (he : P.underlying e = some (.int .u8)) (hd : P.underlying dst = some .string) :
    (convert src dst (.slice (some ⟨w.heap.size, 0, none⟩) s.size cap)).run P wr = .ok (.string (lowA s)) wr := by
  obtain ⟨hB, cur, N, hb, hN, hs', hc⟩ := h
  have hl : (s.data.toList.map lowB).length = s.size := by simp
  have := run_convert_bytes_back (P := P) wr src dst e ⟨w.heap.size, 0, none⟩ cap (s.data.toList.map lowB) hs he hd (fun j hj => by
    have hj' : j < s.size := by omega
    have h1 := hc j hj'
    rw [if_pos hj'] at h1
    rw [add_plain]
    simp [World.cell?, hb]
    rw [h1]
    rfl)
  rw [hl] at this
  rw [this]
  have e2 : (⟨(List.map lowB s.data.toList).toArray⟩ : ByteArray) = lowA s := by
    unfold lowA
    congr 1
    apply Array.ext'
    simp
  rw [e2]
end Go.Proofs.YtenphgclongphaaGreatDoor.GBase
