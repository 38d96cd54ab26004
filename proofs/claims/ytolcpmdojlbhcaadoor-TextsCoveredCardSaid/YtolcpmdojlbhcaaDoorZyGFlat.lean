/- A part of the proof of textsCovered. No conditions. Laid by program over the kit's print and words. -/
import Derived.Test.YtolcpmdojlbhcaaDoorZyGBase
import Derived.Shelf.GgSortFunc.RowK
namespace Go.Proofs.YtolcpmdojlbhcaaDoor.GBase
open Go.RowKit Go.Lib Go.Sort Go.Proofs.YtolcpmdojlbhcaaDoorW.PrintWords Go.Proofs.YtolcpmdojlbhcaaDoorW.PrintLast
structure Flat {α : Type} (d : Kd α) (enc : α → List Value) : Prop where
  K : ∀ {w x cs}, d.K w x cs → cs = enc x
  M : ∀ w base ok x, d.M w base ok x (enc x)
  one : ∀ x, ∀ u ∈ enc x, u.oneCell' = true
  len : ∀ x, (enc x).length = d.sz
  pos : 0 < d.sz
section
variable {α : Type} {enc : α → List Value} {n : Nat}
theorem flat_len (h : ∀ x, (enc x).length = n) (xs : List α) : (xs.flatMap enc).length = xs.length * n := by
  induction xs with
  | nil => simp
  | cons x xs ih => rw [List.flatMap_cons, List.length_append, ih, h, List.length_cons, Nat.add_mul, Nat.one_mul, Nat.add_comm]
theorem flat_cut (h : ∀ x, (enc x).length = n) (xs : List α) : ∀ (j : Nat) (p : α), xs[j]? = some p → ((xs.flatMap enc).drop (j * n)).take n = enc p := by
  induction xs with
  | nil => intro j p hp; simp at hp
  | cons x xs ih =>
    intro j p hp
    cases j with
    | zero =>
      have : x = p := by simpa using hp
      subst this
      rw [Nat.zero_mul, List.drop_zero, List.flatMap_cons, ← h x, List.take_left]
    | succ j =>
      have hp' : xs[j]? = some p := by simpa using hp
      rw [List.flatMap_cons, Nat.add_mul, Nat.one_mul, Nat.add_comm, ← List.drop_drop]
      have e : (enc x ++ xs.flatMap enc).drop n = xs.flatMap enc := by rw [← h x, List.drop_left]
      rw [e]
      exact ih j p hp'
theorem cut_at {l : List Value} {j n r : Nat} (hr : r < n) : ((l.drop (j * n)).take n)[r]? = l[j * n + r]? := by
  rw [List.getElem?_take_of_lt hr, List.getElem?_drop]
theorem chunks_eq {l m : List Value} {k : Nat} (hn : 0 < n) (hl : l.length = k * n) (hm : m.length = k * n) (h : ∀ j, j < k → (l.drop (j * n)).take n = (m.drop (j * n)).take n) : l = m := by
  apply List.ext_getElem?
  intro i
  by_cases hi : i < k * n
  · have hj : i / n < k := (Nat.div_lt_iff_lt_mul hn).2 hi
    have hr := Nat.mod_lt i hn
    have e : i / n * n + i % n = i := by rw [Nat.mul_comm]; exact Nat.div_add_mod i n
    have := congrArg (fun (z : List Value) => z[i % n]?) (h _ hj)
    simp only [cut_at hr, e] at this
    exact this
  · rw [List.getElem?_eq_none (by omega), List.getElem?_eq_none (by omega)]
end
section
variable {α : Type} {d : Kd α} {enc : α → List Value} {e : TypeId} {w : World} {base : Nat} {ok : Nat → Prop} {v : Value} {xs : List α}
theorem R_flat (F : Flat d enc) (h : d.R e w base ok v xs) : (∀ k, v.ownBlock = some k → ok k) ∧ w.ownsRow base e d.sz v xs.length (xs.flatMap enc) := by
  obtain ⟨h0, inner, ho, hr⟩ := h
  have e2 : inner = xs.flatMap enc := chunks_eq F.pos hr.1 (flat_len F.len xs) (fun j hj => by
    rw [flat_cut F.len xs j xs[j] (List.getElem?_eq_getElem hj)]
    exact F.K (d.K_of_M (hr.2 j xs[j] (List.getElem?_eq_getElem hj))))
  subst e2
  exact ⟨h0, ho⟩
theorem R_of_flat (F : Flat d enc) (h0 : ∀ k, v.ownBlock = some k → ok k) (ho : w.ownsRow base e d.sz v xs.length (xs.flatMap enc)) : d.R e w base ok v xs :=
  ⟨h0, _, ho, flat_len F.len xs, fun j p hp => by rw [flat_cut F.len xs j p hp]; exact F.M _ _ _ _⟩
end
theorem flatK_eq {α : Type} [Inhabited α] {enc : α → List Value} {k : Nat} (hk : ∀ x, (enc x).length = k) (xs : List α) : flatK enc k xs.toArray = (xs.flatMap enc).toArray := by
  apply Array.ext
  · simp only [flatK, Array.size_map, Array.size_range, List.size_toArray]
    rw [flat_len hk xs]
  · intro i h1 h2
    have hi : i < xs.length * k := by simpa [flatK] using h1
    have hk0 : 0 < k := by
      rcases Nat.eq_zero_or_pos k with e | e
      · subst e; omega
      · exact e
    have hj : i / k < xs.length := (Nat.div_lt_iff_lt_mul hk0).2 hi
    have hr := Nat.mod_lt i hk0
    have ei : i / k * k + i % k = i := by rw [Nat.mul_comm]; exact Nat.div_add_mod i k
    have e2 : (enc xs[i / k])[i % k]? = (xs.flatMap enc)[i]? := by
      rw [← flat_cut hk xs _ _ (List.getElem?_eq_getElem hj), cut_at hr, ei]
    have hlt : i % k < (enc xs[i / k]).length := by rw [hk]; exact hr
    have hlt2 : i < (xs.flatMap enc).length := by rw [flat_len hk xs]; exact hi
    rw [List.getElem?_eq_getElem hlt, List.getElem?_eq_getElem hlt2] at e2
    have e3 := Option.some.inj e2
    simp only [flatK, Array.getElem_map, Array.getElem_range, List.getElem_toArray]
    rw [← e3, getElem!_pos xs.toArray (i / k) (by simpa using hj), List.getElem_toArray, getElem!_pos (enc xs[i / k]) (i % k) hlt]
section
variable {α : Type} [Inhabited α] {d : Kd α} {enc : α → List Value}
theorem holdsK_of_row (F : Flat d enc) {w : World} {g : Nat} {cur : Array Value} {e : TypeId} {xs : List α} (hb : w.heap[g]? = some (.cells cur e (0, 0))) (ht : cur.toList.take (xs.length * d.sz) = xs.flatMap enc) : HoldsK enc d.sz w g 0 xs.toArray := by
  unfold HoldsK
  rw [flatK_eq F.len]
  exact holds_of_row hb (by rw [flat_len F.len, ht, List.map_id])
theorem putK_out (F : Flat d enc) {e : TypeId} {w0 w : World} {P : Nat → Prop} {g cap n : Nat} {cur : Array Value} {ts : List α} {os : Array Obj}
    (hB : Below w0.heap.size w0 w) (hP : P g) (hg : w0.heap.size ≤ g) (hb : w.heap[g]? = some (.cells cur e (0, 0))) (hn : ts.length ≤ cap) (hc : cap ≤ maxLen) (hs : cur.size = cap * d.sz) :
    d.R e (grow (putRowK enc d.sz (Sort.ahead w n) g 0 ts.toArray) os) w0.heap.size (fun k_ => (P k_ ∨ w.heap.size ≤ k_)) (.slice (some ⟨g, 0, none⟩) ts.length cap) ts ∧
    Below w0.heap.size w0 (grow (putRowK enc d.sz (Sort.ahead w n) g 0 ts.toArray) os) ∧ Kept w (grow (putRowK enc d.sz (Sort.ahead w n) g 0 ts.toArray) os) (fun k_ => P k_) := by
  unfold putRowK
  rw [flatK_eq F.len]
  have hgb := kept_put (enc := id) (w := w) (g := g) (n := n) (os := os) (ts.flatMap enc).toArray
  have hfl := flat_len F.len ts
  have hle : (ts.flatMap enc).length ≤ cur.size := by rw [hfl, hs]; exact Nat.mul_le_mul_right _ hn
  refine ⟨R_of_flat F (fun k hk => ?_) ⟨hfl, .inr ⟨g, cap, _, rfl, hg, heap_put _ hb, hn, hc, by simp [putCells, hs], ?_⟩⟩, hB.grown hgb hB.size (fun k hk => by cases hk; exact hg), Kept.of_grown hgb (Kept.refl _ _) (fun k hk => by cases hk; exact .inl hP)⟩
  · have : g = k := by simpa [Value.ownBlock] using hk
    subst this
    exact .inl hP
  · rw [← hfl]
    have h2 := take_put (enc := id) cur (ts.flatMap enc) hle
    rwa [List.map_id] at h2
end
end Go.Proofs.YtolcpmdojlbhcaaDoor.GBase
