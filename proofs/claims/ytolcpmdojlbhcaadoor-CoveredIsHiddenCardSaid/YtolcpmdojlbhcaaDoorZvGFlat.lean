/- Part of the proof that the law coveredIsHidden is true for every input. No conditions. Laid by a program of this session over the kit's print and words; declarations that nothing names are left out. -/
import Derived.Test.YtolcpmdojlbhcaaDoorZvGBase
import Derived.Shelf.GgSortFunc.RowK
namespace Go.Proofs.YtolcpmdojlbhcaaDoor.GBase
open Go.RowKit Go.Lib Go.Sort Go.Proofs.YtolcpmdojlbhcaaDoorW.PrintWords Go.Proofs.YtolcpmdojlbhcaaDoorW.PrintLast
structure Flat {α : Type} (d : Kd α) (enc : α → List Value) : Prop where
  K : ∀ {w x cs}, d.K w x cs → cs = enc x
  M : ∀ w base ok x, d.M w base ok x (enc x)
  one : ∀ x, ∀ u ∈ enc x, u.oneCell' = true
  len : ∀ x, (enc x).length = d.sz
  pos : 0 < d.sz
section
variable {α : Type} {enc : α → List Value} {n : Nat}
theorem flat_len (h : ∀ x, (enc x).length = n) (xs : List α) : (xs.flatMap enc).length = xs.length * n := by
  induction xs with
  | nil => simp
  | cons x xs ih => rw [List.flatMap_cons, List.length_append, ih, h, List.length_cons, Nat.add_mul, Nat.one_mul, Nat.add_comm]
theorem flat_cut (h : ∀ x, (enc x).length = n) (xs : List α) : ∀ (j : Nat) (p : α), xs[j]? = some p → ((xs.flatMap enc).drop (j * n)).take n = enc p := by
  induction xs with
  | nil => intro j p hp; simp at hp
  | cons x xs ih =>
    intro j p hp
    cases j with
    | zero =>
      have : x = p := by simpa using hp
      subst this
      rw [Nat.zero_mul, List.drop_zero, List.flatMap_cons, ← h x, List.take_left]
    | succ j =>
      have hp' : xs[j]? = some p := by simpa using hp
      rw [List.flatMap_cons, Nat.add_mul, Nat.one_mul, Nat.add_comm, ← List.drop_drop]
      have e : (enc x ++ xs.flatMap enc).drop n = xs.flatMap enc := by rw [← h x, List.drop_left]
      rw [e]
      exact ih j p hp'
theorem cut_at {l : List Value} {j n r : Nat} (hr : r < n) : ((l.drop (j * n)).take n)[r]? = l[j * n + r]? := by
  rw [List.getElem?_take_of_lt hr, List.getElem?_drop]
theorem chunks_eq {l m : List Value} {k : Nat} (hn : 0 < n) (hl : l.length = k * n) (hm : m.length = k * n) (h : ∀ j, j < k → (l.drop (j * n)).take n = (m.drop (j * n)).take n) : l = m := by
  apply List.ext_getElem?
  intro i
  by_cases hi : i < k * n
  · have hj : i / n < k := (Nat.div_lt_iff_lt_mul hn).2 hi
    have hr := Nat.mod_lt i hn
    have e : i / n * n + i % n = i := by rw [Nat.mul_comm]; exact Nat.div_add_mod i n
    have := congrArg (fun (z : List Value) => z[i % n]?) (h _ hj)
    simp only [cut_at hr, e] at this
    exact this
  · rw [List.getElem?_eq_none (by omega), List.getElem?_eq_none (by omega)]
end
section
variable {α : Type} {d : Kd α} {enc : α → List Value} {e : TypeId} {w : World} {base : Nat} {ok : Nat → Prop} {v : Value} {xs : List α}
theorem R_flat (F : Flat d enc) (h : d.R e w base ok v xs) : (∀ k, v.ownBlock = some k → ok k) ∧ w.ownsRow base e d.sz v xs.length (xs.flatMap enc) := by
  obtain ⟨h0, inner, ho, hr⟩ := h
  have e2 : inner = xs.flatMap enc := chunks_eq F.pos hr.1 (flat_len F.len xs) (fun j hj => by
    rw [flat_cut F.len xs j xs[j] (List.getElem?_eq_getElem hj)]
    exact F.K (d.K_of_M (hr.2 j xs[j] (List.getElem?_eq_getElem hj))))
  subst e2
  exact ⟨h0, ho⟩
theorem R_of_flat (F : Flat d enc) (h0 : ∀ k, v.ownBlock = some k → ok k) (ho : w.ownsRow base e d.sz v xs.length (xs.flatMap enc)) : d.R e w base ok v xs :=
  ⟨h0, _, ho, flat_len F.len xs, fun j p hp => by rw [flat_cut F.len xs j p hp]; exact F.M _ _ _ _⟩
theorem C_flat (F : Flat d enc) {A : Option Addr} {n : Nat} (h : d.C w A n xs) (hn : 0 < n) : ∃ b o, A = some ⟨b, o, none⟩ ∧ b < w.heap.size ∧ ∀ j u, (xs.flatMap enc)[j]? = some u → w.cell? ⟨b, o + j, none⟩ = some u := by
  obtain ⟨hl, hm, hc⟩ := h
  obtain ⟨ad, hA, hc⟩ := hc hn
  have hcell : ∀ i u, (xs.flatMap enc)[i]? = some u → w.cell? (ad.add i) = some u := by
    intro i u hu
    have hi : i < xs.length * d.sz := by
      rw [← flat_len F.len xs]
      exact (List.getElem?_eq_some_iff.1 hu).1
    have hj : i / d.sz < xs.length := (Nat.div_lt_iff_lt_mul F.pos).2 hi
    have hr := Nat.mod_lt i F.pos
    have ei : i / d.sz * d.sz + i % d.sz = i := by rw [Nat.mul_comm]; exact Nat.div_add_mod i d.sz
    obtain ⟨c, hlc, hR, hcc⟩ := hc (i / d.sz) _ (List.getElem?_eq_getElem hj)
    obtain rfl := F.K hR
    have hu2 : (enc xs[i / d.sz])[i % d.sz]? = some u := by
      rw [← flat_cut F.len xs _ _ (List.getElem?_eq_getElem hj), cut_at hr, ei]
      exact hu
    have := hcc _ u hu2
    rwa [ei] at this
  have h0 : 0 < (xs.flatMap enc).length := by
    rw [flat_len F.len xs, hl]
    exact Nat.mul_pos hn F.pos
  have hc0 := hcell 0 _ (List.getElem?_eq_getElem h0)
  have hspot : ad.spot = none := by
    simp only [Addr.add, if_true] at hc0
    unfold World.cell? at hc0
    revert hc0
    cases hb : w.heap[ad.block]? with
    | none => simp
    | some o =>
      cases o with
      | cells c t fr =>
        cases hs : ad.spot with
        | none => simp
        | some x => simp
      | _ => simp
  obtain ⟨b, o, sp⟩ := ad
  simp only at hspot
  subst hspot
  refine ⟨b, o, hA, ?_, fun j p hp => ?_⟩
  · have := World.block_lt_of_cell? w _ hc0
    simpa [Addr.add] using this
  · have := hcell j p hp
    simp only [Addr.add] at this
    by_cases hj : j = 0
    · subst hj; simpa using this
    · rwa [if_neg hj] at this
end
theorem flatK_eq {α : Type} [Inhabited α] {enc : α → List Value} {k : Nat} (hk : ∀ x, (enc x).length = k) (xs : List α) : flatK enc k xs.toArray = (xs.flatMap enc).toArray := by
  apply Array.ext
  · simp only [flatK, Array.size_map, Array.size_range, List.size_toArray]
    rw [flat_len hk xs]
  · intro i h1 h2
    have hi : i < xs.length * k := by simpa [flatK] using h1
    have hk0 : 0 < k := by
      rcases Nat.eq_zero_or_pos k with e | e
      · subst e; omega
      · exact e
    have hj : i / k < xs.length := (Nat.div_lt_iff_lt_mul hk0).2 hi
    have hr := Nat.mod_lt i hk0
    have ei : i / k * k + i % k = i := by rw [Nat.mul_comm]; exact Nat.div_add_mod i k
    have e2 : (enc xs[i / k])[i % k]? = (xs.flatMap enc)[i]? := by
      rw [← flat_cut hk xs _ _ (List.getElem?_eq_getElem hj), cut_at hr, ei]
    have hlt : i % k < (enc xs[i / k]).length := by rw [hk]; exact hr
    have hlt2 : i < (xs.flatMap enc).length := by rw [flat_len hk xs]; exact hi
    rw [List.getElem?_eq_getElem hlt, List.getElem?_eq_getElem hlt2] at e2
    have e3 := Option.some.inj e2
    simp only [flatK, Array.getElem_map, Array.getElem_range, List.getElem_toArray]
    rw [← e3, getElem!_pos xs.toArray (i / k) (by simpa using hj), List.getElem_toArray, getElem!_pos (enc xs[i / k]) (i % k) hlt]
section
variable {α : Type} [Inhabited α] {d : Kd α} {enc : α → List Value}
theorem holdsK_of_row (F : Flat d enc) {w : World} {g : Nat} {cur : Array Value} {e : TypeId} {xs : List α} (hb : w.heap[g]? = some (.cells cur e (0, 0))) (ht : cur.toList.take (xs.length * d.sz) = xs.flatMap enc) : HoldsK enc d.sz w g 0 xs.toArray := by
  unfold HoldsK
  rw [flatK_eq F.len]
  exact holds_of_row hb (by rw [flat_len F.len, ht, List.map_id])
theorem putK_out (F : Flat d enc) {e : TypeId} {w0 w : World} {P : Nat → Prop} {g cap n : Nat} {cur : Array Value} {ts : List α} {os : Array Obj}
    (hB : Below w0.heap.size w0 w) (hP : P g) (hg : w0.heap.size ≤ g) (hb : w.heap[g]? = some (.cells cur e (0, 0))) (hn : ts.length ≤ cap) (hc : cap ≤ maxLen) (hs : cur.size = cap * d.sz) :
    d.R e (grow (putRowK enc d.sz (Sort.ahead w n) g 0 ts.toArray) os) w0.heap.size (fun k_ => (P k_ ∨ w.heap.size ≤ k_)) (.slice (some ⟨g, 0, none⟩) ts.length cap) ts ∧
    Below w0.heap.size w0 (grow (putRowK enc d.sz (Sort.ahead w n) g 0 ts.toArray) os) ∧ Kept w (grow (putRowK enc d.sz (Sort.ahead w n) g 0 ts.toArray) os) (fun k_ => P k_) := by
  unfold putRowK
  rw [flatK_eq F.len]
  have hgb := kept_put (enc := id) (w := w) (g := g) (n := n) (os := os) (ts.flatMap enc).toArray
  have hfl := flat_len F.len ts
  have hle : (ts.flatMap enc).length ≤ cur.size := by rw [hfl, hs]; exact Nat.mul_le_mul_right _ hn
  refine ⟨R_of_flat F (fun k hk => ?_) ⟨hfl, .inr ⟨g, cap, _, rfl, hg, heap_put _ hb, hn, hc, by simp [putCells, hs], ?_⟩⟩, hB.grown hgb hB.size (fun k hk => by cases hk; exact hg), Kept.of_grown hgb (Kept.refl _ _) (fun k hk => by cases hk; exact .inl hP)⟩
  · have : g = k := by simpa [Value.ownBlock] using hk
    subst this
    exact .inl hP
  · rw [← hfl]
    have h2 := take_put (enc := id) cur (ts.flatMap enc) hle
    rwa [List.map_id] at h2
theorem growK_out {α : Type} {d : Kd α} {enc : α → List Value} (F : Flat d enc) {e : Nat} {w0 w : World} {P : Nat → Prop} {xs : List α} {z : Array Value} {cs : List Value} {c n : Nat}
    (hB : Below w0.heap.size w0 w) (hz : z.size = d.sz) (hcl : cs.length = c * d.sz) (hle : xs.length ≤ c) (ht : cs.take (xs.length * d.sz) = xs.flatMap enc) (hc : c < xs.length + n) (hmax : xs.length + n ≤ maxLen) :
    d.R e (w.drew.alloc (.cells (cs.toArray ++ Builtin.zeroCells z (xs.length + n - c) ++ Builtin.zeroCells z (grownCap w (xs.length + n) c e - (xs.length + n))) e)) w0.heap.size (fun k_ => (P k_ ∨ w.heap.size ≤ k_)) (.slice (some ⟨w.heap.size, 0, none⟩) xs.length (grownCap w (xs.length + n) c e)) xs ∧
    Below w0.heap.size w0 (w.drew.alloc (.cells (cs.toArray ++ Builtin.zeroCells z (xs.length + n - c) ++ Builtin.zeroCells z (grownCap w (xs.length + n) c e - (xs.length + n))) e)) ∧
    Kept w (w.drew.alloc (.cells (cs.toArray ++ Builtin.zeroCells z (xs.length + n - c) ++ Builtin.zeroCells z (grownCap w (xs.length + n) c e - (xs.length + n))) e)) (fun k_ => P k_) := by
  have hg := grownCap_ge w (xs.length + n) c e
  have hg2 := grownCap_le_maxLen w (xs.length + n) c e hmax
  have hzc : ∀ m, (Builtin.zeroCells z m).size = m * d.sz := fun m => by simp [Builtin.zeroCells, hz]
  have hfl := flat_len F.len xs
  refine ⟨R_of_flat F (fun k hk => ?_) ⟨hfl, .inr ⟨w.heap.size, grownCap w (xs.length + n) c e, _, rfl, hB.size, heap_alloc_new _ _, by omega, hg2, ?_, ?_⟩⟩, ((pw_below_drewN hB 1).alloc hB.size _), (Kept.refl w _).drew.alloc _⟩
  · have : w.heap.size = k := by simpa [Value.ownBlock] using hk
    exact .inr (by omega)
  · rw [Array.size_append, Array.size_append, hzc, hzc, List.size_toArray, hcl, ← Nat.add_mul, ← Nat.add_mul]
    congr 1
    omega
  · rw [← ht]
    simp only [Array.toList_append, List.append_assoc]
    rw [List.take_append_of_le_length (by rw [hcl]; exact Nat.mul_le_mul_right _ hle)]
end
end Go.Proofs.YtolcpmdojlbhcaaDoor.GBase
