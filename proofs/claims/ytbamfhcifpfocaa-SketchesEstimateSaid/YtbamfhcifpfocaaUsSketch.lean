/- near.Sketch and chaseref1.SketchOf are one function, for a string of at most 2^20 bytes. -/
import Derived.Test.YtbamfhcifpfocaaUsShingles
import Derived.Test.YtbamfhcifpfocaaPsx4
import Derived.Test.YtbamfhcifpfocaaPsx5
namespace Go.Proofs.Ytbamfhcifpfocaa.Ps
open Go.RowKit Go.Proofs.Ytbamfhcifpfocaa.GBase Go.Proofs.YtbamfhcifpfocaaW.PrintWords Go.Proofs.YtbamfhcifpfocaaW.PrintLast Go.Proofs.YtbamfhcifpfocaaW.PrintMore
set_option linter.unusedVariables false
set_option linter.unusedSimpArgs false

def fnvStep (s : ByteArray) (i : Nat) (h : Int) : Int := IntKind.u64.wrap ((Go.bits .xor .u64 h (IntKind.u64.wrap (bt s i))) * 1099511628211)
def fnv (s : ByteArray) (i : Nat) (h : Int) : Int := if i < s.size then fnv s (i + 1) (fnvStep s i h) else h
  termination_by s.size - i
theorem u64_range (x : Int) : 0 ≤ IntKind.u64.wrap x ∧ IntKind.u64.wrap x < 18446744073709551616 := by
  simp [IntKind.wrap, IntKind.signed, IntKind.bits]
  omega
theorem u64_id {x : Int} (h0 : 0 ≤ x) (h1 : x < 18446744073709551616) : IntKind.u64.wrap x = x := by
  simp [IntKind.wrap, IntKind.signed, IntKind.bits]
  omega
theorem fnv_range (s : ByteArray) (d : Nat) : ∀ (i : Nat) (h : Int), s.size - i ≤ d → 0 ≤ h → h < 18446744073709551616 → 0 ≤ fnv s i h ∧ fnv s i h < 18446744073709551616 := by
  induction d with
  | zero => intro i h hd h0 h1; rw [fnv, if_neg (by omega)]; exact ⟨h0, h1⟩
  | succ d ih =>
    intro i h hd h0 h1
    rw [fnv]
    split
    · have := u64_range ((Go.bits .xor .u64 h (IntKind.u64.wrap (bt s i))) * 1099511628211)
      exact ih (i + 1) _ (by omega) this.1 this.2
    · exact ⟨h0, h1⟩
def hashOf (s : ByteArray) : Int := wrap64 (fnv s 0 14695981039346656037 / 2)
theorem hash64_loop (s : ByteArray) (hs : s.size ≤ 140737488355328) (d : Nat) : ∀ (i : Nat) (h : Int), s.size - i ≤ d → i ≤ s.size → Ev (fun k => chaseref1_hash64.l0 k s h (i : Int)) (fnv s i h) := by
  induction d with
  | zero =>
    intro i h hd hi
    rw [fnv, if_neg (by omega)]
    exact Ev.step (fun _ => chaseref1_hash64.l0.eq_2 ..) (ev_neg (by omega) (ev_val rfl))
  | succ d ih =>
    intro i h hd hi
    by_cases hlt : i < s.size
    · have hw : wrap64 ((i : Int) + 1) = ((i + 1 : Nat) : Int) := by rw [wr64 (by omega) (by omega)]; omega
      rw [fnv, if_pos hlt]
      refine Ev.step (fun _ => chaseref1_hash64.l0.eq_2 ..) (ev_pos (by omega) (ev_pos (by omega) ?_))
      rw [hw]
      exact ih (i + 1) _ (by omega) (by omega)
    · obtain rfl : i = s.size := by omega
      exact ih _ h (by omega) (by omega)
theorem hash64_ev (s : ByteArray) (hs : s.size ≤ 140737488355328) : Ev (fun k => chaseref1_hash64.f k s) (fnv s 0 14695981039346656037) := hash64_loop s hs _ 0 _ (Nat.le_refl _) (by omega)
def sketchOf (s : ByteArray) (k n : Nat) : List Int := (Lib.compact (sortI ((shinglesOf s k).map hashOf))).take (min n (Lib.compact (sortI ((shinglesOf s k).map hashOf))).length)
theorem rd_at (l : List ByteArray) (j : Nat) (hj : j < l.length) : rdOf ByteArray.empty l (j : Int) = l[j] := by
  simp [rdOf, List.getD, hj]
theorem sizes_join (l : List (List UInt8)) (sep : List UInt8) : ∀ x ∈ l, x.length ≤ (Lib.join l sep).length := by
  cases l with
  | nil => intro x hx; cases hx
  | cons y r =>
    intro x hx
    rw [Lib.join_cons]
    rcases List.mem_cons.1 hx with rfl | hx
    · simp
    · simp only [List.length_append]
      have : ∀ r : List (List UInt8), x ∈ r → x.length ≤ (Lib.joinTail sep r).length := by
        intro r
        induction r with
        | nil => intro h; cases h
        | cons z r ih =>
          intro h
          unfold Lib.joinTail
          simp only [List.map_cons, List.flatten_cons, List.length_append]
          rcases List.mem_cons.1 h with rfl | h
          · omega
          · have := ih h
            unfold Lib.joinTail at this
            omega
      have := this r hx
      omega
theorem mem_compactS {l : List ByteArray} {x : ByteArray} (h : x ∈ compactS l) : x ∈ l := by
  obtain ⟨y, hy, rfl⟩ := List.mem_map.1 h
  unfold Lib.compact Lib.compactUpTo at hy
  obtain ⟨j, hj, rfl⟩ := List.mem_map.1 hy
  have hj2 : j < l.length := by
    have := (List.mem_filter.1 hj).1
    simpa [toL_length] using this
  have e : (toL l).toArray[j]! = l[j].data.toList := by
    have h1 : j < (toL l).toArray.size := by simpa [toL_length] using hj2
    rw [getElem!_pos (toL l).toArray j h1]
    simp [toL]
  rw [e]
  exact List.getElem_mem hj2
theorem mem_sortS {l : List ByteArray} {x : ByteArray} (h : x ∈ sortS l) : x ∈ l := by
  obtain ⟨y, hy, rfl⟩ := List.mem_map.1 h
  rw [List.mem_mergeSort] at hy
  obtain ⟨z, hz, rfl⟩ := List.mem_map.1 hy
  exact hz
theorem shinglesOf_size (s : ByteArray) (hs : s.size ≤ 1048576) (n : Nat) : ∀ x ∈ shinglesOf s n, x.size ≤ 140737488355328 := by
  intro x hx
  unfold shinglesOf at hx
  split at hx
  · cases hx
  · have h1 := mem_sortS (mem_compactS hx)
    obtain ⟨i, _, rfl⟩ := List.mem_map.1 h1
    have hc := wordsOf_count s
    have h3 := gram_join s hs (min n (wordsOf s).length) i (by omega)
    unfold strings_Join.f at h3
    split at h3
    · rename_i h4
      exact h4.2
    · cases h3
theorem near_sk_in (x2 : Int) (L : List ByteArray) (n i : Nat) (acc : List Int) (hacc : acc.length < 17592186044416) (s : ByteArray) (hs : s.size ≤ 140737488355328) (r : List Int × Int)
    (hr : Ev (fun k => near_Sketch.l0 k x2 (acc ++ [hashOf s]) L (n : Int) (wrap64 ((i : Int) + 1))) r) (d : Nat) : ∀ (j : Nat) (h : Int), s.size - j ≤ d → j ≤ s.size → fnv s j h = fnv s 0 14695981039346656037 →
    Ev (fun k => near_Sketch.l1 k x2 acc s h L (n : Int) (i : Int) (s.size : Int) (j : Int)) r := by
  induction d with
  | zero =>
    intro j h hd hj he
    have e : h = fnv s 0 14695981039346656037 := by rw [← he, fnv, if_neg (by omega)]
    refine Ev.step (fun _ => near_Sketch.l1.eq_2 ..) (ev_neg (by omega) (ev_pos (by omega) ?_))
    rw [e]
    exact hr
  | succ d ih =>
    intro j h hd hj he
    by_cases hlt : j < s.size
    · have hw : wrap64 ((j : Int) + 1) = ((j + 1 : Nat) : Int) := by rw [wr64 (by omega) (by omega)]; omega
      refine Ev.step (fun _ => near_Sketch.l1.eq_2 ..) (ev_pos (by omega) (ev_pos (by omega) (ev_pos (by omega) ?_)))
      rw [hw]
      exact ih (j + 1) _ (by omega) (by omega) (by rw [← he, fnv.eq_1 s j h, if_pos hlt]; rfl)
    · obtain rfl : j = s.size := by omega
      exact ih _ h (by omega) (by omega) he
theorem sortI_length (l : List Int) : (sortI l).length = l.length := by simp [sortI, List.length_mergeSort]
theorem near_sk_loop (n : Nat) (L : List ByteArray) (hL : ∀ x ∈ L, x.size ≤ 140737488355328) (hl : L.length ≤ 1048577) (d : Nat) : ∀ j : Nat, L.length - j ≤ d → j ≤ L.length →
    Ev (fun k => near_Sketch.l0 k (n : Int) ((L.take j).map hashOf) L (L.length : Int) (j : Int)) ((Lib.compact (sortI (L.map hashOf))).take (min n (Lib.compact (sortI (L.map hashOf))).length), 0) := by
  induction d with
  | zero =>
    intro j hd hj
    obtain rfl : j = L.length := by omega
    rw [List.take_length]
    have hc := compact_le (sortI (L.map hashOf))
    rw [sortI_length, List.length_map] at hc
    refine Ev.step (fun _ => near_Sketch.l0.eq_2 ..) (ev_neg (by omega) (ev_bindc (a := sortI (L.map hashOf)) ?_ (ev_bindc (a := Lib.compact (sortI (L.map hashOf))) rfl ?_)))
    · unfold slices_Sort_int_int.f
      rw [if_pos (by simp; omega)]
    · rw [mn_is]
      refine ev_pos (by omega) (ev_pos (by omega) (ev_val ?_))
      rw [Int.toNat_natCast]
  | succ d ih =>
    intro j hd hj
    by_cases hlt : j < L.length
    · have hw : wrap64 ((j : Int) + 1) = ((j + 1 : Nat) : Int) := by rw [wr64 (by omega) (by omega)]; omega
      refine Ev.step (fun _ => near_Sketch.l0.eq_2 ..) (ev_pos (by omega) (ev_pos (by omega) (ev_pos (by omega) ?_)))
      rw [rd_at L j hlt]
      refine near_sk_in (n : Int) L L.length j ((L.take j).map hashOf) (by simp; omega) L[j] (hL _ (List.getElem_mem hlt)) _ ?_ _ 0 _ (Nat.le_refl _) (by omega) rfl
      rw [hw]
      have := ih (j + 1) (by omega) (by omega)
      rw [List.take_succ_eq_append_getElem hlt, List.map_append] at this
      exact this
    · obtain rfl : j = L.length := by omega
      exact ih _ (by omega) (by omega)
theorem ref_sk_loop (n : Nat) (L : List ByteArray) (hL : ∀ x ∈ L, x.size ≤ 140737488355328) (hl : L.length ≤ 1048577) (d : Nat) : ∀ j : Nat, L.length - j ≤ d → j ≤ L.length →
    Ev (fun k => chaseref1_SketchOf.l0 k (n : Int) ((L.take j).map hashOf) L (L.length : Int) (j : Int)) ((Lib.compact (sortI (L.map hashOf))).take (min n (Lib.compact (sortI (L.map hashOf))).length), 0) := by
  induction d with
  | zero =>
    intro j hd hj
    obtain rfl : j = L.length := by omega
    rw [List.take_length]
    have hc := compact_le (sortI (L.map hashOf))
    rw [sortI_length, List.length_map] at hc
    refine Ev.step (fun _ => chaseref1_SketchOf.l0.eq_2 ..) (ev_neg (by omega) (ev_bindc (a := sortI (L.map hashOf)) ?_ (ev_bindc (a := Lib.compact (sortI (L.map hashOf))) rfl ?_)))
    · unfold slices_Sort_int_int.f
      rw [if_pos (by simp; omega)]
    · rw [mn_is]
      refine ev_pos (by omega) (ev_pos (by omega) (ev_val ?_))
      rw [Int.toNat_natCast]
  | succ d ih =>
    intro j hd hj
    by_cases hlt : j < L.length
    · have hw : wrap64 ((j : Int) + 1) = ((j + 1 : Nat) : Int) := by rw [wr64 (by omega) (by omega)]; omega
      have hf := fnv_range L[j] _ 0 14695981039346656037 (Nat.le_refl _) (by omega) (by omega)
      have hh : wrap64 (IntKind.u64.wrap (Int.tdiv (fnv L[j] 0 14695981039346656037) 2)) = hashOf L[j] := by
        unfold hashOf
        rw [Int.tdiv_eq_ediv_of_nonneg hf.1, u64_id (by omega) (by omega)]
      refine Ev.step (fun _ => chaseref1_SketchOf.l0.eq_2 ..) (ev_pos (by omega) (ev_pos (by omega) (ev_pos (by omega) ?_)))
      rw [rd_at L j hlt]
      refine Ev.bind (hash64_ev L[j] (hL _ (List.getElem_mem hlt))) (ev_pos (by simp; omega) ?_)
      rw [hw, hh]
      have := ih (j + 1) (by omega) (by omega)
      rw [List.take_succ_eq_append_getElem hlt, List.map_append] at this
      exact this
    · obtain rfl : j = L.length := by omega
      exact ih _ (by omega) (by omega)
/-- The error of a sketch's arguments. -/
def skErr (s : ByteArray) (k n : Int) : Int := if (s.size : Int) > 20000 then 2 else if k < 1 ∨ k > 10 then 1 else if n < 1 ∨ n > 200 then 1 else 0
theorem large_is (s : ByteArray) : near_large.f s = some (if (s.size : Int) > 20000 then 2 else 0) := by
  unfold near_large.f base_When.f
  by_cases h : (s.size : Int) > 20000 <;> simp [h]
theorem kError_is (k : Int) : near_kError.f k = some (if k < 1 ∨ k > 10 then 1 else 0) := by
  unfold near_kError.f base_In.f base_When.f
  by_cases h : k ≥ 1
  · by_cases h2 : k ≤ 10
    · have : ¬ (k < 1 ∨ k > 10) := by omega
      simp [h, h2, this]
    · have : k < 1 ∨ k > 10 := by omega
      simp [h, h2, this]
  · have : k < 1 ∨ k > 10 := by omega
    simp [h, this]
theorem sizeError_is (k : Int) : near_sizeError.f k = some (if k < 1 ∨ k > 200 then 1 else 0) := by
  unfold near_sizeError.f base_In.f base_When.f
  by_cases h : k ≥ 1
  · by_cases h2 : k ≤ 200
    · have : ¬ (k < 1 ∨ k > 200) := by omega
      simp [h, h2, this]
    · have : k < 1 ∨ k > 200 := by omega
      simp [h, h2, this]
  · have : k < 1 ∨ k > 200 := by omega
    simp [h, this]
/-- The first that is not 0. -/
def firstOf : List Int → Int
  | [] => 0
  | x :: r => if x = 0 then firstOf r else x
theorem First_loop (l : List Int) (hl : l.length < 1000000) (d : Nat) : ∀ j : Nat, l.length - j ≤ d → j ≤ l.length → Ev (fun k => base_First.l0 k l (l.length : Int) (j : Int)) (firstOf (l.drop j)) := by
  induction d with
  | zero =>
    intro j hd hj
    obtain rfl : j = l.length := by omega
    rw [List.drop_length]
    exact Ev.step (fun _ => base_First.l0.eq_2 ..) (ev_neg (by omega) (ev_val rfl))
  | succ d ih =>
    intro j hd hj
    by_cases hlt : j < l.length
    · have hw : wrap64 ((j : Int) + 1) = ((j + 1 : Nat) : Int) := by rw [wr64 (by omega) (by omega)]; omega
      have hr : rd l (j : Int) = l[j] := by simp [rd, List.getD, hlt]
      rw [List.drop_eq_getElem_cons hlt]
      refine Ev.step (fun _ => base_First.l0.eq_2 ..) (ev_pos (by omega) (ev_pos (by omega) (ev_pos (by omega) ?_)))
      rw [hr]
      unfold firstOf
      by_cases hz : l[j] = 0
      · rw [if_pos hz]
        refine ev_pos hz ?_
        rw [hw]
        exact ih (j + 1) (by omega) (by omega)
      · rw [if_neg hz]
        exact ev_neg hz (ev_val rfl)
    · obtain rfl : j = l.length := by omega
      exact ih _ (by omega) (by omega)
theorem First_ev (l : List Int) (hl : l.length < 1000000) : Ev (fun k => base_First.f k l) (firstOf l) := First_loop l hl _ 0 (Nat.le_refl _) (by omega)
theorem near_Sketch_ev (s : ByteArray) (hs : s.size ≤ 1048576) (k n : Int) :
    Ev (fun q => near_Sketch.f q s k n) (if skErr s k n = 0 then (sketchOf s k.toNat n.toNat, 0) else ([], skErr s k n)) := by
  unfold near_Sketch.f
  refine ev_bindc (large_is s) (ev_bindc (kError_is k) (ev_bindc (sizeError_is n) (Ev.bind (First_ev _ (by simp)) ?_)))
  have e : firstOf [if (s.size : Int) > 20000 then 2 else 0, if k < 1 ∨ k > 10 then 1 else 0, if n < 1 ∨ n > 200 then 1 else 0] = skErr s k n := by
    unfold skErr
    by_cases h1 : (s.size : Int) > 20000 <;> by_cases h2 : k < 1 ∨ k > 10 <;> by_cases h3 : n < 1 ∨ n > 200 <;> simp [firstOf, h1, h2, h3]
  rw [e]
  by_cases hz : skErr s k n = 0
  · rw [if_pos hz]
    have hk : 1 ≤ k ∧ k ≤ 10 ∧ 1 ≤ n := by
      unfold skErr at hz
      split at hz
      · omega
      · split at hz
        · omega
        · split at hz
          · omega
          · omega
    obtain ⟨k', rfl⟩ := Int.eq_ofNat_of_zero_le (show 0 ≤ k by omega)
    obtain ⟨n', rfl⟩ := Int.eq_ofNat_of_zero_le (show 0 ≤ n by omega)
    refine ev_pos hz (Ev.bind (near_shingles_ev s hs k') ?_)
    have hc := shinglesOf_count s k'
    exact near_sk_loop n' (shinglesOf s k') (shinglesOf_size s hs k') (by omega) _ 0 (Nat.le_refl _) (by omega)
  · rw [if_neg hz]
    exact ev_neg hz (ev_val rfl)
theorem ref_Sketch_ev (s : ByteArray) (hs : s.size ≤ 1048576) (k n : Int) :
    Ev (fun q => chaseref1_SketchOf.f q s k n) (if skErr s k n = 0 then (sketchOf s k.toNat n.toNat, 0) else ([], skErr s k n)) := by
  unfold chaseref1_SketchOf.f
  have e : chaseref1_ShinglesFault.f s k = some (if (s.size : Int) > 20000 then 2 else if k < 1 ∨ k > 10 then 1 else 0) := by
    unfold chaseref1_ShinglesFault.f
    by_cases h1 : (s.size : Int) > 20000
    · simp [h1]
    · by_cases h2 : k < 1
      · simp [h1, h2]
      · by_cases h3 : k > 10 <;> simp [h1, h2, h3]
  refine ev_bindc e ?_
  have hj : Ev (fun q => chaseref1_SketchOf.j0 q s k n true) ([], 1) := Ev.step (fun _ => chaseref1_SketchOf.j0.eq_2 ..) (ev_pos rfl (ev_val rfl))
  by_cases h1 : (s.size : Int) > 20000
  · have hz : skErr s k n = 2 := by simp [skErr, h1]
    rw [hz, if_pos h1]
    exact ev_neg (by omega) (ev_val rfl)
  · rw [if_neg h1]
    by_cases h2 : k < 1 ∨ k > 10
    · have hz : skErr s k n = 1 := by simp [skErr, h1, h2]
      rw [hz, if_pos h2]
      exact ev_neg (by omega) (ev_val rfl)
    · rw [if_neg h2]
      refine ev_pos rfl ?_
      by_cases h3 : n < 1
      · have hz : skErr s k n = 1 := by simp [skErr, h1, h2, h3]
        rw [hz]
        exact ev_pos h3 hj
      · refine ev_neg h3 ?_
        by_cases h4 : n > 200
        · have hz : skErr s k n = 1 := by simp [skErr, h1, h2, h4]
          rw [hz, decide_eq_true h4]
          exact hj
        · have hz : skErr s k n = 0 := by simp [skErr, h1, h2, h3, h4]
          rw [hz, if_pos rfl, decide_eq_false h4]
          obtain ⟨k', rfl⟩ := Int.eq_ofNat_of_zero_le (show 0 ≤ k by omega)
          obtain ⟨n', rfl⟩ := Int.eq_ofNat_of_zero_le (show 0 ≤ n by omega)
          refine Ev.step (fun _ => chaseref1_SketchOf.j0.eq_2 ..) (ev_neg (by simp) (Ev.bind (ShinglesOf_ev s hs k') ?_))
          have hc := shinglesOf_count s k'
          exact ref_sk_loop n' (shinglesOf s k') (shinglesOf_size s hs k') (by omega) _ 0 (Nat.le_refl _) (by omega)
end Go.Proofs.Ytbamfhcifpfocaa.Ps
