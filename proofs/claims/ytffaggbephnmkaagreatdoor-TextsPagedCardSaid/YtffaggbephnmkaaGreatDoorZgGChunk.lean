/- Part of the proof that the law textsPaged is true for every input. No conditions. Laid by a program of this session over the kit's print and words; declarations that nothing names are left out. -/
import Derived.RangeFuncBox
import Derived.RangeFuncLeaves
import Derived.RangeFuncCalls
import Derived.Shelf.Abstract
import Derived.WalkKit
import Derived.OwnWalkIn
import Derived.TacticsInMore
import Derived.LoopNIn
import Derived.LoopIn
import Derived.Shelf.RegionOpen
import Derived.Sort.QuietIn
import Derived.Maps.AppendAt
import Derived.Test.YtffaggbephnmkaaGreatDoorZgGBase
import Derived.Test.YtffaggbephnmkaaGreatDoorZgWApart
namespace Go.Proofs.YtffaggbephnmkaaGreatDoor.GBase
open Go.RowKit Go.Shelf Go.Proofs.YtffaggbephnmkaaGreatDoorW.PrintWords
set_option linter.unusedVariables false
set_option linter.unusedSimpArgs false
attribute [local go_sem] Oper.semAt_some
abbrev Rnd (len : Nat) := { k : Nat // 50 * k < len }
def Kq (Bs Bn : Nat) (W W' : World) : Prop := W'.heap[Bs]? = W.heap[Bs]? ∧ W'.heap[Bn]? = W.heap[Bn]?
def chunkV (b off len k : Nat) : Value := .slice (some ⟨b, off + 50 * k, none⟩) (min 50 (len - 50 * k)) (min 50 (len - 50 * k))
set_option maxRecDepth 100000 in
set_option maxHeartbeats 2000000 in
theorem chunk_in (n : Nat) (l Bs Bn b off len cap : Nat) (hl0 : len ≤ 1000000000) (hcap : len ≤ cap) (hc2 : cap ≤ 9223372036854775807) (J Jx : List (Rnd len) → World → Prop)
    (hJd : ∀ s A (m : Nat), J s A → J s (A.drewN m))
    (hY : ∀ pre x W, J pre W → pre.length < (len + 49) / 50 → YieldAt Fence.wide (n - 1) Tryz.prog l #[chunkV b off len x.1] W fun e W' =>
      (e = .returned (.bool true) ∧ J (pre ++ [x]) W' ∧ Kq Bs Bn W W') ∨ (e = .returned (.bool false) ∧ Jx (pre ++ [x]) W'))
    (W : World) (hBs : W.cell? ⟨Bs, 0, none⟩ = some (.slice (some ⟨b, off, none⟩) len cap)) (hBn : W.cell? ⟨Bn, 0, none⟩ = some (.int .i64 50)) (h0 : J [] W) :
    CallsIn Fence.wide n Tryz.prog 59 #[.func (.yield l) #[] #[], .pointer (some ⟨Bs, 0, none⟩), .pointer (some ⟨Bn, 0, none⟩)] W fun e W' => (∃ v, e = .returned v) ∧
      ((∃ ys : List (Rnd len), ys.map (·.1) = List.range ((len + 49) / 50) ∧ J ys W') ∨ (∃ pre : List (Rnd len), True ∧ Jx pre W')) := by
  refine callsIn_of_wp Tryz.func59 rfl trivial ?_ rfl
  simp only [Tryz.ntmps59, List.size_toArray, List.length_cons, List.length_nil, Nat.reduceAdd, Nat.reduceSub, Array.replicate_succ, Array.replicate_zero, List.push_toArray, List.append_toArray, List.nil_append, List.cons_append]
  gi_wp2
  gi_loopw [4] (fun i wr => ∃ (k : Nat) (pre : List (Rnd len)), 50 * k < len + 50 ∧ i = .int .i64 ((50 * k : Nat) : Int) ∧ pre.map (·.1) = List.range k ∧ J pre wr ∧ Kq Bs Bn W wr)
    (fun i _ => len + 50 - (intOf i).toNat)
  case atStart => exact ⟨0, [], by omega, rfl, rfl, h0, rfl, rfl⟩
  case round =>
    obtain ⟨k, pre, hk, rfl, hp, hJs, hnx⟩ := hrel
    have hs := (World.cell?_of_block hnx.1).trans hBs
    have hb := (World.cell?_of_block hnx.2).trans hBn
    have hpl : pre.length = k := by have := congrArg List.length hp; simpa using this
    by_cases hlt : 50 * k < len
    · have d1 : decide (((50 * k : Nat) : Int) < (len : Int)) = true := decide_eq_true (by omega)
      have hmin : (if ((len - 50 * k : Nat) : Int) < 50 then ((len - 50 * k : Nat) : Int) else 50) = ((min 50 (len - 50 * k) : Nat) : Int) := by split <;> omega
      gi_wp2
      gi_quiet (fail)
      obtain ⟨fn, tmps, assign, body, hy, hR⟩ := hY pre ⟨k, hlt⟩ (wr.drewN nq) (hJd _ _ _ hJs) (by omega)
      dsimp only at hy
      unfold chunkV at hy
      have hs2 := (World.cell?_drewN wr nq ⟨Bs, 0, none⟩).trans hs
      have hb2 := (World.cell?_drewN wr nq ⟨Bn, 0, none⟩).trans hb
      have hmin2 : wrap64 (((50 * k : Nat) : Int) + ((min 50 (len - 50 * k) : Nat) : Int)) = ((50 * k + min 50 (len - 50 * k) : Nat) : Int) := by unfold wrap64; omega
      gi_wp2
      refine ⟨fun h => by simp [Fence.wide] at h, hR.mono ?_⟩
      rintro e W3 (⟨rfl, hJ3, hk3⟩ | ⟨rfl, hJx3⟩)
      · have hb3 := (World.cell?_of_block hk3.2).trans hb2
        have hw3 : wrap64 (((50 * k : Nat) : Int) + 50) = ((50 * (k + 1) : Nat) : Int) := by unfold wrap64; omega
        gi_wp2
        go_roundw
        case rel => exact ⟨k + 1, pre ++ [⟨k, hlt⟩], by omega, by simp; omega, by rw [List.map_append, hp, List.range_succ]; rfl, hJ3, ⟨hk3.1.trans hnx.1, hk3.2.trans hnx.2⟩⟩
        case measure => simp [intOf]; omega
      · gi_wp2
        refine bodyPost_ret (results_none rfl _ _ _) rfl ?_
        exact ⟨⟨_, rfl⟩, .inr ⟨pre ++ [⟨k, hlt⟩], trivial, hJx3⟩⟩
    · have d1 : ¬ ((50 * k : Nat) : Int) < (len : Int) := by omega
      gi_wp2
      go_end0
      have hke : k = (len + 49) / 50 := by omega
      exact ⟨⟨_, rfl⟩, .inl ⟨pre, by rw [← hke, ← hp]; simp, hJs⟩⟩
theorem chunk_stops (n : Nat) (Bs Bn b off len cap : Nat) (hl0 : len ≤ 1000000000) (hcap : len ≤ cap) (hc2 : cap ≤ 9223372036854775807) (w : World) (h1 : Bs < w.heap.size) (h2 : Bn < w.heap.size)
    (hBs : w.cell? ⟨Bs, 0, none⟩ = some (.slice (some ⟨b, off, none⟩) len cap)) (hBn : w.cell? ⟨Bn, 0, none⟩ = some (.int .i64 50)) :
    SeqStopsK Fence.wide n Tryz.prog 59 #[.pointer (some ⟨Bs, 0, none⟩), .pointer (some ⟨Bn, 0, none⟩)] (fun x : Rnd len => #[chunkV b off len x.1]) (Kq Bs Bn) (fun ys => ys.map (·.1) = List.range ((len + 49) / 50)) (fun _ => True) ((len + 49) / 50) w := by
  intro l J Jx W hW hJ _ hY h0
  refine chunk_in n l Bs Bn b off len cap hl0 hcap hc2 J Jx ?_ hY W ((hW.cell (p := ⟨Bs, 0, none⟩) h1).trans hBs) ((hW.cell (p := ⟨Bn, 0, none⟩) h2).trans hBn) h0
  intro s A m hs
  exact hJ s A _ none hs ⟨rfl, rfl, rfl, Nat.le_refl _, fun _ _ _ => rfl⟩ (fun r e => by cases e)
theorem Chunk_calls (a : Option Addr) (len cap : Nat) (w : World) :
    CallsIn Fence.wide 5 Tryz.prog 28 #[.slice a len cap, .int .i64 50] w fun e w' => e = .returned (.func (.func 59) #[] #[.pointer (some ⟨w.heap.size, 0, none⟩), .pointer (some ⟨w.heap.size + 1, 0, none⟩)]) ∧
      w' = (w.alloc (.cells #[.slice a len cap] 27)).alloc (.cells #[.int .i64 50] 3) := by
  refine callsIn_of_wp Tryz.func28 rfl trivial ?_ rfl
  simp only [Tryz.ntmps28, List.size_toArray, List.length_cons, List.length_nil, Nat.reduceAdd, Nat.reduceSub, Array.replicate_succ, Array.replicate_zero, List.push_toArray, List.append_toArray, List.nil_append, List.cons_append]
  gi_wp2
  go_ret
  exact ⟨rfl, rfl⟩
theorem wpIn_append_at {F : Fence} {n : Nat} {P : Program} {w : World} {o : Oper} {a : Act} {K : Act → World → Prop} {Q : Exit → Act → World → Prop} (s x : Operand) (t : TypeId) (hop : o.op = Op.call { callee := Callee.builtin Builtin.append, args := #[s, x], argTypes := #[t, t] })
    (v u : Value) (hs : a.eval s = v) (hx : a.eval x = u) (v' : Value) (w' : World) (hrun : (Builtin.append_ #[t, t] o.type #[v, u]).run P w = .ok v' w') (hK : K (a.put o.dst v') w') : Oper.wpIn F n P o a w K Q := by
  unfold Oper.wpIn
  refine ⟨?_, ?_⟩
  · simp [Oper.about, hop, resolve, Target.leads, Sem.run_pure]
  · rw [Oper.semAt_plain F _ _ (by rw [hop]; intro c hc'; cases hc')]
    simp [execOp, hop, resolve, invoke, builtin, hs, hx, hrun, Result.andThen]
    exact hK
theorem S_appended_ {α : Type} (d : Kd α) {e base : Nat} {ok okp : Nat → Prop} {W : World} {v : Value} {xs : List α} {p : α} {cs : List Value} (hp : d.M W base okp p cs) (hokp : ∀ k, okp k → ok k ∧ some k ≠ v.ownBlock) (hfresh : ∀ k, W.heap.size ≤ k → ok k)
    (HO : Kd.S d e W base (fun k => ok k ∧ ¬ okp k) v xs) : ∃ inner, W.ownsRow base e d.sz v xs.length inner ∧ ∀ v1 w1, w1.ownsRow base e d.sz v1 (xs.length + 1) (inner ++ cs) → W.grownBy w1 v.ownBlock → (v1.ownBlock = v.ownBlock ∨ ∃ b, v1.ownBlock = some b ∧ W.heap.size ≤ b) → Kd.S d e w1 base ok v1 (xs ++ [p]) := by
  obtain ⟨f, hf, hR⟩ := Kd.S_tag HO xs.length okp (fun _ hk h2 => h2.2 hk)
  obtain ⟨h0, inner, hown, hr⟩ := Kd.R_mono hR (fun k hk => (hk.1 : ok k))
  have hown2 := hown
  rw [List.length_zipIdx] at hown2
  refine ⟨inner, hown2, fun v1 w1 ho hg hat => ⟨f, ?_⟩⟩
  have := Kd.R_appended (d := Kd.tag f d) (p := (p, xs.length)) (cs := cs) h0 hr (d.M_mono (fun k hk => ⟨hk, hf k hk⟩) hp) hokp hfresh (by rw [List.length_zipIdx]; exact ho) hg hat
  rw [List.zipIdx_append]
  simpa using this
def chunkL (l : List ByteArray) (k : Nat) : List ByteArray := (l.drop (50 * k)).take 50
abbrev kS := Kd.slice 9 Kd.string
structure PI (wL : World) (B : Nat) (l : List ByteArray) (pre : List (Rnd l.length)) (W : World) : Prop where
  box : ∃ v, Boxed W B 31 v ∧ Kd.S kS 27 W wL.heap.size (fun _ => True) v (pre.map fun x => chunkL l x.1)
  kept : wL.grownBy W (some B)
theorem PI.own (wL : World) (B : Nat) (hB : B < wL.heap.size) (l : List ByteArray) : OwnFrom wL.heap.size (PI wL B l) := by
  rintro pre W W' row ⟨⟨v, hv, hS⟩, hk⟩ hg hr
  refine ⟨⟨v, hv.kept hg (fun e => ?_), ?_⟩, hk.os ▸ hg.os, hk.tape ▸ hg.tape, hk.output ▸ hg.output, Nat.le_trans hk.size hg.size, fun k hlt hne => ?_⟩
  · have := (hr B e.symm).1
    omega
  · refine Kd.S_mono (Kd.S_grown (Kd.S_bound hS) hg (fun k ⟨_, _, _, q, _, cells, hc⟩ e => ?_)) (fun _ _ => trivial)
    obtain ⟨_, o, ho, hn⟩ := hr k e.symm
    rw [hc] at ho
    cases ho
    cases hn
  · refine (hg.block k (Nat.lt_of_lt_of_le hlt hk.size) (fun e => ?_)).trans (hk.block k hlt hne)
    have := (hr k e.symm).1
    omega
theorem PI.drew {wL : World} {B : Nat} {l : List ByteArray} {pre : List (Rnd l.length)} {W : World} (h : PI wL B l pre W) : PI wL B l pre W.drew := by
  obtain ⟨⟨v, hv, hS⟩, hk⟩ := h
  exact ⟨⟨v, hv, Kd.S_drew hS⟩, hk.os, hk.tape, hk.output, hk.size, hk.block⟩
theorem PI.step {wL : World} {B : Nat} (hBL : B < wL.heap.size) {l : List ByteArray} {pre : List (Rnd l.length)} (x : Rnd l.length) {W : World} {v : Value} (hv : Boxed W B 31 v) (hS : Kd.S kS 27 W wL.heap.size (fun _ => True) v (pre.map fun x => chunkL l x.1)) (hk : wL.grownBy W (some B))
    {W1 : World} {v1 : Value} (hR1 : Kd.R Kd.string 9 W1 W.heap.size (fun _ => True) v1 (chunkL l x.1)) (hB1 : Below W.heap.size W W1) :
    ∃ inner, (W1.alloc (.cells #[v1] 27)).ownsRow wL.heap.size 27 1 v pre.length inner ∧ ∀ v' w1, w1.ownsRow wL.heap.size 27 1 v' (pre.length + 1) (inner ++ [v1]) → (W1.alloc (.cells #[v1] 27)).grownBy w1 v.ownBlock →
      (v'.ownBlock = v.ownBlock ∨ v'.ownBlock = some (W1.alloc (.cells #[v1] 27)).heap.size) → w1.cell? ⟨B, 0, none⟩ = some v ∧ w1.frozen? ⟨B, 0, none⟩ = false ∧ KeepsFrom wL.heap.size W (w1.setCell ⟨B, 0, none⟩ v') ∧ wL.grownBy (w1.setCell ⟨B, 0, none⟩ v') (some B) ∧ PI wL B l (pre ++ [x]) (w1.setCell ⟨B, 0, none⟩ v') := by
  have hlt := Kd.S_lt hS
  have hbs := Kd.S_base hS
  have hty := Kd.S_typed hS
  have hne := Kd.S_ne hS (g := B) hv (show 27 ≠ 31 by decide)
  have hp : kS.M (W1.alloc (.cells #[v1] 27)) wL.heap.size (fun k => W.heap.size ≤ k) (chunkL l x.1) [v1] :=
    ⟨v1, rfl, Kd.R_below (Kd.R_lower (Kd.R_mono (Kd.R_bound hR1) (fun k hk => hk.2.1)) hk.size) (below_alloc (Below.refl _ _) _)⟩
  have hO : Kd.S kS 27 (W1.alloc (.cells #[v1] 27)) wL.heap.size (fun k => True ∧ ¬ W.heap.size ≤ k) v (pre.map fun x => chunkL l x.1) :=
    Kd.S_alloc (Kd.S_mono (Kd.S_old hS hB1) (fun k hk => ⟨trivial, by omega⟩)) _
  obtain ⟨inner, hown, hA⟩ := S_appended_ kS (ok := fun _ => True) hp (fun k hk => ⟨trivial, fun e => by have := hlt k e.symm; omega⟩) (fun _ _ => trivial) hO
  rw [List.length_map] at hown hA
  refine ⟨inner, hown, fun v' w1 ho hg hat => ?_⟩
  have hv1 : Boxed W1 B 31 v := (hB1.block B hv.lt).trans hv
  have hv2 : Boxed w1 B 31 v := (hv1.alloc _).kept hg hne
  have hbig : W.heap.size ≤ W1.heap.size := hB1.size
  have hS2 := hA v' w1 ho hg (hat.elim .inl (fun h => .inr ⟨_, h, Nat.le_refl _⟩))
  have hgrow : wL.grownBy (w1.setCell ⟨B, 0, none⟩ v') (some B) := by
    refine ⟨hg.os.trans (hB1.os.trans hk.os), hg.tape.trans (hB1.tape.trans hk.tape), hg.output.trans (hB1.output.trans hk.output), ?_, fun k hlt2 hne2 => ?_⟩
    · have h1 := hg.size
      have h2 := hk.size
      simp only [World.size_alloc] at h1
      rw [World.size_setCell]
      omega
    · have hkW := hk.size
      have hkB : k ≠ B := fun e => hne2 (by rw [e])
      refine (Below.heap_setCell w1 ⟨B, 0, none⟩ v' k hkB).trans ?_
      refine (hg.block k (by simp only [World.size_alloc]; omega) (fun e => by have := hbs k e.symm; omega)).trans ?_
      refine (Below.heap_alloc W1 _ k (by omega)).trans ?_
      exact (hB1.block k (by omega)).trans (hk.block k hlt2 hne2)
  refine ⟨hv2.cell, hv2.frozen, ?_, hgrow, ⟨⟨v', hv2.set v', ?_⟩, hgrow⟩⟩
  · refine KeepsOthers.from ?_ _
    refine KeepsOthers.trans (B := W1) ⟨hB1.size, fun k o hk2 _ => (hB1.block k (Array.getElem?_eq_some_iff.1 hk2).1).trans hk2⟩ ?_
    refine (KeepsOthers.alloc W1 (.cells #[v1] 27)).trans ((KeepsOthers.of_grownBy hg fun j o ej hj => ?_).trans (KeepsOthers.setCell _ _ _))
    obtain ⟨cells, hc⟩ := hty j ej
    have hj2 : (W1.alloc (.cells #[v1] 27)).heap[j]? = W.heap[j]? := (Below.heap_alloc W1 _ j (by have := hlt j ej; omega)).trans (hB1.block j (hlt j ej))
    rw [hj2, hc] at hj
    cases hj
    rfl
  · rw [List.map_append]
    exact Kd.S_set hS2 hv2 (by decide) 0 v'
theorem infoS : (Tryz.prog.info? 27).map (fun i => (i.zero, i.size, i.bytes)) = some (some (.slice none 0 0), 1, 24) := by kernel_rfl
set_option maxRecDepth 100000 in
set_option maxHeartbeats 2000000 in
theorem pages_loop {Q : Exit → Act → World → Prop} (w : World) (B Bs Bn b cap : Nat) (l : List ByteArray) (hl : l.length ≤ 1000000000) (hcap : l.length ≤ cap) (hc2 : cap ≤ 9223372036854775807)
    (hB : Boxed w B 31 (.slice none 0 0)) (hs1 : Bs < w.heap.size) (hn1 : Bn < w.heap.size) (hsB : Bs ≠ B) (hnB : Bn ≠ B)
    (hBs : w.cell? ⟨Bs, 0, none⟩ = some (.slice (some ⟨b, 0, none⟩) l.length cap)) (hBn : w.cell? ⟨Bn, 0, none⟩ = some (.int .i64 50)) (hbB : b ≠ B) (hrow : ∀ j p, l[j]? = some p → w.cell? ⟨b, j, none⟩ = some (.string p)) (hb : b < w.heap.size)
    (hCl : ∀ (k : Nat) (W : World), 50 * k < l.length → (∀ j p, l[j]? = some p → W.cell? ⟨b, j, none⟩ = some (.string p)) → Calls Tryz.prog 29 #[chunkV b 0 l.length k] W fun e W' => ∃ v, e = .returned v ∧ Kd.R Kd.string 9 W' W.heap.size (fun _ => True) v (chunkL l k) ∧ Below W.heap.size W W')
    (t0 t1 t2 t3 t4 t5 t7 t8 t9 t10 t11 t12 t13 t14 t15 t16 t17 t18 t19 t20 t22 t23 t24 t25 t26 t27 t28 : Value)
    (hdone : ∀ (D : Nat) (W : World) (v : Value), w.heap.size ≤ D → Boxed W B 31 v → Kd.S kS 27 W w.heap.size (fun _ => True) v ((List.range ((l.length + 49) / 50)).map (chunkL l)) → w.grownBy W (some B) → W.heap[D]? = some (.deferred (some [])) →
      Q .normal { tmps := #[t0, t1, t2, t3, t4, t5, .pointer (some ⟨B, 0, none⟩), t7, t8, t9, t10, t11, t12, t13, t14, t15, t16, t17, t18, t19, t20, .func (.func 59) #[] #[.pointer (some ⟨Bs, 0, none⟩), .pointer (some ⟨Bn, 0, none⟩)], t22, t23, t24, t25, t26, t27, t28], defers := [{ target := .collected D, args := #[] }] } W) :
    (Go.Code.rangeFunc (Go.Operand.tmp 21) #[22] (Go.Code.region 9 #[{ dst := Option.some 7, op := Go.Op.assign (Go.Operand.tmp 22), type := 27, pos := "make.go:125", after := #[], guard := Option.none }] Bool.false) (Go.Code.block 1 (Go.Code.region 10 #[{ dst := Option.some 23, op := Go.Op.load 31 (Go.Operand.tmp 6), type := 31, pos := "make.go:126", after := #[], guard := Option.none }, { dst := Option.some 24, op := Go.Op.move (Go.Operand.tmp 7), type := 27, pos := "make.go:126", after := #[], guard := Option.none }, { dst := Option.some 25, op := Go.Op.call { callee := Go.Callee.value (Go.Operand.func 29), args := #[Go.Operand.tmp 24], argTypes := #[27] }, type := 27, pos := "make.go:126", after := #[{ on := 1, ground := Go.Ground.data }], guard := Option.none }, { dst := Option.some 26, op := Go.Op.buildSlice 31 1 #[(0, Go.Operand.tmp 25)], type := 31, pos := "make.go:126", after := #[{ on := 2, ground := Go.Ground.data }], guard := Option.none }, { dst := Option.some 27, op := Go.Op.call { callee := Go.Callee.builtin Go.Builtin.append, args := #[Go.Operand.tmp 23, Go.Operand.tmp 26], argTypes := #[31, 31] }, type := 31, pos := "make.go:126", after := #[{ on := 0, ground := Go.Ground.data }, { on := 3, ground := Go.Ground.data }, { on := 2, ground := Go.Ground.chain }], guard := Option.none }, { dst := Option.none, op := Go.Op.store 31 (Go.Operand.tmp 6) (Go.Operand.tmp 27), type := 0, pos := "make.go:126", after := #[{ on := 4, ground := Go.Ground.data }, { on := 4, ground := Go.Ground.chain }, { on := 0, ground := Go.Ground.phase }, { on := 1, ground := Go.Ground.phase }, { on := 2, ground := Go.Ground.phase }, { on := 3, ground := Go.Ground.phase }, { on := 4, ground := Go.Ground.phase }], guard := Option.none }] Bool.true))).wpIn Fence.wide 6 Tryz.prog Q
      { tmps := #[t0, t1, t2, t3, t4, t5, .pointer (some ⟨B, 0, none⟩), t7, t8, t9, t10, t11, t12, t13, t14, t15, t16, t17, t18, t19, t20, .func (.func 59) #[] #[.pointer (some ⟨Bs, 0, none⟩), .pointer (some ⟨Bn, 0, none⟩)], t22, t23, t24, t25, t26, t27, t28], defers := [] } w := by
  obtain ⟨i0, hi, hz0, hz1, hz2⟩ := info_parts infoS
  refine wpIn_rangeFunc_ownG rfl (by omega) (gf := 59) (lb := #[.pointer (some ⟨Bs, 0, none⟩), .pointer (some ⟨Bn, 0, none⟩)]) rfl trivial (enters_of Tryz.func59 (by kernel_rfl) rfl)
    (chunk_stops (6 - 1) Bs Bn b 0 l.length cap hl hcap hc2 w hs1 hn1 hBs hBn) (fun h k => ⟨k.1.trans h.1, k.2.trans h.2⟩)
    (fun W l o o' hle h _ _ => ⟨World.putObj_heap_other (by omega), World.putObj_heap_other (by omega)⟩) (Below.refl _ _) (fun _ => rfl)
    (PI w B l) (fun _ _ _ => False) (PI.own w B hB.lt l) (fun _ _ _ _ _ hs _ _ => hs)
    ⟨⟨_, hB, Kd.S_nil _ _ _ _ _⟩, rfl, rfl, rfl, Nat.le_refl _, fun _ _ _ => rfl⟩
    (fun x => { tmps := #[t0, t1, t2, t3, t4, t5, .pointer (some ⟨B, 0, none⟩), chunkV b 0 l.length x.1, t8, t9, t10, t11, t12, t13, t14, t15, t16, t17, t18, t19, t20, .func (.func 59) #[] #[.pointer (some ⟨Bs, 0, none⟩), .pointer (some ⟨Bn, 0, none⟩)], chunkV b 0 l.length x.1, t23, t24, t25, t26, t27, t28], defers := [] }) ?assign ?body ?done ?stop
  case assign =>
    intro l x W K hK
    gi_wp2
    exact hK
  case stop =>
    rintro D c pre W _ _ h _
    exact h.elim
  case done =>
    rintro D ys W hD hys ⟨⟨v, hv, hS⟩, hk⟩ hK
    refine hdone D W v hD hv ?_ hk hK
    have : ys.map (fun x => chunkL l x.1) = (ys.map (·.1)).map (chunkL l) := by rw [List.map_map]; rfl
    rwa [this, hys] at hS
  case body =>
    rintro lr pre x W ⟨⟨v, hv, hS⟩, hk⟩ hlt
    have hcl := hCl x.1 W.drew x.2 (fun j p hj => (World.cell?_of_block (hk.block b hb (fun e => hbB (by injection e)))).trans (hrow j p hj))
    have hS' := Kd.S_drew hS
    have hk' : w.grownBy W.drew (some B) := ⟨hk.os, hk.tape, hk.output, hk.size, hk.block⟩
    have hv' : Boxed W.drew B 31 v := hv
    have hc := hv.cell
    have hkf : KeepsFrom w.heap.size W W.drew := (KeepsOthers.drew W).from _
    have mixed : Tryz.prog.follows Departure.mixedOrders = true := by kernel_rfl
    have hNl : pre.length + 1 ≤ 1000000000 := by omega
    gi_wp2
    refine wpIn_region_any mixed ?_
    (refine wpAnyIn_ready (rs := [0, 1]) (by kernel_rfl) (by simp) ?_; refine AllReadyIn.cons rfl (fun K hK => ?_) (AllReadyIn.cons rfl (fun K hK => ?_) AllReadyIn.nil))
    · (go_simp; refine hK _ _ ?_; clear hK K)
      (refine wpAnyIn_ready (rs := [1]) (by kernel_rfl) (by simp) ?_; refine AllReadyIn.cons rfl (fun K hK => ?_) AllReadyIn.nil)
      (go_simp; refine hK _ _ ?_; clear hK K)
      (refine wpAnyIn_ready (rs := [2]) (by kernel_rfl) (by simp) ?_; refine AllReadyIn.cons rfl (fun K hK => ?_) AllReadyIn.nil)
      (go_simp; refine ⟨trivial, (CallsIn.inRound lr (callsIn_wide.2 hcl)).mono ?_⟩; rintro e W1 ⟨v1, rfl, hR1, hB1⟩; obtain ⟨inner, hown, hnext⟩ := PI.step hB.lt x hv' hS' hk' hR1 hB1; have hc1 := (hB1.cell (p := ⟨B, 0, none⟩) hv'.lt).trans hv'.cell; obtain ⟨A1, c1, rfl⟩ := Kd.R_slice hR1; have hc3 := ((Below.refl W1.heap.size W1).alloc (Nat.le_refl _) (.cells #[.slice A1 (chunkL l x.1).length c1] 27)).cell (p := ⟨B, 0, none⟩) (World.block_lt_of_cell? W1 ⟨B, 0, none⟩ hc1) |>.trans hc1; obtain ⟨v', w1, hrun, hown', hgrow, _, hat⟩ := run_append_own_at (P := Tryz.prog) (w := W1.alloc (.cells #[.slice A1 (chunkL l x.1).length c1] 27)) w.heap.size 31 31 27 i0 (.slice none 0 0) 1 24 Tryz.underlying31 hi hz0 hz1 hz2 rfl (by decide) v pre.length inner hown ⟨W1.heap.size, 0, none⟩ 1 1 [.slice A1 (chunkL l x.1).length c1] rfl (cell_one_new _ _ _) (by simp [Value.oneCell']) (by simp only [maxLen]; omega) (by omega) (by have h_ := hk.size; have h2_ := hB1.size; simp only [World.size_alloc]; have h3_ : W.drew.heap.size = W.heap.size := rfl; omega); obtain ⟨hc2, hf2, hkk, hgr, hpi⟩ := hnext v' w1 hown' hgrow hat; obtain ⟨g', cap', rfl⟩ := ownsRow_succ hown'; dsimp only; refine hK _ _ ?_; clear hK K)
      (refine wpAnyIn_ready (rs := [3]) (by kernel_rfl) (by simp) ?_; refine AllReadyIn.cons rfl (fun K hK => ?_) AllReadyIn.nil)
      (go_simp; refine hK _ _ ?_; clear hK K)
      (refine wpAnyIn_ready (rs := [4]) (by kernel_rfl) (by simp) ?_; refine AllReadyIn.cons rfl (fun K hK => ?_) AllReadyIn.nil)
      (rw [if_pos (by kernel_rfl)]; refine wpIn_append_at (Operand.tmp 23) (Operand.tmp 26) 31 rfl v (.slice (some ⟨W1.heap.size, 0, none⟩) 1 1) rfl rfl _ _ hrun ?_; refine hK _ _ ?_; clear hK K)
      (refine wpAnyIn_ready (rs := [5]) (by kernel_rfl) (by simp) ?_; refine AllReadyIn.cons rfl (fun K hK => ?_) AllReadyIn.nil)
      (go_simp; refine hK _ _ ?_; clear hK K)
      refine wpAnyIn_done (by kernel_rfl) ?_ _
      exact ⟨hkf.trans hkk, ⟨(hgr.block Bs hs1 (fun e => hsB (by injection e))).trans (hk.block Bs hs1 (fun e => hsB (by injection e))).symm, (hgr.block Bn hn1 (fun e => hnB (by injection e))).trans (hk.block Bn hn1 (fun e => hnB (by injection e))).symm⟩, hpi⟩
    · (go_simp; refine hK _ _ ?_; clear hK K)
      (refine wpAnyIn_ready (rs := [0, 2]) (by kernel_rfl) (by simp) ?_; refine AllReadyIn.cons rfl (fun K hK => ?_) (AllReadyIn.cons rfl (fun K hK => ?_) AllReadyIn.nil))
      · (go_simp; refine hK _ _ ?_; clear hK K)
        (refine wpAnyIn_ready (rs := [2]) (by kernel_rfl) (by simp) ?_; refine AllReadyIn.cons rfl (fun K hK => ?_) AllReadyIn.nil)
        (go_simp; refine ⟨trivial, (CallsIn.inRound lr (callsIn_wide.2 hcl)).mono ?_⟩; rintro e W1 ⟨v1, rfl, hR1, hB1⟩; obtain ⟨inner, hown, hnext⟩ := PI.step hB.lt x hv' hS' hk' hR1 hB1; have hc1 := (hB1.cell (p := ⟨B, 0, none⟩) hv'.lt).trans hv'.cell; obtain ⟨A1, c1, rfl⟩ := Kd.R_slice hR1; have hc3 := ((Below.refl W1.heap.size W1).alloc (Nat.le_refl _) (.cells #[.slice A1 (chunkL l x.1).length c1] 27)).cell (p := ⟨B, 0, none⟩) (World.block_lt_of_cell? W1 ⟨B, 0, none⟩ hc1) |>.trans hc1; obtain ⟨v', w1, hrun, hown', hgrow, _, hat⟩ := run_append_own_at (P := Tryz.prog) (w := W1.alloc (.cells #[.slice A1 (chunkL l x.1).length c1] 27)) w.heap.size 31 31 27 i0 (.slice none 0 0) 1 24 Tryz.underlying31 hi hz0 hz1 hz2 rfl (by decide) v pre.length inner hown ⟨W1.heap.size, 0, none⟩ 1 1 [.slice A1 (chunkL l x.1).length c1] rfl (cell_one_new _ _ _) (by simp [Value.oneCell']) (by simp only [maxLen]; omega) (by omega) (by have h_ := hk.size; have h2_ := hB1.size; simp only [World.size_alloc]; have h3_ : W.drew.heap.size = W.heap.size := rfl; omega); obtain ⟨hc2, hf2, hkk, hgr, hpi⟩ := hnext v' w1 hown' hgrow hat; obtain ⟨g', cap', rfl⟩ := ownsRow_succ hown'; dsimp only; refine hK _ _ ?_; clear hK K)
        (refine wpAnyIn_ready (rs := [3]) (by kernel_rfl) (by simp) ?_; refine AllReadyIn.cons rfl (fun K hK => ?_) AllReadyIn.nil)
        (go_simp; refine hK _ _ ?_; clear hK K)
        (refine wpAnyIn_ready (rs := [4]) (by kernel_rfl) (by simp) ?_; refine AllReadyIn.cons rfl (fun K hK => ?_) AllReadyIn.nil)
        (rw [if_pos (by kernel_rfl)]; refine wpIn_append_at (Operand.tmp 23) (Operand.tmp 26) 31 rfl v (.slice (some ⟨W1.heap.size, 0, none⟩) 1 1) rfl rfl _ _ hrun ?_; refine hK _ _ ?_; clear hK K)
        (refine wpAnyIn_ready (rs := [5]) (by kernel_rfl) (by simp) ?_; refine AllReadyIn.cons rfl (fun K hK => ?_) AllReadyIn.nil)
        (go_simp; refine hK _ _ ?_; clear hK K)
        refine wpAnyIn_done (by kernel_rfl) ?_ _
        exact ⟨hkf.trans hkk, ⟨(hgr.block Bs hs1 (fun e => hsB (by injection e))).trans (hk.block Bs hs1 (fun e => hsB (by injection e))).symm, (hgr.block Bn hn1 (fun e => hnB (by injection e))).trans (hk.block Bn hn1 (fun e => hnB (by injection e))).symm⟩, hpi⟩
      · (go_simp; refine ⟨trivial, (CallsIn.inRound lr (callsIn_wide.2 hcl)).mono ?_⟩; rintro e W1 ⟨v1, rfl, hR1, hB1⟩; obtain ⟨inner, hown, hnext⟩ := PI.step hB.lt x hv' hS' hk' hR1 hB1; have hc1 := (hB1.cell (p := ⟨B, 0, none⟩) hv'.lt).trans hv'.cell; obtain ⟨A1, c1, rfl⟩ := Kd.R_slice hR1; have hc3 := ((Below.refl W1.heap.size W1).alloc (Nat.le_refl _) (.cells #[.slice A1 (chunkL l x.1).length c1] 27)).cell (p := ⟨B, 0, none⟩) (World.block_lt_of_cell? W1 ⟨B, 0, none⟩ hc1) |>.trans hc1; obtain ⟨v', w1, hrun, hown', hgrow, _, hat⟩ := run_append_own_at (P := Tryz.prog) (w := W1.alloc (.cells #[.slice A1 (chunkL l x.1).length c1] 27)) w.heap.size 31 31 27 i0 (.slice none 0 0) 1 24 Tryz.underlying31 hi hz0 hz1 hz2 rfl (by decide) v pre.length inner hown ⟨W1.heap.size, 0, none⟩ 1 1 [.slice A1 (chunkL l x.1).length c1] rfl (cell_one_new _ _ _) (by simp [Value.oneCell']) (by simp only [maxLen]; omega) (by omega) (by have h_ := hk.size; have h2_ := hB1.size; simp only [World.size_alloc]; have h3_ : W.drew.heap.size = W.heap.size := rfl; omega); obtain ⟨hc2, hf2, hkk, hgr, hpi⟩ := hnext v' w1 hown' hgrow hat; obtain ⟨g', cap', rfl⟩ := ownsRow_succ hown'; dsimp only; refine hK _ _ ?_; clear hK K)
        (refine wpAnyIn_ready (rs := [0, 3]) (by kernel_rfl) (by simp) ?_; refine AllReadyIn.cons rfl (fun K hK => ?_) (AllReadyIn.cons rfl (fun K hK => ?_) AllReadyIn.nil))
        · (go_simp; refine hK _ _ ?_; clear hK K)
          (refine wpAnyIn_ready (rs := [3]) (by kernel_rfl) (by simp) ?_; refine AllReadyIn.cons rfl (fun K hK => ?_) AllReadyIn.nil)
          (go_simp; refine hK _ _ ?_; clear hK K)
          (refine wpAnyIn_ready (rs := [4]) (by kernel_rfl) (by simp) ?_; refine AllReadyIn.cons rfl (fun K hK => ?_) AllReadyIn.nil)
          (rw [if_pos (by kernel_rfl)]; refine wpIn_append_at (Operand.tmp 23) (Operand.tmp 26) 31 rfl v (.slice (some ⟨W1.heap.size, 0, none⟩) 1 1) rfl rfl _ _ hrun ?_; refine hK _ _ ?_; clear hK K)
          (refine wpAnyIn_ready (rs := [5]) (by kernel_rfl) (by simp) ?_; refine AllReadyIn.cons rfl (fun K hK => ?_) AllReadyIn.nil)
          (go_simp; refine hK _ _ ?_; clear hK K)
          refine wpAnyIn_done (by kernel_rfl) ?_ _
          exact ⟨hkf.trans hkk, ⟨(hgr.block Bs hs1 (fun e => hsB (by injection e))).trans (hk.block Bs hs1 (fun e => hsB (by injection e))).symm, (hgr.block Bn hn1 (fun e => hnB (by injection e))).trans (hk.block Bn hn1 (fun e => hnB (by injection e))).symm⟩, hpi⟩
        · (go_simp; refine hK _ _ ?_; clear hK K)
          (refine wpAnyIn_ready (rs := [0]) (by kernel_rfl) (by simp) ?_; refine AllReadyIn.cons rfl (fun K hK => ?_) AllReadyIn.nil)
          (go_simp; refine hK _ _ ?_; clear hK K)
          (refine wpAnyIn_ready (rs := [4]) (by kernel_rfl) (by simp) ?_; refine AllReadyIn.cons rfl (fun K hK => ?_) AllReadyIn.nil)
          (rw [if_pos (by kernel_rfl)]; refine wpIn_append_at (Operand.tmp 23) (Operand.tmp 26) 31 rfl v (.slice (some ⟨W1.heap.size, 0, none⟩) 1 1) rfl rfl _ _ hrun ?_; refine hK _ _ ?_; clear hK K)
          (refine wpAnyIn_ready (rs := [5]) (by kernel_rfl) (by simp) ?_; refine AllReadyIn.cons rfl (fun K hK => ?_) AllReadyIn.nil)
          (go_simp; refine hK _ _ ?_; clear hK K)
          refine wpAnyIn_done (by kernel_rfl) ?_ _
          exact ⟨hkf.trans hkk, ⟨(hgr.block Bs hs1 (fun e => hsB (by injection e))).trans (hk.block Bs hs1 (fun e => hsB (by injection e))).symm, (hgr.block Bn hn1 (fun e => hnB (by injection e))).trans (hk.block Bn hn1 (fun e => hnB (by injection e))).symm⟩, hpi⟩
end Go.Proofs.YtffaggbephnmkaaGreatDoor.GBase
