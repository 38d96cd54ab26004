/- A part of the proof of textsCovered. No conditions. Laid by program over the kit's print and words. -/
import Derived.Test.YtolcpmdojlbhcaaDoorProg
import Derived.Below
import Derived.Deep.Draws
import Derived.Deep.AppendLies
import Derived.Maps.AppendAt
import Derived.OwnWalk
import Derived.Laws.BytesArg
import Derived.Laws.MakeOwn
import Derived.Laws.OwnMore
import Derived.Deep.OwnRows
import Derived.Tactics
import Derived.Lib.ConvBytes
import Derived.Laws.Slices
import Derived.WalkKit
import Derived.KernelRfl
import Derived.RowKit3
import Derived.Deep.LoopGhost
import Derived.Deep.QuietTactic
import Derived.BigQuiet
import Derived.WideLaws
import Derived.Deep.DeepCutAuto
import Derived.Deep.CutBlock
import Derived.Deep.RegionHeld3
import Derived.Laws.Rows
import Derived.Lib.AppendStr
import Derived.ArgAppend
import Derived.Laws.IdiomCopy
import Derived.OrdersHeld
import Derived.Laws.BitsLemmas
import Derived.RowKit
import Derived.Test.YtolcpmdojlbhcaaDoorZyGBase
import Derived.Test.YtolcpmdojlbhcaaDoorZyShelf
import Derived.Test.YtolcpmdojlbhcaaDoorZyGWd
import Derived.Shelf.Strings.BuilderK
import Derived.Test.YtolcpmdojlbhcaaDoorZyGPu
import Derived.Test.YtolcpmdojlbhcaaDoorZyGBytes
import Derived.Test.YtolcpmdojlbhcaaDoorZyGFlat
import Derived.Test.YtolcpmdojlbhcaaDoorZyGStr
import Derived.Test.YtolcpmdojlbhcaaDoorZyGSet
import Derived.Test.YtolcpmdojlbhcaaDoorZyWWords
import Derived.Test.YtolcpmdojlbhcaaDoorZyWLast
import Derived.Test.YtolcpmdojlbhcaaDoorZyWTab
import Derived.Test.YtolcpmdojlbhcaaDoorZyWApart
import Derived.Test.YtolcpmdojlbhcaaDoorZyWFoot
import Derived.Test.YtolcpmdojlbhcaaDoorZyWKept
import Derived.Test.YtolcpmdojlbhcaaDoorZyWShare
import Derived.Test.YtolcpmdojlbhcaaDoorZyWN
import Derived.Test.YtolcpmdojlbhcaaDoorZyWEqStruct
import Derived.Test.YtolcpmdojlbhcaaDoorZyWRepsOne
import Derived.Test.YtolcpmdojlbhcaaDoorZyWInv
import Derived.Test.YtolcpmdojlbhcaaDoorZyWInvWords
import Derived.Test.YtolcpmdojlbhcaaDoorZyWGuard
import Derived.Test.YtolcpmdojlbhcaaDoorZyWMore
namespace Go.Proofs.YtolcpmdojlbhcaaDoor.Px
open Go.RowKit Go.Proofs.YtolcpmdojlbhcaaDoor.GBase Go.Proofs.YtolcpmdojlbhcaaDoorW.PrintWords Go.Proofs.YtolcpmdojlbhcaaDoorW.PrintLast Go.Proofs.YtolcpmdojlbhcaaDoorW.PrintMore
attribute [local go_sem] str_leq max2_int min2_int max_two min_two max_three min_three max_four min_four
set_option linter.unusedVariables false
set_option linter.unusedSimpArgs false
theorem m1_ {α β : Type} {f : α → β} {l : List α} : l.toArray.map f = (l.map f).toArray := by simp
theorem m2_ {α β : Type} {f : α → β} {a : α} {l : List α} : (a :: l).map f = f a :: l.map f := rfl
theorem m3_ {α β : Type} {f : α → β} : ([] : List α).map f = [] := rfl
theorem nn_ {α : Type} {c : Prop} [Decidable c] {x : Option α} {r : α} (h : ¬ c) (H : (if c then x else none) = some r) : False := by
  rw [if_neg h] at H
  exact absurd H (by simp)
theorem ode_ {p : Prop} [Decidable p] (h : decide p = true := by first | (with_reducible assumption) | assumption) : p := of_decide_eq_true h
theorem am_ {p : Prop} (h : p) : Aside0 p := ⟨h⟩
theorem px_ {P : Program} {ops : Array Oper} {Q : Exit → Act → World → Prop} {md : Region.Mode} {S : World → Prop} {ds : List Nat} {oi : Oper} {fuel : Nat} {l : Array Bool} {a : Act} {w : World} {T : Bool × List (List Nat × List Nat)} (i : Nat) (N : Tmp) (v : Value) (a' : Act) (l' : Array Bool) (hT : rtab md ops = T) (hr : ∀ w' : World, (execOp a.eval oi).run P w' = .ok (.value v) w') (ha : a.put (some N) v = a') (h : wpAnyLast P md ops Q S ds fuel l' a' w) (hk : anyT T l.toList l'.toList i = true := by kernel_rfl) (hi : ops[i]? = some oi := by rfl) (hN : oi.dst = some N := by rfl) (hw : Region.wanted oi (yielded ops a.tmps) = true := by rfl) (hQ : ∀ c a w, Q (.panic c) (a.put oi.dst v) w → Q (.panic c) a w := by exact fun _ _ _ h => h) : wpAnyLast P md ops Q S ds (fuel + 1) l a w := pu_ l' (any_of hT hk) hr ha h hi hN hw hQ
abbrev b1_ := @pw_below_drewN
abbrev b2_ := @below_drew1
abbrev b3_ := @below_alloc
abbrev r1_ := @Kd.R_alloc
abbrev r2_ := @Kd.R_drewN
abbrev r3_ := @Kd.R_drew
theorem bw_ {B : Nat} {w w1 w2 : World} (h : Below B w w1) (k : Below B w w1 → Below B w w2 := by intro h_; repeat (first | (with_reducible first | exact h_ | apply b3_ | apply b1_ | apply b2_) | exact h_)) : Below B w w2 := k h
theorem bs_ {B g : Nat} {w w1 w2 : World} (h : Below B w w1) (j : B ≤ g) (k : Below B w w1 → B ≤ g → Below B w w2 := by intro h_ j_; repeat (first | (with_reducible first | exact h_ | apply b3_ | apply b1_ | apply b2_ | refine below_set ?_ j_) | exact h_)) : Below B w w2 := k h j
theorem rr_ {α : Type} {d : Kd α} {e : Nat} {w w1 : World} {base : Nat} {ok : Nat → Prop} {v : Value} {xs : List α} (h : d.R e w base ok v xs) (k : d.R e w base ok v xs → d.R e w1 base ok v xs := by intro h_; (with_reducible repeat (first | apply r1_ | apply r2_ | apply r3_)); exact h_) : d.R e w1 base ok v xs := k h
theorem kk_ {w w1 w2 : World} {g : Nat} {o : Option Nat} (h : KeepBut w w1 g o) (k : KeepBut w w1 g o → KeepBut w w2 g o := by intro h_; repeat (first | (with_reducible first | exact h_ | apply KeepBut.set_ | apply keep_drewN | apply keep_drew | apply keep_alloc) | exact h_)) : KeepBut w w2 g o := k h
theorem bk_ {w w1 : World} {g : Nat} {o : Obj} (h : w.heap[g]? = some o) (k : w.heap[g]? = some o → w1.heap[g]? = some o := by intro h_; (with_reducible repeat (first | refine blk_drewN ?_ _ | refine blk_drew ?_ | refine blk_alloc ?_ _)); exact h_) : w1.heap[g]? = some o := k h
theorem cc_ {α : Type} {d : Kd α} {w w1 : World} {A : Option Addr} {n : Nat} {xs : List α} (h : d.C w A n xs) (k : d.C w A n xs → d.C w1 A n xs := by intro h_; repeat (first | exact h_ | (with_reducible refine Kd.C_alloc ?_ _) | (with_reducible refine Kd.C_drewN ?_ _) | (with_reducible refine Kd.C_drew ?_))) : d.C w1 A n xs := k h
theorem gl_ {p : Prop} (h : p := by (try simp only [m1_, m2_, m3_]); first | done | rfl | (simp only [List.length_drop, List.length_take]; rfl)) : p := h
theorem tr_ {p : Prop} (h : p := by first | rfl | (simp; done) | (simp [*]; done)) : p := h

def errW : Option Int → Value
  | none => .nilIface
  | some c => .iface 0 (.int .i64 c)
theorem errW_none : errW none = .nilIface := rfl
theorem errW_some (c : Int) : errW (some c) = .iface 0 (.int .i64 c) := rfl
theorem info4 : (Tryd.prog.info? 4).map (fun i => (i.zero, i.size, i.bytes)) = some (some (.bool false), 1, 1) := by kernel_rfl
theorem info9 : (Tryd.prog.info? 9).map (fun i => (i.zero, i.size, i.bytes)) = some (some (.string ⟨#[]⟩), 1, 16) := by kernel_rfl
theorem info46 : (Tryd.prog.info? 46).map (fun i => (i.zero, i.size, i.bytes)) = some (some (.agg #[(.int .i64 0), (.int .i64 0)]), 2, 16) := by kernel_rfl
structure S46 where
  f0 : Int
  f1 : Int
def z46 : S46 := ⟨(0 : Int), (0 : Int)⟩
def k46 : Kd S46 := Kd.iso (Kd.pair (Kd.int .i64) (Kd.int .i64)) (fun x : S46 => (x.f0, x.f1))
theorem k46_open {w : World} {x : S46} {cs : List Value} (h : k46.K w x cs) : cs = [.int .i64 x.f0, .int .i64 x.f1] := by
  obtain ⟨_, _, rfl, rfl, rfl⟩ := h
  exact rfl
theorem k46_openM {w : World} {base : Nat} {ok : Nat → Prop} {x : S46} {cs : List Value} (h : k46.M w base ok x cs) : cs = [.int .i64 x.f0, .int .i64 x.f1] := by
  obtain ⟨_, _, rfl, rfl, rfl⟩ := h
  exact rfl
theorem k46_mk (w : World) (x : S46)  : k46.K w x [.int .i64 x.f0, .int .i64 x.f1] := ⟨[.int .i64 x.f0], [.int .i64 x.f1], rfl, rfl, rfl⟩
theorem k46_mkM (w : World) (base : Nat) (ok : Nat → Prop) (x : S46)  : k46.M w base ok x [.int .i64 x.f0, .int .i64 x.f1] := ⟨[.int .i64 x.f0], [.int .i64 x.f1], rfl, rfl, rfl⟩
def rd_T46 (xs : List S46) (i : Int) : S46 := xs.getD i.toNat z46
theorem at_T46 {w : World} {A : Option Addr} {n : Nat} {xs : List S46} (h : Kd.C k46 w A n xs) (i : Int) (h0 : 0 ≤ i) (h1 : i < n) : ∃ ad , A = some ad ∧ w.cell? (ad.add (i.toNat * 2)) = some (.int .i64 (rd_T46 xs i).f0) ∧ w.cell? ⟨(ad.add (i.toNat * 2)).block, (ad.add (i.toNat * 2)).off + 1, none⟩ = some (.int .i64 (rd_T46 xs i).f1) := by
  obtain ⟨ad, c, e, _, hK, hc0⟩ := Kd.C_get h z46 i h0 h1
  have hc : ∀ j u, c[j]? = some u → w.cell? (ad.add (i.toNat * 2 + j)) = some u := hc0
  obtain rfl := k46_open hK
  exact ⟨ad, e, hc 0 _ rfl, by rw [← add_field _ _ 1 (by omega)]; exact hc 1 _ rfl⟩
end Go.Proofs.YtolcpmdojlbhcaaDoor.Px
