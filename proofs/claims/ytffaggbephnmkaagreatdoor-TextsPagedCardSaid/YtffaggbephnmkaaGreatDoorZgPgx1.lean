/- Part of the proof that the law textsPaged is true for every input. No conditions. Laid by a program of this session over the kit's print and words; declarations that nothing names are left out. -/
import Derived.Test.YtffaggbephnmkaaGreatDoorZgPgx0
namespace Go.Proofs.YtffaggbephnmkaaGreatDoor.Pg
open Go.RowKit Go.Proofs.YtffaggbephnmkaaGreatDoor.GBase Go.Proofs.YtffaggbephnmkaaGreatDoorW.PrintWords Go.Proofs.YtffaggbephnmkaaGreatDoorW.PrintLast Go.Proofs.YtffaggbephnmkaaGreatDoorW.PrintMore
attribute [local go_sem] str_leq max2_int min2_int max_two min_two max_three min_three max_four min_four
set_option linter.unusedVariables false
set_option linter.unusedSimpArgs false
def chasemake_Below.f (a0 : Int) (a1 : Int) : Option (Int) := if a1 < 1 then (some 0) else (if a1 = 0 then (none) else (if (Int.tmod a0 a1) < 0 then (some (wrap64 ((Int.tmod a0 a1) + a1))) else (some (Int.tmod a0 a1))))
set_option maxHeartbeats 8000000 in
set_option maxRecDepth 100000 in
theorem chasemake_Below.calls (a0 : Int) (a1 : Int) (r : Int) (w : World) (h : chasemake_Below.f a0 a1 = some r) :
    Calls Tryz.prog 76 #[.int .i64 a0, .int .i64 a1] w fun e w' => e = .returned (.int .i64 r) ∧ Drawn0 w w' := by
  have H : (if a1 < 1 then (some 0) else (if a1 = 0 then (none) else (if (Int.tmod a0 a1) < 0 then (some (wrap64 ((Int.tmod a0 a1) + a1))) else (some (Int.tmod a0 a1))))) = some r := h
  clear h
  by_cases c3 : a1 < 1
  · rw [if_pos c3] at H
    have c3b0 : decide (a1 < 1) = true := decide_eq_true c3
    clear c3
    obtain rfl := Option.some.inj H
    go_enter Tryz.func76, Tryz.ntmps76
    go_wp2
    go_ret
    exact ⟨by first | rfl | (simp; done) | (simp [*]; done), by repeat (first | exact Drawn0.refl _ | apply Drawn0.step)⟩
  · rw [if_neg c3] at H
    have c3b0 : decide (a1 < 1) = false := decide_eq_false c3
    clear c3
    by_cases c4 : a1 = 0
    · rw [if_pos c4] at H
      exact absurd H (by simp)
    · rw [if_neg c4] at H
      have c4b0 : (a1 == 0) = false := beq_eq_false_iff_ne.mpr c4
      have c4b1 : (a1 != 0) = true := bne_iff_ne.mpr c4
      by_cases c5 : (Int.tmod a0 a1) < 0
      · rw [if_pos c5] at H
        have c5b0 : decide ((Int.tmod a0 a1) < 0) = true := decide_eq_true c5
        clear c5
        obtain rfl := Option.some.inj H
        go_enter Tryz.func76, Tryz.ntmps76
        go_wp2
        go_ret
        exact ⟨by first | rfl | (simp; done) | (simp [*]; done), by repeat (first | exact Drawn0.refl _ | apply Drawn0.step)⟩
      · rw [if_neg c5] at H
        have c5b0 : decide ((Int.tmod a0 a1) < 0) = false := decide_eq_false c5
        clear c5
        obtain rfl := Option.some.inj H
        go_enter Tryz.func76, Tryz.ntmps76
        go_wp2
        go_ret
        exact ⟨by first | rfl | (simp; done) | (simp [*]; done), by repeat (first | exact Drawn0.refl _ | apply Drawn0.step)⟩
def IsS25 (w0 W : World) (g : Nat) (f0 : List Int) (f1 : Int) : Prop := ∃ A0 c0, W.heap[g]? = some (.cells #[.slice A0 f0.length c0, .int .i64 f1] 25 (0, 0)) ∧ w0.heap.size ≤ g ∧ Kd.C (Kd.int .i64) w0 A0 f0.length f0
theorem IsS25.grown {w0 W : World} {g : Nat} {f0 : List Int} {f1 : Int} {W1 : World} {row : Option Nat} (h : IsS25 w0 W g f0 f1) (hw : W.grownBy W1 row) (hne : some g ≠ row) : IsS25 w0 W1 g f0 f1 := by
  obtain ⟨A0, c0, hb, hg, hr0⟩ := h
  exact ⟨A0, c0, blk_grown hb hw hne, hg, hr0⟩
theorem IsS25.kept {w0 W : World} {g : Nat} {f0 : List Int} {f1 : Int} {W1 : World} {S : Nat → Prop} (h : IsS25 w0 W g f0 f1) (hk : Kept W W1 S) (hne : ¬ S g) : IsS25 w0 W1 g f0 f1 := by
  obtain ⟨A0, c0, hb, hg, hr0⟩ := h
  exact ⟨A0, c0, blk_kept hb hk hne, hg, hr0⟩
theorem IsS25.below {w0 W : World} {g : Nat} {f0 : List Int} {f1 : Int} {W1 : World} (h : IsS25 w0 W g f0 f1) (hw : Below W.heap.size W W1) : IsS25 w0 W1 g f0 f1 := h.grown (grown_of_below hw none) (by simp)
theorem IsS25.alloc {w0 W : World} {g : Nat} {f0 : List Int} {f1 : Int} (h : IsS25 w0 W g f0 f1) (o : Obj) : IsS25 w0 (W.alloc o) g f0 f1 := h.below (below_alloc (Below.refl _ _) o)
theorem IsS25.drewN {w0 W : World} {g : Nat} {f0 : List Int} {f1 : Int} (h : IsS25 w0 W g f0 f1) (m : Nat) : IsS25 w0 (W.drewN m) g f0 f1 := h
theorem IsS25.drew {w0 W : World} {g : Nat} {f0 : List Int} {f1 : Int} (h : IsS25 w0 W g f0 f1) : IsS25 w0 W.drew g f0 f1 := h
theorem IsS25.at_ {w0 W : World} {g : Nat} {f0 : List Int} {f1 : Int} {w' : World} {m : Nat} (hq : W.drewN m = w') (h : IsS25 w0 W g f0 f1) : IsS25 w0 w' g f0 f1 := by subst hq; exact IsS25.drewN h m
theorem IsS25.apart {w0 W : World} {g : Nat} {f0 : List Int} {f1 : Int} {α : Type} {d : Kd α} {e : Nat} {base : Nat} {ok : Nat → Prop} {v : Value} {xs : List α} (h : IsS25 w0 W g f0 f1) (ho : d.R e W base ok v xs) (ht : ∀ q, q ∈ e :: d.E → q ≠ 25) : d.R e W base (fun k => ok k ∧ k ≠ g) v xs := by
  obtain ⟨A0, c0, hb, hg, hr0⟩ := h
  exact Kd.R_types ho hb ht
theorem IsS25.own_ne {w0 W : World} {g : Nat} {f0 : List Int} {f1 : Int} {α : Type} {d : Kd α} {e : Nat} {base : Nat} {ok : Nat → Prop} {v : Value} {xs : List α} (h : IsS25 w0 W g f0 f1) (ho : d.R e W base ok v xs) (ht : e ≠ 25) : some g ≠ v.ownBlock := by
  obtain ⟨A0, c0, hb, hg, hr0⟩ := h
  exact Kd.R_ne ho hb ht
theorem IsS25.lt {w0 W : World} {g : Nat} {f0 : List Int} {f1 : Int} (h : IsS25 w0 W g f0 f1) : g < W.heap.size := by
  obtain ⟨A0, c0, hb, hg, hr0⟩ := h
  exact blk_lt hb
theorem IsS25.ge {w0 W : World} {g : Nat} {f0 : List Int} {f1 : Int} (h : IsS25 w0 W g f0 f1) : w0.heap.size ≤ g := by
  obtain ⟨A0, c0, hb, hg, hr0⟩ := h
  exact hg
theorem IsS25.far {w0 W : World} {g : Nat} {f0 : List Int} {f1 : Int} {p : Addr} (h : IsS25 w0 W g f0 f1) (hne : g ≠ p.block) (u : Value) : IsS25 w0 (W.setCell p u) g f0 f1 := by
  obtain ⟨A0, c0, hb, hg, hr0⟩ := h
  exact ⟨A0, c0, blk_far hb hne u, hg, hr0⟩
theorem cellS25_0 {W : World} {g : Nat} {A0 : Option Addr} {c0 : Nat} {f0 : List Int} {f1 : Int} (h : W.heap[g]? = some (.cells #[.slice A0 f0.length c0, .int .i64 f1] 25 (0, 0))) : W.cell? ⟨g, 0, none⟩ = some (.slice A0 f0.length c0) := (blk_cell h 0).trans rfl
theorem cellS25_1 {W : World} {g : Nat} {A0 : Option Addr} {c0 : Nat} {f0 : List Int} {f1 : Int} (h : W.heap[g]? = some (.cells #[.slice A0 f0.length c0, .int .i64 f1] 25 (0, 0))) : W.cell? ⟨g, 1, none⟩ = some (.int .i64 f1) := (blk_cell h 1).trans rfl
theorem IsS25.set_1 {w0 W : World} {g : Nat} {f0 : List Int} {f1 : Int} (h : IsS25 w0 W g f0 f1) (x : Int) : IsS25 w0 (W.setCell ⟨g, 1, none⟩ (.int .i64 x)) g f0 x := by
  obtain ⟨A0, c0, hb, hg, hr0⟩ := h
  exact ⟨A0, c0, by simpa using blk_set hb 1 (.int .i64 x), hg, hr0⟩
theorem IsS25.new (w0 W : World) (A0 : Option Addr) (c0 : Nat) (f0 : List Int) (f1 : Int) (hB : Below w0.heap.size w0 W) (hr0 : Kd.C (Kd.int .i64) w0 A0 f0.length f0) : IsS25 w0 (W.alloc (.cells #[.slice A0 f0.length c0, .int .i64 f1] 25)) W.heap.size f0 f1 := ⟨A0, c0, by simpa using heap_alloc_new W _, hB.size, hr0⟩
def chasemake_Stream_Next.f (s0_0 : List Int) (s0_1 : Int) (a1 : Int) : Option (Int × Int) := if (s0_0.length : Int) = 0 then ((chasemake_Below.f (wrap64 ((wrap64 (s0_1 + 1)) * 7919)) a1).bind fun t101 => (some (t101, wrap64 (s0_1 + 1)))) else (if 0 ≤ (Int.tmod (wrap64 ((wrap64 (s0_1 + 1)) - 1)) (s0_0.length : Int)) then (if (Int.tmod (wrap64 ((wrap64 (s0_1 + 1)) - 1)) (s0_0.length : Int)) < (s0_0.length : Int) then ((chasemake_Below.f (rd s0_0 (Int.tmod (wrap64 ((wrap64 (s0_1 + 1)) - 1)) (s0_0.length : Int))) 1073741824).bind fun t103 => ((chasemake_Below.f (wrap64 (t103 + (wrap64 ((wrap64 (Int.tdiv (wrap64 ((wrap64 (s0_1 + 1)) - 1)) (s0_0.length : Int))) * (wrap64 (7919 + (Int.tmod (wrap64 ((wrap64 (s0_1 + 1)) - 1)) (s0_0.length : Int)))))))) a1).bind fun t104 => (some (t104, wrap64 (s0_1 + 1))))) else (none)) else (none))
set_option maxHeartbeats 8000000 in
set_option maxRecDepth 100000 in
theorem chasemake_Stream_Next.calls (g : Nat) (s0_0 : List Int) (s0_1 : Int) (a1 : Int) (r1 : Int) (r2 : Int) (w0 w : World) (hI : IsS25 w0 w g s0_0 s0_1) (hB : Below w0.heap.size w0 w) (h : chasemake_Stream_Next.f s0_0 s0_1 a1 = some (r1, r2)) :
    Calls Tryz.prog 37 #[.pointer (some ⟨g, 0, none⟩), .int .i64 a1] w fun e w' => e = .returned (.int .i64 r1) ∧ IsS25 w0 w' g s0_0 r2 ∧ Below w0.heap.size w0 w' ∧ KeepBut w w' g none := by
  have HI0 := Aside0.mk hI
  have HK := Aside0.mk (KeepBut.refl w g none)
  have HL := Aside0.mk hB.size
  clear hI
  have HW0 := Aside0.mk hB.size
  have HB := Aside0.mk hB
  clear hB
  have H : (if (s0_0.length : Int) = 0 then ((chasemake_Below.f (wrap64 ((wrap64 (s0_1 + 1)) * 7919)) a1).bind fun t101 => (some (t101, wrap64 (s0_1 + 1)))) else (if 0 ≤ (Int.tmod (wrap64 ((wrap64 (s0_1 + 1)) - 1)) (s0_0.length : Int)) then (if (Int.tmod (wrap64 ((wrap64 (s0_1 + 1)) - 1)) (s0_0.length : Int)) < (s0_0.length : Int) then ((chasemake_Below.f (rd s0_0 (Int.tmod (wrap64 ((wrap64 (s0_1 + 1)) - 1)) (s0_0.length : Int))) 1073741824).bind fun t103 => ((chasemake_Below.f (wrap64 (t103 + (wrap64 ((wrap64 (Int.tdiv (wrap64 ((wrap64 (s0_1 + 1)) - 1)) (s0_0.length : Int))) * (wrap64 (7919 + (Int.tmod (wrap64 ((wrap64 (s0_1 + 1)) - 1)) (s0_0.length : Int)))))))) a1).bind fun t104 => (some (t104, wrap64 (s0_1 + 1))))) else (none)) else (none))) = some (r1, r2) := h
  clear h
  by_cases c3 : (s0_0.length : Int) = 0
  · rw [if_pos c3] at H
    have c3b0 : ((s0_0.length : Int) == 0) = true := beq_iff_eq.mpr c3
    have c3b1 : ((s0_0.length : Int) != 0) = false := bne_eq_false_iff_eq.mpr c3
    clear c3
    replace H := Option.bind_eq_some_iff.mp H
    obtain ⟨t101, A40, H⟩ := H
    replace H : (some (t101, wrap64 (s0_1 + 1))) = some (r1, r2) := H
    have A4 := Aside0.mk A40
    clear A40
    simp only [Option.some.injEq, Prod.mk.injEq] at H
    obtain ⟨rfl, rfl⟩ := H
    obtain ⟨ASz5_0, cSz5_0, HGz5, hgz5, HSz5_0⟩ := HI0.out
    have hcz5_0 := cellS25_0 HGz5
    have hcz5_1 := cellS25_1 HGz5
    have hfz5_1 := blk_frozen HGz5 1
    clear HGz5 hgz5
    go_enter Tryz.func37, Tryz.ntmps37
    go_wp2_with (first | (go_at_call 76; (with_reducible refine (chasemake_Below.calls (wrap64 ((wrap64 (s0_1 + 1)) * 7919)) a1 t101 _ A4.out).mono ?_); rintro e w' ⟨rfl, ⟨nd, rfl⟩⟩; (try first | exact ⟨rfl, _, World.drewN_drewN _ _ _⟩ | exact ⟨rfl, _, Eq.trans (World.drewN_drewN _ _ _) (congrArg (World.drewN _) (Nat.add_assoc _ _ _))⟩)))
    repeat (go_quiet (first | (go_at_call 76; (with_reducible refine (chasemake_Below.calls (wrap64 ((wrap64 (s0_1 + 1)) * 7919)) a1 t101 _ A4.out).mono ?_); rintro e w' ⟨rfl, ⟨nd, rfl⟩⟩; (try first | exact ⟨rfl, _, World.drewN_drewN _ _ _⟩ | exact ⟨rfl, _, Eq.trans (World.drewN_drewN _ _ _) (congrArg (World.drewN _) (Nat.add_assoc _ _ _))⟩))); try go_wp2_with (first | (go_at_call 76; (with_reducible refine (chasemake_Below.calls (wrap64 ((wrap64 (s0_1 + 1)) * 7919)) a1 t101 _ A4.out).mono ?_); rintro e w' ⟨rfl, ⟨nd, rfl⟩⟩; (try first | exact ⟨rfl, _, World.drewN_drewN _ _ _⟩ | exact ⟨rfl, _, Eq.trans (World.drewN_drewN _ _ _) (congrArg (World.drewN _) (Nat.add_assoc _ _ _))⟩))))
    go_ret
    exact ⟨by first | rfl | (simp [errW_none, errW_some] <;> rfl) | (simp [*, errW_none, errW_some] <;> rfl), by repeat (first | (with_reducible first | exact HI0.out | apply IsS25.alloc | apply IsS25.drewN | apply IsS25.drew | apply IsS25.set_1) | exact HI0.out), by repeat (first | (with_reducible first | exact HB.out | apply below_alloc | apply pw_below_drewN | apply below_drew1 | refine below_set ?_ (IsS25.ge HI0.out)) | exact HB.out), by repeat (first | (with_reducible first | exact HK.out | apply KeepBut.set_ | apply keep_drewN | apply keep_drew | apply keep_alloc) | exact HK.out)⟩
  · rw [if_neg c3] at H
    have c3b0 : ((s0_0.length : Int) == 0) = false := beq_eq_false_iff_ne.mpr c3
    have c3b1 : ((s0_0.length : Int) != 0) = true := bne_iff_ne.mpr c3
    have c3b2 : ¬ (s0_0 = []) := fun h_ => c3 (by rw [h_]; rfl)
    obtain ⟨ji6, hji6⟩ : ∃ j_ : Int, (Int.tmod (wrap64 ((wrap64 (s0_1 + 1)) - 1)) (s0_0.length : Int)) = j_ := ⟨_, rfl⟩
    replace H : (if 0 ≤ (ji6) then (if (ji6) < (s0_0.length : Int) then ((chasemake_Below.f (rd s0_0 (ji6)) 1073741824).bind fun t103 => ((chasemake_Below.f (wrap64 (t103 + (wrap64 ((wrap64 (Int.tdiv (wrap64 ((wrap64 (s0_1 + 1)) - 1)) (s0_0.length : Int))) * (wrap64 (7919 + (ji6))))))) a1).bind fun t104 => (some (t104, wrap64 (s0_1 + 1))))) else (none)) else (none)) = some (r1, r2) := by first | (rw [hji6] at H; exact H) | (simp only [hji6] at H ⊢; exact H)
    by_cases c7 : 0 ≤ (ji6)
    · rw [if_pos c7] at H
      have c7b0 : decide (0 ≤ (ji6)) = true := decide_eq_true c7
      clear c7
      by_cases c8 : (ji6) < (s0_0.length : Int)
      · rw [if_pos c8] at H
        have c8b0 : decide ((ji6) < (s0_0.length : Int)) = true := decide_eq_true c8
        clear c8
        replace H := Option.bind_eq_some_iff.mp H
        obtain ⟨t103, A90, H⟩ := H
        replace H : ((chasemake_Below.f (wrap64 (t103 + (wrap64 ((wrap64 (Int.tdiv (wrap64 ((wrap64 (s0_1 + 1)) - 1)) (s0_0.length : Int))) * (wrap64 (7919 + (ji6))))))) a1).bind fun t104 => (some (t104, wrap64 (s0_1 + 1)))) = some (r1, r2) := H
        have A9 := Aside0.mk A90
        clear A90
        replace H := Option.bind_eq_some_iff.mp H
        obtain ⟨t104, A100, H⟩ := H
        replace H : (some (t104, wrap64 (s0_1 + 1))) = some (r1, r2) := H
        have A10 := Aside0.mk A100
        clear A100
        simp only [Option.some.injEq, Prod.mk.injEq] at H
        obtain ⟨rfl, rfl⟩ := H
        obtain ⟨ASz11_0, cSz11_0, HGz11, hgz11, HSz11_0⟩ := HI0.out
        have hcz11_0 := cellS25_0 HGz11
        have hcz11_1 := cellS25_1 HGz11
        have hfz11_1 := blk_frozen HGz11 1
        clear HGz11 hgz11
        have p102 : 0 ≤ ((ji6) : Int) := of_decide_eq_true (by first | (with_reducible assumption) | assumption)
        have q102 : (ji6) < (s0_0.length : Int) := of_decide_eq_true (by first | (with_reducible assumption) | assumption)
        obtain ⟨ad102, e102, hx102_0⟩ := Kd.at_int HSz11_0 (ji6) p102 q102
        cases e102
        have hn102_0 : ad102.block ≠ g := Nat.ne_of_lt (Nat.lt_of_lt_of_le (by have := World.block_lt_of_cell? _ _ hx102_0; first | rwa [add_block] at this | exact this) (IsS25.ge HI0.out))
        replace hx102_0 := pw_cell_below HB.out hx102_0
        replace hx102_0 := (cell_far (p := ⟨g, 1, none⟩) (by first | (rw [add_block]; exact hn102_0) | (show (Addr.add _ _).block ≠ _; rw [add_block]; exact hn102_0) | exact hn102_0) (.int .i64 (wrap64 (s0_1 + 1)))).trans hx102_0
        (try have hy102_0 := fun (n_ : Nat) => (show (((w.drewN n_).setCell ⟨g, 1, none⟩ (.int .i64 (wrap64 (s0_1 + 1))))).cell? _ = some _ from hx102_0))
        clear hn102_0
        replace p102 := eq_true p102
        replace q102 := eq_true q102
        go_enter Tryz.func37, Tryz.ntmps37
        go_wp2_with (first | (go_at_call 76; (with_reducible refine (chasemake_Below.calls (rd s0_0 (ji6)) 1073741824 t103 _ A9.out).mono ?_); rintro e w' ⟨rfl, ⟨nd, rfl⟩⟩; (try first | exact ⟨rfl, _, World.drewN_drewN _ _ _⟩ | exact ⟨rfl, _, Eq.trans (World.drewN_drewN _ _ _) (congrArg (World.drewN _) (Nat.add_assoc _ _ _))⟩)) | (go_at_call 76; (with_reducible refine (chasemake_Below.calls (wrap64 (t103 + (wrap64 ((wrap64 (Int.tdiv (wrap64 ((wrap64 (s0_1 + 1)) - 1)) (s0_0.length : Int))) * (wrap64 (7919 + (ji6))))))) a1 t104 _ A10.out).mono ?_); rintro e w' ⟨rfl, ⟨nd, rfl⟩⟩; (try first | exact ⟨rfl, _, World.drewN_drewN _ _ _⟩ | exact ⟨rfl, _, Eq.trans (World.drewN_drewN _ _ _) (congrArg (World.drewN _) (Nat.add_assoc _ _ _))⟩)))
        repeat (go_quiet (first | (go_at_call 76; (with_reducible refine (chasemake_Below.calls (rd s0_0 (ji6)) 1073741824 t103 _ A9.out).mono ?_); rintro e w' ⟨rfl, ⟨nd, rfl⟩⟩; (try first | exact ⟨rfl, _, World.drewN_drewN _ _ _⟩ | exact ⟨rfl, _, Eq.trans (World.drewN_drewN _ _ _) (congrArg (World.drewN _) (Nat.add_assoc _ _ _))⟩)) | (go_at_call 76; (with_reducible refine (chasemake_Below.calls (wrap64 (t103 + (wrap64 ((wrap64 (Int.tdiv (wrap64 ((wrap64 (s0_1 + 1)) - 1)) (s0_0.length : Int))) * (wrap64 (7919 + (ji6))))))) a1 t104 _ A10.out).mono ?_); rintro e w' ⟨rfl, ⟨nd, rfl⟩⟩; (try first | exact ⟨rfl, _, World.drewN_drewN _ _ _⟩ | exact ⟨rfl, _, Eq.trans (World.drewN_drewN _ _ _) (congrArg (World.drewN _) (Nat.add_assoc _ _ _))⟩))); try go_wp2_with (first | (go_at_call 76; (with_reducible refine (chasemake_Below.calls (rd s0_0 (ji6)) 1073741824 t103 _ A9.out).mono ?_); rintro e w' ⟨rfl, ⟨nd, rfl⟩⟩; (try first | exact ⟨rfl, _, World.drewN_drewN _ _ _⟩ | exact ⟨rfl, _, Eq.trans (World.drewN_drewN _ _ _) (congrArg (World.drewN _) (Nat.add_assoc _ _ _))⟩)) | (go_at_call 76; (with_reducible refine (chasemake_Below.calls (wrap64 (t103 + (wrap64 ((wrap64 (Int.tdiv (wrap64 ((wrap64 (s0_1 + 1)) - 1)) (s0_0.length : Int))) * (wrap64 (7919 + (ji6))))))) a1 t104 _ A10.out).mono ?_); rintro e w' ⟨rfl, ⟨nd, rfl⟩⟩; (try first | exact ⟨rfl, _, World.drewN_drewN _ _ _⟩ | exact ⟨rfl, _, Eq.trans (World.drewN_drewN _ _ _) (congrArg (World.drewN _) (Nat.add_assoc _ _ _))⟩))))
        go_ret
        exact ⟨by first | rfl | (simp [errW_none, errW_some] <;> rfl) | (simp only [← hji6]; first | rfl | (simp [errW_none, errW_some] <;> rfl)) | (simp [*, errW_none, errW_some] <;> rfl), by repeat (first | (with_reducible first | exact HI0.out | apply IsS25.alloc | apply IsS25.drewN | apply IsS25.drew | apply IsS25.set_1) | exact HI0.out), by repeat (first | (with_reducible first | exact HB.out | apply below_alloc | apply pw_below_drewN | apply below_drew1 | refine below_set ?_ (IsS25.ge HI0.out)) | exact HB.out), by repeat (first | (with_reducible first | exact HK.out | apply KeepBut.set_ | apply keep_drewN | apply keep_drew | apply keep_alloc) | exact HK.out)⟩
      · rw [if_neg c8] at H
        exact absurd H (by simp)
    · rw [if_neg c7] at H
      exact absurd H (by simp)
def chasemake_Stream_Flip.f (s0_0 : List Int) (s0_1 : Int) (a1 : Int) : Option (Bool × Int) := (chasemake_Stream_Next.f s0_0 s0_1 a1).bind fun bt105 => (some ((bt105.1 == 0), bt105.2))
set_option maxHeartbeats 8000000 in
set_option maxRecDepth 100000 in
theorem chasemake_Stream_Flip.calls (g : Nat) (s0_0 : List Int) (s0_1 : Int) (a1 : Int) (r1 : Bool) (r2 : Int) (w0 w : World) (hI : IsS25 w0 w g s0_0 s0_1) (hB : Below w0.heap.size w0 w) (h : chasemake_Stream_Flip.f s0_0 s0_1 a1 = some (r1, r2)) :
    Calls Tryz.prog 23 #[.pointer (some ⟨g, 0, none⟩), .int .i64 a1] w fun e w' => e = .returned (.bool r1) ∧ IsS25 w0 w' g s0_0 r2 ∧ Below w0.heap.size w0 w' ∧ KeepBut w w' g none := by
  have HI0 := Aside0.mk hI
  have HK := Aside0.mk (KeepBut.refl w g none)
  have HL := Aside0.mk hB.size
  clear hI
  have HW0 := Aside0.mk hB.size
  have HB := Aside0.mk hB
  clear hB
  have H : ((chasemake_Stream_Next.f s0_0 s0_1 a1).bind fun bt105 => (some ((bt105.1 == 0), bt105.2))) = some (r1, r2) := h
  clear h
  replace H := Option.bind_eq_some_iff.mp H
  obtain ⟨⟨t105, t106⟩, A30, H⟩ := H
  replace H : (some ((t105 == 0), t106)) = some (r1, r2) := H
  have A3 := Aside0.mk A30
  clear A30
  simp only [Option.some.injEq, Prod.mk.injEq] at H
  obtain ⟨rfl, rfl⟩ := H
  go_enter Tryz.func23, Tryz.ntmps23
  go_wp2_with (first | ((with_reducible refine gate_callee (f := 37) rfl ?_); refine goesL_ (some 7) rfl rfl Tryz.func37 (by kernel_rfl) rfl #[.pointer (some ⟨g, 0, none⟩), .int .i64 a1] rfl (by (try simp only [List.map_toArray, List.map_cons, List.map_nil]); first | done | rfl | (simp only [List.length_drop, List.length_take]; rfl)) ?_; (with_reducible refine (chasemake_Stream_Next.calls g s0_0 s0_1 a1 t105 t106 w0 _ ?side1 ?side2 A3.out).mono ?_); (case side1 => repeat (first | (with_reducible first | exact HI0.out | apply IsS25.alloc | apply IsS25.drewN | apply IsS25.drew | apply IsS25.set_1) | exact HI0.out)); (case side2 => repeat (first | (with_reducible first | exact HB.out | apply below_alloc | apply pw_below_drewN | apply below_drew1 | refine below_set ?_ (IsS25.ge HI0.out)) | exact HB.out)); rintro e w4 ⟨rfl, hi, hb, hk⟩; refine ⟨_, rfl, ?_⟩; have n0_ := Aside0.mk (KeepBut.trans (by repeat (first | (with_reducible first | exact HK.out | apply KeepBut.set_ | apply keep_drewN | apply keep_drew | apply keep_alloc) | exact HK.out)) hk (.inl rfl)); have n1_ := Aside0.mk (hb); have n2_ := Aside0.mk (hi); clear HK; clear HB; clear HI0; have HK := n0_; have HB := n1_; have HI0 := n2_; clear n0_ n1_ n2_; (try clear hb); (try clear hb2); (try clear hk); (try clear hi)))
  go_ret
  exact ⟨by first | rfl | (simp [errW_none, errW_some] <;> rfl) | (simp [*, errW_none, errW_some] <;> rfl), by repeat (first | (with_reducible first | exact HI0.out | apply IsS25.alloc | apply IsS25.drewN | apply IsS25.drew | apply IsS25.set_1) | exact HI0.out), by repeat (first | (with_reducible first | exact HB.out | apply below_alloc | apply pw_below_drewN | apply below_drew1 | refine below_set ?_ (IsS25.ge HI0.out)) | exact HB.out), by repeat (first | (with_reducible first | exact HK.out | apply KeepBut.set_ | apply keep_drewN | apply keep_drew | apply keep_alloc) | exact HK.out)⟩
def chasemake_Stream_h06one.f (s0_0 : List Int) (s0_1 : Int) (l1 : List ByteArray) : Option (ByteArray × Int) := (chasemake_Stream_Next.f s0_0 s0_1 (l1.length : Int)).bind fun bt107 => (if 0 ≤ bt107.1 then (if bt107.1 < (l1.length : Int) then (some (rdOf ByteArray.empty l1 bt107.1, bt107.2)) else (none)) else (none))
set_option maxHeartbeats 8000000 in
set_option maxRecDepth 100000 in
theorem chasemake_Stream_h06one.calls (g : Nat) (s0_0 : List Int) (s0_1 : Int) (A1 : Option Addr) (c1 : Nat) (l1 : List ByteArray) (r1 : ByteArray) (r2 : Int) (w0 w : World) (hI : IsS25 w0 w g s0_0 s0_1) (hB : Below w0.heap.size w0 w) (hr1 : Kd.C Kd.string w A1 l1.length l1) (hc1 : l1.length ≤ c1) (hf1 : ∀ ad, A1 = some ad → 0 < l1.length → ad.block ≠ g) (h : chasemake_Stream_h06one.f s0_0 s0_1 l1 = some (r1, r2)) :
    Calls Tryz.prog 24 #[.pointer (some ⟨g, 0, none⟩), .slice A1 l1.length c1] w fun e w' => e = .returned (.string r1) ∧ IsS25 w0 w' g s0_0 r2 ∧ Below w0.heap.size w0 w' ∧ KeepBut w w' g none := by
  have HR1 := Aside0.mk hr1
  have HC1 := Aside0.mk hc1
  clear hr1 hc1
  have HI0 := Aside0.mk hI
  have HK := Aside0.mk (KeepBut.refl w g none)
  have HL := Aside0.mk hB.size
  clear hI
  have HW0 := Aside0.mk hB.size
  have HB := Aside0.mk hB
  clear hB
  have H : ((chasemake_Stream_Next.f s0_0 s0_1 (l1.length : Int)).bind fun bt107 => (if 0 ≤ bt107.1 then (if bt107.1 < (l1.length : Int) then (some (rdOf ByteArray.empty l1 bt107.1, bt107.2)) else (none)) else (none))) = some (r1, r2) := h
  clear h
  replace H := Option.bind_eq_some_iff.mp H
  obtain ⟨⟨t107, t108⟩, A30, H⟩ := H
  replace H : (if 0 ≤ t107 then (if t107 < (l1.length : Int) then (some (rdOf ByteArray.empty l1 t107, t108)) else (none)) else (none)) = some (r1, r2) := H
  have A3 := Aside0.mk A30
  clear A30
  by_cases c4 : 0 ≤ t107
  · rw [if_pos c4] at H
    have c4b0 : decide (0 ≤ t107) = true := decide_eq_true c4
    clear c4
    by_cases c5 : t107 < (l1.length : Int)
    · rw [if_pos c5] at H
      have c5b0 : decide (t107 < (l1.length : Int)) = true := decide_eq_true c5
      clear c5
      simp only [Option.some.injEq, Prod.mk.injEq] at H
      obtain ⟨rfl, rfl⟩ := H
      go_enter Tryz.func24, Tryz.ntmps24
      go_wp2_with (first | ((with_reducible refine gate_callee (f := 37) rfl ?_); refine goesL_ (some 9) rfl rfl Tryz.func37 (by kernel_rfl) rfl #[.pointer (some ⟨g, 0, none⟩), .int .i64 (l1.length : Int)] rfl (by (try simp only [List.map_toArray, List.map_cons, List.map_nil]); first | done | rfl | (simp only [List.length_drop, List.length_take]; rfl)) ?_; (with_reducible refine (chasemake_Stream_Next.calls g s0_0 s0_1 (l1.length : Int) t107 t108 w0 _ ?side1 ?side2 A3.out).mono ?_); (case side1 => repeat (first | (with_reducible first | exact HI0.out | apply IsS25.alloc | apply IsS25.drewN | apply IsS25.drew | apply IsS25.set_1) | exact HI0.out)); (case side2 => repeat (first | (with_reducible first | exact HB.out | apply below_alloc | apply pw_below_drewN | apply below_drew1 | refine below_set ?_ (IsS25.ge HI0.out)) | exact HB.out)); rintro e w6 ⟨rfl, hi, hb, hk⟩; refine ⟨_, rfl, ?_⟩; have n0_ := Aside0.mk (KeepBut.trans (by repeat (first | (with_reducible first | exact HK.out | apply KeepBut.set_ | apply keep_drewN | apply keep_drew | apply keep_alloc) | exact HK.out)) hk (.inl rfl)); have n1_ := Aside0.mk (hb); have n2_ := Aside0.mk (hi); clear HK; clear HB; clear HI0; have HK := n0_; have HB := n1_; have HI0 := n2_; clear n0_ n1_ n2_; (try clear hb); (try clear hb2); (try clear hk); (try clear hi); have p109 : 0 ≤ (t107 : Int) := of_decide_eq_true (by first | (with_reducible assumption) | assumption); have q109 : t107 < (l1.length : Int) := of_decide_eq_true (by first | (with_reducible assumption) | assumption); obtain ⟨ad109, e109, hx109_0⟩ := Kd.at_string HR1.out t107 p109 q109; cases e109; replace hx109_0 := keep_cell HK.out hx109_0 (by first | (rw [add_block]; exact hf1 _ rfl (by omega)) | exact hf1 _ rfl (by omega) | exact hf1 ad109 rfl (by omega)); replace p109 := eq_true p109; replace q109 := eq_true q109))
      go_ret
      exact ⟨by first | rfl | (simp [errW_none, errW_some] <;> rfl) | (simp [*, errW_none, errW_some] <;> rfl), by repeat (first | (with_reducible first | exact HI0.out | apply IsS25.alloc | apply IsS25.drewN | apply IsS25.drew | apply IsS25.set_1) | exact HI0.out), by repeat (first | (with_reducible first | exact HB.out | apply below_alloc | apply pw_below_drewN | apply below_drew1 | refine below_set ?_ (IsS25.ge HI0.out)) | exact HB.out), by repeat (first | (with_reducible first | exact HK.out | apply KeepBut.set_ | apply keep_drewN | apply keep_drew | apply keep_alloc) | exact HK.out)⟩
    · rw [if_neg c5] at H
      exact absurd H (by simp)
  · rw [if_neg c4] at H
    exact absurd H (by simp)
def strings_Repeat.f (a0 : ByteArray) (a1 : Int) : Option (ByteArray) := if 2 ≤ a1 ∧ a1 ≤ 9223372036854775807 ∧ a0.size * a1.toNat ≤ 140737488355328 ∧ 0 < a0.size then (some (⟨(Lib.repeatL a0.data.toList a1.toNat).toArray⟩ : ByteArray)) else (none)
set_option maxHeartbeats 8000000 in
set_option maxRecDepth 100000 in
theorem strings_Repeat.calls (a0 : ByteArray) (a1 : Int) (r : ByteArray) (w : World) (h : strings_Repeat.f a0 a1 = some r) :
    Calls Tryz.prog 25 #[.string a0, .int .i64 a1] w fun e w' => e = .returned (.string r) ∧ Below w.heap.size w w' := by
  unfold strings_Repeat.f at h
  by_cases hs : 2 ≤ a1 ∧ a1 ≤ 9223372036854775807 ∧ a0.size * a1.toNat ≤ 140737488355328 ∧ 0 < a0.size
  · rw [if_pos hs] at h
    obtain rfl := Option.some.inj h
    obtain ⟨c, rfl⟩ := Int.eq_ofNat_of_zero_le (show 0 ≤ a1 by omega)
    refine (Tryz.strings_Repeat_main a0 c w (by omega) (by omega) (by simpa using hs.2.2.1) hs.2.2.2).mono ?_
    rintro e w' ⟨rfl, hb⟩
    exact ⟨rfl, hb⟩
  · rw [if_neg hs] at h
    exact absurd h (by simp)
def chasemake_Stream_Pick.f (s0_0 : List Int) (s0_1 : Int) (l1 : List Int) : Option (Int × Int) := (chasemake_Stream_Next.f s0_0 s0_1 (l1.length : Int)).bind fun bt110 => (if 0 ≤ bt110.1 then (if bt110.1 < (l1.length : Int) then (some (rd l1 bt110.1, bt110.2)) else (none)) else (none))
set_option maxHeartbeats 8000000 in
set_option maxRecDepth 100000 in
theorem chasemake_Stream_Pick.calls (g : Nat) (s0_0 : List Int) (s0_1 : Int) (A1 : Option Addr) (c1 : Nat) (l1 : List Int) (r1 : Int) (r2 : Int) (w0 w : World) (hI : IsS25 w0 w g s0_0 s0_1) (hB : Below w0.heap.size w0 w) (hr1 : Kd.C (Kd.int .i64) w A1 l1.length l1) (hc1 : l1.length ≤ c1) (hf1 : ∀ ad, A1 = some ad → 0 < l1.length → ad.block ≠ g) (h : chasemake_Stream_Pick.f s0_0 s0_1 l1 = some (r1, r2)) :
    Calls Tryz.prog 47 #[.pointer (some ⟨g, 0, none⟩), .slice A1 l1.length c1] w fun e w' => e = .returned (.int .i64 r1) ∧ IsS25 w0 w' g s0_0 r2 ∧ Below w0.heap.size w0 w' ∧ KeepBut w w' g none := by
  have HR1 := Aside0.mk hr1
  have HC1 := Aside0.mk hc1
  clear hr1 hc1
  have HI0 := Aside0.mk hI
  have HK := Aside0.mk (KeepBut.refl w g none)
  have HL := Aside0.mk hB.size
  clear hI
  have HW0 := Aside0.mk hB.size
  have HB := Aside0.mk hB
  clear hB
  have H : ((chasemake_Stream_Next.f s0_0 s0_1 (l1.length : Int)).bind fun bt110 => (if 0 ≤ bt110.1 then (if bt110.1 < (l1.length : Int) then (some (rd l1 bt110.1, bt110.2)) else (none)) else (none))) = some (r1, r2) := h
  clear h
  replace H := Option.bind_eq_some_iff.mp H
  obtain ⟨⟨t110, t111⟩, A30, H⟩ := H
  replace H : (if 0 ≤ t110 then (if t110 < (l1.length : Int) then (some (rd l1 t110, t111)) else (none)) else (none)) = some (r1, r2) := H
  have A3 := Aside0.mk A30
  clear A30
  by_cases c4 : 0 ≤ t110
  · rw [if_pos c4] at H
    have c4b0 : decide (0 ≤ t110) = true := decide_eq_true c4
    clear c4
    by_cases c5 : t110 < (l1.length : Int)
    · rw [if_pos c5] at H
      have c5b0 : decide (t110 < (l1.length : Int)) = true := decide_eq_true c5
      clear c5
      simp only [Option.some.injEq, Prod.mk.injEq] at H
      obtain ⟨rfl, rfl⟩ := H
      go_enter Tryz.func47, Tryz.ntmps47
      go_wp2_with (first | ((with_reducible refine gate_callee (f := 37) rfl ?_); refine goesL_ (some 9) rfl rfl Tryz.func37 (by kernel_rfl) rfl #[.pointer (some ⟨g, 0, none⟩), .int .i64 (l1.length : Int)] rfl (by (try simp only [List.map_toArray, List.map_cons, List.map_nil]); first | done | rfl | (simp only [List.length_drop, List.length_take]; rfl)) ?_; (with_reducible refine (chasemake_Stream_Next.calls g s0_0 s0_1 (l1.length : Int) t110 t111 w0 _ ?side1 ?side2 A3.out).mono ?_); (case side1 => repeat (first | (with_reducible first | exact HI0.out | apply IsS25.alloc | apply IsS25.drewN | apply IsS25.drew | apply IsS25.set_1) | exact HI0.out)); (case side2 => repeat (first | (with_reducible first | exact HB.out | apply below_alloc | apply pw_below_drewN | apply below_drew1 | refine below_set ?_ (IsS25.ge HI0.out)) | exact HB.out)); rintro e w6 ⟨rfl, hi, hb, hk⟩; refine ⟨_, rfl, ?_⟩; have n0_ := Aside0.mk (KeepBut.trans (by repeat (first | (with_reducible first | exact HK.out | apply KeepBut.set_ | apply keep_drewN | apply keep_drew | apply keep_alloc) | exact HK.out)) hk (.inl rfl)); have n1_ := Aside0.mk (hb); have n2_ := Aside0.mk (hi); clear HK; clear HB; clear HI0; have HK := n0_; have HB := n1_; have HI0 := n2_; clear n0_ n1_ n2_; (try clear hb); (try clear hb2); (try clear hk); (try clear hi); have p112 : 0 ≤ (t110 : Int) := of_decide_eq_true (by first | (with_reducible assumption) | assumption); have q112 : t110 < (l1.length : Int) := of_decide_eq_true (by first | (with_reducible assumption) | assumption); obtain ⟨ad112, e112, hx112_0⟩ := Kd.at_int HR1.out t110 p112 q112; cases e112; replace hx112_0 := keep_cell HK.out hx112_0 (by first | (rw [add_block]; exact hf1 _ rfl (by omega)) | exact hf1 _ rfl (by omega) | exact hf1 ad112 rfl (by omega)); replace p112 := eq_true p112; replace q112 := eq_true q112))
      go_ret
      exact ⟨by first | rfl | (simp [errW_none, errW_some] <;> rfl) | (simp [*, errW_none, errW_some] <;> rfl), by repeat (first | (with_reducible first | exact HI0.out | apply IsS25.alloc | apply IsS25.drewN | apply IsS25.drew | apply IsS25.set_1) | exact HI0.out), by repeat (first | (with_reducible first | exact HB.out | apply below_alloc | apply pw_below_drewN | apply below_drew1 | refine below_set ?_ (IsS25.ge HI0.out)) | exact HB.out), by repeat (first | (with_reducible first | exact HK.out | apply KeepBut.set_ | apply keep_drewN | apply keep_drew | apply keep_alloc) | exact HK.out)⟩
    · rw [if_neg c5] at H
      exact absurd H (by simp)
  · rw [if_neg c4] at H
    exact absurd H (by simp)
mutual
def chasemake_Stream_Papers.l0 : Nat → List (S55) → Int → Int → List Int → Int → Option ((List (S55)) × Int)
  | 0, _, _, _, _, _ => none
  | k + 1, x5, x12, x13, x1000, x1001 => if x13 < x12 then (if 1 + (Utf8.encode (wrap32 (wrap64 (97 + x13)))).size ≤ 9223372036854775807 then ((chasemake_Stream_h06one.f x1000 x1001 (([(⟨#[97, 110, 110]⟩ : ByteArray), (⟨#[98, 111]⟩ : ByteArray)] : List ByteArray))).bind fun bt118 => ((chasemake_Stream_Pick.f x1000 bt118.2 (([1, 3, 2, 4] : List Int))).bind fun bt123 => ((chasemake_Stream_Pick.f x1000 bt123.2 (([0, 5, 5, 40, 1440] : List Int))).bind fun bt128 => ((chasemake_Stream_h06one.f x1000 bt128.2 (([(⟨#[]⟩ : ByteArray), (⟨#[120]⟩ : ByteArray)] : List ByteArray))).bind fun bt133 => ((chasemake_Stream_Next.f x1000 bt133.2 6).bind fun bt136 => (chasemake_Stream_Papers.l1 k x5 x13 x12 x13 bt136.1 0 x1000 bt136.2 ((⟨#[105]⟩ : ByteArray) ++ (Utf8.encode (wrap32 (wrap64 (97 + x13))))) bt118.1 bt123.1 bt133.1 bt128.1 (⟨#[]⟩ : ByteArray) (⟨#[]⟩ : ByteArray))))))) else (none)) else (some (x5, x1001))
def chasemake_Stream_Papers.l1 : Nat → List (S55) → Int → Int → Int → Int → Int → List Int → Int → ByteArray → ByteArray → Int → ByteArray → Int → ByteArray → ByteArray → Option ((List (S55)) × Int)
  | 0, _, _, _, _, _, _, _, _, _, _, _, _, _, _, _ => none
  | k + 1, x5, x6, x12, x13, x35, x36, x1000, x1001, x136000, x136001, x136002, x136003, x136004, x136005, x136006 => if x36 < x35 then ((chasemake_Stream_Pick.f x1000 x1001 (([79, 80, 81] : List Int))).bind fun bt141 => ((strings_Repeat.f (⟨#[119]⟩ : ByteArray) bt141.1).bind fun t143 => ((strings_Repeat.f (⟨#[97, 98, 32]⟩ : ByteArray) 30).bind fun t144 => ((chasemake_Stream_h06one.f x1000 bt141.2 (([(⟨#[111, 110, 101]⟩ : ByteArray), (⟨#[115, 101, 99, 114, 101, 116, 32, 119, 111, 114, 100, 115]⟩ : ByteArray), (⟨#[]⟩ : ByteArray), (⟨#[195, 169, 116, 195, 169, 32, 120]⟩ : ByteArray), t143, t144] : List ByteArray))).bind fun bt148 => (if bt148.1.size + 1 ≤ 9223372036854775807 then (if x136006.size + (bt148.1 ++ (⟨#[10]⟩ : ByteArray)).size ≤ 9223372036854775807 then (chasemake_Stream_Papers.l1 k x5 x6 x12 x13 x35 (wrap64 (x36 + 1)) x1000 bt148.2 x136000 x136001 x136002 x136003 x136004 x136005 (x136006 ++ (bt148.1 ++ (⟨#[10]⟩ : ByteArray)))) else (none)) else (none)))))) else ((chasemake_Stream_Flip.f x1000 x1001 8).bind fun bt150 => (if bt150.1 = true then ((chasemake_Stream_Pick.f x1000 bt150.2 (([49, 50, 51, 101] : List Int))).bind fun bt155 => ((strings_Repeat.f (⟨#[108, 105, 110, 101, 10]⟩ : ByteArray) bt155.1).bind fun t157 => (chasemake_Stream_Papers.j2 k x5 x6 x12 x13 x1000 bt155.2 x136000 x136001 x136002 x136003 x136004 x136005 t157))) else (chasemake_Stream_Papers.j2 k x5 x6 x12 x13 x1000 bt150.2 x136000 x136001 x136002 x136003 x136004 x136005 x136006)))
def chasemake_Stream_Papers.j2 : Nat → List (S55) → Int → Int → Int → List Int → Int → ByteArray → ByteArray → Int → ByteArray → Int → ByteArray → ByteArray → Option ((List (S55)) × Int)
  | 0, _, _, _, _, _, _, _, _, _, _, _, _, _ => none
  | k + 1, x5, x6, x12, x13, x1000, x1001, x136000, x136001, x136002, x136003, x136004, x136005, x136006 => if x6 > 0 then (none) else (if x5.length < 1466015503701 then (chasemake_Stream_Papers.l0 k (x5 ++ [(⟨x136000, x136001, x136002, x136003, x136004, x136005, x136006⟩ : S55)]) x12 (wrap64 (x13 + 1)) x1000 x1001) else (none))
end
def chasemake_Stream_Papers.f (k : Nat) (s0_0 : List Int) (s0_1 : Int) (a1 : Int) : Option ((List (S55)) × Int) := (chasemake_Stream_Next.f s0_0 s0_1 (wrap64 (a1 + 1))).bind fun bt113 => (chasemake_Stream_Papers.l0 k ([] : List (S55)) bt113.1 0 s0_0 bt113.2)
theorem chasemake_Stream_Papers.mono_l : ∀ k, (∀ y0 y1 y2 y3 y4, LeO (chasemake_Stream_Papers.l0 k y0 y1 y2 y3 y4) (chasemake_Stream_Papers.l0 (k + 1) y0 y1 y2 y3 y4)) ∧ (∀ y0 y1 y2 y3 y4 y5 y6 y7 y8 y9 y10 y11 y12 y13 y14, LeO (chasemake_Stream_Papers.l1 k y0 y1 y2 y3 y4 y5 y6 y7 y8 y9 y10 y11 y12 y13 y14) (chasemake_Stream_Papers.l1 (k + 1) y0 y1 y2 y3 y4 y5 y6 y7 y8 y9 y10 y11 y12 y13 y14)) ∧ (∀ y0 y1 y2 y3 y4 y5 y6 y7 y8 y9 y10 y11 y12, LeO (chasemake_Stream_Papers.j2 k y0 y1 y2 y3 y4 y5 y6 y7 y8 y9 y10 y11 y12) (chasemake_Stream_Papers.j2 (k + 1) y0 y1 y2 y3 y4 y5 y6 y7 y8 y9 y10 y11 y12))
  | 0 => ⟨fun _ _ _ _ _ r h => by simp [chasemake_Stream_Papers.l0] at h, fun _ _ _ _ _ _ _ _ _ _ _ _ _ _ _ r h => by simp [chasemake_Stream_Papers.l1] at h, fun _ _ _ _ _ _ _ _ _ _ _ _ _ r h => by simp [chasemake_Stream_Papers.j2] at h⟩
  | k + 1 => by
    obtain ⟨ih0, ih1, ih2⟩ := chasemake_Stream_Papers.mono_l k
    refine ⟨?_, ?_, ?_⟩
    · intro y0 y1 y2 y3 y4
      unfold chasemake_Stream_Papers.l0
      repeat' first
      | (with_reducible exact ih0 _ _ _ _ _)
      | (with_reducible exact ih1 _ _ _ _ _ _ _ _ _ _ _ _ _ _ _)
      | (with_reducible exact ih2 _ _ _ _ _ _ _ _ _ _ _ _ _)
      | (with_reducible exact LeO.refl _)
      | (with_reducible exact LeO.none _)
      | (with_reducible refine LeO.ite ?_ ?_)
      | (with_reducible refine LeO.bind ?_ (fun _ => ?_))
      | exact ih0 _ _ _ _ _
      | exact ih1 _ _ _ _ _ _ _ _ _ _ _ _ _ _ _
      | exact ih2 _ _ _ _ _ _ _ _ _ _ _ _ _
      | exact LeO.none _
      | refine LeO.ite ?_ ?_
      | refine LeO.bind ?_ (fun _ => ?_)
    · intro y0 y1 y2 y3 y4 y5 y6 y7 y8 y9 y10 y11 y12 y13 y14
      unfold chasemake_Stream_Papers.l1
      repeat' first
      | (with_reducible exact ih0 _ _ _ _ _)
      | (with_reducible exact ih1 _ _ _ _ _ _ _ _ _ _ _ _ _ _ _)
      | (with_reducible exact ih2 _ _ _ _ _ _ _ _ _ _ _ _ _)
      | (with_reducible exact LeO.refl _)
      | (with_reducible exact LeO.none _)
      | (with_reducible refine LeO.ite ?_ ?_)
      | (with_reducible refine LeO.bind ?_ (fun _ => ?_))
      | exact ih0 _ _ _ _ _
      | exact ih1 _ _ _ _ _ _ _ _ _ _ _ _ _ _ _
      | exact ih2 _ _ _ _ _ _ _ _ _ _ _ _ _
      | exact LeO.none _
      | refine LeO.ite ?_ ?_
      | refine LeO.bind ?_ (fun _ => ?_)
    · intro y0 y1 y2 y3 y4 y5 y6 y7 y8 y9 y10 y11 y12
      unfold chasemake_Stream_Papers.j2
      repeat' first
      | (with_reducible exact ih0 _ _ _ _ _)
      | (with_reducible exact ih1 _ _ _ _ _ _ _ _ _ _ _ _ _ _ _)
      | (with_reducible exact ih2 _ _ _ _ _ _ _ _ _ _ _ _ _)
      | (with_reducible exact LeO.refl _)
      | (with_reducible exact LeO.none _)
      | (with_reducible refine LeO.ite ?_ ?_)
      | (with_reducible refine LeO.bind ?_ (fun _ => ?_))
      | exact ih0 _ _ _ _ _
      | exact ih1 _ _ _ _ _ _ _ _ _ _ _ _ _ _ _
      | exact ih2 _ _ _ _ _ _ _ _ _ _ _ _ _
      | exact LeO.none _
      | refine LeO.ite ?_ ?_
      | refine LeO.bind ?_ (fun _ => ?_)
theorem chasemake_Stream_Papers.mono : ∀ a0 a1 a2 k, LeO (chasemake_Stream_Papers.f k a0 a1 a2) (chasemake_Stream_Papers.f (k + 1) a0 a1 a2) := by
  intro a0 a1 a2 k
  obtain ⟨ih0, ih1, ih2⟩ := chasemake_Stream_Papers.mono_l k
  unfold chasemake_Stream_Papers.f
  repeat' first
      | (with_reducible exact ih0 _ _ _ _ _)
      | (with_reducible exact ih1 _ _ _ _ _ _ _ _ _ _ _ _ _ _ _)
      | (with_reducible exact ih2 _ _ _ _ _ _ _ _ _ _ _ _ _)
      | (with_reducible exact LeO.refl _)
      | (with_reducible exact LeO.none _)
      | (with_reducible refine LeO.ite ?_ ?_)
      | (with_reducible refine LeO.bind ?_ (fun _ => ?_))
      | exact ih0 _ _ _ _ _
      | exact ih1 _ _ _ _ _ _ _ _ _ _ _ _ _ _ _
      | exact ih2 _ _ _ _ _ _ _ _ _ _ _ _ _
      | exact LeO.none _
      | refine LeO.ite ?_ ?_
      | refine LeO.bind ?_ (fun _ => ?_)
def chasemake_Stream_Papers.T8 : Bool × List (List Nat × List Nat) := (true, [([], []), ([0], [0]), ([], []), ([], []), ([], []), ([3, 4], [3, 4]), ([5, 5], [5]), ([6], []), ([6, 7], [6, 7]), ([2, 8, 7], [2, 8]), ([9], [9]), ([1, 10], [1, 10]), ([0, 1, 2, 3, 4, 5, 6, 7, 8, 9, 10, 11], []), ([12, 11, 9, 0, 1, 2, 3, 4, 5, 6, 7, 8, 9, 10, 11], [11, 12])])
def chasemake_Stream_Papers.B8 : List Nat := [0, 1, 0, 0, 0, 24, 56, 120, 248, 508, 1020, 2047, 4095, 8191]
theorem chasemake_Stream_Papers.tab8 : rtab .any (opsOf Tryz.f22 8) = chasemake_Stream_Papers.T8 := by kernel_rfl
theorem chasemake_Stream_Papers.bits8 : waitsOk chasemake_Stream_Papers.T8.2 chasemake_Stream_Papers.B8 = true := by kernel_rfl
abbrev chasemake_Stream_Papers.D0 : Array Bool := #[false, false, false, false, false, false, false, false, false, false, false, false, false, false]
abbrev chasemake_Stream_Papers.D1 : Array Bool := #[true, false, false, false, false, false, false, false, false, false, false, false, false, false]
abbrev chasemake_Stream_Papers.D2 : Array Bool := #[true, false, true, false, false, false, false, false, false, false, false, false, false, false]
abbrev chasemake_Stream_Papers.D3 : Array Bool := #[true, false, true, true, false, false, false, false, false, false, false, false, false, false]
abbrev chasemake_Stream_Papers.D4 : Array Bool := #[true, true, true, true, false, false, false, false, false, false, false, false, false, false]
abbrev chasemake_Stream_Papers.D5 : Array Bool := #[true, true, true, true, true, false, false, false, false, false, false, false, false, false]
abbrev chasemake_Stream_Papers.D6 : Array Bool := #[true, true, true, true, true, true, false, false, false, false, false, false, false, false]
abbrev chasemake_Stream_Papers.D7 : Array Bool := #[true, true, true, true, true, true, true, false, false, false, false, false, false, false]
abbrev chasemake_Stream_Papers.D8 : Array Bool := #[true, true, true, true, true, true, true, true, false, false, false, false, false, false]
abbrev chasemake_Stream_Papers.D9 : Array Bool := #[true, true, true, true, true, true, true, true, true, false, false, false, false, false]
abbrev chasemake_Stream_Papers.D10 : Array Bool := #[true, true, true, true, true, true, true, true, true, true, false, false, false, false]
abbrev chasemake_Stream_Papers.D11 : Array Bool := #[true, true, true, true, true, true, true, true, true, true, true, false, false, false]
abbrev chasemake_Stream_Papers.D12 : Array Bool := #[true, true, true, true, true, true, true, true, true, true, true, true, false, false]
abbrev chasemake_Stream_Papers.D13 : Array Bool := #[true, true, true, true, true, true, true, true, true, true, true, true, true, false]
abbrev chasemake_Stream_Papers.D14 : Array Bool := #[true, true, true, true, true, true, true, true, true, true, true, true, true, true]
end Go.Proofs.YtffaggbephnmkaaGreatDoor.Pg
