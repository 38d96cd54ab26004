/- Part of the proof that the law textsPaged is true for every input. No conditions. Laid by a program of this session over the kit's print and words; declarations that nothing names are left out. -/
import Derived.Test.YtffaggbephnmkaaGreatDoorZgPgx0
import Derived.Test.YtffaggbephnmkaaGreatDoorZgPgx1
import Derived.Test.YtffaggbephnmkaaGreatDoorZgPgx3
import Derived.Test.YtffaggbephnmkaaGreatDoorZgPgx4
namespace Go.Proofs.YtffaggbephnmkaaGreatDoor.Pg
open Go.RowKit Go.Proofs.YtffaggbephnmkaaGreatDoor.GBase Go.Proofs.YtffaggbephnmkaaGreatDoorW.PrintWords Go.Proofs.YtffaggbephnmkaaGreatDoorW.PrintLast Go.Proofs.YtffaggbephnmkaaGreatDoorW.PrintMore
attribute [local go_sem] str_leq max2_int min2_int max_two min_two max_three min_three max_four min_four
set_option linter.unusedVariables false
set_option linter.unusedSimpArgs false
def produce_Wrap.f (k : Nat) (a0 : ByteArray) : Option (List ByteArray × Int) := (produce_textError.f k a0).bind fun t242 => (if t242 = 0 then ((produce_pieces.f k a0).bind fun t243 => (some (t243, 0))) else (some (([] : List ByteArray), t242)))
theorem produce_Wrap.mono : ∀ a0 k, LeO (produce_Wrap.f k a0) (produce_Wrap.f (k + 1) a0) := by
  intro a0 k
  unfold produce_Wrap.f
  repeat' first
      | (with_reducible exact produce_pieces.mono _ _)
      | (with_reducible exact produce_textError.mono _ _)
      | (with_reducible exact LeO.refl _)
      | (with_reducible exact LeO.none _)
      | (with_reducible refine LeO.ite ?_ ?_)
      | (with_reducible refine LeO.bind ?_ (fun _ => ?_))
      | exact produce_pieces.mono _ _
      | exact produce_textError.mono _ _
      | exact LeO.none _
      | refine LeO.ite ?_ ?_
      | refine LeO.bind ?_ (fun _ => ?_)
set_option maxHeartbeats 8000000 in
set_option maxRecDepth 100000 in
theorem produce_Wrap.calls (k : Nat) (a0 : ByteArray) (r1 : List ByteArray) (r2 : Int) (w : World) (hGl : Wd w) (h : produce_Wrap.f k a0 = some (r1, r2)) :
    Calls Tryz.prog 6 #[.string a0] w fun e w' => ∃ v0_ : Value, e = .returned (.tuple #[v0_, .int .i64 r2]) ∧ Kd.R Kd.string 9 w' w.heap.size (fun _ => True) v0_ r1 ∧ Below w.heap.size w w' := by
  have HGl := Aside0.mk hGl
  clear hGl
  have HB := Aside0.mk (Below.refl w.heap.size w)
  have H : ((produce_textError.f k a0).bind fun t242 => (if t242 = 0 then ((produce_pieces.f k a0).bind fun t243 => (some (t243, 0))) else (some (([] : List ByteArray), t242)))) = some (r1, r2) := h
  clear h
  replace H := Option.bind_eq_some_iff.mp H
  obtain ⟨t242, A20, H⟩ := H
  replace H : (if t242 = 0 then ((produce_pieces.f k a0).bind fun t243 => (some (t243, 0))) else (some (([] : List ByteArray), t242))) = some (r1, r2) := H
  have A2 := Aside0.mk A20
  clear A20
  by_cases c3 : t242 = 0
  · rw [if_pos c3] at H
    have c3b0 : (t242 == 0) = true := beq_iff_eq.mpr c3
    have c3b1 : (t242 != 0) = false := bne_eq_false_iff_eq.mpr c3
    clear c3
    replace H := Option.bind_eq_some_iff.mp H
    obtain ⟨t243, A40, H⟩ := H
    replace H : (some (t243, 0)) = some (r1, r2) := H
    have A4 := Aside0.mk A40
    clear A40
    simp only [Option.some.injEq, Prod.mk.injEq] at H
    obtain ⟨rfl, rfl⟩ := H
    go_enter Tryz.func6, Tryz.ntmps6
    go_wp2_with (first | ((with_reducible refine gate_callee (f := 26) rfl ?_); refine goesL_ (some 6) rfl rfl Tryz.func26 (by kernel_rfl) rfl #[.string a0] rfl (by (try simp only [List.map_toArray, List.map_cons, List.map_nil]); first | done | rfl | (simp only [List.length_drop, List.length_take]; rfl)) ?_; (with_reducible refine (produce_textError.calls k a0 t242 _ ?side1 A2.out).mono ?_); (case side1 => exact Wd.below HGl.out (by repeat (first | (with_reducible first | exact HB.out | apply below_alloc | apply pw_below_drewN | apply below_drew1) | exact HB.out))); rintro e w5 ⟨rfl, hb⟩; refine ⟨_, rfl, ?_⟩; have n0_ := Aside0.mk (below_step (by repeat (first | (with_reducible first | exact HB.out | apply below_alloc | apply pw_below_drewN | apply below_drew1) | exact HB.out)) hb); clear HB; have HB := n0_; clear n0_; (try clear hb); (try clear hb2); (try clear hk); (try clear hi)) | ((with_reducible refine gate_callee (f := 27) rfl ?_); refine goesL_ (some 11) rfl rfl Tryz.func27 (by kernel_rfl) rfl #[.string a0] rfl (by (try simp only [List.map_toArray, List.map_cons, List.map_nil]); first | done | rfl | (simp only [List.length_drop, List.length_take]; rfl)) ?_; (with_reducible refine (produce_pieces.calls k a0 t243 _ ?side1 A4.out).mono ?_); (case side1 => exact Wd.below HGl.out (by repeat (first | (with_reducible first | exact HB.out | apply below_alloc | apply pw_below_drewN | apply below_drew1) | exact HB.out))); rintro e w6 ⟨v244, rfl, ho0, hb⟩; refine ⟨_, rfl, ?_⟩; have n0_ := Aside0.mk (Kd.R_lower ho0 (below_size (by repeat (first | (with_reducible first | exact HB.out | apply below_alloc | apply pw_below_drewN | apply below_drew1) | exact HB.out)))); have n1_ := Aside0.mk (below_step (by repeat (first | (with_reducible first | exact HB.out | apply below_alloc | apply pw_below_drewN | apply below_drew1) | exact HB.out)) hb); clear HB; have HO245 := n0_; have HB := n1_; clear n0_ n1_; (try clear hb); (try clear hb2); (try clear hk); (try clear hi); (try clear ho0)))
    go_ret2
    exact ⟨_, by first | rfl | (simp [errW_none, errW_some] <;> rfl) | (simp [*, errW_none, errW_some] <;> rfl), by (with_reducible repeat (first | apply Kd.R_alloc | apply Kd.R_drewN | apply Kd.R_drew)); exact HO245.out, by repeat (first | (with_reducible first | exact HB.out | apply below_alloc | apply pw_below_drewN | apply below_drew1) | exact HB.out)⟩
  · rw [if_neg c3] at H
    have c3b0 : (t242 == 0) = false := beq_eq_false_iff_ne.mpr c3
    have c3b1 : (t242 != 0) = true := bne_iff_ne.mpr c3
    simp only [Option.some.injEq, Prod.mk.injEq] at H
    obtain ⟨rfl, rfl⟩ := H
    go_enter Tryz.func6, Tryz.ntmps6
    go_wp2_with (first | ((with_reducible refine gate_callee (f := 26) rfl ?_); refine goesL_ (some 6) rfl rfl Tryz.func26 (by kernel_rfl) rfl #[.string a0] rfl (by (try simp only [List.map_toArray, List.map_cons, List.map_nil]); first | done | rfl | (simp only [List.length_drop, List.length_take]; rfl)) ?_; (with_reducible refine (produce_textError.calls k a0 t242 _ ?side1 A2.out).mono ?_); (case side1 => exact Wd.below HGl.out (by repeat (first | (with_reducible first | exact HB.out | apply below_alloc | apply pw_below_drewN | apply below_drew1) | exact HB.out))); rintro e w7 ⟨rfl, hb⟩; refine ⟨_, rfl, ?_⟩; have n0_ := Aside0.mk (below_step (by repeat (first | (with_reducible first | exact HB.out | apply below_alloc | apply pw_below_drewN | apply below_drew1) | exact HB.out)) hb); clear HB; have HB := n0_; clear n0_; (try clear hb); (try clear hb2); (try clear hk); (try clear hi)))
    go_ret2
    exact ⟨_, by first | rfl | (simp [errW_none, errW_some] <;> rfl) | (simp [*, errW_none, errW_some] <;> rfl), by first | exact Kd.R_nil _ _ _ _ _ | exact Kd.N_nil _ _ _ _ _ | exact Kd.V_nil _ _ _ _ _ | exact Kd.Q_nil _ _ _ _ _ | exact Kd.S_nil _ _ _ _ _, by repeat (first | (with_reducible first | exact HB.out | apply below_alloc | apply pw_below_drewN | apply below_drew1) | exact HB.out)⟩
theorem produce_Pages.S_put {α : Type} {d : Kd α} {e : Nat} {W : World} {base : Nat} {ok : Nat → Prop} {v : Value} {xs : List α} (h : Kd.S d e W base ok v xs) {D : Nat} {o : Obj} (o' : Obj) (hD : W.heap[D]? = some o) (hn : o.isCells = false) : Kd.S d e (W.putObj D o') base ok v xs := by
  refine Kd.S_mono (Kd.S_grown (Kd.S_bound h) (grownBy_putObj' W D o') (fun k ⟨_, _, _, q, _, cells, hc⟩ e => ?_)) (fun _ hk => hk.1)
  cases e
  rw [hc] at hD
  cases hD
  cases hn
def produce_Pages.f (k : Nat) (a0 : ByteArray) : Option (List (List ByteArray) × Int) := (produce_textError.f k a0).bind fun e => (if e = 0 then ((produce_pieces.f k a0).bind fun l => (if l.length = 0 then (some ([[]], 0)) else (if l.length ≤ 1000000000 then (some ((List.range ((l.length + 49) / 50)).map (chunkL l), 0)) else (none)))) else (some ([], e)))
theorem produce_Pages.mono : ∀ a0 k, LeO (produce_Pages.f k a0) (produce_Pages.f (k + 1) a0) := by
  intro a0 k
  unfold produce_Pages.f
  repeat' first
      | (with_reducible exact produce_pieces.mono _ _)
      | (with_reducible exact produce_textError.mono _ _)
      | (with_reducible exact LeO.refl _)
      | (with_reducible exact LeO.none _)
      | (with_reducible refine LeO.ite ?_ ?_)
      | (with_reducible refine LeO.bind ?_ (fun _ => ?_))
      | exact produce_pieces.mono _ _
      | exact produce_textError.mono _ _
      | exact LeO.none _
      | refine LeO.ite ?_ ?_
      | refine LeO.bind ?_ (fun _ => ?_)
set_option maxHeartbeats 8000000 in
set_option maxRecDepth 100000 in
theorem produce_Pages.calls (k : Nat) (a0 : ByteArray) (r1 : List (List ByteArray)) (r2 : Int) (w : World) (hGl : Wd w) (h : produce_Pages.f k a0 = some (r1, r2)) :
    Calls Tryz.prog 7 #[.string a0] w fun e w' => ∃ v0_ : Value, e = .returned (.tuple #[v0_, .int .i64 r2]) ∧ Kd.S (Kd.slice 9 Kd.string) 27 w' w.heap.size (fun _ => True) v0_ r1 ∧ Below w.heap.size w w' := by
  unfold produce_Pages.f at h
  cases h1 : produce_textError.f k a0 with
  | none => rw [h1] at h; exact absurd h (by simp)
  | some ev =>
  rw [h1, Option.bind_some] at h
  have HT := produce_textError.calls k a0 ev w hGl h1
  have hmixed : Tryz.prog.follows Departure.mixedOrders = true := by kernel_rfl
  by_cases he : ev = 0
  · rw [if_pos he] at h
    cases h2 : produce_pieces.f k a0 with
    | none => rw [h2] at h; exact absurd h (by simp)
    | some l =>
    rw [h2, Option.bind_some] at h
    have HP := fun w1 (hb : Below w.heap.size w w1) => produce_pieces.calls k a0 l w1 (hGl.below hb) h2
    subst he
    by_cases hl0 : l.length = 0
    · rw [if_pos hl0] at h
      obtain ⟨rfl, rfl⟩ : [[]] = r1 ∧ 0 = r2 := by simpa using h
      have hlz : ((l.length : Int) == 0) = true := beq_iff_eq.mpr (by omega)
      clear h h1 h2 hmixed
      go_enter Tryz.func7, Tryz.ntmps7
      go_wp2_with (first | (go_at_call 26; refine HT.mono ?_; rintro e w1 ⟨rfl, hb⟩) | (go_at_call 27; refine (HP _ hb).mono ?_; rintro e w2 ⟨v0, rfl, hR, hb2⟩; obtain ⟨A2, c2, rfl⟩ := Kd.R_slice hR))
      go_ret2
      refine ⟨_, rfl, ⟨fun _ => 0, fun _ _ => trivial, [.slice (some ⟨w2.heap.size, 0, none⟩) 0 0], ?_, rfl, ?_⟩, (below_step hb hb2).trans (((Below.refl _ w2).alloc (by have := (below_step hb hb2).size; omega) _).alloc (by have := (below_step hb hb2).size; simp only [World.size_alloc]; omega) _)⟩
      · have := World.ownsRow_lit (base := w.heap.size) (e := 27) (size := 1) (w2.alloc (.cells #[] 9)) #[.slice (some ⟨w2.heap.size, 0, none⟩) 0 0] 1 (by have := (below_step hb hb2).size; simp only [World.size_alloc]; omega) (by simp [maxLen]) rfl
        rw [World.size_alloc] at this
        exact this
      · intro j p hj
        obtain ⟨hj0, rfl⟩ : j = 0 ∧ p = ([], 0) := by
          cases j with
          | zero => simpa using hj.symm
          | succ j => simp at hj
        subst hj0
        refine ⟨.slice (some ⟨w2.heap.size, 0, none⟩) 0 0, rfl, Kd.R_alloc ?_ _⟩
        refine R_of (fun k hk => ?_) (World.ownsRow_lit (base := w.heap.size) (e := 9) (size := 1) w2 #[] 0 (below_step hb hb2).size (by simp [maxLen]) rfl)
        simp [Value.ownBlock] at hk ⊢
        omega
    · rw [if_neg hl0] at h
      have hl1 : l.length ≤ 1000000000 := by
        rcases Nat.lt_or_ge 1000000000 l.length with q | q
        · rw [if_neg (by omega)] at h
          exact absurd h (by simp)
        · exact q
      rw [if_pos hl1] at h
      obtain ⟨hr1, rfl⟩ : (List.range ((l.length + 49) / 50)).map (chunkL l) = r1 ∧ 0 = r2 := by simpa using h
      have hlz : ((l.length : Int) == 0) = false := beq_eq_false_iff_ne.mpr (by omega)
      clear h h1 h2
      refine (callsIn_wide (n := 6)).1 ?_
      refine callsIn_of_wp_marks Tryz.func7 rfl trivial ?_ rfl
      simp only [Tryz.ntmps7, List.size_toArray, List.length_cons, List.length_nil, Nat.reduceAdd, Nat.reduceSub, Array.replicate_succ, Array.replicate_zero, List.push_toArray, List.append_toArray, List.nil_append, List.cons_append]
      gi_wp2_with (refine ⟨trivial, ?_⟩; first | (gi_at_call 26; refine (callsIn_wide.2 HT).mono ?_; rintro e w1 ⟨rfl, hb⟩) | (gi_at_call 27; refine (callsIn_wide.2 (HP _ hb)).mono ?_; rintro e w2 ⟨v0, rfl, hR, hb2⟩; obtain ⟨g2, c2, rfl, hg2, hg3, cells2, hcl2⟩ := Kd.R_form hR (by omega)) | (gi_at_call 28; refine (Chunk_calls _ _ _ _).mono ?_; rintro e w3 ⟨rfl, rfl⟩))
      have hbb := below_step hb hb2
      have hbs := hbb.size
      obtain ⟨hle, hcc⟩ : l.length ≤ c2 ∧ c2 ≤ 9223372036854775807 := by
        rcases (R_scalar hR).2.2 with ⟨e, _⟩ | ⟨g, cap, cur, e, _, _, hn, hcap, _, _⟩
        · cases e
        · cases e
          exact ⟨hn, hcap⟩
      have hcells : ∀ j p, l[j]? = some p → w2.cell? ⟨g2, j, none⟩ = some (.string p) := by
        intro j p hj
        obtain ⟨A, c, e, _, hC⟩ := Kd.R_reads hR
        cases e
        obtain ⟨b', o', e, _, hc⟩ := C_cells hC (by omega)
        cases e
        simpa using hc j p hj
      refine pages_loop (((w2.alloc (.cells #[.slice none 0 0] 31)).alloc (.cells #[.slice (some ⟨g2, 0, none⟩) l.length c2] 27)).alloc (.cells #[.int .i64 50] 3)) w2.heap.size (w2.heap.size + 1) (w2.heap.size + 1 + 1) g2 c2 l hl1 hle hcc
        (((Boxed.new w2 31 (.slice none 0 0)).alloc _).alloc _) (by simp only [World.size_alloc]; omega) (by simp only [World.size_alloc]; omega) (by omega) (by omega)
        (by have h_ := ((Boxed.new (w2.alloc (.cells #[.slice none 0 0] 31)) 27 (.slice (some ⟨g2, 0, none⟩) l.length c2)).alloc (.cells #[.int .i64 50] 3)).cell; rwa [World.size_alloc] at h_)
        (by have h_ := (Boxed.new ((w2.alloc (.cells #[.slice none 0 0] 31)).alloc (.cells #[.slice (some ⟨g2, 0, none⟩) l.length c2] 27)) 3 (.int .i64 50)).cell; rwa [World.size_alloc, World.size_alloc] at h_)
        (by omega) (fun j p hj => ?_) (by simp only [World.size_alloc]; omega) (fun k W hk hW => ?_) _ _ _ _ _ _ _ _ _ _ _ _ _ _ _ _ _ _ _ _ _ _ _ _ _ _ _ ?_
      · exact (((((Below.refl _ w2).alloc (Nat.le_refl _) _).alloc (by simp only [World.size_alloc]; omega) _).alloc (by simp only [World.size_alloc]; omega) _).cell (p := ⟨g2, j, none⟩) hg3).trans (hcells j p hj)
      · have hlk : (chunkL l k).length = min 50 (l.length - 50 * k) := by simp [chunkL]
        unfold chunkV
        rw [← hlk]
        refine (Tryz.slices_Clone_string g2 (0 + 50 * k) (chunkL l k).length (chunkL l k).length (chunkL l k) W (Nat.le_refl _) (by omega) (fun j hj => ?_)).mono ?_
        · have hj2 : l[50 * k + j]? = some ((chunkL l k).getD j ByteArray.empty) := by
            rw [List.getD_eq_getElem?_getD, List.getElem?_eq_getElem hj, Option.getD_some]
            unfold chunkL at hj ⊢
            rw [List.getElem_take, List.getElem_drop]
            exact List.getElem?_eq_getElem _
          rw [Nat.zero_add]
          exact hW _ _ hj2
        · rintro e w' ⟨v', rfl, ho, _, hB⟩
          rw [List.take_length] at ho
          exact ⟨_, rfl, R_of (fun _ _ => trivial) ho, hB⟩
      · intro D W v hD hv hS hk hK
        have hc := hv.cell
        gi_wp2
        refine ⟨by simp, .inl ⟨_, _, rfl, run_takeDeferred hK, ?_⟩⟩
        rw [← hr1]
        have hbL : Below w.heap.size w (((w2.alloc (.cells #[.slice none 0 0] 31)).alloc (.cells #[.slice (some ⟨g2, 0, none⟩) l.length c2] 27)).alloc (.cells #[.int .i64 50] 3)) := ((hbb.alloc hbs _).alloc (by simp only [World.size_alloc]; omega) _).alloc (by simp only [World.size_alloc]; omega) _
        have hbW : Below w.heap.size w W := hbL.grown hk hbL.size (fun j e => by injection e with e; omega)
        have hDs := (Array.getElem?_eq_some_iff.1 hK).1
        simp only [World.size_alloc] at hD
        exact ⟨_, results_tmp2 rfl _ _ _, _, rfl, Kd.S_lower (produce_Pages.S_put hS _ hK rfl) hbL.size, hbW.grown (grownBy_putObj' W D _) hbW.size (fun j e => by injection e with e; omega)⟩
  · rw [if_neg he] at h
    obtain ⟨rfl, rfl⟩ : [] = r1 ∧ ev = r2 := by simpa using h
    have hne : (ev != 0) = true := bne_iff_ne.mpr he
    clear h h1 he
    go_enter Tryz.func7, Tryz.ntmps7
    go_wp2_with (go_at_call 26; refine HT.mono ?_; rintro e w1 ⟨rfl, hb⟩)
    go_ret2
    exact ⟨_, rfl, Kd.S_nil _ _ _ _ _, hb⟩
def chaseref1_wellFormed.okB (feeds : Bool) (c : UInt8) : Bool := !((decide ((c.toNat : Int) < 32) && !(feeds && decide ((c.toNat : Int) = 10))) || decide ((c.toNat : Int) = 127))
def chaseref1_wellFormed.wfB (s : ByteArray) (feeds : Bool) : Bool := s.data.toList.all (chaseref1_wellFormed.okB feeds) && Lib.validD s.data.toList
def chaseref1_wellFormed.f (a0 : ByteArray) (a1 : Bool) : Option (Bool) := if a0.size ≤ 140737488355328 then (some (chaseref1_wellFormed.wfB a0 a1)) else (none)
set_option maxHeartbeats 8000000 in
set_option maxRecDepth 100000 in
theorem chaseref1_wellFormed.calls (a0 : ByteArray) (a1 : Bool) (r : Bool) (w : World) (hGl : Wd w) (h : chaseref1_wellFormed.f a0 a1 = some r) :
    Calls Tryz.prog 60 #[.string a0, .bool a1] w fun e w' => e = .returned (.bool r) ∧ Below w.heap.size w w' := by
  unfold chaseref1_wellFormed.f at h
  by_cases hs : a0.size ≤ 140737488355328
  · rw [if_pos hs] at h
    obtain rfl := Option.some.inj h
    have hconv := fun (w : World) => Lib.run_convert_string_bytes (P := Tryz.prog) w 9 85 5 a0 Tryz.underlying9 Tryz.underlying85 Tryz.underlying5
    have HG := Aside0.mk hGl
    clear h hGl
    have hs2 : a0.size ≤ 9223372036854775807 := by omega
    go_enter Tryz.func60, Tryz.ntmps60
    go_wp2
    have HB := Aside0.mk (BAt.start (e := 5) (Below.refl w.heap.size w) a0)
    have HW : Aside0 (Wd (Lib.bytesWorld w 5 a0)) := ⟨HG.out.below HB.out.1⟩
    clear hconv HG
    generalize Lib.bytesWorld w 5 a0 = w1 at *
    go_loop [10] (fun i => ∃ k : Nat, i = .int .i64 k ∧ Aside0 (k ≤ a0.size) ∧ Aside0 ((a0.data.toList.take k).all (chaseref1_wellFormed.okB a1) = true)) (fun i => a0.size - (intOf i).toNat)
    case atStart => exact ⟨0, rfl, ⟨Nat.zero_le _⟩, ⟨rfl⟩⟩
    case round =>
      obtain ⟨k, rfl, HK, HA⟩ := hrel
      by_cases hlt : k < a0.size
      · have hl : k < a0.data.toList.length := by rw [data_length]; exact hlt
        have hcell := HB.out.cell hl
        have htake : a0.data.toList.take (k + 1) = a0.data.toList.take k ++ [a0.data.toList[k]] := List.take_succ_eq_append_getElem hl
        have HT : Aside0 (a0.data.toList[k] ∈ a0.data.toList) := ⟨List.getElem_mem hl⟩
        generalize a0.data.toList[k] = c at *
        have hnext : chaseref1_wellFormed.okB a1 c = true → (a0.data.toList.take (k + 1)).all (chaseref1_wellFormed.okB a1) = true := fun hc => by
          rw [htake, List.all_append, HA.out]
          simp [hc]
        have hbad : chaseref1_wellFormed.okB a1 c = false → chaseref1_wellFormed.wfB a0 a1 = false := fun hc => by
          unfold chaseref1_wellFormed.wfB
          have : a0.data.toList.all (chaseref1_wellFormed.okB a1) = false := by
            rw [List.all_eq_false]
            exact ⟨c, HT.out, by rw [hc]; simp⟩
          rw [this]
          rfl
        have HN := Aside0.mk hnext
        have HD := Aside0.mk hbad
        clear hnext hbad htake HA HT
        have hwk : wrap64 ((k : Int) + 1) = ((k + 1 : Nat) : Int) := by unfold wrap64; omega
        have good : chaseref1_wellFormed.okB a1 c = true → True := fun _ => trivial
        by_cases h1 : (c.toNat : Int) < 32
        · have b1 : decide ((c.toNat : Int) < 32) = true := decide_eq_true h1
          have e127 : ¬ (c.toNat : Int) = 127 := by omega
          by_cases ha : a1 = true
          · subst ha
            by_cases h10 : (c.toNat : Int) = 10
            · have b2 : ((c.toNat : Int) == 10) = true := beq_iff_eq.mpr h10
              have b3 : ((c.toNat : Int) == 127) = false := beq_eq_false_iff_ne.mpr e127
              have hc : chaseref1_wellFormed.okB true c = true := by simp [chaseref1_wellFormed.okB, h10]
              have HN2 := Aside0.mk (HN.out hc)
              clear h1 e127 h10 hc HN HD good hwk
              go_wp2
              go_round
              case rel => exact ⟨k + 1, by go_num, ⟨by omega⟩, HN2⟩
              case measure => simp [intOf]; omega
            · have b2 : ((c.toNat : Int) == 10) = false := beq_eq_false_iff_ne.mpr h10
              have hc : chaseref1_wellFormed.okB true c = false := by simp [chaseref1_wellFormed.okB, h1, h10]
              have HD2 := Aside0.mk (HD.out hc)
              clear h1 e127 h10 hc HN HD good hwk
              go_wp2
              go_ret
              exact ⟨by rw [HD2.out]; rfl, HB.out.1⟩
          · have ha2 : a1 = false := by simpa using ha
            subst ha2
            have hc : chaseref1_wellFormed.okB false c = false := by simp [chaseref1_wellFormed.okB, h1]
            have HD2 := Aside0.mk (HD.out hc)
            clear h1 e127 hc HN HD good hwk ha
            go_wp2
            go_ret
            exact ⟨by rw [HD2.out]; rfl, HB.out.1⟩
        · have b1 : decide ((c.toNat : Int) < 32) = false := decide_eq_false h1
          by_cases h127 : (c.toNat : Int) = 127
          · have b3 : ((c.toNat : Int) == 127) = true := beq_iff_eq.mpr h127
            have hc : chaseref1_wellFormed.okB a1 c = false := by simp [chaseref1_wellFormed.okB, h127]
            have HD2 := Aside0.mk (HD.out hc)
            clear h1 h127 hc HN HD good hwk
            go_wp2
            go_ret
            exact ⟨by rw [HD2.out]; rfl, HB.out.1⟩
          · have b3 : ((c.toNat : Int) == 127) = false := beq_eq_false_iff_ne.mpr h127
            have hc : chaseref1_wellFormed.okB a1 c = true := by simp [chaseref1_wellFormed.okB, h1, h127]
            have HN2 := Aside0.mk (HN.out hc)
            clear h1 h127 hc HN HD good hwk
            go_wp2
            go_round
            case rel => exact ⟨k + 1, by go_num, ⟨by omega⟩, HN2⟩
            case measure => simp [intOf]; omega
      · obtain rfl : k = a0.size := by have := HK.out; omega
        have hall := HA.out
        rw [List.take_of_length_le (by rw [data_length]; exact Nat.le_refl _)] at hall
        have HA2 := Aside0.mk hall
        clear hall HA HK
        go_wp2_with (go_at_call 98; refine (Any.utf8_ValidString Tryz.valid196 a0 _ hs2 HW.out.2).mono ?_; rintro e w' ⟨rfl, hb⟩)
        go_ret
        exact ⟨by unfold chaseref1_wellFormed.wfB; rw [HA2.out]; rfl, below_step HB.out.1 hb⟩
  · rw [if_neg hs] at h
    exact absurd h (by simp)
def chaseref1_TextOf.f (a0 : ByteArray) : Option (Bool) := (chaseref1_wellFormed.f a0 true).bind fun t246 => (if t246 = true then (if a0.toList = ([] : List UInt8) then (some true) else ((strings_HasSuffix.f a0 (⟨#[10]⟩ : ByteArray)).bind fun t247 => (some t247))) else (some false))
set_option maxHeartbeats 8000000 in
set_option maxRecDepth 100000 in
theorem chaseref1_TextOf.calls (a0 : ByteArray) (r : Bool) (w : World) (hGl : Wd w) (h : chaseref1_TextOf.f a0 = some r) :
    Calls Tryz.prog 30 #[.string a0] w fun e w' => e = .returned (.bool r) ∧ Below w.heap.size w w' := by
  have HGl := Aside0.mk hGl
  clear hGl
  have HB := Aside0.mk (Below.refl w.heap.size w)
  have H : ((chaseref1_wellFormed.f a0 true).bind fun t246 => (if t246 = true then (if a0.toList = ([] : List UInt8) then (some true) else ((strings_HasSuffix.f a0 (⟨#[10]⟩ : ByteArray)).bind fun t247 => (some t247))) else (some false))) = some r := h
  clear h
  replace H := Option.bind_eq_some_iff.mp H
  obtain ⟨t246, A20, H⟩ := H
  replace H : (if t246 = true then (if a0.toList = ([] : List UInt8) then (some true) else ((strings_HasSuffix.f a0 (⟨#[10]⟩ : ByteArray)).bind fun t247 => (some t247))) else (some false)) = some r := H
  have A2 := Aside0.mk A20
  clear A20
  by_cases c3 : t246 = true
  · subst c3
    have H1 : (if a0.toList = ([] : List UInt8) then (some true) else ((strings_HasSuffix.f a0 (⟨#[10]⟩ : ByteArray)).bind fun t247 => (some t247))) = some r := by rw [if_pos rfl] at H; exact H
    clear H
    have H := H1
    clear H1
    by_cases c4 : a0.toList = ([] : List UInt8)
    · rw [if_pos c4] at H
      have c4b0 : (a0.toList == ([] : List UInt8)) = true := beq_iff_eq.mpr c4
      have c4b1 : (a0.toList != ([] : List UInt8)) = false := bne_eq_false_iff_eq.mpr c4
      clear c4
      obtain rfl := Option.some.inj H
      go_enter Tryz.func30, Tryz.ntmps30
      go_wp2_with (first | ((with_reducible refine gate_callee (f := 60) rfl ?_); refine goesL_ (some 4) rfl rfl Tryz.func60 (by kernel_rfl) rfl #[.string a0, .bool true] rfl (by (try simp only [List.map_toArray, List.map_cons, List.map_nil]); first | done | rfl | (simp only [List.length_drop, List.length_take]; rfl)) ?_; (with_reducible refine (chaseref1_wellFormed.calls a0 true true _ ?side1 A2.out).mono ?_); (case side1 => exact Wd.below HGl.out (by repeat (first | (with_reducible first | exact HB.out | apply below_alloc | apply pw_below_drewN | apply below_drew1) | exact HB.out))); rintro e w5 ⟨rfl, hb⟩; refine ⟨_, rfl, ?_⟩; have n0_ := Aside0.mk (below_step (by repeat (first | (with_reducible first | exact HB.out | apply below_alloc | apply pw_below_drewN | apply below_drew1) | exact HB.out)) hb); clear HB; have HB := n0_; clear n0_; (try clear hb); (try clear hb2); (try clear hk); (try clear hi)))
      go_ret
      exact ⟨by first | rfl | (simp [errW_none, errW_some] <;> rfl) | (simp [*, errW_none, errW_some] <;> rfl), by repeat (first | (with_reducible first | exact HB.out | apply below_alloc | apply pw_below_drewN | apply below_drew1) | exact HB.out)⟩
    · rw [if_neg c4] at H
      have c4b0 : (a0.toList == ([] : List UInt8)) = false := beq_eq_false_iff_ne.mpr c4
      have c4b1 : (a0.toList != ([] : List UInt8)) = true := bne_iff_ne.mpr c4
      replace H := Option.bind_eq_some_iff.mp H
      obtain ⟨t247, A60, H⟩ := H
      replace H : (some t247) = some r := H
      have A6 := Aside0.mk A60
      clear A60
      obtain rfl := Option.some.inj H
      go_enter Tryz.func30, Tryz.ntmps30
      go_wp2_with (first | ((with_reducible refine gate_callee (f := 60) rfl ?_); refine goesL_ (some 4) rfl rfl Tryz.func60 (by kernel_rfl) rfl #[.string a0, .bool true] rfl (by (try simp only [List.map_toArray, List.map_cons, List.map_nil]); first | done | rfl | (simp only [List.length_drop, List.length_take]; rfl)) ?_; (with_reducible refine (chaseref1_wellFormed.calls a0 true true _ ?side1 A2.out).mono ?_); (case side1 => exact Wd.below HGl.out (by repeat (first | (with_reducible first | exact HB.out | apply below_alloc | apply pw_below_drewN | apply below_drew1) | exact HB.out))); rintro e w7 ⟨rfl, hb⟩; refine ⟨_, rfl, ?_⟩; have n0_ := Aside0.mk (below_step (by repeat (first | (with_reducible first | exact HB.out | apply below_alloc | apply pw_below_drewN | apply below_drew1) | exact HB.out)) hb); clear HB; have HB := n0_; clear n0_; (try clear hb); (try clear hb2); (try clear hk); (try clear hi)) | (go_at_call 61; (with_reducible refine (strings_HasSuffix.calls a0 (⟨#[10]⟩ : ByteArray) t247 _ A6.out).mono ?_); rintro e w' ⟨rfl, ⟨nd, rfl⟩⟩))
      go_ret
      exact ⟨by first | rfl | (simp [errW_none, errW_some] <;> rfl) | (simp [*, errW_none, errW_some] <;> rfl), by repeat (first | (with_reducible first | exact HB.out | apply below_alloc | apply pw_below_drewN | apply below_drew1) | exact HB.out)⟩
  · replace c3 := Bool.eq_false_iff.mpr c3
    subst c3
    have H1 : (some false) = some r := by rw [if_neg (show ¬ (false = true) by decide)] at H; exact H
    clear H
    have H := H1
    clear H1
    obtain rfl := Option.some.inj H
    go_enter Tryz.func30, Tryz.ntmps30
    go_wp2_with (first | ((with_reducible refine gate_callee (f := 60) rfl ?_); refine goesL_ (some 4) rfl rfl Tryz.func60 (by kernel_rfl) rfl #[.string a0, .bool true] rfl (by (try simp only [List.map_toArray, List.map_cons, List.map_nil]); first | done | rfl | (simp only [List.length_drop, List.length_take]; rfl)) ?_; (with_reducible refine (chaseref1_wellFormed.calls a0 true false _ ?side1 A2.out).mono ?_); (case side1 => exact Wd.below HGl.out (by repeat (first | (with_reducible first | exact HB.out | apply below_alloc | apply pw_below_drewN | apply below_drew1) | exact HB.out))); rintro e w8 ⟨rfl, hb⟩; refine ⟨_, rfl, ?_⟩; have n0_ := Aside0.mk (below_step (by repeat (first | (with_reducible first | exact HB.out | apply below_alloc | apply pw_below_drewN | apply below_drew1) | exact HB.out)) hb); clear HB; have HB := n0_; clear n0_; (try clear hb); (try clear hb2); (try clear hk); (try clear hi)))
    go_ret
    exact ⟨by first | rfl | (simp [errW_none, errW_some] <;> rfl) | (simp [*, errW_none, errW_some] <;> rfl), by repeat (first | (with_reducible first | exact HB.out | apply below_alloc | apply pw_below_drewN | apply below_drew1) | exact HB.out)⟩
def chaseref1_BodyFault.f (a0 : ByteArray) : Option (Int) := if (a0.size : Int) > 20000 then (some 2) else ((chaseref1_TextOf.f a0).bind fun t248 => (if t248 = true then (some 0) else (some 3)))
set_option maxHeartbeats 8000000 in
set_option maxRecDepth 100000 in
theorem chaseref1_BodyFault.calls (a0 : ByteArray) (r : Int) (w : World) (hGl : Wd w) (h : chaseref1_BodyFault.f a0 = some r) :
    Calls Tryz.prog 8 #[.string a0] w fun e w' => e = .returned (.int .i64 r) ∧ Below w.heap.size w w' := by
  have HGl := Aside0.mk hGl
  clear hGl
  have HB := Aside0.mk (Below.refl w.heap.size w)
  have H : (if (a0.size : Int) > 20000 then (some 2) else ((chaseref1_TextOf.f a0).bind fun t248 => (if t248 = true then (some 0) else (some 3)))) = some r := h
  clear h
  by_cases c2 : (a0.size : Int) > 20000
  · rw [if_pos c2] at H
    have c2b0 : decide (20000 < (a0.size : Int)) = true := decide_eq_true c2
    have c2b1 : decide (20000 < a0.size) = true := decide_eq_true (by omega)
    clear c2
    obtain rfl := Option.some.inj H
    go_enter Tryz.func8, Tryz.ntmps8
    go_wp2
    go_ret
    exact ⟨by first | rfl | (simp [errW_none, errW_some] <;> rfl) | (simp [*, errW_none, errW_some] <;> rfl), by repeat (first | (with_reducible first | exact HB.out | apply below_alloc | apply pw_below_drewN | apply below_drew1) | exact HB.out)⟩
  · rw [if_neg c2] at H
    have c2b0 : decide (20000 < (a0.size : Int)) = false := decide_eq_false c2
    have c2b1 : decide (20000 < a0.size) = false := decide_eq_false (by omega)
    clear c2
    replace H := Option.bind_eq_some_iff.mp H
    obtain ⟨t248, A30, H⟩ := H
    replace H : (if t248 = true then (some 0) else (some 3)) = some r := H
    have A3 := Aside0.mk A30
    clear A30
    by_cases c4 : t248 = true
    · subst c4
      have H1 : (some 0) = some r := by rw [if_pos rfl] at H; exact H
      clear H
      have H := H1
      clear H1
      obtain rfl := Option.some.inj H
      go_enter Tryz.func8, Tryz.ntmps8
      go_wp2_with (first | ((with_reducible refine gate_callee (f := 30) rfl ?_); refine goesL_ (some 7) rfl rfl Tryz.func30 (by kernel_rfl) rfl #[.string a0] rfl (by (try simp only [List.map_toArray, List.map_cons, List.map_nil]); first | done | rfl | (simp only [List.length_drop, List.length_take]; rfl)) ?_; (with_reducible refine (chaseref1_TextOf.calls a0 true _ ?side1 A3.out).mono ?_); (case side1 => exact Wd.below HGl.out (by repeat (first | (with_reducible first | exact HB.out | apply below_alloc | apply pw_below_drewN | apply below_drew1) | exact HB.out))); rintro e w5 ⟨rfl, hb⟩; refine ⟨_, rfl, ?_⟩; have n0_ := Aside0.mk (below_step (by repeat (first | (with_reducible first | exact HB.out | apply below_alloc | apply pw_below_drewN | apply below_drew1) | exact HB.out)) hb); clear HB; have HB := n0_; clear n0_; (try clear hb); (try clear hb2); (try clear hk); (try clear hi)))
      go_ret
      exact ⟨by first | rfl | (simp [errW_none, errW_some] <;> rfl) | (simp [*, errW_none, errW_some] <;> rfl), by repeat (first | (with_reducible first | exact HB.out | apply below_alloc | apply pw_below_drewN | apply below_drew1) | exact HB.out)⟩
    · replace c4 := Bool.eq_false_iff.mpr c4
      subst c4
      have H1 : (some 3) = some r := by rw [if_neg (show ¬ (false = true) by decide)] at H; exact H
      clear H
      have H := H1
      clear H1
      obtain rfl := Option.some.inj H
      go_enter Tryz.func8, Tryz.ntmps8
      go_wp2_with (first | ((with_reducible refine gate_callee (f := 30) rfl ?_); refine goesL_ (some 7) rfl rfl Tryz.func30 (by kernel_rfl) rfl #[.string a0] rfl (by (try simp only [List.map_toArray, List.map_cons, List.map_nil]); first | done | rfl | (simp only [List.length_drop, List.length_take]; rfl)) ?_; (with_reducible refine (chaseref1_TextOf.calls a0 false _ ?side1 A3.out).mono ?_); (case side1 => exact Wd.below HGl.out (by repeat (first | (with_reducible first | exact HB.out | apply below_alloc | apply pw_below_drewN | apply below_drew1) | exact HB.out))); rintro e w6 ⟨rfl, hb⟩; refine ⟨_, rfl, ?_⟩; have n0_ := Aside0.mk (below_step (by repeat (first | (with_reducible first | exact HB.out | apply below_alloc | apply pw_below_drewN | apply below_drew1) | exact HB.out)) hb); clear HB; have HB := n0_; clear n0_; (try clear hb); (try clear hb2); (try clear hk); (try clear hi)))
      go_ret
      exact ⟨by first | rfl | (simp [errW_none, errW_some] <;> rfl) | (simp [*, errW_none, errW_some] <;> rfl), by repeat (first | (with_reducible first | exact HB.out | apply below_alloc | apply pw_below_drewN | apply below_drew1) | exact HB.out)⟩
def base_In.f (a0 : Int) (a1 : Int) (a2 : Int) : Option (Bool) := if a0 ≥ a1 then (some (decide (a0 ≤ a2))) else (some false)
set_option maxHeartbeats 8000000 in
set_option maxRecDepth 100000 in
theorem base_In.calls (a0 : Int) (a1 : Int) (a2 : Int) (r : Bool) (w : World) (h : base_In.f a0 a1 a2 = some r) :
    Calls Tryz.prog 63 #[.int .i64 a0, .int .i64 a1, .int .i64 a2] w fun e w' => e = .returned (.bool r) ∧ Drawn0 w w' := by
  have H : (if a0 ≥ a1 then (some (decide (a0 ≤ a2))) else (some false)) = some r := h
  clear h
  by_cases c4 : a0 ≥ a1
  · rw [if_pos c4] at H
    have c4b0 : decide (a1 ≤ a0) = true := decide_eq_true c4
    clear c4
    obtain rfl := Option.some.inj H
    go_enter Tryz.func63, Tryz.ntmps63
    go_wp2
    go_ret
    exact ⟨by first | rfl | (simp; done) | (simp [*]; done), by repeat (first | exact Drawn0.refl _ | apply Drawn0.step)⟩
  · rw [if_neg c4] at H
    have c4b0 : decide (a1 ≤ a0) = false := decide_eq_false c4
    clear c4
    obtain rfl := Option.some.inj H
    go_enter Tryz.func63, Tryz.ntmps63
    go_wp2
    go_ret
    exact ⟨by first | rfl | (simp; done) | (simp [*]; done), by repeat (first | exact Drawn0.refl _ | apply Drawn0.step)⟩
def produce_isPrefix.l0 : Nat → ByteArray → Int → Int → Option (Bool)
  | 0, _, _, _ => none
  | k + 1, x0, x5, x6 => if x6 < x5 then (if 0 ≤ x6 then (if x6 < (x0.size : Int) then (if (bt x0 x6) < 65 then (some false) else (if (bt x0 x6) > 90 then (some false) else (produce_isPrefix.l0 k x0 x5 (wrap64 (x6 + 1))))) else (none)) else (none)) else ((base_In.f (x0.size : Int) 1 8).bind fun t249 => (some t249))
def produce_isPrefix.f (k : Nat) (a0 : ByteArray) : Option (Bool) := produce_isPrefix.l0 k a0 (a0.size : Int) 0
theorem produce_isPrefix.mono_l : ∀ k, (∀ y0 y1 y2, LeO (produce_isPrefix.l0 k y0 y1 y2) (produce_isPrefix.l0 (k + 1) y0 y1 y2))
  | 0 => fun _ _ _ r h => by simp [produce_isPrefix.l0] at h
  | k + 1 => by
    have ih0 := produce_isPrefix.mono_l k
    · intro y0 y1 y2
      unfold produce_isPrefix.l0
      repeat' first
      | (with_reducible exact ih0 _ _ _)
      | (with_reducible exact LeO.refl _)
      | (with_reducible exact LeO.none _)
      | (with_reducible refine LeO.ite ?_ ?_)
      | (with_reducible refine LeO.bind ?_ (fun _ => ?_))
      | exact ih0 _ _ _
      | exact LeO.none _
      | refine LeO.ite ?_ ?_
      | refine LeO.bind ?_ (fun _ => ?_)
theorem produce_isPrefix.mono : ∀ a0 k, LeO (produce_isPrefix.f k a0) (produce_isPrefix.f (k + 1) a0) := by
  intro a0 k
  have ih0 := produce_isPrefix.mono_l k
  unfold produce_isPrefix.f
  repeat' first
      | (with_reducible exact ih0 _ _ _)
      | (with_reducible exact LeO.refl _)
      | (with_reducible exact LeO.none _)
      | (with_reducible refine LeO.ite ?_ ?_)
      | (with_reducible refine LeO.bind ?_ (fun _ => ?_))
      | exact ih0 _ _ _
      | exact LeO.none _
      | refine LeO.ite ?_ ?_
      | refine LeO.bind ?_ (fun _ => ?_)
set_option maxHeartbeats 8000000 in
set_option maxRecDepth 100000 in
theorem produce_isPrefix.calls (k : Nat) (a0 : ByteArray) (r : Bool) (w : World) (h : produce_isPrefix.f k a0 = some r) :
    Calls Tryz.prog 100 #[.string a0] w fun e w' => e = .returned (.bool r) ∧ Drawn0 w w' := by
  have H : (produce_isPrefix.l0 k a0 (a0.size : Int) 0) = some r := h
  clear h
  have H' := Aside0.mk H
  clear H
  go_enter Tryz.func100, Tryz.ntmps100
  go_wp2
  go_loopg [6] k (fun kq v6 w' => ∃ (x6_1 : Int), v6 = .int .i64 x6_1 ∧ Aside0 (produce_isPrefix.l0 kq a0 (a0.size : Int) x6_1 = some r) ∧ Aside0 (kq ≤ k) ∧ Drawn0 w w')
  case atStart => exact ⟨(0), (by first | rfl | (simp; done) | (simp [*]; done)), H', ⟨Nat.le_refl _⟩, by repeat (first | exact Drawn0.refl _ | apply Drawn0.step)⟩
  case round =>
    clear H'
    try clear c1
    obtain ⟨x6_1, rfl, HA, HK1, ⟨m1, rfl⟩⟩ := hrel
    cases gk with
    | zero => exact absurd HA.out (by simp [produce_isPrefix.l0])
    | succ k1 =>
      have H := HA.out
      clear HA
      simp only [produce_isPrefix.l0] at H
      by_cases c2 : x6_1 < (a0.size : Int)
      · rw [if_pos c2] at H
        have c2b0 : decide (x6_1 < (a0.size : Int)) = true := decide_eq_true c2
        clear c2
        by_cases c3 : 0 ≤ x6_1
        · rw [if_pos c3] at H
          have c3b0 : decide (0 ≤ x6_1) = true := decide_eq_true c3
          clear c3
          by_cases c4 : x6_1 < (a0.size : Int)
          · rw [if_pos c4] at H
            have c4b0 : decide (x6_1 < (a0.size : Int)) = true := decide_eq_true c4
            clear c4
            by_cases c6 : (bt a0 x6_1) < 65
            · rw [if_pos c6] at H
              have c6b0 : decide ((bt a0 x6_1) < 65) = true := decide_eq_true c6
              clear c6
              obtain rfl := Option.some.inj H
              have p5 : 0 ≤ (x6_1 : Int) := of_decide_eq_true (by first | (with_reducible assumption) | assumption)
              have q5 : x6_1 < (a0.size : Int) := of_decide_eq_true (by first | (with_reducible assumption) | assumption)
              have hx5 := bt_at a0 x6_1
              replace p5 := eq_true p5
              replace q5 := eq_true q5
              go_wp2
              go_ret
              exact ⟨by first | rfl | (simp; done) | (simp [*]; done), by repeat (first | exact Drawn0.refl _ | apply Drawn0.step)⟩
            · rw [if_neg c6] at H
              have c6b0 : decide ((bt a0 x6_1) < 65) = false := decide_eq_false c6
              clear c6
              by_cases c8 : (bt a0 x6_1) > 90
              · rw [if_pos c8] at H
                have c8b0 : decide (90 < (bt a0 x6_1)) = true := decide_eq_true c8
                clear c8
                obtain rfl := Option.some.inj H
                have p5 : 0 ≤ (x6_1 : Int) := of_decide_eq_true (by first | (with_reducible assumption) | assumption)
                have q5 : x6_1 < (a0.size : Int) := of_decide_eq_true (by first | (with_reducible assumption) | assumption)
                have hx5 := bt_at a0 x6_1
                replace p5 := eq_true p5
                replace q5 := eq_true q5
                have p7 : 0 ≤ (x6_1 : Int) := of_decide_eq_true (by first | (with_reducible assumption) | assumption)
                have q7 : x6_1 < (a0.size : Int) := of_decide_eq_true (by first | (with_reducible assumption) | assumption)
                have hx7 := bt_at a0 x6_1
                replace p7 := eq_true p7
                replace q7 := eq_true q7
                go_wp2
                go_ret
                exact ⟨by first | rfl | (simp; done) | (simp [*]; done), by repeat (first | exact Drawn0.refl _ | apply Drawn0.step)⟩
              · rw [if_neg c8] at H
                have c8b0 : decide (90 < (bt a0 x6_1)) = false := decide_eq_false c8
                clear c8
                have H' := Aside0.mk H
                clear H
                have p5 : 0 ≤ (x6_1 : Int) := of_decide_eq_true (by first | (with_reducible assumption) | assumption)
                have q5 : x6_1 < (a0.size : Int) := of_decide_eq_true (by first | (with_reducible assumption) | assumption)
                have hx5 := bt_at a0 x6_1
                replace p5 := eq_true p5
                replace q5 := eq_true q5
                have p7 : 0 ≤ (x6_1 : Int) := of_decide_eq_true (by first | (with_reducible assumption) | assumption)
                have q7 : x6_1 < (a0.size : Int) := of_decide_eq_true (by first | (with_reducible assumption) | assumption)
                have hx7 := bt_at a0 x6_1
                replace p7 := eq_true p7
                replace q7 := eq_true q7
                go_wp2
                go_roundg k1
                case measure => have := HK1.out; omega
                case rel => exact ⟨(wrap64 (x6_1 + 1)), (by first | rfl | (simp; done) | (simp [*]; done)), H', ⟨by have := HK1.out; omega⟩, by repeat (first | exact Drawn0.refl _ | apply Drawn0.step)⟩
          · rw [if_neg c4] at H
            exact absurd H (by simp)
        · rw [if_neg c3] at H
          exact absurd H (by simp)
      · rw [if_neg c2] at H
        have c2b0 : decide (x6_1 < (a0.size : Int)) = false := decide_eq_false c2
        clear c2
        replace H := Option.bind_eq_some_iff.mp H
        obtain ⟨t249, A90, H⟩ := H
        replace H : (some t249) = some r := H
        have A9 := Aside0.mk A90
        clear A90
        obtain rfl := Option.some.inj H
        go_wp2_with (first | ((with_reducible refine gate_callee (f := 63) rfl ?_); refine goesL_ (some 22) rfl rfl Tryz.func63 (by kernel_rfl) rfl #[.int .i64 (a0.size : Int), .int .i64 1, .int .i64 8] rfl (by (try simp only [List.map_toArray, List.map_cons, List.map_nil]); first | done | rfl | (simp only [List.length_drop, List.length_take]; rfl)) ?_; (with_reducible refine (base_In.calls (a0.size : Int) 1 8 t249 _ A9.out).mono ?_); rintro e w' ⟨rfl, ⟨nd, rfl⟩⟩; refine ⟨_, rfl, ?_⟩))
        go_ret
        exact ⟨by first | rfl | (simp; done) | (simp [*]; done), by repeat (first | exact Drawn0.refl _ | apply Drawn0.step)⟩
def produce_headError.f (k : Nat) (a0 : ByteArray) (a1 : Int) : Option (Int) := (produce_isPrefix.f k a0).bind fun t250 => ((base_When.f (!t250) 3).bind fun t251 => ((base_In.f a1 4 9).bind fun t252 => ((base_When.f (!t252) 1).bind fun t253 => ((base_First.f k (([t251, t253] : List Int))).bind fun t257 => (some t257)))))
theorem produce_headError.mono : ∀ a0 a1 k, LeO (produce_headError.f k a0 a1) (produce_headError.f (k + 1) a0 a1) := by
  intro a0 a1 k
  unfold produce_headError.f
  repeat' first
      | (with_reducible exact base_First.mono _ _)
      | (with_reducible exact produce_isPrefix.mono _ _)
      | (with_reducible exact LeO.refl _)
      | (with_reducible exact LeO.none _)
      | (with_reducible refine LeO.ite ?_ ?_)
      | (with_reducible refine LeO.bind ?_ (fun _ => ?_))
      | exact base_First.mono _ _
      | exact produce_isPrefix.mono _ _
      | exact LeO.none _
      | refine LeO.ite ?_ ?_
      | refine LeO.bind ?_ (fun _ => ?_)
set_option maxHeartbeats 8000000 in
set_option maxRecDepth 100000 in
theorem produce_headError.calls (k : Nat) (a0 : ByteArray) (a1 : Int) (r : Int) (w : World) (h : produce_headError.f k a0 a1 = some r) :
    Calls Tryz.prog 62 #[.string a0, .int .i64 a1] w fun e w' => e = .returned (.int .i64 r) ∧ Below w.heap.size w w' := by
  have HB := Aside0.mk (Below.refl w.heap.size w)
  have H : ((produce_isPrefix.f k a0).bind fun t250 => ((base_When.f (!t250) 3).bind fun t251 => ((base_In.f a1 4 9).bind fun t252 => ((base_When.f (!t252) 1).bind fun t253 => ((base_First.f k (([t251, t253] : List Int))).bind fun t257 => (some t257)))))) = some r := h
  clear h
  replace H := Option.bind_eq_some_iff.mp H
  obtain ⟨t250, A30, H⟩ := H
  replace H : ((base_When.f (!t250) 3).bind fun t251 => ((base_In.f a1 4 9).bind fun t252 => ((base_When.f (!t252) 1).bind fun t253 => ((base_First.f k (([t251, t253] : List Int))).bind fun t257 => (some t257))))) = some r := H
  have A3 := Aside0.mk A30
  clear A30
  replace H := Option.bind_eq_some_iff.mp H
  obtain ⟨t251, A40, H⟩ := H
  replace H : ((base_In.f a1 4 9).bind fun t252 => ((base_When.f (!t252) 1).bind fun t253 => ((base_First.f k (([t251, t253] : List Int))).bind fun t257 => (some t257)))) = some r := H
  have A4 := Aside0.mk A40
  clear A40
  replace H := Option.bind_eq_some_iff.mp H
  obtain ⟨t252, A50, H⟩ := H
  replace H : ((base_When.f (!t252) 1).bind fun t253 => ((base_First.f k (([t251, t253] : List Int))).bind fun t257 => (some t257))) = some r := H
  have A5 := Aside0.mk A50
  clear A50
  replace H := Option.bind_eq_some_iff.mp H
  obtain ⟨t253, A60, H⟩ := H
  replace H : ((base_First.f k (([t251, t253] : List Int))).bind fun t257 => (some t257)) = some r := H
  have A6 := Aside0.mk A60
  clear A60
  obtain ⟨y254, hy254⟩ : ∃ y_ : List Int, y_ = (([t251, t253] : List Int)) := ⟨_, rfl⟩
  replace H : ((base_First.f k y254).bind fun t257 => (some t257)) = some r := by first | (rw [hy254]; with_reducible exact H) | (have H2_ := (Option.bind_some _ _).symm.trans H; rw [hy254]; with_reducible exact H2_) | (have H2_ := (Option.bind_some _ _).symm.trans H; with_reducible exact H2_) | with_reducible exact H | (rw [hy254]; exact H) | exact H
  have Ny254 := Aside0.mk hy254
  clear hy254
  replace H := Option.bind_eq_some_iff.mp H
  obtain ⟨t257, A70, H⟩ := H
  replace H : (some t257) = some r := H
  have A7 := Aside0.mk A70
  clear A70
  obtain rfl := Option.some.inj H
  go_enter Tryz.func62, Tryz.ntmps62
  go_wp2_with (first | ((with_reducible refine gate_callee (f := 100) rfl ?_); refine goesL_ (some 6) rfl rfl Tryz.func100 (by kernel_rfl) rfl #[.string a0] rfl (by (try simp only [List.map_toArray, List.map_cons, List.map_nil]); first | done | rfl | (simp only [List.length_drop, List.length_take]; rfl)) ?_; (with_reducible refine (produce_isPrefix.calls k a0 t250 _ A3.out).mono ?_); rintro e w' ⟨rfl, ⟨nd, rfl⟩⟩; refine ⟨_, rfl, ?_⟩) | ((with_reducible refine gate_callee (f := 55) rfl ?_); refine goesL_ (some 8) rfl rfl Tryz.func55 (by kernel_rfl) rfl #[.bool (!t250), .int .i64 3] rfl (by (try simp only [List.map_toArray, List.map_cons, List.map_nil]); first | done | rfl | (simp only [List.length_drop, List.length_take]; rfl)) ?_; (with_reducible refine (base_When.calls (!t250) 3 t251 _ A4.out).mono ?_); rintro e w' ⟨rfl, ⟨nd, rfl⟩⟩; refine ⟨_, rfl, ?_⟩) | ((with_reducible refine gate_callee (f := 63) rfl ?_); refine goesL_ (some 10) rfl rfl Tryz.func63 (by kernel_rfl) rfl #[.int .i64 a1, .int .i64 4, .int .i64 9] rfl (by (try simp only [List.map_toArray, List.map_cons, List.map_nil]); first | done | rfl | (simp only [List.length_drop, List.length_take]; rfl)) ?_; (with_reducible refine (base_In.calls a1 4 9 t252 _ A5.out).mono ?_); rintro e w' ⟨rfl, ⟨nd, rfl⟩⟩; refine ⟨_, rfl, ?_⟩) | ((with_reducible refine gate_callee (f := 55) rfl ?_); refine goesL_ (some 12) rfl rfl Tryz.func55 (by kernel_rfl) rfl #[.bool (!t252), .int .i64 1] rfl (by (try simp only [List.map_toArray, List.map_cons, List.map_nil]); first | done | rfl | (simp only [List.length_drop, List.length_take]; rfl)) ?_; (with_reducible refine (base_When.calls (!t252) 1 t253 _ A6.out).mono ?_); rintro e w' ⟨rfl, ⟨nd, rfl⟩⟩; refine ⟨_, rfl, ?_⟩) | ((with_reducible refine gate_dst (N := 13) rfl ?_); refine Kd.R_lit (Kd.int .i64) _ 28 ?hg (N := 13) ?hd (xs := ([t251, t253] : List Int)) (inner := [.int .i64 t251, .int .i64 t253]) (ok := fun _ => True) (okp := fun _ => True) ?hr ?hp (fun _ hk => hk) trivial (Below.refl _ _) (Nat.le_refl _) (by simp) ?_; (case hd => rfl); (case hg => rfl); (case hr => first | (go_simp; done) | (go_simp; rfl)); (case hp => exact (Reps.one (show Kd.M (Kd.int .i64) _ _ _ t251 [.int .i64 t251] from rfl) (Reps.one (show Kd.M (Kd.int .i64) _ _ _ t253 [.int .i64 t253] from rfl) (Reps.none _ _)))); intro v255 w8 ho9 hb hg_ hnew_; clear hg_ hnew_; (first | rw [← Ny254.out] at ho9 | (simp only [Int.reduceToNat] at ho9; rw [← Ny254.out] at ho9)); have n0_ := Aside0.mk (Kd.R_lower ho9 (below_size (by repeat (first | (with_reducible first | exact HB.out | apply below_alloc | apply pw_below_drewN | apply below_drew1) | exact HB.out)))); have n1_ := Aside0.mk (below_step (by repeat (first | (with_reducible first | exact HB.out | apply below_alloc | apply pw_below_drewN | apply below_drew1) | exact HB.out)) hb); clear HB; have HO256 := n0_; have HB := n1_; clear n0_ n1_; clear hb ho9; obtain ⟨Ao10, co10, eo10⟩ := Kd.R_slice HO256.out; subst eo10) | ((with_reducible refine gate_callee (f := 54) rfl ?_); refine goesL_ (some 14) rfl rfl Tryz.func54 (by kernel_rfl) rfl #[.slice Ao10 y254.length co10] rfl (by (try simp only [List.map_toArray, List.map_cons, List.map_nil]); first | done | rfl | (simp only [List.length_drop, List.length_take]; rfl)) ?_; (with_reducible refine (base_First.calls k _ _ y254 t257 _ ?side1 ?side2 A7.out).mono ?_); (case side1 => repeat (first | exact (Kd.R_reads' HO256.out).2.2 | (with_reducible refine Kd.C_alloc ?_ _) | (with_reducible refine Kd.C_drewN ?_ _) | (with_reducible refine Kd.C_drew ?_))); (case side2 => exact (Kd.R_reads' HO256.out).2.1); rintro e w' ⟨rfl, ⟨nd, rfl⟩⟩; refine ⟨_, rfl, ?_⟩))
  go_ret
  exact ⟨by first | rfl | (simp [errW_none, errW_some] <;> rfl) | (simp [*, errW_none, errW_some] <;> rfl), by repeat (first | (with_reducible first | exact HB.out | apply below_alloc | apply pw_below_drewN | apply below_drew1) | exact HB.out)⟩
def produce_power.l0 : Nat → Int → Int → Int → Option (Int)
  | 0, _, _, _ => none
  | k + 1, x3, x4, x5 => if x5 < x4 then (produce_power.l0 k (wrap64 (x3 * 10)) x4 (wrap64 (x5 + 1))) else (some x3)
def produce_power.f (k : Nat) (a0 : Int) : Option (Int) := produce_power.l0 k 1 a0 0
theorem produce_power.mono_l : ∀ k, (∀ y0 y1 y2, LeO (produce_power.l0 k y0 y1 y2) (produce_power.l0 (k + 1) y0 y1 y2))
  | 0 => fun _ _ _ r h => by simp [produce_power.l0] at h
  | k + 1 => by
    have ih0 := produce_power.mono_l k
    · intro y0 y1 y2
      unfold produce_power.l0
      repeat' first
      | (with_reducible exact ih0 _ _ _)
      | (with_reducible exact LeO.refl _)
      | (with_reducible exact LeO.none _)
      | (with_reducible refine LeO.ite ?_ ?_)
      | (with_reducible refine LeO.bind ?_ (fun _ => ?_))
      | exact ih0 _ _ _
      | exact LeO.none _
      | refine LeO.ite ?_ ?_
      | refine LeO.bind ?_ (fun _ => ?_)
theorem produce_power.mono : ∀ a0 k, LeO (produce_power.f k a0) (produce_power.f (k + 1) a0) := by
  intro a0 k
  have ih0 := produce_power.mono_l k
  unfold produce_power.f
  repeat' first
      | (with_reducible exact ih0 _ _ _)
      | (with_reducible exact LeO.refl _)
      | (with_reducible exact LeO.none _)
      | (with_reducible refine LeO.ite ?_ ?_)
      | (with_reducible refine LeO.bind ?_ (fun _ => ?_))
      | exact ih0 _ _ _
      | exact LeO.none _
      | refine LeO.ite ?_ ?_
      | refine LeO.bind ?_ (fun _ => ?_)
set_option maxHeartbeats 8000000 in
set_option maxRecDepth 100000 in
theorem produce_power.calls (k : Nat) (a0 : Int) (r : Int) (w : World) (h : produce_power.f k a0 = some r) :
    Calls Tryz.prog 64 #[.int .i64 a0] w fun e w' => e = .returned (.int .i64 r) ∧ Drawn0 w w' := by
  have H : (produce_power.l0 k 1 a0 0) = some r := h
  clear h
  have H' := Aside0.mk H
  clear H
  go_enter Tryz.func64, Tryz.ntmps64
  go_wp2
  go_loopg [3, 5] k (fun kq v3 v5 w' => ∃ (x3_1 : Int) (x5_1 : Int), v3 = .int .i64 x3_1 ∧ v5 = .int .i64 x5_1 ∧ Aside0 (produce_power.l0 kq x3_1 a0 x5_1 = some r) ∧ Aside0 (kq ≤ k) ∧ Drawn0 w w')
  case atStart => exact ⟨(1), (0), (by first | rfl | (simp; done) | (simp [*]; done)), (by first | rfl | (simp; done) | (simp [*]; done)), H', ⟨Nat.le_refl _⟩, by repeat (first | exact Drawn0.refl _ | apply Drawn0.step)⟩
  case round =>
    clear H'
    obtain ⟨x3_1, x5_1, rfl, rfl, HA, HK1, ⟨m1, rfl⟩⟩ := hrel
    cases gk with
    | zero => exact absurd HA.out (by simp [produce_power.l0])
    | succ k1 =>
      have H := HA.out
      clear HA
      simp only [produce_power.l0] at H
      by_cases c2 : x5_1 < a0
      · rw [if_pos c2] at H
        have c2b0 : decide (x5_1 < a0) = true := decide_eq_true c2
        clear c2
        have H' := Aside0.mk H
        clear H
        go_wp2
        go_roundg k1
        case measure => have := HK1.out; omega
        case rel => exact ⟨(wrap64 (x3_1 * 10)), (wrap64 (x5_1 + 1)), (by first | rfl | (simp; done) | (simp [*]; done)), (by first | rfl | (simp; done) | (simp [*]; done)), H', ⟨by have := HK1.out; omega⟩, by repeat (first | exact Drawn0.refl _ | apply Drawn0.step)⟩
      · rw [if_neg c2] at H
        have c2b0 : decide (x5_1 < a0) = false := decide_eq_false c2
        clear c2
        obtain rfl := Option.some.inj H
        go_wp2
        go_ret
        exact ⟨by first | rfl | (simp; done) | (simp [*]; done), by repeat (first | exact Drawn0.refl _ | apply Drawn0.step)⟩
def strconv_Itoa.f (a0 : Int) : Option (ByteArray) := if 0 ≤ a0 ∧ a0 < 100 then (some (⟨(Lib.decDigits a0.toNat).toArray⟩ : ByteArray)) else (none)
set_option maxHeartbeats 8000000 in
set_option maxRecDepth 100000 in
theorem strconv_Itoa.calls (a0 : Int) (r : ByteArray) (w : World) (h : strconv_Itoa.f a0 = some r) :
    Calls Tryz.prog 101 #[.int .i64 a0] w fun e w' => e = .returned (.string r) ∧ Drawn0 w w' := by
  unfold strconv_Itoa.f at h
  by_cases hs : 0 ≤ a0 ∧ a0 < 100
  · rw [if_pos hs] at h
    obtain rfl := Option.some.inj h
    obtain ⟨c, rfl⟩ := Int.eq_ofNat_of_zero_le hs.1
    refine (Tryz.strconv_Itoa_small c (by omega) w).mono ?_
    rintro e w' ⟨rfl, rfl⟩
    exact ⟨rfl, Drawn0.refl _⟩
  · rw [if_neg hs] at h
    exact absurd h (by simp)
def produce_written.f (a0 : ByteArray) (a1 : Int) (a2 : Int) : Option (ByteArray) := (strconv_Itoa.f a2).bind fun t258 => ((strings_Repeat.f (⟨#[48]⟩ : ByteArray) (mx 0 (wrap64 (a1 - (t258.size : Int))))).bind fun t259 => (if a0.size + t259.size ≤ 9223372036854775807 then (if (a0 ++ t259).size + t258.size ≤ 9223372036854775807 then (some ((a0 ++ t259) ++ t258)) else (none)) else (none)))
set_option maxHeartbeats 8000000 in
set_option maxRecDepth 100000 in
theorem produce_written.calls (a0 : ByteArray) (a1 : Int) (a2 : Int) (r : ByteArray) (w : World) (h : produce_written.f a0 a1 a2 = some r) :
    Calls Tryz.prog 65 #[.string a0, .int .i64 a1, .int .i64 a2] w fun e w' => e = .returned (.string r) ∧ Below w.heap.size w w' := by
  have HB := Aside0.mk (Below.refl w.heap.size w)
  have H : ((strconv_Itoa.f a2).bind fun t258 => ((strings_Repeat.f (⟨#[48]⟩ : ByteArray) (mx 0 (wrap64 (a1 - (t258.size : Int))))).bind fun t259 => (if a0.size + t259.size ≤ 9223372036854775807 then (if (a0 ++ t259).size + t258.size ≤ 9223372036854775807 then (some ((a0 ++ t259) ++ t258)) else (none)) else (none)))) = some r := h
  clear h
  replace H := Option.bind_eq_some_iff.mp H
  obtain ⟨t258, A40, H⟩ := H
  replace H : ((strings_Repeat.f (⟨#[48]⟩ : ByteArray) (mx 0 (wrap64 (a1 - (t258.size : Int))))).bind fun t259 => (if a0.size + t259.size ≤ 9223372036854775807 then (if (a0 ++ t259).size + t258.size ≤ 9223372036854775807 then (some ((a0 ++ t259) ++ t258)) else (none)) else (none))) = some r := H
  have A4 := Aside0.mk A40
  clear A40
  obtain ⟨ji5, hji5⟩ : ∃ j_ : Int, (mx 0 (wrap64 (a1 - (t258.size : Int)))) = j_ := ⟨_, rfl⟩
  replace H : ((strings_Repeat.f (⟨#[48]⟩ : ByteArray) (ji5)).bind fun t259 => (if a0.size + t259.size ≤ 9223372036854775807 then (if (a0 ++ t259).size + t258.size ≤ 9223372036854775807 then (some ((a0 ++ t259) ++ t258)) else (none)) else (none))) = some r := by first | (rw [hji5] at H; exact H) | (simp only [hji5] at H ⊢; exact H)
  (try rw [hji5] at A4)
  (try (have hji5l : 0 ≤ ji5 := by (rw [← hji5]; unfold mx; (repeat' split) <;> omega)))
  (try (have hji5m : 0 ≤ ji5 := by omega))
  have hji5_ : (if 0 < (wrap64 (a1 - (t258.size : Int))) then (wrap64 (a1 - (t258.size : Int))) else 0) = ji5 := hji5
  replace H := Option.bind_eq_some_iff.mp H
  obtain ⟨t259, A60, H⟩ := H
  replace H : (if a0.size + t259.size ≤ 9223372036854775807 then (if (a0 ++ t259).size + t258.size ≤ 9223372036854775807 then (some ((a0 ++ t259) ++ t258)) else (none)) else (none)) = some r := H
  have A6 := Aside0.mk A60
  clear A60
  by_cases c7 : a0.size + t259.size ≤ 9223372036854775807
  · rw [if_pos c7] at H
    have c7b0 := eq_true c7
    have c7b1 : decide (a0.size + t259.size ≤ 9223372036854775807) = true := decide_eq_true c7
    try have c7b2 : (9223372036854775807 < a0.size + t259.size) = False := eq_false (Nat.not_lt.2 c7)
    by_cases c8 : (a0 ++ t259).size + t258.size ≤ 9223372036854775807
    · rw [if_pos c8] at H
      have c8b0 := eq_true c8
      have c8b1 : decide ((a0 ++ t259).size + t258.size ≤ 9223372036854775807) = true := decide_eq_true c8
      try have c8b2 : (9223372036854775807 < (a0 ++ t259).size + t258.size) = False := eq_false (Nat.not_lt.2 c8)
      try (have c8b3 := c8b2; simp only [ByteArray.size_append', ByteArray.size_mk', List.size_toArray, List.length_cons, List.length_nil, Nat.zero_add, Nat.reduceAdd] at c8b3)
      obtain rfl := Option.some.inj H
      go_enter Tryz.func65, Tryz.ntmps65
      go_wp2_with (first | ((with_reducible refine gate_callee (f := 101) rfl ?_); refine goesL_ (some 9) rfl rfl Tryz.func101 (by kernel_rfl) rfl #[.int .i64 a2] rfl (by (try simp only [List.map_toArray, List.map_cons, List.map_nil]); first | done | rfl | (simp only [List.length_drop, List.length_take]; rfl)) ?_; (with_reducible refine (strconv_Itoa.calls a2 t258 _ A4.out).mono ?_); rintro e w' ⟨rfl, ⟨nd, rfl⟩⟩; refine ⟨_, rfl, ?_⟩) | ((with_reducible refine gate_callee (f := 25) rfl ?_); refine goesL_ (some 16) rfl rfl Tryz.func25 (by kernel_rfl) rfl #[.string (⟨#[48]⟩ : ByteArray), .int .i64 ji5] rfl (by (try simp only [List.map_toArray, List.map_cons, List.map_nil]); first | done | (simp only [hji5]; rfl) | rfl | (simp only [List.length_drop, List.length_take]; rfl)) ?_; (with_reducible refine (strings_Repeat.calls (⟨#[48]⟩ : ByteArray) ji5 t259 _ A6.out).mono ?_); rintro e w9 ⟨rfl, hb⟩; refine ⟨_, rfl, ?_⟩; have n0_ := Aside0.mk (below_step (by repeat (first | (with_reducible first | exact HB.out | apply below_alloc | apply pw_below_drewN | apply below_drew1) | exact HB.out)) hb); clear HB; have HB := n0_; clear n0_; (try clear hb); (try clear hb2); (try clear hk); (try clear hi)))
      go_ret
      exact ⟨by first | rfl | (simp [errW_none, errW_some] <;> rfl) | (simp only [← hji5]; first | rfl | (simp [errW_none, errW_some] <;> rfl)) | (simp [*, errW_none, errW_some] <;> rfl), by repeat (first | (with_reducible first | exact HB.out | apply below_alloc | apply pw_below_drewN | apply below_drew1) | exact HB.out)⟩
    · rw [if_neg c8] at H
      exact absurd H (by simp)
  · rw [if_neg c7] at H
    exact absurd H (by simp)
def produce_Number.f (k : Nat) (a0 : ByteArray) (a1 : Int) (a2 : Int) : Option (ByteArray × Int) := (produce_headError.f k a0 a1).bind fun t260 => (if t260 = 0 then ((produce_power.f k a1).bind fun t261 => ((base_In.f a2 1 (wrap64 (t261 - 1))).bind fun t262 => (if t262 = true then ((produce_written.f a0 a1 a2).bind fun t263 => (some (t263, 0))) else (some ((⟨#[]⟩ : ByteArray), 1))))) else (some ((⟨#[]⟩ : ByteArray), t260)))
theorem produce_Number.mono : ∀ a0 a1 a2 k, LeO (produce_Number.f k a0 a1 a2) (produce_Number.f (k + 1) a0 a1 a2) := by
  intro a0 a1 a2 k
  unfold produce_Number.f
  repeat' first
      | (with_reducible exact produce_headError.mono _ _ _)
      | (with_reducible exact produce_power.mono _ _)
      | (with_reducible exact LeO.refl _)
      | (with_reducible exact LeO.none _)
      | (with_reducible refine LeO.ite ?_ ?_)
      | (with_reducible refine LeO.bind ?_ (fun _ => ?_))
      | exact produce_headError.mono _ _ _
      | exact produce_power.mono _ _
      | exact LeO.none _
      | refine LeO.ite ?_ ?_
      | refine LeO.bind ?_ (fun _ => ?_)
set_option maxHeartbeats 8000000 in
set_option maxRecDepth 100000 in
theorem produce_Number.calls (k : Nat) (a0 : ByteArray) (a1 : Int) (a2 : Int) (r1 : ByteArray) (r2 : Int) (w : World) (h : produce_Number.f k a0 a1 a2 = some (r1, r2)) :
    Calls Tryz.prog 31 #[.string a0, .int .i64 a1, .int .i64 a2] w fun e w' => e = .returned (.tuple #[.string r1, .int .i64 r2]) ∧ Below w.heap.size w w' := by
  have HB := Aside0.mk (Below.refl w.heap.size w)
  have H : ((produce_headError.f k a0 a1).bind fun t260 => (if t260 = 0 then ((produce_power.f k a1).bind fun t261 => ((base_In.f a2 1 (wrap64 (t261 - 1))).bind fun t262 => (if t262 = true then ((produce_written.f a0 a1 a2).bind fun t263 => (some (t263, 0))) else (some ((⟨#[]⟩ : ByteArray), 1))))) else (some ((⟨#[]⟩ : ByteArray), t260)))) = some (r1, r2) := h
  clear h
  replace H := Option.bind_eq_some_iff.mp H
  obtain ⟨t260, A40, H⟩ := H
  replace H : (if t260 = 0 then ((produce_power.f k a1).bind fun t261 => ((base_In.f a2 1 (wrap64 (t261 - 1))).bind fun t262 => (if t262 = true then ((produce_written.f a0 a1 a2).bind fun t263 => (some (t263, 0))) else (some ((⟨#[]⟩ : ByteArray), 1))))) else (some ((⟨#[]⟩ : ByteArray), t260))) = some (r1, r2) := H
  have A4 := Aside0.mk A40
  clear A40
  by_cases c5 : t260 = 0
  · rw [if_pos c5] at H
    have c5b0 : (t260 == 0) = true := beq_iff_eq.mpr c5
    have c5b1 : (t260 != 0) = false := bne_eq_false_iff_eq.mpr c5
    clear c5
    replace H := Option.bind_eq_some_iff.mp H
    obtain ⟨t261, A60, H⟩ := H
    replace H : ((base_In.f a2 1 (wrap64 (t261 - 1))).bind fun t262 => (if t262 = true then ((produce_written.f a0 a1 a2).bind fun t263 => (some (t263, 0))) else (some ((⟨#[]⟩ : ByteArray), 1)))) = some (r1, r2) := H
    have A6 := Aside0.mk A60
    clear A60
    replace H := Option.bind_eq_some_iff.mp H
    obtain ⟨t262, A70, H⟩ := H
    replace H : (if t262 = true then ((produce_written.f a0 a1 a2).bind fun t263 => (some (t263, 0))) else (some ((⟨#[]⟩ : ByteArray), 1))) = some (r1, r2) := H
    have A7 := Aside0.mk A70
    clear A70
    by_cases c8 : t262 = true
    · subst c8
      have H1 : ((produce_written.f a0 a1 a2).bind fun t263 => (some (t263, 0))) = some (r1, r2) := by rw [if_pos rfl] at H; exact H
      clear H
      have H := H1
      clear H1
      replace H := Option.bind_eq_some_iff.mp H
      obtain ⟨t263, A90, H⟩ := H
      replace H : (some (t263, 0)) = some (r1, r2) := H
      have A9 := Aside0.mk A90
      clear A90
      simp only [Option.some.injEq, Prod.mk.injEq] at H
      obtain ⟨rfl, rfl⟩ := H
      go_enter Tryz.func31, Tryz.ntmps31
      go_wp2_with (first | ((with_reducible refine gate_callee (f := 62) rfl ?_); refine goesL_ (some 11) rfl rfl Tryz.func62 (by kernel_rfl) rfl #[.string a0, .int .i64 a1] rfl (by (try simp only [List.map_toArray, List.map_cons, List.map_nil]); first | done | rfl | (simp only [List.length_drop, List.length_take]; rfl)) ?_; (with_reducible refine (produce_headError.calls k a0 a1 t260 _ A4.out).mono ?_); rintro e w10 ⟨rfl, hb⟩; refine ⟨_, rfl, ?_⟩; have n0_ := Aside0.mk (below_step (by repeat (first | (with_reducible first | exact HB.out | apply below_alloc | apply pw_below_drewN | apply below_drew1) | exact HB.out)) hb); clear HB; have HB := n0_; clear n0_; (try clear hb); (try clear hb2); (try clear hk); (try clear hi)) | ((with_reducible refine gate_callee (f := 64) rfl ?_); refine goesL_ (some 17) rfl rfl Tryz.func64 (by kernel_rfl) rfl #[.int .i64 a1] rfl (by (try simp only [List.map_toArray, List.map_cons, List.map_nil]); first | done | rfl | (simp only [List.length_drop, List.length_take]; rfl)) ?_; (with_reducible refine (produce_power.calls k a1 t261 _ A6.out).mono ?_); rintro e w' ⟨rfl, ⟨nd, rfl⟩⟩; refine ⟨_, rfl, ?_⟩) | ((with_reducible refine gate_callee (f := 63) rfl ?_); refine goesL_ (some 19) rfl rfl Tryz.func63 (by kernel_rfl) rfl #[.int .i64 a2, .int .i64 1, .int .i64 (wrap64 (t261 - 1))] rfl (by (try simp only [List.map_toArray, List.map_cons, List.map_nil]); first | done | rfl | (simp only [List.length_drop, List.length_take]; rfl)) ?_; (with_reducible refine (base_In.calls a2 1 (wrap64 (t261 - 1)) true _ A7.out).mono ?_); rintro e w' ⟨rfl, ⟨nd, rfl⟩⟩; refine ⟨_, rfl, ?_⟩) | ((with_reducible refine gate_callee (f := 65) rfl ?_); refine goesL_ (some 24) rfl rfl Tryz.func65 (by kernel_rfl) rfl #[.string a0, .int .i64 a1, .int .i64 a2] rfl (by (try simp only [List.map_toArray, List.map_cons, List.map_nil]); first | done | rfl | (simp only [List.length_drop, List.length_take]; rfl)) ?_; (with_reducible refine (produce_written.calls a0 a1 a2 t263 _ A9.out).mono ?_); rintro e w11 ⟨rfl, hb⟩; refine ⟨_, rfl, ?_⟩; have n0_ := Aside0.mk (below_step (by repeat (first | (with_reducible first | exact HB.out | apply below_alloc | apply pw_below_drewN | apply below_drew1) | exact HB.out)) hb); clear HB; have HB := n0_; clear n0_; (try clear hb); (try clear hb2); (try clear hk); (try clear hi)))
      go_ret2
      exact ⟨by first | rfl | (simp [errW_none, errW_some] <;> rfl) | (simp [*, errW_none, errW_some] <;> rfl), by repeat (first | (with_reducible first | exact HB.out | apply below_alloc | apply pw_below_drewN | apply below_drew1) | exact HB.out)⟩
    · replace c8 := Bool.eq_false_iff.mpr c8
      subst c8
      have H1 : (some ((⟨#[]⟩ : ByteArray), 1)) = some (r1, r2) := by rw [if_neg (show ¬ (false = true) by decide)] at H; exact H
      clear H
      have H := H1
      clear H1
      simp only [Option.some.injEq, Prod.mk.injEq] at H
      obtain ⟨rfl, rfl⟩ := H
      go_enter Tryz.func31, Tryz.ntmps31
      go_wp2_with (first | ((with_reducible refine gate_callee (f := 62) rfl ?_); refine goesL_ (some 11) rfl rfl Tryz.func62 (by kernel_rfl) rfl #[.string a0, .int .i64 a1] rfl (by (try simp only [List.map_toArray, List.map_cons, List.map_nil]); first | done | rfl | (simp only [List.length_drop, List.length_take]; rfl)) ?_; (with_reducible refine (produce_headError.calls k a0 a1 t260 _ A4.out).mono ?_); rintro e w12 ⟨rfl, hb⟩; refine ⟨_, rfl, ?_⟩; have n0_ := Aside0.mk (below_step (by repeat (first | (with_reducible first | exact HB.out | apply below_alloc | apply pw_below_drewN | apply below_drew1) | exact HB.out)) hb); clear HB; have HB := n0_; clear n0_; (try clear hb); (try clear hb2); (try clear hk); (try clear hi)) | ((with_reducible refine gate_callee (f := 64) rfl ?_); refine goesL_ (some 17) rfl rfl Tryz.func64 (by kernel_rfl) rfl #[.int .i64 a1] rfl (by (try simp only [List.map_toArray, List.map_cons, List.map_nil]); first | done | rfl | (simp only [List.length_drop, List.length_take]; rfl)) ?_; (with_reducible refine (produce_power.calls k a1 t261 _ A6.out).mono ?_); rintro e w' ⟨rfl, ⟨nd, rfl⟩⟩; refine ⟨_, rfl, ?_⟩) | ((with_reducible refine gate_callee (f := 63) rfl ?_); refine goesL_ (some 19) rfl rfl Tryz.func63 (by kernel_rfl) rfl #[.int .i64 a2, .int .i64 1, .int .i64 (wrap64 (t261 - 1))] rfl (by (try simp only [List.map_toArray, List.map_cons, List.map_nil]); first | done | rfl | (simp only [List.length_drop, List.length_take]; rfl)) ?_; (with_reducible refine (base_In.calls a2 1 (wrap64 (t261 - 1)) false _ A7.out).mono ?_); rintro e w' ⟨rfl, ⟨nd, rfl⟩⟩; refine ⟨_, rfl, ?_⟩))
      go_ret2
      exact ⟨by first | rfl | (simp [errW_none, errW_some] <;> rfl) | (simp [*, errW_none, errW_some] <;> rfl), by repeat (first | (with_reducible first | exact HB.out | apply below_alloc | apply pw_below_drewN | apply below_drew1) | exact HB.out)⟩
  · rw [if_neg c5] at H
    have c5b0 : (t260 == 0) = false := beq_eq_false_iff_ne.mpr c5
    have c5b1 : (t260 != 0) = true := bne_iff_ne.mpr c5
    simp only [Option.some.injEq, Prod.mk.injEq] at H
    obtain ⟨rfl, rfl⟩ := H
    go_enter Tryz.func31, Tryz.ntmps31
    go_wp2_with (first | ((with_reducible refine gate_callee (f := 62) rfl ?_); refine goesL_ (some 11) rfl rfl Tryz.func62 (by kernel_rfl) rfl #[.string a0, .int .i64 a1] rfl (by (try simp only [List.map_toArray, List.map_cons, List.map_nil]); first | done | rfl | (simp only [List.length_drop, List.length_take]; rfl)) ?_; (with_reducible refine (produce_headError.calls k a0 a1 t260 _ A4.out).mono ?_); rintro e w13 ⟨rfl, hb⟩; refine ⟨_, rfl, ?_⟩; have n0_ := Aside0.mk (below_step (by repeat (first | (with_reducible first | exact HB.out | apply below_alloc | apply pw_below_drewN | apply below_drew1) | exact HB.out)) hb); clear HB; have HB := n0_; clear n0_; (try clear hb); (try clear hb2); (try clear hk); (try clear hi)))
    go_ret2
    exact ⟨by first | rfl | (simp [errW_none, errW_some] <;> rfl) | (simp [*, errW_none, errW_some] <;> rfl), by repeat (first | (with_reducible first | exact HB.out | apply below_alloc | apply pw_below_drewN | apply below_drew1) | exact HB.out)⟩
def chaselaw1_produces.f (k : Nat)  : Option (Bool) := (produce_Number.f k (⟨#[65, 66]⟩ : ByteArray) 4 7).bind fun bt264 => (if bt264.2 = 0 then (some (bt264.1.toList == ([65, 66, 48, 48, 48, 55] : List UInt8))) else (some false))
theorem chaselaw1_produces.mono : ∀ k, LeO (chaselaw1_produces.f k ) (chaselaw1_produces.f (k + 1) ) := by
  intro  k
  unfold chaselaw1_produces.f
  repeat' first
      | (with_reducible exact produce_Number.mono _ _ _ _)
      | (with_reducible exact LeO.refl _)
      | (with_reducible exact LeO.none _)
      | (with_reducible refine LeO.ite ?_ ?_)
      | (with_reducible refine LeO.bind ?_ (fun _ => ?_))
      | exact produce_Number.mono _ _ _ _
      | exact LeO.none _
      | refine LeO.ite ?_ ?_
      | refine LeO.bind ?_ (fun _ => ?_)
set_option maxHeartbeats 8000000 in
set_option maxRecDepth 100000 in
theorem chaselaw1_produces.calls (k : Nat)  (r : Bool) (w : World) (h : chaselaw1_produces.f k  = some r) :
    Calls Tryz.prog 9 #[] w fun e w' => e = .returned (.bool r) ∧ Below w.heap.size w w' := by
  have HB := Aside0.mk (Below.refl w.heap.size w)
  have H : ((produce_Number.f k (⟨#[65, 66]⟩ : ByteArray) 4 7).bind fun bt264 => (if bt264.2 = 0 then (some (bt264.1.toList == ([65, 66, 48, 48, 48, 55] : List UInt8))) else (some false))) = some r := h
  clear h
  replace H := Option.bind_eq_some_iff.mp H
  obtain ⟨⟨t264, t265⟩, A10, H⟩ := H
  replace H : (if t265 = 0 then (some (t264.toList == ([65, 66, 48, 48, 48, 55] : List UInt8))) else (some false)) = some r := H
  have A1 := Aside0.mk A10
  clear A10
  by_cases c2 : t265 = 0
  · rw [if_pos c2] at H
    have c2b0 : (t265 == 0) = true := beq_iff_eq.mpr c2
    have c2b1 : (t265 != 0) = false := bne_eq_false_iff_eq.mpr c2
    clear c2
    obtain rfl := Option.some.inj H
    go_enter Tryz.func9, Tryz.ntmps9
    go_wp2_with (first | ((with_reducible refine gate_callee (f := 31) rfl ?_); refine goesL_ (some 4) rfl rfl Tryz.func31 (by kernel_rfl) rfl #[.string (⟨#[65, 66]⟩ : ByteArray), .int .i64 4, .int .i64 7] rfl (by (try simp only [List.map_toArray, List.map_cons, List.map_nil]); first | done | rfl | (simp only [List.length_drop, List.length_take]; rfl)) ?_; (with_reducible refine (produce_Number.calls k (⟨#[65, 66]⟩ : ByteArray) 4 7 t264 t265 _ A1.out).mono ?_); rintro e w3 ⟨rfl, hb⟩; refine ⟨_, rfl, ?_⟩; have n0_ := Aside0.mk (below_step (by repeat (first | (with_reducible first | exact HB.out | apply below_alloc | apply pw_below_drewN | apply below_drew1) | exact HB.out)) hb); clear HB; have HB := n0_; clear n0_; (try clear hb); (try clear hb2); (try clear hk); (try clear hi)))
    go_ret
    exact ⟨by first | rfl | (simp [errW_none, errW_some] <;> rfl) | (simp [*, errW_none, errW_some] <;> rfl), by repeat (first | (with_reducible first | exact HB.out | apply below_alloc | apply pw_below_drewN | apply below_drew1) | exact HB.out)⟩
  · rw [if_neg c2] at H
    have c2b0 : (t265 == 0) = false := beq_eq_false_iff_ne.mpr c2
    have c2b1 : (t265 != 0) = true := bne_iff_ne.mpr c2
    obtain rfl := Option.some.inj H
    go_enter Tryz.func9, Tryz.ntmps9
    go_wp2_with (first | ((with_reducible refine gate_callee (f := 31) rfl ?_); refine goesL_ (some 4) rfl rfl Tryz.func31 (by kernel_rfl) rfl #[.string (⟨#[65, 66]⟩ : ByteArray), .int .i64 4, .int .i64 7] rfl (by (try simp only [List.map_toArray, List.map_cons, List.map_nil]); first | done | rfl | (simp only [List.length_drop, List.length_take]; rfl)) ?_; (with_reducible refine (produce_Number.calls k (⟨#[65, 66]⟩ : ByteArray) 4 7 t264 t265 _ A1.out).mono ?_); rintro e w4 ⟨rfl, hb⟩; refine ⟨_, rfl, ?_⟩; have n0_ := Aside0.mk (below_step (by repeat (first | (with_reducible first | exact HB.out | apply below_alloc | apply pw_below_drewN | apply below_drew1) | exact HB.out)) hb); clear HB; have HB := n0_; clear n0_; (try clear hb); (try clear hb2); (try clear hk); (try clear hi)))
    go_ret
    exact ⟨by first | rfl | (simp [errW_none, errW_some] <;> rfl) | (simp [*, errW_none, errW_some] <;> rfl), by repeat (first | (with_reducible first | exact HB.out | apply below_alloc | apply pw_below_drewN | apply below_drew1) | exact HB.out)⟩
end Go.Proofs.YtffaggbephnmkaaGreatDoor.Pg
