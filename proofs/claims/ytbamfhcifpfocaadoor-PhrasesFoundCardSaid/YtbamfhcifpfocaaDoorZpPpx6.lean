/- Part of the proof that the law phrasesFound is true for every input. No conditions. Laid by a program of this session over the kit's print and words; declarations that nothing names are left out. -/
import Derived.Test.YtbamfhcifpfocaaDoorZpPpx0
import Derived.Test.YtbamfhcifpfocaaDoorZpPpx5
namespace Go.Proofs.YtbamfhcifpfocaaDoor.Pp
open Go.RowKit Go.Proofs.YtbamfhcifpfocaaDoor.GBase Go.Proofs.YtbamfhcifpfocaaDoorW.PrintWords Go.Proofs.YtbamfhcifpfocaaDoorW.PrintLast Go.Proofs.YtbamfhcifpfocaaDoorW.PrintMore
attribute [local go_sem] str_leq max2_int min2_int max_two min_two max_three min_three max_four min_four
set_option linter.unusedVariables false
set_option linter.unusedSimpArgs false
mutual
def chasemake_Stream_Memo.l0 : Nat → ByteArray → Int → Int → List Int → Int → Option (ByteArray × Int)
  | 0, _, _, _, _, _ => none
  | k + 1, x3, x5, x6, x1000, x1001 => if x6 < x5 then ((chasemake_Stream_h06one.f x1000 x1001 (([(⟨#[109, 101, 109, 111]⟩ : ByteArray), (⟨#[77, 101, 109, 111]⟩ : ByteArray), (⟨#[109, 101, 109, 111, 115]⟩ : ByteArray), (⟨#[115, 101, 101, 32, 116, 104, 101]⟩ : ByteArray), (⟨#[195, 169, 116, 195, 169]⟩ : ByteArray), (⟨#[115, 101, 99, 114, 101, 116]⟩ : ByteArray), (⟨#[83, 69, 67, 82, 69, 84, 32, 112, 108, 97, 110]⟩ : ByteArray), (⟨#[97]⟩ : ByteArray), (⟨#[120, 45, 121]⟩ : ByteArray), (⟨#[51, 114, 100]⟩ : ByteArray)] : List ByteArray))).bind fun bt188 => ((chasemake_Stream_h06one.f x1000 bt188.2 (([(⟨#[32]⟩ : ByteArray), (⟨#[32]⟩ : ByteArray), (⟨#[10]⟩ : ByteArray), (⟨#[44, 32]⟩ : ByteArray), (⟨#[]⟩ : ByteArray)] : List ByteArray))).bind fun bt193 => (if bt188.1.size + bt193.1.size ≤ 9223372036854775807 then (if x3.size + (bt188.1 ++ bt193.1).size ≤ 9223372036854775807 then (chasemake_Stream_Memo.l0 k (x3 ++ (bt188.1 ++ bt193.1)) x5 (wrap64 (x6 + 1)) x1000 bt193.2) else (none)) else (none)))) else (if x3.toList = ([] : List UInt8) then (chasemake_Stream_Memo.j1 k x3 false x1000 x1001) else ((chasemake_Stream_Flip.f x1000 x1001 12).bind fun bt195 => (chasemake_Stream_Memo.j1 k x3 (!bt195.1) x1000 bt195.2)))
def chasemake_Stream_Memo.j1 : Nat → ByteArray → Bool → List Int → Int → Option (ByteArray × Int)
  | 0, _, _, _, _ => none
  | k + 1, x3, x24, x1000, x1001 => if x24 = true then (if x3.size + 1 ≤ 9223372036854775807 then (chasemake_Stream_Memo.j2 k (x3 ++ (⟨#[10]⟩ : ByteArray)) x1000 x1001) else (none)) else (chasemake_Stream_Memo.j2 k x3 x1000 x1001)
def chasemake_Stream_Memo.j2 : Nat → ByteArray → List Int → Int → Option (ByteArray × Int)
  | 0, _, _, _ => none
  | k + 1, x3, x1000, x1001 => (chasemake_Stream_Flip.f x1000 x1001 20).bind fun bt197 => (if bt197.1 = true then ((strings_Repeat.f (⟨#[109]⟩ : ByteArray) 20000).bind fun t199 => (if t199.size + 1 ≤ 9223372036854775807 then ((chasemake_Stream_h06one.f x1000 bt197.2 (([(⟨#[97, 9, 98, 10]⟩ : ByteArray), (⟨#[255, 10]⟩ : ByteArray), t199 ++ (⟨#[10]⟩ : ByteArray)] : List ByteArray))).bind fun bt203 => (some (bt203.1, bt203.2))) else (none))) else (some (x3, bt197.2)))
end
def chasemake_Stream_Memo.f (k : Nat) (s0_0 : List Int) (s0_1 : Int) : Option (ByteArray × Int) := (chasemake_Stream_Next.f s0_0 s0_1 10).bind fun bt183 => (chasemake_Stream_Memo.l0 k (⟨#[]⟩ : ByteArray) bt183.1 0 s0_0 bt183.2)
theorem chasemake_Stream_Memo.mono_l : ∀ k, (∀ y0 y1 y2 y3 y4, LeO (chasemake_Stream_Memo.l0 k y0 y1 y2 y3 y4) (chasemake_Stream_Memo.l0 (k + 1) y0 y1 y2 y3 y4)) ∧ (∀ y0 y1 y2 y3, LeO (chasemake_Stream_Memo.j1 k y0 y1 y2 y3) (chasemake_Stream_Memo.j1 (k + 1) y0 y1 y2 y3)) ∧ (∀ y0 y1 y2, LeO (chasemake_Stream_Memo.j2 k y0 y1 y2) (chasemake_Stream_Memo.j2 (k + 1) y0 y1 y2))
  | 0 => ⟨fun _ _ _ _ _ r h => by simp [chasemake_Stream_Memo.l0] at h, fun _ _ _ _ r h => by simp [chasemake_Stream_Memo.j1] at h, fun _ _ _ r h => by simp [chasemake_Stream_Memo.j2] at h⟩
  | k + 1 => by
    obtain ⟨ih0, ih1, ih2⟩ := chasemake_Stream_Memo.mono_l k
    refine ⟨?_, ?_, ?_⟩
    · intro y0 y1 y2 y3 y4
      unfold chasemake_Stream_Memo.l0
      repeat' first
      | (with_reducible exact ih0 _ _ _ _ _)
      | (with_reducible exact ih1 _ _ _ _)
      | (with_reducible exact ih2 _ _ _)
      | (with_reducible exact LeO.refl _)
      | (with_reducible exact LeO.none _)
      | (with_reducible refine LeO.ite ?_ ?_)
      | (with_reducible refine LeO.bind ?_ (fun _ => ?_))
      | exact ih0 _ _ _ _ _
      | exact ih1 _ _ _ _
      | exact ih2 _ _ _
      | exact LeO.none _
      | refine LeO.ite ?_ ?_
      | refine LeO.bind ?_ (fun _ => ?_)
    · intro y0 y1 y2 y3
      unfold chasemake_Stream_Memo.j1
      repeat' first
      | (with_reducible exact ih0 _ _ _ _ _)
      | (with_reducible exact ih1 _ _ _ _)
      | (with_reducible exact ih2 _ _ _)
      | (with_reducible exact LeO.refl _)
      | (with_reducible exact LeO.none _)
      | (with_reducible refine LeO.ite ?_ ?_)
      | (with_reducible refine LeO.bind ?_ (fun _ => ?_))
      | exact ih0 _ _ _ _ _
      | exact ih1 _ _ _ _
      | exact ih2 _ _ _
      | exact LeO.none _
      | refine LeO.ite ?_ ?_
      | refine LeO.bind ?_ (fun _ => ?_)
    · intro y0 y1 y2
      unfold chasemake_Stream_Memo.j2
      repeat' first
      | (with_reducible exact ih0 _ _ _ _ _)
      | (with_reducible exact ih1 _ _ _ _)
      | (with_reducible exact ih2 _ _ _)
      | (with_reducible exact LeO.refl _)
      | (with_reducible exact LeO.none _)
      | (with_reducible refine LeO.ite ?_ ?_)
      | (with_reducible refine LeO.bind ?_ (fun _ => ?_))
      | exact ih0 _ _ _ _ _
      | exact ih1 _ _ _ _
      | exact ih2 _ _ _
      | exact LeO.none _
      | refine LeO.ite ?_ ?_
      | refine LeO.bind ?_ (fun _ => ?_)
theorem chasemake_Stream_Memo.mono : ∀ a0 a1 k, LeO (chasemake_Stream_Memo.f k a0 a1) (chasemake_Stream_Memo.f (k + 1) a0 a1) := by
  intro a0 a1 k
  obtain ⟨ih0, ih1, ih2⟩ := chasemake_Stream_Memo.mono_l k
  unfold chasemake_Stream_Memo.f
  repeat' first
      | (with_reducible exact ih0 _ _ _ _ _)
      | (with_reducible exact ih1 _ _ _ _)
      | (with_reducible exact ih2 _ _ _)
      | (with_reducible exact LeO.refl _)
      | (with_reducible exact LeO.none _)
      | (with_reducible refine LeO.ite ?_ ?_)
      | (with_reducible refine LeO.bind ?_ (fun _ => ?_))
      | exact ih0 _ _ _ _ _
      | exact ih1 _ _ _ _
      | exact ih2 _ _ _
      | exact LeO.none _
      | refine LeO.ite ?_ ?_
      | refine LeO.bind ?_ (fun _ => ?_)
set_option maxHeartbeats 8000000 in
set_option maxRecDepth 100000 in
theorem chasemake_Stream_Memo.calls (k : Nat) (g : Nat) (s0_0 : List Int) (s0_1 : Int) (r1 : ByteArray) (r2 : Int) (w0 w : World) (hI : IsS25 w0 w g s0_0 s0_1) (hB : Below w0.heap.size w0 w) (h : chasemake_Stream_Memo.f k s0_0 s0_1 = some (r1, r2)) :
    Calls Tryd.prog 28 #[.pointer (some ⟨g, 0, none⟩)] w fun e w' => e = .returned (.string r1) ∧ IsS25 w0 w' g s0_0 r2 ∧ Below w0.heap.size w0 w' ∧ KeepBut w w' g none := by
  have HI0 := Aside0.mk hI
  have HK := Aside0.mk (KeepBut.refl w g none)
  have HL := Aside0.mk hB.size
  clear hI
  have HW0 := Aside0.mk hB.size
  have HB := Aside0.mk hB
  clear hB
  have H : ((chasemake_Stream_Next.f s0_0 s0_1 10).bind fun bt183 => (chasemake_Stream_Memo.l0 k (⟨#[]⟩ : ByteArray) bt183.1 0 s0_0 bt183.2)) = some (r1, r2) := h
  clear h
  replace H := Option.bind_eq_some_iff.mp H
  obtain ⟨⟨t183, t184⟩, A20, H⟩ := H
  replace H : (chasemake_Stream_Memo.l0 k (⟨#[]⟩ : ByteArray) t183 0 s0_0 t184) = some (r1, r2) := H
  have A2 := Aside0.mk A20
  clear A20
  have H' := Aside0.mk H
  clear H
  go_enter Tryd.func28, Tryd.ntmps28
  go_wp2_with (first | ((with_reducible refine gate_callee (f := 45) rfl ?_); refine goesL_ (some 5) rfl rfl Tryd.func45 (by kernel_rfl) rfl #[.pointer (some ⟨g, 0, none⟩), .int .i64 10] rfl (by (try simp only [List.map_toArray, List.map_cons, List.map_nil]); first | done | rfl | (simp only [List.length_drop, List.length_take]; rfl)) ?_; (with_reducible refine (chasemake_Stream_Next.calls g s0_0 s0_1 10 t183 t184 w0 _ ?side1 ?side2 A2.out).mono ?_); (case side1 => repeat (first | (with_reducible first | exact HI0.out | apply IsS25.alloc | apply IsS25.drewN | apply IsS25.drew | apply IsS25.set_1) | exact HI0.out)); (case side2 => repeat (first | (with_reducible first | exact HB.out | apply below_alloc | apply pw_below_drewN | apply below_drew1 | refine below_set ?_ (IsS25.ge HI0.out)) | exact HB.out)); rintro e w3 ⟨rfl, hi, hb, hk⟩; refine ⟨_, rfl, ?_⟩; have n0_ := Aside0.mk (KeepBut.trans (by repeat (first | (with_reducible first | exact HK.out | apply KeepBut.set_ | apply keep_drewN | apply keep_drew | apply keep_alloc) | exact HK.out)) hk (.inl rfl)); have n1_ := Aside0.mk (hb); have n2_ := Aside0.mk (hi); clear HK; clear HB; clear HI0; have HK := n0_; have HB := n1_; have HI0 := n2_; clear n0_ n1_ n2_; (try clear hb); (try clear hb2); (try clear hk); (try clear hi)))
  go_loopg [3, 6] k (fun kq v3 v6 w' => ∃ (x3_1 : ByteArray) (x6_1 : Int) (x1001_1 : Int), v3 = .string x3_1 ∧ v6 = .int .i64 x6_1 ∧ Aside0 (chasemake_Stream_Memo.l0 kq x3_1 t183 x6_1 s0_0 x1001_1 = some (r1, r2)) ∧ Aside0 (kq ≤ k) ∧ Aside0 (IsS25 w0 w' g s0_0 x1001_1) ∧ Aside0 (KeepBut w w' g none) ∧ Aside0 (Below w0.heap.size w0 w'))
  case atStart => exact ⟨((⟨#[]⟩ : ByteArray)), (0), (t184), (by first | rfl | (simp; done) | (simp [*]; done)), (by first | rfl | (simp; done) | (simp [*]; done)), H', ⟨Nat.le_refl _⟩, ⟨by repeat (first | (with_reducible first | exact HI0.out | apply IsS25.alloc | apply IsS25.drewN | apply IsS25.drew | apply IsS25.set_1) | exact HI0.out)⟩, ⟨by repeat (first | (with_reducible first | exact HK.out | apply KeepBut.set_ | apply keep_drewN | apply keep_drew | apply keep_alloc) | exact HK.out)⟩, ⟨by repeat (first | (with_reducible first | exact HB.out | apply below_alloc | apply pw_below_drewN | apply below_drew1 | refine below_set ?_ (IsS25.ge HI0.out)) | exact HB.out)⟩⟩
  case round =>
    clear H'
    try clear c2
    try clear p2
    obtain ⟨x3_1, x6_1, x1001_1, rfl, rfl, HA, HK1, HI0, HK, HB⟩ := hrel
    cases gk with
    | zero => exact absurd HA.out (by simp [chasemake_Stream_Memo.l0])
    | succ k1 =>
      have H := HA.out
      clear HA
      simp only [chasemake_Stream_Memo.l0] at H
      by_cases c4 : x6_1 < t183
      · rw [if_pos c4] at H
        have c4b0 : decide (x6_1 < t183) = true := decide_eq_true c4
        clear c4
        obtain ⟨y185, hy185⟩ : ∃ y_ : List ByteArray, y_ = (([(⟨#[109, 101, 109, 111]⟩ : ByteArray), (⟨#[77, 101, 109, 111]⟩ : ByteArray), (⟨#[109, 101, 109, 111, 115]⟩ : ByteArray), (⟨#[115, 101, 101, 32, 116, 104, 101]⟩ : ByteArray), (⟨#[195, 169, 116, 195, 169]⟩ : ByteArray), (⟨#[115, 101, 99, 114, 101, 116]⟩ : ByteArray), (⟨#[83, 69, 67, 82, 69, 84, 32, 112, 108, 97, 110]⟩ : ByteArray), (⟨#[97]⟩ : ByteArray), (⟨#[120, 45, 121]⟩ : ByteArray), (⟨#[51, 114, 100]⟩ : ByteArray)] : List ByteArray)) := ⟨_, rfl⟩
        replace H : ((chasemake_Stream_h06one.f s0_0 x1001_1 y185).bind fun bt188 => ((chasemake_Stream_h06one.f s0_0 bt188.2 (([(⟨#[32]⟩ : ByteArray), (⟨#[32]⟩ : ByteArray), (⟨#[10]⟩ : ByteArray), (⟨#[44, 32]⟩ : ByteArray), (⟨#[]⟩ : ByteArray)] : List ByteArray))).bind fun bt193 => (if bt188.1.size + bt193.1.size ≤ 9223372036854775807 then (if x3_1.size + (bt188.1 ++ bt193.1).size ≤ 9223372036854775807 then (chasemake_Stream_Memo.l0 k1 (x3_1 ++ (bt188.1 ++ bt193.1)) t183 (wrap64 (x6_1 + 1)) s0_0 bt193.2) else (none)) else (none)))) = some (r1, r2) := by first | (rw [hy185]; with_reducible exact H) | (have H2_ := (Option.bind_some _ _).symm.trans H; rw [hy185]; with_reducible exact H2_) | (have H2_ := (Option.bind_some _ _).symm.trans H; with_reducible exact H2_) | with_reducible exact H | (rw [hy185]; exact H) | exact H
        have Ny185 := Aside0.mk hy185
        clear hy185
        replace H := Option.bind_eq_some_iff.mp H
        obtain ⟨⟨t188, t189⟩, A50, H⟩ := H
        replace H : ((chasemake_Stream_h06one.f s0_0 t189 (([(⟨#[32]⟩ : ByteArray), (⟨#[32]⟩ : ByteArray), (⟨#[10]⟩ : ByteArray), (⟨#[44, 32]⟩ : ByteArray), (⟨#[]⟩ : ByteArray)] : List ByteArray))).bind fun bt193 => (if t188.size + bt193.1.size ≤ 9223372036854775807 then (if x3_1.size + (t188 ++ bt193.1).size ≤ 9223372036854775807 then (chasemake_Stream_Memo.l0 k1 (x3_1 ++ (t188 ++ bt193.1)) t183 (wrap64 (x6_1 + 1)) s0_0 bt193.2) else (none)) else (none))) = some (r1, r2) := H
        have A5 := Aside0.mk A50
        clear A50
        obtain ⟨y190, hy190⟩ : ∃ y_ : List ByteArray, y_ = (([(⟨#[32]⟩ : ByteArray), (⟨#[32]⟩ : ByteArray), (⟨#[10]⟩ : ByteArray), (⟨#[44, 32]⟩ : ByteArray), (⟨#[]⟩ : ByteArray)] : List ByteArray)) := ⟨_, rfl⟩
        replace H : ((chasemake_Stream_h06one.f s0_0 t189 y190).bind fun bt193 => (if t188.size + bt193.1.size ≤ 9223372036854775807 then (if x3_1.size + (t188 ++ bt193.1).size ≤ 9223372036854775807 then (chasemake_Stream_Memo.l0 k1 (x3_1 ++ (t188 ++ bt193.1)) t183 (wrap64 (x6_1 + 1)) s0_0 bt193.2) else (none)) else (none))) = some (r1, r2) := by first | (rw [hy190]; with_reducible exact H) | (have H2_ := (Option.bind_some _ _).symm.trans H; rw [hy190]; with_reducible exact H2_) | (have H2_ := (Option.bind_some _ _).symm.trans H; with_reducible exact H2_) | with_reducible exact H | (rw [hy190]; exact H) | exact H
        have Ny190 := Aside0.mk hy190
        clear hy190
        replace H := Option.bind_eq_some_iff.mp H
        obtain ⟨⟨t193, t194⟩, A60, H⟩ := H
        replace H : (if t188.size + t193.size ≤ 9223372036854775807 then (if x3_1.size + (t188 ++ t193).size ≤ 9223372036854775807 then (chasemake_Stream_Memo.l0 k1 (x3_1 ++ (t188 ++ t193)) t183 (wrap64 (x6_1 + 1)) s0_0 t194) else (none)) else (none)) = some (r1, r2) := H
        have A6 := Aside0.mk A60
        clear A60
        by_cases c7 : t188.size + t193.size ≤ 9223372036854775807
        · rw [if_pos c7] at H
          have c7b0 := eq_true c7
          have c7b1 : decide (t188.size + t193.size ≤ 9223372036854775807) = true := decide_eq_true c7
          try have c7b2 : (9223372036854775807 < t188.size + t193.size) = False := eq_false (Nat.not_lt.2 c7)
          by_cases c8 : x3_1.size + (t188 ++ t193).size ≤ 9223372036854775807
          · rw [if_pos c8] at H
            have c8b0 := eq_true c8
            have c8b1 : decide (x3_1.size + (t188 ++ t193).size ≤ 9223372036854775807) = true := decide_eq_true c8
            try have c8b2 : (9223372036854775807 < x3_1.size + (t188 ++ t193).size) = False := eq_false (Nat.not_lt.2 c8)
            try (have c8b3 := c8b2; simp only [ByteArray.size_append', ByteArray.size_mk', List.size_toArray, List.length_cons, List.length_nil, Nat.zero_add, Nat.reduceAdd] at c8b3)
            have H' := Aside0.mk H
            clear H
            go_wp2_with (first | ((with_reducible refine gate_dst (N := 10) rfl ?_); refine Kd.R_lit Kd.string _ 9 ?hg (N := 10) ?hd (xs := ([(⟨#[109, 101, 109, 111]⟩ : ByteArray), (⟨#[77, 101, 109, 111]⟩ : ByteArray), (⟨#[109, 101, 109, 111, 115]⟩ : ByteArray), (⟨#[115, 101, 101, 32, 116, 104, 101]⟩ : ByteArray), (⟨#[195, 169, 116, 195, 169]⟩ : ByteArray), (⟨#[115, 101, 99, 114, 101, 116]⟩ : ByteArray), (⟨#[83, 69, 67, 82, 69, 84, 32, 112, 108, 97, 110]⟩ : ByteArray), (⟨#[97]⟩ : ByteArray), (⟨#[120, 45, 121]⟩ : ByteArray), (⟨#[51, 114, 100]⟩ : ByteArray)] : List ByteArray)) (inner := [.string (⟨#[109, 101, 109, 111]⟩ : ByteArray), .string (⟨#[77, 101, 109, 111]⟩ : ByteArray), .string (⟨#[109, 101, 109, 111, 115]⟩ : ByteArray), .string (⟨#[115, 101, 101, 32, 116, 104, 101]⟩ : ByteArray), .string (⟨#[195, 169, 116, 195, 169]⟩ : ByteArray), .string (⟨#[115, 101, 99, 114, 101, 116]⟩ : ByteArray), .string (⟨#[83, 69, 67, 82, 69, 84, 32, 112, 108, 97, 110]⟩ : ByteArray), .string (⟨#[97]⟩ : ByteArray), .string (⟨#[120, 45, 121]⟩ : ByteArray), .string (⟨#[51, 114, 100]⟩ : ByteArray)]) (ok := fun _ => True) (okp := fun _ => True) ?hr ?hp (fun _ hk => hk) trivial (Below.refl _ _) (Nat.le_refl _) (by simp) ?_; (case hd => rfl); (case hg => rfl); (case hr => first | (go_simp; done) | (go_simp; rfl)); (case hp => exact (Reps.one (show Kd.M Kd.string _ _ _ (⟨#[109, 101, 109, 111]⟩ : ByteArray) [.string (⟨#[109, 101, 109, 111]⟩ : ByteArray)] from rfl) (Reps.one (show Kd.M Kd.string _ _ _ (⟨#[77, 101, 109, 111]⟩ : ByteArray) [.string (⟨#[77, 101, 109, 111]⟩ : ByteArray)] from rfl) (Reps.one (show Kd.M Kd.string _ _ _ (⟨#[109, 101, 109, 111, 115]⟩ : ByteArray) [.string (⟨#[109, 101, 109, 111, 115]⟩ : ByteArray)] from rfl) (Reps.one (show Kd.M Kd.string _ _ _ (⟨#[115, 101, 101, 32, 116, 104, 101]⟩ : ByteArray) [.string (⟨#[115, 101, 101, 32, 116, 104, 101]⟩ : ByteArray)] from rfl) (Reps.one (show Kd.M Kd.string _ _ _ (⟨#[195, 169, 116, 195, 169]⟩ : ByteArray) [.string (⟨#[195, 169, 116, 195, 169]⟩ : ByteArray)] from rfl) (Reps.one (show Kd.M Kd.string _ _ _ (⟨#[115, 101, 99, 114, 101, 116]⟩ : ByteArray) [.string (⟨#[115, 101, 99, 114, 101, 116]⟩ : ByteArray)] from rfl) (Reps.one (show Kd.M Kd.string _ _ _ (⟨#[83, 69, 67, 82, 69, 84, 32, 112, 108, 97, 110]⟩ : ByteArray) [.string (⟨#[83, 69, 67, 82, 69, 84, 32, 112, 108, 97, 110]⟩ : ByteArray)] from rfl) (Reps.one (show Kd.M Kd.string _ _ _ (⟨#[97]⟩ : ByteArray) [.string (⟨#[97]⟩ : ByteArray)] from rfl) (Reps.one (show Kd.M Kd.string _ _ _ (⟨#[120, 45, 121]⟩ : ByteArray) [.string (⟨#[120, 45, 121]⟩ : ByteArray)] from rfl) (Reps.one (show Kd.M Kd.string _ _ _ (⟨#[51, 114, 100]⟩ : ByteArray) [.string (⟨#[51, 114, 100]⟩ : ByteArray)] from rfl) (Reps.none _ _)))))))))))); intro v186 w9 ho10 hb hg_ hnew_; clear hg_ hnew_; (first | rw [← Ny185.out] at ho10 | (simp only [Int.reduceToNat] at ho10; rw [← Ny185.out] at ho10)); have n0_ := Aside0.mk (Kd.R_lower ho10 (keep_size (w := w) (g := g) (row := none) (by repeat (first | (with_reducible first | exact HK.out | apply KeepBut.set_ | apply keep_drewN | apply keep_drew | apply keep_alloc) | exact HK.out)))); have n1_ := Aside0.mk (IsS25.below (by repeat (first | (with_reducible first | exact HI0.out | apply IsS25.alloc | apply IsS25.drewN | apply IsS25.drew | apply IsS25.set_1) | exact HI0.out)) hb); have n2_ := Aside0.mk (KeepBut.trans (by repeat (first | (with_reducible first | exact HK.out | apply KeepBut.set_ | apply keep_drewN | apply keep_drew | apply keep_alloc) | exact HK.out)) (KeepBut.of_below hb g none) (.inl rfl)); have n3_ := Aside0.mk (below_step (by repeat (first | (with_reducible first | exact HB.out | apply below_alloc | apply pw_below_drewN | apply below_drew1 | refine below_set ?_ (IsS25.ge HI0.out)) | exact HB.out)) hb); clear HI0; clear HK; clear HB; have HO187 := n0_; have HI0 := n1_; have HK := n2_; have HB := n3_; clear n0_ n1_ n2_ n3_; clear hb ho10; obtain ⟨Ao11, co11, eo11⟩ := Kd.R_slice HO187.out; subst eo11) | ((with_reducible refine gate_callee (f := 75) rfl ?_); refine goesL_ (some 11) rfl rfl Tryd.func75 (by kernel_rfl) rfl #[.pointer (some ⟨g, 0, none⟩), .slice Ao11 y185.length co11] rfl (by (try simp only [List.map_toArray, List.map_cons, List.map_nil]); first | done | rfl | (simp only [List.length_drop, List.length_take]; rfl)) ?_; (with_reducible refine (chasemake_Stream_h06one.calls g s0_0 x1001_1 _ _ y185 t188 t189 w0 _ ?side1 ?side2 ?side3 ?side4 ?side5 A5.out).mono ?_); (case side1 => repeat (first | (with_reducible first | exact HI0.out | apply IsS25.alloc | apply IsS25.drewN | apply IsS25.drew | apply IsS25.set_1) | exact HI0.out)); (case side2 => repeat (first | (with_reducible first | exact HB.out | apply below_alloc | apply pw_below_drewN | apply below_drew1 | refine below_set ?_ (IsS25.ge HI0.out)) | exact HB.out)); (case side3 => repeat (first | exact (Kd.R_reads' HO187.out).2.2 | (with_reducible refine Kd.C_alloc ?_ _) | (with_reducible refine Kd.C_drewN ?_ _) | (with_reducible refine Kd.C_drew ?_))); (case side4 => exact (Kd.R_reads' HO187.out).2.1); (case side5 => exact far_slice (IsS25.own_ne HI0.out HO187.out (by decide))); rintro e w12 ⟨rfl, hi, hb, hk⟩; refine ⟨_, rfl, ?_⟩; have n0_ := Aside0.mk (Kd.R_mono (Kd.R_keep (IsS25.apart (show IsS25 w0 _ g s0_0 x1001_1 from by repeat (first | (with_reducible first | exact HI0.out | apply IsS25.alloc | apply IsS25.drewN | apply IsS25.drew | apply IsS25.set_1) | exact HI0.out)) (by (with_reducible repeat (first | apply Kd.R_alloc | apply Kd.R_drewN | apply Kd.R_drew)); exact HO187.out) (by decide)) hk (fun _ h => h.2)) (fun _ h => h.1)); have n1_ := Aside0.mk (KeepBut.trans (by repeat (first | (with_reducible first | exact HK.out | apply KeepBut.set_ | apply keep_drewN | apply keep_drew | apply keep_alloc) | exact HK.out)) hk (.inl rfl)); have n2_ := Aside0.mk (hb); have n3_ := Aside0.mk (hi); clear HO187; clear HK; clear HB; clear HI0; have HO187 := n0_; have HK := n1_; have HB := n2_; have HI0 := n3_; clear n0_ n1_ n2_ n3_; (try clear hb); (try clear hb2); (try clear hk); (try clear hi)) | ((with_reducible refine gate_dst (N := 13) rfl ?_); refine Kd.R_lit Kd.string _ 9 ?hg (N := 13) ?hd (xs := ([(⟨#[32]⟩ : ByteArray), (⟨#[32]⟩ : ByteArray), (⟨#[10]⟩ : ByteArray), (⟨#[44, 32]⟩ : ByteArray), (⟨#[]⟩ : ByteArray)] : List ByteArray)) (inner := [.string (⟨#[32]⟩ : ByteArray), .string (⟨#[32]⟩ : ByteArray), .string (⟨#[10]⟩ : ByteArray), .string (⟨#[44, 32]⟩ : ByteArray), .string (⟨#[]⟩ : ByteArray)]) (ok := fun _ => True) (okp := fun _ => True) ?hr ?hp (fun _ hk => hk) trivial (Below.refl _ _) (Nat.le_refl _) (by simp) ?_; (case hd => rfl); (case hg => rfl); (case hr => first | (go_simp; done) | (go_simp; rfl)); (case hp => exact (Reps.one (show Kd.M Kd.string _ _ _ (⟨#[32]⟩ : ByteArray) [.string (⟨#[32]⟩ : ByteArray)] from rfl) (Reps.one (show Kd.M Kd.string _ _ _ (⟨#[32]⟩ : ByteArray) [.string (⟨#[32]⟩ : ByteArray)] from rfl) (Reps.one (show Kd.M Kd.string _ _ _ (⟨#[10]⟩ : ByteArray) [.string (⟨#[10]⟩ : ByteArray)] from rfl) (Reps.one (show Kd.M Kd.string _ _ _ (⟨#[44, 32]⟩ : ByteArray) [.string (⟨#[44, 32]⟩ : ByteArray)] from rfl) (Reps.one (show Kd.M Kd.string _ _ _ (⟨#[]⟩ : ByteArray) [.string (⟨#[]⟩ : ByteArray)] from rfl) (Reps.none _ _))))))); intro v191 w13 ho14 hb hg_ hnew_; clear hg_ hnew_; (first | rw [← Ny190.out] at ho14 | (simp only [Int.reduceToNat] at ho14; rw [← Ny190.out] at ho14)); have n0_ := Aside0.mk (Kd.R_elder' (by (with_reducible repeat (first | apply Kd.R_alloc | apply Kd.R_drewN | apply Kd.R_drew)); exact HO187.out) (Kd.R_base ho14) hb); have n1_ := Aside0.mk (Kd.R_lower (Kd.R_new' ho14 (Kd.R_lt (by (with_reducible repeat (first | apply Kd.R_alloc | apply Kd.R_drewN | apply Kd.R_drew)); exact HO187.out))) (keep_size (w := w) (g := g) (row := none) (by repeat (first | (with_reducible first | exact HK.out | apply KeepBut.set_ | apply keep_drewN | apply keep_drew | apply keep_alloc) | exact HK.out)))); have n2_ := Aside0.mk (IsS25.below (by repeat (first | (with_reducible first | exact HI0.out | apply IsS25.alloc | apply IsS25.drewN | apply IsS25.drew | apply IsS25.set_1) | exact HI0.out)) hb); have n3_ := Aside0.mk (KeepBut.trans (by repeat (first | (with_reducible first | exact HK.out | apply KeepBut.set_ | apply keep_drewN | apply keep_drew | apply keep_alloc) | exact HK.out)) (KeepBut.of_below hb g none) (.inl rfl)); have n4_ := Aside0.mk (below_step (by repeat (first | (with_reducible first | exact HB.out | apply below_alloc | apply pw_below_drewN | apply below_drew1 | refine below_set ?_ (IsS25.ge HI0.out)) | exact HB.out)) hb); clear HO187; clear HI0; clear HK; clear HB; have HO187 := n0_; have HO192 := n1_; have HI0 := n2_; have HK := n3_; have HB := n4_; clear n0_ n1_ n2_ n3_ n4_; clear hb ho14; obtain ⟨Ao15, co15, eo15⟩ := Kd.R_slice HO192.out; subst eo15) | ((with_reducible refine gate_callee (f := 75) rfl ?_); refine goesL_ (some 14) rfl rfl Tryd.func75 (by kernel_rfl) rfl #[.pointer (some ⟨g, 0, none⟩), .slice Ao15 y190.length co15] rfl (by (try simp only [List.map_toArray, List.map_cons, List.map_nil]); first | done | rfl | (simp only [List.length_drop, List.length_take]; rfl)) ?_; (with_reducible refine (chasemake_Stream_h06one.calls g s0_0 t189 _ _ y190 t193 t194 w0 _ ?side1 ?side2 ?side3 ?side4 ?side5 A6.out).mono ?_); (case side1 => repeat (first | (with_reducible first | exact HI0.out | apply IsS25.alloc | apply IsS25.drewN | apply IsS25.drew | apply IsS25.set_1) | exact HI0.out)); (case side2 => repeat (first | (with_reducible first | exact HB.out | apply below_alloc | apply pw_below_drewN | apply below_drew1 | refine below_set ?_ (IsS25.ge HI0.out)) | exact HB.out)); (case side3 => repeat (first | exact (Kd.R_reads' HO192.out).2.2 | (with_reducible refine Kd.C_alloc ?_ _) | (with_reducible refine Kd.C_drewN ?_ _) | (with_reducible refine Kd.C_drew ?_))); (case side4 => exact (Kd.R_reads' HO192.out).2.1); (case side5 => exact far_slice (IsS25.own_ne HI0.out HO192.out (by decide))); rintro e w16 ⟨rfl, hi, hb, hk⟩; refine ⟨_, rfl, ?_⟩; have n0_ := Aside0.mk (Kd.R_mono (Kd.R_keep (IsS25.apart (show IsS25 w0 _ g s0_0 t189 from by repeat (first | (with_reducible first | exact HI0.out | apply IsS25.alloc | apply IsS25.drewN | apply IsS25.drew | apply IsS25.set_1) | exact HI0.out)) (by (with_reducible repeat (first | apply Kd.R_alloc | apply Kd.R_drewN | apply Kd.R_drew)); exact HO187.out) (by decide)) hk (fun _ h => h.2)) (fun _ h => h.1)); have n1_ := Aside0.mk (Kd.R_mono (Kd.R_keep (IsS25.apart (show IsS25 w0 _ g s0_0 t189 from by repeat (first | (with_reducible first | exact HI0.out | apply IsS25.alloc | apply IsS25.drewN | apply IsS25.drew | apply IsS25.set_1) | exact HI0.out)) (by (with_reducible repeat (first | apply Kd.R_alloc | apply Kd.R_drewN | apply Kd.R_drew)); exact HO192.out) (by decide)) hk (fun _ h => h.2)) (fun _ h => h.1)); have n2_ := Aside0.mk (KeepBut.trans (by repeat (first | (with_reducible first | exact HK.out | apply KeepBut.set_ | apply keep_drewN | apply keep_drew | apply keep_alloc) | exact HK.out)) hk (.inl rfl)); have n3_ := Aside0.mk (hb); have n4_ := Aside0.mk (hi); clear HO187; clear HO192; clear HK; clear HB; clear HI0; have HO187 := n0_; have HO192 := n1_; have HK := n2_; have HB := n3_; have HI0 := n4_; clear n0_ n1_ n2_ n3_ n4_; (try clear hb); (try clear hb2); (try clear hk); (try clear hi)))
            go_roundg k1
            case measure => have := HK1.out; omega
            case rel => exact ⟨(x3_1 ++ (t188 ++ t193)), (wrap64 (x6_1 + 1)), (t194), (by first | rfl | (simp; done) | (simp [*]; done)), (by first | rfl | (simp; done) | (simp [*]; done)), H', ⟨by have := HK1.out; omega⟩, ⟨by repeat (first | (with_reducible first | exact HI0.out | apply IsS25.alloc | apply IsS25.drewN | apply IsS25.drew | apply IsS25.set_1) | exact HI0.out)⟩, ⟨by repeat (first | (with_reducible first | exact HK.out | apply KeepBut.set_ | apply keep_drewN | apply keep_drew | apply keep_alloc) | exact HK.out)⟩, ⟨by repeat (first | (with_reducible first | exact HB.out | apply below_alloc | apply pw_below_drewN | apply below_drew1 | refine below_set ?_ (IsS25.ge HI0.out)) | exact HB.out)⟩⟩
          · rw [if_neg c8] at H
            exact absurd H (by simp)
        · rw [if_neg c7] at H
          exact absurd H (by simp)
      · rw [if_neg c4] at H
        have c4b0 : decide (x6_1 < t183) = false := decide_eq_false c4
        clear c4
        have HC17 := Aside0.mk H
        clear H
        go_upto_region 6 with (fail)
        go_cut [24] (fun v24 wc => ∃ (kq : Nat) (x24_16 : Bool) (x1001_16 : Int), v24 = .bool x24_16 ∧ Aside0 (chasemake_Stream_Memo.j1 kq x3_1 x24_16 s0_0 x1001_16 = some (r1, r2)) ∧ Aside0 (kq ≤ k1) ∧ Aside0 (IsS25 w0 wc g s0_0 x1001_16) ∧ Aside0 (KeepBut w wc g none) ∧ Aside0 (Below w0.heap.size w0 wc))
        case first =>
          have H := HC17.out
          clear HC17
          by_cases c18 : x3_1.toList = ([] : List UInt8)
          · rw [if_pos c18] at H
            have c18b0 : (x3_1.toList == ([] : List UInt8)) = true := beq_iff_eq.mpr c18
            have c18b1 : (x3_1.toList != ([] : List UInt8)) = false := bne_eq_false_iff_eq.mpr c18
            clear c18
            (first | rw [c18b0] | (simp only [i64_w, i32_w]; rw [c18b0]) | skip)
            have H' := Aside0.mk H
            clear H
            go_wp2
            go_meet
            case rel => exact ⟨_, (false), (x1001_1), (by first | rfl | (simp; done) | (simp [*]; done)), H', ⟨by have := HK1.out; first | omega | exact Nat.le_refl _⟩, ⟨by repeat (first | (with_reducible first | exact HI0.out | apply IsS25.alloc | apply IsS25.drewN | apply IsS25.drew | apply IsS25.set_1) | exact HI0.out)⟩, ⟨by repeat (first | (with_reducible first | exact HK.out | apply KeepBut.set_ | apply keep_drewN | apply keep_drew | apply keep_alloc) | exact HK.out)⟩, ⟨by repeat (first | (with_reducible first | exact HB.out | apply below_alloc | apply pw_below_drewN | apply below_drew1 | refine below_set ?_ (IsS25.ge HI0.out)) | exact HB.out)⟩⟩
          · rw [if_neg c18] at H
            have c18b0 : (x3_1.toList == ([] : List UInt8)) = false := beq_eq_false_iff_ne.mpr c18
            have c18b1 : (x3_1.toList != ([] : List UInt8)) = true := bne_iff_ne.mpr c18
            (first | rw [c18b0] | (simp only [i64_w, i32_w]; rw [c18b0]) | skip)
            replace H := Option.bind_eq_some_iff.mp H
            obtain ⟨⟨t195, t196⟩, A190, H⟩ := H
            replace H : (chasemake_Stream_Memo.j1 k1 x3_1 (!t195) s0_0 t196) = some (r1, r2) := H
            have A19 := Aside0.mk A190
            clear A190
            have H' := Aside0.mk H
            clear H
            go_wp2_with (first | (go_at_call 47; (with_reducible refine (chasemake_Stream_Flip.calls g s0_0 x1001_1 12 t195 t196 w0 _ ?side1 ?side2 A19.out).mono ?_); (case side1 => repeat (first | (with_reducible first | exact HI0.out | apply IsS25.alloc | apply IsS25.drewN | apply IsS25.drew | apply IsS25.set_1) | exact HI0.out)); (case side2 => repeat (first | (with_reducible first | exact HB.out | apply below_alloc | apply pw_below_drewN | apply below_drew1 | refine below_set ?_ (IsS25.ge HI0.out)) | exact HB.out)); rintro e w20 ⟨rfl, hi, hb, hk⟩; have n0_ := Aside0.mk (KeepBut.trans (by repeat (first | (with_reducible first | exact HK.out | apply KeepBut.set_ | apply keep_drewN | apply keep_drew | apply keep_alloc) | exact HK.out)) hk (.inl rfl)); have n1_ := Aside0.mk (hb); have n2_ := Aside0.mk (hi); clear HK; clear HB; clear HI0; have HK := n0_; have HB := n1_; have HI0 := n2_; clear n0_ n1_ n2_; (try clear hb); (try clear hb2); (try clear hk); (try clear hi)))
            go_meet
            case rel => exact ⟨_, (!t195), (t196), (by first | rfl | (simp; done) | (simp [*]; done)), H', ⟨by have := HK1.out; first | omega | exact Nat.le_refl _⟩, ⟨by repeat (first | (with_reducible first | exact HI0.out | apply IsS25.alloc | apply IsS25.drewN | apply IsS25.drew | apply IsS25.set_1) | exact HI0.out)⟩, ⟨by repeat (first | (with_reducible first | exact HK.out | apply KeepBut.set_ | apply keep_drewN | apply keep_drew | apply keep_alloc) | exact HK.out)⟩, ⟨by repeat (first | (with_reducible first | exact HB.out | apply below_alloc | apply pw_below_drewN | apply below_drew1 | refine below_set ?_ (IsS25.ge HI0.out)) | exact HB.out)⟩⟩
        case rest =>
          clear HC17
          try clear c1
          try clear c2
          try clear p2
          try clear c4
          try clear c4b0
          try clear p6
          try clear c7
          try clear c7b0
          try clear c7b1
          try clear c7b2
          try clear c8
          try clear c8b0
          try clear c8b1
          try clear c8b2
          try clear c18
          try clear c18b0
          try clear c18b1
          try clear p2
          obtain ⟨kq, x24_16, x1001_16, rfl, HA, HJ16, HI0, HK, HB⟩ := hcut
          cases kq with
          | zero => exact absurd HA.out (by simp [chasemake_Stream_Memo.j1])
          | succ kj16 =>
            have H := HA.out
            clear HA
            simp only [chasemake_Stream_Memo.j1] at H
            have HC21 := Aside0.mk H
            clear H
            go_upto_if 24 with (fail)
            go_cut [3] (fun v3 wc => ∃ (kq : Nat) (x3_20 : ByteArray), v3 = .string x3_20 ∧ Aside0 (chasemake_Stream_Memo.j2 kq x3_20 s0_0 x1001_16 = some (r1, r2)) ∧ Aside0 (kq ≤ kj16) ∧ Aside0 (IsS25 w0 wc g s0_0 x1001_16) ∧ Aside0 (KeepBut w wc g none) ∧ Aside0 (Below w0.heap.size w0 wc))
            case first =>
              have H := HC21.out
              clear HC21
              by_cases c22 : x24_16 = true
              · subst c22
                have H1 : (if x3_1.size + 1 ≤ 9223372036854775807 then (chasemake_Stream_Memo.j2 kj16 (x3_1 ++ (⟨#[10]⟩ : ByteArray)) s0_0 x1001_16) else (none)) = some (r1, r2) := by rw [if_pos rfl] at H; exact H
                clear H
                have H := H1
                clear H1
                by_cases c23 : x3_1.size + 1 ≤ 9223372036854775807
                · rw [if_pos c23] at H
                  have c23b0 := eq_true c23
                  have c23b1 : decide (x3_1.size + 1 ≤ 9223372036854775807) = true := decide_eq_true c23
                  try have c23b2 : (9223372036854775807 < x3_1.size + 1) = False := eq_false (Nat.not_lt.2 c23)
                  have H' := Aside0.mk H
                  clear H
                  go_wp2
                  go_meet
                  case rel => exact ⟨_, (x3_1 ++ (⟨#[10]⟩ : ByteArray)), (by first | rfl | (simp; done) | (simp [*]; done)), H', ⟨by have := HK1.out; have := HJ16.out; first | omega | exact Nat.le_refl _⟩, ⟨by repeat (first | (with_reducible first | exact HI0.out | apply IsS25.alloc | apply IsS25.drewN | apply IsS25.drew | apply IsS25.set_1) | exact HI0.out)⟩, ⟨by repeat (first | (with_reducible first | exact HK.out | apply KeepBut.set_ | apply keep_drewN | apply keep_drew | apply keep_alloc) | exact HK.out)⟩, ⟨by repeat (first | (with_reducible first | exact HB.out | apply below_alloc | apply pw_below_drewN | apply below_drew1 | refine below_set ?_ (IsS25.ge HI0.out)) | exact HB.out)⟩⟩
                · rw [if_neg c23] at H
                  exact absurd H (by simp)
              · replace c22 := Bool.eq_false_iff.mpr c22
                subst c22
                have H1 : (chasemake_Stream_Memo.j2 kj16 x3_1 s0_0 x1001_16) = some (r1, r2) := by rw [if_neg (show ¬ (false = true) by decide)] at H; exact H
                clear H
                have H := H1
                clear H1
                have H' := Aside0.mk H
                clear H
                go_wp2
                go_meet
                case rel => exact ⟨_, (x3_1), (by first | rfl | (simp; done) | (simp [*]; done)), H', ⟨by have := HK1.out; have := HJ16.out; first | omega | exact Nat.le_refl _⟩, ⟨by repeat (first | (with_reducible first | exact HI0.out | apply IsS25.alloc | apply IsS25.drewN | apply IsS25.drew | apply IsS25.set_1) | exact HI0.out)⟩, ⟨by repeat (first | (with_reducible first | exact HK.out | apply KeepBut.set_ | apply keep_drewN | apply keep_drew | apply keep_alloc) | exact HK.out)⟩, ⟨by repeat (first | (with_reducible first | exact HB.out | apply below_alloc | apply pw_below_drewN | apply below_drew1 | refine below_set ?_ (IsS25.ge HI0.out)) | exact HB.out)⟩⟩
            case rest =>
              clear HC21
              try clear c1
              try clear c2
              try clear p2
              try clear c4
              try clear c4b0
              try clear p6
              try clear c7
              try clear c7b0
              try clear c7b1
              try clear c7b2
              try clear c8
              try clear c8b0
              try clear c8b1
              try clear c8b2
              try clear c18
              try clear c18b0
              try clear c18b1
              try clear c22
              try clear c23
              try clear c23b0
              try clear c23b1
              try clear c23b2
              try clear p2
              try clear p6
              obtain ⟨kq, x3_20, rfl, HA, HJ20, HI0, HK, HB⟩ := hcut
              cases kq with
              | zero => exact absurd HA.out (by simp [chasemake_Stream_Memo.j2])
              | succ kj20 =>
                have H := HA.out
                clear HA
                simp only [chasemake_Stream_Memo.j2] at H
                replace H := Option.bind_eq_some_iff.mp H
                obtain ⟨⟨t197, t198⟩, A240, H⟩ := H
                replace H : (if t197 = true then ((strings_Repeat.f (⟨#[109]⟩ : ByteArray) 20000).bind fun t199 => (if t199.size + 1 ≤ 9223372036854775807 then ((chasemake_Stream_h06one.f s0_0 t198 (([(⟨#[97, 9, 98, 10]⟩ : ByteArray), (⟨#[255, 10]⟩ : ByteArray), t199 ++ (⟨#[10]⟩ : ByteArray)] : List ByteArray))).bind fun bt203 => (some (bt203.1, bt203.2))) else (none))) else (some (x3_20, t198))) = some (r1, r2) := H
                have A24 := Aside0.mk A240
                clear A240
                by_cases c25 : t197 = true
                · subst c25
                  have H1 : ((strings_Repeat.f (⟨#[109]⟩ : ByteArray) 20000).bind fun t199 => (if t199.size + 1 ≤ 9223372036854775807 then ((chasemake_Stream_h06one.f s0_0 t198 (([(⟨#[97, 9, 98, 10]⟩ : ByteArray), (⟨#[255, 10]⟩ : ByteArray), t199 ++ (⟨#[10]⟩ : ByteArray)] : List ByteArray))).bind fun bt203 => (some (bt203.1, bt203.2))) else (none))) = some (r1, r2) := by rw [if_pos rfl] at H; exact H
                  clear H
                  have H := H1
                  clear H1
                  replace H := Option.bind_eq_some_iff.mp H
                  obtain ⟨t199, A260, H⟩ := H
                  replace H : (if t199.size + 1 ≤ 9223372036854775807 then ((chasemake_Stream_h06one.f s0_0 t198 (([(⟨#[97, 9, 98, 10]⟩ : ByteArray), (⟨#[255, 10]⟩ : ByteArray), t199 ++ (⟨#[10]⟩ : ByteArray)] : List ByteArray))).bind fun bt203 => (some (bt203.1, bt203.2))) else (none)) = some (r1, r2) := H
                  have A26 := Aside0.mk A260
                  clear A260
                  by_cases c27 : t199.size + 1 ≤ 9223372036854775807
                  · rw [if_pos c27] at H
                    have c27b0 := eq_true c27
                    have c27b1 : decide (t199.size + 1 ≤ 9223372036854775807) = true := decide_eq_true c27
                    try have c27b2 : (9223372036854775807 < t199.size + 1) = False := eq_false (Nat.not_lt.2 c27)
                    obtain ⟨y200, hy200⟩ : ∃ y_ : List ByteArray, y_ = (([(⟨#[97, 9, 98, 10]⟩ : ByteArray), (⟨#[255, 10]⟩ : ByteArray), t199 ++ (⟨#[10]⟩ : ByteArray)] : List ByteArray)) := ⟨_, rfl⟩
                    replace H : ((chasemake_Stream_h06one.f s0_0 t198 y200).bind fun bt203 => (some (bt203.1, bt203.2))) = some (r1, r2) := by first | (rw [hy200]; with_reducible exact H) | (have H2_ := (Option.bind_some _ _).symm.trans H; rw [hy200]; with_reducible exact H2_) | (have H2_ := (Option.bind_some _ _).symm.trans H; with_reducible exact H2_) | with_reducible exact H | (rw [hy200]; exact H) | exact H
                    have Ny200 := Aside0.mk hy200
                    clear hy200
                    replace H := Option.bind_eq_some_iff.mp H
                    obtain ⟨⟨t203, t204⟩, A280, H⟩ := H
                    replace H : (some (t203, t204)) = some (r1, r2) := H
                    have A28 := Aside0.mk A280
                    clear A280
                    simp only [Option.some.injEq, Prod.mk.injEq] at H
                    obtain ⟨rfl, rfl⟩ := H
                    go_wp2_with (first | ((with_reducible refine gate_callee (f := 47) rfl ?_); refine goesL_ (some 28) rfl rfl Tryd.func47 (by kernel_rfl) rfl #[.pointer (some ⟨g, 0, none⟩), .int .i64 20] rfl (by (try simp only [List.map_toArray, List.map_cons, List.map_nil]); first | done | rfl | (simp only [List.length_drop, List.length_take]; rfl)) ?_; (with_reducible refine (chasemake_Stream_Flip.calls g s0_0 x1001_16 20 true t198 w0 _ ?side1 ?side2 A24.out).mono ?_); (case side1 => repeat (first | (with_reducible first | exact HI0.out | apply IsS25.alloc | apply IsS25.drewN | apply IsS25.drew | apply IsS25.set_1) | exact HI0.out)); (case side2 => repeat (first | (with_reducible first | exact HB.out | apply below_alloc | apply pw_below_drewN | apply below_drew1 | refine below_set ?_ (IsS25.ge HI0.out)) | exact HB.out)); rintro e w29 ⟨rfl, hi, hb, hk⟩; refine ⟨_, rfl, ?_⟩; have n0_ := Aside0.mk (KeepBut.trans (by repeat (first | (with_reducible first | exact HK.out | apply KeepBut.set_ | apply keep_drewN | apply keep_drew | apply keep_alloc) | exact HK.out)) hk (.inl rfl)); have n1_ := Aside0.mk (hb); have n2_ := Aside0.mk (hi); clear HK; clear HB; clear HI0; have HK := n0_; have HB := n1_; have HI0 := n2_; clear n0_ n1_ n2_; (try clear hb); (try clear hb2); (try clear hk); (try clear hi)) | ((with_reducible refine gate_callee (f := 76) rfl ?_); refine goesL_ (some 30) rfl rfl Tryd.func76 (by kernel_rfl) rfl #[.string (⟨#[109]⟩ : ByteArray), .int .i64 20000] rfl (by (try simp only [List.map_toArray, List.map_cons, List.map_nil]); first | done | rfl | (simp only [List.length_drop, List.length_take]; rfl)) ?_; (with_reducible refine (strings_Repeat.calls (⟨#[109]⟩ : ByteArray) 20000 t199 _ A26.out).mono ?_); rintro e w30 ⟨rfl, hb⟩; refine ⟨_, rfl, ?_⟩; have n0_ := Aside0.mk (IsS25.below (by repeat (first | (with_reducible first | exact HI0.out | apply IsS25.alloc | apply IsS25.drewN | apply IsS25.drew | apply IsS25.set_1) | exact HI0.out)) hb); have n1_ := Aside0.mk (KeepBut.trans (by repeat (first | (with_reducible first | exact HK.out | apply KeepBut.set_ | apply keep_drewN | apply keep_drew | apply keep_alloc) | exact HK.out)) (KeepBut.of_below hb g none) (.inl rfl)); have n2_ := Aside0.mk (below_step (by repeat (first | (with_reducible first | exact HB.out | apply below_alloc | apply pw_below_drewN | apply below_drew1 | refine below_set ?_ (IsS25.ge HI0.out)) | exact HB.out)) hb); clear HI0; clear HK; clear HB; have HI0 := n0_; have HK := n1_; have HB := n2_; clear n0_ n1_ n2_; (try clear hb); (try clear hb2); (try clear hk); (try clear hi)) | ((with_reducible refine gate_dst (N := 32) rfl ?_); refine Kd.R_lit Kd.string _ 9 ?hg (N := 32) ?hd (xs := ([(⟨#[97, 9, 98, 10]⟩ : ByteArray), (⟨#[255, 10]⟩ : ByteArray), t199 ++ (⟨#[10]⟩ : ByteArray)] : List ByteArray)) (inner := [.string (⟨#[97, 9, 98, 10]⟩ : ByteArray), .string (⟨#[255, 10]⟩ : ByteArray), .string (t199 ++ (⟨#[10]⟩ : ByteArray))]) (ok := fun _ => True) (okp := fun _ => True) ?hr ?hp (fun _ hk => hk) trivial (Below.refl _ _) (Nat.le_refl _) (by simp) ?_; (case hd => rfl); (case hg => rfl); (case hr => first | (go_simp; done) | (go_simp; rfl)); (case hp => exact (Reps.one (show Kd.M Kd.string _ _ _ (⟨#[97, 9, 98, 10]⟩ : ByteArray) [.string (⟨#[97, 9, 98, 10]⟩ : ByteArray)] from rfl) (Reps.one (show Kd.M Kd.string _ _ _ (⟨#[255, 10]⟩ : ByteArray) [.string (⟨#[255, 10]⟩ : ByteArray)] from rfl) (Reps.one (show Kd.M Kd.string _ _ _ (t199 ++ (⟨#[10]⟩ : ByteArray)) [.string (t199 ++ (⟨#[10]⟩ : ByteArray))] from rfl) (Reps.none _ _))))); intro v201 w31 ho32 hb hg_ hnew_; clear hg_ hnew_; (first | rw [← Ny200.out] at ho32 | (simp only [Int.reduceToNat] at ho32; rw [← Ny200.out] at ho32)); have n0_ := Aside0.mk (Kd.R_lower ho32 (keep_size (w := w) (g := g) (row := none) (by repeat (first | (with_reducible first | exact HK.out | apply KeepBut.set_ | apply keep_drewN | apply keep_drew | apply keep_alloc) | exact HK.out)))); have n1_ := Aside0.mk (IsS25.below (by repeat (first | (with_reducible first | exact HI0.out | apply IsS25.alloc | apply IsS25.drewN | apply IsS25.drew | apply IsS25.set_1) | exact HI0.out)) hb); have n2_ := Aside0.mk (KeepBut.trans (by repeat (first | (with_reducible first | exact HK.out | apply KeepBut.set_ | apply keep_drewN | apply keep_drew | apply keep_alloc) | exact HK.out)) (KeepBut.of_below hb g none) (.inl rfl)); have n3_ := Aside0.mk (below_step (by repeat (first | (with_reducible first | exact HB.out | apply below_alloc | apply pw_below_drewN | apply below_drew1 | refine below_set ?_ (IsS25.ge HI0.out)) | exact HB.out)) hb); clear HI0; clear HK; clear HB; have HO202 := n0_; have HI0 := n1_; have HK := n2_; have HB := n3_; clear n0_ n1_ n2_ n3_; clear hb ho32; obtain ⟨Ao33, co33, eo33⟩ := Kd.R_slice HO202.out; subst eo33) | ((with_reducible refine gate_callee (f := 75) rfl ?_); refine goesL_ (some 33) rfl rfl Tryd.func75 (by kernel_rfl) rfl #[.pointer (some ⟨g, 0, none⟩), .slice Ao33 y200.length co33] rfl (by (try simp only [List.map_toArray, List.map_cons, List.map_nil]); first | done | rfl | (simp only [List.length_drop, List.length_take]; rfl)) ?_; (with_reducible refine (chasemake_Stream_h06one.calls g s0_0 t198 _ _ y200 t203 t204 w0 _ ?side1 ?side2 ?side3 ?side4 ?side5 A28.out).mono ?_); (case side1 => repeat (first | (with_reducible first | exact HI0.out | apply IsS25.alloc | apply IsS25.drewN | apply IsS25.drew | apply IsS25.set_1) | exact HI0.out)); (case side2 => repeat (first | (with_reducible first | exact HB.out | apply below_alloc | apply pw_below_drewN | apply below_drew1 | refine below_set ?_ (IsS25.ge HI0.out)) | exact HB.out)); (case side3 => repeat (first | exact (Kd.R_reads' HO202.out).2.2 | (with_reducible refine Kd.C_alloc ?_ _) | (with_reducible refine Kd.C_drewN ?_ _) | (with_reducible refine Kd.C_drew ?_))); (case side4 => exact (Kd.R_reads' HO202.out).2.1); (case side5 => exact far_slice (IsS25.own_ne HI0.out HO202.out (by decide))); rintro e w34 ⟨rfl, hi, hb, hk⟩; refine ⟨_, rfl, ?_⟩; have n0_ := Aside0.mk (Kd.R_mono (Kd.R_keep (IsS25.apart (show IsS25 w0 _ g s0_0 t198 from by repeat (first | (with_reducible first | exact HI0.out | apply IsS25.alloc | apply IsS25.drewN | apply IsS25.drew | apply IsS25.set_1) | exact HI0.out)) (by (with_reducible repeat (first | apply Kd.R_alloc | apply Kd.R_drewN | apply Kd.R_drew)); exact HO202.out) (by decide)) hk (fun _ h => h.2)) (fun _ h => h.1)); have n1_ := Aside0.mk (KeepBut.trans (by repeat (first | (with_reducible first | exact HK.out | apply KeepBut.set_ | apply keep_drewN | apply keep_drew | apply keep_alloc) | exact HK.out)) hk (.inl rfl)); have n2_ := Aside0.mk (hb); have n3_ := Aside0.mk (hi); clear HO202; clear HK; clear HB; clear HI0; have HO202 := n0_; have HK := n1_; have HB := n2_; have HI0 := n3_; clear n0_ n1_ n2_ n3_; (try clear hb); (try clear hb2); (try clear hk); (try clear hi)))
                    go_ret
                    exact ⟨by first | rfl | (simp [errW_none, errW_some] <;> rfl) | (simp [*, errW_none, errW_some] <;> rfl), by repeat (first | (with_reducible first | exact HI0.out | apply IsS25.alloc | apply IsS25.drewN | apply IsS25.drew | apply IsS25.set_1) | exact HI0.out), by repeat (first | (with_reducible first | exact HB.out | apply below_alloc | apply pw_below_drewN | apply below_drew1 | refine below_set ?_ (IsS25.ge HI0.out)) | exact HB.out), by repeat (first | (with_reducible first | exact HK.out | apply KeepBut.set_ | apply keep_drewN | apply keep_drew | apply keep_alloc) | exact HK.out)⟩
                  · rw [if_neg c27] at H
                    exact absurd H (by simp)
                · replace c25 := Bool.eq_false_iff.mpr c25
                  subst c25
                  have H1 : (some (x3_20, t198)) = some (r1, r2) := by rw [if_neg (show ¬ (false = true) by decide)] at H; exact H
                  clear H
                  have H := H1
                  clear H1
                  simp only [Option.some.injEq, Prod.mk.injEq] at H
                  obtain ⟨rfl, rfl⟩ := H
                  go_wp2_with (first | ((with_reducible refine gate_callee (f := 47) rfl ?_); refine goesL_ (some 28) rfl rfl Tryd.func47 (by kernel_rfl) rfl #[.pointer (some ⟨g, 0, none⟩), .int .i64 20] rfl (by (try simp only [List.map_toArray, List.map_cons, List.map_nil]); first | done | rfl | (simp only [List.length_drop, List.length_take]; rfl)) ?_; (with_reducible refine (chasemake_Stream_Flip.calls g s0_0 x1001_16 20 false t198 w0 _ ?side1 ?side2 A24.out).mono ?_); (case side1 => repeat (first | (with_reducible first | exact HI0.out | apply IsS25.alloc | apply IsS25.drewN | apply IsS25.drew | apply IsS25.set_1) | exact HI0.out)); (case side2 => repeat (first | (with_reducible first | exact HB.out | apply below_alloc | apply pw_below_drewN | apply below_drew1 | refine below_set ?_ (IsS25.ge HI0.out)) | exact HB.out)); rintro e w35 ⟨rfl, hi, hb, hk⟩; refine ⟨_, rfl, ?_⟩; have n0_ := Aside0.mk (KeepBut.trans (by repeat (first | (with_reducible first | exact HK.out | apply KeepBut.set_ | apply keep_drewN | apply keep_drew | apply keep_alloc) | exact HK.out)) hk (.inl rfl)); have n1_ := Aside0.mk (hb); have n2_ := Aside0.mk (hi); clear HK; clear HB; clear HI0; have HK := n0_; have HB := n1_; have HI0 := n2_; clear n0_ n1_ n2_; (try clear hb); (try clear hb2); (try clear hk); (try clear hi)))
                  go_ret
                  exact ⟨by first | rfl | (simp [errW_none, errW_some] <;> rfl) | (simp [*, errW_none, errW_some] <;> rfl), by repeat (first | (with_reducible first | exact HI0.out | apply IsS25.alloc | apply IsS25.drewN | apply IsS25.drew | apply IsS25.set_1) | exact HI0.out), by repeat (first | (with_reducible first | exact HB.out | apply below_alloc | apply pw_below_drewN | apply below_drew1 | refine below_set ?_ (IsS25.ge HI0.out)) | exact HB.out), by repeat (first | (with_reducible first | exact HK.out | apply KeepBut.set_ | apply keep_drewN | apply keep_drew | apply keep_alloc) | exact HK.out)⟩
def chasemake_Stream_One.f (s0_0 : List Int) (s0_1 : Int) (l1 : List ByteArray) : Option (ByteArray × Int) := (chasemake_Stream_h06one.f s0_0 s0_1 l1).bind fun bt205 => (some (bt205.1, bt205.2))
set_option maxHeartbeats 8000000 in
set_option maxRecDepth 100000 in
theorem chasemake_Stream_One.calls (g : Nat) (s0_0 : List Int) (s0_1 : Int) (A1 : Option Addr) (c1 : Nat) (l1 : List ByteArray) (r1 : ByteArray) (r2 : Int) (w0 w : World) (hI : IsS25 w0 w g s0_0 s0_1) (hB : Below w0.heap.size w0 w) (hr1 : Kd.C Kd.string w A1 l1.length l1) (hc1 : l1.length ≤ c1) (hf1 : ∀ ad, A1 = some ad → 0 < l1.length → ad.block ≠ g) (h : chasemake_Stream_One.f s0_0 s0_1 l1 = some (r1, r2)) :
    Calls Tryd.prog 46 #[.pointer (some ⟨g, 0, none⟩), .slice A1 l1.length c1] w fun e w' => e = .returned (.string r1) ∧ IsS25 w0 w' g s0_0 r2 ∧ Below w0.heap.size w0 w' ∧ KeepBut w w' g none := by
  have HR1 := Aside0.mk hr1
  have HC1 := Aside0.mk hc1
  clear hr1 hc1
  have HI0 := Aside0.mk hI
  have HK := Aside0.mk (KeepBut.refl w g none)
  have HL := Aside0.mk hB.size
  clear hI
  have HW0 := Aside0.mk hB.size
  have HB := Aside0.mk hB
  clear hB
  have H : ((chasemake_Stream_h06one.f s0_0 s0_1 l1).bind fun bt205 => (some (bt205.1, bt205.2))) = some (r1, r2) := h
  clear h
  replace H := Option.bind_eq_some_iff.mp H
  obtain ⟨⟨t205, t206⟩, A30, H⟩ := H
  replace H : (some (t205, t206)) = some (r1, r2) := H
  have A3 := Aside0.mk A30
  clear A30
  simp only [Option.some.injEq, Prod.mk.injEq] at H
  obtain ⟨rfl, rfl⟩ := H
  go_enter Tryd.func46, Tryd.ntmps46
  go_wp2_with (first | ((with_reducible refine gate_callee (f := 75) rfl ?_); refine goesL_ (some 7) rfl rfl Tryd.func75 (by kernel_rfl) rfl #[.pointer (some ⟨g, 0, none⟩), .slice A1 l1.length c1] rfl (by (try simp only [List.map_toArray, List.map_cons, List.map_nil]); first | done | rfl | (simp only [List.length_drop, List.length_take]; rfl)) ?_; (with_reducible refine (chasemake_Stream_h06one.calls g s0_0 s0_1 _ _ l1 t205 t206 w0 _ ?side1 ?side2 ?side3 ?side4 ?side5 A3.out).mono ?_); (case side1 => repeat (first | (with_reducible first | exact HI0.out | apply IsS25.alloc | apply IsS25.drewN | apply IsS25.drew | apply IsS25.set_1) | exact HI0.out)); (case side2 => repeat (first | (with_reducible first | exact HB.out | apply below_alloc | apply pw_below_drewN | apply below_drew1 | refine below_set ?_ (IsS25.ge HI0.out)) | exact HB.out)); (case side3 => exact Kd.C_keep (⟨#[]⟩ : ByteArray) HR1.out (by repeat (first | (with_reducible first | exact HK.out | apply KeepBut.set_ | apply keep_drewN | apply keep_drew | apply keep_alloc) | exact HK.out)) hf1); (case side4 => exact HC1.out); (case side5 => exact hf1); rintro e w4 ⟨rfl, hi, hb, hk⟩; refine ⟨_, rfl, ?_⟩; have n0_ := Aside0.mk (KeepBut.trans (by repeat (first | (with_reducible first | exact HK.out | apply KeepBut.set_ | apply keep_drewN | apply keep_drew | apply keep_alloc) | exact HK.out)) hk (.inl rfl)); have n1_ := Aside0.mk (hb); have n2_ := Aside0.mk (hi); clear HK; clear HB; clear HI0; have HK := n0_; have HB := n1_; have HI0 := n2_; clear n0_ n1_ n2_; (try clear hb); (try clear hb2); (try clear hk); (try clear hi)))
  go_ret
  exact ⟨by first | rfl | (simp [errW_none, errW_some] <;> rfl) | (simp [*, errW_none, errW_some] <;> rfl), by repeat (first | (with_reducible first | exact HI0.out | apply IsS25.alloc | apply IsS25.drewN | apply IsS25.drew | apply IsS25.set_1) | exact HI0.out), by repeat (first | (with_reducible first | exact HB.out | apply below_alloc | apply pw_below_drewN | apply below_drew1 | refine below_set ?_ (IsS25.ge HI0.out)) | exact HB.out), by repeat (first | (with_reducible first | exact HK.out | apply KeepBut.set_ | apply keep_drewN | apply keep_drew | apply keep_alloc) | exact HK.out)⟩
def privilege_few.f (l0 : List (S46)) : Option ((List (S46)) × Int) := if (l0.length : Int) > 1000 then (some (([] : List (S46)), 2)) else (some (l0, 0))
set_option maxHeartbeats 8000000 in
set_option maxRecDepth 100000 in
theorem privilege_few.calls (P0_ : Nat → Prop) (u9000_ : Value) (l0 : List (S46)) (r1 : List (S46)) (r2 : Int) (w0 w : World) (hB : Below w0.heap.size w0 w) (ho0 : Kd.R k46 46 w w0.heap.size P0_ u9000_ l0) (h : privilege_few.f l0 = some (r1, r2)) :
    Calls Tryd.prog 85 #[u9000_] w fun e w' => ∃ v0_ : Value, e = .returned (.tuple #[v0_, .int .i64 r2]) ∧ Kd.R k46 46 w' w0.heap.size (fun k_ => (P0_ k_ ∨ w.heap.size ≤ k_)) v0_ r1 ∧ Below w0.heap.size w0 w' ∧ Kept w w' (fun k_ => P0_ k_) := by
  have HO0 := Aside0.mk (show Kd.R k46 46 w w0.heap.size (fun k_ => (P0_ k_ ∨ w.heap.size ≤ k_)) u9000_ l0 from Kd.R_mono ho0 (fun k_ hk => (.inl hk)))
  have HK := Aside0.mk (Kept.refl w (fun k_ => P0_ k_))
  have HW0 := Aside0.mk hB.size
  have HB := Aside0.mk hB
  clear hB
  have H : (if (l0.length : Int) > 1000 then (some (([] : List (S46)), 2)) else (some (l0, 0))) = some (r1, r2) := h
  clear h
  by_cases c2 : (l0.length : Int) > 1000
  · rw [if_pos c2] at H
    have c2b0 : decide (1000 < (l0.length : Int)) = true := decide_eq_true c2
    have c2b1 : decide (1000 < l0.length) = true := decide_eq_true (by omega)
    clear c2
    simp only [Option.some.injEq, Prod.mk.injEq] at H
    obtain ⟨rfl, rfl⟩ := H
    obtain ⟨Ao3, co3, eo3⟩ := Kd.R_slice HO0.out
    subst eo3
    go_enter Tryd.func85, Tryd.ntmps85
    go_wp2
    go_ret2
    exact ⟨_, by first | rfl | (simp [errW_none, errW_some] <;> rfl) | (simp [*, errW_none, errW_some] <;> rfl), by first | exact Kd.R_nil _ _ _ _ _ | exact Kd.N_nil _ _ _ _ _ | exact Kd.V_nil _ _ _ _ _ | exact Kd.Q_nil _ _ _ _ _ | exact Kd.S_nil _ _ _ _ _, by repeat (first | (with_reducible first | exact HB.out | apply below_alloc | apply pw_below_drewN | apply below_drew1) | exact HB.out), by repeat (first | (with_reducible first | exact HK.out | apply Kept.alloc | apply Kept.drewN | apply Kept.drew) | exact HK.out)⟩
  · rw [if_neg c2] at H
    have c2b0 : decide (1000 < (l0.length : Int)) = false := decide_eq_false c2
    have c2b1 : decide (1000 < l0.length) = false := decide_eq_false (by omega)
    clear c2
    simp only [Option.some.injEq, Prod.mk.injEq] at H
    obtain ⟨rfl, rfl⟩ := H
    obtain ⟨Ao4, co4, eo4⟩ := Kd.R_slice HO0.out
    subst eo4
    go_enter Tryd.func85, Tryd.ntmps85
    go_wp2
    go_ret2
    exact ⟨_, by first | rfl | (simp [errW_none, errW_some] <;> rfl) | (simp [*, errW_none, errW_some] <;> rfl), by (with_reducible repeat (first | apply Kd.R_alloc | apply Kd.R_drewN | apply Kd.R_drew)); exact HO0.out, by repeat (first | (with_reducible first | exact HB.out | apply below_alloc | apply pw_below_drewN | apply below_drew1) | exact HB.out), by repeat (first | (with_reducible first | exact HK.out | apply Kept.alloc | apply Kept.drewN | apply Kept.drew) | exact HK.out)⟩
def api_Span_141.ok (x : S46) : Prop := 0 ≤ x.f0 ∧ x.f0 ≤ 1099511627776
instance api_Span_141.dec (x : S46) : Decidable (api_Span_141.ok x) := inferInstanceAs (Decidable (_ ∧ _))
abbrev api_Span_141.Sp := {x : S46 // api_Span_141.ok x}
instance api_Span_141.inh : Inhabited api_Span_141.Sp := ⟨⟨z46, by decide⟩⟩
def api_Span_141.enc (x : api_Span_141.Sp) : List Value := [.int .i64 x.1.f0, .int .i64 x.1.f1]
def api_Span_141.enc0 (x : S46) : List Value := [.int .i64 x.f0, .int .i64 x.f1]
def api_Span_141.kd : Kd api_Span_141.Sp := Kd.iso k46 (fun x => x.1)
theorem api_Span_141.flat0 : Flat k46 api_Span_141.enc0 := ⟨fun h => k46_open h, fun w base ok x => k46_mkM w base ok x, fun x u hu => by
    simp only [api_Span_141.enc0, List.mem_cons, List.not_mem_nil, or_false] at hu
    rcases hu with rfl | rfl <;> rfl, fun _ => rfl, by decide⟩
theorem api_Span_141.flat : Flat api_Span_141.kd api_Span_141.enc := ⟨fun {w x cs} h => k46_open (w := w) (x := x.1) h, fun w base ok x => k46_mkM w base ok x.1, fun x u hu => by
    simp only [api_Span_141.enc, List.mem_cons, List.not_mem_nil, or_false] at hu
    rcases hu with rfl | rfl <;> rfl, fun _ => rfl, by decide⟩
def api_Span_141.cf (x y : api_Span_141.Sp) : Int := x.1.f0 - y.1.f0
theorem api_Span_141.swo : Go.Sort.SWO (ltOf api_Span_141.cf) where
  irrefl x := by simp [ltOf, api_Span_141.cf]
  trans x y z h1 h2 := by
    have a : x.1.f0 - y.1.f0 < 0 := of_decide_eq_true h1
    have b : y.1.f0 - z.1.f0 < 0 := of_decide_eq_true h2
    exact decide_eq_true (show x.1.f0 - z.1.f0 < 0 by omega)
  ntrans x y z h1 h2 := by
    have a : ¬ x.1.f0 - y.1.f0 < 0 := of_decide_eq_false h1
    have b : ¬ y.1.f0 - z.1.f0 < 0 := of_decide_eq_false h2
    exact decide_eq_false (show ¬ x.1.f0 - z.1.f0 < 0 by omega)
theorem api_Span_141.flat_map (l : List api_Span_141.Sp) : (l.map (fun x => x.1)).flatMap api_Span_141.enc0 = l.flatMap api_Span_141.enc := by
  rw [List.flatMap_map]
  rfl
set_option maxHeartbeats 1000000 in
theorem api_Span_141.closure (x y : api_Span_141.Sp) (W : World) : Calls Tryd.prog 142 #[.agg #[.int .i64 x.1.f0, .int .i64 x.1.f1], .agg #[.int .i64 y.1.f0, .int .i64 y.1.f1]] W fun e w' => e = .returned (.int .i64 (api_Span_141.cf x y)) ∧ ∃ q os', w' = Go.Sort.grow (W.drewN q) os' := by
  unfold api_Span_141.cf
  have h1 := x.2.1
  have h2 := x.2.2
  have h3 := y.2.1
  have h4 := y.2.2
  generalize x.1.f0 = a at *
  generalize y.1.f0 = b at *
  generalize x.1.f1 = c at *
  generalize y.1.f1 = d at *
  clear x y
  go_enter Tryd.func142, Tryd.ntmps142
  go_wp2
  go_ret
  exact ⟨rfl, 0, _, by rw [Go.Sort.alloc_eq_grow, Go.Sort.alloc_eq_grow, Go.Sort.grow_grow]; rfl⟩
def api_Span_141.f (l0 : List S46) (a1 : Nat) : Option (List S46) := if h : a1 = 142 ∧ (∀ x ∈ l0, api_Span_141.ok x) ∧ l0.length < 4611686018427387904 then (some ((Go.Sort.pdq (ltOf api_Span_141.cf) (l0.attachWith api_Span_141.ok h.2.1).toArray 0 (l0.attachWith api_Span_141.ok h.2.1).toArray.size (Lib.bitLen (l0.attachWith api_Span_141.ok h.2.1).toArray.size) true true).toList.map (fun x => x.1))) else (none)
set_option maxHeartbeats 8000000 in
set_option maxRecDepth 100000 in
theorem api_Span_141.calls (P0_ : Nat → Prop) (u9000_ : Value) (l0 : List (S46)) (a1 : Nat) (r : List (S46)) (w0 w : World) (hB : Below w0.heap.size w0 w) (ho0 : Kd.R k46 46 w w0.heap.size P0_ u9000_ l0) (h : api_Span_141.f l0 a1 = some r) :
    Calls Tryd.prog 141 #[u9000_, .func (.func a1) #[] #[]] w fun e w' => e = .returned (.tuple #[]) ∧ Kd.R k46 46 w' w0.heap.size (fun k_ => (P0_ k_ ∨ w.heap.size ≤ k_)) u9000_ r ∧ Below w0.heap.size w0 w' ∧ Kept w w' (fun k_ => P0_ k_) := by
  unfold api_Span_141.f at h
  by_cases hc : a1 = 142 ∧ (∀ x ∈ l0, api_Span_141.ok x) ∧ l0.length < 4611686018427387904
  · rw [dif_pos hc] at h
    obtain rfl := Option.some.inj h
    clear h
    obtain ⟨rfl, hok, hlen⟩ := hc
    obtain ⟨L, hL⟩ : ∃ L : List api_Span_141.Sp, l0.attachWith api_Span_141.ok hok = L := ⟨_, rfl⟩
    have hl : l0 = L.map (fun x => x.1) := by rw [← hL]; simp
    rw [hL]
    clear hL
    subst hl
    clear hok
    have hP2 := Go.Sort.pdq_sorts (ltOf api_Span_141.cf) api_Span_141.swo L.toArray 0 L.toArray.size (Lib.bitLen L.toArray.size) true true (Nat.zero_le _) (Nat.le_refl _) (Or.inl rfl)
    obtain ⟨d', hd'⟩ : ∃ d', Go.Sort.pdq (ltOf api_Span_141.cf) L.toArray 0 L.toArray.size (Lib.bitLen L.toArray.size) true true = d' := ⟨_, rfl⟩
    rw [hd'] at hP2 ⊢
    have hsz : d'.size = L.length := by simpa using hP2.1.1
    obtain ⟨hP, ho⟩ := R_flat api_Span_141.flat0 ho0
    rw [List.length_map] at ho hlen
    rcases ho.2 with ⟨rfl, hz⟩ | ⟨g, cap, cur, rfl, hg, hb, hn, hcap, hs, ht⟩
    · obtain rfl := List.eq_nil_of_length_eq_zero hz
      have hd0 : d' = #[] := Array.eq_empty_of_size_eq_zero (by simpa using hsz)
      subst hd0
      refine (AnyF.slices_SortFunc_none { Tryd.sortf141 with } none 0 _ w).mono ?_
      rintro e w' ⟨rfl, rfl⟩
      exact ⟨rfl, Kd.R_nil _ _ _ _ _, hB, Kept.refl _ _⟩
    · have hH := holdsK_of_row (xs := L) api_Span_141.flat hb (by rw [← api_Span_141.flat_map]; exact ht)
      have hg1 : g < w.heap.size := (Array.getElem?_eq_some_iff.1 hb).1
      have hcall := AnyQ.slices_SortFunc_eq Tryd.sortf141 api_Span_141.kd.sz Tryd.isAgg46 Tryd.sizeOf46 api_Span_141.enc api_Span_141.flat.len api_Span_141.flat.one api_Span_141.cf api_Span_141.swo 142 #[] g 0 cap L.toArray w (enters_of Tryd.func142 (by kernel_rfl) rfl) (fun _ _ _ _ x y => api_Span_141.closure x y _) hH hg1 (by simpa using hlen)
      rw [hd'] at hcall
      refine hcall.mono ?_
      rintro e w' ⟨rfl, q, os, rfl⟩
      obtain ⟨o1, o2, o3⟩ := putK_out (n := q) (os := os) (ts := d'.toList) api_Span_141.flat hB (hP g rfl) hg hb (by rw [Array.length_toList, hsz]; exact hn) hcap hs
      rw [Array.length_toList, hsz] at o1
      obtain ⟨p1, p2⟩ := R_flat api_Span_141.flat o1
      refine ⟨rfl, R_of_flat api_Span_141.flat0 p1 ?_, o2, o3⟩
      rw [api_Span_141.flat_map, List.length_map]
      exact p2
  · rw [dif_neg hc] at h
    exact absurd h (by simp)
end Go.Proofs.YtbamfhcifpfocaaDoor.Pp
