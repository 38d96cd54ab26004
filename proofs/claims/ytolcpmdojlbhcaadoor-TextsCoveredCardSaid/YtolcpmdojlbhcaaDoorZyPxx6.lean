/- A part of the proof of textsCovered. No conditions. Laid by program over the kit's print and words. -/
import Derived.Test.YtolcpmdojlbhcaaDoorZyPxx0
import Derived.Test.YtolcpmdojlbhcaaDoorZyPxx1
import Derived.Test.YtolcpmdojlbhcaaDoorZyPxx5
namespace Go.Proofs.YtolcpmdojlbhcaaDoor.Px
open Go.RowKit Go.Proofs.YtolcpmdojlbhcaaDoor.GBase Go.Proofs.YtolcpmdojlbhcaaDoorW.PrintWords Go.Proofs.YtolcpmdojlbhcaaDoorW.PrintLast Go.Proofs.YtolcpmdojlbhcaaDoorW.PrintMore
attribute [local go_sem] str_leq max2_int min2_int max_two min_two max_three min_three max_four min_four
set_option linter.unusedVariables false
set_option linter.unusedSimpArgs false
attribute [local go_sem high] eqA46
set_option maxHeartbeats 8000000 in
set_option maxRecDepth 100000 in
theorem Z12.calls (k : Nat) (g : Nat) (s0_0 : List Int) (s0_1 : Int) (r1 : ByteArray) (r2 : Int) (w0 w : World) (hI : IsS25 w0 w g s0_0 s0_1) (hB : Below w0.heap.size w0 w) (h : Z12.f k s0_0 s0_1 = some (r1, r2)) :
  Calls Tryd.prog 15 #[.pointer (some ⟨g, 0, none⟩)] w fun e w' => e = .returned (.string r1) ∧ IsS25 w0 w' g s0_0 r2 ∧ Below w0.heap.size w0 w' ∧ KeepBut w w' g none := by
 have HI0 := am_ hI
 have HK := am_ (KeepBut.refl w g none)
 have HL := am_ hB.size; clear hI; have HW0 := am_ hB.size; have HB := am_ hB; clear hB
 have H : ((Z42.f s0_0 s0_1 10).bind fun bt183 => (Z12.l0 k (⟨#[]⟩ : ByteArray) bt183.1 0 s0_0 bt183.2)) = some (r1, r2) := h
 clear h; replace H := Option.bind_eq_some_iff.mp H
 obtain ⟨⟨t183, t184⟩, A20, H⟩ := H
 replace H : (Z12.l0 k (⟨#[]⟩ : ByteArray) t183 0 s0_0 t184) = some (r1, r2) := H
 have A2 := am_ A20; clear A20
 have H' := am_ H
 clear H
 go_enter Tryd.func15, Tryd.ntmps15
 go_wp2_with (first | ((with_reducible refine gate_callee (f := 36) rfl ?_); refine goesL_ (some 5) rfl rfl Tryd.func36 (by kernel_rfl) rfl #[.pointer (some ⟨g, 0, none⟩), .int .i64 10] rfl gl_ ?_; (with_reducible refine (Z42.calls g s0_0 s0_1 10 t183 t184 w0 _ ?side1 ?side2 A2.out).mono ?_); (case side1 => exact is_ HI0.out); (case side2 => exact bs_ HB.out (IsS25.ge HI0.out)); rintro e w3 ⟨rfl, hi, hb, hk⟩; refine ⟨_, rfl, ?_⟩; have n0_ := am_ (KeepBut.trans (kk_ HK.out) hk (.inl rfl)); have n1_ := am_ (hb); have n2_ := am_ (hi); clear HK; clear HB; clear HI0; have HK := n0_; have HB := n1_; have HI0 := n2_; clear n0_ n1_ n2_; (try clear hb); (try clear hb2); (try clear hk); (try clear hi)))
 go_loopg [3, 6] k (fun kq v3 v6 w' => ∃ (x3_1 : ByteArray) (x6_1 : Int) (x1001_1 : Int), v3 = .string x3_1 ∧ v6 = .int .i64 x6_1 ∧ Aside0 (Z12.l0 kq x3_1 t183 x6_1 s0_0 x1001_1 = some (r1, r2)) ∧ Aside0 (kq ≤ k) ∧ Aside0 (IsS25 w0 w' g s0_0 x1001_1) ∧ Aside0 (KeepBut w w' g none) ∧ Aside0 (Below w0.heap.size w0 w'))
 case atStart => exact ⟨((⟨#[]⟩ : ByteArray)), (0), (t184), tr_, tr_, H', ⟨Nat.le_refl _⟩, ⟨is_ HI0.out⟩, ⟨kk_ HK.out⟩, ⟨bs_ HB.out (IsS25.ge HI0.out)⟩⟩
 case round =>
  clear H'; (try clear c1); (try clear p2); (try clear c3); obtain ⟨x3_1, x6_1, x1001_1, rfl, rfl, HA, HK1, HI0, HK, HB⟩ := hrel
  cases gk with
  | zero => exact absurd HA.out (by simp [Z12.l0])
  | succ k1 =>
   have H := HA.out
   clear HA
   simp only [Z12.l0] at H
   by_cases c4 : x6_1 < t183
   ·rw [if_pos c4] at H
    have c4b0 := decide_eq_true c4; clear c4
    obtain ⟨y185, hy185⟩ : ∃ y_ : List ByteArray, y_ = (([(⟨#[109, 101, 109, 111]⟩ : ByteArray), (⟨#[77, 101, 109, 111]⟩ : ByteArray), (⟨#[109, 101, 109, 111, 115]⟩ : ByteArray), (⟨#[115, 101, 101, 32, 116, 104, 101]⟩ : ByteArray), (⟨#[195, 169, 116, 195, 169]⟩ : ByteArray), (⟨#[115, 101, 99, 114, 101, 116]⟩ : ByteArray), (⟨#[83, 69, 67, 82, 69, 84, 32, 112, 108, 97, 110]⟩ : ByteArray), (⟨#[97]⟩ : ByteArray), (⟨#[120, 45, 121]⟩ : ByteArray), (⟨#[51, 114, 100]⟩ : ByteArray)] : List ByteArray)) := ⟨_, rfl⟩
    replace H : ((Z44.f s0_0 x1001_1 y185).bind fun bt188 => ((Z44.f s0_0 bt188.2 (([(⟨#[32]⟩ : ByteArray), (⟨#[32]⟩ : ByteArray), (⟨#[10]⟩ : ByteArray), (⟨#[44, 32]⟩ : ByteArray), (⟨#[]⟩ : ByteArray)] : List ByteArray))).bind fun bt193 => (if bt188.1.size + bt193.1.size ≤ 9223372036854775807 then (if x3_1.size + (bt188.1 ++ bt193.1).size ≤ 9223372036854775807 then (Z12.l0 k1 (x3_1 ++ (bt188.1 ++ bt193.1)) t183 (wrap64 (x6_1 + 1)) s0_0 bt193.2) else (none)) else (none)))) = some (r1, r2) := by first | (rw [hy185]; with_reducible exact H) | (have H2_ := (Option.bind_some _ _).symm.trans H; rw [hy185]; with_reducible exact H2_) | (have H2_ := (Option.bind_some _ _).symm.trans H; with_reducible exact H2_) | with_reducible exact H | (rw [hy185]; exact H) | exact H
    have Ny185 := am_ hy185; clear hy185; replace H := Option.bind_eq_some_iff.mp H
    obtain ⟨⟨t188, t189⟩, A50, H⟩ := H
    replace H : ((Z44.f s0_0 t189 (([(⟨#[32]⟩ : ByteArray), (⟨#[32]⟩ : ByteArray), (⟨#[10]⟩ : ByteArray), (⟨#[44, 32]⟩ : ByteArray), (⟨#[]⟩ : ByteArray)] : List ByteArray))).bind fun bt193 => (if t188.size + bt193.1.size ≤ 9223372036854775807 then (if x3_1.size + (t188 ++ bt193.1).size ≤ 9223372036854775807 then (Z12.l0 k1 (x3_1 ++ (t188 ++ bt193.1)) t183 (wrap64 (x6_1 + 1)) s0_0 bt193.2) else (none)) else (none))) = some (r1, r2) := H
    have A5 := am_ A50; clear A50
    obtain ⟨y190, hy190⟩ : ∃ y_ : List ByteArray, y_ = (([(⟨#[32]⟩ : ByteArray), (⟨#[32]⟩ : ByteArray), (⟨#[10]⟩ : ByteArray), (⟨#[44, 32]⟩ : ByteArray), (⟨#[]⟩ : ByteArray)] : List ByteArray)) := ⟨_, rfl⟩
    replace H : ((Z44.f s0_0 t189 y190).bind fun bt193 => (if t188.size + bt193.1.size ≤ 9223372036854775807 then (if x3_1.size + (t188 ++ bt193.1).size ≤ 9223372036854775807 then (Z12.l0 k1 (x3_1 ++ (t188 ++ bt193.1)) t183 (wrap64 (x6_1 + 1)) s0_0 bt193.2) else (none)) else (none))) = some (r1, r2) := by first | (rw [hy190]; with_reducible exact H) | (have H2_ := (Option.bind_some _ _).symm.trans H; rw [hy190]; with_reducible exact H2_) | (have H2_ := (Option.bind_some _ _).symm.trans H; with_reducible exact H2_) | with_reducible exact H | (rw [hy190]; exact H) | exact H
    have Ny190 := am_ hy190; clear hy190; replace H := Option.bind_eq_some_iff.mp H
    obtain ⟨⟨t193, t194⟩, A60, H⟩ := H
    replace H : (if t188.size + t193.size ≤ 9223372036854775807 then (if x3_1.size + (t188 ++ t193).size ≤ 9223372036854775807 then (Z12.l0 k1 (x3_1 ++ (t188 ++ t193)) t183 (wrap64 (x6_1 + 1)) s0_0 t194) else (none)) else (none)) = some (r1, r2) := H
    have A6 := am_ A60; clear A60
    by_cases c7 : t188.size + t193.size ≤ 9223372036854775807
    case neg => exact (nn_ c7 H).elim
    rw [if_pos c7] at H; have c7b0 := eq_true c7; have c7b1 := decide_eq_true c7
    try have c7b2 : (9223372036854775807 < t188.size + t193.size) = False := eq_false (Nat.not_lt.2 c7)
    by_cases c8 : x3_1.size + (t188 ++ t193).size ≤ 9223372036854775807
    case neg => exact (nn_ c8 H).elim
    rw [if_pos c8] at H; have c8b0 := eq_true c8; have c8b1 := decide_eq_true c8
    try have c8b2 : (9223372036854775807 < x3_1.size + (t188 ++ t193).size) = False := eq_false (Nat.not_lt.2 c8)
    try (have c8b3 := c8b2; simp only [ByteArray.size_append', ByteArray.size_mk', List.size_toArray, List.length_cons, List.length_nil, Nat.zero_add, Nat.reduceAdd] at c8b3)
    have H' := am_ H
    clear H
    go_wp2_with (first | ((with_reducible refine gate_dst (N := 10) rfl ?_); refine Kd.R_lit Kd.string _ 9 ?hg (N := 10) ?hd (xs := ([(⟨#[109, 101, 109, 111]⟩ : ByteArray), (⟨#[77, 101, 109, 111]⟩ : ByteArray), (⟨#[109, 101, 109, 111, 115]⟩ : ByteArray), (⟨#[115, 101, 101, 32, 116, 104, 101]⟩ : ByteArray), (⟨#[195, 169, 116, 195, 169]⟩ : ByteArray), (⟨#[115, 101, 99, 114, 101, 116]⟩ : ByteArray), (⟨#[83, 69, 67, 82, 69, 84, 32, 112, 108, 97, 110]⟩ : ByteArray), (⟨#[97]⟩ : ByteArray), (⟨#[120, 45, 121]⟩ : ByteArray), (⟨#[51, 114, 100]⟩ : ByteArray)] : List ByteArray)) (inner := [.string (⟨#[109, 101, 109, 111]⟩ : ByteArray), .string (⟨#[77, 101, 109, 111]⟩ : ByteArray), .string (⟨#[109, 101, 109, 111, 115]⟩ : ByteArray), .string (⟨#[115, 101, 101, 32, 116, 104, 101]⟩ : ByteArray), .string (⟨#[195, 169, 116, 195, 169]⟩ : ByteArray), .string (⟨#[115, 101, 99, 114, 101, 116]⟩ : ByteArray), .string (⟨#[83, 69, 67, 82, 69, 84, 32, 112, 108, 97, 110]⟩ : ByteArray), .string (⟨#[97]⟩ : ByteArray), .string (⟨#[120, 45, 121]⟩ : ByteArray), .string (⟨#[51, 114, 100]⟩ : ByteArray)]) (ok := fun _ => True) (okp := fun _ => True) ?hr ?hp (fun _ hk => hk) trivial (Below.refl _ _) (Nat.le_refl _) (by simp) ?_; (case hd => rfl); (case hg => rfl); (case hr => first | (go_simp; done) | (go_simp; rfl)); (case hp => exact (Reps.one (show Kd.M Kd.string _ _ _ (⟨#[109, 101, 109, 111]⟩ : ByteArray) [.string (⟨#[109, 101, 109, 111]⟩ : ByteArray)] from rfl) (Reps.one (show Kd.M Kd.string _ _ _ (⟨#[77, 101, 109, 111]⟩ : ByteArray) [.string (⟨#[77, 101, 109, 111]⟩ : ByteArray)] from rfl) (Reps.one (show Kd.M Kd.string _ _ _ (⟨#[109, 101, 109, 111, 115]⟩ : ByteArray) [.string (⟨#[109, 101, 109, 111, 115]⟩ : ByteArray)] from rfl) (Reps.one (show Kd.M Kd.string _ _ _ (⟨#[115, 101, 101, 32, 116, 104, 101]⟩ : ByteArray) [.string (⟨#[115, 101, 101, 32, 116, 104, 101]⟩ : ByteArray)] from rfl) (Reps.one (show Kd.M Kd.string _ _ _ (⟨#[195, 169, 116, 195, 169]⟩ : ByteArray) [.string (⟨#[195, 169, 116, 195, 169]⟩ : ByteArray)] from rfl) (Reps.one (show Kd.M Kd.string _ _ _ (⟨#[115, 101, 99, 114, 101, 116]⟩ : ByteArray) [.string (⟨#[115, 101, 99, 114, 101, 116]⟩ : ByteArray)] from rfl) (Reps.one (show Kd.M Kd.string _ _ _ (⟨#[83, 69, 67, 82, 69, 84, 32, 112, 108, 97, 110]⟩ : ByteArray) [.string (⟨#[83, 69, 67, 82, 69, 84, 32, 112, 108, 97, 110]⟩ : ByteArray)] from rfl) (Reps.one (show Kd.M Kd.string _ _ _ (⟨#[97]⟩ : ByteArray) [.string (⟨#[97]⟩ : ByteArray)] from rfl) (Reps.one (show Kd.M Kd.string _ _ _ (⟨#[120, 45, 121]⟩ : ByteArray) [.string (⟨#[120, 45, 121]⟩ : ByteArray)] from rfl) (Reps.one (show Kd.M Kd.string _ _ _ (⟨#[51, 114, 100]⟩ : ByteArray) [.string (⟨#[51, 114, 100]⟩ : ByteArray)] from rfl) (Reps.none _ _)))))))))))); intro v186 w9 ho10 hb hg_ hnew_; clear hg_ hnew_; (first | rw [← Ny185.out] at ho10 | (simp only [Int.reduceToNat] at ho10; rw [← Ny185.out] at ho10)); have n0_ := am_ (Kd.R_lower ho10 (keep_size (w := w) (g := g) (row := none) (kk_ HK.out))); have n1_ := am_ (IsS25.below (is_ HI0.out) hb); have n2_ := am_ (KeepBut.trans (kk_ HK.out) (KeepBut.of_below hb g none) (.inl rfl)); have n3_ := am_ (below_step (bs_ HB.out (IsS25.ge HI0.out)) hb); clear HI0; clear HK; clear HB; have HO187 := n0_; have HI0 := n1_; have HK := n2_; have HB := n3_; clear n0_ n1_ n2_ n3_; clear hb ho10; obtain ⟨Ao11, co11, eo11⟩ := Kd.R_slice HO187.out; subst eo11) | ((with_reducible refine gate_callee (f := 38) rfl ?_); refine goesL_ (some 11) rfl rfl Tryd.func38 (by kernel_rfl) rfl #[.pointer (some ⟨g, 0, none⟩), .slice Ao11 y185.length co11] rfl gl_ ?_; (with_reducible refine (Z44.calls g s0_0 x1001_1 _ _ y185 t188 t189 w0 _ ?side1 ?side2 ?side3 ?side4 ?side5 A5.out).mono ?_); (case side1 => exact is_ HI0.out); (case side2 => exact bs_ HB.out (IsS25.ge HI0.out)); (case side3 => exact cc_ (Kd.R_reads' HO187.out).2.2); (case side4 => exact (Kd.R_reads' HO187.out).2.1); (case side5 => exact far_slice (IsS25.own_ne HI0.out HO187.out (by decide))); rintro e w12 ⟨rfl, hi, hb, hk⟩; refine ⟨_, rfl, ?_⟩; have n0_ := am_ (Kd.R_mono (Kd.R_keep (IsS25.apart (show IsS25 w0 _ g s0_0 x1001_1 from is_ HI0.out) (rr_ HO187.out) (by decide)) hk (fun _ h => h.2)) (fun _ h => h.1)); have n1_ := am_ (KeepBut.trans (kk_ HK.out) hk (.inl rfl)); have n2_ := am_ (hb); have n3_ := am_ (hi); clear HO187; clear HK; clear HB; clear HI0; have HO187 := n0_; have HK := n1_; have HB := n2_; have HI0 := n3_; clear n0_ n1_ n2_ n3_; (try clear hb); (try clear hb2); (try clear hk); (try clear hi)) | ((with_reducible refine gate_dst (N := 13) rfl ?_); refine Kd.R_lit Kd.string _ 9 ?hg (N := 13) ?hd (xs := ([(⟨#[32]⟩ : ByteArray), (⟨#[32]⟩ : ByteArray), (⟨#[10]⟩ : ByteArray), (⟨#[44, 32]⟩ : ByteArray), (⟨#[]⟩ : ByteArray)] : List ByteArray)) (inner := [.string (⟨#[32]⟩ : ByteArray), .string (⟨#[32]⟩ : ByteArray), .string (⟨#[10]⟩ : ByteArray), .string (⟨#[44, 32]⟩ : ByteArray), .string (⟨#[]⟩ : ByteArray)]) (ok := fun _ => True) (okp := fun _ => True) ?hr ?hp (fun _ hk => hk) trivial (Below.refl _ _) (Nat.le_refl _) (by simp) ?_; (case hd => rfl); (case hg => rfl); (case hr => first | (go_simp; done) | (go_simp; rfl)); (case hp => exact (Reps.one (show Kd.M Kd.string _ _ _ (⟨#[32]⟩ : ByteArray) [.string (⟨#[32]⟩ : ByteArray)] from rfl) (Reps.one (show Kd.M Kd.string _ _ _ (⟨#[32]⟩ : ByteArray) [.string (⟨#[32]⟩ : ByteArray)] from rfl) (Reps.one (show Kd.M Kd.string _ _ _ (⟨#[10]⟩ : ByteArray) [.string (⟨#[10]⟩ : ByteArray)] from rfl) (Reps.one (show Kd.M Kd.string _ _ _ (⟨#[44, 32]⟩ : ByteArray) [.string (⟨#[44, 32]⟩ : ByteArray)] from rfl) (Reps.one (show Kd.M Kd.string _ _ _ (⟨#[]⟩ : ByteArray) [.string (⟨#[]⟩ : ByteArray)] from rfl) (Reps.none _ _))))))); intro v191 w13 ho14 hb hg_ hnew_; clear hg_ hnew_; (first | rw [← Ny190.out] at ho14 | (simp only [Int.reduceToNat] at ho14; rw [← Ny190.out] at ho14)); have n0_ := am_ (Kd.R_elder' (rr_ HO187.out) (Kd.R_base ho14) hb); have n1_ := am_ (Kd.R_lower (Kd.R_new' ho14 (Kd.R_lt (rr_ HO187.out))) (keep_size (w := w) (g := g) (row := none) (kk_ HK.out))); have n2_ := am_ (IsS25.below (is_ HI0.out) hb); have n3_ := am_ (KeepBut.trans (kk_ HK.out) (KeepBut.of_below hb g none) (.inl rfl)); have n4_ := am_ (below_step (bs_ HB.out (IsS25.ge HI0.out)) hb); clear HO187; clear HI0; clear HK; clear HB; have HO187 := n0_; have HO192 := n1_; have HI0 := n2_; have HK := n3_; have HB := n4_; clear n0_ n1_ n2_ n3_ n4_; clear hb ho14; obtain ⟨Ao15, co15, eo15⟩ := Kd.R_slice HO192.out; subst eo15) | ((with_reducible refine gate_callee (f := 38) rfl ?_); refine goesL_ (some 14) rfl rfl Tryd.func38 (by kernel_rfl) rfl #[.pointer (some ⟨g, 0, none⟩), .slice Ao15 y190.length co15] rfl gl_ ?_; (with_reducible refine (Z44.calls g s0_0 t189 _ _ y190 t193 t194 w0 _ ?side1 ?side2 ?side3 ?side4 ?side5 A6.out).mono ?_); (case side1 => exact is_ HI0.out); (case side2 => exact bs_ HB.out (IsS25.ge HI0.out)); (case side3 => exact cc_ (Kd.R_reads' HO192.out).2.2); (case side4 => exact (Kd.R_reads' HO192.out).2.1); (case side5 => exact far_slice (IsS25.own_ne HI0.out HO192.out (by decide))); rintro e w16 ⟨rfl, hi, hb, hk⟩; refine ⟨_, rfl, ?_⟩; have n0_ := am_ (Kd.R_mono (Kd.R_keep (IsS25.apart (show IsS25 w0 _ g s0_0 t189 from is_ HI0.out) (rr_ HO187.out) (by decide)) hk (fun _ h => h.2)) (fun _ h => h.1)); have n1_ := am_ (Kd.R_mono (Kd.R_keep (IsS25.apart (show IsS25 w0 _ g s0_0 t189 from is_ HI0.out) (rr_ HO192.out) (by decide)) hk (fun _ h => h.2)) (fun _ h => h.1)); have n2_ := am_ (KeepBut.trans (kk_ HK.out) hk (.inl rfl)); have n3_ := am_ (hb); have n4_ := am_ (hi); clear HO187; clear HO192; clear HK; clear HB; clear HI0; have HO187 := n0_; have HO192 := n1_; have HK := n2_; have HB := n3_; have HI0 := n4_; clear n0_ n1_ n2_ n3_ n4_; (try clear hb); (try clear hb2); (try clear hk); (try clear hi)))
    go_roundg k1
    case measure => have := HK1.out; omega
    case rel => exact ⟨(x3_1 ++ (t188 ++ t193)), (wrap64 (x6_1 + 1)), (t194), tr_, tr_, H', ⟨by have := HK1.out; omega⟩, ⟨is_ HI0.out⟩, ⟨kk_ HK.out⟩, ⟨bs_ HB.out (IsS25.ge HI0.out)⟩⟩
   ·rw [if_neg c4] at H
    have c4b0 : decide (x6_1 < t183) = false := decide_eq_false c4
    clear c4; have HC17 := am_ H; clear H
    go_upto_region 6 with (fail)
    go_cut [24] (fun v24 wc => ∃ (kq : Nat) (x24_16 : Bool) (x1001_16 : Int), v24 = .bool x24_16 ∧ Aside0 (Z12.j1 kq x3_1 x24_16 s0_0 x1001_16 = some (r1, r2)) ∧ Aside0 (kq ≤ k1) ∧ Aside0 (IsS25 w0 wc g s0_0 x1001_16) ∧ Aside0 (KeepBut w wc g none) ∧ Aside0 (Below w0.heap.size w0 wc))
    case first =>
     have H := HC17.out
     clear HC17
     by_cases c18 : x3_1.toList = ([] : List UInt8)
     ·rw [if_pos c18] at H
      have c18b0 : (x3_1.toList == ([] : List UInt8)) = true := beq_iff_eq.mpr c18
      have c18b1 : (x3_1.toList != ([] : List UInt8)) = false := bne_eq_false_iff_eq.mpr c18
      clear c18
      (first | rw [c18b0] | (simp only [i64_w, i32_w]; rw [c18b0]) | skip)
      have H' := am_ H
      clear H
      go_wp2
      go_meet
      case rel => exact ⟨_, (false), (x1001_1), tr_, H', ⟨by have := HK1.out; first | omega | exact Nat.le_refl _⟩, ⟨is_ HI0.out⟩, ⟨kk_ HK.out⟩, ⟨bs_ HB.out (IsS25.ge HI0.out)⟩⟩
     ·rw [if_neg c18] at H
      have c18b0 : (x3_1.toList == ([] : List UInt8)) = false := beq_eq_false_iff_ne.mpr c18
      have c18b1 : (x3_1.toList != ([] : List UInt8)) = true := bne_iff_ne.mpr c18
      (first | rw [c18b0] | (simp only [i64_w, i32_w]; rw [c18b0]) | skip)
      replace H := Option.bind_eq_some_iff.mp H
      obtain ⟨⟨t195, t196⟩, A190, H⟩ := H
      replace H : (Z12.j1 k1 x3_1 (!t195) s0_0 t196) = some (r1, r2) := H
      have A19 := am_ A190; clear A190
      have H' := am_ H
      clear H
      go_wp2_with (first | (go_at_call 50; (with_reducible refine (Z45.calls g s0_0 x1001_1 12 t195 t196 w0 _ ?side1 ?side2 A19.out).mono ?_); (case side1 => exact is_ HI0.out); (case side2 => exact bs_ HB.out (IsS25.ge HI0.out)); rintro e w20 ⟨rfl, hi, hb, hk⟩; have n0_ := am_ (KeepBut.trans (kk_ HK.out) hk (.inl rfl)); have n1_ := am_ (hb); have n2_ := am_ (hi); clear HK; clear HB; clear HI0; have HK := n0_; have HB := n1_; have HI0 := n2_; clear n0_ n1_ n2_; (try clear hb); (try clear hb2); (try clear hk); (try clear hi)))
      go_meet
      case rel => exact ⟨_, (!t195), (t196), tr_, H', ⟨by have := HK1.out; first | omega | exact Nat.le_refl _⟩, ⟨is_ HI0.out⟩, ⟨kk_ HK.out⟩, ⟨bs_ HB.out (IsS25.ge HI0.out)⟩⟩
    case rest =>
     clear HC17; (try clear c1); (try clear p2); (try clear c3); (try clear c4); (try clear c4b0); (try clear p6); (try clear c7); (try clear c7b0); (try clear c7b1); (try clear c7b2); (try clear c8); (try clear c8b0); (try clear c8b1); (try clear c8b2); (try clear c15); (try clear c18); (try clear c18b0); (try clear c18b1); (try clear p2); obtain ⟨kq, x24_16, x1001_16, rfl, HA, HJ16, HI0, HK, HB⟩ := hcut
     cases kq with
     | zero => exact absurd HA.out (by simp [Z12.j1])
     | succ kj16 =>
      have H := HA.out
      clear HA
      simp only [Z12.j1] at H
      have HC21 := am_ H; clear H
      go_upto_if 24 with (fail)
      go_cut [3] (fun v3 wc => ∃ (kq : Nat) (x3_20 : ByteArray), v3 = .string x3_20 ∧ Aside0 (Z12.j2 kq x3_20 s0_0 x1001_16 = some (r1, r2)) ∧ Aside0 (kq ≤ kj16) ∧ Aside0 (IsS25 w0 wc g s0_0 x1001_16) ∧ Aside0 (KeepBut w wc g none) ∧ Aside0 (Below w0.heap.size w0 wc))
      case first =>
       have H := HC21.out
       clear HC21
       by_cases c22 : x24_16 = true
       ·subst c22
        have H1 : (if x3_1.size + 1 ≤ 9223372036854775807 then (Z12.j2 kj16 (x3_1 ++ (⟨#[10]⟩ : ByteArray)) s0_0 x1001_16) else (none)) = some (r1, r2) := by rw [if_pos rfl] at H; exact H
        clear H
        have H := H1
        clear H1
        by_cases c23 : x3_1.size + 1 ≤ 9223372036854775807
        case neg => exact (nn_ c23 H).elim
        rw [if_pos c23] at H; have c23b0 := eq_true c23; have c23b1 := decide_eq_true c23
        try have c23b2 : (9223372036854775807 < x3_1.size + 1) = False := eq_false (Nat.not_lt.2 c23)
        have H' := am_ H
        clear H
        go_wp2
        go_meet
        case rel => exact ⟨_, (x3_1 ++ (⟨#[10]⟩ : ByteArray)), tr_, H', ⟨by have := HK1.out; have := HJ16.out; first | omega | exact Nat.le_refl _⟩, ⟨is_ HI0.out⟩, ⟨kk_ HK.out⟩, ⟨bs_ HB.out (IsS25.ge HI0.out)⟩⟩
       ·replace c22 := Bool.eq_false_iff.mpr c22
        subst c22
        have H1 : (Z12.j2 kj16 x3_1 s0_0 x1001_16) = some (r1, r2) := by rw [if_neg (show ¬ (false = true) by decide)] at H; exact H
        clear H
        have H := H1
        clear H1
        have H' := am_ H
        clear H
        go_wp2
        go_meet
        case rel => exact ⟨_, (x3_1), tr_, H', ⟨by have := HK1.out; have := HJ16.out; first | omega | exact Nat.le_refl _⟩, ⟨is_ HI0.out⟩, ⟨kk_ HK.out⟩, ⟨bs_ HB.out (IsS25.ge HI0.out)⟩⟩
      case rest =>
       clear HC21; (try clear c1); (try clear c2); (try clear p2); (try clear c3); (try clear c4); (try clear c4b0); (try clear p6); (try clear c7); (try clear c7b0); (try clear c7b1); (try clear c7b2); (try clear c8); (try clear c8b0); (try clear c8b1); (try clear c8b2); (try clear c15); (try clear c18); (try clear c18b0); (try clear c18b1); (try clear c22); (try clear c23); (try clear c23b0); (try clear c23b1); (try clear c23b2); (try clear p2); (try clear p6); obtain ⟨kq, x3_20, rfl, HA, HJ20, HI0, HK, HB⟩ := hcut
       cases kq with
       | zero => exact absurd HA.out (by simp [Z12.j2])
       | succ kj20 =>
        have H := HA.out
        clear HA
        simp only [Z12.j2] at H
        replace H := Option.bind_eq_some_iff.mp H
        obtain ⟨⟨t197, t198⟩, A240, H⟩ := H
        replace H : (if t197 = true then ((Z49.f (⟨#[109]⟩ : ByteArray) 20000).bind fun t199 => (if t199.size + 1 ≤ 9223372036854775807 then ((Z44.f s0_0 t198 (([(⟨#[97, 9, 98, 10]⟩ : ByteArray), (⟨#[255, 10]⟩ : ByteArray), t199 ++ (⟨#[10]⟩ : ByteArray)] : List ByteArray))).bind fun bt203 => (some (bt203.1, bt203.2))) else (none))) else (some (x3_20, t198))) = some (r1, r2) := H
        have A24 := am_ A240; clear A240
        by_cases c25 : t197 = true
        ·subst c25
         have H1 : ((Z49.f (⟨#[109]⟩ : ByteArray) 20000).bind fun t199 => (if t199.size + 1 ≤ 9223372036854775807 then ((Z44.f s0_0 t198 (([(⟨#[97, 9, 98, 10]⟩ : ByteArray), (⟨#[255, 10]⟩ : ByteArray), t199 ++ (⟨#[10]⟩ : ByteArray)] : List ByteArray))).bind fun bt203 => (some (bt203.1, bt203.2))) else (none))) = some (r1, r2) := by rw [if_pos rfl] at H; exact H
         clear H
         have H := H1
         clear H1; replace H := Option.bind_eq_some_iff.mp H; obtain ⟨t199, A260, H⟩ := H; have A26 := am_ A260; clear A260
         by_cases c27 : t199.size + 1 ≤ 9223372036854775807
         case neg => exact (nn_ c27 H).elim
         rw [if_pos c27] at H; have c27b0 := eq_true c27; have c27b1 := decide_eq_true c27
         try have c27b2 : (9223372036854775807 < t199.size + 1) = False := eq_false (Nat.not_lt.2 c27)
         obtain ⟨y200, hy200⟩ : ∃ y_ : List ByteArray, y_ = (([(⟨#[97, 9, 98, 10]⟩ : ByteArray), (⟨#[255, 10]⟩ : ByteArray), t199 ++ (⟨#[10]⟩ : ByteArray)] : List ByteArray)) := ⟨_, rfl⟩
         replace H : ((Z44.f s0_0 t198 y200).bind fun bt203 => (some (bt203.1, bt203.2))) = some (r1, r2) := by first | (rw [hy200]; with_reducible exact H) | (have H2_ := (Option.bind_some _ _).symm.trans H; rw [hy200]; with_reducible exact H2_) | (have H2_ := (Option.bind_some _ _).symm.trans H; with_reducible exact H2_) | with_reducible exact H | (rw [hy200]; exact H) | exact H
         have Ny200 := am_ hy200; clear hy200; replace H := Option.bind_eq_some_iff.mp H
         obtain ⟨⟨t203, t204⟩, A280, H⟩ := H
         replace H : (some (t203, t204)) = some (r1, r2) := H
         have A28 := am_ A280; clear A280
         simp only [Option.some.injEq, Prod.mk.injEq] at H
         obtain ⟨rfl, rfl⟩ := H
         go_wp2_with (first | ((with_reducible refine gate_callee (f := 50) rfl ?_); refine goesL_ (some 28) rfl rfl Tryd.func50 (by kernel_rfl) rfl #[.pointer (some ⟨g, 0, none⟩), .int .i64 20] rfl gl_ ?_; (with_reducible refine (Z45.calls g s0_0 x1001_16 20 true t198 w0 _ ?side1 ?side2 A24.out).mono ?_); (case side1 => exact is_ HI0.out); (case side2 => exact bs_ HB.out (IsS25.ge HI0.out)); rintro e w29 ⟨rfl, hi, hb, hk⟩; refine ⟨_, rfl, ?_⟩; have n0_ := am_ (KeepBut.trans (kk_ HK.out) hk (.inl rfl)); have n1_ := am_ (hb); have n2_ := am_ (hi); clear HK; clear HB; clear HI0; have HK := n0_; have HB := n1_; have HI0 := n2_; clear n0_ n1_ n2_; (try clear hb); (try clear hb2); (try clear hk); (try clear hi)) | ((with_reducible refine gate_callee (f := 39) rfl ?_); refine goesL_ (some 30) rfl rfl Tryd.func39 (by kernel_rfl) rfl #[.string (⟨#[109]⟩ : ByteArray), .int .i64 20000] rfl gl_ ?_; (with_reducible refine (Z49.calls (⟨#[109]⟩ : ByteArray) 20000 t199 _ A26.out).mono ?_); rintro e w30 ⟨rfl, hb⟩; refine ⟨_, rfl, ?_⟩; have n0_ := am_ (IsS25.below (is_ HI0.out) hb); have n1_ := am_ (KeepBut.trans (kk_ HK.out) (KeepBut.of_below hb g none) (.inl rfl)); have n2_ := am_ (below_step (bs_ HB.out (IsS25.ge HI0.out)) hb); clear HI0; clear HK; clear HB; have HI0 := n0_; have HK := n1_; have HB := n2_; clear n0_ n1_ n2_; (try clear hb); (try clear hb2); (try clear hk); (try clear hi)) | ((with_reducible refine gate_dst (N := 32) rfl ?_); refine Kd.R_lit Kd.string _ 9 ?hg (N := 32) ?hd (xs := ([(⟨#[97, 9, 98, 10]⟩ : ByteArray), (⟨#[255, 10]⟩ : ByteArray), t199 ++ (⟨#[10]⟩ : ByteArray)] : List ByteArray)) (inner := [.string (⟨#[97, 9, 98, 10]⟩ : ByteArray), .string (⟨#[255, 10]⟩ : ByteArray), .string (t199 ++ (⟨#[10]⟩ : ByteArray))]) (ok := fun _ => True) (okp := fun _ => True) ?hr ?hp (fun _ hk => hk) trivial (Below.refl _ _) (Nat.le_refl _) (by simp) ?_; (case hd => rfl); (case hg => rfl); (case hr => first | (go_simp; done) | (go_simp; rfl)); (case hp => exact (Reps.one (show Kd.M Kd.string _ _ _ (⟨#[97, 9, 98, 10]⟩ : ByteArray) [.string (⟨#[97, 9, 98, 10]⟩ : ByteArray)] from rfl) (Reps.one (show Kd.M Kd.string _ _ _ (⟨#[255, 10]⟩ : ByteArray) [.string (⟨#[255, 10]⟩ : ByteArray)] from rfl) (Reps.one (show Kd.M Kd.string _ _ _ (t199 ++ (⟨#[10]⟩ : ByteArray)) [.string (t199 ++ (⟨#[10]⟩ : ByteArray))] from rfl) (Reps.none _ _))))); intro v201 w31 ho32 hb hg_ hnew_; clear hg_ hnew_; (first | rw [← Ny200.out] at ho32 | (simp only [Int.reduceToNat] at ho32; rw [← Ny200.out] at ho32)); have n0_ := am_ (Kd.R_lower ho32 (keep_size (w := w) (g := g) (row := none) (kk_ HK.out))); have n1_ := am_ (IsS25.below (is_ HI0.out) hb); have n2_ := am_ (KeepBut.trans (kk_ HK.out) (KeepBut.of_below hb g none) (.inl rfl)); have n3_ := am_ (below_step (bs_ HB.out (IsS25.ge HI0.out)) hb); clear HI0; clear HK; clear HB; have HO202 := n0_; have HI0 := n1_; have HK := n2_; have HB := n3_; clear n0_ n1_ n2_ n3_; clear hb ho32; obtain ⟨Ao33, co33, eo33⟩ := Kd.R_slice HO202.out; subst eo33) | ((with_reducible refine gate_callee (f := 38) rfl ?_); refine goesL_ (some 33) rfl rfl Tryd.func38 (by kernel_rfl) rfl #[.pointer (some ⟨g, 0, none⟩), .slice Ao33 y200.length co33] rfl gl_ ?_; (with_reducible refine (Z44.calls g s0_0 t198 _ _ y200 t203 t204 w0 _ ?side1 ?side2 ?side3 ?side4 ?side5 A28.out).mono ?_); (case side1 => exact is_ HI0.out); (case side2 => exact bs_ HB.out (IsS25.ge HI0.out)); (case side3 => exact cc_ (Kd.R_reads' HO202.out).2.2); (case side4 => exact (Kd.R_reads' HO202.out).2.1); (case side5 => exact far_slice (IsS25.own_ne HI0.out HO202.out (by decide))); rintro e w34 ⟨rfl, hi, hb, hk⟩; refine ⟨_, rfl, ?_⟩; have n0_ := am_ (Kd.R_mono (Kd.R_keep (IsS25.apart (show IsS25 w0 _ g s0_0 t198 from is_ HI0.out) (rr_ HO202.out) (by decide)) hk (fun _ h => h.2)) (fun _ h => h.1)); have n1_ := am_ (KeepBut.trans (kk_ HK.out) hk (.inl rfl)); have n2_ := am_ (hb); have n3_ := am_ (hi); clear HO202; clear HK; clear HB; clear HI0; have HO202 := n0_; have HK := n1_; have HB := n2_; have HI0 := n3_; clear n0_ n1_ n2_ n3_; (try clear hb); (try clear hb2); (try clear hk); (try clear hi)))
         go_ret
         exact ⟨by first | rfl | (simp [errW_none, errW_some] <;> rfl) | (simp [*, errW_none, errW_some] <;> rfl), is_ HI0.out, bs_ HB.out (IsS25.ge HI0.out), kk_ HK.out⟩
        ·replace c25 := Bool.eq_false_iff.mpr c25
         subst c25
         have H1 : (some (x3_20, t198)) = some (r1, r2) := by rw [if_neg (show ¬ (false = true) by decide)] at H; exact H
         clear H
         have H := H1
         clear H1
         simp only [Option.some.injEq, Prod.mk.injEq] at H
         obtain ⟨rfl, rfl⟩ := H
         go_wp2_with (first | ((with_reducible refine gate_callee (f := 50) rfl ?_); refine goesL_ (some 28) rfl rfl Tryd.func50 (by kernel_rfl) rfl #[.pointer (some ⟨g, 0, none⟩), .int .i64 20] rfl gl_ ?_; (with_reducible refine (Z45.calls g s0_0 x1001_16 20 false t198 w0 _ ?side1 ?side2 A24.out).mono ?_); (case side1 => exact is_ HI0.out); (case side2 => exact bs_ HB.out (IsS25.ge HI0.out)); rintro e w35 ⟨rfl, hi, hb, hk⟩; refine ⟨_, rfl, ?_⟩; have n0_ := am_ (KeepBut.trans (kk_ HK.out) hk (.inl rfl)); have n1_ := am_ (hb); have n2_ := am_ (hi); clear HK; clear HB; clear HI0; have HK := n0_; have HB := n1_; have HI0 := n2_; clear n0_ n1_ n2_; (try clear hb); (try clear hb2); (try clear hk); (try clear hi)))
         go_ret
         exact ⟨by first | rfl | (simp [errW_none, errW_some] <;> rfl) | (simp [*, errW_none, errW_some] <;> rfl), is_ HI0.out, bs_ HB.out (IsS25.ge HI0.out), kk_ HK.out⟩
def Z17.l0 : Nat → List (S46) → List (S46) → Int → Int → Option (Bool)
  | 0, _, _, _, _ => none
  | k + 1, x0, x1, x12, x13 => if x13 < x12 then (if 0 ≤ x13 then (if x13 < (x0.length : Int) then (if x13 < (x1.length : Int) then (if (!(((rd_T46 x0 x13).f0) == ((rd_T46 x1 x13).f0)) || (!(((rd_T46 x0 x13).f1) == ((rd_T46 x1 x13).f1)))) = true then (some false) else (Z17.l0 k x0 x1 x12 (wrap64 (x13 + 1)))) else (none)) else (none)) else (none)) else (some true)
def Z17.f (k : Nat) (l0 : List (S46)) (l1 : List (S46)) : Option (Bool) := if (l0.length : Int) = (l1.length : Int) then (Z17.l0 k l0 l1 (l0.length : Int) 0) else (some false)
theorem Z17.mono_l : ∀ k, (∀ y0 y1 y2 y3, LeO (Z17.l0 k y0 y1 y2 y3) (Z17.l0 (k + 1) y0 y1 y2 y3))
  | 0 => fun _ _ _ _ r h => by simp [Z17.l0] at h
  | k + 1 => by
    have ih0 := Z17.mono_l k
    · intro y0 y1 y2 y3
      unfold Z17.l0
      repeat' first
      | (with_reducible exact ih0 _ _ _ _)
      | (with_reducible exact LeO.refl _)
      | (with_reducible exact LeO.none _)
      | (with_reducible refine LeO.ite ?_ ?_)
      | (with_reducible refine LeO.bind ?_ (fun _ => ?_))
      | exact ih0 _ _ _ _
      | exact LeO.none _
      | refine LeO.ite ?_ ?_
      | refine LeO.bind ?_ (fun _ => ?_)
theorem Z17.mono : ∀ a0 a1 k, LeO (Z17.f k a0 a1) (Z17.f (k + 1) a0 a1) := by
  intro a0 a1 k
  have ih0 := Z17.mono_l k
  unfold Z17.f
  repeat' first
      | (with_reducible exact ih0 _ _ _ _)
      | (with_reducible exact LeO.refl _)
      | (with_reducible exact LeO.none _)
      | (with_reducible refine LeO.ite ?_ ?_)
      | (with_reducible refine LeO.bind ?_ (fun _ => ?_))
      | exact ih0 _ _ _ _
      | exact LeO.none _
      | refine LeO.ite ?_ ?_
      | refine LeO.bind ?_ (fun _ => ?_)
set_option maxHeartbeats 8000000 in
set_option maxRecDepth 100000 in
theorem Z17.calls (k : Nat) (A0 : Option Addr) (c0 : Nat) (l0 : List (S46)) (A1 : Option Addr) (c1 : Nat) (l1 : List (S46)) (r : Bool) (w : World) (hr0 : Kd.C k46 w A0 l0.length l0) (hc0 : l0.length ≤ c0) (hr1 : Kd.C k46 w A1 l1.length l1) (hc1 : l1.length ≤ c1) (h : Z17.f k l0 l1 = some r) :
  Calls Tryd.prog 24 #[.slice A0 l0.length c0, .slice A1 l1.length c1] w fun e w' => e = .returned (.bool r) ∧ Drawn0 w w' := by
 have hu46 := Tryd.underlying46
 have HR0 := am_ hr0; have HC0 := am_ hc0; clear hr0 hc0; have HR1 := am_ hr1; have HC1 := am_ hc1; clear hr1 hc1
 have H : (if (l0.length : Int) = (l1.length : Int) then (Z17.l0 k l0 l1 (l0.length : Int) 0) else (some false)) = some r := h
 clear h
 by_cases c3 : (l0.length : Int) = (l1.length : Int)
 ·rw [if_pos c3] at H
  have c3b0 : ((l0.length : Int) == (l1.length : Int)) = true := beq_iff_eq.mpr c3
  have c3b1 : ((l0.length : Int) != (l1.length : Int)) = false := bne_eq_false_iff_eq.mpr c3
  have c3b2 : (l0.length == l1.length) = true := by first | simpa using c3 | (simp at c3 ⊢; omega)
  clear c3
  have H' := am_ H
  clear H
  go_enter Tryd.func24, Tryd.ntmps24
  go_wp2
  repeat (go_quiet (fail); try go_wp2)
  go_loopg [13] k (fun kq v13 w' => ∃ (x13_1 : Int), v13 = .int .i64 x13_1 ∧ Aside0 (Z17.l0 kq l0 l1 (l0.length : Int) x13_1 = some r) ∧ Aside0 (kq ≤ k) ∧ Drawn0 w w')
  case atStart => exact ⟨(0), tr_, H', ⟨Nat.le_refl _⟩, by repeat (first | exact Drawn0.refl _ | apply Drawn0.step)⟩
  case round =>
   clear H'; (try clear c1); (try clear c2); (try clear p2); (try clear c3); (try clear c3b0); (try clear c3b1); (try clear c3b2)
   obtain ⟨x13_1, rfl, HA, HK1, ⟨m1, rfl⟩⟩ := hrel
   cases gk with
   | zero => exact absurd HA.out (by simp [Z17.l0])
   | succ k1 =>
    have H := HA.out
    clear HA
    simp only [Z17.l0] at H
    by_cases c4 : x13_1 < (l0.length : Int)
    ·rw [if_pos c4] at H
     have c4b0 := decide_eq_true c4; clear c4
     by_cases c5 : 0 ≤ x13_1
     case neg => exact (nn_ c5 H).elim
     rw [if_pos c5] at H; have c5b0 := decide_eq_true c5; clear c5
     by_cases c6 : x13_1 < (l0.length : Int)
     case neg => exact (nn_ c6 H).elim
     rw [if_pos c6] at H; have c6b0 := decide_eq_true c6; clear c6
     by_cases c7 : x13_1 < (l1.length : Int)
     case neg => exact (nn_ c7 H).elim
     rw [if_pos c7] at H; have c7b0 := decide_eq_true c7; clear c7
     by_cases c8 : (!(((rd_T46 l0 x13_1).f0) == ((rd_T46 l1 x13_1).f0)) || (!(((rd_T46 l0 x13_1).f1) == ((rd_T46 l1 x13_1).f1)))) = true
     ·rw [if_pos c8] at H
      have c8b0 : (!(((rd_T46 l0 x13_1).f0) == ((rd_T46 l1 x13_1).f0)) || (!(((rd_T46 l0 x13_1).f1) == ((rd_T46 l1 x13_1).f1)))) = true := c8
      clear c8
      obtain rfl := Option.some.inj H
      have p205 : 0 ≤ (x13_1 : Int) := ode_; have q205 : x13_1 < (l0.length : Int) := ode_
      obtain ⟨ad205, e205, hx205_0, hx205_1⟩ := at_T46 HR0.out x13_1 p205 q205
      cases e205; replace p205 := eq_true p205; replace q205 := eq_true q205; have p206 : 0 ≤ (x13_1 : Int) := ode_; have q206 : x13_1 < (l1.length : Int) := ode_
      obtain ⟨ad206, e206, hx206_0, hx206_1⟩ := at_T46 HR1.out x13_1 p206 q206
      cases e206; replace p206 := eq_true p206; replace q206 := eq_true q206
      go_wp2
      repeat (go_quiet (fail); try go_wp2)
      go_ret
      exact ⟨by first | rfl | (simp; done) | (simp [*]; done), by repeat (first | exact Drawn0.refl _ | apply Drawn0.step)⟩
     ·rw [if_neg c8] at H
      have c8b0 : (!(((rd_T46 l0 x13_1).f0) == ((rd_T46 l1 x13_1).f0)) || (!(((rd_T46 l0 x13_1).f1) == ((rd_T46 l1 x13_1).f1)))) = false := by simpa using c8
      clear c8
      have H' := am_ H
      clear H; have p205 : 0 ≤ (x13_1 : Int) := ode_; have q205 : x13_1 < (l0.length : Int) := ode_
      obtain ⟨ad205, e205, hx205_0, hx205_1⟩ := at_T46 HR0.out x13_1 p205 q205
      cases e205; replace p205 := eq_true p205; replace q205 := eq_true q205; have p206 : 0 ≤ (x13_1 : Int) := ode_; have q206 : x13_1 < (l1.length : Int) := ode_
      obtain ⟨ad206, e206, hx206_0, hx206_1⟩ := at_T46 HR1.out x13_1 p206 q206
      cases e206; replace p206 := eq_true p206; replace q206 := eq_true q206
      go_wp2
      repeat (go_quiet (fail); try go_wp2)
      go_roundg k1
      case measure => have := HK1.out; omega
      case rel => exact ⟨(wrap64 (x13_1 + 1)), tr_, H', ⟨by have := HK1.out; omega⟩, by repeat (first | exact Drawn0.refl _ | apply Drawn0.step)⟩
    ·rw [if_neg c4] at H
     have c4b0 : decide (x13_1 < (l0.length : Int)) = false := decide_eq_false c4
     clear c4
     obtain rfl := Option.some.inj H
     go_wp2
     repeat (go_quiet (fail); try go_wp2)
     go_ret
     exact ⟨by first | rfl | (simp; done) | (simp [*]; done), by repeat (first | exact Drawn0.refl _ | apply Drawn0.step)⟩
 ·rw [if_neg c3] at H
  have c3b0 : ((l0.length : Int) == (l1.length : Int)) = false := beq_eq_false_iff_ne.mpr c3
  have c3b1 : ((l0.length : Int) != (l1.length : Int)) = true := bne_iff_ne.mpr c3
  have c3b2 : (l0.length == l1.length) = false := by first | simpa using c3 | (simp at c3 ⊢; omega)
  obtain rfl := Option.some.inj H
  go_enter Tryd.func24, Tryd.ntmps24
  go_wp2
  repeat (go_quiet (fail); try go_wp2)
  go_ret
  exact ⟨by first | rfl | (simp; done) | (simp [*]; done), by repeat (first | exact Drawn0.refl _ | apply Drawn0.step)⟩
def Z11.ok (x : S46) : Prop := 0 ≤ x.f0 ∧ x.f0 ≤ 1099511627776
instance Z11.dec (x : S46) : Decidable (Z11.ok x) := inferInstanceAs (Decidable (_ ∧ _))
abbrev Z11.Sp := {x : S46 // Z11.ok x}
instance Z11.inh : Inhabited Z11.Sp := ⟨⟨z46, by decide⟩⟩
def Z11.enc (x : Z11.Sp) : List Value := [.int .i64 x.1.f0, .int .i64 x.1.f1]
def Z11.enc0 (x : S46) : List Value := [.int .i64 x.f0, .int .i64 x.f1]
def Z11.kd : Kd Z11.Sp := Kd.iso k46 (fun x => x.1)
theorem Z11.flat0 : Flat k46 Z11.enc0 := ⟨fun h => k46_open h, fun w base ok x => k46_mkM w base ok x, fun x u hu => by
    simp only [Z11.enc0, List.mem_cons, List.not_mem_nil, or_false] at hu
    rcases hu with rfl | rfl <;> rfl, fun _ => rfl, by decide⟩
theorem Z11.flat : Flat Z11.kd Z11.enc := ⟨fun {w x cs} h => k46_open (w := w) (x := x.1) h, fun w base ok x => k46_mkM w base ok x.1, fun x u hu => by
    simp only [Z11.enc, List.mem_cons, List.not_mem_nil, or_false] at hu
    rcases hu with rfl | rfl <;> rfl, fun _ => rfl, by decide⟩
def Z11.cf (x y : Z11.Sp) : Int := x.1.f0 - y.1.f0
theorem Z11.swo : Go.Sort.SWO (ltOf Z11.cf) where
  irrefl x := by simp [ltOf, Z11.cf]
  trans x y z h1 h2 := by
    have a : x.1.f0 - y.1.f0 < 0 := of_decide_eq_true h1
    have b : y.1.f0 - z.1.f0 < 0 := of_decide_eq_true h2
    exact decide_eq_true (show x.1.f0 - z.1.f0 < 0 by omega)
  ntrans x y z h1 h2 := by
    have a : ¬ x.1.f0 - y.1.f0 < 0 := of_decide_eq_false h1
    have b : ¬ y.1.f0 - z.1.f0 < 0 := of_decide_eq_false h2
    exact decide_eq_false (show ¬ x.1.f0 - z.1.f0 < 0 by omega)
theorem Z11.flat_map (l : List Z11.Sp) : (l.map (fun x => x.1)).flatMap Z11.enc0 = l.flatMap Z11.enc := by
  rw [List.flatMap_map]
  rfl
set_option maxHeartbeats 1000000 in
theorem Z11.closure (x y : Z11.Sp) (W : World) : Calls Tryd.prog 92 #[.agg #[.int .i64 x.1.f0, .int .i64 x.1.f1], .agg #[.int .i64 y.1.f0, .int .i64 y.1.f1]] W fun e w' => e = .returned (.int .i64 (Z11.cf x y)) ∧ ∃ q os', w' = Go.Sort.grow (W.drewN q) os' := by
  unfold Z11.cf
  have h1 := x.2.1
  have h2 := x.2.2
  have h3 := y.2.1
  have h4 := y.2.2
  generalize x.1.f0 = a at *
  generalize y.1.f0 = b at *
  generalize x.1.f1 = c at *
  generalize y.1.f1 = d at *
  clear x y
  go_enter Tryd.func92, Tryd.ntmps92
  go_wp2
  go_ret
  exact ⟨rfl, 0, _, by rw [Go.Sort.alloc_eq_grow, Go.Sort.alloc_eq_grow, Go.Sort.grow_grow]; rfl⟩
def Z11.f (l0 : List S46) (a1 : Nat) : Option (List S46) := if h : a1 = 92 ∧ (∀ x ∈ l0, Z11.ok x) ∧ l0.length < 4611686018427387904 then (some ((Go.Sort.pdq (ltOf Z11.cf) (l0.attachWith Z11.ok h.2.1).toArray 0 (l0.attachWith Z11.ok h.2.1).toArray.size (Lib.bitLen (l0.attachWith Z11.ok h.2.1).toArray.size) true true).toList.map (fun x => x.1))) else (none)
set_option maxHeartbeats 8000000 in
set_option maxRecDepth 100000 in
theorem Z11.calls (P0_ : Nat → Prop) (u9000_ : Value) (l0 : List (S46)) (a1 : Nat) (r : List (S46)) (w0 w : World) (hB : Below w0.heap.size w0 w) (ho0 : Kd.R k46 46 w w0.heap.size P0_ u9000_ l0) (h : Z11.f l0 a1 = some r) :
    Calls Tryd.prog 91 #[u9000_, .func (.func a1) #[] #[]] w fun e w' => e = .returned (.tuple #[]) ∧ Kd.R k46 46 w' w0.heap.size (fun k_ => (P0_ k_ ∨ w.heap.size ≤ k_)) u9000_ r ∧ Below w0.heap.size w0 w' ∧ Kept w w' (fun k_ => P0_ k_) := by
  unfold Z11.f at h
  by_cases hc : a1 = 92 ∧ (∀ x ∈ l0, Z11.ok x) ∧ l0.length < 4611686018427387904
  · rw [dif_pos hc] at h
    obtain rfl := Option.some.inj h
    clear h; obtain ⟨rfl, hok, hlen⟩ := hc
    obtain ⟨L, hL⟩ : ∃ L : List Z11.Sp, l0.attachWith Z11.ok hok = L := ⟨_, rfl⟩
    have hl : l0 = L.map (fun x => x.1) := by rw [← hL]; simp
    rw [hL]
    clear hL; subst hl; clear hok
    have hP2 := Go.Sort.pdq_sorts (ltOf Z11.cf) Z11.swo L.toArray 0 L.toArray.size (Lib.bitLen L.toArray.size) true true (Nat.zero_le _) (Nat.le_refl _) (Or.inl rfl)
    obtain ⟨d', hd'⟩ : ∃ d', Go.Sort.pdq (ltOf Z11.cf) L.toArray 0 L.toArray.size (Lib.bitLen L.toArray.size) true true = d' := ⟨_, rfl⟩
    rw [hd'] at hP2 ⊢
    have hsz : d'.size = L.length := by simpa using hP2.1.1
    obtain ⟨hP, ho⟩ := R_flat Z11.flat0 ho0
    rw [List.length_map] at ho hlen
    rcases ho.2 with ⟨rfl, hz⟩ | ⟨g, cap, cur, rfl, hg, hb, hn, hcap, hs, ht⟩
    · obtain rfl := List.eq_nil_of_length_eq_zero hz
      have hd0 : d' = #[] := Array.eq_empty_of_size_eq_zero (by simpa using hsz)
      subst hd0
      refine (AnyF.slices_SortFunc_none { Tryd.sortf91 with } none 0 _ w).mono ?_
      rintro e w' ⟨rfl, rfl⟩
      exact ⟨rfl, Kd.R_nil _ _ _ _ _, hB, Kept.refl _ _⟩
    · have hH := holdsK_of_row (xs := L) Z11.flat hb (by rw [← Z11.flat_map]; exact ht)
      have hg1 : g < w.heap.size := (Array.getElem?_eq_some_iff.1 hb).1
      have hcall := AnyQ.slices_SortFunc_eq Tryd.sortf91 Z11.kd.sz Tryd.isAgg46 Tryd.sizeOf46 Z11.enc Z11.flat.len Z11.flat.one Z11.cf Z11.swo 92 #[] g 0 cap L.toArray w (enters_of Tryd.func92 (by kernel_rfl) rfl) (fun _ _ _ _ x y => Z11.closure x y _) hH hg1 (by simpa using hlen)
      rw [hd'] at hcall
      refine hcall.mono ?_
      rintro e w' ⟨rfl, q, os, rfl⟩
      obtain ⟨o1, o2, o3⟩ := putK_out (n := q) (os := os) (ts := d'.toList) Z11.flat hB (hP g rfl) hg hb (by rw [Array.length_toList, hsz]; exact hn) hcap hs
      rw [Array.length_toList, hsz] at o1
      obtain ⟨p1, p2⟩ := R_flat Z11.flat o1
      refine ⟨rfl, R_of_flat Z11.flat0 p1 ?_, o2, o3⟩
      rw [Z11.flat_map, List.length_map]
      exact p2
  · rw [dif_neg hc] at h
    exact absurd h (by simp)
def Z4.l0 : Nat → List (S46) → List (S46) → Int → Int → Option ((List (S46)))
  | 0, _, _, _, _ => none
  | k + 1, x3, x9, x10, x11 => if x11 < x10 then (if 0 ≤ x11 then (if x11 < (x9.length : Int) then (if (wrap64 ((x3.length : Int) - 1)) ≥ 0 then (if 0 ≤ (wrap64 ((x3.length : Int) - 1)) then (if (wrap64 ((x3.length : Int) - 1)) < (x3.length : Int) then (if ((rd_T46 x9 x11).f0) ≤ ((rd_T46 x3 (wrap64 ((x3.length : Int) - 1))).f1) then (Z4.l0 k (x3.set ((wrap64 ((x3.length : Int) - 1)) : Int).toNat (⟨(rd_T46 x3 (wrap64 ((x3.length : Int) - 1))).f0, mx ((rd_T46 x3 (wrap64 ((x3.length : Int) - 1))).f1) ((rd_T46 x9 x11).f1)⟩ : S46)) x9 x10 (wrap64 (x11 + 1))) else (if x3.length < 8796093022208 then (Z4.l0 k (x3 ++ [(⟨(rd_T46 x9 x11).f0, (rd_T46 x9 x11).f1⟩ : S46)]) x9 x10 (wrap64 (x11 + 1))) else (none))) else (none)) else (none)) else (if x3.length < 8796093022208 then (Z4.l0 k (x3 ++ [(⟨(rd_T46 x9 x11).f0, (rd_T46 x9 x11).f1⟩ : S46)]) x9 x10 (wrap64 (x11 + 1))) else (none))) else (none)) else (none)) else (some x3)
def Z4.f (k : Nat) (l0 : List (S46)) : Option ((List (S46))) := (Z11.f l0 92).bind fun t207 => (Z4.l0 k ([] : List (S46)) t207 (l0.length : Int) 0)
theorem Z4.mono_l : ∀ k, (∀ y0 y1 y2 y3, LeO (Z4.l0 k y0 y1 y2 y3) (Z4.l0 (k + 1) y0 y1 y2 y3))
  | 0 => fun _ _ _ _ r h => by simp [Z4.l0] at h
  | k + 1 => by
    have ih0 := Z4.mono_l k
    · intro y0 y1 y2 y3
      unfold Z4.l0
      repeat' first
      | (with_reducible exact ih0 _ _ _ _)
      | (with_reducible exact LeO.refl _)
      | (with_reducible exact LeO.none _)
      | (with_reducible refine LeO.ite ?_ ?_)
      | (with_reducible refine LeO.bind ?_ (fun _ => ?_))
      | exact ih0 _ _ _ _
      | exact LeO.none _
      | refine LeO.ite ?_ ?_
      | refine LeO.bind ?_ (fun _ => ?_)
theorem Z4.mono : ∀ a0 k, LeO (Z4.f k a0) (Z4.f (k + 1) a0) := by
  intro a0 k
  have ih0 := Z4.mono_l k
  unfold Z4.f
  repeat' first
      | (with_reducible exact ih0 _ _ _ _)
      | (with_reducible exact LeO.refl _)
      | (with_reducible exact LeO.none _)
      | (with_reducible refine LeO.ite ?_ ?_)
      | (with_reducible refine LeO.bind ?_ (fun _ => ?_))
      | exact ih0 _ _ _ _
      | exact LeO.none _
      | refine LeO.ite ?_ ?_
      | refine LeO.bind ?_ (fun _ => ?_)
def Z4.T7 : Bool × List (List Nat × List Nat) := (true, [([], []), ([0], [0]), ([1], [1]), ([2], [2]), ([3, 2], [2, 3]), ([2], [2]), ([2], [2]), ([5, 6, 2], [2, 5, 6]), ([7, 2], [2, 7]), ([8, 2], [2, 8]), ([4, 9, 2], [2, 4, 9]), ([2, 10], [2, 10])])
def Z4.B7 : List Nat := [0, 1, 3, 7, 15, 7, 7, 103, 231, 487, 1023, 2047]
theorem Z4.tab7 : rtab .any (opsOf Tryd.f57 7) = Z4.T7 := by kernel_rfl
theorem Z4.bits7 : waitsOk Z4.T7.2 Z4.B7 = true := by kernel_rfl
def Z4.T8 : Bool × List (List Nat × List Nat) := (true, [([], []), ([], []), ([], []), ([], []), ([2, 3], [2, 3]), ([4], [4]), ([5], [5]), ([], []), ([7], [7]), ([6, 8], [6, 8]), ([0, 1, 0, 1, 2, 3, 4, 5, 6, 7, 8, 9], [0, 1]), ([10, 0, 1, 2, 3, 4, 5, 6, 7, 8, 9], [10]), ([11, 9, 0, 1, 2, 3, 4, 5, 6, 7, 8, 9], [9, 11])])
def Z4.B8 : List Nat := [0, 0, 0, 0, 12, 28, 60, 0, 128, 508, 1023, 2047, 4095]
theorem Z4.tab8 : rtab .any (opsOf Tryd.f57 8) = Z4.T8 := by kernel_rfl
theorem Z4.bits8 : waitsOk Z4.T8.2 Z4.B8 = true := by kernel_rfl
abbrev Z4.D0 : Array Bool := #[false, false, false, false, false, false, false, false, false, false, false, false, false]
abbrev Z4.D1 : Array Bool := #[false, false, false, false, false, false, false, false, false, false, false, false]
abbrev Z4.D2 : Array Bool := #[true, false, false, false, false, false, false, false, false, false, false, false, false]
abbrev Z4.D3 : Array Bool := #[true, false, false, false, false, false, false, false, false, false, false, false]
abbrev Z4.D4 : Array Bool := #[true, true, false, false, false, false, false, false, false, false, false, false, false]
abbrev Z4.D5 : Array Bool := #[true, true, false, false, false, false, false, false, false, false, false, false]
abbrev Z4.D6 : Array Bool := #[true, true, true, false, false, false, false, false, false, false, false, false, false]
abbrev Z4.D7 : Array Bool := #[true, true, true, false, false, false, false, false, false, false, false, false]
abbrev Z4.D8 : Array Bool := #[true, true, true, true, false, false, false, false, false, false, false, false, false]
abbrev Z4.D9 : Array Bool := #[true, true, true, true, false, false, false, false, false, false, false, false]
abbrev Z4.D10 : Array Bool := #[true, true, true, true, false, true, false, false, false, false, false, false]
abbrev Z4.D11 : Array Bool := #[true, true, true, true, false, true, true, false, false, false, false, false]
abbrev Z4.D12 : Array Bool := #[true, true, true, true, false, true, true, true, false, false, false, false]
abbrev Z4.D13 : Array Bool := #[true, true, true, true, false, true, true, true, true, false, false, false]
abbrev Z4.D14 : Array Bool := #[true, true, true, true, true, false, false, false, false, false, false, false, false]
abbrev Z4.D15 : Array Bool := #[true, true, true, true, true, false, false, false, false, false, false, false]
abbrev Z4.D16 : Array Bool := #[true, true, true, true, true, true, false, false, false, false, false, false, false]
abbrev Z4.D17 : Array Bool := #[true, true, true, true, true, true, false, false, false, false, false, false]
abbrev Z4.D18 : Array Bool := #[true, true, true, true, true, true, false, true, false, false, false, false, false]
abbrev Z4.D19 : Array Bool := #[true, true, true, true, true, true, true, false, false, false, false, false]
abbrev Z4.D20 : Array Bool := #[true, true, true, true, true, true, true, true, false, false, false, false, false]
abbrev Z4.D21 : Array Bool := #[true, true, true, true, true, true, true, true, false, false, false, false]
abbrev Z4.D22 : Array Bool := #[true, true, true, true, true, true, true, true, true, false, false, false, false]
abbrev Z4.D23 : Array Bool := #[true, true, true, true, true, true, true, true, true, false, false, false]
abbrev Z4.D24 : Array Bool := #[true, true, true, true, true, true, true, true, true, true, false, false, false]
abbrev Z4.D25 : Array Bool := #[true, true, true, true, true, true, true, true, true, true, false, false]
abbrev Z4.D26 : Array Bool := #[true, true, true, true, true, true, true, true, true, true, true, false, false]
abbrev Z4.D27 : Array Bool := #[true, true, true, true, true, true, true, true, true, true, true, false]
abbrev Z4.D28 : Array Bool := #[true, true, true, true, true, true, true, true, true, true, true, true, false]
abbrev Z4.D29 : Array Bool := #[true, true, true, true, true, true, true, true, true, true, true, true, true]
abbrev Z4.D30 : Array Bool := #[true, true, true, true, true, true, true, true, true, true, true, true]
end Go.Proofs.YtolcpmdojlbhcaaDoor.Px
