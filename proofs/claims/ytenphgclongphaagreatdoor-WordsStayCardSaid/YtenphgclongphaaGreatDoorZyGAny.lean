/- A part of the proof of wordsStay. No conditions. Laid by program over the kit's print and words. -/
import Derived.Test.YtenphgclongphaaGreatDoorZyGBase
import Derived.Test.YtenphgclongphaaGreatDoorZyShelf
import Derived.Shelf.Strings.IndexAnyAll
import Derived.Laws.RangeAny
import Derived.Laws.Runes
import Derived.Lib.OthersKept
import Derived.Lib.DecodeN
import Derived.LoopN
import Derived.WalkMore
import Derived.Deep.LoopGhost
set_option linter.unusedVariables false
set_option linter.unusedSimpArgs false
namespace Go.Proofs
open Go.RowKit Go.Lib Go.Proofs.YtenphgclongphaaGreatDoorW.PrintWords Go.Proofs.YtenphgclongphaaGreatDoorW.PrintLast
theorem dec_ok (s : ByteArray) (i : Nat) (h : i < s.size) : 1 ≤ (Utf8.decode s i).2 ∧ i + (Utf8.decode s i).2 ≤ s.size ∧ ∀ j, 0 < j → j < (Utf8.decode s i).2 → 128 ≤ (s.get! (i + j)).toNat := by
  rw [Lib.decode_at]
  unfold decodeN
  repeat' split
  all_goals simp only []
  all_goals refine ⟨by omega, by omega, fun j h1 h2 => ?_⟩
  all_goals first
    | omega
    | (obtain rfl | rfl | rfl : j = 1 ∨ j = 2 ∨ j = 3 := by omega
       all_goals omega)
theorem enc_hi (r : Int) (h : 128 ≤ r) : 2 ≤ (Utf8.encode r).size ∧ (Utf8.encode r).size ≤ 4 := by
  unfold Utf8.encode
  simp only
  repeat' split
  all_goals simp_all [ByteArray.size, Utf8.runeError]
  all_goals omega
theorem enc_hi2 (r : Int) (h : 128 ≤ r) (h2 : (Utf8.encode r).size = 2) : 128 ≤ ((Utf8.encode r).get! 1).toNat := by
  revert h2
  unfold Utf8.encode
  simp only
  repeat' split
  all_goals simp_all [ByteArray.size, Utf8.runeError]
  show 128 ≤ ((128 : UInt8) + UInt8.ofNat (r.toNat % 64)).toNat
  rw [UInt8.toNat_add]
  have : (UInt8.ofNat (r.toNat % 64)).toNat = r.toNat % 64 := by simp; omega
  rw [this]
  have h8 : (128 : UInt8).toNat = 128 := rfl
  rw [h8]
  omega
set_option maxHeartbeats 8000000 in
set_option maxRecDepth 1000000 in
theorem Tryz.IndexRune_err (w : World) :
    Calls Tryz.prog 89 #[.string ⟨#[32, 10]⟩, .int .i32 65533] w fun e w' => e = .returned (.int .i64 (-1)) ∧ Below w.heap.size w w' := by
  have n0 := fun ty => run_next_ascii (P := Tryz.prog) w (⟨#[32, 10]⟩ : ByteArray) 0 ty (by decide) (by decide)
  have n1 := fun ty => run_next_ascii (P := Tryz.prog) w (⟨#[32, 10]⟩ : ByteArray) 1 ty (by decide) (by decide)
  have n2 := fun ty => run_next_end (P := Tryz.prog) w (⟨#[32, 10]⟩ : ByteArray) 2 ty (by decide)
  go_enter Tryz.func89, Tryz.ntmps89
  go_wp2
  refine wp_loop_rounds 3 ?_
  rw [rounds_succ]
  go_wp2
  rw [rounds_succ]
  go_wp2
  rw [rounds_succ]
  go_wp2
  go_ret
  exact ⟨rfl, (Below.refl _ _).alloc (Nat.le_refl _) _⟩
set_option maxHeartbeats 8000000 in
set_option maxRecDepth 1000000 in
theorem Tryz.ValidRune_any (r : Int) (w : World) :
    Calls Tryz.prog 104 #[.int .i32 r] w fun e w' => (e = .returned (.bool true) ∨ e = .returned (.bool false)) ∧ Below w.heap.size w w' := by
  go_enter Tryz.func104, Tryz.ntmps104
  go_wp2
  all_goals go_ret
  all_goals refine ⟨?_, Below.refl _ _⟩
  all_goals first
    | exact .inl rfl
    | exact .inr rfl
    | (rename_i h; rw [decide_eq_true h]; exact .inl rfl)
    | (rename_i h; rw [decide_eq_false (by omega)]; exact .inr rfl)
    | skip
set_option maxHeartbeats 8000000 in
set_option maxRecDepth 1000000 in
theorem Tryz.IndexRune_hi (r : Int) (w : World) (h0 : 128 ≤ r) (h1 : r ≤ 2147483647) :
    Calls Tryz.prog 89 #[.string ⟨#[32, 10]⟩, .int .i32 r] w fun e w' => e = .returned (.int .i64 (-1)) ∧ Below w.heap.size w w' := by
  by_cases he : r = 65533
  · subst he
    exact Tryz.IndexRune_err w
  · have hb0 : (r < 128) = False := eq_false (by omega)
    have hb1 : (0 ≤ r) = True := eq_true (by omega)
    have hb2 : (r == 65533) = false := beq_eq_false_iff_ne.2 he
    obtain ⟨s2, s4⟩ := enc_hi r h0
    have hb := enc_hi2 r h0
    obtain ⟨q, hqe⟩ : ∃ q, Utf8.encode r = q := ⟨_, rfl⟩
    rw [hqe] at s2 s4 hb
    go_enter Tryz.func89, Tryz.ntmps89
    go_wp2_with (go_at_call 104; refine (Tryz.ValidRune_any r _).mono ?_; rintro e w1 ⟨rfl | rfl, hb1⟩)
    · by_cases hq : q.size = 2
      · have h8 := hb hq
        obtain ⟨x, hx⟩ : ∃ x : UInt8, q[1]'(by omega) = x := ⟨_, rfl⟩
        have hx8 : 128 ≤ x.toNat := by rw [← hx]; have e : q.get! 1 = q[1]'(by omega) := (get_at q 1 (by omega)).symm ▸ rfl; rw [← e]; exact h8
        have hne : ((10 : Int) != (x.toNat : Int)) = true := bne_iff_ne.2 (by omega)
        have hlt : (1 : Int) < (q.size : Int) := by omega
        have hq1 : 1 < q.size := by omega
        have hqz : ((q.size : Nat) : Int) = 2 := by omega
        have hi1 : ∀ w : World, (Instr.index 9 (.string q) (.int .i64 1)).run Tryz.prog w = .ok (.int .u8 (x.toNat : Int)) w := fun w => by
          rw [run_index_string (h := Tryz.underlying9)]
          rw [dif_pos (by omega)]
          simp only [Int.toNat_one, hx]
        have hi2 : ∀ w : World, (Instr.index 9 (.string (⟨#[32, 10]⟩ : ByteArray)) (.int .i64 1)).run Tryz.prog w = .ok (.int .u8 10) w := fun w => by
          rw [run_index_string (h := Tryz.underlying9)]
          rfl
        clear h8 hb s2 s4 hx8
        go_step3
        go_wp2
        refine wp_loop_rounds 1 ?_
        rw [rounds_succ]
        go_wp2
        go_step3
        have hcall : ∀ W : World, Calls Tryz.prog 103 #[.string ByteArray.empty, .int .u8 (x.toNat : Int)] W fun e w' => e = .returned (.int .i64 (-1)) ∧ w' = W := fun W => Tryz.strings_IndexByte ByteArray.empty _ W
        refine wp_seq ?_
        refine wp_seq ?_
        go_region
        go_wp2
        go_region_with (go_at_call 103; refine (hcall _).mono ?_; rintro e w2 ⟨rfl, rfl⟩)
        all_goals go_wp2
        all_goals simp only [Exit.noGoto_ret, Exit.inBlock, Exit.then]
        all_goals go_ret
        all_goals exact ⟨rfl, (hb1.drew).drew⟩
      · have hq3 : ((q.size : Int) - 1 < 2) = False := eq_false (by omega)
        have hw3 : IntKind.i64.wrap ((q.size : Int) - 1) = (q.size : Int) - 1 := by rw [IntKind.wrap_i64]; omega
        go_step3
        go_wp2
        refine wp_loop_rounds 1 ?_
        rw [rounds_succ]
        go_wp2
        rw [Exit.noGoto_ret]
        go_ret
        exact ⟨rfl, hb1⟩
    · go_ret
      exact ⟨rfl, hb1⟩
theorem noAny_more {s : List UInt8} {i n : Nat} (h : Lib.NoAny s [32, 10] i) (hn : ∀ j b, i ≤ j → j < i + n → s[j]? = some b → 128 ≤ b.toNat) : Lib.NoAny s [32, 10] (i + n) := fun j b hj hb => by
  by_cases e : j < i
  · exact h j b e hb
  · have := hn j b (by omega) hj hb
    have h1 : b ≠ 32 := fun e => by subst e; exact absurd this (by decide)
    have h2 : b ≠ 10 := fun e => by subst e; exact absurd this (by decide)
    simp [h1, h2]
theorem get_data (s : ByteArray) (j : Nat) (b : UInt8) (h : s.data.toList[j]? = some b) : s.get! j = b := by
  have hj : j < s.size := by rw [Lib.size_eq]; exact (List.getElem?_eq_some_iff.1 h).1
  have h2 := Lib.data_getElem? s j hj
  rw [h] at h2
  rw [Option.some.inj h2]
  exact get_at s j hj
set_option maxHeartbeats 8000000 in
set_option maxRecDepth 1000000 in
theorem Tryz.IndexAny_short2 (s : ByteArray) (w : World) (h8 : s.size ≤ 8) :
    Calls Tryz.prog 72 #[.string s, .string ⟨#[32, 10]⟩] w fun e w' => e = .returned (.int .i64 (Lib.indexAny s.data.toList [32, 10])) ∧ Below w.heap.size w w' := by
  have h8z : decide ((8 : Int) < (s.size : Int)) = false := decide_eq_false (by omega)
  have HB0 := Aside0.mk (Below.refl w.heap.size w)
  go_enter Tryz.func72, Tryz.ntmps72
  go_wp2_with (go_at_call 90; refine (Any.strings_shouldUseASCIISet { Tryz.lays150 with } _ _).mono ?_; rintro e w' ⟨rfl, hw⟩; rw [hw, h8z])
  go_loopg [9, 10] s.size (fun g _ _ wx => ∃ (W : World) (i : Nat), W = wx ∧ i ≤ s.size ∧ s.size - i ≤ g ∧ Aside0 (Below w.heap.size w W ∧ W.heap[w.heap.size]? = some (.stringIter s i) ∧ Lib.NoAny s.data.toList [32, 10] i))
  case atStart => exact ⟨_, 0, rfl, Nat.zero_le _, by omega, ⟨(Below.refl _ _).alloc (Nat.le_refl _) _, World.iter_heap w s 0, Lib.NoAny.zero _ _⟩⟩
  case round =>
    obtain ⟨wx, i, rfl, hi, hig, HR⟩ := hrel
    by_cases hlt : i < s.size
    · obtain ⟨g, rfl⟩ : ∃ g, gk = g + 1 := ⟨gk - 1, by omega⟩
      have hk := HR.out.2.1
      have hks : w.heap.size < wx.heap.size := (Array.getElem?_eq_some_iff.1 hk).1
      have hnx := fun ty => run_next_any_at (P := Tryz.prog) wx w.heap.size s i ty hk hlt
      obtain ⟨d1, d2, d3⟩ := dec_ok s i hlt
      have hxl := Lib.data_getElem? s i hlt
      by_cases ha : (s[i]'hlt).toNat < 128
      · have ed := decode_ascii s i hlt ha
        rw [ed] at hnx
        simp only [] at hnx
        obtain ⟨x, hx⟩ : ∃ x : UInt8, s[i]'hlt = x := ⟨_, rfl⟩
        rw [hx] at hnx ha hxl
        have HX := Aside0.mk hxl
        have HK := Aside0.mk (iterAt_heap wx w.heap.size s i (i + 1) hk)
        have HW : Aside0 (Below w.heap.size w (wx.iterAt w.heap.size s (i + 1))) := ⟨below_iterAt HR.out.1 (Nat.le_refl _) s _⟩
        have HZ : Aside0 ((wx.iterAt w.heap.size s (i + 1)).heap.size = wx.heap.size) := ⟨iterAt_size _ _ _ _⟩
        have HN := Aside0.mk HR.out.2.2
        have hcon := Lib.contains_iff_indexByte [32, 10] x
        have hback : ((x.toNat : Int)).toNat.toUInt8 = x := by simp
        have hx0 : (0 : Int) ≤ (x.toNat : Int) := by omega
        have hx1 : (x.toNat : Int) < 128 := by omega
        clear d1 d2 d3 ed hk hxl HR hx
        cases hin : ([32, 10] : List UInt8).contains x
        · rw [hin] at hcon
          have hlt2 : ¬ ((0 : Int) ≤ Lib.indexByte [32, 10] x) := of_decide_eq_false hcon.symm
          clear hcon
          go_wp2_with (go_at_call 89; refine (Any.strings_IndexRune_ascii { Tryz.lays150 with } _ _ _ hx0 hx1).mono ?_; rintro e w' ⟨rfl, hw⟩; rw [hw, hback])
          go_roundg g
          case measure => omega
          case rel => exact ⟨_, i + 1, rfl, by omega, by omega, ⟨HW.out, HK.out, HN.out.succ HX.out hin⟩⟩
        · rw [hin] at hcon
          have hge : (0 : Int) ≤ Lib.indexByte [32, 10] x := of_decide_eq_true hcon.symm
          clear hcon
          go_wp2_with (go_at_call 89; refine (Any.strings_IndexRune_ascii { Tryz.lays150 with } _ _ _ hx0 hx1).mono ?_; rintro e w' ⟨rfl, hw⟩; rw [hw, hback])
          go_ret
          exact ⟨by rw [Lib.indexAny_hit HN.out HX.out hin]; rfl, HW.out⟩
      · have hh := decode_high s i hlt (by omega)
        have hle := decode_le s i
        have hmore : Lib.NoAny s.data.toList [32, 10] (i + (Utf8.decode s i).2) := noAny_more HR.out.2.2 fun j b h1 h2 hb => by
          by_cases e : j = i
          · subst e
            rw [hxl] at hb
            cases hb
            omega
          · have := d3 (j - i) (by omega) (by omega)
            rw [show i + (j - i) = j by omega, get_data s j b hb] at this
            exact this
        generalize (Utf8.decode s i).1 = r at *
        generalize (Utf8.decode s i).2 = n at *
        have HN := Aside0.mk hmore
        have hr0 := hh.1
        clear d3 hmore hxl ha hh
        have hr1 : (128 : Int) ≤ (r : Int) := by omega
        have hr2 : (r : Int) ≤ 2147483647 := by omega
        have HK := Aside0.mk (iterAt_heap wx w.heap.size s i (i + n) hk)
        have HW : Aside0 (Below w.heap.size w (wx.iterAt w.heap.size s (i + n))) := ⟨below_iterAt HR.out.1 (Nat.le_refl _) s _⟩
        have HZ : Aside0 ((wx.iterAt w.heap.size s (i + n)).heap.size = wx.heap.size) := ⟨iterAt_size _ _ _ _⟩
        clear hk HR
        go_wp2_with (go_at_call 89; refine (Tryz.IndexRune_hi (r : Int) _ hr1 hr2).mono ?_; rintro e w1 ⟨rfl, hb1⟩)
        go_roundg g
        case measure => omega
        case rel => exact ⟨_, i + n, rfl, by omega, by omega, ⟨below_step HW.out hb1, (hb1.block _ (by have := HZ.out; omega)).trans HK.out, HN.out⟩⟩
    · obtain rfl : i = s.size := by omega
      have hnx := fun ty => run_next_end_at (P := Tryz.prog) wx w.heap.size s s.size ty HR.out.2.1 hlt
      go_wp2
      go_ret
      exact ⟨by rw [Lib.indexAny_none (by rw [← Lib.size_eq]; exact HR.out.2.2)]; rfl, HR.out.1⟩
theorem Tryz.ContainsAny2 (s : ByteArray) (w : World) (hs : s.size < 4294967281) :
    Calls Tryz.prog 60 #[.string s, .string ⟨#[32, 10]⟩] w fun e w' => e = .returned (.bool (Lib.containsAny s.data.toList [32, 10])) ∧ Below w.heap.size w w' := by
  have c : Calls Tryz.prog 72 #[.string s, .string ⟨#[32, 10]⟩] w fun e w' => e = .returned (.int .i64 (Lib.indexAny s.data.toList [32, 10])) ∧ Below w.heap.size w w' := by
    by_cases h8 : s.size ≤ 8
    · exact Tryz.IndexAny_short2 s w h8
    · have h116 : (Tryz.prog.info? (Tryz.lays150_ren.t 116)).map (fun i => (i.zero, i.size)) = some (some (.agg (Array.replicate 256 (.bool false))), 256) := by kernel_rfl
      refine (Any.strings_IndexAny_long { Tryz.lays150 with } (zero_of_info h116).1 (zero_of_info h116).2 s ⟨#[32, 10]⟩ w (by decide) (by omega) hs (by decide) (fun j b hj => ?_)).mono ?_
      · match j, hj with
        | 0, hj => cases hj; decide
        | 1, hj => cases hj; decide
      · rintro e w' ⟨rfl, rfl⟩
        exact ⟨rfl, ((Below.refl _ _).alloc (Nat.le_refl _) _).alloc (by simp) _⟩
  go_enter Tryz.func60, Tryz.ntmps60
  go_wp2_with (go_at_call 72; refine c.mono ?_; rintro e w' ⟨rfl, hw⟩)
  go_ret
  exact ⟨rfl, hw⟩
end Go.Proofs
