/- A part of the proof of wordsStay. No conditions. Laid by program over the kit's print and words. -/
import Derived.Test.YtenphgclongphaaGreatDoorZyPkx0
import Derived.Test.YtenphgclongphaaGreatDoorZyPkx1
import Derived.Test.YtenphgclongphaaGreatDoorZyPkx5
import Derived.Test.YtenphgclongphaaGreatDoorZyPkx6
import Derived.Test.YtenphgclongphaaGreatDoorZyPkx7
import Derived.Test.YtenphgclongphaaGreatDoorZyPkx8
import Derived.Test.YtenphgclongphaaGreatDoorZyPkx9
import Derived.Test.YtenphgclongphaaGreatDoorZyPkx11
import Derived.Test.YtenphgclongphaaGreatDoorZyUAll
namespace Go.Proofs.YtenphgclongphaaGreatDoor.Pk
open Go.RowKit Go.Proofs.YtenphgclongphaaGreatDoor.GBase Go.Proofs.YtenphgclongphaaGreatDoorW.PrintWords Go.Proofs.YtenphgclongphaaGreatDoorW.PrintLast Go.Proofs.YtenphgclongphaaGreatDoorW.PrintMore
attribute [local go_sem] str_leq max2_int min2_int max_two min_two max_three min_three max_four min_four
set_option linter.unusedVariables false
set_option linter.unusedSimpArgs false
def Row9 (w : World) (M : Nat) (A : Option Addr) (n : Nat) : Prop := n = 0 ∨ ∃ g cur, A = some ⟨g, 0, none⟩ ∧ M ≤ g ∧ w.heap[g]? = some (.cells cur 9 (0, 0)) ∧ n ≤ cur.size ∧ n ≤ 9223372036854775807
theorem Row9.pos {w : World} {M n : Nat} {A : Option Addr} (h : Row9 w M A n) {m : Nat} (hm : m < n) : ∃ g cur, A = some ⟨g, 0, none⟩ ∧ M ≤ g ∧ w.heap[g]? = some (.cells cur 9 (0, 0)) ∧ m < cur.size ∧ n ≤ 9223372036854775807 := by
  rcases h with h | ⟨g, cur, h1, h2, h3, h4, h5⟩
  · omega
  · exact ⟨g, cur, h1, h2, h3, by omega, h5⟩
structure Spoil (M : Nat) (A B : World) : Prop where
  below : Below M A B
  other : ∀ i : Nat, (∀ cur : Array Value, A.heap[i]? ≠ some (Obj.cells cur 9 (0, 0))) → B.heap[i]? = A.heap[i]?
  rows : ∀ (i : Nat) (cur : Array Value), A.heap[i]? = some (Obj.cells cur 9 (0, 0)) → ∃ cur' : Array Value, B.heap[i]? = some (Obj.cells cur' 9 (0, 0)) ∧ cur'.size = cur.size
theorem Spoil.refl (M : Nat) (A : World) : Spoil M A A := ⟨Below.refl _ _, fun _ _ => rfl, fun _ cur h => ⟨cur, h, rfl⟩⟩
theorem Spoil.store {M : Nat} {A B : World} (h : Spoil M A B) {g : Nat} {cur : Array Value} (hM : M ≤ g) (hb : B.heap[g]? = some (.cells cur 9 (0, 0))) (k : Nat) (v : Value) : Spoil M A (B.setCell ⟨g, k, none⟩ v) := by
  refine ⟨h.below.setCell (p := ⟨g, k, none⟩) hM v, fun i hi => ?_, fun i c hc => ?_⟩
  · have hne : i ≠ g := by
      rintro rfl
      exact hi cur ((h.other i hi).symm.trans hb)
    exact (Below.heap_setCell B ⟨g, k, none⟩ v i hne).trans (h.other i hi)
  · obtain ⟨c', h1, h2⟩ := h.rows i c hc
    by_cases hne : i = g
    · subst hne
      exact ⟨c'.setIfInBounds k v, blk_set h1 k v, by simp [h2]⟩
    · exact ⟨c', (Below.heap_setCell B ⟨g, k, none⟩ v i hne).trans h1, h2⟩
theorem Row9.spoil {M M' : Nat} {A B : World} {X : Option Addr} {n : Nat} (h : Row9 A M X n) (hs : Spoil M' A B) : Row9 B M X n := by
  rcases h with h | ⟨g, cur, h1, h2, h3, h4, h7⟩
  · exact .inl h
  · obtain ⟨c', h5, h6⟩ := hs.rows g cur h3
    exact .inr ⟨g, c', h1, h2, h5, by omega, h7⟩
theorem Spoil.cell {M : Nat} {A B : World} (h : Spoil M A B) {a : Addr} {cs : Array Value} {t : TypeId} (ht : t ≠ 9) (hb : A.heap[a.block]? = some (.cells cs t (0, 0))) : B.cell? a = A.cell? a :=
  World.cell?_of_block (h.other a.block (fun cur hc => by
    rw [hb] at hc
    injection hc with hc; injection hc with _ hc
    exact ht hc))
theorem row9_of {w : World} {M : Nat} {ok : Nat → Prop} {v : Value} {xs : List ByteArray} (h : Kd.string.R 9 w M ok v xs) : ∃ X c, v = .slice X xs.length c ∧ Row9 w M X xs.length := by
  obtain ⟨_, inner, ho, hr⟩ := h
  rcases ho.2 with ⟨rfl, hn⟩ | ⟨g, cap, cur, rfl, hg, hh, hcap, hmax, hsz, _⟩
  · exact ⟨none, 0, by rw [hn], .inl hn⟩
  · refine ⟨some ⟨g, 0, none⟩, cap, rfl, .inr ⟨g, cur, rfl, hg, hh, ?_, Nat.le_trans hcap hmax⟩⟩
    have e : cur.size = cap * 1 := hsz
    omega
theorem back_el {w : World} {M : Nat} {ok : Nat → Prop} {A : Option Addr} {n c : Nat} {xs : List S34} (h : Kd.S k34 34 w M ok (.slice A n c) xs) (i : Int) (h0 : 0 ≤ i) (h1 : i < n) :
    ∃ ad A1 c1 A2 c2 cs, A = some ad ∧ w.heap[(ad.add (i.toNat * 3)).block]? = some (.cells cs 34 (0, 0)) ∧ w.cell? ⟨(ad.add (i.toNat * 3)).block, (ad.add (i.toNat * 3)).off + 1, none⟩ = some (.slice A1 (rd_T34 xs i).f1.length c1) ∧ w.cell? ⟨(ad.add (i.toNat * 3)).block, (ad.add (i.toNat * 3)).off + 2, none⟩ = some (.slice A2 (rd_T34 xs i).f2.length c2) ∧
      Row9 w M A1 (rd_T34 xs i).f1.length ∧ Row9 w M A2 (rd_T34 xs i).f2.length := by
  have hn := (Kd.S_reads' h).1
  obtain ⟨g, cap, e, hg, hlt, cs, hcs⟩ := Kd.S_form h (by omega)
  injection e with e1 e2 e3; subst e1
  obtain ⟨cl, hcl, hM, hcc, _⟩ := Kd.R_elem (Kd.S_R h) z34 i h0 h1
  obtain ⟨v1, v2, rfl, g1, g2⟩ := k34_openM hM
  obtain ⟨X1, c1, rfl, r1⟩ := row9_of g1
  obtain ⟨X2, c2, rfl, r2⟩ := row9_of g2
  have ea : (⟨g, 0, none⟩ : Addr).add (i.toNat * 3) = ⟨g, i.toNat * 3, none⟩ := add_plain _ _
  refine ⟨_, X1, c1, X2, c2, cs, rfl, by rw [ea]; exact hcs, ?_, ?_, r1, r2⟩
  · rw [ea]
    exact hcc 1 _ rfl
  · rw [ea]
    exact hcc 2 _ rfl
theorem lit_C (w : World) (b : Nat) (x : ByteArray) (h : w.heap[b]? = some (.cells #[.string x] 9 (0, 0))) : Kd.C Kd.string w (some ⟨b, 0, none⟩) 1 [x] := ⟨rfl, by decide, fun _ => ⟨⟨b, 0, none⟩, rfl, fun j p hp => by
  have hj : j = 0 := by
    rcases Nat.eq_zero_or_pos j with q | q
    · exact q
    · rw [List.getElem?_eq_none (by simp only [List.length_cons, List.length_nil]; omega)] at hp
      exact absurd hp (by simp)
  subst hj
  obtain rfl : x = p := by simpa using hp
  refine ⟨[.string x], rfl, rfl, fun i u hu => ?_⟩
  rw [add_plain, blk_cell h]
  match i, hu with
  | 0, hu => simpa using hu
  | i + 1, hu => simp at hu⟩⟩
theorem is25_keep {w W W' : World} {g g' : Nat} {l : List Int} {a : Int} (h : IsS25 w W g l a) (hk : KeepBut W W' g' none) (hne : g ≠ g') : IsS25 w W' g l a := by
  obtain ⟨A0, c0, hb, hge, hC⟩ := h
  exact ⟨A0, c0, (hk.2 g (blk_lt hb) hne (by simp)).trans hb, hge, hC⟩
theorem AddK.below {g b M : Nat} {w0 w w' : World} (h : AddK g b w w') (hB : Below M w0 w) (hM : M ≤ w.heap.size) (hg : M ≤ g) (hb : M ≤ b) : Below M w0 w' :=
  hB.trans ⟨h.os, h.tape, h.output, h.size, fun k hk => h.block k (by omega) (by omega) (by omega)⟩
def chasekeep1_WordsStay.Good (l : List Int) : Prop := ∃ (k : Nat) (t : ByteArray) (a1 a2 : Int) (x L : List S34) (e : Int), chasemake_Stream_Prose.f k l 0 14 = some (t, a1) ∧ t.size ≤ 9223372036854775807 ∧ chasemake_Stream_Changes.f k l a1 t = some (x, a2) ∧
  near_Turn.f k t x = some (L, e) ∧ near_Catalog_Add.f k 0 ⟨#[98, 97]⟩ t = some 0 ∧ chasekeep1_nears.f k = some true ∧ chaseref1_SameChanges.f x x = some true ∧ slices_Equal_string_string.f k [⟨#[98, 97]⟩] [⟨#[98, 97]⟩] = some true
theorem wr_next (m N : Nat) (h : m < N) (hN : N ≤ 9223372036854775807) : wrap64 ((m : Int) + 1) = ((m + 1 : Nat) : Int) := (wr64 (by omega) (by omega)).trans (by omega)
theorem meas_a (m N : Nat) (h : m < N) : N - (intOf (.int .i64 ((m : Int) + 1))).toNat < N - (intOf (.int .i64 (m : Int))).toNat := by
  show N - ((m : Int) + 1).toNat < N - (m : Int).toNat
  omega
theorem meas_b (m N : Nat) (h : m < N) (hw : wrap64 ((m : Int) + 1) = ((m + 1 : Nat) : Int)) : N - (intOf (.int .i64 (wrap64 ((m : Int) + 1)))).toNat < N - (intOf (.int .i64 (m : Int))).toNat := by
  rw [hw]
  simp only [intOf, Int.toNat_natCast]
  omega
set_option maxHeartbeats 8000000 in
set_option maxRecDepth 100000 in
theorem chasekeep1_WordsStay.calls (A0 : Option Addr) (c0 : Nat) (l0 : List Int) (w : World) (hr0 : Kd.C (Kd.int .i64) w A0 l0.length l0) (hc0 : l0.length ≤ c0) (hGl : Wd w) (h : chasekeep1_WordsStay.Good l0) :
  Calls Tryz.prog 3 #[.slice A0 l0.length c0] w fun e w' => e = .returned (.bool true) ∧ Below w.heap.size w w' := by
 have hu25 := Tryz.underlying25
 have hu40 := Tryz.underlying40
 obtain ⟨k, t, a1, a2, x, L, e0, h1, hts, h2, h3, h5, h6, h7, h8⟩ := h; have H1 := am_ h1; have HTS := am_ hts; have H2 := am_ h2; have H3 := am_ h3; have H5 := am_ h5; have H6 := am_ h6; have H7 := am_ h7; have H8 := am_ h8; have HGl := am_ hGl; have HR0 := am_ hr0; have HC0 := am_ hc0; clear h1 hts h2 h3 h5 h6 h7 h8 hGl hr0 hc0
 go_enter Tryz.func3, Tryz.ntmps3
 go_wp2_with (first | ((with_reducible refine gate_dst (N := 20) rfl ?_); (try (refine gate_guard (by rfl) ?_; dsimp only)); refine box_event ?hg (N := 20) ?hd (cs := #[.slice A0 l0.length c0, .int .i64 0]) (t := 25) ?hr ?_; (case hd => rfl); (case hg => rfl); (case hr => first | (go_simp; done) | (go_simp; rfl)); intro ga hg w6 hbox hb; have HA : Aside0 (IsS25 w w6 ga l0 0) := ⟨⟨A0, c0, hbox, (by rw [hg]; exact Nat.le_refl _), HR0.out⟩⟩; have HBa := am_ hb; clear hg hbox hb) | ((with_reducible refine gate_dst (N := 23) rfl ?_); (try (refine gate_guard (by rfl) ?_; dsimp only)); refine box_event ?hg (N := 23) ?hd (cs := #[.slice A0 l0.length c0, .int .i64 0]) (t := 25) ?hr ?_; (case hd => rfl); (case hg => rfl); (case hr => first | (go_simp; done) | (go_simp; rfl)); intro gb hg w7 hbox hb; have HNE : Aside0 (ga ≠ gb) := ⟨by rw [hg]; exact Nat.ne_of_lt HA.out.lt⟩; have HIa := am_ (HA.out.below hb); have HIb : Aside0 (IsS25 w w7 gb l0 0) := ⟨⟨A0, c0, hbox, (by rw [hg]; exact HBa.out.size), HR0.out⟩⟩; have HB := am_ (below_step HBa.out hb); clear hg hbox hb HA HBa) | (go_at_call 4; (with_reducible refine (chasemake_Stream_Prose.calls k ga l0 0 14 t a1 w _ HIa.out HB.out H1.out).mono ?_); rintro e w1 ⟨rfl, hi, hb, hk⟩))
 replace HIb := am_ (is25_keep HIb.out hk (fun e => HNE.out e.symm))
 replace HIa := am_ hi
 replace HB := am_ hb
 clear hi hb hk
 go_wp2_with (first | (go_at_call 4; (with_reducible refine (chasemake_Stream_Prose.calls k gb l0 0 14 t a1 w _ HIb.out HB.out H1.out).mono ?_); rintro e w2 ⟨rfl, hi, hb, hk⟩))
 replace HIa := am_ (is25_keep HIa.out hk HNE.out)
 replace HIb := am_ hi
 replace HB := am_ hb
 clear hi hb hk
 go_wp2_with (first | (go_at_call 5; (with_reducible refine (chasemake_Stream_Changes.calls k ga l0 a1 t x a2 w _ HIa.out HB.out HGl.out H2.out).mono ?_); rintro e w3 ⟨vx, rfl, hx, hi, hb, hk⟩))
 have HX := am_ (Kd.N_mono (ok' := fun k_ => k_ ≠ gb) hx (fun k_ hk_ => HIb.out.fresh k_ hk_))
 replace HIb := am_ (is25_keep HIb.out hk (fun e => HNE.out e.symm))
 replace HB := am_ hb
 clear hi hb hk hx HIa HNE
 go_wp2_with (first | (go_at_call 5; (with_reducible refine (chasemake_Stream_Changes.calls k gb l0 a1 t x a2 w _ HIb.out HB.out HGl.out H2.out).mono ?_); rintro e w4 ⟨vy, rfl, hy, hi, hb, hk⟩))
 have hX2 := Kd.N_keep HX.out hk (fun _ h => h)
 clear HX HIb HB hi hk
 obtain ⟨Ax, cx, rfl, hcx, hCx⟩ := Kd.N_reads hX2
 obtain ⟨Ay, cy, rfl, hcy, hCy⟩ := Kd.N_reads hy
 have HCX := am_ (And.intro hcx hCx)
 have HCY := am_ (And.intro hcy hCy)
 have HB4 := am_ hb; clear hX2 hy hcx hCx hcy hCy hb
 go_upto_if 41 with (first | (go_at_call 6; (with_reducible refine (near_Turn.calls k t Ax cx x L e0 w4 HCX.out.2 HCX.out.1 (Wd.below HGl.out HB4.out) H3.out).mono ?_); rintro e w5 ⟨vb, rfl, hS, hb5⟩))
 obtain ⟨Ab, cb, rfl, hlb, hCb⟩ := Kd.S_reads hS
 have HS := am_ hS; have HB5 := am_ hb5
 have HLb : Aside0 (L.length ≤ 9223372036854775807) := ⟨Kd.C_max hCb⟩
 clear hlb hCb hS hb5
 (try simp only [Act.put, s_t, s_z, s_s])
 go_cut [] (fun wc => ∃ (kq : Nat), Aside0 (Below w4.heap.size w4 wc))
 case first =>
  by_cases c11 : e0 = 0
  · have c11b0 : (e0 == 0) = true := beq_iff_eq.mpr c11
    clear c11
    (first | rw [c11b0] | (simp only [i64_w, i32_w]; rw [c11b0]) | skip)
    go_wp2
    go_loopw [44] (fun v44 wr => ∃ (j : Nat), v44 = .int .i64 j ∧ Aside0 (j ≤ L.length) ∧ Aside0 (Spoil w4.heap.size w5 wr)) (fun v44 _ => L.length - (intOf v44).toNat)
    case atStart => exact ⟨0, rfl, ⟨Nat.zero_le _⟩, ⟨Spoil.refl _ _⟩⟩
    case round =>
      obtain ⟨j, rfl, HJ, HP⟩ := hrel
      by_cases hlt : j < L.length
      · obtain ⟨ad, A1, c1, A2, c2, cs, rfl, hbk, hx1, hx2, hr1, hr2⟩ := back_el HS.out (j : Int) (by omega) (by omega)
        simp only [Int.toNat_natCast] at hbk hx1 hx2
        generalize (rd_T34 L (j : Int)).f1.length = N1 at *
        generalize (rd_T34 L (j : Int)).f2.length = N2 at *
        have HLB := am_ hlt; have HBK := am_ hbk; have HX1 := am_ hx1; have HX2 := am_ hx2; have HRW1 := am_ hr1; have HRW2 := am_ hr2
        have hj1 : ((j : Int) < (L.length : Int)) = True := eq_true (by omega)
        have hj2 : (0 ≤ (j : Int)) = True := eq_true (by omega)
        have hy : wr.cell? ⟨(ad.add (j * 3)).block, (ad.add (j * 3)).off + 1, none⟩ = some (.slice A1 N1 c1) := (HP.out.cell (a := ⟨(ad.add (j * 3)).block, (ad.add (j * 3)).off + 1, none⟩) (by decide) HBK.out).trans HX1.out
        clear hbk hx1 hx2 hr1 hr2 hlt
        go_wp2
        clear hy
        go_loopw [53] (fun v53 wr => ∃ (m : Nat), v53 = .int .i64 m ∧ Aside0 (m ≤ N1) ∧ Aside0 (Spoil w4.heap.size w5 wr)) (fun v53 _ => N1 - (intOf v53).toNat)
        case atStart => exact ⟨0, rfl, ⟨Nat.zero_le _⟩, HP⟩
        case round =>
          obtain ⟨m, rfl, HM, HQ⟩ := hrel; clear HP
          by_cases hlm : m < N1
          · obtain ⟨g1, cur, rfl, hM1, hb1, hc1, hmx⟩ := (HRW1.out.spoil HQ.out).pos hlm
            have hy : wr.cell? ⟨(ad.add (j * 3)).block, (ad.add (j * 3)).off + 1, none⟩ = some (.slice (some ⟨g1, 0, none⟩) N1 c1) := (HQ.out.cell (a := ⟨(ad.add (j * 3)).block, (ad.add (j * 3)).off + 1, none⟩) (by decide) HBK.out).trans HX1.out
            have hz : wr.cell? ⟨g1, m, none⟩ = some cur[m] := (blk_cell hb1 m).trans (Array.getElem?_eq_getElem hc1)
            have hf := blk_frozen hb1 m
            have HQ2 := am_ (HQ.out.store hM1 hb1 m (.string ⟨#[115, 112, 111, 105, 108, 116]⟩))
            have hwm : wrap64 ((m : Int) + 1) = ((m + 1 : Nat) : Int) := wr_next m _ hlm hmx
            have hl1 : ((m : Int) < (N1 : Int)) = True := eq_true (by omega)
            have hl2 : (0 ≤ (m : Int)) = True := eq_true (by omega)
            have hj1 : ((j : Int) < (L.length : Int)) = True := eq_true (by have := HLB.out; omega)
            have hj2 : (0 ≤ (j : Int)) = True := eq_true (by omega)
            clear HQ hM1 hb1 hmx
            generalize cur[m] = u at *
            go_wp2
            go_roundw
            case rel => exact ⟨m + 1, by go_num, ⟨by omega⟩, HQ2⟩
            case measure => first | exact meas_a m _ hlm | exact meas_b m _ hlm hwm
          · obtain rfl : m = N1 := by have := HM.out; omega
            have hl1 : ((m : Int) < (m : Int)) = False := eq_false (by omega)
            have hj1 : ((j : Int) < (L.length : Int)) = True := eq_true (by have := HLB.out; omega)
            have hj2 : (0 ≤ (j : Int)) = True := eq_true (by omega)
            have hy : wr.cell? ⟨(ad.add (j * 3)).block, (ad.add (j * 3)).off + 2, none⟩ = some (.slice A2 N2 c2) := (HQ.out.cell (a := ⟨(ad.add (j * 3)).block, (ad.add (j * 3)).off + 2, none⟩) (by decide) HBK.out).trans HX2.out
            go_wp2
            clear hy hl1 hlm
            have HQ0 := HQ
            clear HQ HM
            go_loopw [70] (fun v70 wr => ∃ (m : Nat), v70 = .int .i64 m ∧ Aside0 (m ≤ N2) ∧ Aside0 (Spoil w4.heap.size w5 wr)) (fun v70 _ => N2 - (intOf v70).toNat)
            case atStart => exact ⟨0, rfl, ⟨Nat.zero_le _⟩, HQ0⟩
            case round =>
              obtain ⟨m, rfl, HM, HQ⟩ := hrel; clear HQ0
              by_cases hlm : m < N2
              · obtain ⟨g1, cur, rfl, hM1, hb1, hc1, hmx⟩ := (HRW2.out.spoil HQ.out).pos hlm
                have hy : wr.cell? ⟨(ad.add (j * 3)).block, (ad.add (j * 3)).off + 2, none⟩ = some (.slice (some ⟨g1, 0, none⟩) N2 c2) := (HQ.out.cell (a := ⟨(ad.add (j * 3)).block, (ad.add (j * 3)).off + 2, none⟩) (by decide) HBK.out).trans HX2.out
                have hz : wr.cell? ⟨g1, m, none⟩ = some cur[m] := (blk_cell hb1 m).trans (Array.getElem?_eq_getElem hc1)
                have hf := blk_frozen hb1 m
                have HQ2 := am_ (HQ.out.store hM1 hb1 m (.string ⟨#[115, 112, 111, 105, 108, 116]⟩))
                have hwm : wrap64 ((m : Int) + 1) = ((m + 1 : Nat) : Int) := wr_next m _ hlm hmx
                have hl1 : ((m : Int) < (N2 : Int)) = True := eq_true (by omega)
                have hl2 : (0 ≤ (m : Int)) = True := eq_true (by omega)
                have hj1 : ((j : Int) < (L.length : Int)) = True := eq_true (by have := HLB.out; omega)
                have hj2 : (0 ≤ (j : Int)) = True := eq_true (by omega)
                clear HQ hM1 hb1 hmx
                generalize cur[m] = u at *
                go_wp2
                go_roundw
                case rel => exact ⟨m + 1, by go_num, ⟨by omega⟩, HQ2⟩
                case measure => first | exact meas_a m _ hlm | exact meas_b m _ hlm hwm
              · obtain rfl : m = N2 := by have := HM.out; omega
                have hl1 : ((m : Int) < (m : Int)) = False := eq_false (by omega)
                have hj1 : ((j : Int) < (L.length : Int)) = True := eq_true (by have := HLB.out; omega)
                have hj2 : (0 ≤ (j : Int)) = True := eq_true (by omega)
                have hwj : wrap64 ((j : Int) + 1) = ((j + 1 : Nat) : Int) := wr_next j _ HLB.out HLb.out
                go_wp2
                go_roundw
                case rel => exact ⟨j + 1, by go_num, ⟨by have := HLB.out; omega⟩, HQ⟩
                case measure => first | exact meas_a j _ HLB.out | exact meas_b j _ HLB.out hwj
      · obtain rfl : j = L.length := by have := HJ.out; omega
        have hlz0 : ((L.length : Int) < (L.length : Int)) = False := eq_false (by omega)
        go_wp2
        go_meet
        case rel => exact ⟨0, ⟨HB5.out.trans HP.out.below⟩⟩
  · have c11b0 : (e0 == 0) = false := beq_eq_false_iff_ne.mpr c11
    (first | rw [c11b0] | (simp only [i64_w, i32_w]; rw [c11b0]) | skip)
    go_wp2
    go_meet
    case rel => exact ⟨0, HB5⟩
 case rest =>
  obtain ⟨_, HB6⟩ := hcut
  go_wp2_with (first | (go_at_call 7; (with_reducible refine (New_calls _).mono ?_); rintro e w7 ⟨gc, bc, rfl, hcat, hgn, hbn, hb7⟩))
  have HB7 := am_ (below_step HB6.out hb7)
  have HGE : Aside0 (w4.heap.size ≤ gc ∧ w4.heap.size ≤ bc) := ⟨Nat.le_trans HB6.out.size hgn, Nat.le_trans HB6.out.size hbn⟩
  have HCAT := am_ hcat; clear hcat hgn hbn hb7 HB6
  go_wp2_with (first | (go_at_call 8; (with_reducible refine (Add_calls k gc bc ⟨#[98, 97]⟩ t 0 rfl w7 HCAT.out (by decide) HTS.out H5.out).mono ?_); rintro e w8 ⟨rfl, n8, hk8, hc8⟩))
  have HB8 := am_ (hk8.below HB7.out HB7.out.size HGE.out.1 HGE.out.2)
  have HC8 : Aside0 (CatAt w8 gc bc 1 ((DataW.map []).put (.string [98, 97]) (.lit (.string t.data.toList))) n8) := ⟨hc8⟩
  clear hk8 hc8 HB7 HCAT HGE
  go_wp2_with (first | (go_at_call 9; (with_reducible refine (Ids_calls gc bc t.data.toList n8 w8 HC8.out).mono ?_); rintro e w9 ⟨v9, rfl, hR9, hb9⟩; obtain ⟨X9, c9, rfl, hrow⟩ : ∃ X c, v9 = .slice X 1 c ∧ Row9 w9 w8.heap.size X 1 := row9_of hR9; have HRW9 := am_ hrow; have HB9 := am_ hb9; clear hR9 hb9 hrow))
  go_loopw [99] (fun v99 wr => ∃ (m : Nat), v99 = .int .i64 m ∧ Aside0 (m ≤ 1) ∧ Aside0 (Spoil w8.heap.size w9 wr)) (fun v99 _ => 1 - (intOf v99).toNat)
  case atStart => exact ⟨0, rfl, ⟨Nat.zero_le _⟩, ⟨Spoil.refl _ _⟩⟩
  case round =>
    obtain ⟨m, rfl, HM, HQ⟩ := hrel
    by_cases hlm : m < 1
    · obtain ⟨g9, cur, rfl, hM9, hb9, hc9, _⟩ := (HRW9.out.spoil HQ.out).pos hlm
      obtain rfl : m = 0 := by omega
      have hz : wr.cell? ⟨g9, 0, none⟩ = some cur[0] := (blk_cell hb9 0).trans (Array.getElem?_eq_getElem hc9)
      have hf := blk_frozen hb9 0
      have HQ2 := am_ (HQ.out.store hM9 hb9 0 (.string ⟨#[115, 112, 111, 105, 108, 116]⟩))
      clear HQ hM9 hb9
      generalize cur[0] = u at *
      go_wp2
      go_roundw
      case rel => exact ⟨1, by go_num, ⟨by omega⟩, HQ2⟩
      case measure => decide
    · obtain rfl : m = 1 := by have := HM.out; omega
      have HB10 := am_ (below_step HB8.out (HB9.out.trans HQ.out.below))
      have HC10 := am_ (HC8.out.below (HB9.out.trans HQ.out.below))
      clear HQ HM hlm HB9 HB8 HC8 HRW9
      go_wp2_with (first | (go_at_call 10; (with_reducible refine (chasekeep1_nears.calls k true wr H6.out).mono ?_); rintro e w10 ⟨rfl, hb10⟩))
      have HB11 := am_ (below_step HB10.out hb10)
      have HC11 := am_ (HC10.out.below hb10)
      clear HB10 HC10 hb10
      go_wp2_with (first | (go_at_call 11; (with_reducible refine (chaseref1_SameChanges.calls Ax cx x Ay cy x true w10 (Kd.C_below HCX.out.2 HB11.out) HCX.out.1 (Kd.C_below HCY.out.2 HB11.out) HCY.out.1 H7.out).mono ?_); rintro e w11 ⟨rfl, hb11⟩))
      have HB12 := am_ (below_step HB11.out hb11)
      have HC12 := am_ (HC11.out.below hb11)
      clear HB11 HC11 hb11
      go_wp2_with (first | (go_at_call 9; (with_reducible refine (Ids_calls gc bc t.data.toList n8 w11 HC12.out).mono ?_); rintro e w12 ⟨v12, rfl, hR12, hb12⟩))
      obtain ⟨A12, c12, rfl, hc12, hC12⟩ : ∃ A c, v12 = .slice A 1 c ∧ 1 ≤ c ∧ Kd.C Kd.string w12 A 1 [(⟨#[98, 97]⟩ : ByteArray)] := Kd.R_reads hR12
      have HB13 := am_ (below_step HB12.out hb12)
      have HCS := am_ (And.intro hc12 hC12)
      clear HB12 HC12 hb12 hR12 hc12 hC12
      have HEQ : Calls Tryz.prog 12 #[.slice A12 1 c12, .slice (some ⟨w12.heap.size, 0, none⟩) 1 1] (w12.alloc (.cells #[.string (⟨#[98, 97]⟩ : ByteArray)] 9)) (fun e w' => e = .returned (.bool true) ∧ Drawn0 (w12.alloc (.cells #[.string (⟨#[98, 97]⟩ : ByteArray)] 9)) w') :=
        slices_Equal_string_string.calls k A12 c12 [(⟨#[98, 97]⟩ : ByteArray)] (some ⟨w12.heap.size, 0, none⟩) 1 [(⟨#[98, 97]⟩ : ByteArray)] true _ (Kd.C_alloc HCS.out.2 _) HCS.out.1 (lit_C _ _ _ (blk_new _ _)) (Nat.le_refl _) H8.out
      go_wp2_with (first | (go_at_call 12; (with_reducible refine HEQ.mono ?_); rintro e w14 ⟨rfl, ⟨nd, rfl⟩⟩))
      go_ret
      exact ⟨rfl, b1_ (HB4.out.trans ((b3_ HB13.out _).mono HB4.out.size)) _⟩
def chasekeep1_WordsStay.Pure : Prop := ∀ (l0 : List Int), l0.length ≤ maxLen → l0.length * 8 ≤ 140737488351232 → (∀ x ∈ l0, (Lit.int .i64 x).wf = true) → chasekeep1_WordsStay.Good l0
theorem chasekeep1_WordsStay.walk (P : chasekeep1_WordsStay.Pure) (a0 : Option Addr) (len0 cap0 : Nat) (z0 : List Int) (w : World) (w0 : (a0 = none ∧ len0 = 0 ∧ cap0 = 0 ∧ z0 = []) ∨ ∃ x, a0 = some x ∧ len0 ≤ cap0 ∧ cap0 ≤ maxLen ∧ z0.length = cap0 ∧ (∀ i, i < z0.length → w.cell? (x.add i) = some (.int .i64 (z0.getD i 0))) ∧ ∀ n ∈ z0, (Lit.int .i64 n).wf = true) (y0 : len0 * 8 ≤ 140737488351232) (hGl : Wd w) :
  Calls Tryz.prog 3 #[.slice a0 len0 cap0] w fun e w' => e = .returned (.bool true) ∧ Below w.heap.size w w' := by
 obtain ⟨l0, rfl, hr0, hm0, hw0, hc0⟩ := ReadsInt.ofRowC w0
 refine (chasekeep1_WordsStay.calls _ _ l0 w (Kd.C_of_reads (d := (0 : Int)) (h1 := fun _ => rfl) hr0) hc0 hGl (P l0 hm0 y0 hw0)).mono ?_
 rintro e w' ⟨rfl, hd⟩
 exact ⟨rfl, hd⟩
end Go.Proofs.YtenphgclongphaaGreatDoor.Pk
