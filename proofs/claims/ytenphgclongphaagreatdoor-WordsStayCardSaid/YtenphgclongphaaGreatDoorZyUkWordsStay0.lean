/- A part of the proof of wordsStay. No conditions. Laid by program over the kit's print and words. -/
import Derived.Test.YtenphgclongphaaGreatDoorZyUAll
import Derived.Test.YtenphgclongphaaGreatDoorZyPkx11
import Derived.Test.YtenphgclongphaaGreatDoorZyPkx9
import Derived.Test.YtenphgclongphaaGreatDoorZyPkx12
namespace Go.Proofs.YtenphgclongphaaGreatDoor.Pk
open Go.RowKit Go.Proofs.YtenphgclongphaaGreatDoor.GBase Go.Proofs.YtenphgclongphaaGreatDoorW.PrintWords Go.Proofs.YtenphgclongphaaGreatDoorW.PrintLast Go.Proofs.YtenphgclongphaaGreatDoorW.PrintMore
set_option linter.unusedVariables false
set_option linter.unusedSimpArgs false
theorem eqL_self : ∀ l : List ByteArray, api_WordChange.eqL l l = true
  | [] => rfl
  | x :: l => by simp only [api_WordChange.eqL, eqL_self l, decide_true, Bool.and_self]
theorem eqC_self : ∀ l : List S34, api_WordChange.eqC l l = true
  | [] => rfl
  | x :: l => by simp only [api_WordChange.eqC, api_WordChange.eqW, eqL_self, eqC_self l, decide_true, Bool.and_self]
theorem same_is (l : List S34) : chaseref1_SameChanges.f l l = some true := by
  unfold chaseref1_SameChanges.f api_WordChange.f
  rw [if_pos rfl, eqC_self]
  rfl
theorem add_ev (t : ByteArray) (ht : t.size ≤ 300) : Ev (fun k => near_Catalog_Add.f k 0 ⟨#[98, 97]⟩ t) 0 := by
  have hw : wrap64 (0 + (t.size : Int)) = (t.size : Int) := (wr64 (by omega) (by omega)).trans (by omega)
  have hd : decide (wrap64 (0 + (t.size : Int)) > 500000) = false := decide_eq_false (by rw [hw]; omega)
  have hlg : near_large.f t = some 0 := by rw [large_is, if_neg (by omega)]
  have hk : Ev (fun k => base_Key.f k ⟨#[98, 97]⟩) true := Ev.of (fun k => base_Key.mono _ k) (k := 6) (by decide +kernel)
  refine Ev.congr (fun _ => near_Catalog_Add.f.eq_1 ..) (ev_neg (by decide) ?_)
  rw [hd]
  refine Ev.step (fun _ => near_Catalog_Add.j0.eq_2 ..) (Ev.bind hk (ev_bindc (a := 0) rfl (ev_bindc hlg (ev_bindc (a := 0) rfl (ev_bindc (a := 0) rfl (Ev.bind (First_ev [0, 0, 0, 0] (by decide)) (ev_pos rfl (Ev.now _))))))))
theorem stay_good (l : List Int) (hl : Nums l) : chasekeep1_WordsStay.Good l := by
  obtain ⟨t, a1, ht, hts, b1, b2⟩ := Prose_ev l 0 14 hl (by omega) (by omega) (by omega) (by omega)
  obtain ⟨P, a2, hP, hG⟩ := Changes_ev l a1 t hl (by omega) (by omega) hts
  obtain ⟨K1, h1⟩ := ht
  obtain ⟨K2, h2⟩ := hP
  obtain ⟨K3, h3⟩ := Turn_ev t P (by omega) hG
  obtain ⟨K4, h4⟩ := add_ev t hts
  obtain ⟨K5, h5⟩ := nears_ev
  obtain ⟨K6, h6⟩ := eqS_ev [(⟨#[98, 97]⟩ : ByteArray)] (by decide)
  exact ⟨K1 + K2 + K3 + K4 + K5 + K6, t, a1, a2, P, (patT t P).1, (patT t P).2, h1 _ (by omega), by omega, h2 _ (by omega), h3 _ (by omega), h4 _ (by omega), h5 _ (by omega), same_is _, h6 _ (by omega)⟩
end Go.Proofs.YtenphgclongphaaGreatDoor.Pk
