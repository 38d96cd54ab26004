/- Part of the proof that the law shinglesLike is true for every input. No conditions. Laid by a program of this session over the kit's print and words; declarations that nothing names are left out. -/
import Derived.Test.YtbamfhcifpfocaaZhGNe2
import Derived.Test.YtbamfhcifpfocaaZhPhx0
import Derived.Test.YtbamfhcifpfocaaZhPhx2
import Derived.Test.YtbamfhcifpfocaaZhPhx3
import Derived.Test.YtbamfhcifpfocaaZhPhx4
import Derived.Test.YtbamfhcifpfocaaZhPhx5
import Derived.Test.YtbamfhcifpfocaaZhPhx6
import Derived.Test.YtbamfhcifpfocaaZhPhx7
import Derived.Test.YtbamfhcifpfocaaZhPhx8
import Derived.Test.YtbamfhcifpfocaaZhPhx9
import Derived.Test.YtbamfhcifpfocaaZhPhx10
namespace Go.Proofs.Ytbamfhcifpfocaa.Ph
open Go.RowKit Go.Proofs.Ytbamfhcifpfocaa.GBase Go.Proofs.YtbamfhcifpfocaaW.PrintWords Go.Proofs.YtbamfhcifpfocaaW.PrintLast Go.Proofs.YtbamfhcifpfocaaW.PrintMore
attribute [local go_sem] max2_int min2_int max_two min_two max_three min_three max_four min_four
set_option linter.unusedVariables false
set_option linter.unusedSimpArgs false
set_option maxHeartbeats 8000000 in
set_option maxRecDepth 100000 in
theorem chaselaw1_ShinglesLike.calls (k : Nat) (A0 : Option Addr) (c0 : Nat) (l0 : List Int) (r : Bool) (w : World) (hr0 : Kd.C (Kd.int .i64) w A0 l0.length l0) (hc0 : l0.length ≤ c0) (h : chaselaw1_ShinglesLike.f k l0 = some r) :
  Calls Try.prog 4 #[.slice A0 l0.length c0] w fun e w' => e = .returned (.bool r) ∧ Below w.heap.size w w' := by
 have hu25 := Try.underlying25
 have hu35 := Try.underlying35
 have HR0 := Aside0.mk hr0
 have HC0 := Aside0.mk hc0
 clear hr0 hc0
 have HB := Aside0.mk (Below.refl w.heap.size w)
 have H : ((chasemake_Stream_Prose.f k l0 0 12).bind fun bt335 => ((chasemake_Stream_Size.f l0 bt335.2).bind fun bt337 => ((chasemake_Stream_Changed.f k l0 bt337.2 bt335.1 (⟨#[97, 98, 32, 120]⟩ : ByteArray)).bind fun bt339 => ((near_Shingles.f k bt335.1 bt337.1).bind fun bt341 => ((near_Resemblance.f k bt335.1 bt339.1 bt337.1).bind fun bt345 => ((near_Containment.f k bt335.1 bt339.1 bt337.1).bind fun bt349 => ((chaseref1_ShinglesFault.f bt335.1 bt337.1).bind fun t353 => (if t353 = 0 then (if bt341.2 = 0 then (if bt345.2.2 = 0 then (if bt349.2.2 = 0 then ((chaseref1_ShinglesOf.f k bt335.1 bt337.1).bind fun t355 => ((slices_Equal_string_string.f k bt341.1 t355).bind fun t358 => (if t358 = true then ((chaseref1_LikeOf.f k bt335.1 bt339.1 bt337.1).bind fun bt359 => (if (!(bt345.1 == bt359.1) || (!(bt345.2.1 == bt359.2))) = true then (chaselaw1_ShinglesLike.j1 k true l0 bt339.2) else ((chaseref1_ContainmentOf.f k bt335.1 bt339.1 bt337.1).bind fun bt361 => (chaselaw1_ShinglesLike.j1 k (!(bt349.1 == bt361.1) || (!(bt349.2.1 == bt361.2))) l0 bt339.2)))) else (chaselaw1_ShinglesLike.j1 k true l0 bt339.2)))) else (chaselaw1_ShinglesLike.j1 k true l0 bt339.2)) else (chaselaw1_ShinglesLike.j1 k true l0 bt339.2)) else (chaselaw1_ShinglesLike.j1 k true l0 bt339.2)) else ((chaselaw1_nears.f k).bind fun t354 => (if t354 = true then (if bt341.2 = t353 then (if bt345.2.2 = t353 then (chaselaw1_ShinglesLike.j0 k (bt349.2.2 == t353)) else (chaselaw1_ShinglesLike.j0 k false)) else (chaselaw1_ShinglesLike.j0 k false)) else (chaselaw1_ShinglesLike.j0 k false))))))))))) = some r := h
 clear h
 replace H := Option.bind_eq_some_iff.mp H
 obtain ⟨⟨t335, t336⟩, A20, H⟩ := H
 replace H : ((chasemake_Stream_Size.f l0 t336).bind fun bt337 => ((chasemake_Stream_Changed.f k l0 bt337.2 t335 (⟨#[97, 98, 32, 120]⟩ : ByteArray)).bind fun bt339 => ((near_Shingles.f k t335 bt337.1).bind fun bt341 => ((near_Resemblance.f k t335 bt339.1 bt337.1).bind fun bt345 => ((near_Containment.f k t335 bt339.1 bt337.1).bind fun bt349 => ((chaseref1_ShinglesFault.f t335 bt337.1).bind fun t353 => (if t353 = 0 then (if bt341.2 = 0 then (if bt345.2.2 = 0 then (if bt349.2.2 = 0 then ((chaseref1_ShinglesOf.f k t335 bt337.1).bind fun t355 => ((slices_Equal_string_string.f k bt341.1 t355).bind fun t358 => (if t358 = true then ((chaseref1_LikeOf.f k t335 bt339.1 bt337.1).bind fun bt359 => (if (!(bt345.1 == bt359.1) || (!(bt345.2.1 == bt359.2))) = true then (chaselaw1_ShinglesLike.j1 k true l0 bt339.2) else ((chaseref1_ContainmentOf.f k t335 bt339.1 bt337.1).bind fun bt361 => (chaselaw1_ShinglesLike.j1 k (!(bt349.1 == bt361.1) || (!(bt349.2.1 == bt361.2))) l0 bt339.2)))) else (chaselaw1_ShinglesLike.j1 k true l0 bt339.2)))) else (chaselaw1_ShinglesLike.j1 k true l0 bt339.2)) else (chaselaw1_ShinglesLike.j1 k true l0 bt339.2)) else (chaselaw1_ShinglesLike.j1 k true l0 bt339.2)) else ((chaselaw1_nears.f k).bind fun t354 => (if t354 = true then (if bt341.2 = t353 then (if bt345.2.2 = t353 then (chaselaw1_ShinglesLike.j0 k (bt349.2.2 == t353)) else (chaselaw1_ShinglesLike.j0 k false)) else (chaselaw1_ShinglesLike.j0 k false)) else (chaselaw1_ShinglesLike.j0 k false)))))))))) = some r := H
 have A2 := Aside0.mk A20
 clear A20
 replace H := Option.bind_eq_some_iff.mp H
 obtain ⟨⟨t337, t338⟩, A30, H⟩ := H
 replace H : ((chasemake_Stream_Changed.f k l0 t338 t335 (⟨#[97, 98, 32, 120]⟩ : ByteArray)).bind fun bt339 => ((near_Shingles.f k t335 t337).bind fun bt341 => ((near_Resemblance.f k t335 bt339.1 t337).bind fun bt345 => ((near_Containment.f k t335 bt339.1 t337).bind fun bt349 => ((chaseref1_ShinglesFault.f t335 t337).bind fun t353 => (if t353 = 0 then (if bt341.2 = 0 then (if bt345.2.2 = 0 then (if bt349.2.2 = 0 then ((chaseref1_ShinglesOf.f k t335 t337).bind fun t355 => ((slices_Equal_string_string.f k bt341.1 t355).bind fun t358 => (if t358 = true then ((chaseref1_LikeOf.f k t335 bt339.1 t337).bind fun bt359 => (if (!(bt345.1 == bt359.1) || (!(bt345.2.1 == bt359.2))) = true then (chaselaw1_ShinglesLike.j1 k true l0 bt339.2) else ((chaseref1_ContainmentOf.f k t335 bt339.1 t337).bind fun bt361 => (chaselaw1_ShinglesLike.j1 k (!(bt349.1 == bt361.1) || (!(bt349.2.1 == bt361.2))) l0 bt339.2)))) else (chaselaw1_ShinglesLike.j1 k true l0 bt339.2)))) else (chaselaw1_ShinglesLike.j1 k true l0 bt339.2)) else (chaselaw1_ShinglesLike.j1 k true l0 bt339.2)) else (chaselaw1_ShinglesLike.j1 k true l0 bt339.2)) else ((chaselaw1_nears.f k).bind fun t354 => (if t354 = true then (if bt341.2 = t353 then (if bt345.2.2 = t353 then (chaselaw1_ShinglesLike.j0 k (bt349.2.2 == t353)) else (chaselaw1_ShinglesLike.j0 k false)) else (chaselaw1_ShinglesLike.j0 k false)) else (chaselaw1_ShinglesLike.j0 k false))))))))) = some r := H
 have A3 := Aside0.mk A30
 clear A30
 replace H := Option.bind_eq_some_iff.mp H
 obtain ⟨⟨t339, t340⟩, A40, H⟩ := H
 replace H : ((near_Shingles.f k t335 t337).bind fun bt341 => ((near_Resemblance.f k t335 t339 t337).bind fun bt345 => ((near_Containment.f k t335 t339 t337).bind fun bt349 => ((chaseref1_ShinglesFault.f t335 t337).bind fun t353 => (if t353 = 0 then (if bt341.2 = 0 then (if bt345.2.2 = 0 then (if bt349.2.2 = 0 then ((chaseref1_ShinglesOf.f k t335 t337).bind fun t355 => ((slices_Equal_string_string.f k bt341.1 t355).bind fun t358 => (if t358 = true then ((chaseref1_LikeOf.f k t335 t339 t337).bind fun bt359 => (if (!(bt345.1 == bt359.1) || (!(bt345.2.1 == bt359.2))) = true then (chaselaw1_ShinglesLike.j1 k true l0 t340) else ((chaseref1_ContainmentOf.f k t335 t339 t337).bind fun bt361 => (chaselaw1_ShinglesLike.j1 k (!(bt349.1 == bt361.1) || (!(bt349.2.1 == bt361.2))) l0 t340)))) else (chaselaw1_ShinglesLike.j1 k true l0 t340)))) else (chaselaw1_ShinglesLike.j1 k true l0 t340)) else (chaselaw1_ShinglesLike.j1 k true l0 t340)) else (chaselaw1_ShinglesLike.j1 k true l0 t340)) else ((chaselaw1_nears.f k).bind fun t354 => (if t354 = true then (if bt341.2 = t353 then (if bt345.2.2 = t353 then (chaselaw1_ShinglesLike.j0 k (bt349.2.2 == t353)) else (chaselaw1_ShinglesLike.j0 k false)) else (chaselaw1_ShinglesLike.j0 k false)) else (chaselaw1_ShinglesLike.j0 k false)))))))) = some r := H
 have A4 := Aside0.mk A40
 clear A40
 replace H := Option.bind_eq_some_iff.mp H
 obtain ⟨⟨t341, t342⟩, A50, H⟩ := H
 replace H : ((near_Resemblance.f k t335 t339 t337).bind fun bt345 => ((near_Containment.f k t335 t339 t337).bind fun bt349 => ((chaseref1_ShinglesFault.f t335 t337).bind fun t353 => (if t353 = 0 then (if t342 = 0 then (if bt345.2.2 = 0 then (if bt349.2.2 = 0 then ((chaseref1_ShinglesOf.f k t335 t337).bind fun t355 => ((slices_Equal_string_string.f k t341 t355).bind fun t358 => (if t358 = true then ((chaseref1_LikeOf.f k t335 t339 t337).bind fun bt359 => (if (!(bt345.1 == bt359.1) || (!(bt345.2.1 == bt359.2))) = true then (chaselaw1_ShinglesLike.j1 k true l0 t340) else ((chaseref1_ContainmentOf.f k t335 t339 t337).bind fun bt361 => (chaselaw1_ShinglesLike.j1 k (!(bt349.1 == bt361.1) || (!(bt349.2.1 == bt361.2))) l0 t340)))) else (chaselaw1_ShinglesLike.j1 k true l0 t340)))) else (chaselaw1_ShinglesLike.j1 k true l0 t340)) else (chaselaw1_ShinglesLike.j1 k true l0 t340)) else (chaselaw1_ShinglesLike.j1 k true l0 t340)) else ((chaselaw1_nears.f k).bind fun t354 => (if t354 = true then (if t342 = t353 then (if bt345.2.2 = t353 then (chaselaw1_ShinglesLike.j0 k (bt349.2.2 == t353)) else (chaselaw1_ShinglesLike.j0 k false)) else (chaselaw1_ShinglesLike.j0 k false)) else (chaselaw1_ShinglesLike.j0 k false))))))) = some r := H
 have A5 := Aside0.mk A50
 clear A50
 replace H := Option.bind_eq_some_iff.mp H
 obtain ⟨⟨t345, t346, t347⟩, A60, H⟩ := H
 replace H : ((near_Containment.f k t335 t339 t337).bind fun bt349 => ((chaseref1_ShinglesFault.f t335 t337).bind fun t353 => (if t353 = 0 then (if t342 = 0 then (if t347 = 0 then (if bt349.2.2 = 0 then ((chaseref1_ShinglesOf.f k t335 t337).bind fun t355 => ((slices_Equal_string_string.f k t341 t355).bind fun t358 => (if t358 = true then ((chaseref1_LikeOf.f k t335 t339 t337).bind fun bt359 => (if (!(t345 == bt359.1) || (!(t346 == bt359.2))) = true then (chaselaw1_ShinglesLike.j1 k true l0 t340) else ((chaseref1_ContainmentOf.f k t335 t339 t337).bind fun bt361 => (chaselaw1_ShinglesLike.j1 k (!(bt349.1 == bt361.1) || (!(bt349.2.1 == bt361.2))) l0 t340)))) else (chaselaw1_ShinglesLike.j1 k true l0 t340)))) else (chaselaw1_ShinglesLike.j1 k true l0 t340)) else (chaselaw1_ShinglesLike.j1 k true l0 t340)) else (chaselaw1_ShinglesLike.j1 k true l0 t340)) else ((chaselaw1_nears.f k).bind fun t354 => (if t354 = true then (if t342 = t353 then (if t347 = t353 then (chaselaw1_ShinglesLike.j0 k (bt349.2.2 == t353)) else (chaselaw1_ShinglesLike.j0 k false)) else (chaselaw1_ShinglesLike.j0 k false)) else (chaselaw1_ShinglesLike.j0 k false)))))) = some r := H
 have A6 := Aside0.mk A60
 clear A60
 replace H := Option.bind_eq_some_iff.mp H
 obtain ⟨⟨t349, t350, t351⟩, A70, H⟩ := H
 replace H : ((chaseref1_ShinglesFault.f t335 t337).bind fun t353 => (if t353 = 0 then (if t342 = 0 then (if t347 = 0 then (if t351 = 0 then ((chaseref1_ShinglesOf.f k t335 t337).bind fun t355 => ((slices_Equal_string_string.f k t341 t355).bind fun t358 => (if t358 = true then ((chaseref1_LikeOf.f k t335 t339 t337).bind fun bt359 => (if (!(t345 == bt359.1) || (!(t346 == bt359.2))) = true then (chaselaw1_ShinglesLike.j1 k true l0 t340) else ((chaseref1_ContainmentOf.f k t335 t339 t337).bind fun bt361 => (chaselaw1_ShinglesLike.j1 k (!(t349 == bt361.1) || (!(t350 == bt361.2))) l0 t340)))) else (chaselaw1_ShinglesLike.j1 k true l0 t340)))) else (chaselaw1_ShinglesLike.j1 k true l0 t340)) else (chaselaw1_ShinglesLike.j1 k true l0 t340)) else (chaselaw1_ShinglesLike.j1 k true l0 t340)) else ((chaselaw1_nears.f k).bind fun t354 => (if t354 = true then (if t342 = t353 then (if t347 = t353 then (chaselaw1_ShinglesLike.j0 k (t351 == t353)) else (chaselaw1_ShinglesLike.j0 k false)) else (chaselaw1_ShinglesLike.j0 k false)) else (chaselaw1_ShinglesLike.j0 k false))))) = some r := H
 have A7 := Aside0.mk A70
 clear A70
 replace H := Option.bind_eq_some_iff.mp H
 obtain ⟨t353, A80, H⟩ := H
 replace H : (if t353 = 0 then (if t342 = 0 then (if t347 = 0 then (if t351 = 0 then ((chaseref1_ShinglesOf.f k t335 t337).bind fun t355 => ((slices_Equal_string_string.f k t341 t355).bind fun t358 => (if t358 = true then ((chaseref1_LikeOf.f k t335 t339 t337).bind fun bt359 => (if (!(t345 == bt359.1) || (!(t346 == bt359.2))) = true then (chaselaw1_ShinglesLike.j1 k true l0 t340) else ((chaseref1_ContainmentOf.f k t335 t339 t337).bind fun bt361 => (chaselaw1_ShinglesLike.j1 k (!(t349 == bt361.1) || (!(t350 == bt361.2))) l0 t340)))) else (chaselaw1_ShinglesLike.j1 k true l0 t340)))) else (chaselaw1_ShinglesLike.j1 k true l0 t340)) else (chaselaw1_ShinglesLike.j1 k true l0 t340)) else (chaselaw1_ShinglesLike.j1 k true l0 t340)) else ((chaselaw1_nears.f k).bind fun t354 => (if t354 = true then (if t342 = t353 then (if t347 = t353 then (chaselaw1_ShinglesLike.j0 k (t351 == t353)) else (chaselaw1_ShinglesLike.j0 k false)) else (chaselaw1_ShinglesLike.j0 k false)) else (chaselaw1_ShinglesLike.j0 k false)))) = some r := H
 have A8 := Aside0.mk A80
 clear A80
 by_cases c9 : t353 = 0
 ·rw [if_pos c9] at H
  have c9b0 : (t353 == 0) = true := beq_iff_eq.mpr c9
  have c9b1 : (t353 != 0) = false := bne_eq_false_iff_eq.mpr c9
  clear c9
  have HC10 := Aside0.mk H
  clear H
  go_enter Try.func4, Try.ntmps4
  go_upto_region 10 with (first | ((with_reducible refine gate_dst (N := 20) rfl ?_); refine box_event ?hg (N := 20) ?hd (cs := #[.slice A0 l0.length c0, .int .i64 0]) (t := 25) ?hr ?_; (case hd => rfl); (case hg => rfl); (case hr => first | (go_simp; done) | (go_simp; rfl)); intro gb334 hg w11 hbox hb; have n0_ := Aside0.mk (below_step (by repeat (first | (with_reducible first | exact HB.out | apply below_alloc | apply pw_below_drewN | apply below_drew1) | exact HB.out)) hb); have n1_ := Aside0.mk ((⟨_, _, hbox, (by rw [hg]; exact (below_size (by repeat (first | (with_reducible first | exact HB.out | apply below_alloc | apply pw_below_drewN | apply below_drew1) | exact HB.out)))), HR0.out⟩ : IsS25 w _ gb334 l0 0)); clear HB; have HB := n0_; have HI334 := n1_; clear n0_ n1_; clear hb hbox hg) | ((with_reducible refine gate_callee (f := 6) rfl ?_); refine goesL_ (some 22) rfl rfl Try.func6 (by kernel_rfl) rfl #[.pointer (some ⟨gb334, 0, none⟩), .int .i64 12] rfl (by (try simp only [List.map_toArray, List.map_cons, List.map_nil]); first | done | rfl | (simp only [List.length_drop, List.length_take]; rfl)) ?_; (with_reducible refine (chasemake_Stream_Prose.calls k gb334 l0 0 12 t335 t336 w _ ?side1 ?side2 A2.out).mono ?_); (case side1 => repeat (first | (with_reducible first | exact HI334.out | apply IsS25.alloc | apply IsS25.drewN | apply IsS25.drew | apply IsS25.set_1) | exact HI334.out)); (case side2 => repeat (first | (with_reducible first | exact HB.out | apply below_alloc | apply pw_below_drewN | apply below_drew1 | refine below_set ?_ (IsS25.ge HI334.out)) | exact HB.out)); rintro e w12 ⟨rfl, hi, hb, hk⟩; refine ⟨_, rfl, ?_⟩; have n0_ := Aside0.mk (hb); have n1_ := Aside0.mk (hi); clear HB; clear HI334; have HB := n0_; have HI334 := n1_; clear n0_ n1_; (try clear hb); (try clear hb2); (try clear hk); (try clear hi)) | ((with_reducible refine gate_callee (f := 7) rfl ?_); refine goesL_ (some 24) rfl rfl Try.func7 (by kernel_rfl) rfl #[.pointer (some ⟨gb334, 0, none⟩)] rfl (by (try simp only [List.map_toArray, List.map_cons, List.map_nil]); first | done | rfl | (simp only [List.length_drop, List.length_take]; rfl)) ?_; (with_reducible refine (chasemake_Stream_Size.calls gb334 l0 t336 t337 t338 w _ ?side1 ?side2 A3.out).mono ?_); (case side1 => repeat (first | (with_reducible first | exact HI334.out | apply IsS25.alloc | apply IsS25.drewN | apply IsS25.drew | apply IsS25.set_1) | exact HI334.out)); (case side2 => repeat (first | (with_reducible first | exact HB.out | apply below_alloc | apply pw_below_drewN | apply below_drew1 | refine below_set ?_ (IsS25.ge HI334.out)) | exact HB.out)); rintro e w13 ⟨rfl, hi, hb, hk⟩; refine ⟨_, rfl, ?_⟩; have n0_ := Aside0.mk (hb); have n1_ := Aside0.mk (hi); clear HB; clear HI334; have HB := n0_; have HI334 := n1_; clear n0_ n1_; (try clear hb); (try clear hb2); (try clear hk); (try clear hi)) | ((with_reducible refine gate_callee (f := 16) rfl ?_); refine goesL_ (some 27) rfl rfl Try.func16 (by kernel_rfl) rfl #[.pointer (some ⟨gb334, 0, none⟩), .string t335, .string (⟨#[97, 98, 32, 120]⟩ : ByteArray)] rfl (by (try simp only [List.map_toArray, List.map_cons, List.map_nil]); first | done | rfl | (simp only [List.length_drop, List.length_take]; rfl)) ?_; (with_reducible refine (chasemake_Stream_Changed.calls k gb334 l0 t338 t335 (⟨#[97, 98, 32, 120]⟩ : ByteArray) t339 t340 w _ ?side1 ?side2 A4.out).mono ?_); (case side1 => repeat (first | (with_reducible first | exact HI334.out | apply IsS25.alloc | apply IsS25.drewN | apply IsS25.drew | apply IsS25.set_1) | exact HI334.out)); (case side2 => repeat (first | (with_reducible first | exact HB.out | apply below_alloc | apply pw_below_drewN | apply below_drew1 | refine below_set ?_ (IsS25.ge HI334.out)) | exact HB.out)); rintro e w14 ⟨rfl, hi, hb, hk⟩; refine ⟨_, rfl, ?_⟩; have n0_ := Aside0.mk (hb); have n1_ := Aside0.mk (hi); clear HB; clear HI334; have HB := n0_; have HI334 := n1_; clear n0_ n1_; (try clear hb); (try clear hb2); (try clear hk); (try clear hi)) | ((with_reducible refine gate_callee (f := 17) rfl ?_); refine goesL_ (some 31) rfl rfl Try.func17 (by kernel_rfl) rfl #[.string t335, .int .i64 t337] rfl (by (try simp only [List.map_toArray, List.map_cons, List.map_nil]); first | done | rfl | (simp only [List.length_drop, List.length_take]; rfl)) ?_; (with_reducible refine (near_Shingles.calls k t335 t337 t341 t342 _ A5.out).mono ?_); rintro e w15 ⟨v343, rfl, ho0, hb⟩; refine ⟨_, rfl, ?_⟩; have n0_ := Aside0.mk (Kd.R_lower ho0 (below_size (by repeat (first | (with_reducible first | exact HB.out | apply below_alloc | apply pw_below_drewN | apply below_drew1 | refine below_set ?_ (IsS25.ge HI334.out)) | exact HB.out)))); have n1_ := Aside0.mk (IsS25.below (by repeat (first | (with_reducible first | exact HI334.out | apply IsS25.alloc | apply IsS25.drewN | apply IsS25.drew | apply IsS25.set_1) | exact HI334.out)) hb); have n2_ := Aside0.mk (below_step (by repeat (first | (with_reducible first | exact HB.out | apply below_alloc | apply pw_below_drewN | apply below_drew1 | refine below_set ?_ (IsS25.ge HI334.out)) | exact HB.out)) hb); clear HI334; clear HB; have HO344 := n0_; have HI334 := n1_; have HB := n2_; clear n0_ n1_ n2_; (try clear hb); (try clear hb2); (try clear hk); (try clear hi); (try clear ho0)) | ((with_reducible refine gate_callee (f := 18) rfl ?_); refine goesL_ (some 38) rfl rfl Try.func18 (by kernel_rfl) rfl #[.string t335, .string t339, .int .i64 t337] rfl (by (try simp only [List.map_toArray, List.map_cons, List.map_nil]); first | done | rfl | (simp only [List.length_drop, List.length_take]; rfl)) ?_; (with_reducible refine (near_Resemblance.calls k t335 t339 t337 t345 t346 t347 _ A6.out).mono ?_); rintro e w16 ⟨rfl, hb⟩; refine ⟨_, rfl, ?_⟩; have n0_ := Aside0.mk (Kd.R_below (by (with_reducible repeat (first | apply Kd.R_alloc | apply Kd.R_drewN | apply Kd.R_drew)); exact HO344.out) hb); have n1_ := Aside0.mk (IsS25.below (by repeat (first | (with_reducible first | exact HI334.out | apply IsS25.alloc | apply IsS25.drewN | apply IsS25.drew | apply IsS25.set_1) | exact HI334.out)) hb); have n2_ := Aside0.mk (below_step (by repeat (first | (with_reducible first | exact HB.out | apply below_alloc | apply pw_below_drewN | apply below_drew1 | refine below_set ?_ (IsS25.ge HI334.out)) | exact HB.out)) hb); clear HO344; clear HI334; clear HB; have HO344 := n0_; have HI334 := n1_; have HB := n2_; clear n0_ n1_ n2_; (try clear hb); (try clear hb2); (try clear hk); (try clear hi)) | ((with_reducible refine gate_dst (N := 9) rfl ?_); refine box_event ?hg (N := 9) ?hd (cs := #[.int .i64 0, .int .i64 0]) (t := 35) ?hr ?_; (case hd => rfl); (case hg => rfl); (case hr => first | (go_simp; done) | (go_simp; rfl)); intro gb348 hg w17 hbox hb; have n0_ := Aside0.mk (Kd.R_below (by (with_reducible repeat (first | apply Kd.R_alloc | apply Kd.R_drewN | apply Kd.R_drew)); exact HO344.out) hb); have n1_ := Aside0.mk (IsS25.below (by repeat (first | (with_reducible first | exact HI334.out | apply IsS25.alloc | apply IsS25.drewN | apply IsS25.drew | apply IsS25.set_1) | exact HI334.out)) hb); have n2_ := Aside0.mk (below_step (by repeat (first | (with_reducible first | exact HB.out | apply below_alloc | apply pw_below_drewN | apply below_drew1 | refine below_set ?_ (IsS25.ge HI334.out)) | exact HB.out)) hb); have n3_ := Aside0.mk (hbox); have n4_ := Aside0.mk ((by rw [hg]; exact (below_size (by repeat (first | (with_reducible first | exact HB.out | apply below_alloc | apply pw_below_drewN | apply below_drew1 | refine below_set ?_ (IsS25.ge HI334.out)) | exact HB.out))) : w.heap.size ≤ gb348)); have n5_ := Aside0.mk ((by rw [hg]; exact (below_size (by repeat (first | (with_reducible first | exact HB.out | apply below_alloc | apply pw_below_drewN | apply below_drew1 | refine below_set ?_ (IsS25.ge HI334.out)) | exact HB.out))) : w.heap.size ≤ gb348)); have n6_ := Aside0.mk ((by rw [hg]; exact Nat.ne_of_lt (IsS25.lt (show IsS25 w _ gb334 l0 t340 from by repeat (first | (with_reducible first | exact HI334.out | apply IsS25.alloc | apply IsS25.drewN | apply IsS25.drew | apply IsS25.set_1) | exact HI334.out))) : gb334 ≠ gb348)); have n7_ := Aside0.mk ((by rw [hg]; exact Nat.ne_of_gt (IsS25.lt (show IsS25 w _ gb334 l0 t340 from by repeat (first | (with_reducible first | exact HI334.out | apply IsS25.alloc | apply IsS25.drewN | apply IsS25.drew | apply IsS25.set_1) | exact HI334.out))) : gb348 ≠ gb334)); clear HO344; clear HI334; clear HB; have HO344 := n0_; have HI334 := n1_; have HB := n2_; have BK348 := n3_; have GW348 := n4_; have GE348 := n5_; have NB334_348 := n6_; have NB348_334 := n7_; clear n0_ n1_ n2_ n3_ n4_ n5_ n6_ n7_; clear hb hbox hg; have hnb18 := NB348_334.out; have hnc18 := NB334_348.out; have hcz19_0 : w17.cell? ⟨gb348, 0, none⟩ = some (.int .i64 0) := (blk_cell BK348.out 0).trans rfl; have hcz19_1 : w17.cell? ⟨gb348, 1, none⟩ = some (.int .i64 0) := (blk_cell BK348.out 1).trans rfl; have hfz19_0 := blk_frozen BK348.out 0; have hfz19_1 := blk_frozen BK348.out 1) | ((with_reducible refine gate_callee (f := 19) rfl ?_); refine goesL_ (some 45) rfl rfl Try.func19 (by kernel_rfl) rfl #[.string t335, .string t339, .int .i64 t337] rfl (by (try simp only [List.map_toArray, List.map_cons, List.map_nil]); first | done | rfl | (simp only [List.length_drop, List.length_take]; rfl)) ?_; (with_reducible refine (near_Containment.calls k t335 t339 t337 t349 t350 t351 _ A7.out).mono ?_); rintro e w20 ⟨rfl, hb⟩; refine ⟨_, rfl, ?_⟩; have n0_ := Aside0.mk (Kd.R_below (by (with_reducible repeat (first | apply Kd.R_alloc | apply Kd.R_drewN | apply Kd.R_drew)); exact (Kd.R_mono (Kd.R_far (p := ⟨gb348, 1, none⟩) (Kd.R_far (p := ⟨gb348, 0, none⟩) (Kd.R_types HO344.out BK348.out (by decide)) (fun _ hk => hk.2) (.int .i64 t345)) (fun _ hk => hk.2) (.int .i64 t346)) (fun _ h_ => h_.1))) hb); have n1_ := Aside0.mk (IsS25.below (show IsS25 w _ gb334 l0 t340 from by repeat (first | (with_reducible first | exact HI334.out | apply IsS25.alloc | apply IsS25.drewN | apply IsS25.drew | apply IsS25.set_1 | refine IsS25.far ?_ NB334_348.out _) | exact HI334.out)) hb); have n2_ := Aside0.mk (blk_below (g := gb348) (o := .cells #[.int .i64 t345, .int .i64 t346] 35 (0, 0)) (by (with_reducible repeat (first | refine blk_drewN ?_ _ | refine blk_drew ?_ | refine blk_alloc ?_ _)); refine blk_put (cs := #[.int .i64 t345, .int .i64 0]) ?_ 1 _ rfl; (with_reducible repeat (first | refine blk_drewN ?_ _ | refine blk_drew ?_ | refine blk_alloc ?_ _)); refine blk_put (cs := #[.int .i64 0, .int .i64 0]) ?_ 0 _ rfl; (with_reducible repeat (first | refine blk_drewN ?_ _ | refine blk_drew ?_ | refine blk_alloc ?_ _)); exact BK348.out) hb); have n3_ := Aside0.mk (below_step (by repeat (first | (with_reducible first | exact HB.out | apply below_alloc | apply pw_below_drewN | apply below_drew1 | refine below_set ?_ (IsS25.ge HI334.out) | refine below_set ?_ GE348.out) | exact HB.out)) hb); clear HO344; clear HI334; clear BK348; clear HB; have HO344 := n0_; have HI334 := n1_; have BK348 := n2_; have HB := n3_; clear n0_ n1_ n2_ n3_; (try clear hb); (try clear hb2); (try clear hk); (try clear hi)) | ((with_reducible refine gate_dst (N := 11) rfl ?_); refine box_event ?hg (N := 11) ?hd (cs := #[.int .i64 0, .int .i64 0]) (t := 35) ?hr ?_; (case hd => rfl); (case hg => rfl); (case hr => first | (go_simp; done) | (go_simp; rfl)); intro gb352 hg w21 hbox hb; have n0_ := Aside0.mk (Kd.R_below (by (with_reducible repeat (first | apply Kd.R_alloc | apply Kd.R_drewN | apply Kd.R_drew)); exact HO344.out) hb); have n1_ := Aside0.mk (IsS25.below (by repeat (first | (with_reducible first | exact HI334.out | apply IsS25.alloc | apply IsS25.drewN | apply IsS25.drew | apply IsS25.set_1 | refine IsS25.far ?_ NB334_348.out _) | exact HI334.out)) hb); have n2_ := Aside0.mk (blk_below (g := gb348) (o := .cells #[.int .i64 t345, .int .i64 t346] 35 (0, 0)) (by (with_reducible repeat (first | refine blk_drewN ?_ _ | refine blk_drew ?_ | refine blk_alloc ?_ _)); exact BK348.out) hb); have n3_ := Aside0.mk (below_step (by repeat (first | (with_reducible first | exact HB.out | apply below_alloc | apply pw_below_drewN | apply below_drew1 | refine below_set ?_ (IsS25.ge HI334.out) | refine below_set ?_ GE348.out) | exact HB.out)) hb); have n4_ := Aside0.mk (hbox); have n5_ := Aside0.mk ((by rw [hg]; exact (below_size (by repeat (first | (with_reducible first | exact HB.out | apply below_alloc | apply pw_below_drewN | apply below_drew1 | refine below_set ?_ (IsS25.ge HI334.out) | refine below_set ?_ GE348.out) | exact HB.out))) : w.heap.size ≤ gb352)); have n6_ := Aside0.mk ((by rw [hg]; exact (below_size (by repeat (first | (with_reducible first | exact HB.out | apply below_alloc | apply pw_below_drewN | apply below_drew1 | refine below_set ?_ (IsS25.ge HI334.out) | refine below_set ?_ GE348.out) | exact HB.out))) : w.heap.size ≤ gb352)); have n7_ := Aside0.mk ((by rw [hg]; exact Nat.ne_of_lt (blk_lt (g := gb348) (o := .cells #[.int .i64 t345, .int .i64 t346] 35 (0, 0)) (by (with_reducible repeat (first | refine blk_drewN ?_ _ | refine blk_drew ?_ | refine blk_alloc ?_ _)); exact BK348.out)) : gb348 ≠ gb352)); have n8_ := Aside0.mk ((by rw [hg]; exact Nat.ne_of_gt (blk_lt (g := gb348) (o := .cells #[.int .i64 t345, .int .i64 t346] 35 (0, 0)) (by (with_reducible repeat (first | refine blk_drewN ?_ _ | refine blk_drew ?_ | refine blk_alloc ?_ _)); exact BK348.out)) : gb352 ≠ gb348)); have n9_ := Aside0.mk ((by rw [hg]; exact Nat.ne_of_lt (IsS25.lt (show IsS25 w _ gb334 l0 t340 from by repeat (first | (with_reducible first | exact HI334.out | apply IsS25.alloc | apply IsS25.drewN | apply IsS25.drew | apply IsS25.set_1 | refine IsS25.far ?_ NB334_348.out _) | exact HI334.out))) : gb334 ≠ gb352)); have n10_ := Aside0.mk ((by rw [hg]; exact Nat.ne_of_gt (IsS25.lt (show IsS25 w _ gb334 l0 t340 from by repeat (first | (with_reducible first | exact HI334.out | apply IsS25.alloc | apply IsS25.drewN | apply IsS25.drew | apply IsS25.set_1 | refine IsS25.far ?_ NB334_348.out _) | exact HI334.out))) : gb352 ≠ gb334)); clear HO344; clear HI334; clear BK348; clear HB; have HO344 := n0_; have HI334 := n1_; have BK348 := n2_; have HB := n3_; have BK352 := n4_; have GW352 := n5_; have GE352 := n6_; have NB348_352 := n7_; have NB352_348 := n8_; have NB334_352 := n9_; have NB352_334 := n10_; clear n0_ n1_ n2_ n3_ n4_ n5_ n6_ n7_ n8_ n9_ n10_; clear hb hbox hg; have hnb22 := NB352_348.out; have hnc22 := NB348_352.out; have hnb23 := NB352_334.out; have hnc23 := NB334_352.out; have hcz24_0 : w21.cell? ⟨gb352, 0, none⟩ = some (.int .i64 0) := (blk_cell BK352.out 0).trans rfl; have hcz24_1 : w21.cell? ⟨gb352, 1, none⟩ = some (.int .i64 0) := (blk_cell BK352.out 1).trans rfl; have hfz24_0 := blk_frozen BK352.out 0; have hfz24_1 := blk_frozen BK352.out 1) | ((with_reducible refine gate_callee (f := 20) rfl ?_); refine goesL_ (some 50) rfl rfl Try.func20 (by kernel_rfl) rfl #[.string t335, .int .i64 t337] rfl (by (try simp only [List.map_toArray, List.map_cons, List.map_nil]); first | done | rfl | (simp only [List.length_drop, List.length_take]; rfl)) ?_; (with_reducible refine (chaseref1_ShinglesFault.calls t335 t337 t353 _ A8.out).mono ?_); rintro e w' ⟨rfl, ⟨nd, rfl⟩⟩; refine ⟨_, rfl, ?_⟩))
  (try simp only [Act.put, List.setIfInBounds_toArray, List.set_cons_zero, List.set_cons_succ])
  go_cut [102] (fun v102 wc => ∃ (kq : Nat) (x102_9 : Bool), v102 = .bool x102_9 ∧ Aside0 (chaselaw1_ShinglesLike.j1 kq x102_9 l0 t340 = some r) ∧ Aside0 (kq ≤ k) ∧ Aside0 (wc.heap[gb348]? = some (.cells #[.int .i64 t345, .int .i64 t346] 35 (0, 0))) ∧ Aside0 (wc.heap[gb352]? = some (.cells #[.int .i64 t349, .int .i64 t350] 35 (0, 0))) ∧ Aside0 (IsS25 w wc gb334 l0 t340) ∧ Aside0 (Below w.heap.size w wc))
  case first =>
   have H := HC10.out
   clear HC10
   by_cases c25 : t342 = 0
   ·rw [if_pos c25] at H
    have c25b0 : (t342 == 0) = true := beq_iff_eq.mpr c25
    have c25b1 : (t342 != 0) = false := bne_eq_false_iff_eq.mpr c25
    clear c25
    (first | rw [c25b0] | (simp only [i64_w, i32_w]; rw [c25b0]) | skip)
    by_cases c26 : t347 = 0
    ·rw [if_pos c26] at H
     have c26b0 : (t347 == 0) = true := beq_iff_eq.mpr c26
     have c26b1 : (t347 != 0) = false := bne_eq_false_iff_eq.mpr c26
     clear c26
     by_cases c27 : t351 = 0
     ·rw [if_pos c27] at H
      have c27b0 : (t351 == 0) = true := beq_iff_eq.mpr c27
      have c27b1 : (t351 != 0) = false := bne_eq_false_iff_eq.mpr c27
      clear c27
      replace H := Option.bind_eq_some_iff.mp H
      obtain ⟨t355, A280, H⟩ := H
      replace H : ((slices_Equal_string_string.f k t341 t355).bind fun t358 => (if t358 = true then ((chaseref1_LikeOf.f k t335 t339 t337).bind fun bt359 => (if (!(t345 == bt359.1) || (!(t346 == bt359.2))) = true then (chaselaw1_ShinglesLike.j1 k true l0 t340) else ((chaseref1_ContainmentOf.f k t335 t339 t337).bind fun bt361 => (chaselaw1_ShinglesLike.j1 k (!(t349 == bt361.1) || (!(t350 == bt361.2))) l0 t340)))) else (chaselaw1_ShinglesLike.j1 k true l0 t340))) = some r := H
      have A28 := Aside0.mk A280
      clear A280
      replace H := Option.bind_eq_some_iff.mp H
      obtain ⟨t358, A290, H⟩ := H
      replace H : (if t358 = true then ((chaseref1_LikeOf.f k t335 t339 t337).bind fun bt359 => (if (!(t345 == bt359.1) || (!(t346 == bt359.2))) = true then (chaselaw1_ShinglesLike.j1 k true l0 t340) else ((chaseref1_ContainmentOf.f k t335 t339 t337).bind fun bt361 => (chaselaw1_ShinglesLike.j1 k (!(t349 == bt361.1) || (!(t350 == bt361.2))) l0 t340)))) else (chaselaw1_ShinglesLike.j1 k true l0 t340)) = some r := H
      have A29 := Aside0.mk A290
      clear A290
      by_cases c30 : t358 = true
      ·subst c30
       have H1 : ((chaseref1_LikeOf.f k t335 t339 t337).bind fun bt359 => (if (!(t345 == bt359.1) || (!(t346 == bt359.2))) = true then (chaselaw1_ShinglesLike.j1 k true l0 t340) else ((chaseref1_ContainmentOf.f k t335 t339 t337).bind fun bt361 => (chaselaw1_ShinglesLike.j1 k (!(t349 == bt361.1) || (!(t350 == bt361.2))) l0 t340)))) = some r := by rw [if_pos rfl] at H; exact H
       clear H
       have H := H1
       clear H1
       replace H := Option.bind_eq_some_iff.mp H
       obtain ⟨⟨t359, t360⟩, A310, H⟩ := H
       replace H : (if (!(t345 == t359) || (!(t346 == t360))) = true then (chaselaw1_ShinglesLike.j1 k true l0 t340) else ((chaseref1_ContainmentOf.f k t335 t339 t337).bind fun bt361 => (chaselaw1_ShinglesLike.j1 k (!(t349 == bt361.1) || (!(t350 == bt361.2))) l0 t340))) = some r := H
       have A31 := Aside0.mk A310
       clear A310
       by_cases c32 : (!(t345 == t359) || (!(t346 == t360))) = true
       ·rw [if_pos c32] at H
        have c32b0 : (!(t345 == t359) || (!(t346 == t360))) = true := c32
        clear c32
        have H' := Aside0.mk H
        clear H
        try go_wp2
        have n0_ : Aside0 (Kd.R Kd.string 9 (World.drewN ((w21.setCell ⟨gb352, 0, none⟩ (.int .i64 t349)).setCell ⟨gb352, 1, none⟩ (.int .i64 t350)) nd) w.heap.size (fun _ => True) v343 t341) := ⟨by (with_reducible repeat (first | apply Kd.R_alloc | apply Kd.R_drewN | apply Kd.R_drew)); exact Kd.R_mono (Kd.R_far (p := ⟨gb352, 1, none⟩) (Kd.R_far (p := ⟨gb352, 0, none⟩) (Kd.R_types HO344.out BK352.out (by decide)) (fun _ hk => hk.2) (.int .i64 t349)) (fun _ hk => hk.2) (.int .i64 t350)) (fun _ hk => trivial)⟩
        have n1_ : Aside0 ((World.drewN ((w21.setCell ⟨gb352, 0, none⟩ (.int .i64 t349)).setCell ⟨gb352, 1, none⟩ (.int .i64 t350)) nd).heap[gb348]? = some (.cells #[.int .i64 t345, .int .i64 t346] 35 (0, 0))) := ⟨by (with_reducible repeat (first | refine blk_drewN ?_ _ | refine blk_drew ?_ | refine blk_alloc ?_ _)); refine blk_far ?_ NB348_352.out _; (with_reducible repeat (first | refine blk_drewN ?_ _ | refine blk_drew ?_ | refine blk_alloc ?_ _)); refine blk_far ?_ NB348_352.out _; (with_reducible repeat (first | refine blk_drewN ?_ _ | refine blk_drew ?_ | refine blk_alloc ?_ _)); exact BK348.out⟩
        have n2_ : Aside0 ((World.drewN ((w21.setCell ⟨gb352, 0, none⟩ (.int .i64 t349)).setCell ⟨gb352, 1, none⟩ (.int .i64 t350)) nd).heap[gb352]? = some (.cells #[.int .i64 t349, .int .i64 t350] 35 (0, 0))) := ⟨by (with_reducible repeat (first | refine blk_drewN ?_ _ | refine blk_drew ?_ | refine blk_alloc ?_ _)); refine blk_put (cs := #[.int .i64 t349, .int .i64 0]) ?_ 1 _ rfl; (with_reducible repeat (first | refine blk_drewN ?_ _ | refine blk_drew ?_ | refine blk_alloc ?_ _)); refine blk_put (cs := #[.int .i64 0, .int .i64 0]) ?_ 0 _ rfl; (with_reducible repeat (first | refine blk_drewN ?_ _ | refine blk_drew ?_ | refine blk_alloc ?_ _)); exact BK352.out⟩
        have n3_ : Aside0 (IsS25 w (World.drewN ((w21.setCell ⟨gb352, 0, none⟩ (.int .i64 t349)).setCell ⟨gb352, 1, none⟩ (.int .i64 t350)) nd) gb334 l0 t340) := ⟨by repeat (first | (with_reducible first | exact HI334.out | apply IsS25.alloc | apply IsS25.drewN | apply IsS25.drew | apply IsS25.set_1 | refine IsS25.far ?_ NB334_348.out _ | refine IsS25.far ?_ NB334_352.out _) | exact HI334.out)⟩
        have n4_ : Aside0 (Below w.heap.size w (World.drewN ((w21.setCell ⟨gb352, 0, none⟩ (.int .i64 t349)).setCell ⟨gb352, 1, none⟩ (.int .i64 t350)) nd)) := ⟨by repeat (first | (with_reducible first | exact HB.out | apply below_alloc | apply pw_below_drewN | apply below_drew1 | refine below_set ?_ (IsS25.ge HI334.out) | refine below_set ?_ GE348.out | refine below_set ?_ GE352.out) | exact HB.out)⟩
        (try clear HO344)
        (try clear BK348)
        (try clear BK352)
        (try clear HI334)
        (try clear HB)
        generalize (World.drewN ((w21.setCell ⟨gb352, 0, none⟩ (.int .i64 t349)).setCell ⟨gb352, 1, none⟩ (.int .i64 t350)) nd) = w33 at n0_ n1_ n2_ n3_ n4_ ⊢
        have HO344 := n0_
        have BK348 := n1_
        have BK352 := n2_
        have HI334 := n3_
        have HB := n4_
        clear n0_ n1_ n2_ n3_ n4_
        have n0_ := Aside0.mk (Kd.R_drew HO344.out)
        have n1_ := Aside0.mk (blk_drew BK348.out)
        have n2_ := Aside0.mk (blk_drew BK352.out)
        have n3_ := Aside0.mk (IsS25.drew HI334.out)
        have n4_ := Aside0.mk (below_drew1 HB.out)
        clear HO344
        clear BK348
        clear BK352
        clear HI334
        clear HB
        have HO344 := n0_
        have BK348 := n1_
        have BK352 := n2_
        have HI334 := n3_
        have HB := n4_
        clear n0_ n1_ n2_ n3_ n4_
        refine start_ (n := 34) (S := fun w' => w'.cell? ⟨gb348, 0, none⟩ = some (.int .i64 t345) ∧ w'.cell? ⟨gb348, 1, none⟩ = some (.int .i64 t346)) (ds := []) chaselaw1_ShinglesLike.D0 (by kernel_rfl) rfl rfl ⟨(blk_cell BK348.out 0).trans rfl, (blk_cell BK348.out 1).trans rfl⟩ (fun hHeld => ?_); refine with_tabW chaselaw1_ShinglesLike.tab10 chaselaw1_ShinglesLike.bits10 (fun HT_ HW_ => ?_)
        generalize w33.drew = w34 at HO344 BK348 BK352 HI334 HB hHeld ⊢
        refine pure_ (i := 0) (N := some 69) (v := ?_) (a' := ?_) chaselaw1_ShinglesLike.D1 rfl rfl (any_of HT_.out (by kernel_rfl)) (fun _ _ _ h => h) (Or.inl ⟨by rfl, ?_⟩) ?_ ?_
        rotate_left
        ·intro w'
         go_simp
         with_reducible rfl
        rotate_left
        ·simp only [Act.put, List.setIfInBounds_toArray, List.set_cons_zero, List.set_cons_succ, i64_w, i32_w]
         rfl
        refine pure_ (i := 1) (N := some 70) (v := ?_) (a' := ?_) chaselaw1_ShinglesLike.D2 rfl rfl (any_of HT_.out (by kernel_rfl)) (fun _ _ _ h => h) (Or.inl ⟨by rfl, ?_⟩) ?_ ?_
        rotate_left
        ·intro w'
         go_simp
         with_reducible rfl
        rotate_left
        ·simp only [Act.put, List.setIfInBounds_toArray, List.set_cons_zero, List.set_cons_succ, i64_w, i32_w]
         rfl
        refine pure_ (i := 2) (N := some 71) (v := ?_) (a' := ?_) chaselaw1_ShinglesLike.D3 rfl rfl (any_of HT_.out (by kernel_rfl)) (fun _ _ _ h => h) (Or.inl ⟨by rfl, ?_⟩) ?_ ?_
        rotate_left
        ·intro w'
         go_simp
         with_reducible rfl
        rotate_left
        ·simp only [Act.put, List.setIfInBounds_toArray, List.set_cons_zero, List.set_cons_succ, i64_w, i32_w]
         rfl
        refine pure_ (i := 3) (N := some 72) (v := ?_) (a' := ?_) chaselaw1_ShinglesLike.D4 rfl rfl (any_of HT_.out (by kernel_rfl)) (fun _ _ _ h => h) (Or.inl ⟨by rfl, ?_⟩) ?_ ?_
        rotate_left
        ·intro w'
         go_simp
         with_reducible rfl
        rotate_left
        ·simp only [Act.put, List.setIfInBounds_toArray, List.set_cons_zero, List.set_cons_succ, i64_w, i32_w]
         rfl
        refine pure_ (i := 4) (N := some 73) (v := ?_) (a' := ?_) chaselaw1_ShinglesLike.D5 rfl rfl (any_of HT_.out (by kernel_rfl)) (fun _ _ _ h => h) (Or.inl ⟨by rfl, ?_⟩) ?_ ?_
        rotate_left
        ·intro w'
         go_simp
         with_reducible rfl
        rotate_left
        ·simp only [Act.put, List.setIfInBounds_toArray, List.set_cons_zero, List.set_cons_succ, i64_w, i32_w]
         rfl
        refine pure_ (i := 5) (N := some 74) (v := ?_) (a' := ?_) chaselaw1_ShinglesLike.D6 rfl rfl (any_of HT_.out (by kernel_rfl)) (fun _ _ _ h => h) (Or.inl ⟨by rfl, ?_⟩) ?_ ?_
        rotate_left
        ·intro w'
         go_simp
         with_reducible rfl
        rotate_left
        ·simp only [Act.put, List.setIfInBounds_toArray, List.set_cons_zero, List.set_cons_succ, i64_w, i32_w]
         rfl
        refine pure_ (i := 6) (N := some 75) (v := ?_) (a' := ?_) chaselaw1_ShinglesLike.D7 rfl rfl (any_of HT_.out (by kernel_rfl)) (fun _ _ _ h => h) (Or.inl ⟨by rfl, ?_⟩) ?_ ?_
        rotate_left
        ·intro w'
         go_simp
         with_reducible rfl
        rotate_left
        ·simp only [Act.put, List.setIfInBounds_toArray, List.set_cons_zero, List.set_cons_succ, i64_w, i32_w]
         rfl
        refine pure_ (i := 7) (N := some 76) (v := ?_) (a' := ?_) chaselaw1_ShinglesLike.D8 rfl rfl (any_of HT_.out (by kernel_rfl)) (fun _ _ _ h => h) (Or.inl ⟨by rfl, ?_⟩) ?_ ?_
        rotate_left
        ·intro w'
         go_simp
         with_reducible rfl
        rotate_left
        ·simp only [Act.put, List.setIfInBounds_toArray, List.set_cons_zero, List.set_cons_succ, i64_w, i32_w]
         rfl
        refine pure_ (i := 8) (N := some 77) (v := ?_) (a' := ?_) chaselaw1_ShinglesLike.D9 rfl rfl (any_of HT_.out (by kernel_rfl)) (fun _ _ _ h => h) (Or.inl ⟨by rfl, ?_⟩) ?_ ?_
        rotate_left
        ·intro w'
         go_simp
         with_reducible rfl
        rotate_left
        ·simp only [Act.put, List.setIfInBounds_toArray, List.set_cons_zero, List.set_cons_succ, i64_w, i32_w]
         rfl
        refine pure_ (i := 9) (N := some 78) (v := ?_) (a' := ?_) chaselaw1_ShinglesLike.D10 rfl rfl (any_of HT_.out (by kernel_rfl)) (fun _ _ _ h => h) (Or.inl ⟨by rfl, ?_⟩) ?_ ?_
        rotate_left
        ·intro w'
         go_simp
         with_reducible rfl
        rotate_left
        ·simp only [Act.put, List.setIfInBounds_toArray, List.set_cons_zero, List.set_cons_succ, i64_w, i32_w]
         rfl
        refine pure_ (i := 10) (N := some 79) (v := ?_) (a' := ?_) chaselaw1_ShinglesLike.D11 rfl rfl (any_of HT_.out (by kernel_rfl)) (fun _ _ _ h => h) (Or.inl ⟨by rfl, ?_⟩) ?_ ?_
        rotate_left
        ·intro w'
         go_simp
         with_reducible rfl
        rotate_left
        ·simp only [Act.put, List.setIfInBounds_toArray, List.set_cons_zero, List.set_cons_succ, i64_w, i32_w]
         rfl
        refine pure_ (i := 11) (N := some 80) (v := ?_) (a' := ?_) chaselaw1_ShinglesLike.D12 rfl rfl (any_of HT_.out (by kernel_rfl)) (fun _ _ _ h => h) (Or.inl ⟨by rfl, ?_⟩) ?_ ?_
        rotate_left
        ·intro w'
         go_simp
         with_reducible rfl
        rotate_left
        ·simp only [Act.put, List.setIfInBounds_toArray, List.set_cons_zero, List.set_cons_succ, i64_w, i32_w]
         rfl
        refine pure_ (i := 12) (N := some 81) (v := ?_) (a' := ?_) chaselaw1_ShinglesLike.D13 rfl rfl (any_of HT_.out (by kernel_rfl)) (fun _ _ _ h => h) (Or.inl ⟨by rfl, ?_⟩) ?_ ?_
        rotate_left
        ·intro w'
         go_simp
         with_reducible rfl
        rotate_left
        ·simp only [Act.put, List.setIfInBounds_toArray, List.set_cons_zero, List.set_cons_succ, i64_w, i32_w]
         rfl
        refine pure_ (i := 13) (N := some 82) (v := ?_) (a' := ?_) chaselaw1_ShinglesLike.D14 rfl rfl (any_of HT_.out (by kernel_rfl)) (fun _ _ _ h => h) (Or.inl ⟨by rfl, ?_⟩) ?_ ?_
        rotate_left
        ·intro w'
         go_simp
         with_reducible rfl
        rotate_left
        ·simp only [Act.put, List.setIfInBounds_toArray, List.set_cons_zero, List.set_cons_succ, i64_w, i32_w]
         rfl
        refine one_ (i := 14) (N := some 83) chaselaw1_ShinglesLike.D15 rfl rfl (one_of HT_.out (by kernel_rfl)) (by decide) (fun K hK => ?_)
        refine goes_ Try.func22 (by kernel_rfl) rfl #[.string t335, .int .i64 t337] (by rfl) rfl rfl (by (try simp only [List.map_toArray, List.map_cons, List.map_nil]); first | done | rfl | (simp only [List.length_drop, List.length_take]; rfl)) ?_
        with_reducible refine (chaseref1_ShinglesOf.calls k t335 t337 t355 _ A28.out).mono ?_
        rintro e w35 ⟨v356, rfl, ho0, hb⟩
        refine ⟨_, rfl, ?_⟩
        have n0_ := Aside0.mk (Kd.R_elder' (by (with_reducible repeat (first | apply Kd.R_alloc | apply Kd.R_drewN | apply Kd.R_drew)); exact HO344.out) (Kd.R_base ho0) hb)
        have n1_ := Aside0.mk (Kd.R_lower (Kd.R_new' ho0 (Kd.R_lt (by (with_reducible repeat (first | apply Kd.R_alloc | apply Kd.R_drewN | apply Kd.R_drew)); exact HO344.out))) (below_size (by repeat (first | (with_reducible first | exact HB.out | apply below_alloc | apply pw_below_drewN | apply below_drew1 | refine below_set ?_ (IsS25.ge HI334.out) | refine below_set ?_ GE348.out | refine below_set ?_ GE352.out) | exact HB.out))))
        have n2_ := Aside0.mk (IsS25.below (by repeat (first | (with_reducible first | exact HI334.out | apply IsS25.alloc | apply IsS25.drewN | apply IsS25.drew | apply IsS25.set_1 | refine IsS25.far ?_ NB334_348.out _ | refine IsS25.far ?_ NB334_352.out _) | exact HI334.out)) hb)
        have n3_ := Aside0.mk (blk_below (g := gb348) (o := .cells #[.int .i64 t345, .int .i64 t346] 35 (0, 0)) (by (with_reducible repeat (first | refine blk_drewN ?_ _ | refine blk_drew ?_ | refine blk_alloc ?_ _)); exact BK348.out) hb)
        have n4_ := Aside0.mk (blk_below (g := gb352) (o := .cells #[.int .i64 t349, .int .i64 t350] 35 (0, 0)) (by (with_reducible repeat (first | refine blk_drewN ?_ _ | refine blk_drew ?_ | refine blk_alloc ?_ _)); exact BK352.out) hb)
        have n5_ := Aside0.mk (below_step (by repeat (first | (with_reducible first | exact HB.out | apply below_alloc | apply pw_below_drewN | apply below_drew1 | refine below_set ?_ (IsS25.ge HI334.out) | refine below_set ?_ GE348.out | refine below_set ?_ GE352.out) | exact HB.out)) hb)
        clear HO344
        clear HI334
        clear BK348
        clear BK352
        clear HB
        have HO344 := n0_
        have HO357 := n1_
        have HI334 := n2_
        have BK348 := n3_
        have BK352 := n4_
        have HB := n5_
        clear n0_ n1_ n2_ n3_ n4_ n5_
        (try clear hb)
        (try clear hb2)
        (try clear hk)
        (try clear hi)
        (try clear ho0)
        obtain ⟨Ao36, co36, eo36⟩ := Kd.R_slice HO344.out
        (first | subst eo36 | (injection eo36 with f1_ f2_ f3_; have f4_ := f1_.symm; have f5_ := f3_.symm; clear f1_ f2_ f3_; subst f4_; subst f5_))
        obtain ⟨Ao37, co37, eo37⟩ := Kd.R_slice HO357.out
        (first | subst eo37 | (injection eo37 with f1_ f2_ f3_; have f4_ := f1_.symm; have f5_ := f3_.symm; clear f1_ f2_ f3_; subst f4_; subst f5_))
        refine hK.out _ _ ⟨(blk_cell BK348.out 0).trans rfl, (blk_cell BK348.out 1).trans rfl⟩ (fun hHeld => ?_)
        clear hK K
        refine norm_ (a' := ?_) ?_ ?_
        rotate_left
        ·show Act.put _ (some 83) _ = _
         simp only [Act.put, List.setIfInBounds_toArray, List.set_cons_zero, List.set_cons_succ, i64_w, i32_w]
         rfl
        refine one_ (i := 15) (N := some 84) chaselaw1_ShinglesLike.D16 rfl rfl (one_of HT_.out (by kernel_rfl)) (by decide) (fun K hK => ?_)
        refine goes_ Try.func21 (by kernel_rfl) rfl #[.slice Ao36 t341.length co36, .slice Ao37 t355.length co37] (by rfl) rfl rfl (by (try simp only [List.map_toArray, List.map_cons, List.map_nil]); first | done | rfl | (simp only [List.length_drop, List.length_take]; rfl)) ?_
        with_reducible refine (slices_Equal_string_string.calls k _ _ t341 _ _ t355 true _ ?side1 ?side2 ?side3 ?side4 A29.out).mono ?_
        (case side1 => repeat (first | exact (Kd.R_reads' HO344.out).2.2 | (with_reducible refine Kd.C_alloc ?_ _) | (with_reducible refine Kd.C_drewN ?_ _) | (with_reducible refine Kd.C_drew ?_)))
        (case side2 => exact (Kd.R_reads' HO344.out).2.1)
        (case side3 => repeat (first | exact (Kd.R_reads' HO357.out).2.2 | (with_reducible refine Kd.C_alloc ?_ _) | (with_reducible refine Kd.C_drewN ?_ _) | (with_reducible refine Kd.C_drew ?_)))
        (case side4 => exact (Kd.R_reads' HO357.out).2.1)
        rintro e w' ⟨rfl, ⟨nd, rfl⟩⟩
        refine ⟨_, rfl, ?_⟩
        refine hK.out _ _ ⟨(blk_cell BK348.out 0).trans rfl, (blk_cell BK348.out 1).trans rfl⟩ (fun hHeld => ?_)
        clear hK K
        refine norm_ (a' := ?_) ?_ ?_
        rotate_left
        ·show Act.put _ (some 84) _ = _
         simp only [Act.put, List.setIfInBounds_toArray, List.set_cons_zero, List.set_cons_succ, i64_w, i32_w]
         rfl
        refine pure_ (i := 16) (N := some 85) (v := ?_) (a' := ?_) chaselaw1_ShinglesLike.D17 rfl rfl (any_of HT_.out (by kernel_rfl)) (fun _ _ _ h => h) (Or.inl ⟨by rfl, ?_⟩) ?_ ?_
        rotate_left
        ·intro w'
         go_simp
         with_reducible rfl
        rotate_left
        ·simp only [Act.put, List.setIfInBounds_toArray, List.set_cons_zero, List.set_cons_succ, i64_w, i32_w]
         rfl
        refine pure_ (i := 17) (N := some 86) (v := ?_) (a' := ?_) chaselaw1_ShinglesLike.D18 rfl rfl (any_of HT_.out (by kernel_rfl)) (fun _ _ _ h => h) (Or.inl ⟨by rfl, ?_⟩) ?_ ?_
        rotate_left
        ·intro w'
         go_simp
         with_reducible rfl
        rotate_left
        ·simp only [Act.put, List.setIfInBounds_toArray, List.set_cons_zero, List.set_cons_succ, i64_w, i32_w]
         rfl
        refine pure_ (i := 18) (N := some 87) (v := ?_) (a' := ?_) chaselaw1_ShinglesLike.D19 rfl rfl (any_of HT_.out (by kernel_rfl)) (fun _ _ _ h => h) (Or.inl ⟨by rfl, ?_⟩) ?_ ?_
        rotate_left
        ·intro w'
         go_simp
         with_reducible rfl
        rotate_left
        ·simp only [Act.put, List.setIfInBounds_toArray, List.set_cons_zero, List.set_cons_succ, i64_w, i32_w]
         rfl
        refine pure_ (i := 20) (N := some 89) (v := ?_) (a' := ?_) chaselaw1_ShinglesLike.D20 rfl rfl (any_of HT_.out (by kernel_rfl)) (fun _ _ _ h => h) (Or.inl ⟨by rfl, ?_⟩) ?_ ?_
        rotate_left
        ·intro w'
         go_simp
         with_reducible rfl
        rotate_left
        ·simp only [Act.put, List.setIfInBounds_toArray, List.set_cons_zero, List.set_cons_succ, i64_w, i32_w]
         rfl
        refine pure_ (i := 21) (N := some 90) (v := ?_) (a' := ?_) chaselaw1_ShinglesLike.D21 rfl rfl (any_of HT_.out (by kernel_rfl)) (fun _ _ _ h => h) (Or.inl ⟨by rfl, ?_⟩) ?_ ?_
        rotate_left
        ·intro w'
         go_simp
         with_reducible rfl
        rotate_left
        ·simp only [Act.put, List.setIfInBounds_toArray, List.set_cons_zero, List.set_cons_succ, i64_w, i32_w]
         rfl
        refine pure_ (i := 22) (N := some 91) (v := ?_) (a' := ?_) chaselaw1_ShinglesLike.D22 rfl rfl (any_of HT_.out (by kernel_rfl)) (fun _ _ _ h => h) (Or.inl ⟨by rfl, ?_⟩) ?_ ?_
        rotate_left
        ·intro w'
         go_simp
         with_reducible rfl
        rotate_left
        ·simp only [Act.put, List.setIfInBounds_toArray, List.set_cons_zero, List.set_cons_succ, i64_w, i32_w]
         rfl
        refine take_ (i := 19) (N := some 88) (v := ?_) (a' := ?_) chaselaw1_ShinglesLike.D26 rfl rfl (take_ofW HT_.out HW_.out (by kernel_rfl)) (fun _ _ _ h => h) (Or.inl ⟨by rfl, ?_⟩) hHeld ?_ ?_
        rotate_left
        ·rintro w' ⟨s0, s1⟩
         go_simp
         with_reducible rfl
        rotate_left
        ·simp only [Act.put, List.setIfInBounds_toArray, List.set_cons_zero, List.set_cons_succ, i64_w, i32_w]
         rfl
        refine one_ (i := 23) (N := some 92) chaselaw1_ShinglesLike.D27 rfl rfl (one_of HT_.out (by kernel_rfl)) (by decide) (fun K hK => ?_)
        refine goes_ Try.func23 (by kernel_rfl) rfl #[.string t335, .string t339, .int .i64 t337] (by rfl) rfl rfl (by (try simp only [List.map_toArray, List.map_cons, List.map_nil]); first | done | rfl | (simp only [List.length_drop, List.length_take]; rfl)) ?_
        with_reducible refine (chaseref1_LikeOf.calls k t335 t339 t337 t359 t360 _ A31.out).mono ?_
        rintro e w38 ⟨rfl, hb⟩
        refine ⟨_, rfl, ?_⟩
        have n0_ := Aside0.mk (Kd.R_below (by (with_reducible repeat (first | apply Kd.R_alloc | apply Kd.R_drewN | apply Kd.R_drew)); exact HO344.out) hb)
        have n1_ := Aside0.mk (Kd.R_below (by (with_reducible repeat (first | apply Kd.R_alloc | apply Kd.R_drewN | apply Kd.R_drew)); exact HO357.out) hb)
        have n2_ := Aside0.mk (IsS25.below (by repeat (first | (with_reducible first | exact HI334.out | apply IsS25.alloc | apply IsS25.drewN | apply IsS25.drew | apply IsS25.set_1 | refine IsS25.far ?_ NB334_348.out _ | refine IsS25.far ?_ NB334_352.out _) | exact HI334.out)) hb)
        have n3_ := Aside0.mk (blk_below (g := gb348) (o := .cells #[.int .i64 t345, .int .i64 t346] 35 (0, 0)) (by (with_reducible repeat (first | refine blk_drewN ?_ _ | refine blk_drew ?_ | refine blk_alloc ?_ _)); exact BK348.out) hb)
        have n4_ := Aside0.mk (blk_below (g := gb352) (o := .cells #[.int .i64 t349, .int .i64 t350] 35 (0, 0)) (by (with_reducible repeat (first | refine blk_drewN ?_ _ | refine blk_drew ?_ | refine blk_alloc ?_ _)); exact BK352.out) hb)
        have n5_ := Aside0.mk (below_step (by repeat (first | (with_reducible first | exact HB.out | apply below_alloc | apply pw_below_drewN | apply below_drew1 | refine below_set ?_ (IsS25.ge HI334.out) | refine below_set ?_ GE348.out | refine below_set ?_ GE352.out) | exact HB.out)) hb)
        clear HO344
        clear HO357
        clear HI334
        clear BK348
        clear BK352
        clear HB
        have HO344 := n0_
        have HO357 := n1_
        have HI334 := n2_
        have BK348 := n3_
        have BK352 := n4_
        have HB := n5_
        clear n0_ n1_ n2_ n3_ n4_ n5_
        (try clear hb)
        (try clear hb2)
        (try clear hk)
        (try clear hi)
        refine hK.out _ _ ⟨(blk_cell BK348.out 0).trans rfl, (blk_cell BK348.out 1).trans rfl⟩ (fun hHeld => ?_)
        clear hK K
        refine norm_ (a' := ?_) ?_ ?_
        rotate_left
        ·show Act.put _ (some 92) _ = _
         simp only [Act.put, List.setIfInBounds_toArray, List.set_cons_zero, List.set_cons_succ, i64_w, i32_w]
         rfl
        refine pure_ (i := 24) (N := some 93) (v := ?_) (a' := ?_) chaselaw1_ShinglesLike.D28 rfl rfl (any_of HT_.out (by kernel_rfl)) (fun _ _ _ h => h) (Or.inl ⟨by rfl, ?_⟩) ?_ ?_
        rotate_left
        ·intro w'
         go_simp
         first | with_reducible rfl | exact ne2_t (by assumption) | exact ne2_f (by assumption) | exact ne2_ _ _ _ _ _
        rotate_left
        ·simp only [Act.put, List.setIfInBounds_toArray, List.set_cons_zero, List.set_cons_succ, i64_w, i32_w]
         rfl
        refine pure_ (i := 25) (N := some 94) (v := ?_) (a' := ?_) chaselaw1_ShinglesLike.D29 rfl rfl (any_of HT_.out (by kernel_rfl)) (fun _ _ _ h => h) (Or.inl ⟨by rfl, ?_⟩) ?_ ?_
        rotate_left
        ·intro w'
         go_simp
         with_reducible rfl
        rotate_left
        ·simp only [Act.put, List.setIfInBounds_toArray, List.set_cons_zero, List.set_cons_succ, i64_w, i32_w]
         rfl
        refine pure_ (i := 26) (N := some 95) (v := ?_) (a' := ?_) chaselaw1_ShinglesLike.D30 rfl rfl (any_of HT_.out (by kernel_rfl)) (fun _ _ _ h => h) (Or.inl ⟨by rfl, ?_⟩) ?_ ?_
        rotate_left
        ·intro w'
         go_simp
         with_reducible rfl
        rotate_left
        ·simp only [Act.put, List.setIfInBounds_toArray, List.set_cons_zero, List.set_cons_succ, i64_w, i32_w]
         rfl
        refine pure_ (i := 27) (N := some 96) (v := undef) (a' := ?_) chaselaw1_ShinglesLike.D34 rfl rfl (any_of HT_.out (by kernel_rfl)) (fun _ _ _ h => h) (Or.inr ⟨by rfl, rfl⟩) ?_ ?_
        rotate_left
        ·simp only [Act.put, List.setIfInBounds_toArray, List.set_cons_zero, List.set_cons_succ, i64_w, i32_w]
         rfl
        refine pure_ (i := 28) (N := some 97) (v := undef) (a' := ?_) chaselaw1_ShinglesLike.D35 rfl rfl (any_of HT_.out (by kernel_rfl)) (fun _ _ _ h => h) (Or.inr ⟨by rfl, rfl⟩) ?_ ?_
        rotate_left
        ·simp only [Act.put, List.setIfInBounds_toArray, List.set_cons_zero, List.set_cons_succ, i64_w, i32_w]
         rfl
        refine pure_ (i := 29) (N := some 98) (v := undef) (a' := ?_) chaselaw1_ShinglesLike.D36 rfl rfl (any_of HT_.out (by kernel_rfl)) (fun _ _ _ h => h) (Or.inr ⟨by rfl, rfl⟩) ?_ ?_
        rotate_left
        ·simp only [Act.put, List.setIfInBounds_toArray, List.set_cons_zero, List.set_cons_succ, i64_w, i32_w]
         rfl
        refine pure_ (i := 30) (N := some 99) (v := undef) (a' := ?_) chaselaw1_ShinglesLike.D37 rfl rfl (any_of HT_.out (by kernel_rfl)) (fun _ _ _ h => h) (Or.inr ⟨by rfl, rfl⟩) ?_ ?_
        rotate_left
        ·simp only [Act.put, List.setIfInBounds_toArray, List.set_cons_zero, List.set_cons_succ, i64_w, i32_w]
         rfl
        refine pure_ (i := 31) (N := some 100) (v := undef) (a' := ?_) chaselaw1_ShinglesLike.D38 rfl rfl (any_of HT_.out (by kernel_rfl)) (fun _ _ _ h => h) (Or.inr ⟨by rfl, rfl⟩) ?_ ?_
        rotate_left
        ·simp only [Act.put, List.setIfInBounds_toArray, List.set_cons_zero, List.set_cons_succ, i64_w, i32_w]
         rfl
        refine pure_ (i := 32) (N := some 101) (v := undef) (a' := ?_) chaselaw1_ShinglesLike.D39 rfl rfl (any_of HT_.out (by kernel_rfl)) (fun _ _ _ h => h) (Or.inr ⟨by rfl, rfl⟩) ?_ ?_
        rotate_left
        ·simp only [Act.put, List.setIfInBounds_toArray, List.set_cons_zero, List.set_cons_succ, i64_w, i32_w]
         rfl
        refine pure_ (i := 33) (N := some 102) (v := ?_) (a' := ?_) chaselaw1_ShinglesLike.D40 rfl rfl (any_of HT_.out (by kernel_rfl)) (fun _ _ _ h => h) (Or.inl ⟨by rfl, ?_⟩) ?_ ?_
        rotate_left
        ·intro w'
         go_simp
         with_reducible rfl
        rotate_left
        ·simp only [Act.put, List.setIfInBounds_toArray, List.set_cons_zero, List.set_cons_succ, i64_w, i32_w]
         rfl
        refine done_ (done_of HT_.out (by kernel_rfl)) ?_
        try go_wp2
        go_meet
        case rel => exact ⟨_, (true), (by first | rfl | (simp; done) | (simp [*]; done)), H', ⟨by first | omega | exact Nat.le_refl _⟩, ⟨by (with_reducible repeat (first | refine blk_drewN ?_ _ | refine blk_drew ?_ | refine blk_alloc ?_ _)); exact BK348.out⟩, ⟨by (with_reducible repeat (first | refine blk_drewN ?_ _ | refine blk_drew ?_ | refine blk_alloc ?_ _)); exact BK352.out⟩, ⟨by repeat (first | (with_reducible first | exact HI334.out | apply IsS25.alloc | apply IsS25.drewN | apply IsS25.drew | apply IsS25.set_1 | refine IsS25.far ?_ NB334_348.out _ | refine IsS25.far ?_ NB334_352.out _) | exact HI334.out)⟩, ⟨by repeat (first | (with_reducible first | exact HB.out | apply below_alloc | apply pw_below_drewN | apply below_drew1 | refine below_set ?_ (IsS25.ge HI334.out) | refine below_set ?_ GE348.out | refine below_set ?_ GE352.out) | exact HB.out)⟩⟩
       ·rw [if_neg c32] at H
        have c32b0 : (!(t345 == t359) || (!(t346 == t360))) = false := by simpa using c32
        clear c32
        replace H := Option.bind_eq_some_iff.mp H
        obtain ⟨⟨t361, t362⟩, A390, H⟩ := H
        replace H : (chaselaw1_ShinglesLike.j1 k (!(t349 == t361) || (!(t350 == t362))) l0 t340) = some r := H
        have A39 := Aside0.mk A390
        clear A390
        have H' := Aside0.mk H
        clear H
        try go_wp2
        have n0_ : Aside0 (Kd.R Kd.string 9 (World.drewN ((w21.setCell ⟨gb352, 0, none⟩ (.int .i64 t349)).setCell ⟨gb352, 1, none⟩ (.int .i64 t350)) nd) w.heap.size (fun _ => True) v343 t341) := ⟨by (with_reducible repeat (first | apply Kd.R_alloc | apply Kd.R_drewN | apply Kd.R_drew)); exact Kd.R_mono (Kd.R_far (p := ⟨gb352, 1, none⟩) (Kd.R_far (p := ⟨gb352, 0, none⟩) (Kd.R_types HO344.out BK352.out (by decide)) (fun _ hk => hk.2) (.int .i64 t349)) (fun _ hk => hk.2) (.int .i64 t350)) (fun _ hk => trivial)⟩
        have n1_ : Aside0 ((World.drewN ((w21.setCell ⟨gb352, 0, none⟩ (.int .i64 t349)).setCell ⟨gb352, 1, none⟩ (.int .i64 t350)) nd).heap[gb348]? = some (.cells #[.int .i64 t345, .int .i64 t346] 35 (0, 0))) := ⟨by (with_reducible repeat (first | refine blk_drewN ?_ _ | refine blk_drew ?_ | refine blk_alloc ?_ _)); refine blk_far ?_ NB348_352.out _; (with_reducible repeat (first | refine blk_drewN ?_ _ | refine blk_drew ?_ | refine blk_alloc ?_ _)); refine blk_far ?_ NB348_352.out _; (with_reducible repeat (first | refine blk_drewN ?_ _ | refine blk_drew ?_ | refine blk_alloc ?_ _)); exact BK348.out⟩
        have n2_ : Aside0 ((World.drewN ((w21.setCell ⟨gb352, 0, none⟩ (.int .i64 t349)).setCell ⟨gb352, 1, none⟩ (.int .i64 t350)) nd).heap[gb352]? = some (.cells #[.int .i64 t349, .int .i64 t350] 35 (0, 0))) := ⟨by (with_reducible repeat (first | refine blk_drewN ?_ _ | refine blk_drew ?_ | refine blk_alloc ?_ _)); refine blk_put (cs := #[.int .i64 t349, .int .i64 0]) ?_ 1 _ rfl; (with_reducible repeat (first | refine blk_drewN ?_ _ | refine blk_drew ?_ | refine blk_alloc ?_ _)); refine blk_put (cs := #[.int .i64 0, .int .i64 0]) ?_ 0 _ rfl; (with_reducible repeat (first | refine blk_drewN ?_ _ | refine blk_drew ?_ | refine blk_alloc ?_ _)); exact BK352.out⟩
        have n3_ : Aside0 (IsS25 w (World.drewN ((w21.setCell ⟨gb352, 0, none⟩ (.int .i64 t349)).setCell ⟨gb352, 1, none⟩ (.int .i64 t350)) nd) gb334 l0 t340) := ⟨by repeat (first | (with_reducible first | exact HI334.out | apply IsS25.alloc | apply IsS25.drewN | apply IsS25.drew | apply IsS25.set_1 | refine IsS25.far ?_ NB334_348.out _ | refine IsS25.far ?_ NB334_352.out _) | exact HI334.out)⟩
        have n4_ : Aside0 (Below w.heap.size w (World.drewN ((w21.setCell ⟨gb352, 0, none⟩ (.int .i64 t349)).setCell ⟨gb352, 1, none⟩ (.int .i64 t350)) nd)) := ⟨by repeat (first | (with_reducible first | exact HB.out | apply below_alloc | apply pw_below_drewN | apply below_drew1 | refine below_set ?_ (IsS25.ge HI334.out) | refine below_set ?_ GE348.out | refine below_set ?_ GE352.out) | exact HB.out)⟩
        (try clear HO344)
        (try clear BK348)
        (try clear BK352)
        (try clear HI334)
        (try clear HB)
        generalize (World.drewN ((w21.setCell ⟨gb352, 0, none⟩ (.int .i64 t349)).setCell ⟨gb352, 1, none⟩ (.int .i64 t350)) nd) = w40 at n0_ n1_ n2_ n3_ n4_ ⊢
        have HO344 := n0_
        have BK348 := n1_
        have BK352 := n2_
        have HI334 := n3_
        have HB := n4_
        clear n0_ n1_ n2_ n3_ n4_
        have n0_ := Aside0.mk (Kd.R_drew HO344.out)
        have n1_ := Aside0.mk (blk_drew BK348.out)
        have n2_ := Aside0.mk (blk_drew BK352.out)
        have n3_ := Aside0.mk (IsS25.drew HI334.out)
        have n4_ := Aside0.mk (below_drew1 HB.out)
        clear HO344
        clear BK348
        clear BK352
        clear HI334
        clear HB
        have HO344 := n0_
        have BK348 := n1_
        have BK352 := n2_
        have HI334 := n3_
        have HB := n4_
        clear n0_ n1_ n2_ n3_ n4_
        refine start_ (n := 34) (S := fun w' => w'.cell? ⟨gb348, 0, none⟩ = some (.int .i64 t345) ∧ w'.cell? ⟨gb348, 1, none⟩ = some (.int .i64 t346) ∧ w'.cell? ⟨gb352, 0, none⟩ = some (.int .i64 t349) ∧ w'.cell? ⟨gb352, 1, none⟩ = some (.int .i64 t350)) (ds := []) chaselaw1_ShinglesLike.D0 (by kernel_rfl) rfl rfl ⟨(blk_cell BK348.out 0).trans rfl, (blk_cell BK348.out 1).trans rfl, (blk_cell BK352.out 0).trans rfl, (blk_cell BK352.out 1).trans rfl⟩ (fun hHeld => ?_); refine with_tabW chaselaw1_ShinglesLike.tab10 chaselaw1_ShinglesLike.bits10 (fun HT_ HW_ => ?_)
        generalize w40.drew = w41 at HO344 BK348 BK352 HI334 HB hHeld ⊢
        refine pure_ (i := 0) (N := some 69) (v := ?_) (a' := ?_) chaselaw1_ShinglesLike.D1 rfl rfl (any_of HT_.out (by kernel_rfl)) (fun _ _ _ h => h) (Or.inl ⟨by rfl, ?_⟩) ?_ ?_
        rotate_left
        ·intro w'
         go_simp
         with_reducible rfl
        rotate_left
        ·simp only [Act.put, List.setIfInBounds_toArray, List.set_cons_zero, List.set_cons_succ, i64_w, i32_w]
         rfl
        refine pure_ (i := 1) (N := some 70) (v := ?_) (a' := ?_) chaselaw1_ShinglesLike.D2 rfl rfl (any_of HT_.out (by kernel_rfl)) (fun _ _ _ h => h) (Or.inl ⟨by rfl, ?_⟩) ?_ ?_
        rotate_left
        ·intro w'
         go_simp
         with_reducible rfl
        rotate_left
        ·simp only [Act.put, List.setIfInBounds_toArray, List.set_cons_zero, List.set_cons_succ, i64_w, i32_w]
         rfl
        refine pure_ (i := 2) (N := some 71) (v := ?_) (a' := ?_) chaselaw1_ShinglesLike.D3 rfl rfl (any_of HT_.out (by kernel_rfl)) (fun _ _ _ h => h) (Or.inl ⟨by rfl, ?_⟩) ?_ ?_
        rotate_left
        ·intro w'
         go_simp
         with_reducible rfl
        rotate_left
        ·simp only [Act.put, List.setIfInBounds_toArray, List.set_cons_zero, List.set_cons_succ, i64_w, i32_w]
         rfl
        refine pure_ (i := 3) (N := some 72) (v := ?_) (a' := ?_) chaselaw1_ShinglesLike.D4 rfl rfl (any_of HT_.out (by kernel_rfl)) (fun _ _ _ h => h) (Or.inl ⟨by rfl, ?_⟩) ?_ ?_
        rotate_left
        ·intro w'
         go_simp
         with_reducible rfl
        rotate_left
        ·simp only [Act.put, List.setIfInBounds_toArray, List.set_cons_zero, List.set_cons_succ, i64_w, i32_w]
         rfl
        refine pure_ (i := 4) (N := some 73) (v := ?_) (a' := ?_) chaselaw1_ShinglesLike.D5 rfl rfl (any_of HT_.out (by kernel_rfl)) (fun _ _ _ h => h) (Or.inl ⟨by rfl, ?_⟩) ?_ ?_
        rotate_left
        ·intro w'
         go_simp
         with_reducible rfl
        rotate_left
        ·simp only [Act.put, List.setIfInBounds_toArray, List.set_cons_zero, List.set_cons_succ, i64_w, i32_w]
         rfl
        refine pure_ (i := 5) (N := some 74) (v := ?_) (a' := ?_) chaselaw1_ShinglesLike.D6 rfl rfl (any_of HT_.out (by kernel_rfl)) (fun _ _ _ h => h) (Or.inl ⟨by rfl, ?_⟩) ?_ ?_
        rotate_left
        ·intro w'
         go_simp
         with_reducible rfl
        rotate_left
        ·simp only [Act.put, List.setIfInBounds_toArray, List.set_cons_zero, List.set_cons_succ, i64_w, i32_w]
         rfl
        refine pure_ (i := 6) (N := some 75) (v := ?_) (a' := ?_) chaselaw1_ShinglesLike.D7 rfl rfl (any_of HT_.out (by kernel_rfl)) (fun _ _ _ h => h) (Or.inl ⟨by rfl, ?_⟩) ?_ ?_
        rotate_left
        ·intro w'
         go_simp
         with_reducible rfl
        rotate_left
        ·simp only [Act.put, List.setIfInBounds_toArray, List.set_cons_zero, List.set_cons_succ, i64_w, i32_w]
         rfl
        refine pure_ (i := 7) (N := some 76) (v := ?_) (a' := ?_) chaselaw1_ShinglesLike.D8 rfl rfl (any_of HT_.out (by kernel_rfl)) (fun _ _ _ h => h) (Or.inl ⟨by rfl, ?_⟩) ?_ ?_
        rotate_left
        ·intro w'
         go_simp
         with_reducible rfl
        rotate_left
        ·simp only [Act.put, List.setIfInBounds_toArray, List.set_cons_zero, List.set_cons_succ, i64_w, i32_w]
         rfl
        refine pure_ (i := 8) (N := some 77) (v := ?_) (a' := ?_) chaselaw1_ShinglesLike.D9 rfl rfl (any_of HT_.out (by kernel_rfl)) (fun _ _ _ h => h) (Or.inl ⟨by rfl, ?_⟩) ?_ ?_
        rotate_left
        ·intro w'
         go_simp
         with_reducible rfl
        rotate_left
        ·simp only [Act.put, List.setIfInBounds_toArray, List.set_cons_zero, List.set_cons_succ, i64_w, i32_w]
         rfl
        refine pure_ (i := 9) (N := some 78) (v := ?_) (a' := ?_) chaselaw1_ShinglesLike.D10 rfl rfl (any_of HT_.out (by kernel_rfl)) (fun _ _ _ h => h) (Or.inl ⟨by rfl, ?_⟩) ?_ ?_
        rotate_left
        ·intro w'
         go_simp
         with_reducible rfl
        rotate_left
        ·simp only [Act.put, List.setIfInBounds_toArray, List.set_cons_zero, List.set_cons_succ, i64_w, i32_w]
         rfl
        refine pure_ (i := 10) (N := some 79) (v := ?_) (a' := ?_) chaselaw1_ShinglesLike.D11 rfl rfl (any_of HT_.out (by kernel_rfl)) (fun _ _ _ h => h) (Or.inl ⟨by rfl, ?_⟩) ?_ ?_
        rotate_left
        ·intro w'
         go_simp
         with_reducible rfl
        rotate_left
        ·simp only [Act.put, List.setIfInBounds_toArray, List.set_cons_zero, List.set_cons_succ, i64_w, i32_w]
         rfl
        refine pure_ (i := 11) (N := some 80) (v := ?_) (a' := ?_) chaselaw1_ShinglesLike.D12 rfl rfl (any_of HT_.out (by kernel_rfl)) (fun _ _ _ h => h) (Or.inl ⟨by rfl, ?_⟩) ?_ ?_
        rotate_left
        ·intro w'
         go_simp
         with_reducible rfl
        rotate_left
        ·simp only [Act.put, List.setIfInBounds_toArray, List.set_cons_zero, List.set_cons_succ, i64_w, i32_w]
         rfl
        refine pure_ (i := 12) (N := some 81) (v := ?_) (a' := ?_) chaselaw1_ShinglesLike.D13 rfl rfl (any_of HT_.out (by kernel_rfl)) (fun _ _ _ h => h) (Or.inl ⟨by rfl, ?_⟩) ?_ ?_
        rotate_left
        ·intro w'
         go_simp
         with_reducible rfl
        rotate_left
        ·simp only [Act.put, List.setIfInBounds_toArray, List.set_cons_zero, List.set_cons_succ, i64_w, i32_w]
         rfl
        refine pure_ (i := 13) (N := some 82) (v := ?_) (a' := ?_) chaselaw1_ShinglesLike.D14 rfl rfl (any_of HT_.out (by kernel_rfl)) (fun _ _ _ h => h) (Or.inl ⟨by rfl, ?_⟩) ?_ ?_
        rotate_left
        ·intro w'
         go_simp
         with_reducible rfl
        rotate_left
        ·simp only [Act.put, List.setIfInBounds_toArray, List.set_cons_zero, List.set_cons_succ, i64_w, i32_w]
         rfl
        refine one_ (i := 14) (N := some 83) chaselaw1_ShinglesLike.D15 rfl rfl (one_of HT_.out (by kernel_rfl)) (by decide) (fun K hK => ?_)
        refine goes_ Try.func22 (by kernel_rfl) rfl #[.string t335, .int .i64 t337] (by rfl) rfl rfl (by (try simp only [List.map_toArray, List.map_cons, List.map_nil]); first | done | rfl | (simp only [List.length_drop, List.length_take]; rfl)) ?_
        with_reducible refine (chaseref1_ShinglesOf.calls k t335 t337 t355 _ A28.out).mono ?_
        rintro e w42 ⟨v356, rfl, ho0, hb⟩
        refine ⟨_, rfl, ?_⟩
        have n0_ := Aside0.mk (Kd.R_elder' (by (with_reducible repeat (first | apply Kd.R_alloc | apply Kd.R_drewN | apply Kd.R_drew)); exact HO344.out) (Kd.R_base ho0) hb)
        have n1_ := Aside0.mk (Kd.R_lower (Kd.R_new' ho0 (Kd.R_lt (by (with_reducible repeat (first | apply Kd.R_alloc | apply Kd.R_drewN | apply Kd.R_drew)); exact HO344.out))) (below_size (by repeat (first | (with_reducible first | exact HB.out | apply below_alloc | apply pw_below_drewN | apply below_drew1 | refine below_set ?_ (IsS25.ge HI334.out) | refine below_set ?_ GE348.out | refine below_set ?_ GE352.out) | exact HB.out))))
        have n2_ := Aside0.mk (IsS25.below (by repeat (first | (with_reducible first | exact HI334.out | apply IsS25.alloc | apply IsS25.drewN | apply IsS25.drew | apply IsS25.set_1 | refine IsS25.far ?_ NB334_348.out _ | refine IsS25.far ?_ NB334_352.out _) | exact HI334.out)) hb)
        have n3_ := Aside0.mk (blk_below (g := gb348) (o := .cells #[.int .i64 t345, .int .i64 t346] 35 (0, 0)) (by (with_reducible repeat (first | refine blk_drewN ?_ _ | refine blk_drew ?_ | refine blk_alloc ?_ _)); exact BK348.out) hb)
        have n4_ := Aside0.mk (blk_below (g := gb352) (o := .cells #[.int .i64 t349, .int .i64 t350] 35 (0, 0)) (by (with_reducible repeat (first | refine blk_drewN ?_ _ | refine blk_drew ?_ | refine blk_alloc ?_ _)); exact BK352.out) hb)
        have n5_ := Aside0.mk (below_step (by repeat (first | (with_reducible first | exact HB.out | apply below_alloc | apply pw_below_drewN | apply below_drew1 | refine below_set ?_ (IsS25.ge HI334.out) | refine below_set ?_ GE348.out | refine below_set ?_ GE352.out) | exact HB.out)) hb)
        clear HO344
        clear HI334
        clear BK348
        clear BK352
        clear HB
        have HO344 := n0_
        have HO357 := n1_
        have HI334 := n2_
        have BK348 := n3_
        have BK352 := n4_
        have HB := n5_
        clear n0_ n1_ n2_ n3_ n4_ n5_
        (try clear hb)
        (try clear hb2)
        (try clear hk)
        (try clear hi)
        (try clear ho0)
        obtain ⟨Ao43, co43, eo43⟩ := Kd.R_slice HO344.out
        (first | subst eo43 | (injection eo43 with f1_ f2_ f3_; have f4_ := f1_.symm; have f5_ := f3_.symm; clear f1_ f2_ f3_; subst f4_; subst f5_))
        obtain ⟨Ao44, co44, eo44⟩ := Kd.R_slice HO357.out
        (first | subst eo44 | (injection eo44 with f1_ f2_ f3_; have f4_ := f1_.symm; have f5_ := f3_.symm; clear f1_ f2_ f3_; subst f4_; subst f5_))
        refine hK.out _ _ ⟨(blk_cell BK348.out 0).trans rfl, (blk_cell BK348.out 1).trans rfl, (blk_cell BK352.out 0).trans rfl, (blk_cell BK352.out 1).trans rfl⟩ (fun hHeld => ?_)
        clear hK K
        refine norm_ (a' := ?_) ?_ ?_
        rotate_left
        ·show Act.put _ (some 83) _ = _
         simp only [Act.put, List.setIfInBounds_toArray, List.set_cons_zero, List.set_cons_succ, i64_w, i32_w]
         rfl
        refine one_ (i := 15) (N := some 84) chaselaw1_ShinglesLike.D16 rfl rfl (one_of HT_.out (by kernel_rfl)) (by decide) (fun K hK => ?_)
        refine goes_ Try.func21 (by kernel_rfl) rfl #[.slice Ao43 t341.length co43, .slice Ao44 t355.length co44] (by rfl) rfl rfl (by (try simp only [List.map_toArray, List.map_cons, List.map_nil]); first | done | rfl | (simp only [List.length_drop, List.length_take]; rfl)) ?_
        with_reducible refine (slices_Equal_string_string.calls k _ _ t341 _ _ t355 true _ ?side1 ?side2 ?side3 ?side4 A29.out).mono ?_
        (case side1 => repeat (first | exact (Kd.R_reads' HO344.out).2.2 | (with_reducible refine Kd.C_alloc ?_ _) | (with_reducible refine Kd.C_drewN ?_ _) | (with_reducible refine Kd.C_drew ?_)))
        (case side2 => exact (Kd.R_reads' HO344.out).2.1)
        (case side3 => repeat (first | exact (Kd.R_reads' HO357.out).2.2 | (with_reducible refine Kd.C_alloc ?_ _) | (with_reducible refine Kd.C_drewN ?_ _) | (with_reducible refine Kd.C_drew ?_)))
        (case side4 => exact (Kd.R_reads' HO357.out).2.1)
        rintro e w' ⟨rfl, ⟨nd, rfl⟩⟩
        refine ⟨_, rfl, ?_⟩
        refine hK.out _ _ ⟨(blk_cell BK348.out 0).trans rfl, (blk_cell BK348.out 1).trans rfl, (blk_cell BK352.out 0).trans rfl, (blk_cell BK352.out 1).trans rfl⟩ (fun hHeld => ?_)
        clear hK K
        refine norm_ (a' := ?_) ?_ ?_
        rotate_left
        ·show Act.put _ (some 84) _ = _
         simp only [Act.put, List.setIfInBounds_toArray, List.set_cons_zero, List.set_cons_succ, i64_w, i32_w]
         rfl
        refine pure_ (i := 16) (N := some 85) (v := ?_) (a' := ?_) chaselaw1_ShinglesLike.D17 rfl rfl (any_of HT_.out (by kernel_rfl)) (fun _ _ _ h => h) (Or.inl ⟨by rfl, ?_⟩) ?_ ?_
        rotate_left
        ·intro w'
         go_simp
         with_reducible rfl
        rotate_left
        ·simp only [Act.put, List.setIfInBounds_toArray, List.set_cons_zero, List.set_cons_succ, i64_w, i32_w]
         rfl
        refine pure_ (i := 17) (N := some 86) (v := ?_) (a' := ?_) chaselaw1_ShinglesLike.D18 rfl rfl (any_of HT_.out (by kernel_rfl)) (fun _ _ _ h => h) (Or.inl ⟨by rfl, ?_⟩) ?_ ?_
        rotate_left
        ·intro w'
         go_simp
         with_reducible rfl
        rotate_left
        ·simp only [Act.put, List.setIfInBounds_toArray, List.set_cons_zero, List.set_cons_succ, i64_w, i32_w]
         rfl
        refine pure_ (i := 18) (N := some 87) (v := ?_) (a' := ?_) chaselaw1_ShinglesLike.D19 rfl rfl (any_of HT_.out (by kernel_rfl)) (fun _ _ _ h => h) (Or.inl ⟨by rfl, ?_⟩) ?_ ?_
        rotate_left
        ·intro w'
         go_simp
         with_reducible rfl
        rotate_left
        ·simp only [Act.put, List.setIfInBounds_toArray, List.set_cons_zero, List.set_cons_succ, i64_w, i32_w]
         rfl
        refine pure_ (i := 20) (N := some 89) (v := ?_) (a' := ?_) chaselaw1_ShinglesLike.D20 rfl rfl (any_of HT_.out (by kernel_rfl)) (fun _ _ _ h => h) (Or.inl ⟨by rfl, ?_⟩) ?_ ?_
        rotate_left
        ·intro w'
         go_simp
         with_reducible rfl
        rotate_left
        ·simp only [Act.put, List.setIfInBounds_toArray, List.set_cons_zero, List.set_cons_succ, i64_w, i32_w]
         rfl
        refine pure_ (i := 21) (N := some 90) (v := ?_) (a' := ?_) chaselaw1_ShinglesLike.D21 rfl rfl (any_of HT_.out (by kernel_rfl)) (fun _ _ _ h => h) (Or.inl ⟨by rfl, ?_⟩) ?_ ?_
        rotate_left
        ·intro w'
         go_simp
         with_reducible rfl
        rotate_left
        ·simp only [Act.put, List.setIfInBounds_toArray, List.set_cons_zero, List.set_cons_succ, i64_w, i32_w]
         rfl
        refine pure_ (i := 22) (N := some 91) (v := ?_) (a' := ?_) chaselaw1_ShinglesLike.D22 rfl rfl (any_of HT_.out (by kernel_rfl)) (fun _ _ _ h => h) (Or.inl ⟨by rfl, ?_⟩) ?_ ?_
        rotate_left
        ·intro w'
         go_simp
         with_reducible rfl
        rotate_left
        ·simp only [Act.put, List.setIfInBounds_toArray, List.set_cons_zero, List.set_cons_succ, i64_w, i32_w]
         rfl
        refine take_ (i := 19) (N := some 88) (v := ?_) (a' := ?_) chaselaw1_ShinglesLike.D26 rfl rfl (take_ofW HT_.out HW_.out (by kernel_rfl)) (fun _ _ _ h => h) (Or.inl ⟨by rfl, ?_⟩) hHeld ?_ ?_
        rotate_left
        ·rintro w' ⟨s0, s1, s2, s3⟩
         go_simp
         with_reducible rfl
        rotate_left
        ·simp only [Act.put, List.setIfInBounds_toArray, List.set_cons_zero, List.set_cons_succ, i64_w, i32_w]
         rfl
        refine one_ (i := 23) (N := some 92) chaselaw1_ShinglesLike.D27 rfl rfl (one_of HT_.out (by kernel_rfl)) (by decide) (fun K hK => ?_)
        refine goes_ Try.func23 (by kernel_rfl) rfl #[.string t335, .string t339, .int .i64 t337] (by rfl) rfl rfl (by (try simp only [List.map_toArray, List.map_cons, List.map_nil]); first | done | rfl | (simp only [List.length_drop, List.length_take]; rfl)) ?_
        with_reducible refine (chaseref1_LikeOf.calls k t335 t339 t337 t359 t360 _ A31.out).mono ?_
        rintro e w45 ⟨rfl, hb⟩
        refine ⟨_, rfl, ?_⟩
        have n0_ := Aside0.mk (Kd.R_below (by (with_reducible repeat (first | apply Kd.R_alloc | apply Kd.R_drewN | apply Kd.R_drew)); exact HO344.out) hb)
        have n1_ := Aside0.mk (Kd.R_below (by (with_reducible repeat (first | apply Kd.R_alloc | apply Kd.R_drewN | apply Kd.R_drew)); exact HO357.out) hb)
        have n2_ := Aside0.mk (IsS25.below (by repeat (first | (with_reducible first | exact HI334.out | apply IsS25.alloc | apply IsS25.drewN | apply IsS25.drew | apply IsS25.set_1 | refine IsS25.far ?_ NB334_348.out _ | refine IsS25.far ?_ NB334_352.out _) | exact HI334.out)) hb)
        have n3_ := Aside0.mk (blk_below (g := gb348) (o := .cells #[.int .i64 t345, .int .i64 t346] 35 (0, 0)) (by (with_reducible repeat (first | refine blk_drewN ?_ _ | refine blk_drew ?_ | refine blk_alloc ?_ _)); exact BK348.out) hb)
        have n4_ := Aside0.mk (blk_below (g := gb352) (o := .cells #[.int .i64 t349, .int .i64 t350] 35 (0, 0)) (by (with_reducible repeat (first | refine blk_drewN ?_ _ | refine blk_drew ?_ | refine blk_alloc ?_ _)); exact BK352.out) hb)
        have n5_ := Aside0.mk (below_step (by repeat (first | (with_reducible first | exact HB.out | apply below_alloc | apply pw_below_drewN | apply below_drew1 | refine below_set ?_ (IsS25.ge HI334.out) | refine below_set ?_ GE348.out | refine below_set ?_ GE352.out) | exact HB.out)) hb)
        clear HO344
        clear HO357
        clear HI334
        clear BK348
        clear BK352
        clear HB
        have HO344 := n0_
        have HO357 := n1_
        have HI334 := n2_
        have BK348 := n3_
        have BK352 := n4_
        have HB := n5_
        clear n0_ n1_ n2_ n3_ n4_ n5_
        (try clear hb)
        (try clear hb2)
        (try clear hk)
        (try clear hi)
        refine hK.out _ _ ⟨(blk_cell BK348.out 0).trans rfl, (blk_cell BK348.out 1).trans rfl, (blk_cell BK352.out 0).trans rfl, (blk_cell BK352.out 1).trans rfl⟩ (fun hHeld => ?_)
        clear hK K
        refine norm_ (a' := ?_) ?_ ?_
        rotate_left
        ·show Act.put _ (some 92) _ = _
         simp only [Act.put, List.setIfInBounds_toArray, List.set_cons_zero, List.set_cons_succ, i64_w, i32_w]
         rfl
        refine pure_ (i := 24) (N := some 93) (v := ?_) (a' := ?_) chaselaw1_ShinglesLike.D28 rfl rfl (any_of HT_.out (by kernel_rfl)) (fun _ _ _ h => h) (Or.inl ⟨by rfl, ?_⟩) ?_ ?_
        rotate_left
        ·intro w'
         go_simp
         first | with_reducible rfl | exact ne2_t (by assumption) | exact ne2_f (by assumption) | exact ne2_ _ _ _ _ _
        rotate_left
        ·simp only [Act.put, List.setIfInBounds_toArray, List.set_cons_zero, List.set_cons_succ, i64_w, i32_w]
         rfl
        refine pure_ (i := 25) (N := some 94) (v := ?_) (a' := ?_) chaselaw1_ShinglesLike.D29 rfl rfl (any_of HT_.out (by kernel_rfl)) (fun _ _ _ h => h) (Or.inl ⟨by rfl, ?_⟩) ?_ ?_
        rotate_left
        ·intro w'
         go_simp
         with_reducible rfl
        rotate_left
        ·simp only [Act.put, List.setIfInBounds_toArray, List.set_cons_zero, List.set_cons_succ, i64_w, i32_w]
         rfl
        refine pure_ (i := 26) (N := some 95) (v := ?_) (a' := ?_) chaselaw1_ShinglesLike.D30 rfl rfl (any_of HT_.out (by kernel_rfl)) (fun _ _ _ h => h) (Or.inl ⟨by rfl, ?_⟩) ?_ ?_
        rotate_left
        ·intro w'
         go_simp
         with_reducible rfl
        rotate_left
        ·simp only [Act.put, List.setIfInBounds_toArray, List.set_cons_zero, List.set_cons_succ, i64_w, i32_w]
         rfl
        refine pure_ (i := 28) (N := some 97) (v := ?_) (a' := ?_) chaselaw1_ShinglesLike.D31 rfl rfl (any_of HT_.out (by kernel_rfl)) (fun _ _ _ h => h) (Or.inl ⟨by rfl, ?_⟩) ?_ ?_
        rotate_left
        ·intro w'
         go_simp
         with_reducible rfl
        rotate_left
        ·simp only [Act.put, List.setIfInBounds_toArray, List.set_cons_zero, List.set_cons_succ, i64_w, i32_w]
         rfl
        refine pure_ (i := 29) (N := some 98) (v := ?_) (a' := ?_) chaselaw1_ShinglesLike.D32 rfl rfl (any_of HT_.out (by kernel_rfl)) (fun _ _ _ h => h) (Or.inl ⟨by rfl, ?_⟩) ?_ ?_
        rotate_left
        ·intro w'
         go_simp
         with_reducible rfl
        rotate_left
        ·simp only [Act.put, List.setIfInBounds_toArray, List.set_cons_zero, List.set_cons_succ, i64_w, i32_w]
         rfl
        refine pure_ (i := 30) (N := some 99) (v := ?_) (a' := ?_) chaselaw1_ShinglesLike.D33 rfl rfl (any_of HT_.out (by kernel_rfl)) (fun _ _ _ h => h) (Or.inl ⟨by rfl, ?_⟩) ?_ ?_
        rotate_left
        ·intro w'
         go_simp
         with_reducible rfl
        rotate_left
        ·simp only [Act.put, List.setIfInBounds_toArray, List.set_cons_zero, List.set_cons_succ, i64_w, i32_w]
         rfl
        refine take_ (i := 27) (N := some 96) (v := ?_) (a' := ?_) chaselaw1_ShinglesLike.D37 rfl rfl (take_ofW HT_.out HW_.out (by kernel_rfl)) (fun _ _ _ h => h) (Or.inl ⟨by rfl, ?_⟩) hHeld ?_ ?_
        rotate_left
        ·rintro w' ⟨s0, s1, s2, s3⟩
         go_simp
         with_reducible rfl
        rotate_left
        ·simp only [Act.put, List.setIfInBounds_toArray, List.set_cons_zero, List.set_cons_succ, i64_w, i32_w]
         rfl
        refine one_ (i := 31) (N := some 100) chaselaw1_ShinglesLike.D38 rfl rfl (one_of HT_.out (by kernel_rfl)) (by decide) (fun K hK => ?_)
        refine goes_ Try.func24 (by kernel_rfl) rfl #[.string t335, .string t339, .int .i64 t337] (by rfl) rfl rfl (by (try simp only [List.map_toArray, List.map_cons, List.map_nil]); first | done | rfl | (simp only [List.length_drop, List.length_take]; rfl)) ?_
        with_reducible refine (chaseref1_ContainmentOf.calls k t335 t339 t337 t361 t362 _ A39.out).mono ?_
        rintro e w46 ⟨rfl, hb⟩
        refine ⟨_, rfl, ?_⟩
        have n0_ := Aside0.mk (Kd.R_below (by (with_reducible repeat (first | apply Kd.R_alloc | apply Kd.R_drewN | apply Kd.R_drew)); exact HO344.out) hb)
        have n1_ := Aside0.mk (Kd.R_below (by (with_reducible repeat (first | apply Kd.R_alloc | apply Kd.R_drewN | apply Kd.R_drew)); exact HO357.out) hb)
        have n2_ := Aside0.mk (IsS25.below (by repeat (first | (with_reducible first | exact HI334.out | apply IsS25.alloc | apply IsS25.drewN | apply IsS25.drew | apply IsS25.set_1 | refine IsS25.far ?_ NB334_348.out _ | refine IsS25.far ?_ NB334_352.out _) | exact HI334.out)) hb)
        have n3_ := Aside0.mk (blk_below (g := gb348) (o := .cells #[.int .i64 t345, .int .i64 t346] 35 (0, 0)) (by (with_reducible repeat (first | refine blk_drewN ?_ _ | refine blk_drew ?_ | refine blk_alloc ?_ _)); exact BK348.out) hb)
        have n4_ := Aside0.mk (blk_below (g := gb352) (o := .cells #[.int .i64 t349, .int .i64 t350] 35 (0, 0)) (by (with_reducible repeat (first | refine blk_drewN ?_ _ | refine blk_drew ?_ | refine blk_alloc ?_ _)); exact BK352.out) hb)
        have n5_ := Aside0.mk (below_step (by repeat (first | (with_reducible first | exact HB.out | apply below_alloc | apply pw_below_drewN | apply below_drew1 | refine below_set ?_ (IsS25.ge HI334.out) | refine below_set ?_ GE348.out | refine below_set ?_ GE352.out) | exact HB.out)) hb)
        clear HO344
        clear HO357
        clear HI334
        clear BK348
        clear BK352
        clear HB
        have HO344 := n0_
        have HO357 := n1_
        have HI334 := n2_
        have BK348 := n3_
        have BK352 := n4_
        have HB := n5_
        clear n0_ n1_ n2_ n3_ n4_ n5_
        (try clear hb)
        (try clear hb2)
        (try clear hk)
        (try clear hi)
        refine hK.out _ _ ⟨(blk_cell BK348.out 0).trans rfl, (blk_cell BK348.out 1).trans rfl, (blk_cell BK352.out 0).trans rfl, (blk_cell BK352.out 1).trans rfl⟩ (fun hHeld => ?_)
        clear hK K
        refine norm_ (a' := ?_) ?_ ?_
        rotate_left
        ·show Act.put _ (some 100) _ = _
         simp only [Act.put, List.setIfInBounds_toArray, List.set_cons_zero, List.set_cons_succ, i64_w, i32_w]
         rfl
        refine pure_ (i := 32) (N := some 101) (v := ?_) (a' := ?_) chaselaw1_ShinglesLike.D39 rfl rfl (any_of HT_.out (by kernel_rfl)) (fun _ _ _ h => h) (Or.inl ⟨by rfl, ?_⟩) ?_ ?_
        rotate_left
        ·intro w'
         go_simp
         first | with_reducible rfl | exact ne2_t (by assumption) | exact ne2_f (by assumption) | exact ne2_ _ _ _ _ _
        rotate_left
        ·simp only [Act.put, List.setIfInBounds_toArray, List.set_cons_zero, List.set_cons_succ, i64_w, i32_w]
         rfl
        refine pure_ (i := 33) (N := some 102) (v := ?_) (a' := ?_) chaselaw1_ShinglesLike.D40 rfl rfl (any_of HT_.out (by kernel_rfl)) (fun _ _ _ h => h) (Or.inl ⟨by rfl, ?_⟩) ?_ ?_
        rotate_left
        ·intro w'
         go_simp
         with_reducible rfl
        rotate_left
        ·simp only [Act.put, List.setIfInBounds_toArray, List.set_cons_zero, List.set_cons_succ, i64_w, i32_w]
         rfl
        refine done_ (done_of HT_.out (by kernel_rfl)) ?_
        try go_wp2
        go_meet
        case rel => exact ⟨_, ((!(t349 == t361) || (!(t350 == t362)))), (by first | rfl | (simp; done) | (simp [*]; done)), H', ⟨by first | omega | exact Nat.le_refl _⟩, ⟨by (with_reducible repeat (first | refine blk_drewN ?_ _ | refine blk_drew ?_ | refine blk_alloc ?_ _)); exact BK348.out⟩, ⟨by (with_reducible repeat (first | refine blk_drewN ?_ _ | refine blk_drew ?_ | refine blk_alloc ?_ _)); exact BK352.out⟩, ⟨by repeat (first | (with_reducible first | exact HI334.out | apply IsS25.alloc | apply IsS25.drewN | apply IsS25.drew | apply IsS25.set_1 | refine IsS25.far ?_ NB334_348.out _ | refine IsS25.far ?_ NB334_352.out _) | exact HI334.out)⟩, ⟨by repeat (first | (with_reducible first | exact HB.out | apply below_alloc | apply pw_below_drewN | apply below_drew1 | refine below_set ?_ (IsS25.ge HI334.out) | refine below_set ?_ GE348.out | refine below_set ?_ GE352.out) | exact HB.out)⟩⟩
      ·replace c30 := Bool.eq_false_iff.mpr c30
       subst c30
       have H1 : (chaselaw1_ShinglesLike.j1 k true l0 t340) = some r := by rw [if_neg (show ¬ (false = true) by decide)] at H; exact H
       clear H
       have H := H1
       clear H1
       have H' := Aside0.mk H
       clear H
       try go_wp2
       have n0_ : Aside0 (Kd.R Kd.string 9 (World.drewN ((w21.setCell ⟨gb352, 0, none⟩ (.int .i64 t349)).setCell ⟨gb352, 1, none⟩ (.int .i64 t350)) nd) w.heap.size (fun _ => True) v343 t341) := ⟨by (with_reducible repeat (first | apply Kd.R_alloc | apply Kd.R_drewN | apply Kd.R_drew)); exact Kd.R_mono (Kd.R_far (p := ⟨gb352, 1, none⟩) (Kd.R_far (p := ⟨gb352, 0, none⟩) (Kd.R_types HO344.out BK352.out (by decide)) (fun _ hk => hk.2) (.int .i64 t349)) (fun _ hk => hk.2) (.int .i64 t350)) (fun _ hk => trivial)⟩
       have n1_ : Aside0 ((World.drewN ((w21.setCell ⟨gb352, 0, none⟩ (.int .i64 t349)).setCell ⟨gb352, 1, none⟩ (.int .i64 t350)) nd).heap[gb348]? = some (.cells #[.int .i64 t345, .int .i64 t346] 35 (0, 0))) := ⟨by (with_reducible repeat (first | refine blk_drewN ?_ _ | refine blk_drew ?_ | refine blk_alloc ?_ _)); refine blk_far ?_ NB348_352.out _; (with_reducible repeat (first | refine blk_drewN ?_ _ | refine blk_drew ?_ | refine blk_alloc ?_ _)); refine blk_far ?_ NB348_352.out _; (with_reducible repeat (first | refine blk_drewN ?_ _ | refine blk_drew ?_ | refine blk_alloc ?_ _)); exact BK348.out⟩
       have n2_ : Aside0 ((World.drewN ((w21.setCell ⟨gb352, 0, none⟩ (.int .i64 t349)).setCell ⟨gb352, 1, none⟩ (.int .i64 t350)) nd).heap[gb352]? = some (.cells #[.int .i64 t349, .int .i64 t350] 35 (0, 0))) := ⟨by (with_reducible repeat (first | refine blk_drewN ?_ _ | refine blk_drew ?_ | refine blk_alloc ?_ _)); refine blk_put (cs := #[.int .i64 t349, .int .i64 0]) ?_ 1 _ rfl; (with_reducible repeat (first | refine blk_drewN ?_ _ | refine blk_drew ?_ | refine blk_alloc ?_ _)); refine blk_put (cs := #[.int .i64 0, .int .i64 0]) ?_ 0 _ rfl; (with_reducible repeat (first | refine blk_drewN ?_ _ | refine blk_drew ?_ | refine blk_alloc ?_ _)); exact BK352.out⟩
       have n3_ : Aside0 (IsS25 w (World.drewN ((w21.setCell ⟨gb352, 0, none⟩ (.int .i64 t349)).setCell ⟨gb352, 1, none⟩ (.int .i64 t350)) nd) gb334 l0 t340) := ⟨by repeat (first | (with_reducible first | exact HI334.out | apply IsS25.alloc | apply IsS25.drewN | apply IsS25.drew | apply IsS25.set_1 | refine IsS25.far ?_ NB334_348.out _ | refine IsS25.far ?_ NB334_352.out _) | exact HI334.out)⟩
       have n4_ : Aside0 (Below w.heap.size w (World.drewN ((w21.setCell ⟨gb352, 0, none⟩ (.int .i64 t349)).setCell ⟨gb352, 1, none⟩ (.int .i64 t350)) nd)) := ⟨by repeat (first | (with_reducible first | exact HB.out | apply below_alloc | apply pw_below_drewN | apply below_drew1 | refine below_set ?_ (IsS25.ge HI334.out) | refine below_set ?_ GE348.out | refine below_set ?_ GE352.out) | exact HB.out)⟩
       (try clear HO344)
       (try clear BK348)
       (try clear BK352)
       (try clear HI334)
       (try clear HB)
       generalize (World.drewN ((w21.setCell ⟨gb352, 0, none⟩ (.int .i64 t349)).setCell ⟨gb352, 1, none⟩ (.int .i64 t350)) nd) = w47 at n0_ n1_ n2_ n3_ n4_ ⊢
       have HO344 := n0_
       have BK348 := n1_
       have BK352 := n2_
       have HI334 := n3_
       have HB := n4_
       clear n0_ n1_ n2_ n3_ n4_
       have n0_ := Aside0.mk (Kd.R_drew HO344.out)
       have n1_ := Aside0.mk (blk_drew BK348.out)
       have n2_ := Aside0.mk (blk_drew BK352.out)
       have n3_ := Aside0.mk (IsS25.drew HI334.out)
       have n4_ := Aside0.mk (below_drew1 HB.out)
       clear HO344
       clear BK348
       clear BK352
       clear HI334
       clear HB
       have HO344 := n0_
       have BK348 := n1_
       have BK352 := n2_
       have HI334 := n3_
       have HB := n4_
       clear n0_ n1_ n2_ n3_ n4_
       refine start_ (n := 34) (S := fun w' => True) (ds := []) chaselaw1_ShinglesLike.D0 (by kernel_rfl) rfl rfl trivial (fun hHeld => ?_); refine with_tabW chaselaw1_ShinglesLike.tab10 chaselaw1_ShinglesLike.bits10 (fun HT_ HW_ => ?_)
       generalize w47.drew = w48 at HO344 BK348 BK352 HI334 HB hHeld ⊢
       refine pure_ (i := 0) (N := some 69) (v := ?_) (a' := ?_) chaselaw1_ShinglesLike.D1 rfl rfl (any_of HT_.out (by kernel_rfl)) (fun _ _ _ h => h) (Or.inl ⟨by rfl, ?_⟩) ?_ ?_
       rotate_left
       ·intro w'
        go_simp
        with_reducible rfl
       rotate_left
       ·simp only [Act.put, List.setIfInBounds_toArray, List.set_cons_zero, List.set_cons_succ, i64_w, i32_w]
        rfl
       refine pure_ (i := 1) (N := some 70) (v := ?_) (a' := ?_) chaselaw1_ShinglesLike.D2 rfl rfl (any_of HT_.out (by kernel_rfl)) (fun _ _ _ h => h) (Or.inl ⟨by rfl, ?_⟩) ?_ ?_
       rotate_left
       ·intro w'
        go_simp
        with_reducible rfl
       rotate_left
       ·simp only [Act.put, List.setIfInBounds_toArray, List.set_cons_zero, List.set_cons_succ, i64_w, i32_w]
        rfl
       refine pure_ (i := 2) (N := some 71) (v := ?_) (a' := ?_) chaselaw1_ShinglesLike.D3 rfl rfl (any_of HT_.out (by kernel_rfl)) (fun _ _ _ h => h) (Or.inl ⟨by rfl, ?_⟩) ?_ ?_
       rotate_left
       ·intro w'
        go_simp
        with_reducible rfl
       rotate_left
       ·simp only [Act.put, List.setIfInBounds_toArray, List.set_cons_zero, List.set_cons_succ, i64_w, i32_w]
        rfl
       refine pure_ (i := 3) (N := some 72) (v := ?_) (a' := ?_) chaselaw1_ShinglesLike.D4 rfl rfl (any_of HT_.out (by kernel_rfl)) (fun _ _ _ h => h) (Or.inl ⟨by rfl, ?_⟩) ?_ ?_
       rotate_left
       ·intro w'
        go_simp
        with_reducible rfl
       rotate_left
       ·simp only [Act.put, List.setIfInBounds_toArray, List.set_cons_zero, List.set_cons_succ, i64_w, i32_w]
        rfl
       refine pure_ (i := 4) (N := some 73) (v := ?_) (a' := ?_) chaselaw1_ShinglesLike.D5 rfl rfl (any_of HT_.out (by kernel_rfl)) (fun _ _ _ h => h) (Or.inl ⟨by rfl, ?_⟩) ?_ ?_
       rotate_left
       ·intro w'
        go_simp
        with_reducible rfl
       rotate_left
       ·simp only [Act.put, List.setIfInBounds_toArray, List.set_cons_zero, List.set_cons_succ, i64_w, i32_w]
        rfl
       refine pure_ (i := 5) (N := some 74) (v := ?_) (a' := ?_) chaselaw1_ShinglesLike.D6 rfl rfl (any_of HT_.out (by kernel_rfl)) (fun _ _ _ h => h) (Or.inl ⟨by rfl, ?_⟩) ?_ ?_
       rotate_left
       ·intro w'
        go_simp
        with_reducible rfl
       rotate_left
       ·simp only [Act.put, List.setIfInBounds_toArray, List.set_cons_zero, List.set_cons_succ, i64_w, i32_w]
        rfl
       refine pure_ (i := 6) (N := some 75) (v := ?_) (a' := ?_) chaselaw1_ShinglesLike.D7 rfl rfl (any_of HT_.out (by kernel_rfl)) (fun _ _ _ h => h) (Or.inl ⟨by rfl, ?_⟩) ?_ ?_
       rotate_left
       ·intro w'
        go_simp
        with_reducible rfl
       rotate_left
       ·simp only [Act.put, List.setIfInBounds_toArray, List.set_cons_zero, List.set_cons_succ, i64_w, i32_w]
        rfl
       refine pure_ (i := 7) (N := some 76) (v := ?_) (a' := ?_) chaselaw1_ShinglesLike.D8 rfl rfl (any_of HT_.out (by kernel_rfl)) (fun _ _ _ h => h) (Or.inl ⟨by rfl, ?_⟩) ?_ ?_
       rotate_left
       ·intro w'
        go_simp
        with_reducible rfl
       rotate_left
       ·simp only [Act.put, List.setIfInBounds_toArray, List.set_cons_zero, List.set_cons_succ, i64_w, i32_w]
        rfl
       refine pure_ (i := 8) (N := some 77) (v := ?_) (a' := ?_) chaselaw1_ShinglesLike.D9 rfl rfl (any_of HT_.out (by kernel_rfl)) (fun _ _ _ h => h) (Or.inl ⟨by rfl, ?_⟩) ?_ ?_
       rotate_left
       ·intro w'
        go_simp
        with_reducible rfl
       rotate_left
       ·simp only [Act.put, List.setIfInBounds_toArray, List.set_cons_zero, List.set_cons_succ, i64_w, i32_w]
        rfl
       refine pure_ (i := 9) (N := some 78) (v := ?_) (a' := ?_) chaselaw1_ShinglesLike.D10 rfl rfl (any_of HT_.out (by kernel_rfl)) (fun _ _ _ h => h) (Or.inl ⟨by rfl, ?_⟩) ?_ ?_
       rotate_left
       ·intro w'
        go_simp
        with_reducible rfl
       rotate_left
       ·simp only [Act.put, List.setIfInBounds_toArray, List.set_cons_zero, List.set_cons_succ, i64_w, i32_w]
        rfl
       refine pure_ (i := 10) (N := some 79) (v := ?_) (a' := ?_) chaselaw1_ShinglesLike.D11 rfl rfl (any_of HT_.out (by kernel_rfl)) (fun _ _ _ h => h) (Or.inl ⟨by rfl, ?_⟩) ?_ ?_
       rotate_left
       ·intro w'
        go_simp
        with_reducible rfl
       rotate_left
       ·simp only [Act.put, List.setIfInBounds_toArray, List.set_cons_zero, List.set_cons_succ, i64_w, i32_w]
        rfl
       refine pure_ (i := 11) (N := some 80) (v := ?_) (a' := ?_) chaselaw1_ShinglesLike.D12 rfl rfl (any_of HT_.out (by kernel_rfl)) (fun _ _ _ h => h) (Or.inl ⟨by rfl, ?_⟩) ?_ ?_
       rotate_left
       ·intro w'
        go_simp
        with_reducible rfl
       rotate_left
       ·simp only [Act.put, List.setIfInBounds_toArray, List.set_cons_zero, List.set_cons_succ, i64_w, i32_w]
        rfl
       refine pure_ (i := 12) (N := some 81) (v := ?_) (a' := ?_) chaselaw1_ShinglesLike.D13 rfl rfl (any_of HT_.out (by kernel_rfl)) (fun _ _ _ h => h) (Or.inl ⟨by rfl, ?_⟩) ?_ ?_
       rotate_left
       ·intro w'
        go_simp
        with_reducible rfl
       rotate_left
       ·simp only [Act.put, List.setIfInBounds_toArray, List.set_cons_zero, List.set_cons_succ, i64_w, i32_w]
        rfl
       refine pure_ (i := 13) (N := some 82) (v := ?_) (a' := ?_) chaselaw1_ShinglesLike.D14 rfl rfl (any_of HT_.out (by kernel_rfl)) (fun _ _ _ h => h) (Or.inl ⟨by rfl, ?_⟩) ?_ ?_
       rotate_left
       ·intro w'
        go_simp
        with_reducible rfl
       rotate_left
       ·simp only [Act.put, List.setIfInBounds_toArray, List.set_cons_zero, List.set_cons_succ, i64_w, i32_w]
        rfl
       refine one_ (i := 14) (N := some 83) chaselaw1_ShinglesLike.D15 rfl rfl (one_of HT_.out (by kernel_rfl)) (by decide) (fun K hK => ?_)
       refine goes_ Try.func22 (by kernel_rfl) rfl #[.string t335, .int .i64 t337] (by rfl) rfl rfl (by (try simp only [List.map_toArray, List.map_cons, List.map_nil]); first | done | rfl | (simp only [List.length_drop, List.length_take]; rfl)) ?_
       with_reducible refine (chaseref1_ShinglesOf.calls k t335 t337 t355 _ A28.out).mono ?_
       rintro e w49 ⟨v356, rfl, ho0, hb⟩
       refine ⟨_, rfl, ?_⟩
       have n0_ := Aside0.mk (Kd.R_elder' (by (with_reducible repeat (first | apply Kd.R_alloc | apply Kd.R_drewN | apply Kd.R_drew)); exact HO344.out) (Kd.R_base ho0) hb)
       have n1_ := Aside0.mk (Kd.R_lower (Kd.R_new' ho0 (Kd.R_lt (by (with_reducible repeat (first | apply Kd.R_alloc | apply Kd.R_drewN | apply Kd.R_drew)); exact HO344.out))) (below_size (by repeat (first | (with_reducible first | exact HB.out | apply below_alloc | apply pw_below_drewN | apply below_drew1 | refine below_set ?_ (IsS25.ge HI334.out) | refine below_set ?_ GE348.out | refine below_set ?_ GE352.out) | exact HB.out))))
       have n2_ := Aside0.mk (IsS25.below (by repeat (first | (with_reducible first | exact HI334.out | apply IsS25.alloc | apply IsS25.drewN | apply IsS25.drew | apply IsS25.set_1 | refine IsS25.far ?_ NB334_348.out _ | refine IsS25.far ?_ NB334_352.out _) | exact HI334.out)) hb)
       have n3_ := Aside0.mk (blk_below (g := gb348) (o := .cells #[.int .i64 t345, .int .i64 t346] 35 (0, 0)) (by (with_reducible repeat (first | refine blk_drewN ?_ _ | refine blk_drew ?_ | refine blk_alloc ?_ _)); exact BK348.out) hb)
       have n4_ := Aside0.mk (blk_below (g := gb352) (o := .cells #[.int .i64 t349, .int .i64 t350] 35 (0, 0)) (by (with_reducible repeat (first | refine blk_drewN ?_ _ | refine blk_drew ?_ | refine blk_alloc ?_ _)); exact BK352.out) hb)
       have n5_ := Aside0.mk (below_step (by repeat (first | (with_reducible first | exact HB.out | apply below_alloc | apply pw_below_drewN | apply below_drew1 | refine below_set ?_ (IsS25.ge HI334.out) | refine below_set ?_ GE348.out | refine below_set ?_ GE352.out) | exact HB.out)) hb)
       clear HO344
       clear HI334
       clear BK348
       clear BK352
       clear HB
       have HO344 := n0_
       have HO357 := n1_
       have HI334 := n2_
       have BK348 := n3_
       have BK352 := n4_
       have HB := n5_
       clear n0_ n1_ n2_ n3_ n4_ n5_
       (try clear hb)
       (try clear hb2)
       (try clear hk)
       (try clear hi)
       (try clear ho0)
       obtain ⟨Ao50, co50, eo50⟩ := Kd.R_slice HO344.out
       (first | subst eo50 | (injection eo50 with f1_ f2_ f3_; have f4_ := f1_.symm; have f5_ := f3_.symm; clear f1_ f2_ f3_; subst f4_; subst f5_))
       obtain ⟨Ao51, co51, eo51⟩ := Kd.R_slice HO357.out
       (first | subst eo51 | (injection eo51 with f1_ f2_ f3_; have f4_ := f1_.symm; have f5_ := f3_.symm; clear f1_ f2_ f3_; subst f4_; subst f5_))
       refine hK.out _ _ trivial (fun hHeld => ?_)
       clear hK K
       refine norm_ (a' := ?_) ?_ ?_
       rotate_left
       ·show Act.put _ (some 83) _ = _
        simp only [Act.put, List.setIfInBounds_toArray, List.set_cons_zero, List.set_cons_succ, i64_w, i32_w]
        rfl
       refine one_ (i := 15) (N := some 84) chaselaw1_ShinglesLike.D16 rfl rfl (one_of HT_.out (by kernel_rfl)) (by decide) (fun K hK => ?_)
       refine goes_ Try.func21 (by kernel_rfl) rfl #[.slice Ao50 t341.length co50, .slice Ao51 t355.length co51] (by rfl) rfl rfl (by (try simp only [List.map_toArray, List.map_cons, List.map_nil]); first | done | rfl | (simp only [List.length_drop, List.length_take]; rfl)) ?_
       with_reducible refine (slices_Equal_string_string.calls k _ _ t341 _ _ t355 false _ ?side1 ?side2 ?side3 ?side4 A29.out).mono ?_
       (case side1 => repeat (first | exact (Kd.R_reads' HO344.out).2.2 | (with_reducible refine Kd.C_alloc ?_ _) | (with_reducible refine Kd.C_drewN ?_ _) | (with_reducible refine Kd.C_drew ?_)))
       (case side2 => exact (Kd.R_reads' HO344.out).2.1)
       (case side3 => repeat (first | exact (Kd.R_reads' HO357.out).2.2 | (with_reducible refine Kd.C_alloc ?_ _) | (with_reducible refine Kd.C_drewN ?_ _) | (with_reducible refine Kd.C_drew ?_)))
       (case side4 => exact (Kd.R_reads' HO357.out).2.1)
       rintro e w' ⟨rfl, ⟨nd, rfl⟩⟩
       refine ⟨_, rfl, ?_⟩
       refine hK.out _ _ trivial (fun hHeld => ?_)
       clear hK K
       refine norm_ (a' := ?_) ?_ ?_
       rotate_left
       ·show Act.put _ (some 84) _ = _
        simp only [Act.put, List.setIfInBounds_toArray, List.set_cons_zero, List.set_cons_succ, i64_w, i32_w]
        rfl
       refine pure_ (i := 16) (N := some 85) (v := ?_) (a' := ?_) chaselaw1_ShinglesLike.D17 rfl rfl (any_of HT_.out (by kernel_rfl)) (fun _ _ _ h => h) (Or.inl ⟨by rfl, ?_⟩) ?_ ?_
       rotate_left
       ·intro w'
        go_simp
        with_reducible rfl
       rotate_left
       ·simp only [Act.put, List.setIfInBounds_toArray, List.set_cons_zero, List.set_cons_succ, i64_w, i32_w]
        rfl
       refine pure_ (i := 17) (N := some 86) (v := ?_) (a' := ?_) chaselaw1_ShinglesLike.D18 rfl rfl (any_of HT_.out (by kernel_rfl)) (fun _ _ _ h => h) (Or.inl ⟨by rfl, ?_⟩) ?_ ?_
       rotate_left
       ·intro w'
        go_simp
        with_reducible rfl
       rotate_left
       ·simp only [Act.put, List.setIfInBounds_toArray, List.set_cons_zero, List.set_cons_succ, i64_w, i32_w]
        rfl
       refine pure_ (i := 18) (N := some 87) (v := ?_) (a' := ?_) chaselaw1_ShinglesLike.D19 rfl rfl (any_of HT_.out (by kernel_rfl)) (fun _ _ _ h => h) (Or.inl ⟨by rfl, ?_⟩) ?_ ?_
       rotate_left
       ·intro w'
        go_simp
        with_reducible rfl
       rotate_left
       ·simp only [Act.put, List.setIfInBounds_toArray, List.set_cons_zero, List.set_cons_succ, i64_w, i32_w]
        rfl
       refine pure_ (i := 19) (N := some 88) (v := undef) (a' := ?_) chaselaw1_ShinglesLike.D23 rfl rfl (any_of HT_.out (by kernel_rfl)) (fun _ _ _ h => h) (Or.inr ⟨by rfl, rfl⟩) ?_ ?_
       rotate_left
       ·simp only [Act.put, List.setIfInBounds_toArray, List.set_cons_zero, List.set_cons_succ, i64_w, i32_w]
        rfl
       refine pure_ (i := 20) (N := some 89) (v := undef) (a' := ?_) chaselaw1_ShinglesLike.D24 rfl rfl (any_of HT_.out (by kernel_rfl)) (fun _ _ _ h => h) (Or.inr ⟨by rfl, rfl⟩) ?_ ?_
       rotate_left
       ·simp only [Act.put, List.setIfInBounds_toArray, List.set_cons_zero, List.set_cons_succ, i64_w, i32_w]
        rfl
       refine pure_ (i := 21) (N := some 90) (v := undef) (a' := ?_) chaselaw1_ShinglesLike.D25 rfl rfl (any_of HT_.out (by kernel_rfl)) (fun _ _ _ h => h) (Or.inr ⟨by rfl, rfl⟩) ?_ ?_
       rotate_left
       ·simp only [Act.put, List.setIfInBounds_toArray, List.set_cons_zero, List.set_cons_succ, i64_w, i32_w]
        rfl
       refine pure_ (i := 22) (N := some 91) (v := undef) (a' := ?_) chaselaw1_ShinglesLike.D26 rfl rfl (any_of HT_.out (by kernel_rfl)) (fun _ _ _ h => h) (Or.inr ⟨by rfl, rfl⟩) ?_ ?_
       rotate_left
       ·simp only [Act.put, List.setIfInBounds_toArray, List.set_cons_zero, List.set_cons_succ, i64_w, i32_w]
        rfl
       refine pure_ (i := 23) (N := some 92) (v := undef) (a' := ?_) chaselaw1_ShinglesLike.D27 rfl rfl (any_of HT_.out (by kernel_rfl)) (fun _ _ _ h => h) (Or.inr ⟨by rfl, rfl⟩) ?_ ?_
       rotate_left
       ·simp only [Act.put, List.setIfInBounds_toArray, List.set_cons_zero, List.set_cons_succ, i64_w, i32_w]
        rfl
       refine pure_ (i := 24) (N := some 93) (v := undef) (a' := ?_) chaselaw1_ShinglesLike.D28 rfl rfl (any_of HT_.out (by kernel_rfl)) (fun _ _ _ h => h) (Or.inr ⟨by rfl, rfl⟩) ?_ ?_
       rotate_left
       ·simp only [Act.put, List.setIfInBounds_toArray, List.set_cons_zero, List.set_cons_succ, i64_w, i32_w]
        rfl
       refine pure_ (i := 25) (N := some 94) (v := ?_) (a' := ?_) chaselaw1_ShinglesLike.D29 rfl rfl (any_of HT_.out (by kernel_rfl)) (fun _ _ _ h => h) (Or.inl ⟨by rfl, ?_⟩) ?_ ?_
       rotate_left
       ·intro w'
        go_simp
        with_reducible rfl
       rotate_left
       ·simp only [Act.put, List.setIfInBounds_toArray, List.set_cons_zero, List.set_cons_succ, i64_w, i32_w]
        rfl
       refine pure_ (i := 26) (N := some 95) (v := ?_) (a' := ?_) chaselaw1_ShinglesLike.D30 rfl rfl (any_of HT_.out (by kernel_rfl)) (fun _ _ _ h => h) (Or.inl ⟨by rfl, ?_⟩) ?_ ?_
       rotate_left
       ·intro w'
        go_simp
        with_reducible rfl
       rotate_left
       ·simp only [Act.put, List.setIfInBounds_toArray, List.set_cons_zero, List.set_cons_succ, i64_w, i32_w]
        rfl
       refine pure_ (i := 27) (N := some 96) (v := undef) (a' := ?_) chaselaw1_ShinglesLike.D34 rfl rfl (any_of HT_.out (by kernel_rfl)) (fun _ _ _ h => h) (Or.inr ⟨by rfl, rfl⟩) ?_ ?_
       rotate_left
       ·simp only [Act.put, List.setIfInBounds_toArray, List.set_cons_zero, List.set_cons_succ, i64_w, i32_w]
        rfl
       refine pure_ (i := 28) (N := some 97) (v := undef) (a' := ?_) chaselaw1_ShinglesLike.D35 rfl rfl (any_of HT_.out (by kernel_rfl)) (fun _ _ _ h => h) (Or.inr ⟨by rfl, rfl⟩) ?_ ?_
       rotate_left
       ·simp only [Act.put, List.setIfInBounds_toArray, List.set_cons_zero, List.set_cons_succ, i64_w, i32_w]
        rfl
       refine pure_ (i := 29) (N := some 98) (v := undef) (a' := ?_) chaselaw1_ShinglesLike.D36 rfl rfl (any_of HT_.out (by kernel_rfl)) (fun _ _ _ h => h) (Or.inr ⟨by rfl, rfl⟩) ?_ ?_
       rotate_left
       ·simp only [Act.put, List.setIfInBounds_toArray, List.set_cons_zero, List.set_cons_succ, i64_w, i32_w]
        rfl
       refine pure_ (i := 30) (N := some 99) (v := undef) (a' := ?_) chaselaw1_ShinglesLike.D37 rfl rfl (any_of HT_.out (by kernel_rfl)) (fun _ _ _ h => h) (Or.inr ⟨by rfl, rfl⟩) ?_ ?_
       rotate_left
       ·simp only [Act.put, List.setIfInBounds_toArray, List.set_cons_zero, List.set_cons_succ, i64_w, i32_w]
        rfl
       refine pure_ (i := 31) (N := some 100) (v := undef) (a' := ?_) chaselaw1_ShinglesLike.D38 rfl rfl (any_of HT_.out (by kernel_rfl)) (fun _ _ _ h => h) (Or.inr ⟨by rfl, rfl⟩) ?_ ?_
       rotate_left
       ·simp only [Act.put, List.setIfInBounds_toArray, List.set_cons_zero, List.set_cons_succ, i64_w, i32_w]
        rfl
       refine pure_ (i := 32) (N := some 101) (v := undef) (a' := ?_) chaselaw1_ShinglesLike.D39 rfl rfl (any_of HT_.out (by kernel_rfl)) (fun _ _ _ h => h) (Or.inr ⟨by rfl, rfl⟩) ?_ ?_
       rotate_left
       ·simp only [Act.put, List.setIfInBounds_toArray, List.set_cons_zero, List.set_cons_succ, i64_w, i32_w]
        rfl
       refine pure_ (i := 33) (N := some 102) (v := ?_) (a' := ?_) chaselaw1_ShinglesLike.D40 rfl rfl (any_of HT_.out (by kernel_rfl)) (fun _ _ _ h => h) (Or.inl ⟨by rfl, ?_⟩) ?_ ?_
       rotate_left
       ·intro w'
        go_simp
        with_reducible rfl
       rotate_left
       ·simp only [Act.put, List.setIfInBounds_toArray, List.set_cons_zero, List.set_cons_succ, i64_w, i32_w]
        rfl
       refine done_ (done_of HT_.out (by kernel_rfl)) ?_
       try go_wp2
       go_meet
       case rel => exact ⟨_, (true), (by first | rfl | (simp; done) | (simp [*]; done)), H', ⟨by first | omega | exact Nat.le_refl _⟩, ⟨by (with_reducible repeat (first | refine blk_drewN ?_ _ | refine blk_drew ?_ | refine blk_alloc ?_ _)); exact BK348.out⟩, ⟨by (with_reducible repeat (first | refine blk_drewN ?_ _ | refine blk_drew ?_ | refine blk_alloc ?_ _)); exact BK352.out⟩, ⟨by repeat (first | (with_reducible first | exact HI334.out | apply IsS25.alloc | apply IsS25.drewN | apply IsS25.drew | apply IsS25.set_1 | refine IsS25.far ?_ NB334_348.out _ | refine IsS25.far ?_ NB334_352.out _) | exact HI334.out)⟩, ⟨by repeat (first | (with_reducible first | exact HB.out | apply below_alloc | apply pw_below_drewN | apply below_drew1 | refine below_set ?_ (IsS25.ge HI334.out) | refine below_set ?_ GE348.out | refine below_set ?_ GE352.out) | exact HB.out)⟩⟩
     ·rw [if_neg c27] at H
      have c27b0 : (t351 == 0) = false := beq_eq_false_iff_ne.mpr c27
      have c27b1 : (t351 != 0) = true := bne_iff_ne.mpr c27
      have H' := Aside0.mk H
      clear H
      try go_wp2
      have n0_ : Aside0 (Kd.R Kd.string 9 (World.drewN ((w21.setCell ⟨gb352, 0, none⟩ (.int .i64 t349)).setCell ⟨gb352, 1, none⟩ (.int .i64 t350)) nd) w.heap.size (fun _ => True) v343 t341) := ⟨by (with_reducible repeat (first | apply Kd.R_alloc | apply Kd.R_drewN | apply Kd.R_drew)); exact Kd.R_mono (Kd.R_far (p := ⟨gb352, 1, none⟩) (Kd.R_far (p := ⟨gb352, 0, none⟩) (Kd.R_types HO344.out BK352.out (by decide)) (fun _ hk => hk.2) (.int .i64 t349)) (fun _ hk => hk.2) (.int .i64 t350)) (fun _ hk => trivial)⟩
      have n1_ : Aside0 ((World.drewN ((w21.setCell ⟨gb352, 0, none⟩ (.int .i64 t349)).setCell ⟨gb352, 1, none⟩ (.int .i64 t350)) nd).heap[gb348]? = some (.cells #[.int .i64 t345, .int .i64 t346] 35 (0, 0))) := ⟨by (with_reducible repeat (first | refine blk_drewN ?_ _ | refine blk_drew ?_ | refine blk_alloc ?_ _)); refine blk_far ?_ NB348_352.out _; (with_reducible repeat (first | refine blk_drewN ?_ _ | refine blk_drew ?_ | refine blk_alloc ?_ _)); refine blk_far ?_ NB348_352.out _; (with_reducible repeat (first | refine blk_drewN ?_ _ | refine blk_drew ?_ | refine blk_alloc ?_ _)); exact BK348.out⟩
      have n2_ : Aside0 ((World.drewN ((w21.setCell ⟨gb352, 0, none⟩ (.int .i64 t349)).setCell ⟨gb352, 1, none⟩ (.int .i64 t350)) nd).heap[gb352]? = some (.cells #[.int .i64 t349, .int .i64 t350] 35 (0, 0))) := ⟨by (with_reducible repeat (first | refine blk_drewN ?_ _ | refine blk_drew ?_ | refine blk_alloc ?_ _)); refine blk_put (cs := #[.int .i64 t349, .int .i64 0]) ?_ 1 _ rfl; (with_reducible repeat (first | refine blk_drewN ?_ _ | refine blk_drew ?_ | refine blk_alloc ?_ _)); refine blk_put (cs := #[.int .i64 0, .int .i64 0]) ?_ 0 _ rfl; (with_reducible repeat (first | refine blk_drewN ?_ _ | refine blk_drew ?_ | refine blk_alloc ?_ _)); exact BK352.out⟩
      have n3_ : Aside0 (IsS25 w (World.drewN ((w21.setCell ⟨gb352, 0, none⟩ (.int .i64 t349)).setCell ⟨gb352, 1, none⟩ (.int .i64 t350)) nd) gb334 l0 t340) := ⟨by repeat (first | (with_reducible first | exact HI334.out | apply IsS25.alloc | apply IsS25.drewN | apply IsS25.drew | apply IsS25.set_1 | refine IsS25.far ?_ NB334_348.out _ | refine IsS25.far ?_ NB334_352.out _) | exact HI334.out)⟩
      have n4_ : Aside0 (Below w.heap.size w (World.drewN ((w21.setCell ⟨gb352, 0, none⟩ (.int .i64 t349)).setCell ⟨gb352, 1, none⟩ (.int .i64 t350)) nd)) := ⟨by repeat (first | (with_reducible first | exact HB.out | apply below_alloc | apply pw_below_drewN | apply below_drew1 | refine below_set ?_ (IsS25.ge HI334.out) | refine below_set ?_ GE348.out | refine below_set ?_ GE352.out) | exact HB.out)⟩
      (try clear HO344)
      (try clear BK348)
      (try clear BK352)
      (try clear HI334)
      (try clear HB)
      generalize (World.drewN ((w21.setCell ⟨gb352, 0, none⟩ (.int .i64 t349)).setCell ⟨gb352, 1, none⟩ (.int .i64 t350)) nd) = w52 at n0_ n1_ n2_ n3_ n4_ ⊢
      have HO344 := n0_
      have BK348 := n1_
      have BK352 := n2_
      have HI334 := n3_
      have HB := n4_
      clear n0_ n1_ n2_ n3_ n4_
      have n0_ := Aside0.mk (Kd.R_drew HO344.out)
      have n1_ := Aside0.mk (blk_drew BK348.out)
      have n2_ := Aside0.mk (blk_drew BK352.out)
      have n3_ := Aside0.mk (IsS25.drew HI334.out)
      have n4_ := Aside0.mk (below_drew1 HB.out)
      clear HO344
      clear BK348
      clear BK352
      clear HI334
      clear HB
      have HO344 := n0_
      have BK348 := n1_
      have BK352 := n2_
      have HI334 := n3_
      have HB := n4_
      clear n0_ n1_ n2_ n3_ n4_
      refine start_ (n := 34) (S := fun w' => True) (ds := []) chaselaw1_ShinglesLike.D0 (by kernel_rfl) rfl rfl trivial (fun hHeld => ?_); refine with_tabW chaselaw1_ShinglesLike.tab10 chaselaw1_ShinglesLike.bits10 (fun HT_ HW_ => ?_)
      generalize w52.drew = w53 at HO344 BK348 BK352 HI334 HB hHeld ⊢
      refine pure_ (i := 0) (N := some 69) (v := ?_) (a' := ?_) chaselaw1_ShinglesLike.D1 rfl rfl (any_of HT_.out (by kernel_rfl)) (fun _ _ _ h => h) (Or.inl ⟨by rfl, ?_⟩) ?_ ?_
      rotate_left
      ·intro w'
       go_simp
       with_reducible rfl
      rotate_left
      ·simp only [Act.put, List.setIfInBounds_toArray, List.set_cons_zero, List.set_cons_succ, i64_w, i32_w]
       rfl
      refine pure_ (i := 1) (N := some 70) (v := ?_) (a' := ?_) chaselaw1_ShinglesLike.D2 rfl rfl (any_of HT_.out (by kernel_rfl)) (fun _ _ _ h => h) (Or.inl ⟨by rfl, ?_⟩) ?_ ?_
      rotate_left
      ·intro w'
       go_simp
       with_reducible rfl
      rotate_left
      ·simp only [Act.put, List.setIfInBounds_toArray, List.set_cons_zero, List.set_cons_succ, i64_w, i32_w]
       rfl
      refine pure_ (i := 2) (N := some 71) (v := ?_) (a' := ?_) chaselaw1_ShinglesLike.D3 rfl rfl (any_of HT_.out (by kernel_rfl)) (fun _ _ _ h => h) (Or.inl ⟨by rfl, ?_⟩) ?_ ?_
      rotate_left
      ·intro w'
       go_simp
       with_reducible rfl
      rotate_left
      ·simp only [Act.put, List.setIfInBounds_toArray, List.set_cons_zero, List.set_cons_succ, i64_w, i32_w]
       rfl
      refine pure_ (i := 3) (N := some 72) (v := ?_) (a' := ?_) chaselaw1_ShinglesLike.D4 rfl rfl (any_of HT_.out (by kernel_rfl)) (fun _ _ _ h => h) (Or.inl ⟨by rfl, ?_⟩) ?_ ?_
      rotate_left
      ·intro w'
       go_simp
       with_reducible rfl
      rotate_left
      ·simp only [Act.put, List.setIfInBounds_toArray, List.set_cons_zero, List.set_cons_succ, i64_w, i32_w]
       rfl
      refine pure_ (i := 4) (N := some 73) (v := ?_) (a' := ?_) chaselaw1_ShinglesLike.D5 rfl rfl (any_of HT_.out (by kernel_rfl)) (fun _ _ _ h => h) (Or.inl ⟨by rfl, ?_⟩) ?_ ?_
      rotate_left
      ·intro w'
       go_simp
       with_reducible rfl
      rotate_left
      ·simp only [Act.put, List.setIfInBounds_toArray, List.set_cons_zero, List.set_cons_succ, i64_w, i32_w]
       rfl
      refine pure_ (i := 5) (N := some 74) (v := ?_) (a' := ?_) chaselaw1_ShinglesLike.D6 rfl rfl (any_of HT_.out (by kernel_rfl)) (fun _ _ _ h => h) (Or.inl ⟨by rfl, ?_⟩) ?_ ?_
      rotate_left
      ·intro w'
       go_simp
       with_reducible rfl
      rotate_left
      ·simp only [Act.put, List.setIfInBounds_toArray, List.set_cons_zero, List.set_cons_succ, i64_w, i32_w]
       rfl
      refine pure_ (i := 6) (N := some 75) (v := ?_) (a' := ?_) chaselaw1_ShinglesLike.D7 rfl rfl (any_of HT_.out (by kernel_rfl)) (fun _ _ _ h => h) (Or.inl ⟨by rfl, ?_⟩) ?_ ?_
      rotate_left
      ·intro w'
       go_simp
       with_reducible rfl
      rotate_left
      ·simp only [Act.put, List.setIfInBounds_toArray, List.set_cons_zero, List.set_cons_succ, i64_w, i32_w]
       rfl
      refine pure_ (i := 7) (N := some 76) (v := ?_) (a' := ?_) chaselaw1_ShinglesLike.D8 rfl rfl (any_of HT_.out (by kernel_rfl)) (fun _ _ _ h => h) (Or.inl ⟨by rfl, ?_⟩) ?_ ?_
      rotate_left
      ·intro w'
       go_simp
       with_reducible rfl
      rotate_left
      ·simp only [Act.put, List.setIfInBounds_toArray, List.set_cons_zero, List.set_cons_succ, i64_w, i32_w]
       rfl
      refine pure_ (i := 8) (N := some 77) (v := ?_) (a' := ?_) chaselaw1_ShinglesLike.D9 rfl rfl (any_of HT_.out (by kernel_rfl)) (fun _ _ _ h => h) (Or.inl ⟨by rfl, ?_⟩) ?_ ?_
      rotate_left
      ·intro w'
       go_simp
       with_reducible rfl
      rotate_left
      ·simp only [Act.put, List.setIfInBounds_toArray, List.set_cons_zero, List.set_cons_succ, i64_w, i32_w]
       rfl
      refine pure_ (i := 9) (N := some 78) (v := ?_) (a' := ?_) chaselaw1_ShinglesLike.D10 rfl rfl (any_of HT_.out (by kernel_rfl)) (fun _ _ _ h => h) (Or.inl ⟨by rfl, ?_⟩) ?_ ?_
      rotate_left
      ·intro w'
       go_simp
       with_reducible rfl
      rotate_left
      ·simp only [Act.put, List.setIfInBounds_toArray, List.set_cons_zero, List.set_cons_succ, i64_w, i32_w]
       rfl
      refine pure_ (i := 10) (N := some 79) (v := ?_) (a' := ?_) chaselaw1_ShinglesLike.D11 rfl rfl (any_of HT_.out (by kernel_rfl)) (fun _ _ _ h => h) (Or.inl ⟨by rfl, ?_⟩) ?_ ?_
      rotate_left
      ·intro w'
       go_simp
       with_reducible rfl
      rotate_left
      ·simp only [Act.put, List.setIfInBounds_toArray, List.set_cons_zero, List.set_cons_succ, i64_w, i32_w]
       rfl
      refine pure_ (i := 11) (N := some 80) (v := undef) (a' := ?_) chaselaw1_ShinglesLike.D12 rfl rfl (any_of HT_.out (by kernel_rfl)) (fun _ _ _ h => h) (Or.inr ⟨by rfl, rfl⟩) ?_ ?_
      rotate_left
      ·simp only [Act.put, List.setIfInBounds_toArray, List.set_cons_zero, List.set_cons_succ, i64_w, i32_w]
       rfl
      refine pure_ (i := 12) (N := some 81) (v := undef) (a' := ?_) chaselaw1_ShinglesLike.D13 rfl rfl (any_of HT_.out (by kernel_rfl)) (fun _ _ _ h => h) (Or.inr ⟨by rfl, rfl⟩) ?_ ?_
      rotate_left
      ·simp only [Act.put, List.setIfInBounds_toArray, List.set_cons_zero, List.set_cons_succ, i64_w, i32_w]
       rfl
      refine pure_ (i := 13) (N := some 82) (v := undef) (a' := ?_) chaselaw1_ShinglesLike.D14 rfl rfl (any_of HT_.out (by kernel_rfl)) (fun _ _ _ h => h) (Or.inr ⟨by rfl, rfl⟩) ?_ ?_
      rotate_left
      ·simp only [Act.put, List.setIfInBounds_toArray, List.set_cons_zero, List.set_cons_succ, i64_w, i32_w]
       rfl
      refine pure_ (i := 14) (N := some 83) (v := undef) (a' := ?_) chaselaw1_ShinglesLike.D15 rfl rfl (any_of HT_.out (by kernel_rfl)) (fun _ _ _ h => h) (Or.inr ⟨by rfl, rfl⟩) ?_ ?_
      rotate_left
      ·simp only [Act.put, List.setIfInBounds_toArray, List.set_cons_zero, List.set_cons_succ, i64_w, i32_w]
       rfl
      refine pure_ (i := 15) (N := some 84) (v := undef) (a' := ?_) chaselaw1_ShinglesLike.D16 rfl rfl (any_of HT_.out (by kernel_rfl)) (fun _ _ _ h => h) (Or.inr ⟨by rfl, rfl⟩) ?_ ?_
      rotate_left
      ·simp only [Act.put, List.setIfInBounds_toArray, List.set_cons_zero, List.set_cons_succ, i64_w, i32_w]
       rfl
      refine pure_ (i := 16) (N := some 85) (v := undef) (a' := ?_) chaselaw1_ShinglesLike.D17 rfl rfl (any_of HT_.out (by kernel_rfl)) (fun _ _ _ h => h) (Or.inr ⟨by rfl, rfl⟩) ?_ ?_
      rotate_left
      ·simp only [Act.put, List.setIfInBounds_toArray, List.set_cons_zero, List.set_cons_succ, i64_w, i32_w]
       rfl
      refine pure_ (i := 17) (N := some 86) (v := ?_) (a' := ?_) chaselaw1_ShinglesLike.D18 rfl rfl (any_of HT_.out (by kernel_rfl)) (fun _ _ _ h => h) (Or.inl ⟨by rfl, ?_⟩) ?_ ?_
      rotate_left
      ·intro w'
       go_simp
       with_reducible rfl
      rotate_left
      ·simp only [Act.put, List.setIfInBounds_toArray, List.set_cons_zero, List.set_cons_succ, i64_w, i32_w]
       rfl
      refine pure_ (i := 18) (N := some 87) (v := ?_) (a' := ?_) chaselaw1_ShinglesLike.D19 rfl rfl (any_of HT_.out (by kernel_rfl)) (fun _ _ _ h => h) (Or.inl ⟨by rfl, ?_⟩) ?_ ?_
      rotate_left
      ·intro w'
       go_simp
       with_reducible rfl
      rotate_left
      ·simp only [Act.put, List.setIfInBounds_toArray, List.set_cons_zero, List.set_cons_succ, i64_w, i32_w]
       rfl
      refine pure_ (i := 19) (N := some 88) (v := undef) (a' := ?_) chaselaw1_ShinglesLike.D23 rfl rfl (any_of HT_.out (by kernel_rfl)) (fun _ _ _ h => h) (Or.inr ⟨by rfl, rfl⟩) ?_ ?_
      rotate_left
      ·simp only [Act.put, List.setIfInBounds_toArray, List.set_cons_zero, List.set_cons_succ, i64_w, i32_w]
       rfl
      refine pure_ (i := 20) (N := some 89) (v := undef) (a' := ?_) chaselaw1_ShinglesLike.D24 rfl rfl (any_of HT_.out (by kernel_rfl)) (fun _ _ _ h => h) (Or.inr ⟨by rfl, rfl⟩) ?_ ?_
      rotate_left
      ·simp only [Act.put, List.setIfInBounds_toArray, List.set_cons_zero, List.set_cons_succ, i64_w, i32_w]
       rfl
      refine pure_ (i := 21) (N := some 90) (v := undef) (a' := ?_) chaselaw1_ShinglesLike.D25 rfl rfl (any_of HT_.out (by kernel_rfl)) (fun _ _ _ h => h) (Or.inr ⟨by rfl, rfl⟩) ?_ ?_
      rotate_left
      ·simp only [Act.put, List.setIfInBounds_toArray, List.set_cons_zero, List.set_cons_succ, i64_w, i32_w]
       rfl
      refine pure_ (i := 22) (N := some 91) (v := undef) (a' := ?_) chaselaw1_ShinglesLike.D26 rfl rfl (any_of HT_.out (by kernel_rfl)) (fun _ _ _ h => h) (Or.inr ⟨by rfl, rfl⟩) ?_ ?_
      rotate_left
      ·simp only [Act.put, List.setIfInBounds_toArray, List.set_cons_zero, List.set_cons_succ, i64_w, i32_w]
       rfl
      refine pure_ (i := 23) (N := some 92) (v := undef) (a' := ?_) chaselaw1_ShinglesLike.D27 rfl rfl (any_of HT_.out (by kernel_rfl)) (fun _ _ _ h => h) (Or.inr ⟨by rfl, rfl⟩) ?_ ?_
      rotate_left
      ·simp only [Act.put, List.setIfInBounds_toArray, List.set_cons_zero, List.set_cons_succ, i64_w, i32_w]
       rfl
      refine pure_ (i := 24) (N := some 93) (v := undef) (a' := ?_) chaselaw1_ShinglesLike.D28 rfl rfl (any_of HT_.out (by kernel_rfl)) (fun _ _ _ h => h) (Or.inr ⟨by rfl, rfl⟩) ?_ ?_
      rotate_left
      ·simp only [Act.put, List.setIfInBounds_toArray, List.set_cons_zero, List.set_cons_succ, i64_w, i32_w]
       rfl
      refine pure_ (i := 25) (N := some 94) (v := ?_) (a' := ?_) chaselaw1_ShinglesLike.D29 rfl rfl (any_of HT_.out (by kernel_rfl)) (fun _ _ _ h => h) (Or.inl ⟨by rfl, ?_⟩) ?_ ?_
      rotate_left
      ·intro w'
       go_simp
       with_reducible rfl
      rotate_left
      ·simp only [Act.put, List.setIfInBounds_toArray, List.set_cons_zero, List.set_cons_succ, i64_w, i32_w]
       rfl
      refine pure_ (i := 26) (N := some 95) (v := ?_) (a' := ?_) chaselaw1_ShinglesLike.D30 rfl rfl (any_of HT_.out (by kernel_rfl)) (fun _ _ _ h => h) (Or.inl ⟨by rfl, ?_⟩) ?_ ?_
      rotate_left
      ·intro w'
       go_simp
       with_reducible rfl
      rotate_left
      ·simp only [Act.put, List.setIfInBounds_toArray, List.set_cons_zero, List.set_cons_succ, i64_w, i32_w]
       rfl
      refine pure_ (i := 27) (N := some 96) (v := undef) (a' := ?_) chaselaw1_ShinglesLike.D34 rfl rfl (any_of HT_.out (by kernel_rfl)) (fun _ _ _ h => h) (Or.inr ⟨by rfl, rfl⟩) ?_ ?_
      rotate_left
      ·simp only [Act.put, List.setIfInBounds_toArray, List.set_cons_zero, List.set_cons_succ, i64_w, i32_w]
       rfl
      refine pure_ (i := 28) (N := some 97) (v := undef) (a' := ?_) chaselaw1_ShinglesLike.D35 rfl rfl (any_of HT_.out (by kernel_rfl)) (fun _ _ _ h => h) (Or.inr ⟨by rfl, rfl⟩) ?_ ?_
      rotate_left
      ·simp only [Act.put, List.setIfInBounds_toArray, List.set_cons_zero, List.set_cons_succ, i64_w, i32_w]
       rfl
      refine pure_ (i := 29) (N := some 98) (v := undef) (a' := ?_) chaselaw1_ShinglesLike.D36 rfl rfl (any_of HT_.out (by kernel_rfl)) (fun _ _ _ h => h) (Or.inr ⟨by rfl, rfl⟩) ?_ ?_
      rotate_left
      ·simp only [Act.put, List.setIfInBounds_toArray, List.set_cons_zero, List.set_cons_succ, i64_w, i32_w]
       rfl
      refine pure_ (i := 30) (N := some 99) (v := undef) (a' := ?_) chaselaw1_ShinglesLike.D37 rfl rfl (any_of HT_.out (by kernel_rfl)) (fun _ _ _ h => h) (Or.inr ⟨by rfl, rfl⟩) ?_ ?_
      rotate_left
      ·simp only [Act.put, List.setIfInBounds_toArray, List.set_cons_zero, List.set_cons_succ, i64_w, i32_w]
       rfl
      refine pure_ (i := 31) (N := some 100) (v := undef) (a' := ?_) chaselaw1_ShinglesLike.D38 rfl rfl (any_of HT_.out (by kernel_rfl)) (fun _ _ _ h => h) (Or.inr ⟨by rfl, rfl⟩) ?_ ?_
      rotate_left
      ·simp only [Act.put, List.setIfInBounds_toArray, List.set_cons_zero, List.set_cons_succ, i64_w, i32_w]
       rfl
      refine pure_ (i := 32) (N := some 101) (v := undef) (a' := ?_) chaselaw1_ShinglesLike.D39 rfl rfl (any_of HT_.out (by kernel_rfl)) (fun _ _ _ h => h) (Or.inr ⟨by rfl, rfl⟩) ?_ ?_
      rotate_left
      ·simp only [Act.put, List.setIfInBounds_toArray, List.set_cons_zero, List.set_cons_succ, i64_w, i32_w]
       rfl
      refine pure_ (i := 33) (N := some 102) (v := ?_) (a' := ?_) chaselaw1_ShinglesLike.D40 rfl rfl (any_of HT_.out (by kernel_rfl)) (fun _ _ _ h => h) (Or.inl ⟨by rfl, ?_⟩) ?_ ?_
      rotate_left
      ·intro w'
       go_simp
       with_reducible rfl
      rotate_left
      ·simp only [Act.put, List.setIfInBounds_toArray, List.set_cons_zero, List.set_cons_succ, i64_w, i32_w]
       rfl
      refine done_ (done_of HT_.out (by kernel_rfl)) ?_
      try go_wp2
      go_meet
      case rel => exact ⟨_, (true), (by first | rfl | (simp; done) | (simp [*]; done)), H', ⟨by first | omega | exact Nat.le_refl _⟩, ⟨by (with_reducible repeat (first | refine blk_drewN ?_ _ | refine blk_drew ?_ | refine blk_alloc ?_ _)); exact BK348.out⟩, ⟨by (with_reducible repeat (first | refine blk_drewN ?_ _ | refine blk_drew ?_ | refine blk_alloc ?_ _)); exact BK352.out⟩, ⟨by repeat (first | (with_reducible first | exact HI334.out | apply IsS25.alloc | apply IsS25.drewN | apply IsS25.drew | apply IsS25.set_1 | refine IsS25.far ?_ NB334_348.out _ | refine IsS25.far ?_ NB334_352.out _) | exact HI334.out)⟩, ⟨by repeat (first | (with_reducible first | exact HB.out | apply below_alloc | apply pw_below_drewN | apply below_drew1 | refine below_set ?_ (IsS25.ge HI334.out) | refine below_set ?_ GE348.out | refine below_set ?_ GE352.out) | exact HB.out)⟩⟩
    ·rw [if_neg c26] at H
     have c26b0 : (t347 == 0) = false := beq_eq_false_iff_ne.mpr c26
     have c26b1 : (t347 != 0) = true := bne_iff_ne.mpr c26
     have H' := Aside0.mk H
     clear H
     try go_wp2
     have n0_ : Aside0 (Kd.R Kd.string 9 (World.drewN ((w21.setCell ⟨gb352, 0, none⟩ (.int .i64 t349)).setCell ⟨gb352, 1, none⟩ (.int .i64 t350)) nd) w.heap.size (fun _ => True) v343 t341) := ⟨by (with_reducible repeat (first | apply Kd.R_alloc | apply Kd.R_drewN | apply Kd.R_drew)); exact Kd.R_mono (Kd.R_far (p := ⟨gb352, 1, none⟩) (Kd.R_far (p := ⟨gb352, 0, none⟩) (Kd.R_types HO344.out BK352.out (by decide)) (fun _ hk => hk.2) (.int .i64 t349)) (fun _ hk => hk.2) (.int .i64 t350)) (fun _ hk => trivial)⟩
     have n1_ : Aside0 ((World.drewN ((w21.setCell ⟨gb352, 0, none⟩ (.int .i64 t349)).setCell ⟨gb352, 1, none⟩ (.int .i64 t350)) nd).heap[gb348]? = some (.cells #[.int .i64 t345, .int .i64 t346] 35 (0, 0))) := ⟨by (with_reducible repeat (first | refine blk_drewN ?_ _ | refine blk_drew ?_ | refine blk_alloc ?_ _)); refine blk_far ?_ NB348_352.out _; (with_reducible repeat (first | refine blk_drewN ?_ _ | refine blk_drew ?_ | refine blk_alloc ?_ _)); refine blk_far ?_ NB348_352.out _; (with_reducible repeat (first | refine blk_drewN ?_ _ | refine blk_drew ?_ | refine blk_alloc ?_ _)); exact BK348.out⟩
     have n2_ : Aside0 ((World.drewN ((w21.setCell ⟨gb352, 0, none⟩ (.int .i64 t349)).setCell ⟨gb352, 1, none⟩ (.int .i64 t350)) nd).heap[gb352]? = some (.cells #[.int .i64 t349, .int .i64 t350] 35 (0, 0))) := ⟨by (with_reducible repeat (first | refine blk_drewN ?_ _ | refine blk_drew ?_ | refine blk_alloc ?_ _)); refine blk_put (cs := #[.int .i64 t349, .int .i64 0]) ?_ 1 _ rfl; (with_reducible repeat (first | refine blk_drewN ?_ _ | refine blk_drew ?_ | refine blk_alloc ?_ _)); refine blk_put (cs := #[.int .i64 0, .int .i64 0]) ?_ 0 _ rfl; (with_reducible repeat (first | refine blk_drewN ?_ _ | refine blk_drew ?_ | refine blk_alloc ?_ _)); exact BK352.out⟩
     have n3_ : Aside0 (IsS25 w (World.drewN ((w21.setCell ⟨gb352, 0, none⟩ (.int .i64 t349)).setCell ⟨gb352, 1, none⟩ (.int .i64 t350)) nd) gb334 l0 t340) := ⟨by repeat (first | (with_reducible first | exact HI334.out | apply IsS25.alloc | apply IsS25.drewN | apply IsS25.drew | apply IsS25.set_1 | refine IsS25.far ?_ NB334_348.out _ | refine IsS25.far ?_ NB334_352.out _) | exact HI334.out)⟩
     have n4_ : Aside0 (Below w.heap.size w (World.drewN ((w21.setCell ⟨gb352, 0, none⟩ (.int .i64 t349)).setCell ⟨gb352, 1, none⟩ (.int .i64 t350)) nd)) := ⟨by repeat (first | (with_reducible first | exact HB.out | apply below_alloc | apply pw_below_drewN | apply below_drew1 | refine below_set ?_ (IsS25.ge HI334.out) | refine below_set ?_ GE348.out | refine below_set ?_ GE352.out) | exact HB.out)⟩
     (try clear HO344)
     (try clear BK348)
     (try clear BK352)
     (try clear HI334)
     (try clear HB)
     generalize (World.drewN ((w21.setCell ⟨gb352, 0, none⟩ (.int .i64 t349)).setCell ⟨gb352, 1, none⟩ (.int .i64 t350)) nd) = w54 at n0_ n1_ n2_ n3_ n4_ ⊢
     have HO344 := n0_
     have BK348 := n1_
     have BK352 := n2_
     have HI334 := n3_
     have HB := n4_
     clear n0_ n1_ n2_ n3_ n4_
     have n0_ := Aside0.mk (Kd.R_drew HO344.out)
     have n1_ := Aside0.mk (blk_drew BK348.out)
     have n2_ := Aside0.mk (blk_drew BK352.out)
     have n3_ := Aside0.mk (IsS25.drew HI334.out)
     have n4_ := Aside0.mk (below_drew1 HB.out)
     clear HO344
     clear BK348
     clear BK352
     clear HI334
     clear HB
     have HO344 := n0_
     have BK348 := n1_
     have BK352 := n2_
     have HI334 := n3_
     have HB := n4_
     clear n0_ n1_ n2_ n3_ n4_
     refine start_ (n := 34) (S := fun w' => True) (ds := []) chaselaw1_ShinglesLike.D0 (by kernel_rfl) rfl rfl trivial (fun hHeld => ?_); refine with_tabW chaselaw1_ShinglesLike.tab10 chaselaw1_ShinglesLike.bits10 (fun HT_ HW_ => ?_)
     generalize w54.drew = w55 at HO344 BK348 BK352 HI334 HB hHeld ⊢
     refine pure_ (i := 0) (N := some 69) (v := ?_) (a' := ?_) chaselaw1_ShinglesLike.D1 rfl rfl (any_of HT_.out (by kernel_rfl)) (fun _ _ _ h => h) (Or.inl ⟨by rfl, ?_⟩) ?_ ?_
     rotate_left
     ·intro w'
      go_simp
      with_reducible rfl
     rotate_left
     ·simp only [Act.put, List.setIfInBounds_toArray, List.set_cons_zero, List.set_cons_succ, i64_w, i32_w]
      rfl
     refine pure_ (i := 1) (N := some 70) (v := ?_) (a' := ?_) chaselaw1_ShinglesLike.D2 rfl rfl (any_of HT_.out (by kernel_rfl)) (fun _ _ _ h => h) (Or.inl ⟨by rfl, ?_⟩) ?_ ?_
     rotate_left
     ·intro w'
      go_simp
      with_reducible rfl
     rotate_left
     ·simp only [Act.put, List.setIfInBounds_toArray, List.set_cons_zero, List.set_cons_succ, i64_w, i32_w]
      rfl
     refine pure_ (i := 2) (N := some 71) (v := ?_) (a' := ?_) chaselaw1_ShinglesLike.D3 rfl rfl (any_of HT_.out (by kernel_rfl)) (fun _ _ _ h => h) (Or.inl ⟨by rfl, ?_⟩) ?_ ?_
     rotate_left
     ·intro w'
      go_simp
      with_reducible rfl
     rotate_left
     ·simp only [Act.put, List.setIfInBounds_toArray, List.set_cons_zero, List.set_cons_succ, i64_w, i32_w]
      rfl
     refine pure_ (i := 3) (N := some 72) (v := ?_) (a' := ?_) chaselaw1_ShinglesLike.D4 rfl rfl (any_of HT_.out (by kernel_rfl)) (fun _ _ _ h => h) (Or.inl ⟨by rfl, ?_⟩) ?_ ?_
     rotate_left
     ·intro w'
      go_simp
      with_reducible rfl
     rotate_left
     ·simp only [Act.put, List.setIfInBounds_toArray, List.set_cons_zero, List.set_cons_succ, i64_w, i32_w]
      rfl
     refine pure_ (i := 4) (N := some 73) (v := ?_) (a' := ?_) chaselaw1_ShinglesLike.D5 rfl rfl (any_of HT_.out (by kernel_rfl)) (fun _ _ _ h => h) (Or.inl ⟨by rfl, ?_⟩) ?_ ?_
     rotate_left
     ·intro w'
      go_simp
      with_reducible rfl
     rotate_left
     ·simp only [Act.put, List.setIfInBounds_toArray, List.set_cons_zero, List.set_cons_succ, i64_w, i32_w]
      rfl
     refine pure_ (i := 5) (N := some 74) (v := ?_) (a' := ?_) chaselaw1_ShinglesLike.D6 rfl rfl (any_of HT_.out (by kernel_rfl)) (fun _ _ _ h => h) (Or.inl ⟨by rfl, ?_⟩) ?_ ?_
     rotate_left
     ·intro w'
      go_simp
      with_reducible rfl
     rotate_left
     ·simp only [Act.put, List.setIfInBounds_toArray, List.set_cons_zero, List.set_cons_succ, i64_w, i32_w]
      rfl
     refine pure_ (i := 6) (N := some 75) (v := ?_) (a' := ?_) chaselaw1_ShinglesLike.D7 rfl rfl (any_of HT_.out (by kernel_rfl)) (fun _ _ _ h => h) (Or.inl ⟨by rfl, ?_⟩) ?_ ?_
     rotate_left
     ·intro w'
      go_simp
      with_reducible rfl
     rotate_left
     ·simp only [Act.put, List.setIfInBounds_toArray, List.set_cons_zero, List.set_cons_succ, i64_w, i32_w]
      rfl
     refine pure_ (i := 7) (N := some 76) (v := undef) (a' := ?_) chaselaw1_ShinglesLike.D8 rfl rfl (any_of HT_.out (by kernel_rfl)) (fun _ _ _ h => h) (Or.inr ⟨by rfl, rfl⟩) ?_ ?_
     rotate_left
     ·simp only [Act.put, List.setIfInBounds_toArray, List.set_cons_zero, List.set_cons_succ, i64_w, i32_w]
      rfl
     refine pure_ (i := 8) (N := some 77) (v := undef) (a' := ?_) chaselaw1_ShinglesLike.D9 rfl rfl (any_of HT_.out (by kernel_rfl)) (fun _ _ _ h => h) (Or.inr ⟨by rfl, rfl⟩) ?_ ?_
     rotate_left
     ·simp only [Act.put, List.setIfInBounds_toArray, List.set_cons_zero, List.set_cons_succ, i64_w, i32_w]
      rfl
     refine pure_ (i := 9) (N := some 78) (v := ?_) (a' := ?_) chaselaw1_ShinglesLike.D10 rfl rfl (any_of HT_.out (by kernel_rfl)) (fun _ _ _ h => h) (Or.inl ⟨by rfl, ?_⟩) ?_ ?_
     rotate_left
     ·intro w'
      go_simp
      with_reducible rfl
     rotate_left
     ·simp only [Act.put, List.setIfInBounds_toArray, List.set_cons_zero, List.set_cons_succ, i64_w, i32_w]
      rfl
     refine pure_ (i := 10) (N := some 79) (v := ?_) (a' := ?_) chaselaw1_ShinglesLike.D11 rfl rfl (any_of HT_.out (by kernel_rfl)) (fun _ _ _ h => h) (Or.inl ⟨by rfl, ?_⟩) ?_ ?_
     rotate_left
     ·intro w'
      go_simp
      with_reducible rfl
     rotate_left
     ·simp only [Act.put, List.setIfInBounds_toArray, List.set_cons_zero, List.set_cons_succ, i64_w, i32_w]
      rfl
     refine pure_ (i := 11) (N := some 80) (v := undef) (a' := ?_) chaselaw1_ShinglesLike.D12 rfl rfl (any_of HT_.out (by kernel_rfl)) (fun _ _ _ h => h) (Or.inr ⟨by rfl, rfl⟩) ?_ ?_
     rotate_left
     ·simp only [Act.put, List.setIfInBounds_toArray, List.set_cons_zero, List.set_cons_succ, i64_w, i32_w]
      rfl
     refine pure_ (i := 12) (N := some 81) (v := undef) (a' := ?_) chaselaw1_ShinglesLike.D13 rfl rfl (any_of HT_.out (by kernel_rfl)) (fun _ _ _ h => h) (Or.inr ⟨by rfl, rfl⟩) ?_ ?_
     rotate_left
     ·simp only [Act.put, List.setIfInBounds_toArray, List.set_cons_zero, List.set_cons_succ, i64_w, i32_w]
      rfl
     refine pure_ (i := 13) (N := some 82) (v := undef) (a' := ?_) chaselaw1_ShinglesLike.D14 rfl rfl (any_of HT_.out (by kernel_rfl)) (fun _ _ _ h => h) (Or.inr ⟨by rfl, rfl⟩) ?_ ?_
     rotate_left
     ·simp only [Act.put, List.setIfInBounds_toArray, List.set_cons_zero, List.set_cons_succ, i64_w, i32_w]
      rfl
     refine pure_ (i := 14) (N := some 83) (v := undef) (a' := ?_) chaselaw1_ShinglesLike.D15 rfl rfl (any_of HT_.out (by kernel_rfl)) (fun _ _ _ h => h) (Or.inr ⟨by rfl, rfl⟩) ?_ ?_
     rotate_left
     ·simp only [Act.put, List.setIfInBounds_toArray, List.set_cons_zero, List.set_cons_succ, i64_w, i32_w]
      rfl
     refine pure_ (i := 15) (N := some 84) (v := undef) (a' := ?_) chaselaw1_ShinglesLike.D16 rfl rfl (any_of HT_.out (by kernel_rfl)) (fun _ _ _ h => h) (Or.inr ⟨by rfl, rfl⟩) ?_ ?_
     rotate_left
     ·simp only [Act.put, List.setIfInBounds_toArray, List.set_cons_zero, List.set_cons_succ, i64_w, i32_w]
      rfl
     refine pure_ (i := 16) (N := some 85) (v := undef) (a' := ?_) chaselaw1_ShinglesLike.D17 rfl rfl (any_of HT_.out (by kernel_rfl)) (fun _ _ _ h => h) (Or.inr ⟨by rfl, rfl⟩) ?_ ?_
     rotate_left
     ·simp only [Act.put, List.setIfInBounds_toArray, List.set_cons_zero, List.set_cons_succ, i64_w, i32_w]
      rfl
     refine pure_ (i := 17) (N := some 86) (v := ?_) (a' := ?_) chaselaw1_ShinglesLike.D18 rfl rfl (any_of HT_.out (by kernel_rfl)) (fun _ _ _ h => h) (Or.inl ⟨by rfl, ?_⟩) ?_ ?_
     rotate_left
     ·intro w'
      go_simp
      with_reducible rfl
     rotate_left
     ·simp only [Act.put, List.setIfInBounds_toArray, List.set_cons_zero, List.set_cons_succ, i64_w, i32_w]
      rfl
     refine pure_ (i := 18) (N := some 87) (v := ?_) (a' := ?_) chaselaw1_ShinglesLike.D19 rfl rfl (any_of HT_.out (by kernel_rfl)) (fun _ _ _ h => h) (Or.inl ⟨by rfl, ?_⟩) ?_ ?_
     rotate_left
     ·intro w'
      go_simp
      with_reducible rfl
     rotate_left
     ·simp only [Act.put, List.setIfInBounds_toArray, List.set_cons_zero, List.set_cons_succ, i64_w, i32_w]
      rfl
     refine pure_ (i := 19) (N := some 88) (v := undef) (a' := ?_) chaselaw1_ShinglesLike.D23 rfl rfl (any_of HT_.out (by kernel_rfl)) (fun _ _ _ h => h) (Or.inr ⟨by rfl, rfl⟩) ?_ ?_
     rotate_left
     ·simp only [Act.put, List.setIfInBounds_toArray, List.set_cons_zero, List.set_cons_succ, i64_w, i32_w]
      rfl
     refine pure_ (i := 20) (N := some 89) (v := undef) (a' := ?_) chaselaw1_ShinglesLike.D24 rfl rfl (any_of HT_.out (by kernel_rfl)) (fun _ _ _ h => h) (Or.inr ⟨by rfl, rfl⟩) ?_ ?_
     rotate_left
     ·simp only [Act.put, List.setIfInBounds_toArray, List.set_cons_zero, List.set_cons_succ, i64_w, i32_w]
      rfl
     refine pure_ (i := 21) (N := some 90) (v := undef) (a' := ?_) chaselaw1_ShinglesLike.D25 rfl rfl (any_of HT_.out (by kernel_rfl)) (fun _ _ _ h => h) (Or.inr ⟨by rfl, rfl⟩) ?_ ?_
     rotate_left
     ·simp only [Act.put, List.setIfInBounds_toArray, List.set_cons_zero, List.set_cons_succ, i64_w, i32_w]
      rfl
     refine pure_ (i := 22) (N := some 91) (v := undef) (a' := ?_) chaselaw1_ShinglesLike.D26 rfl rfl (any_of HT_.out (by kernel_rfl)) (fun _ _ _ h => h) (Or.inr ⟨by rfl, rfl⟩) ?_ ?_
     rotate_left
     ·simp only [Act.put, List.setIfInBounds_toArray, List.set_cons_zero, List.set_cons_succ, i64_w, i32_w]
      rfl
     refine pure_ (i := 23) (N := some 92) (v := undef) (a' := ?_) chaselaw1_ShinglesLike.D27 rfl rfl (any_of HT_.out (by kernel_rfl)) (fun _ _ _ h => h) (Or.inr ⟨by rfl, rfl⟩) ?_ ?_
     rotate_left
     ·simp only [Act.put, List.setIfInBounds_toArray, List.set_cons_zero, List.set_cons_succ, i64_w, i32_w]
      rfl
     refine pure_ (i := 24) (N := some 93) (v := undef) (a' := ?_) chaselaw1_ShinglesLike.D28 rfl rfl (any_of HT_.out (by kernel_rfl)) (fun _ _ _ h => h) (Or.inr ⟨by rfl, rfl⟩) ?_ ?_
     rotate_left
     ·simp only [Act.put, List.setIfInBounds_toArray, List.set_cons_zero, List.set_cons_succ, i64_w, i32_w]
      rfl
     refine pure_ (i := 25) (N := some 94) (v := ?_) (a' := ?_) chaselaw1_ShinglesLike.D29 rfl rfl (any_of HT_.out (by kernel_rfl)) (fun _ _ _ h => h) (Or.inl ⟨by rfl, ?_⟩) ?_ ?_
     rotate_left
     ·intro w'
      go_simp
      with_reducible rfl
     rotate_left
     ·simp only [Act.put, List.setIfInBounds_toArray, List.set_cons_zero, List.set_cons_succ, i64_w, i32_w]
      rfl
     refine pure_ (i := 26) (N := some 95) (v := ?_) (a' := ?_) chaselaw1_ShinglesLike.D30 rfl rfl (any_of HT_.out (by kernel_rfl)) (fun _ _ _ h => h) (Or.inl ⟨by rfl, ?_⟩) ?_ ?_
     rotate_left
     ·intro w'
      go_simp
      with_reducible rfl
     rotate_left
     ·simp only [Act.put, List.setIfInBounds_toArray, List.set_cons_zero, List.set_cons_succ, i64_w, i32_w]
      rfl
     refine pure_ (i := 27) (N := some 96) (v := undef) (a' := ?_) chaselaw1_ShinglesLike.D34 rfl rfl (any_of HT_.out (by kernel_rfl)) (fun _ _ _ h => h) (Or.inr ⟨by rfl, rfl⟩) ?_ ?_
     rotate_left
     ·simp only [Act.put, List.setIfInBounds_toArray, List.set_cons_zero, List.set_cons_succ, i64_w, i32_w]
      rfl
     refine pure_ (i := 28) (N := some 97) (v := undef) (a' := ?_) chaselaw1_ShinglesLike.D35 rfl rfl (any_of HT_.out (by kernel_rfl)) (fun _ _ _ h => h) (Or.inr ⟨by rfl, rfl⟩) ?_ ?_
     rotate_left
     ·simp only [Act.put, List.setIfInBounds_toArray, List.set_cons_zero, List.set_cons_succ, i64_w, i32_w]
      rfl
     refine pure_ (i := 29) (N := some 98) (v := undef) (a' := ?_) chaselaw1_ShinglesLike.D36 rfl rfl (any_of HT_.out (by kernel_rfl)) (fun _ _ _ h => h) (Or.inr ⟨by rfl, rfl⟩) ?_ ?_
     rotate_left
     ·simp only [Act.put, List.setIfInBounds_toArray, List.set_cons_zero, List.set_cons_succ, i64_w, i32_w]
      rfl
     refine pure_ (i := 30) (N := some 99) (v := undef) (a' := ?_) chaselaw1_ShinglesLike.D37 rfl rfl (any_of HT_.out (by kernel_rfl)) (fun _ _ _ h => h) (Or.inr ⟨by rfl, rfl⟩) ?_ ?_
     rotate_left
     ·simp only [Act.put, List.setIfInBounds_toArray, List.set_cons_zero, List.set_cons_succ, i64_w, i32_w]
      rfl
     refine pure_ (i := 31) (N := some 100) (v := undef) (a' := ?_) chaselaw1_ShinglesLike.D38 rfl rfl (any_of HT_.out (by kernel_rfl)) (fun _ _ _ h => h) (Or.inr ⟨by rfl, rfl⟩) ?_ ?_
     rotate_left
     ·simp only [Act.put, List.setIfInBounds_toArray, List.set_cons_zero, List.set_cons_succ, i64_w, i32_w]
      rfl
     refine pure_ (i := 32) (N := some 101) (v := undef) (a' := ?_) chaselaw1_ShinglesLike.D39 rfl rfl (any_of HT_.out (by kernel_rfl)) (fun _ _ _ h => h) (Or.inr ⟨by rfl, rfl⟩) ?_ ?_
     rotate_left
     ·simp only [Act.put, List.setIfInBounds_toArray, List.set_cons_zero, List.set_cons_succ, i64_w, i32_w]
      rfl
     refine pure_ (i := 33) (N := some 102) (v := ?_) (a' := ?_) chaselaw1_ShinglesLike.D40 rfl rfl (any_of HT_.out (by kernel_rfl)) (fun _ _ _ h => h) (Or.inl ⟨by rfl, ?_⟩) ?_ ?_
     rotate_left
     ·intro w'
      go_simp
      with_reducible rfl
     rotate_left
     ·simp only [Act.put, List.setIfInBounds_toArray, List.set_cons_zero, List.set_cons_succ, i64_w, i32_w]
      rfl
     refine done_ (done_of HT_.out (by kernel_rfl)) ?_
     try go_wp2
     go_meet
     case rel => exact ⟨_, (true), (by first | rfl | (simp; done) | (simp [*]; done)), H', ⟨by first | omega | exact Nat.le_refl _⟩, ⟨by (with_reducible repeat (first | refine blk_drewN ?_ _ | refine blk_drew ?_ | refine blk_alloc ?_ _)); exact BK348.out⟩, ⟨by (with_reducible repeat (first | refine blk_drewN ?_ _ | refine blk_drew ?_ | refine blk_alloc ?_ _)); exact BK352.out⟩, ⟨by repeat (first | (with_reducible first | exact HI334.out | apply IsS25.alloc | apply IsS25.drewN | apply IsS25.drew | apply IsS25.set_1 | refine IsS25.far ?_ NB334_348.out _ | refine IsS25.far ?_ NB334_352.out _) | exact HI334.out)⟩, ⟨by repeat (first | (with_reducible first | exact HB.out | apply below_alloc | apply pw_below_drewN | apply below_drew1 | refine below_set ?_ (IsS25.ge HI334.out) | refine below_set ?_ GE348.out | refine below_set ?_ GE352.out) | exact HB.out)⟩⟩
   ·rw [if_neg c25] at H
    have c25b0 : (t342 == 0) = false := beq_eq_false_iff_ne.mpr c25
    have c25b1 : (t342 != 0) = true := bne_iff_ne.mpr c25
    (first | rw [c25b0] | (simp only [i64_w, i32_w]; rw [c25b0]) | skip)
    have H' := Aside0.mk H
    clear H
    try go_wp2
    have n0_ : Aside0 (Kd.R Kd.string 9 (World.drewN ((w21.setCell ⟨gb352, 0, none⟩ (.int .i64 t349)).setCell ⟨gb352, 1, none⟩ (.int .i64 t350)) nd) w.heap.size (fun _ => True) v343 t341) := ⟨by (with_reducible repeat (first | apply Kd.R_alloc | apply Kd.R_drewN | apply Kd.R_drew)); exact Kd.R_mono (Kd.R_far (p := ⟨gb352, 1, none⟩) (Kd.R_far (p := ⟨gb352, 0, none⟩) (Kd.R_types HO344.out BK352.out (by decide)) (fun _ hk => hk.2) (.int .i64 t349)) (fun _ hk => hk.2) (.int .i64 t350)) (fun _ hk => trivial)⟩
    have n1_ : Aside0 ((World.drewN ((w21.setCell ⟨gb352, 0, none⟩ (.int .i64 t349)).setCell ⟨gb352, 1, none⟩ (.int .i64 t350)) nd).heap[gb348]? = some (.cells #[.int .i64 t345, .int .i64 t346] 35 (0, 0))) := ⟨by (with_reducible repeat (first | refine blk_drewN ?_ _ | refine blk_drew ?_ | refine blk_alloc ?_ _)); refine blk_far ?_ NB348_352.out _; (with_reducible repeat (first | refine blk_drewN ?_ _ | refine blk_drew ?_ | refine blk_alloc ?_ _)); refine blk_far ?_ NB348_352.out _; (with_reducible repeat (first | refine blk_drewN ?_ _ | refine blk_drew ?_ | refine blk_alloc ?_ _)); exact BK348.out⟩
    have n2_ : Aside0 ((World.drewN ((w21.setCell ⟨gb352, 0, none⟩ (.int .i64 t349)).setCell ⟨gb352, 1, none⟩ (.int .i64 t350)) nd).heap[gb352]? = some (.cells #[.int .i64 t349, .int .i64 t350] 35 (0, 0))) := ⟨by (with_reducible repeat (first | refine blk_drewN ?_ _ | refine blk_drew ?_ | refine blk_alloc ?_ _)); refine blk_put (cs := #[.int .i64 t349, .int .i64 0]) ?_ 1 _ rfl; (with_reducible repeat (first | refine blk_drewN ?_ _ | refine blk_drew ?_ | refine blk_alloc ?_ _)); refine blk_put (cs := #[.int .i64 0, .int .i64 0]) ?_ 0 _ rfl; (with_reducible repeat (first | refine blk_drewN ?_ _ | refine blk_drew ?_ | refine blk_alloc ?_ _)); exact BK352.out⟩
    have n3_ : Aside0 (IsS25 w (World.drewN ((w21.setCell ⟨gb352, 0, none⟩ (.int .i64 t349)).setCell ⟨gb352, 1, none⟩ (.int .i64 t350)) nd) gb334 l0 t340) := ⟨by repeat (first | (with_reducible first | exact HI334.out | apply IsS25.alloc | apply IsS25.drewN | apply IsS25.drew | apply IsS25.set_1 | refine IsS25.far ?_ NB334_348.out _ | refine IsS25.far ?_ NB334_352.out _) | exact HI334.out)⟩
    have n4_ : Aside0 (Below w.heap.size w (World.drewN ((w21.setCell ⟨gb352, 0, none⟩ (.int .i64 t349)).setCell ⟨gb352, 1, none⟩ (.int .i64 t350)) nd)) := ⟨by repeat (first | (with_reducible first | exact HB.out | apply below_alloc | apply pw_below_drewN | apply below_drew1 | refine below_set ?_ (IsS25.ge HI334.out) | refine below_set ?_ GE348.out | refine below_set ?_ GE352.out) | exact HB.out)⟩
    (try clear HO344)
    (try clear BK348)
    (try clear BK352)
    (try clear HI334)
    (try clear HB)
    generalize (World.drewN ((w21.setCell ⟨gb352, 0, none⟩ (.int .i64 t349)).setCell ⟨gb352, 1, none⟩ (.int .i64 t350)) nd) = w56 at n0_ n1_ n2_ n3_ n4_ ⊢
    have HO344 := n0_
    have BK348 := n1_
    have BK352 := n2_
    have HI334 := n3_
    have HB := n4_
    clear n0_ n1_ n2_ n3_ n4_
    have n0_ := Aside0.mk (Kd.R_drew HO344.out)
    have n1_ := Aside0.mk (blk_drew BK348.out)
    have n2_ := Aside0.mk (blk_drew BK352.out)
    have n3_ := Aside0.mk (IsS25.drew HI334.out)
    have n4_ := Aside0.mk (below_drew1 HB.out)
    clear HO344
    clear BK348
    clear BK352
    clear HI334
    clear HB
    have HO344 := n0_
    have BK348 := n1_
    have BK352 := n2_
    have HI334 := n3_
    have HB := n4_
    clear n0_ n1_ n2_ n3_ n4_
    refine start_ (n := 34) (S := fun w' => True) (ds := []) chaselaw1_ShinglesLike.D0 (by kernel_rfl) rfl rfl trivial (fun hHeld => ?_); refine with_tabW chaselaw1_ShinglesLike.tab10 chaselaw1_ShinglesLike.bits10 (fun HT_ HW_ => ?_)
    generalize w56.drew = w57 at HO344 BK348 BK352 HI334 HB hHeld ⊢
    refine pure_ (i := 0) (N := some 69) (v := ?_) (a' := ?_) chaselaw1_ShinglesLike.D1 rfl rfl (any_of HT_.out (by kernel_rfl)) (fun _ _ _ h => h) (Or.inl ⟨by rfl, ?_⟩) ?_ ?_
    rotate_left
    ·intro w'
     go_simp
     with_reducible rfl
    rotate_left
    ·simp only [Act.put, List.setIfInBounds_toArray, List.set_cons_zero, List.set_cons_succ, i64_w, i32_w]
     rfl
    refine pure_ (i := 1) (N := some 70) (v := ?_) (a' := ?_) chaselaw1_ShinglesLike.D2 rfl rfl (any_of HT_.out (by kernel_rfl)) (fun _ _ _ h => h) (Or.inl ⟨by rfl, ?_⟩) ?_ ?_
    rotate_left
    ·intro w'
     go_simp
     with_reducible rfl
    rotate_left
    ·simp only [Act.put, List.setIfInBounds_toArray, List.set_cons_zero, List.set_cons_succ, i64_w, i32_w]
     rfl
    refine pure_ (i := 2) (N := some 71) (v := ?_) (a' := ?_) chaselaw1_ShinglesLike.D3 rfl rfl (any_of HT_.out (by kernel_rfl)) (fun _ _ _ h => h) (Or.inl ⟨by rfl, ?_⟩) ?_ ?_
    rotate_left
    ·intro w'
     go_simp
     with_reducible rfl
    rotate_left
    ·simp only [Act.put, List.setIfInBounds_toArray, List.set_cons_zero, List.set_cons_succ, i64_w, i32_w]
     rfl
    refine pure_ (i := 3) (N := some 72) (v := undef) (a' := ?_) chaselaw1_ShinglesLike.D4 rfl rfl (any_of HT_.out (by kernel_rfl)) (fun _ _ _ h => h) (Or.inr ⟨by rfl, rfl⟩) ?_ ?_
    rotate_left
    ·simp only [Act.put, List.setIfInBounds_toArray, List.set_cons_zero, List.set_cons_succ, i64_w, i32_w]
     rfl
    refine pure_ (i := 4) (N := some 73) (v := undef) (a' := ?_) chaselaw1_ShinglesLike.D5 rfl rfl (any_of HT_.out (by kernel_rfl)) (fun _ _ _ h => h) (Or.inr ⟨by rfl, rfl⟩) ?_ ?_
    rotate_left
    ·simp only [Act.put, List.setIfInBounds_toArray, List.set_cons_zero, List.set_cons_succ, i64_w, i32_w]
     rfl
    refine pure_ (i := 5) (N := some 74) (v := ?_) (a' := ?_) chaselaw1_ShinglesLike.D6 rfl rfl (any_of HT_.out (by kernel_rfl)) (fun _ _ _ h => h) (Or.inl ⟨by rfl, ?_⟩) ?_ ?_
    rotate_left
    ·intro w'
     go_simp
     with_reducible rfl
    rotate_left
    ·simp only [Act.put, List.setIfInBounds_toArray, List.set_cons_zero, List.set_cons_succ, i64_w, i32_w]
     rfl
    refine pure_ (i := 6) (N := some 75) (v := ?_) (a' := ?_) chaselaw1_ShinglesLike.D7 rfl rfl (any_of HT_.out (by kernel_rfl)) (fun _ _ _ h => h) (Or.inl ⟨by rfl, ?_⟩) ?_ ?_
    rotate_left
    ·intro w'
     go_simp
     with_reducible rfl
    rotate_left
    ·simp only [Act.put, List.setIfInBounds_toArray, List.set_cons_zero, List.set_cons_succ, i64_w, i32_w]
     rfl
    refine pure_ (i := 7) (N := some 76) (v := undef) (a' := ?_) chaselaw1_ShinglesLike.D8 rfl rfl (any_of HT_.out (by kernel_rfl)) (fun _ _ _ h => h) (Or.inr ⟨by rfl, rfl⟩) ?_ ?_
    rotate_left
    ·simp only [Act.put, List.setIfInBounds_toArray, List.set_cons_zero, List.set_cons_succ, i64_w, i32_w]
     rfl
    refine pure_ (i := 8) (N := some 77) (v := undef) (a' := ?_) chaselaw1_ShinglesLike.D9 rfl rfl (any_of HT_.out (by kernel_rfl)) (fun _ _ _ h => h) (Or.inr ⟨by rfl, rfl⟩) ?_ ?_
    rotate_left
    ·simp only [Act.put, List.setIfInBounds_toArray, List.set_cons_zero, List.set_cons_succ, i64_w, i32_w]
     rfl
    refine pure_ (i := 9) (N := some 78) (v := ?_) (a' := ?_) chaselaw1_ShinglesLike.D10 rfl rfl (any_of HT_.out (by kernel_rfl)) (fun _ _ _ h => h) (Or.inl ⟨by rfl, ?_⟩) ?_ ?_
    rotate_left
    ·intro w'
     go_simp
     with_reducible rfl
    rotate_left
    ·simp only [Act.put, List.setIfInBounds_toArray, List.set_cons_zero, List.set_cons_succ, i64_w, i32_w]
     rfl
    refine pure_ (i := 10) (N := some 79) (v := ?_) (a' := ?_) chaselaw1_ShinglesLike.D11 rfl rfl (any_of HT_.out (by kernel_rfl)) (fun _ _ _ h => h) (Or.inl ⟨by rfl, ?_⟩) ?_ ?_
    rotate_left
    ·intro w'
     go_simp
     with_reducible rfl
    rotate_left
    ·simp only [Act.put, List.setIfInBounds_toArray, List.set_cons_zero, List.set_cons_succ, i64_w, i32_w]
     rfl
    refine pure_ (i := 11) (N := some 80) (v := undef) (a' := ?_) chaselaw1_ShinglesLike.D12 rfl rfl (any_of HT_.out (by kernel_rfl)) (fun _ _ _ h => h) (Or.inr ⟨by rfl, rfl⟩) ?_ ?_
    rotate_left
    ·simp only [Act.put, List.setIfInBounds_toArray, List.set_cons_zero, List.set_cons_succ, i64_w, i32_w]
     rfl
    refine pure_ (i := 12) (N := some 81) (v := undef) (a' := ?_) chaselaw1_ShinglesLike.D13 rfl rfl (any_of HT_.out (by kernel_rfl)) (fun _ _ _ h => h) (Or.inr ⟨by rfl, rfl⟩) ?_ ?_
    rotate_left
    ·simp only [Act.put, List.setIfInBounds_toArray, List.set_cons_zero, List.set_cons_succ, i64_w, i32_w]
     rfl
    refine pure_ (i := 13) (N := some 82) (v := undef) (a' := ?_) chaselaw1_ShinglesLike.D14 rfl rfl (any_of HT_.out (by kernel_rfl)) (fun _ _ _ h => h) (Or.inr ⟨by rfl, rfl⟩) ?_ ?_
    rotate_left
    ·simp only [Act.put, List.setIfInBounds_toArray, List.set_cons_zero, List.set_cons_succ, i64_w, i32_w]
     rfl
    refine pure_ (i := 14) (N := some 83) (v := undef) (a' := ?_) chaselaw1_ShinglesLike.D15 rfl rfl (any_of HT_.out (by kernel_rfl)) (fun _ _ _ h => h) (Or.inr ⟨by rfl, rfl⟩) ?_ ?_
    rotate_left
    ·simp only [Act.put, List.setIfInBounds_toArray, List.set_cons_zero, List.set_cons_succ, i64_w, i32_w]
     rfl
    refine pure_ (i := 15) (N := some 84) (v := undef) (a' := ?_) chaselaw1_ShinglesLike.D16 rfl rfl (any_of HT_.out (by kernel_rfl)) (fun _ _ _ h => h) (Or.inr ⟨by rfl, rfl⟩) ?_ ?_
    rotate_left
    ·simp only [Act.put, List.setIfInBounds_toArray, List.set_cons_zero, List.set_cons_succ, i64_w, i32_w]
     rfl
    refine pure_ (i := 16) (N := some 85) (v := undef) (a' := ?_) chaselaw1_ShinglesLike.D17 rfl rfl (any_of HT_.out (by kernel_rfl)) (fun _ _ _ h => h) (Or.inr ⟨by rfl, rfl⟩) ?_ ?_
    rotate_left
    ·simp only [Act.put, List.setIfInBounds_toArray, List.set_cons_zero, List.set_cons_succ, i64_w, i32_w]
     rfl
    refine pure_ (i := 17) (N := some 86) (v := ?_) (a' := ?_) chaselaw1_ShinglesLike.D18 rfl rfl (any_of HT_.out (by kernel_rfl)) (fun _ _ _ h => h) (Or.inl ⟨by rfl, ?_⟩) ?_ ?_
    rotate_left
    ·intro w'
     go_simp
     with_reducible rfl
    rotate_left
    ·simp only [Act.put, List.setIfInBounds_toArray, List.set_cons_zero, List.set_cons_succ, i64_w, i32_w]
     rfl
    refine pure_ (i := 18) (N := some 87) (v := ?_) (a' := ?_) chaselaw1_ShinglesLike.D19 rfl rfl (any_of HT_.out (by kernel_rfl)) (fun _ _ _ h => h) (Or.inl ⟨by rfl, ?_⟩) ?_ ?_
    rotate_left
    ·intro w'
     go_simp
     with_reducible rfl
    rotate_left
    ·simp only [Act.put, List.setIfInBounds_toArray, List.set_cons_zero, List.set_cons_succ, i64_w, i32_w]
     rfl
    refine pure_ (i := 19) (N := some 88) (v := undef) (a' := ?_) chaselaw1_ShinglesLike.D23 rfl rfl (any_of HT_.out (by kernel_rfl)) (fun _ _ _ h => h) (Or.inr ⟨by rfl, rfl⟩) ?_ ?_
    rotate_left
    ·simp only [Act.put, List.setIfInBounds_toArray, List.set_cons_zero, List.set_cons_succ, i64_w, i32_w]
     rfl
    refine pure_ (i := 20) (N := some 89) (v := undef) (a' := ?_) chaselaw1_ShinglesLike.D24 rfl rfl (any_of HT_.out (by kernel_rfl)) (fun _ _ _ h => h) (Or.inr ⟨by rfl, rfl⟩) ?_ ?_
    rotate_left
    ·simp only [Act.put, List.setIfInBounds_toArray, List.set_cons_zero, List.set_cons_succ, i64_w, i32_w]
     rfl
    refine pure_ (i := 21) (N := some 90) (v := undef) (a' := ?_) chaselaw1_ShinglesLike.D25 rfl rfl (any_of HT_.out (by kernel_rfl)) (fun _ _ _ h => h) (Or.inr ⟨by rfl, rfl⟩) ?_ ?_
    rotate_left
    ·simp only [Act.put, List.setIfInBounds_toArray, List.set_cons_zero, List.set_cons_succ, i64_w, i32_w]
     rfl
    refine pure_ (i := 22) (N := some 91) (v := undef) (a' := ?_) chaselaw1_ShinglesLike.D26 rfl rfl (any_of HT_.out (by kernel_rfl)) (fun _ _ _ h => h) (Or.inr ⟨by rfl, rfl⟩) ?_ ?_
    rotate_left
    ·simp only [Act.put, List.setIfInBounds_toArray, List.set_cons_zero, List.set_cons_succ, i64_w, i32_w]
     rfl
    refine pure_ (i := 23) (N := some 92) (v := undef) (a' := ?_) chaselaw1_ShinglesLike.D27 rfl rfl (any_of HT_.out (by kernel_rfl)) (fun _ _ _ h => h) (Or.inr ⟨by rfl, rfl⟩) ?_ ?_
    rotate_left
    ·simp only [Act.put, List.setIfInBounds_toArray, List.set_cons_zero, List.set_cons_succ, i64_w, i32_w]
     rfl
    refine pure_ (i := 24) (N := some 93) (v := undef) (a' := ?_) chaselaw1_ShinglesLike.D28 rfl rfl (any_of HT_.out (by kernel_rfl)) (fun _ _ _ h => h) (Or.inr ⟨by rfl, rfl⟩) ?_ ?_
    rotate_left
    ·simp only [Act.put, List.setIfInBounds_toArray, List.set_cons_zero, List.set_cons_succ, i64_w, i32_w]
     rfl
    refine pure_ (i := 25) (N := some 94) (v := ?_) (a' := ?_) chaselaw1_ShinglesLike.D29 rfl rfl (any_of HT_.out (by kernel_rfl)) (fun _ _ _ h => h) (Or.inl ⟨by rfl, ?_⟩) ?_ ?_
    rotate_left
    ·intro w'
     go_simp
     with_reducible rfl
    rotate_left
    ·simp only [Act.put, List.setIfInBounds_toArray, List.set_cons_zero, List.set_cons_succ, i64_w, i32_w]
     rfl
    refine pure_ (i := 26) (N := some 95) (v := ?_) (a' := ?_) chaselaw1_ShinglesLike.D30 rfl rfl (any_of HT_.out (by kernel_rfl)) (fun _ _ _ h => h) (Or.inl ⟨by rfl, ?_⟩) ?_ ?_
    rotate_left
    ·intro w'
     go_simp
     with_reducible rfl
    rotate_left
    ·simp only [Act.put, List.setIfInBounds_toArray, List.set_cons_zero, List.set_cons_succ, i64_w, i32_w]
     rfl
    refine pure_ (i := 27) (N := some 96) (v := undef) (a' := ?_) chaselaw1_ShinglesLike.D34 rfl rfl (any_of HT_.out (by kernel_rfl)) (fun _ _ _ h => h) (Or.inr ⟨by rfl, rfl⟩) ?_ ?_
    rotate_left
    ·simp only [Act.put, List.setIfInBounds_toArray, List.set_cons_zero, List.set_cons_succ, i64_w, i32_w]
     rfl
    refine pure_ (i := 28) (N := some 97) (v := undef) (a' := ?_) chaselaw1_ShinglesLike.D35 rfl rfl (any_of HT_.out (by kernel_rfl)) (fun _ _ _ h => h) (Or.inr ⟨by rfl, rfl⟩) ?_ ?_
    rotate_left
    ·simp only [Act.put, List.setIfInBounds_toArray, List.set_cons_zero, List.set_cons_succ, i64_w, i32_w]
     rfl
    refine pure_ (i := 29) (N := some 98) (v := undef) (a' := ?_) chaselaw1_ShinglesLike.D36 rfl rfl (any_of HT_.out (by kernel_rfl)) (fun _ _ _ h => h) (Or.inr ⟨by rfl, rfl⟩) ?_ ?_
    rotate_left
    ·simp only [Act.put, List.setIfInBounds_toArray, List.set_cons_zero, List.set_cons_succ, i64_w, i32_w]
     rfl
    refine pure_ (i := 30) (N := some 99) (v := undef) (a' := ?_) chaselaw1_ShinglesLike.D37 rfl rfl (any_of HT_.out (by kernel_rfl)) (fun _ _ _ h => h) (Or.inr ⟨by rfl, rfl⟩) ?_ ?_
    rotate_left
    ·simp only [Act.put, List.setIfInBounds_toArray, List.set_cons_zero, List.set_cons_succ, i64_w, i32_w]
     rfl
    refine pure_ (i := 31) (N := some 100) (v := undef) (a' := ?_) chaselaw1_ShinglesLike.D38 rfl rfl (any_of HT_.out (by kernel_rfl)) (fun _ _ _ h => h) (Or.inr ⟨by rfl, rfl⟩) ?_ ?_
    rotate_left
    ·simp only [Act.put, List.setIfInBounds_toArray, List.set_cons_zero, List.set_cons_succ, i64_w, i32_w]
     rfl
    refine pure_ (i := 32) (N := some 101) (v := undef) (a' := ?_) chaselaw1_ShinglesLike.D39 rfl rfl (any_of HT_.out (by kernel_rfl)) (fun _ _ _ h => h) (Or.inr ⟨by rfl, rfl⟩) ?_ ?_
    rotate_left
    ·simp only [Act.put, List.setIfInBounds_toArray, List.set_cons_zero, List.set_cons_succ, i64_w, i32_w]
     rfl
    refine pure_ (i := 33) (N := some 102) (v := ?_) (a' := ?_) chaselaw1_ShinglesLike.D40 rfl rfl (any_of HT_.out (by kernel_rfl)) (fun _ _ _ h => h) (Or.inl ⟨by rfl, ?_⟩) ?_ ?_
    rotate_left
    ·intro w'
     go_simp
     with_reducible rfl
    rotate_left
    ·simp only [Act.put, List.setIfInBounds_toArray, List.set_cons_zero, List.set_cons_succ, i64_w, i32_w]
     rfl
    refine done_ (done_of HT_.out (by kernel_rfl)) ?_
    try go_wp2
    go_meet
    case rel => exact ⟨_, (true), (by first | rfl | (simp; done) | (simp [*]; done)), H', ⟨by first | omega | exact Nat.le_refl _⟩, ⟨by (with_reducible repeat (first | refine blk_drewN ?_ _ | refine blk_drew ?_ | refine blk_alloc ?_ _)); exact BK348.out⟩, ⟨by (with_reducible repeat (first | refine blk_drewN ?_ _ | refine blk_drew ?_ | refine blk_alloc ?_ _)); exact BK352.out⟩, ⟨by repeat (first | (with_reducible first | exact HI334.out | apply IsS25.alloc | apply IsS25.drewN | apply IsS25.drew | apply IsS25.set_1 | refine IsS25.far ?_ NB334_348.out _ | refine IsS25.far ?_ NB334_352.out _) | exact HI334.out)⟩, ⟨by repeat (first | (with_reducible first | exact HB.out | apply below_alloc | apply pw_below_drewN | apply below_drew1 | refine below_set ?_ (IsS25.ge HI334.out) | refine below_set ?_ GE348.out | refine below_set ?_ GE352.out) | exact HB.out)⟩⟩
  case rest =>
   clear HC10
   try clear c2
   try clear p2
   try clear c25
   try clear c25b0
   try clear c25b1
   try clear c26
   try clear c26b0
   try clear c26b1
   obtain ⟨kq, x102_9, rfl, HA, HJ9, BK348, BK352, HI334, HB⟩ := hcut
   cases kq with
   | zero => exact absurd HA.out (by simp [chaselaw1_ShinglesLike.j1])
   | succ kj9 =>
    have H := HA.out
    clear HA
    simp only [chaselaw1_ShinglesLike.j1] at H
    by_cases c58 : x102_9 = true
    ·subst c58
     have H1 : (some false) = some r := by rw [if_pos rfl] at H; exact H
     clear H
     have H := H1
     clear H1
     obtain rfl := Option.some.inj H
     go_wp2
     go_ret
     exact ⟨by first | rfl | (simp [errW_none, errW_some] <;> rfl) | (simp [*, errW_none, errW_some] <;> rfl), by repeat (first | (with_reducible first | exact HB.out | apply below_alloc | apply pw_below_drewN | apply below_drew1 | refine below_set ?_ (IsS25.ge HI334.out) | refine below_set ?_ GE348.out | refine below_set ?_ GE352.out) | exact HB.out)⟩
    ·replace c58 := Bool.eq_false_iff.mpr c58
     subst c58
     have H1 : ((chasemake_Stream_Next.f l0 t340 9).bind fun bt363 => ((chasemake_Stream_Range.f l0 bt363.2 0 8).bind fun bt365 => ((chasemake_Stream_Pick.f l0 bt365.2 (([0, 1, 1000000, 1000001, (-1)] : List Int))).bind fun bt370 => ((chasemake_Stream_Pick.f l0 bt370.2 (([1, 7, 999999, 1000000, 1000001] : List Int))).bind fun bt375 => ((near_Compare.f kj9 bt363.1 bt365.1 bt370.1 bt375.1).bind fun bt379 => ((chaseref1_FractionRight.f kj9 bt363.1 bt365.1).bind fun t381 => (if t381 = true then ((chaseref1_FractionRight.f kj9 bt370.1 bt375.1).bind fun t382 => (chaselaw1_ShinglesLike.j2 kj9 bt379.1 bt379.2 (!t382) bt363.1 bt365.1 bt370.1 bt375.1)) else (chaselaw1_ShinglesLike.j2 kj9 bt379.1 bt379.2 true bt363.1 bt365.1 bt370.1 bt375.1)))))))) = some r := by rw [if_neg (show ¬ (false = true) by decide)] at H; exact H
     clear H
     have H := H1
     clear H1
     replace H := Option.bind_eq_some_iff.mp H
     obtain ⟨⟨t363, t364⟩, A590, H⟩ := H
     replace H : ((chasemake_Stream_Range.f l0 t364 0 8).bind fun bt365 => ((chasemake_Stream_Pick.f l0 bt365.2 (([0, 1, 1000000, 1000001, (-1)] : List Int))).bind fun bt370 => ((chasemake_Stream_Pick.f l0 bt370.2 (([1, 7, 999999, 1000000, 1000001] : List Int))).bind fun bt375 => ((near_Compare.f kj9 t363 bt365.1 bt370.1 bt375.1).bind fun bt379 => ((chaseref1_FractionRight.f kj9 t363 bt365.1).bind fun t381 => (if t381 = true then ((chaseref1_FractionRight.f kj9 bt370.1 bt375.1).bind fun t382 => (chaselaw1_ShinglesLike.j2 kj9 bt379.1 bt379.2 (!t382) t363 bt365.1 bt370.1 bt375.1)) else (chaselaw1_ShinglesLike.j2 kj9 bt379.1 bt379.2 true t363 bt365.1 bt370.1 bt375.1))))))) = some r := H
     have A59 := Aside0.mk A590
     clear A590
     replace H := Option.bind_eq_some_iff.mp H
     obtain ⟨⟨t365, t366⟩, A600, H⟩ := H
     replace H : ((chasemake_Stream_Pick.f l0 t366 (([0, 1, 1000000, 1000001, (-1)] : List Int))).bind fun bt370 => ((chasemake_Stream_Pick.f l0 bt370.2 (([1, 7, 999999, 1000000, 1000001] : List Int))).bind fun bt375 => ((near_Compare.f kj9 t363 t365 bt370.1 bt375.1).bind fun bt379 => ((chaseref1_FractionRight.f kj9 t363 t365).bind fun t381 => (if t381 = true then ((chaseref1_FractionRight.f kj9 bt370.1 bt375.1).bind fun t382 => (chaselaw1_ShinglesLike.j2 kj9 bt379.1 bt379.2 (!t382) t363 t365 bt370.1 bt375.1)) else (chaselaw1_ShinglesLike.j2 kj9 bt379.1 bt379.2 true t363 t365 bt370.1 bt375.1)))))) = some r := H
     have A60 := Aside0.mk A600
     clear A600
     obtain ⟨y367, hy367⟩ : ∃ y_ : List Int, y_ = (([0, 1, 1000000, 1000001, (-1)] : List Int)) := ⟨_, rfl⟩
     replace H : ((chasemake_Stream_Pick.f l0 t366 y367).bind fun bt370 => ((chasemake_Stream_Pick.f l0 bt370.2 (([1, 7, 999999, 1000000, 1000001] : List Int))).bind fun bt375 => ((near_Compare.f kj9 t363 t365 bt370.1 bt375.1).bind fun bt379 => ((chaseref1_FractionRight.f kj9 t363 t365).bind fun t381 => (if t381 = true then ((chaseref1_FractionRight.f kj9 bt370.1 bt375.1).bind fun t382 => (chaselaw1_ShinglesLike.j2 kj9 bt379.1 bt379.2 (!t382) t363 t365 bt370.1 bt375.1)) else (chaselaw1_ShinglesLike.j2 kj9 bt379.1 bt379.2 true t363 t365 bt370.1 bt375.1)))))) = some r := by first | (rw [hy367]; with_reducible exact H) | (have H2_ := (Option.bind_some _ _).symm.trans H; rw [hy367]; with_reducible exact H2_) | (have H2_ := (Option.bind_some _ _).symm.trans H; with_reducible exact H2_) | with_reducible exact H | (rw [hy367]; exact H) | exact H
     have Ny367 := Aside0.mk hy367
     clear hy367
     replace H := Option.bind_eq_some_iff.mp H
     obtain ⟨⟨t370, t371⟩, A610, H⟩ := H
     replace H : ((chasemake_Stream_Pick.f l0 t371 (([1, 7, 999999, 1000000, 1000001] : List Int))).bind fun bt375 => ((near_Compare.f kj9 t363 t365 t370 bt375.1).bind fun bt379 => ((chaseref1_FractionRight.f kj9 t363 t365).bind fun t381 => (if t381 = true then ((chaseref1_FractionRight.f kj9 t370 bt375.1).bind fun t382 => (chaselaw1_ShinglesLike.j2 kj9 bt379.1 bt379.2 (!t382) t363 t365 t370 bt375.1)) else (chaselaw1_ShinglesLike.j2 kj9 bt379.1 bt379.2 true t363 t365 t370 bt375.1))))) = some r := H
     have A61 := Aside0.mk A610
     clear A610
     obtain ⟨y372, hy372⟩ : ∃ y_ : List Int, y_ = (([1, 7, 999999, 1000000, 1000001] : List Int)) := ⟨_, rfl⟩
     replace H : ((chasemake_Stream_Pick.f l0 t371 y372).bind fun bt375 => ((near_Compare.f kj9 t363 t365 t370 bt375.1).bind fun bt379 => ((chaseref1_FractionRight.f kj9 t363 t365).bind fun t381 => (if t381 = true then ((chaseref1_FractionRight.f kj9 t370 bt375.1).bind fun t382 => (chaselaw1_ShinglesLike.j2 kj9 bt379.1 bt379.2 (!t382) t363 t365 t370 bt375.1)) else (chaselaw1_ShinglesLike.j2 kj9 bt379.1 bt379.2 true t363 t365 t370 bt375.1))))) = some r := by first | (rw [hy372]; with_reducible exact H) | (have H2_ := (Option.bind_some _ _).symm.trans H; rw [hy372]; with_reducible exact H2_) | (have H2_ := (Option.bind_some _ _).symm.trans H; with_reducible exact H2_) | with_reducible exact H | (rw [hy372]; exact H) | exact H
     have Ny372 := Aside0.mk hy372
     clear hy372
     replace H := Option.bind_eq_some_iff.mp H
     obtain ⟨⟨t375, t376⟩, A620, H⟩ := H
     replace H : ((near_Compare.f kj9 t363 t365 t370 t375).bind fun bt379 => ((chaseref1_FractionRight.f kj9 t363 t365).bind fun t381 => (if t381 = true then ((chaseref1_FractionRight.f kj9 t370 t375).bind fun t382 => (chaselaw1_ShinglesLike.j2 kj9 bt379.1 bt379.2 (!t382) t363 t365 t370 t375)) else (chaselaw1_ShinglesLike.j2 kj9 bt379.1 bt379.2 true t363 t365 t370 t375)))) = some r := H
     have A62 := Aside0.mk A620
     clear A620
     replace H := Option.bind_eq_some_iff.mp H
     obtain ⟨⟨t379, t380⟩, A630, H⟩ := H
     replace H : ((chaseref1_FractionRight.f kj9 t363 t365).bind fun t381 => (if t381 = true then ((chaseref1_FractionRight.f kj9 t370 t375).bind fun t382 => (chaselaw1_ShinglesLike.j2 kj9 t379 t380 (!t382) t363 t365 t370 t375)) else (chaselaw1_ShinglesLike.j2 kj9 t379 t380 true t363 t365 t370 t375))) = some r := H
     have A63 := Aside0.mk A630
     clear A630
     have HC64 := Aside0.mk H
     clear H
     go_upto_region 14 with (first | ((with_reducible refine gate_callee (f := 25) rfl ?_); refine goesL_ (some 104) rfl rfl Try.func25 (by kernel_rfl) rfl #[.pointer (some ⟨gb334, 0, none⟩), .int .i64 9] rfl (by (try simp only [List.map_toArray, List.map_cons, List.map_nil]); first | done | rfl | (simp only [List.length_drop, List.length_take]; rfl)) ?_; (with_reducible refine (chasemake_Stream_Next.calls gb334 l0 t340 9 t363 t364 w _ ?side1 ?side2 A59.out).mono ?_); (case side1 => repeat (first | (with_reducible first | exact HI334.out | apply IsS25.alloc | apply IsS25.drewN | apply IsS25.drew | apply IsS25.set_1 | refine IsS25.far ?_ NB334_348.out _ | refine IsS25.far ?_ NB334_352.out _) | exact HI334.out)); (case side2 => repeat (first | (with_reducible first | exact HB.out | apply below_alloc | apply pw_below_drewN | apply below_drew1 | refine below_set ?_ (IsS25.ge HI334.out) | refine below_set ?_ GE348.out | refine below_set ?_ GE352.out) | exact HB.out)); rintro e w65 ⟨rfl, hi, hb, hk⟩; refine ⟨_, rfl, ?_⟩; have n0_ := Aside0.mk (KeepBut.blk hk (g' := gb348) (o := .cells #[.int .i64 t345, .int .i64 t346] 35 (0, 0)) (by (with_reducible repeat (first | refine blk_drewN ?_ _ | refine blk_drew ?_ | refine blk_alloc ?_ _)); exact BK348.out) NB348_334.out (by simp)); have n1_ := Aside0.mk (KeepBut.blk hk (g' := gb352) (o := .cells #[.int .i64 t349, .int .i64 t350] 35 (0, 0)) (by (with_reducible repeat (first | refine blk_drewN ?_ _ | refine blk_drew ?_ | refine blk_alloc ?_ _)); exact BK352.out) NB352_334.out (by simp)); have n2_ := Aside0.mk (hb); have n3_ := Aside0.mk (hi); clear BK348; clear BK352; clear HB; clear HI334; have BK348 := n0_; have BK352 := n1_; have HB := n2_; have HI334 := n3_; clear n0_ n1_ n2_ n3_; (try clear hb); (try clear hb2); (try clear hk); (try clear hi)) | ((with_reducible refine gate_callee (f := 26) rfl ?_); refine goesL_ (some 106) rfl rfl Try.func26 (by kernel_rfl) rfl #[.pointer (some ⟨gb334, 0, none⟩), .int .i64 0, .int .i64 8] rfl (by (try simp only [List.map_toArray, List.map_cons, List.map_nil]); first | done | rfl | (simp only [List.length_drop, List.length_take]; rfl)) ?_; (with_reducible refine (chasemake_Stream_Range.calls gb334 l0 t364 0 8 t365 t366 w _ ?side1 ?side2 A60.out).mono ?_); (case side1 => repeat (first | (with_reducible first | exact HI334.out | apply IsS25.alloc | apply IsS25.drewN | apply IsS25.drew | apply IsS25.set_1 | refine IsS25.far ?_ NB334_348.out _ | refine IsS25.far ?_ NB334_352.out _) | exact HI334.out)); (case side2 => repeat (first | (with_reducible first | exact HB.out | apply below_alloc | apply pw_below_drewN | apply below_drew1 | refine below_set ?_ (IsS25.ge HI334.out) | refine below_set ?_ GE348.out | refine below_set ?_ GE352.out) | exact HB.out)); rintro e w66 ⟨rfl, hi, hb, hk⟩; refine ⟨_, rfl, ?_⟩; have n0_ := Aside0.mk (KeepBut.blk hk (g' := gb348) (o := .cells #[.int .i64 t345, .int .i64 t346] 35 (0, 0)) (by (with_reducible repeat (first | refine blk_drewN ?_ _ | refine blk_drew ?_ | refine blk_alloc ?_ _)); exact BK348.out) NB348_334.out (by simp)); have n1_ := Aside0.mk (KeepBut.blk hk (g' := gb352) (o := .cells #[.int .i64 t349, .int .i64 t350] 35 (0, 0)) (by (with_reducible repeat (first | refine blk_drewN ?_ _ | refine blk_drew ?_ | refine blk_alloc ?_ _)); exact BK352.out) NB352_334.out (by simp)); have n2_ := Aside0.mk (hb); have n3_ := Aside0.mk (hi); clear BK348; clear BK352; clear HB; clear HI334; have BK348 := n0_; have BK352 := n1_; have HB := n2_; have HI334 := n3_; clear n0_ n1_ n2_ n3_; (try clear hb); (try clear hb2); (try clear hk); (try clear hi)) | ((with_reducible refine gate_dst (N := 109) rfl ?_); refine Kd.R_lit (Kd.int .i64) _ 3 ?hg (N := 109) ?hd (xs := ([0, 1, 1000000, 1000001, (-1)] : List Int)) (inner := [.int .i64 0, .int .i64 1, .int .i64 1000000, .int .i64 1000001, .int .i64 (-1)]) (ok := fun _ => True) (okp := fun _ => True) ?hr ?hp (fun _ hk => hk) trivial (Below.refl _ _) (Nat.le_refl _) (by simp) ?_; (case hd => rfl); (case hg => rfl); (case hr => first | (go_simp; done) | (go_simp; rfl)); (case hp => exact (Reps.one (show Kd.M (Kd.int .i64) _ _ _ 0 [.int .i64 0] from rfl) (Reps.one (show Kd.M (Kd.int .i64) _ _ _ 1 [.int .i64 1] from rfl) (Reps.one (show Kd.M (Kd.int .i64) _ _ _ 1000000 [.int .i64 1000000] from rfl) (Reps.one (show Kd.M (Kd.int .i64) _ _ _ 1000001 [.int .i64 1000001] from rfl) (Reps.one (show Kd.M (Kd.int .i64) _ _ _ (-1) [.int .i64 (-1)] from rfl) (Reps.none _ _))))))); intro v368 w67 ho68 hb hg_ hnew_; clear hg_ hnew_; (first | rw [← Ny367.out] at ho68 | (simp only [Int.reduceToNat] at ho68; rw [← Ny367.out] at ho68)); have n0_ := Aside0.mk (Kd.R_lower ho68 (below_size (by repeat (first | (with_reducible first | exact HB.out | apply below_alloc | apply pw_below_drewN | apply below_drew1 | refine below_set ?_ (IsS25.ge HI334.out) | refine below_set ?_ GE348.out | refine below_set ?_ GE352.out) | exact HB.out)))); have n1_ := Aside0.mk (blk_below (g := gb348) (o := .cells #[.int .i64 t345, .int .i64 t346] 35 (0, 0)) (by (with_reducible repeat (first | refine blk_drewN ?_ _ | refine blk_drew ?_ | refine blk_alloc ?_ _)); exact BK348.out) hb); have n2_ := Aside0.mk (blk_below (g := gb352) (o := .cells #[.int .i64 t349, .int .i64 t350] 35 (0, 0)) (by (with_reducible repeat (first | refine blk_drewN ?_ _ | refine blk_drew ?_ | refine blk_alloc ?_ _)); exact BK352.out) hb); have n3_ := Aside0.mk (IsS25.below (by repeat (first | (with_reducible first | exact HI334.out | apply IsS25.alloc | apply IsS25.drewN | apply IsS25.drew | apply IsS25.set_1 | refine IsS25.far ?_ NB334_348.out _ | refine IsS25.far ?_ NB334_352.out _) | exact HI334.out)) hb); have n4_ := Aside0.mk (below_step (by repeat (first | (with_reducible first | exact HB.out | apply below_alloc | apply pw_below_drewN | apply below_drew1 | refine below_set ?_ (IsS25.ge HI334.out) | refine below_set ?_ GE348.out | refine below_set ?_ GE352.out) | exact HB.out)) hb); clear BK348; clear BK352; clear HI334; clear HB; have HO369 := n0_; have BK348 := n1_; have BK352 := n2_; have HI334 := n3_; have HB := n4_; clear n0_ n1_ n2_ n3_ n4_; clear hb ho68; obtain ⟨Ao69, co69, eo69⟩ := Kd.R_slice HO369.out; subst eo69) | ((with_reducible refine gate_callee (f := 8) rfl ?_); refine goesL_ (some 110) rfl rfl Try.func8 (by kernel_rfl) rfl #[.pointer (some ⟨gb334, 0, none⟩), .slice Ao69 y367.length co69] rfl (by (try simp only [List.map_toArray, List.map_cons, List.map_nil]); first | done | rfl | (simp only [List.length_drop, List.length_take]; rfl)) ?_; (with_reducible refine (chasemake_Stream_Pick.calls gb334 l0 t366 _ _ y367 t370 t371 w _ ?side1 ?side2 ?side3 ?side4 ?side5 A61.out).mono ?_); (case side1 => repeat (first | (with_reducible first | exact HI334.out | apply IsS25.alloc | apply IsS25.drewN | apply IsS25.drew | apply IsS25.set_1 | refine IsS25.far ?_ NB334_348.out _ | refine IsS25.far ?_ NB334_352.out _) | exact HI334.out)); (case side2 => repeat (first | (with_reducible first | exact HB.out | apply below_alloc | apply pw_below_drewN | apply below_drew1 | refine below_set ?_ (IsS25.ge HI334.out) | refine below_set ?_ GE348.out | refine below_set ?_ GE352.out) | exact HB.out)); (case side3 => repeat (first | exact (Kd.R_reads' HO369.out).2.2 | (with_reducible refine Kd.C_alloc ?_ _) | (with_reducible refine Kd.C_drewN ?_ _) | (with_reducible refine Kd.C_drew ?_))); (case side4 => exact (Kd.R_reads' HO369.out).2.1); (case side5 => exact far_slice (IsS25.own_ne HI334.out HO369.out (by decide))); rintro e w70 ⟨rfl, hi, hb, hk⟩; refine ⟨_, rfl, ?_⟩; have n0_ := Aside0.mk (KeepBut.blk hk (g' := gb348) (o := .cells #[.int .i64 t345, .int .i64 t346] 35 (0, 0)) (by (with_reducible repeat (first | refine blk_drewN ?_ _ | refine blk_drew ?_ | refine blk_alloc ?_ _)); exact BK348.out) NB348_334.out (by simp)); have n1_ := Aside0.mk (KeepBut.blk hk (g' := gb352) (o := .cells #[.int .i64 t349, .int .i64 t350] 35 (0, 0)) (by (with_reducible repeat (first | refine blk_drewN ?_ _ | refine blk_drew ?_ | refine blk_alloc ?_ _)); exact BK352.out) NB352_334.out (by simp)); have n2_ := Aside0.mk (Kd.R_mono (Kd.R_keep (IsS25.apart (show IsS25 w _ gb334 l0 t366 from by repeat (first | (with_reducible first | exact HI334.out | apply IsS25.alloc | apply IsS25.drewN | apply IsS25.drew | apply IsS25.set_1 | refine IsS25.far ?_ NB334_348.out _ | refine IsS25.far ?_ NB334_352.out _) | exact HI334.out)) (by (with_reducible repeat (first | apply Kd.R_alloc | apply Kd.R_drewN | apply Kd.R_drew)); exact HO369.out) (by decide)) hk (fun _ h => h.2)) (fun _ h => h.1)); have n3_ := Aside0.mk (hb); have n4_ := Aside0.mk (hi); clear BK348; clear BK352; clear HO369; clear HB; clear HI334; have BK348 := n0_; have BK352 := n1_; have HO369 := n2_; have HB := n3_; have HI334 := n4_; clear n0_ n1_ n2_ n3_ n4_; (try clear hb); (try clear hb2); (try clear hk); (try clear hi)) | ((with_reducible refine gate_dst (N := 112) rfl ?_); refine Kd.R_lit (Kd.int .i64) _ 3 ?hg (N := 112) ?hd (xs := ([1, 7, 999999, 1000000, 1000001] : List Int)) (inner := [.int .i64 1, .int .i64 7, .int .i64 999999, .int .i64 1000000, .int .i64 1000001]) (ok := fun _ => True) (okp := fun _ => True) ?hr ?hp (fun _ hk => hk) trivial (Below.refl _ _) (Nat.le_refl _) (by simp) ?_; (case hd => rfl); (case hg => rfl); (case hr => first | (go_simp; done) | (go_simp; rfl)); (case hp => exact (Reps.one (show Kd.M (Kd.int .i64) _ _ _ 1 [.int .i64 1] from rfl) (Reps.one (show Kd.M (Kd.int .i64) _ _ _ 7 [.int .i64 7] from rfl) (Reps.one (show Kd.M (Kd.int .i64) _ _ _ 999999 [.int .i64 999999] from rfl) (Reps.one (show Kd.M (Kd.int .i64) _ _ _ 1000000 [.int .i64 1000000] from rfl) (Reps.one (show Kd.M (Kd.int .i64) _ _ _ 1000001 [.int .i64 1000001] from rfl) (Reps.none _ _))))))); intro v373 w71 ho72 hb hg_ hnew_; clear hg_ hnew_; (first | rw [← Ny372.out] at ho72 | (simp only [Int.reduceToNat] at ho72; rw [← Ny372.out] at ho72)); have n0_ := Aside0.mk (Kd.R_elder' (by (with_reducible repeat (first | apply Kd.R_alloc | apply Kd.R_drewN | apply Kd.R_drew)); exact HO369.out) (Kd.R_base ho72) hb); have n1_ := Aside0.mk (Kd.R_lower (Kd.R_new' ho72 (Kd.R_lt (by (with_reducible repeat (first | apply Kd.R_alloc | apply Kd.R_drewN | apply Kd.R_drew)); exact HO369.out))) (below_size (by repeat (first | (with_reducible first | exact HB.out | apply below_alloc | apply pw_below_drewN | apply below_drew1 | refine below_set ?_ (IsS25.ge HI334.out) | refine below_set ?_ GE348.out | refine below_set ?_ GE352.out) | exact HB.out)))); have n2_ := Aside0.mk (blk_below (g := gb348) (o := .cells #[.int .i64 t345, .int .i64 t346] 35 (0, 0)) (by (with_reducible repeat (first | refine blk_drewN ?_ _ | refine blk_drew ?_ | refine blk_alloc ?_ _)); exact BK348.out) hb); have n3_ := Aside0.mk (blk_below (g := gb352) (o := .cells #[.int .i64 t349, .int .i64 t350] 35 (0, 0)) (by (with_reducible repeat (first | refine blk_drewN ?_ _ | refine blk_drew ?_ | refine blk_alloc ?_ _)); exact BK352.out) hb); have n4_ := Aside0.mk (IsS25.below (by repeat (first | (with_reducible first | exact HI334.out | apply IsS25.alloc | apply IsS25.drewN | apply IsS25.drew | apply IsS25.set_1 | refine IsS25.far ?_ NB334_348.out _ | refine IsS25.far ?_ NB334_352.out _) | exact HI334.out)) hb); have n5_ := Aside0.mk (below_step (by repeat (first | (with_reducible first | exact HB.out | apply below_alloc | apply pw_below_drewN | apply below_drew1 | refine below_set ?_ (IsS25.ge HI334.out) | refine below_set ?_ GE348.out | refine below_set ?_ GE352.out) | exact HB.out)) hb); clear HO369; clear BK348; clear BK352; clear HI334; clear HB; have HO369 := n0_; have HO374 := n1_; have BK348 := n2_; have BK352 := n3_; have HI334 := n4_; have HB := n5_; clear n0_ n1_ n2_ n3_ n4_ n5_; clear hb ho72; obtain ⟨Ao73, co73, eo73⟩ := Kd.R_slice HO374.out; subst eo73) | ((with_reducible refine gate_callee (f := 8) rfl ?_); refine goesL_ (some 113) rfl rfl Try.func8 (by kernel_rfl) rfl #[.pointer (some ⟨gb334, 0, none⟩), .slice Ao73 y372.length co73] rfl (by (try simp only [List.map_toArray, List.map_cons, List.map_nil]); first | done | rfl | (simp only [List.length_drop, List.length_take]; rfl)) ?_; (with_reducible refine (chasemake_Stream_Pick.calls gb334 l0 t371 _ _ y372 t375 t376 w _ ?side1 ?side2 ?side3 ?side4 ?side5 A62.out).mono ?_); (case side1 => repeat (first | (with_reducible first | exact HI334.out | apply IsS25.alloc | apply IsS25.drewN | apply IsS25.drew | apply IsS25.set_1 | refine IsS25.far ?_ NB334_348.out _ | refine IsS25.far ?_ NB334_352.out _) | exact HI334.out)); (case side2 => repeat (first | (with_reducible first | exact HB.out | apply below_alloc | apply pw_below_drewN | apply below_drew1 | refine below_set ?_ (IsS25.ge HI334.out) | refine below_set ?_ GE348.out | refine below_set ?_ GE352.out) | exact HB.out)); (case side3 => repeat (first | exact (Kd.R_reads' HO374.out).2.2 | (with_reducible refine Kd.C_alloc ?_ _) | (with_reducible refine Kd.C_drewN ?_ _) | (with_reducible refine Kd.C_drew ?_))); (case side4 => exact (Kd.R_reads' HO374.out).2.1); (case side5 => exact far_slice (IsS25.own_ne HI334.out HO374.out (by decide))); rintro e w74 ⟨rfl, hi, hb, hk⟩; refine ⟨_, rfl, ?_⟩; have n0_ := Aside0.mk (KeepBut.blk hk (g' := gb348) (o := .cells #[.int .i64 t345, .int .i64 t346] 35 (0, 0)) (by (with_reducible repeat (first | refine blk_drewN ?_ _ | refine blk_drew ?_ | refine blk_alloc ?_ _)); exact BK348.out) NB348_334.out (by simp)); have n1_ := Aside0.mk (KeepBut.blk hk (g' := gb352) (o := .cells #[.int .i64 t349, .int .i64 t350] 35 (0, 0)) (by (with_reducible repeat (first | refine blk_drewN ?_ _ | refine blk_drew ?_ | refine blk_alloc ?_ _)); exact BK352.out) NB352_334.out (by simp)); have n2_ := Aside0.mk (Kd.R_mono (Kd.R_keep (IsS25.apart (show IsS25 w _ gb334 l0 t371 from by repeat (first | (with_reducible first | exact HI334.out | apply IsS25.alloc | apply IsS25.drewN | apply IsS25.drew | apply IsS25.set_1 | refine IsS25.far ?_ NB334_348.out _ | refine IsS25.far ?_ NB334_352.out _) | exact HI334.out)) (by (with_reducible repeat (first | apply Kd.R_alloc | apply Kd.R_drewN | apply Kd.R_drew)); exact HO369.out) (by decide)) hk (fun _ h => h.2)) (fun _ h => h.1)); have n3_ := Aside0.mk (Kd.R_mono (Kd.R_keep (IsS25.apart (show IsS25 w _ gb334 l0 t371 from by repeat (first | (with_reducible first | exact HI334.out | apply IsS25.alloc | apply IsS25.drewN | apply IsS25.drew | apply IsS25.set_1 | refine IsS25.far ?_ NB334_348.out _ | refine IsS25.far ?_ NB334_352.out _) | exact HI334.out)) (by (with_reducible repeat (first | apply Kd.R_alloc | apply Kd.R_drewN | apply Kd.R_drew)); exact HO374.out) (by decide)) hk (fun _ h => h.2)) (fun _ h => h.1)); have n4_ := Aside0.mk (hb); have n5_ := Aside0.mk (hi); clear BK348; clear BK352; clear HO369; clear HO374; clear HB; clear HI334; have BK348 := n0_; have BK352 := n1_; have HO369 := n2_; have HO374 := n3_; have HB := n4_; have HI334 := n5_; clear n0_ n1_ n2_ n3_ n4_ n5_; (try clear hb); (try clear hb2); (try clear hk); (try clear hi)) | ((with_reducible refine gate_dst (N := 14) rfl ?_); refine box_event ?hg (N := 14) ?hd (cs := #[.int .i64 0, .int .i64 0]) (t := 35) ?hr ?_; (case hd => rfl); (case hg => rfl); (case hr => first | (go_simp; done) | (go_simp; rfl)); intro gb377 hg w75 hbox hb; have n0_ := Aside0.mk (Kd.R_below (by (with_reducible repeat (first | apply Kd.R_alloc | apply Kd.R_drewN | apply Kd.R_drew)); exact HO369.out) hb); have n1_ := Aside0.mk (Kd.R_below (by (with_reducible repeat (first | apply Kd.R_alloc | apply Kd.R_drewN | apply Kd.R_drew)); exact HO374.out) hb); have n2_ := Aside0.mk (blk_below (g := gb348) (o := .cells #[.int .i64 t345, .int .i64 t346] 35 (0, 0)) (by (with_reducible repeat (first | refine blk_drewN ?_ _ | refine blk_drew ?_ | refine blk_alloc ?_ _)); exact BK348.out) hb); have n3_ := Aside0.mk (blk_below (g := gb352) (o := .cells #[.int .i64 t349, .int .i64 t350] 35 (0, 0)) (by (with_reducible repeat (first | refine blk_drewN ?_ _ | refine blk_drew ?_ | refine blk_alloc ?_ _)); exact BK352.out) hb); have n4_ := Aside0.mk (IsS25.below (by repeat (first | (with_reducible first | exact HI334.out | apply IsS25.alloc | apply IsS25.drewN | apply IsS25.drew | apply IsS25.set_1 | refine IsS25.far ?_ NB334_348.out _ | refine IsS25.far ?_ NB334_352.out _) | exact HI334.out)) hb); have n5_ := Aside0.mk (below_step (by repeat (first | (with_reducible first | exact HB.out | apply below_alloc | apply pw_below_drewN | apply below_drew1 | refine below_set ?_ (IsS25.ge HI334.out) | refine below_set ?_ GE348.out | refine below_set ?_ GE352.out) | exact HB.out)) hb); have n6_ := Aside0.mk (hbox); have n7_ := Aside0.mk ((by rw [hg]; exact (below_size (by repeat (first | (with_reducible first | exact HB.out | apply below_alloc | apply pw_below_drewN | apply below_drew1 | refine below_set ?_ (IsS25.ge HI334.out) | refine below_set ?_ GE348.out | refine below_set ?_ GE352.out) | exact HB.out))) : w.heap.size ≤ gb377)); have n8_ := Aside0.mk ((by rw [hg]; exact (below_size (by repeat (first | (with_reducible first | exact HB.out | apply below_alloc | apply pw_below_drewN | apply below_drew1 | refine below_set ?_ (IsS25.ge HI334.out) | refine below_set ?_ GE348.out | refine below_set ?_ GE352.out) | exact HB.out))) : w.heap.size ≤ gb377)); have n9_ := Aside0.mk ((by rw [hg]; exact Nat.ne_of_lt (blk_lt (g := gb348) (o := .cells #[.int .i64 t345, .int .i64 t346] 35 (0, 0)) (by (with_reducible repeat (first | refine blk_drewN ?_ _ | refine blk_drew ?_ | refine blk_alloc ?_ _)); exact BK348.out)) : gb348 ≠ gb377)); have n10_ := Aside0.mk ((by rw [hg]; exact Nat.ne_of_gt (blk_lt (g := gb348) (o := .cells #[.int .i64 t345, .int .i64 t346] 35 (0, 0)) (by (with_reducible repeat (first | refine blk_drewN ?_ _ | refine blk_drew ?_ | refine blk_alloc ?_ _)); exact BK348.out)) : gb377 ≠ gb348)); have n11_ := Aside0.mk ((by rw [hg]; exact Nat.ne_of_lt (blk_lt (g := gb352) (o := .cells #[.int .i64 t349, .int .i64 t350] 35 (0, 0)) (by (with_reducible repeat (first | refine blk_drewN ?_ _ | refine blk_drew ?_ | refine blk_alloc ?_ _)); exact BK352.out)) : gb352 ≠ gb377)); have n12_ := Aside0.mk ((by rw [hg]; exact Nat.ne_of_gt (blk_lt (g := gb352) (o := .cells #[.int .i64 t349, .int .i64 t350] 35 (0, 0)) (by (with_reducible repeat (first | refine blk_drewN ?_ _ | refine blk_drew ?_ | refine blk_alloc ?_ _)); exact BK352.out)) : gb377 ≠ gb352)); have n13_ := Aside0.mk ((by rw [hg]; exact Nat.ne_of_lt (IsS25.lt (show IsS25 w _ gb334 l0 t376 from by repeat (first | (with_reducible first | exact HI334.out | apply IsS25.alloc | apply IsS25.drewN | apply IsS25.drew | apply IsS25.set_1 | refine IsS25.far ?_ NB334_348.out _ | refine IsS25.far ?_ NB334_352.out _) | exact HI334.out))) : gb334 ≠ gb377)); have n14_ := Aside0.mk ((by rw [hg]; exact Nat.ne_of_gt (IsS25.lt (show IsS25 w _ gb334 l0 t376 from by repeat (first | (with_reducible first | exact HI334.out | apply IsS25.alloc | apply IsS25.drewN | apply IsS25.drew | apply IsS25.set_1 | refine IsS25.far ?_ NB334_348.out _ | refine IsS25.far ?_ NB334_352.out _) | exact HI334.out))) : gb377 ≠ gb334)); clear HO369; clear HO374; clear BK348; clear BK352; clear HI334; clear HB; have HO369 := n0_; have HO374 := n1_; have BK348 := n2_; have BK352 := n3_; have HI334 := n4_; have HB := n5_; have BK377 := n6_; have GW377 := n7_; have GE377 := n8_; have NB348_377 := n9_; have NB377_348 := n10_; have NB352_377 := n11_; have NB377_352 := n12_; have NB334_377 := n13_; have NB377_334 := n14_; clear n0_ n1_ n2_ n3_ n4_ n5_ n6_ n7_ n8_ n9_ n10_ n11_ n12_ n13_ n14_; clear hb hbox hg) | ((with_reducible refine gate_dst (N := 15) rfl ?_); refine box_event ?hg (N := 15) ?hd (cs := #[.int .i64 0, .int .i64 0]) (t := 35) ?hr ?_; (case hd => rfl); (case hg => rfl); (case hr => first | (go_simp; done) | (go_simp; rfl)); intro gb378 hg w76 hbox hb; have n0_ := Aside0.mk (Kd.R_below (by (with_reducible repeat (first | apply Kd.R_alloc | apply Kd.R_drewN | apply Kd.R_drew)); exact HO369.out) hb); have n1_ := Aside0.mk (Kd.R_below (by (with_reducible repeat (first | apply Kd.R_alloc | apply Kd.R_drewN | apply Kd.R_drew)); exact HO374.out) hb); have n2_ := Aside0.mk (blk_below (g := gb348) (o := .cells #[.int .i64 t345, .int .i64 t346] 35 (0, 0)) (by (with_reducible repeat (first | refine blk_drewN ?_ _ | refine blk_drew ?_ | refine blk_alloc ?_ _)); exact BK348.out) hb); have n3_ := Aside0.mk (blk_below (g := gb352) (o := .cells #[.int .i64 t349, .int .i64 t350] 35 (0, 0)) (by (with_reducible repeat (first | refine blk_drewN ?_ _ | refine blk_drew ?_ | refine blk_alloc ?_ _)); exact BK352.out) hb); have n4_ := Aside0.mk (IsS25.below (by repeat (first | (with_reducible first | exact HI334.out | apply IsS25.alloc | apply IsS25.drewN | apply IsS25.drew | apply IsS25.set_1 | refine IsS25.far ?_ NB334_348.out _ | refine IsS25.far ?_ NB334_352.out _ | refine IsS25.far ?_ NB334_377.out _) | exact HI334.out)) hb); have n5_ := Aside0.mk (blk_below (g := gb377) (o := .cells #[.int .i64 0, .int .i64 0] 35 (0, 0)) (by (with_reducible repeat (first | refine blk_drewN ?_ _ | refine blk_drew ?_ | refine blk_alloc ?_ _)); exact BK377.out) hb); have n6_ := Aside0.mk (below_step (by repeat (first | (with_reducible first | exact HB.out | apply below_alloc | apply pw_below_drewN | apply below_drew1 | refine below_set ?_ (IsS25.ge HI334.out) | refine below_set ?_ GE348.out | refine below_set ?_ GE352.out | refine below_set ?_ GE377.out) | exact HB.out)) hb); have n7_ := Aside0.mk (hbox); have n8_ := Aside0.mk ((by rw [hg]; exact (below_size (by repeat (first | (with_reducible first | exact HB.out | apply below_alloc | apply pw_below_drewN | apply below_drew1 | refine below_set ?_ (IsS25.ge HI334.out) | refine below_set ?_ GE348.out | refine below_set ?_ GE352.out | refine below_set ?_ GE377.out) | exact HB.out))) : w.heap.size ≤ gb378)); have n9_ := Aside0.mk ((by rw [hg]; exact (below_size (by repeat (first | (with_reducible first | exact HB.out | apply below_alloc | apply pw_below_drewN | apply below_drew1 | refine below_set ?_ (IsS25.ge HI334.out) | refine below_set ?_ GE348.out | refine below_set ?_ GE352.out | refine below_set ?_ GE377.out) | exact HB.out))) : w.heap.size ≤ gb378)); have n10_ := Aside0.mk ((by rw [hg]; exact Nat.ne_of_lt (blk_lt (g := gb348) (o := .cells #[.int .i64 t345, .int .i64 t346] 35 (0, 0)) (by (with_reducible repeat (first | refine blk_drewN ?_ _ | refine blk_drew ?_ | refine blk_alloc ?_ _)); exact BK348.out)) : gb348 ≠ gb378)); have n11_ := Aside0.mk ((by rw [hg]; exact Nat.ne_of_gt (blk_lt (g := gb348) (o := .cells #[.int .i64 t345, .int .i64 t346] 35 (0, 0)) (by (with_reducible repeat (first | refine blk_drewN ?_ _ | refine blk_drew ?_ | refine blk_alloc ?_ _)); exact BK348.out)) : gb378 ≠ gb348)); have n12_ := Aside0.mk ((by rw [hg]; exact Nat.ne_of_lt (blk_lt (g := gb352) (o := .cells #[.int .i64 t349, .int .i64 t350] 35 (0, 0)) (by (with_reducible repeat (first | refine blk_drewN ?_ _ | refine blk_drew ?_ | refine blk_alloc ?_ _)); exact BK352.out)) : gb352 ≠ gb378)); have n13_ := Aside0.mk ((by rw [hg]; exact Nat.ne_of_gt (blk_lt (g := gb352) (o := .cells #[.int .i64 t349, .int .i64 t350] 35 (0, 0)) (by (with_reducible repeat (first | refine blk_drewN ?_ _ | refine blk_drew ?_ | refine blk_alloc ?_ _)); exact BK352.out)) : gb378 ≠ gb352)); have n14_ := Aside0.mk ((by rw [hg]; exact Nat.ne_of_lt (blk_lt (g := gb377) (o := .cells #[.int .i64 0, .int .i64 0] 35 (0, 0)) (by (with_reducible repeat (first | refine blk_drewN ?_ _ | refine blk_drew ?_ | refine blk_alloc ?_ _)); exact BK377.out)) : gb377 ≠ gb378)); have n15_ := Aside0.mk ((by rw [hg]; exact Nat.ne_of_gt (blk_lt (g := gb377) (o := .cells #[.int .i64 0, .int .i64 0] 35 (0, 0)) (by (with_reducible repeat (first | refine blk_drewN ?_ _ | refine blk_drew ?_ | refine blk_alloc ?_ _)); exact BK377.out)) : gb378 ≠ gb377)); have n16_ := Aside0.mk ((by rw [hg]; exact Nat.ne_of_lt (IsS25.lt (show IsS25 w _ gb334 l0 t376 from by repeat (first | (with_reducible first | exact HI334.out | apply IsS25.alloc | apply IsS25.drewN | apply IsS25.drew | apply IsS25.set_1 | refine IsS25.far ?_ NB334_348.out _ | refine IsS25.far ?_ NB334_352.out _ | refine IsS25.far ?_ NB334_377.out _) | exact HI334.out))) : gb334 ≠ gb378)); have n17_ := Aside0.mk ((by rw [hg]; exact Nat.ne_of_gt (IsS25.lt (show IsS25 w _ gb334 l0 t376 from by repeat (first | (with_reducible first | exact HI334.out | apply IsS25.alloc | apply IsS25.drewN | apply IsS25.drew | apply IsS25.set_1 | refine IsS25.far ?_ NB334_348.out _ | refine IsS25.far ?_ NB334_352.out _ | refine IsS25.far ?_ NB334_377.out _) | exact HI334.out))) : gb378 ≠ gb334)); clear HO369; clear HO374; clear BK348; clear BK352; clear HI334; clear BK377; clear HB; have HO369 := n0_; have HO374 := n1_; have BK348 := n2_; have BK352 := n3_; have HI334 := n4_; have BK377 := n5_; have HB := n6_; have BK378 := n7_; have GW378 := n8_; have GE378 := n9_; have NB348_378 := n10_; have NB378_348 := n11_; have NB352_378 := n12_; have NB378_352 := n13_; have NB377_378 := n14_; have NB378_377 := n15_; have NB334_378 := n16_; have NB378_334 := n17_; clear n0_ n1_ n2_ n3_ n4_ n5_ n6_ n7_ n8_ n9_ n10_ n11_ n12_ n13_ n14_ n15_ n16_ n17_; clear hb hbox hg; have hnb77 := NB377_348.out; have hnc77 := NB348_377.out; have hnb78 := NB377_352.out; have hnc78 := NB352_377.out; have hnb79 := NB377_378.out; have hnc79 := NB378_377.out; have hnb80 := NB377_334.out; have hnc80 := NB334_377.out; have hcz81_0 : w76.cell? ⟨gb377, 0, none⟩ = some (.int .i64 0) := (blk_cell BK377.out 0).trans rfl; have hcz81_1 : w76.cell? ⟨gb377, 1, none⟩ = some (.int .i64 0) := (blk_cell BK377.out 1).trans rfl; have hfz81_0 := blk_frozen BK377.out 0; have hfz81_1 := blk_frozen BK377.out 1; have hnb82 := NB378_348.out; have hnc82 := NB348_378.out; have hnb83 := NB378_352.out; have hnc83 := NB352_378.out; have hnb84 := NB378_334.out; have hnc84 := NB334_378.out; have hcz85_0 : w76.cell? ⟨gb378, 0, none⟩ = some (.int .i64 0) := (blk_cell BK378.out 0).trans rfl; have hcz85_1 : w76.cell? ⟨gb378, 1, none⟩ = some (.int .i64 0) := (blk_cell BK378.out 1).trans rfl; have hfz85_0 := blk_frozen BK378.out 0; have hfz85_1 := blk_frozen BK378.out 1) | ((with_reducible refine gate_callee (f := 27) rfl ?_); refine goesL_ (some 118) rfl rfl Try.func27 (by kernel_rfl) rfl #[.agg #[.int .i64 t363, .int .i64 t365], .agg #[.int .i64 t370, .int .i64 t375]] rfl (by (try simp only [List.map_toArray, List.map_cons, List.map_nil]); first | done | rfl | (simp only [List.length_drop, List.length_take]; rfl)) ?_; (with_reducible refine (near_Compare.calls kj9 t363 t365 t370 t375 t379 t380 _ A63.out).mono ?_); rintro e w86 ⟨rfl, hb⟩; refine ⟨_, rfl, ?_⟩; have n0_ := Aside0.mk (Kd.R_below (by (with_reducible repeat (first | apply Kd.R_alloc | apply Kd.R_drewN | apply Kd.R_drew)); exact (Kd.R_mono (Kd.R_mono (Kd.R_far (p := ⟨gb378, 1, none⟩) (Kd.R_far (p := ⟨gb378, 0, none⟩) (Kd.R_far (p := ⟨gb377, 1, none⟩) (Kd.R_far (p := ⟨gb377, 0, none⟩) (Kd.R_types (Kd.R_types HO369.out BK377.out (by decide)) BK378.out (by decide)) (fun _ hk => hk.1.2) (.int .i64 t363)) (fun _ hk => hk.1.2) (.int .i64 t365)) (fun _ hk => hk.2) (.int .i64 t370)) (fun _ hk => hk.2) (.int .i64 t375)) (fun _ h_ => h_.1)) (fun _ h_ => h_.1))) hb); have n1_ := Aside0.mk (Kd.R_below (by (with_reducible repeat (first | apply Kd.R_alloc | apply Kd.R_drewN | apply Kd.R_drew)); exact (Kd.R_mono (Kd.R_mono (Kd.R_far (p := ⟨gb378, 1, none⟩) (Kd.R_far (p := ⟨gb378, 0, none⟩) (Kd.R_far (p := ⟨gb377, 1, none⟩) (Kd.R_far (p := ⟨gb377, 0, none⟩) (Kd.R_types (Kd.R_types HO374.out BK377.out (by decide)) BK378.out (by decide)) (fun _ hk => hk.1.2) (.int .i64 t363)) (fun _ hk => hk.1.2) (.int .i64 t365)) (fun _ hk => hk.2) (.int .i64 t370)) (fun _ hk => hk.2) (.int .i64 t375)) (fun _ h_ => h_.1)) (fun _ h_ => h_.1))) hb); have n2_ := Aside0.mk (blk_below (g := gb348) (o := .cells #[.int .i64 t345, .int .i64 t346] 35 (0, 0)) (by (with_reducible repeat (first | refine blk_drewN ?_ _ | refine blk_drew ?_ | refine blk_alloc ?_ _)); refine blk_far ?_ NB348_378.out _; (with_reducible repeat (first | refine blk_drewN ?_ _ | refine blk_drew ?_ | refine blk_alloc ?_ _)); refine blk_far ?_ NB348_378.out _; (with_reducible repeat (first | refine blk_drewN ?_ _ | refine blk_drew ?_ | refine blk_alloc ?_ _)); refine blk_far ?_ NB348_377.out _; (with_reducible repeat (first | refine blk_drewN ?_ _ | refine blk_drew ?_ | refine blk_alloc ?_ _)); refine blk_far ?_ NB348_377.out _; (with_reducible repeat (first | refine blk_drewN ?_ _ | refine blk_drew ?_ | refine blk_alloc ?_ _)); exact BK348.out) hb); have n3_ := Aside0.mk (blk_below (g := gb352) (o := .cells #[.int .i64 t349, .int .i64 t350] 35 (0, 0)) (by (with_reducible repeat (first | refine blk_drewN ?_ _ | refine blk_drew ?_ | refine blk_alloc ?_ _)); refine blk_far ?_ NB352_378.out _; (with_reducible repeat (first | refine blk_drewN ?_ _ | refine blk_drew ?_ | refine blk_alloc ?_ _)); refine blk_far ?_ NB352_378.out _; (with_reducible repeat (first | refine blk_drewN ?_ _ | refine blk_drew ?_ | refine blk_alloc ?_ _)); refine blk_far ?_ NB352_377.out _; (with_reducible repeat (first | refine blk_drewN ?_ _ | refine blk_drew ?_ | refine blk_alloc ?_ _)); refine blk_far ?_ NB352_377.out _; (with_reducible repeat (first | refine blk_drewN ?_ _ | refine blk_drew ?_ | refine blk_alloc ?_ _)); exact BK352.out) hb); have n4_ := Aside0.mk (IsS25.below (show IsS25 w _ gb334 l0 t376 from by repeat (first | (with_reducible first | exact HI334.out | apply IsS25.alloc | apply IsS25.drewN | apply IsS25.drew | apply IsS25.set_1 | refine IsS25.far ?_ NB334_348.out _ | refine IsS25.far ?_ NB334_352.out _ | refine IsS25.far ?_ NB334_377.out _ | refine IsS25.far ?_ NB334_378.out _) | exact HI334.out)) hb); have n5_ := Aside0.mk (blk_below (g := gb377) (o := .cells #[.int .i64 t363, .int .i64 t365] 35 (0, 0)) (by (with_reducible repeat (first | refine blk_drewN ?_ _ | refine blk_drew ?_ | refine blk_alloc ?_ _)); refine blk_far ?_ NB377_378.out _; (with_reducible repeat (first | refine blk_drewN ?_ _ | refine blk_drew ?_ | refine blk_alloc ?_ _)); refine blk_far ?_ NB377_378.out _; (with_reducible repeat (first | refine blk_drewN ?_ _ | refine blk_drew ?_ | refine blk_alloc ?_ _)); refine blk_put (cs := #[.int .i64 t363, .int .i64 0]) ?_ 1 _ rfl; (with_reducible repeat (first | refine blk_drewN ?_ _ | refine blk_drew ?_ | refine blk_alloc ?_ _)); refine blk_put (cs := #[.int .i64 0, .int .i64 0]) ?_ 0 _ rfl; (with_reducible repeat (first | refine blk_drewN ?_ _ | refine blk_drew ?_ | refine blk_alloc ?_ _)); exact BK377.out) hb); have n6_ := Aside0.mk (blk_below (g := gb378) (o := .cells #[.int .i64 t370, .int .i64 t375] 35 (0, 0)) (by (with_reducible repeat (first | refine blk_drewN ?_ _ | refine blk_drew ?_ | refine blk_alloc ?_ _)); refine blk_put (cs := #[.int .i64 t370, .int .i64 0]) ?_ 1 _ rfl; (with_reducible repeat (first | refine blk_drewN ?_ _ | refine blk_drew ?_ | refine blk_alloc ?_ _)); refine blk_put (cs := #[.int .i64 0, .int .i64 0]) ?_ 0 _ rfl; (with_reducible repeat (first | refine blk_drewN ?_ _ | refine blk_drew ?_ | refine blk_alloc ?_ _)); refine blk_far ?_ NB378_377.out _; (with_reducible repeat (first | refine blk_drewN ?_ _ | refine blk_drew ?_ | refine blk_alloc ?_ _)); refine blk_far ?_ NB378_377.out _; (with_reducible repeat (first | refine blk_drewN ?_ _ | refine blk_drew ?_ | refine blk_alloc ?_ _)); exact BK378.out) hb); have n7_ := Aside0.mk (below_step (by repeat (first | (with_reducible first | exact HB.out | apply below_alloc | apply pw_below_drewN | apply below_drew1 | refine below_set ?_ (IsS25.ge HI334.out) | refine below_set ?_ GE348.out | refine below_set ?_ GE352.out | refine below_set ?_ GE377.out | refine below_set ?_ GE378.out) | exact HB.out)) hb); clear HO369; clear HO374; clear BK348; clear BK352; clear HI334; clear BK377; clear BK378; clear HB; have HO369 := n0_; have HO374 := n1_; have BK348 := n2_; have BK352 := n3_; have HI334 := n4_; have BK377 := n5_; have BK378 := n6_; have HB := n7_; clear n0_ n1_ n2_ n3_ n4_ n5_ n6_ n7_; (try clear hb); (try clear hb2); (try clear hk); (try clear hi)))
     (try simp only [Act.put, List.setIfInBounds_toArray, List.set_cons_zero, List.set_cons_succ])
     go_cut [128] (fun v128 wc => ∃ (kq : Nat) (x128_63 : Bool), v128 = .bool x128_63 ∧ Aside0 (chaselaw1_ShinglesLike.j2 kq t379 t380 x128_63 t363 t365 t370 t375 = some r) ∧ Aside0 (kq ≤ kj9) ∧ Aside0 (wc.heap[gb348]? = some (.cells #[.int .i64 t345, .int .i64 t346] 35 (0, 0))) ∧ Aside0 (wc.heap[gb352]? = some (.cells #[.int .i64 t349, .int .i64 t350] 35 (0, 0))) ∧ Aside0 (wc.heap[gb377]? = some (.cells #[.int .i64 t363, .int .i64 t365] 35 (0, 0))) ∧ Aside0 (wc.heap[gb378]? = some (.cells #[.int .i64 t370, .int .i64 t375] 35 (0, 0))) ∧ Aside0 (Below w.heap.size w wc))
     case first =>
      have H := HC64.out
      clear HC64
      replace H := Option.bind_eq_some_iff.mp H
      obtain ⟨t381, A870, H⟩ := H
      replace H : (if t381 = true then ((chaseref1_FractionRight.f kj9 t370 t375).bind fun t382 => (chaselaw1_ShinglesLike.j2 kj9 t379 t380 (!t382) t363 t365 t370 t375)) else (chaselaw1_ShinglesLike.j2 kj9 t379 t380 true t363 t365 t370 t375)) = some r := H
      have A87 := Aside0.mk A870
      clear A870
      by_cases c88 : t381 = true
      ·subst c88
       have H1 : ((chaseref1_FractionRight.f kj9 t370 t375).bind fun t382 => (chaselaw1_ShinglesLike.j2 kj9 t379 t380 (!t382) t363 t365 t370 t375)) = some r := by rw [if_pos rfl] at H; exact H
       clear H
       have H := H1
       clear H1
       replace H := Option.bind_eq_some_iff.mp H
       obtain ⟨t382, A890, H⟩ := H
       replace H : (chaselaw1_ShinglesLike.j2 kj9 t379 t380 (!t382) t363 t365 t370 t375) = some r := H
       have A89 := Aside0.mk A890
       clear A890
       have H' := Aside0.mk H
       clear H
       have hnb90 := NB377_348.out
       have hnc90 := NB348_377.out
       have hnb91 := NB377_352.out
       have hnc91 := NB352_377.out
       have hnb92 := NB377_378.out
       have hnc92 := NB378_377.out
       have hnb93 := NB377_334.out
       have hnc93 := NB334_377.out
       have hcz94_0 : w86.cell? ⟨gb377, 0, none⟩ = some (.int .i64 t363) := (blk_cell BK377.out 0).trans rfl
       have hcz94_1 : w86.cell? ⟨gb377, 1, none⟩ = some (.int .i64 t365) := (blk_cell BK377.out 1).trans rfl
       have hfz94_0 := blk_frozen BK377.out 0
       have hfz94_1 := blk_frozen BK377.out 1
       go_wp2_with (first | ((with_reducible refine gate_callee (f := 28) rfl ?_); refine goesL_ (some 122) rfl rfl Try.func28 (by kernel_rfl) rfl #[.agg #[.int .i64 t363, .int .i64 t365]] rfl (by (try simp only [List.map_toArray, List.map_cons, List.map_nil]); first | done | rfl | (simp only [List.length_drop, List.length_take]; rfl)) ?_; (with_reducible refine (chaseref1_FractionRight.calls kj9 t363 t365 true _ A87.out).mono ?_); rintro e w95 ⟨rfl, hb⟩; refine ⟨_, rfl, ?_⟩; have n0_ := Aside0.mk (Kd.R_below (by (with_reducible repeat (first | apply Kd.R_alloc | apply Kd.R_drewN | apply Kd.R_drew)); exact HO369.out) hb); have n1_ := Aside0.mk (Kd.R_below (by (with_reducible repeat (first | apply Kd.R_alloc | apply Kd.R_drewN | apply Kd.R_drew)); exact HO374.out) hb); have n2_ := Aside0.mk (blk_below (g := gb348) (o := .cells #[.int .i64 t345, .int .i64 t346] 35 (0, 0)) (by (with_reducible repeat (first | refine blk_drewN ?_ _ | refine blk_drew ?_ | refine blk_alloc ?_ _)); exact BK348.out) hb); have n3_ := Aside0.mk (blk_below (g := gb352) (o := .cells #[.int .i64 t349, .int .i64 t350] 35 (0, 0)) (by (with_reducible repeat (first | refine blk_drewN ?_ _ | refine blk_drew ?_ | refine blk_alloc ?_ _)); exact BK352.out) hb); have n4_ := Aside0.mk (IsS25.below (by repeat (first | (with_reducible first | exact HI334.out | apply IsS25.alloc | apply IsS25.drewN | apply IsS25.drew | apply IsS25.set_1 | refine IsS25.far ?_ NB334_348.out _ | refine IsS25.far ?_ NB334_352.out _ | refine IsS25.far ?_ NB334_377.out _ | refine IsS25.far ?_ NB334_378.out _) | exact HI334.out)) hb); have n5_ := Aside0.mk (blk_below (g := gb377) (o := .cells #[.int .i64 t363, .int .i64 t365] 35 (0, 0)) (by (with_reducible repeat (first | refine blk_drewN ?_ _ | refine blk_drew ?_ | refine blk_alloc ?_ _)); exact BK377.out) hb); have n6_ := Aside0.mk (blk_below (g := gb378) (o := .cells #[.int .i64 t370, .int .i64 t375] 35 (0, 0)) (by (with_reducible repeat (first | refine blk_drewN ?_ _ | refine blk_drew ?_ | refine blk_alloc ?_ _)); exact BK378.out) hb); have n7_ := Aside0.mk (below_step (by repeat (first | (with_reducible first | exact HB.out | apply below_alloc | apply pw_below_drewN | apply below_drew1 | refine below_set ?_ (IsS25.ge HI334.out) | refine below_set ?_ GE348.out | refine below_set ?_ GE352.out | refine below_set ?_ GE377.out | refine below_set ?_ GE378.out) | exact HB.out)) hb); clear HO369; clear HO374; clear BK348; clear BK352; clear HI334; clear BK377; clear BK378; clear HB; have HO369 := n0_; have HO374 := n1_; have BK348 := n2_; have BK352 := n3_; have HI334 := n4_; have BK377 := n5_; have BK378 := n6_; have HB := n7_; clear n0_ n1_ n2_ n3_ n4_ n5_ n6_ n7_; (try clear hb); (try clear hb2); (try clear hk); (try clear hi); have hnb96 := NB378_348.out; have hnc96 := NB348_378.out; have hnb97 := NB378_352.out; have hnc97 := NB352_378.out; have hnb98 := NB378_334.out; have hnc98 := NB334_378.out; have hcz99_0 : w95.cell? ⟨gb378, 0, none⟩ = some (.int .i64 t370) := (blk_cell BK378.out 0).trans rfl; have hcz99_1 : w95.cell? ⟨gb378, 1, none⟩ = some (.int .i64 t375) := (blk_cell BK378.out 1).trans rfl; have hfz99_0 := blk_frozen BK378.out 0; have hfz99_1 := blk_frozen BK378.out 1) | (go_at_call 28; (with_reducible refine (chaseref1_FractionRight.calls kj9 t370 t375 t382 _ A89.out).mono ?_); rintro e w100 ⟨rfl, hb⟩; have n0_ := Aside0.mk (Kd.R_below (by (with_reducible repeat (first | apply Kd.R_alloc | apply Kd.R_drewN | apply Kd.R_drew)); exact HO369.out) hb); have n1_ := Aside0.mk (Kd.R_below (by (with_reducible repeat (first | apply Kd.R_alloc | apply Kd.R_drewN | apply Kd.R_drew)); exact HO374.out) hb); have n2_ := Aside0.mk (blk_below (g := gb348) (o := .cells #[.int .i64 t345, .int .i64 t346] 35 (0, 0)) (by (with_reducible repeat (first | refine blk_drewN ?_ _ | refine blk_drew ?_ | refine blk_alloc ?_ _)); exact BK348.out) hb); have n3_ := Aside0.mk (blk_below (g := gb352) (o := .cells #[.int .i64 t349, .int .i64 t350] 35 (0, 0)) (by (with_reducible repeat (first | refine blk_drewN ?_ _ | refine blk_drew ?_ | refine blk_alloc ?_ _)); exact BK352.out) hb); have n4_ := Aside0.mk (IsS25.below (by repeat (first | (with_reducible first | exact HI334.out | apply IsS25.alloc | apply IsS25.drewN | apply IsS25.drew | apply IsS25.set_1 | refine IsS25.far ?_ NB334_348.out _ | refine IsS25.far ?_ NB334_352.out _ | refine IsS25.far ?_ NB334_377.out _ | refine IsS25.far ?_ NB334_378.out _) | exact HI334.out)) hb); have n5_ := Aside0.mk (blk_below (g := gb377) (o := .cells #[.int .i64 t363, .int .i64 t365] 35 (0, 0)) (by (with_reducible repeat (first | refine blk_drewN ?_ _ | refine blk_drew ?_ | refine blk_alloc ?_ _)); exact BK377.out) hb); have n6_ := Aside0.mk (blk_below (g := gb378) (o := .cells #[.int .i64 t370, .int .i64 t375] 35 (0, 0)) (by (with_reducible repeat (first | refine blk_drewN ?_ _ | refine blk_drew ?_ | refine blk_alloc ?_ _)); exact BK378.out) hb); have n7_ := Aside0.mk (below_step (by repeat (first | (with_reducible first | exact HB.out | apply below_alloc | apply pw_below_drewN | apply below_drew1 | refine below_set ?_ (IsS25.ge HI334.out) | refine below_set ?_ GE348.out | refine below_set ?_ GE352.out | refine below_set ?_ GE377.out | refine below_set ?_ GE378.out) | exact HB.out)) hb); clear HO369; clear HO374; clear BK348; clear BK352; clear HI334; clear BK377; clear BK378; clear HB; have HO369 := n0_; have HO374 := n1_; have BK348 := n2_; have BK352 := n3_; have HI334 := n4_; have BK377 := n5_; have BK378 := n6_; have HB := n7_; clear n0_ n1_ n2_ n3_ n4_ n5_ n6_ n7_; (try clear hb); (try clear hb2); (try clear hk); (try clear hi)))
       go_meet
       case rel => exact ⟨_, (!t382), (by first | rfl | (simp; done) | (simp [*]; done)), H', ⟨by have := HJ9.out; first | omega | exact Nat.le_refl _⟩, ⟨by (with_reducible repeat (first | refine blk_drewN ?_ _ | refine blk_drew ?_ | refine blk_alloc ?_ _)); exact BK348.out⟩, ⟨by (with_reducible repeat (first | refine blk_drewN ?_ _ | refine blk_drew ?_ | refine blk_alloc ?_ _)); exact BK352.out⟩, ⟨by (with_reducible repeat (first | refine blk_drewN ?_ _ | refine blk_drew ?_ | refine blk_alloc ?_ _)); exact BK377.out⟩, ⟨by (with_reducible repeat (first | refine blk_drewN ?_ _ | refine blk_drew ?_ | refine blk_alloc ?_ _)); exact BK378.out⟩, ⟨by repeat (first | (with_reducible first | exact HB.out | apply below_alloc | apply pw_below_drewN | apply below_drew1 | refine below_set ?_ (IsS25.ge HI334.out) | refine below_set ?_ GE348.out | refine below_set ?_ GE352.out | refine below_set ?_ GE377.out | refine below_set ?_ GE378.out) | exact HB.out)⟩⟩
      ·replace c88 := Bool.eq_false_iff.mpr c88
       subst c88
       have H1 : (chaselaw1_ShinglesLike.j2 kj9 t379 t380 true t363 t365 t370 t375) = some r := by rw [if_neg (show ¬ (false = true) by decide)] at H; exact H
       clear H
       have H := H1
       clear H1
       have H' := Aside0.mk H
       clear H
       have hnb101 := NB377_348.out
       have hnc101 := NB348_377.out
       have hnb102 := NB377_352.out
       have hnc102 := NB352_377.out
       have hnb103 := NB377_378.out
       have hnc103 := NB378_377.out
       have hnb104 := NB377_334.out
       have hnc104 := NB334_377.out
       have hcz105_0 : w86.cell? ⟨gb377, 0, none⟩ = some (.int .i64 t363) := (blk_cell BK377.out 0).trans rfl
       have hcz105_1 : w86.cell? ⟨gb377, 1, none⟩ = some (.int .i64 t365) := (blk_cell BK377.out 1).trans rfl
       have hfz105_0 := blk_frozen BK377.out 0
       have hfz105_1 := blk_frozen BK377.out 1
       go_wp2_with (first | ((with_reducible refine gate_callee (f := 28) rfl ?_); refine goesL_ (some 122) rfl rfl Try.func28 (by kernel_rfl) rfl #[.agg #[.int .i64 t363, .int .i64 t365]] rfl (by (try simp only [List.map_toArray, List.map_cons, List.map_nil]); first | done | rfl | (simp only [List.length_drop, List.length_take]; rfl)) ?_; (with_reducible refine (chaseref1_FractionRight.calls kj9 t363 t365 false _ A87.out).mono ?_); rintro e w106 ⟨rfl, hb⟩; refine ⟨_, rfl, ?_⟩; have n0_ := Aside0.mk (Kd.R_below (by (with_reducible repeat (first | apply Kd.R_alloc | apply Kd.R_drewN | apply Kd.R_drew)); exact HO369.out) hb); have n1_ := Aside0.mk (Kd.R_below (by (with_reducible repeat (first | apply Kd.R_alloc | apply Kd.R_drewN | apply Kd.R_drew)); exact HO374.out) hb); have n2_ := Aside0.mk (blk_below (g := gb348) (o := .cells #[.int .i64 t345, .int .i64 t346] 35 (0, 0)) (by (with_reducible repeat (first | refine blk_drewN ?_ _ | refine blk_drew ?_ | refine blk_alloc ?_ _)); exact BK348.out) hb); have n3_ := Aside0.mk (blk_below (g := gb352) (o := .cells #[.int .i64 t349, .int .i64 t350] 35 (0, 0)) (by (with_reducible repeat (first | refine blk_drewN ?_ _ | refine blk_drew ?_ | refine blk_alloc ?_ _)); exact BK352.out) hb); have n4_ := Aside0.mk (IsS25.below (by repeat (first | (with_reducible first | exact HI334.out | apply IsS25.alloc | apply IsS25.drewN | apply IsS25.drew | apply IsS25.set_1 | refine IsS25.far ?_ NB334_348.out _ | refine IsS25.far ?_ NB334_352.out _ | refine IsS25.far ?_ NB334_377.out _ | refine IsS25.far ?_ NB334_378.out _) | exact HI334.out)) hb); have n5_ := Aside0.mk (blk_below (g := gb377) (o := .cells #[.int .i64 t363, .int .i64 t365] 35 (0, 0)) (by (with_reducible repeat (first | refine blk_drewN ?_ _ | refine blk_drew ?_ | refine blk_alloc ?_ _)); exact BK377.out) hb); have n6_ := Aside0.mk (blk_below (g := gb378) (o := .cells #[.int .i64 t370, .int .i64 t375] 35 (0, 0)) (by (with_reducible repeat (first | refine blk_drewN ?_ _ | refine blk_drew ?_ | refine blk_alloc ?_ _)); exact BK378.out) hb); have n7_ := Aside0.mk (below_step (by repeat (first | (with_reducible first | exact HB.out | apply below_alloc | apply pw_below_drewN | apply below_drew1 | refine below_set ?_ (IsS25.ge HI334.out) | refine below_set ?_ GE348.out | refine below_set ?_ GE352.out | refine below_set ?_ GE377.out | refine below_set ?_ GE378.out) | exact HB.out)) hb); clear HO369; clear HO374; clear BK348; clear BK352; clear HI334; clear BK377; clear BK378; clear HB; have HO369 := n0_; have HO374 := n1_; have BK348 := n2_; have BK352 := n3_; have HI334 := n4_; have BK377 := n5_; have BK378 := n6_; have HB := n7_; clear n0_ n1_ n2_ n3_ n4_ n5_ n6_ n7_; (try clear hb); (try clear hb2); (try clear hk); (try clear hi)))
       go_meet
       case rel => exact ⟨_, (true), (by first | rfl | (simp; done) | (simp [*]; done)), H', ⟨by have := HJ9.out; first | omega | exact Nat.le_refl _⟩, ⟨by (with_reducible repeat (first | refine blk_drewN ?_ _ | refine blk_drew ?_ | refine blk_alloc ?_ _)); exact BK348.out⟩, ⟨by (with_reducible repeat (first | refine blk_drewN ?_ _ | refine blk_drew ?_ | refine blk_alloc ?_ _)); exact BK352.out⟩, ⟨by (with_reducible repeat (first | refine blk_drewN ?_ _ | refine blk_drew ?_ | refine blk_alloc ?_ _)); exact BK377.out⟩, ⟨by (with_reducible repeat (first | refine blk_drewN ?_ _ | refine blk_drew ?_ | refine blk_alloc ?_ _)); exact BK378.out⟩, ⟨by repeat (first | (with_reducible first | exact HB.out | apply below_alloc | apply pw_below_drewN | apply below_drew1 | refine below_set ?_ (IsS25.ge HI334.out) | refine below_set ?_ GE348.out | refine below_set ?_ GE352.out | refine below_set ?_ GE377.out | refine below_set ?_ GE378.out) | exact HB.out)⟩⟩
     case rest =>
      clear HC64
      try clear c1
      try clear c2
      try clear p2
      try clear c5
      try clear c7
      try clear c8
      try clear c9
      try clear c10
      try clear c25
      try clear c25b0
      try clear c25b1
      try clear c26
      try clear c26b0
      try clear c26b1
      try clear c27
      try clear c28
      try clear c58
      try clear c77
      try clear c78
      try clear c79
      try clear c80
      try clear c82
      try clear c83
      try clear c84
      try clear c88
      try clear c90
      try clear c91
      try clear c92
      try clear c93
      try clear c96
      try clear c97
      try clear c98
      try clear c101
      try clear c102
      try clear c103
      try clear c104
      try clear hcz105_0
      try clear hcz105_1
      try clear hcz81_0
      try clear hcz81_1
      try clear hcz85_0
      try clear hcz85_1
      try clear hcz94_0
      try clear hcz94_1
      try clear hcz99_0
      try clear hcz99_1
      try clear hfz105_0
      try clear hfz105_1
      try clear hfz81_0
      try clear hfz81_1
      try clear hfz85_0
      try clear hfz85_1
      try clear hfz94_0
      try clear hfz94_1
      try clear hfz99_0
      try clear hfz99_1
      try clear p2
      obtain ⟨kq, x128_63, rfl, HA, HJ63, BK348, BK352, BK377, BK378, HB⟩ := hcut
      cases kq with
      | zero => exact absurd HA.out (by simp [chaselaw1_ShinglesLike.j2])
      | succ kj63 =>
       have H := HA.out
       clear HA
       simp only [chaselaw1_ShinglesLike.j2] at H
       by_cases c107 : x128_63 = true
       ·subst c107
        have H1 : ((chaselaw1_nears.f kj63).bind fun t383 => (if t383 = true then (chaselaw1_ShinglesLike.j3 kj63 (t380 == 3)) else (chaselaw1_ShinglesLike.j3 kj63 false))) = some r := by rw [if_pos rfl] at H; exact H
        clear H
        have H := H1
        clear H1
        have HC108 := Aside0.mk H
        clear H
        go_upto_region 15 with (fail)
        go_cut [2] (fun v2 wc => ∃ (kq : Nat) (x2_107 : Bool), v2 = .bool x2_107 ∧ Aside0 (chaselaw1_ShinglesLike.j3 kq x2_107 = some r) ∧ Aside0 (kq ≤ kj63) ∧ Aside0 (wc.heap[gb348]? = some (.cells #[.int .i64 t345, .int .i64 t346] 35 (0, 0))) ∧ Aside0 (wc.heap[gb352]? = some (.cells #[.int .i64 t349, .int .i64 t350] 35 (0, 0))) ∧ Aside0 (wc.heap[gb377]? = some (.cells #[.int .i64 t363, .int .i64 t365] 35 (0, 0))) ∧ Aside0 (wc.heap[gb378]? = some (.cells #[.int .i64 t370, .int .i64 t375] 35 (0, 0))) ∧ Aside0 (Below w.heap.size w wc))
        case first =>
         have H := HC108.out
         clear HC108
         replace H := Option.bind_eq_some_iff.mp H
         obtain ⟨t383, A1090, H⟩ := H
         replace H : (if t383 = true then (chaselaw1_ShinglesLike.j3 kj63 (t380 == 3)) else (chaselaw1_ShinglesLike.j3 kj63 false)) = some r := H
         have A109 := Aside0.mk A1090
         clear A1090
         by_cases c110 : t383 = true
         ·subst c110
          have H1 : (chaselaw1_ShinglesLike.j3 kj63 (t380 == 3)) = some r := by rw [if_pos rfl] at H; exact H
          clear H
          have H := H1
          clear H1
          have H' := Aside0.mk H
          clear H
          go_wp2_with (first | ((with_reducible refine gate_callee (f := 15) rfl ?_); refine goesL_ (some 129) rfl rfl Try.func15 (by kernel_rfl) rfl #[] rfl (by (try simp only [List.map_toArray, List.map_cons, List.map_nil]); first | done | rfl | (simp only [List.length_drop, List.length_take]; rfl)) ?_; (with_reducible refine (chaselaw1_nears.calls kj63  true _ A109.out).mono ?_); rintro e w111 ⟨rfl, hb⟩; refine ⟨_, rfl, ?_⟩; have n0_ := Aside0.mk (blk_below (g := gb348) (o := .cells #[.int .i64 t345, .int .i64 t346] 35 (0, 0)) (by (with_reducible repeat (first | refine blk_drewN ?_ _ | refine blk_drew ?_ | refine blk_alloc ?_ _)); exact BK348.out) hb); have n1_ := Aside0.mk (blk_below (g := gb352) (o := .cells #[.int .i64 t349, .int .i64 t350] 35 (0, 0)) (by (with_reducible repeat (first | refine blk_drewN ?_ _ | refine blk_drew ?_ | refine blk_alloc ?_ _)); exact BK352.out) hb); have n2_ := Aside0.mk (blk_below (g := gb377) (o := .cells #[.int .i64 t363, .int .i64 t365] 35 (0, 0)) (by (with_reducible repeat (first | refine blk_drewN ?_ _ | refine blk_drew ?_ | refine blk_alloc ?_ _)); exact BK377.out) hb); have n3_ := Aside0.mk (blk_below (g := gb378) (o := .cells #[.int .i64 t370, .int .i64 t375] 35 (0, 0)) (by (with_reducible repeat (first | refine blk_drewN ?_ _ | refine blk_drew ?_ | refine blk_alloc ?_ _)); exact BK378.out) hb); have n4_ := Aside0.mk (below_step (by repeat (first | (with_reducible first | exact HB.out | apply below_alloc | apply pw_below_drewN | apply below_drew1 | refine below_set ?_ GE348.out | refine below_set ?_ GE352.out | refine below_set ?_ GE377.out | refine below_set ?_ GE378.out) | exact HB.out)) hb); clear BK348; clear BK352; clear BK377; clear BK378; clear HB; have BK348 := n0_; have BK352 := n1_; have BK377 := n2_; have BK378 := n3_; have HB := n4_; clear n0_ n1_ n2_ n3_ n4_; (try clear hb); (try clear hb2); (try clear hk); (try clear hi)))
          go_meet
          case rel => exact ⟨_, ((t380 == 3)), (by first | rfl | (simp; done) | (simp [*]; done)), H', ⟨by have := HJ9.out; have := HJ63.out; first | omega | exact Nat.le_refl _⟩, ⟨by (with_reducible repeat (first | refine blk_drewN ?_ _ | refine blk_drew ?_ | refine blk_alloc ?_ _)); exact BK348.out⟩, ⟨by (with_reducible repeat (first | refine blk_drewN ?_ _ | refine blk_drew ?_ | refine blk_alloc ?_ _)); exact BK352.out⟩, ⟨by (with_reducible repeat (first | refine blk_drewN ?_ _ | refine blk_drew ?_ | refine blk_alloc ?_ _)); exact BK377.out⟩, ⟨by (with_reducible repeat (first | refine blk_drewN ?_ _ | refine blk_drew ?_ | refine blk_alloc ?_ _)); exact BK378.out⟩, ⟨by repeat (first | (with_reducible first | exact HB.out | apply below_alloc | apply pw_below_drewN | apply below_drew1 | refine below_set ?_ GE348.out | refine below_set ?_ GE352.out | refine below_set ?_ GE377.out | refine below_set ?_ GE378.out) | exact HB.out)⟩⟩
         ·replace c110 := Bool.eq_false_iff.mpr c110
          subst c110
          have H1 : (chaselaw1_ShinglesLike.j3 kj63 false) = some r := by rw [if_neg (show ¬ (false = true) by decide)] at H; exact H
          clear H
          have H := H1
          clear H1
          have H' := Aside0.mk H
          clear H
          go_wp2_with (first | ((with_reducible refine gate_callee (f := 15) rfl ?_); refine goesL_ (some 129) rfl rfl Try.func15 (by kernel_rfl) rfl #[] rfl (by (try simp only [List.map_toArray, List.map_cons, List.map_nil]); first | done | rfl | (simp only [List.length_drop, List.length_take]; rfl)) ?_; (with_reducible refine (chaselaw1_nears.calls kj63  false _ A109.out).mono ?_); rintro e w112 ⟨rfl, hb⟩; refine ⟨_, rfl, ?_⟩; have n0_ := Aside0.mk (blk_below (g := gb348) (o := .cells #[.int .i64 t345, .int .i64 t346] 35 (0, 0)) (by (with_reducible repeat (first | refine blk_drewN ?_ _ | refine blk_drew ?_ | refine blk_alloc ?_ _)); exact BK348.out) hb); have n1_ := Aside0.mk (blk_below (g := gb352) (o := .cells #[.int .i64 t349, .int .i64 t350] 35 (0, 0)) (by (with_reducible repeat (first | refine blk_drewN ?_ _ | refine blk_drew ?_ | refine blk_alloc ?_ _)); exact BK352.out) hb); have n2_ := Aside0.mk (blk_below (g := gb377) (o := .cells #[.int .i64 t363, .int .i64 t365] 35 (0, 0)) (by (with_reducible repeat (first | refine blk_drewN ?_ _ | refine blk_drew ?_ | refine blk_alloc ?_ _)); exact BK377.out) hb); have n3_ := Aside0.mk (blk_below (g := gb378) (o := .cells #[.int .i64 t370, .int .i64 t375] 35 (0, 0)) (by (with_reducible repeat (first | refine blk_drewN ?_ _ | refine blk_drew ?_ | refine blk_alloc ?_ _)); exact BK378.out) hb); have n4_ := Aside0.mk (below_step (by repeat (first | (with_reducible first | exact HB.out | apply below_alloc | apply pw_below_drewN | apply below_drew1 | refine below_set ?_ GE348.out | refine below_set ?_ GE352.out | refine below_set ?_ GE377.out | refine below_set ?_ GE378.out) | exact HB.out)) hb); clear BK348; clear BK352; clear BK377; clear BK378; clear HB; have BK348 := n0_; have BK352 := n1_; have BK377 := n2_; have BK378 := n3_; have HB := n4_; clear n0_ n1_ n2_ n3_ n4_; (try clear hb); (try clear hb2); (try clear hk); (try clear hi)))
          go_meet
          case rel => exact ⟨_, (false), (by first | rfl | (simp; done) | (simp [*]; done)), H', ⟨by have := HJ9.out; have := HJ63.out; first | omega | exact Nat.le_refl _⟩, ⟨by (with_reducible repeat (first | refine blk_drewN ?_ _ | refine blk_drew ?_ | refine blk_alloc ?_ _)); exact BK348.out⟩, ⟨by (with_reducible repeat (first | refine blk_drewN ?_ _ | refine blk_drew ?_ | refine blk_alloc ?_ _)); exact BK352.out⟩, ⟨by (with_reducible repeat (first | refine blk_drewN ?_ _ | refine blk_drew ?_ | refine blk_alloc ?_ _)); exact BK377.out⟩, ⟨by (with_reducible repeat (first | refine blk_drewN ?_ _ | refine blk_drew ?_ | refine blk_alloc ?_ _)); exact BK378.out⟩, ⟨by repeat (first | (with_reducible first | exact HB.out | apply below_alloc | apply pw_below_drewN | apply below_drew1 | refine below_set ?_ GE348.out | refine below_set ?_ GE352.out | refine below_set ?_ GE377.out | refine below_set ?_ GE378.out) | exact HB.out)⟩⟩
        case rest =>
         clear HC108
         try clear c1
         try clear c2
         try clear p2
         try clear c5
         try clear c7
         try clear c8
         try clear c9
         try clear c10
         try clear c11
         try clear c15
         try clear c25
         try clear c25b0
         try clear c25b1
         try clear c26
         try clear c26b0
         try clear c26b1
         try clear c27
         try clear c28
         try clear c58
         try clear c77
         try clear c78
         try clear c79
         try clear c80
         try clear c82
         try clear c83
         try clear c84
         try clear c88
         try clear c90
         try clear c91
         try clear c92
         try clear c93
         try clear c96
         try clear c97
         try clear c98
         try clear c101
         try clear c102
         try clear c103
         try clear c104
         try clear c107
         try clear c110
         try clear hcz105_0
         try clear hcz105_1
         try clear hcz81_0
         try clear hcz81_1
         try clear hcz85_0
         try clear hcz85_1
         try clear hcz94_0
         try clear hcz94_1
         try clear hcz99_0
         try clear hcz99_1
         try clear hfz105_0
         try clear hfz105_1
         try clear hfz81_0
         try clear hfz81_1
         try clear hfz85_0
         try clear hfz85_1
         try clear hfz94_0
         try clear hfz94_1
         try clear hfz99_0
         try clear hfz99_1
         try clear p2
         obtain ⟨kq, x2_107, rfl, HA, HJ107, BK348, BK352, BK377, BK378, HB⟩ := hcut
         cases kq with
         | zero => exact absurd HA.out (by simp [chaselaw1_ShinglesLike.j3])
         | succ kj107 =>
          have H := HA.out
          clear HA
          simp only [chaselaw1_ShinglesLike.j3] at H
          obtain rfl := Option.some.inj H
          go_wp2
          go_ret
          exact ⟨by first | rfl | (simp [errW_none, errW_some] <;> rfl) | (simp [*, errW_none, errW_some] <;> rfl), by repeat (first | (with_reducible first | exact HB.out | apply below_alloc | apply pw_below_drewN | apply below_drew1 | refine below_set ?_ GE348.out | refine below_set ?_ GE352.out | refine below_set ?_ GE377.out | refine below_set ?_ GE378.out) | exact HB.out)⟩
       ·replace c107 := Bool.eq_false_iff.mpr c107
        subst c107
        have H1 : ((chaselaw1_nears.f kj63).bind fun t384 => (if t384 = true then (if t380 = 0 then ((chaseref1_CompareOf.f t363 t365 t370 t375).bind fun t385 => (chaselaw1_ShinglesLike.j4 kj63 (t379 == t385))) else (chaselaw1_ShinglesLike.j4 kj63 false)) else (chaselaw1_ShinglesLike.j4 kj63 false))) = some r := by rw [if_neg (show ¬ (false = true) by decide)] at H; exact H
        clear H
        have H := H1
        clear H1
        have HC113 := Aside0.mk H
        clear H
        go_upto_region 16 with (fail)
        go_cut [2] (fun v2 wc => ∃ (kq : Nat) (x2_112 : Bool), v2 = .bool x2_112 ∧ Aside0 (chaselaw1_ShinglesLike.j4 kq x2_112 = some r) ∧ Aside0 (kq ≤ kj63) ∧ Aside0 (wc.heap[gb348]? = some (.cells #[.int .i64 t345, .int .i64 t346] 35 (0, 0))) ∧ Aside0 (wc.heap[gb352]? = some (.cells #[.int .i64 t349, .int .i64 t350] 35 (0, 0))) ∧ Aside0 (wc.heap[gb377]? = some (.cells #[.int .i64 t363, .int .i64 t365] 35 (0, 0))) ∧ Aside0 (wc.heap[gb378]? = some (.cells #[.int .i64 t370, .int .i64 t375] 35 (0, 0))) ∧ Aside0 (Below w.heap.size w wc))
        case first =>
         have H := HC113.out
         clear HC113
         replace H := Option.bind_eq_some_iff.mp H
         obtain ⟨t384, A1140, H⟩ := H
         replace H : (if t384 = true then (if t380 = 0 then ((chaseref1_CompareOf.f t363 t365 t370 t375).bind fun t385 => (chaselaw1_ShinglesLike.j4 kj63 (t379 == t385))) else (chaselaw1_ShinglesLike.j4 kj63 false)) else (chaselaw1_ShinglesLike.j4 kj63 false)) = some r := H
         have A114 := Aside0.mk A1140
         clear A1140
         by_cases c115 : t384 = true
         ·subst c115
          have H1 : (if t380 = 0 then ((chaseref1_CompareOf.f t363 t365 t370 t375).bind fun t385 => (chaselaw1_ShinglesLike.j4 kj63 (t379 == t385))) else (chaselaw1_ShinglesLike.j4 kj63 false)) = some r := by rw [if_pos rfl] at H; exact H
          clear H
          have H := H1
          clear H1
          by_cases c116 : t380 = 0
          ·rw [if_pos c116] at H
           have c116b0 : (t380 == 0) = true := beq_iff_eq.mpr c116
           have c116b1 : (t380 != 0) = false := bne_eq_false_iff_eq.mpr c116
           clear c116
           (first | rw [c116b0] | (simp only [i64_w, i32_w]; rw [c116b0]) | skip)
           replace H := Option.bind_eq_some_iff.mp H
           obtain ⟨t385, A1170, H⟩ := H
           replace H : (chaselaw1_ShinglesLike.j4 kj63 (t379 == t385)) = some r := H
           have A117 := Aside0.mk A1170
           clear A1170
           have H' := Aside0.mk H
           clear H
           go_wp2_with (first | ((with_reducible refine gate_callee (f := 15) rfl ?_); refine goesL_ (some 134) rfl rfl Try.func15 (by kernel_rfl) rfl #[] rfl (by (try simp only [List.map_toArray, List.map_cons, List.map_nil]); first | done | rfl | (simp only [List.length_drop, List.length_take]; rfl)) ?_; (with_reducible refine (chaselaw1_nears.calls kj63  true _ A114.out).mono ?_); rintro e w118 ⟨rfl, hb⟩; refine ⟨_, rfl, ?_⟩; have n0_ := Aside0.mk (blk_below (g := gb348) (o := .cells #[.int .i64 t345, .int .i64 t346] 35 (0, 0)) (by (with_reducible repeat (first | refine blk_drewN ?_ _ | refine blk_drew ?_ | refine blk_alloc ?_ _)); exact BK348.out) hb); have n1_ := Aside0.mk (blk_below (g := gb352) (o := .cells #[.int .i64 t349, .int .i64 t350] 35 (0, 0)) (by (with_reducible repeat (first | refine blk_drewN ?_ _ | refine blk_drew ?_ | refine blk_alloc ?_ _)); exact BK352.out) hb); have n2_ := Aside0.mk (blk_below (g := gb377) (o := .cells #[.int .i64 t363, .int .i64 t365] 35 (0, 0)) (by (with_reducible repeat (first | refine blk_drewN ?_ _ | refine blk_drew ?_ | refine blk_alloc ?_ _)); exact BK377.out) hb); have n3_ := Aside0.mk (blk_below (g := gb378) (o := .cells #[.int .i64 t370, .int .i64 t375] 35 (0, 0)) (by (with_reducible repeat (first | refine blk_drewN ?_ _ | refine blk_drew ?_ | refine blk_alloc ?_ _)); exact BK378.out) hb); have n4_ := Aside0.mk (below_step (by repeat (first | (with_reducible first | exact HB.out | apply below_alloc | apply pw_below_drewN | apply below_drew1 | refine below_set ?_ GE348.out | refine below_set ?_ GE352.out | refine below_set ?_ GE377.out | refine below_set ?_ GE378.out) | exact HB.out)) hb); clear BK348; clear BK352; clear BK377; clear BK378; clear HB; have BK348 := n0_; have BK352 := n1_; have BK377 := n2_; have BK378 := n3_; have HB := n4_; clear n0_ n1_ n2_ n3_ n4_; (try clear hb); (try clear hb2); (try clear hk); (try clear hi); have hnb119 := NB377_348.out; have hnc119 := NB348_377.out; have hnb120 := NB377_352.out; have hnc120 := NB352_377.out; have hnb121 := NB377_378.out; have hnc121 := NB378_377.out; have hcz122_0 : w118.cell? ⟨gb377, 0, none⟩ = some (.int .i64 t363) := (blk_cell BK377.out 0).trans rfl; have hcz122_1 : w118.cell? ⟨gb377, 1, none⟩ = some (.int .i64 t365) := (blk_cell BK377.out 1).trans rfl; have hfz122_0 := blk_frozen BK377.out 0; have hfz122_1 := blk_frozen BK377.out 1; have hnb123 := NB378_348.out; have hnc123 := NB348_378.out; have hnb124 := NB378_352.out; have hnc124 := NB352_378.out; have hcz125_0 : w118.cell? ⟨gb378, 0, none⟩ = some (.int .i64 t370) := (blk_cell BK378.out 0).trans rfl; have hcz125_1 : w118.cell? ⟨gb378, 1, none⟩ = some (.int .i64 t375) := (blk_cell BK378.out 1).trans rfl; have hfz125_0 := blk_frozen BK378.out 0; have hfz125_1 := blk_frozen BK378.out 1) | (go_at_call 29; (with_reducible refine (chaseref1_CompareOf.calls t363 t365 t370 t375 t385 _ A117.out).mono ?_); rintro e w126 ⟨rfl, hb⟩; have n0_ := Aside0.mk (blk_below (g := gb348) (o := .cells #[.int .i64 t345, .int .i64 t346] 35 (0, 0)) (by (with_reducible repeat (first | refine blk_drewN ?_ _ | refine blk_drew ?_ | refine blk_alloc ?_ _)); exact BK348.out) hb); have n1_ := Aside0.mk (blk_below (g := gb352) (o := .cells #[.int .i64 t349, .int .i64 t350] 35 (0, 0)) (by (with_reducible repeat (first | refine blk_drewN ?_ _ | refine blk_drew ?_ | refine blk_alloc ?_ _)); exact BK352.out) hb); have n2_ := Aside0.mk (blk_below (g := gb377) (o := .cells #[.int .i64 t363, .int .i64 t365] 35 (0, 0)) (by (with_reducible repeat (first | refine blk_drewN ?_ _ | refine blk_drew ?_ | refine blk_alloc ?_ _)); exact BK377.out) hb); have n3_ := Aside0.mk (blk_below (g := gb378) (o := .cells #[.int .i64 t370, .int .i64 t375] 35 (0, 0)) (by (with_reducible repeat (first | refine blk_drewN ?_ _ | refine blk_drew ?_ | refine blk_alloc ?_ _)); exact BK378.out) hb); have n4_ := Aside0.mk (below_step (by repeat (first | (with_reducible first | exact HB.out | apply below_alloc | apply pw_below_drewN | apply below_drew1 | refine below_set ?_ GE348.out | refine below_set ?_ GE352.out | refine below_set ?_ GE377.out | refine below_set ?_ GE378.out) | exact HB.out)) hb); clear BK348; clear BK352; clear BK377; clear BK378; clear HB; have BK348 := n0_; have BK352 := n1_; have BK377 := n2_; have BK378 := n3_; have HB := n4_; clear n0_ n1_ n2_ n3_ n4_; (try clear hb); (try clear hb2); (try clear hk); (try clear hi)))
           go_meet
           case rel => exact ⟨_, ((t379 == t385)), (by first | rfl | (simp; done) | (simp [*]; done)), H', ⟨by have := HJ9.out; have := HJ63.out; first | omega | exact Nat.le_refl _⟩, ⟨by (with_reducible repeat (first | refine blk_drewN ?_ _ | refine blk_drew ?_ | refine blk_alloc ?_ _)); exact BK348.out⟩, ⟨by (with_reducible repeat (first | refine blk_drewN ?_ _ | refine blk_drew ?_ | refine blk_alloc ?_ _)); exact BK352.out⟩, ⟨by (with_reducible repeat (first | refine blk_drewN ?_ _ | refine blk_drew ?_ | refine blk_alloc ?_ _)); exact BK377.out⟩, ⟨by (with_reducible repeat (first | refine blk_drewN ?_ _ | refine blk_drew ?_ | refine blk_alloc ?_ _)); exact BK378.out⟩, ⟨by repeat (first | (with_reducible first | exact HB.out | apply below_alloc | apply pw_below_drewN | apply below_drew1 | refine below_set ?_ GE348.out | refine below_set ?_ GE352.out | refine below_set ?_ GE377.out | refine below_set ?_ GE378.out) | exact HB.out)⟩⟩
          ·rw [if_neg c116] at H
           have c116b0 : (t380 == 0) = false := beq_eq_false_iff_ne.mpr c116
           have c116b1 : (t380 != 0) = true := bne_iff_ne.mpr c116
           (first | rw [c116b0] | (simp only [i64_w, i32_w]; rw [c116b0]) | skip)
           have H' := Aside0.mk H
           clear H
           go_wp2_with (first | ((with_reducible refine gate_callee (f := 15) rfl ?_); refine goesL_ (some 134) rfl rfl Try.func15 (by kernel_rfl) rfl #[] rfl (by (try simp only [List.map_toArray, List.map_cons, List.map_nil]); first | done | rfl | (simp only [List.length_drop, List.length_take]; rfl)) ?_; (with_reducible refine (chaselaw1_nears.calls kj63  true _ A114.out).mono ?_); rintro e w127 ⟨rfl, hb⟩; refine ⟨_, rfl, ?_⟩; have n0_ := Aside0.mk (blk_below (g := gb348) (o := .cells #[.int .i64 t345, .int .i64 t346] 35 (0, 0)) (by (with_reducible repeat (first | refine blk_drewN ?_ _ | refine blk_drew ?_ | refine blk_alloc ?_ _)); exact BK348.out) hb); have n1_ := Aside0.mk (blk_below (g := gb352) (o := .cells #[.int .i64 t349, .int .i64 t350] 35 (0, 0)) (by (with_reducible repeat (first | refine blk_drewN ?_ _ | refine blk_drew ?_ | refine blk_alloc ?_ _)); exact BK352.out) hb); have n2_ := Aside0.mk (blk_below (g := gb377) (o := .cells #[.int .i64 t363, .int .i64 t365] 35 (0, 0)) (by (with_reducible repeat (first | refine blk_drewN ?_ _ | refine blk_drew ?_ | refine blk_alloc ?_ _)); exact BK377.out) hb); have n3_ := Aside0.mk (blk_below (g := gb378) (o := .cells #[.int .i64 t370, .int .i64 t375] 35 (0, 0)) (by (with_reducible repeat (first | refine blk_drewN ?_ _ | refine blk_drew ?_ | refine blk_alloc ?_ _)); exact BK378.out) hb); have n4_ := Aside0.mk (below_step (by repeat (first | (with_reducible first | exact HB.out | apply below_alloc | apply pw_below_drewN | apply below_drew1 | refine below_set ?_ GE348.out | refine below_set ?_ GE352.out | refine below_set ?_ GE377.out | refine below_set ?_ GE378.out) | exact HB.out)) hb); clear BK348; clear BK352; clear BK377; clear BK378; clear HB; have BK348 := n0_; have BK352 := n1_; have BK377 := n2_; have BK378 := n3_; have HB := n4_; clear n0_ n1_ n2_ n3_ n4_; (try clear hb); (try clear hb2); (try clear hk); (try clear hi)))
           go_meet
           case rel => exact ⟨_, (false), (by first | rfl | (simp; done) | (simp [*]; done)), H', ⟨by have := HJ9.out; have := HJ63.out; first | omega | exact Nat.le_refl _⟩, ⟨by (with_reducible repeat (first | refine blk_drewN ?_ _ | refine blk_drew ?_ | refine blk_alloc ?_ _)); exact BK348.out⟩, ⟨by (with_reducible repeat (first | refine blk_drewN ?_ _ | refine blk_drew ?_ | refine blk_alloc ?_ _)); exact BK352.out⟩, ⟨by (with_reducible repeat (first | refine blk_drewN ?_ _ | refine blk_drew ?_ | refine blk_alloc ?_ _)); exact BK377.out⟩, ⟨by (with_reducible repeat (first | refine blk_drewN ?_ _ | refine blk_drew ?_ | refine blk_alloc ?_ _)); exact BK378.out⟩, ⟨by repeat (first | (with_reducible first | exact HB.out | apply below_alloc | apply pw_below_drewN | apply below_drew1 | refine below_set ?_ GE348.out | refine below_set ?_ GE352.out | refine below_set ?_ GE377.out | refine below_set ?_ GE378.out) | exact HB.out)⟩⟩
         ·replace c115 := Bool.eq_false_iff.mpr c115
          subst c115
          have H1 : (chaselaw1_ShinglesLike.j4 kj63 false) = some r := by rw [if_neg (show ¬ (false = true) by decide)] at H; exact H
          clear H
          have H := H1
          clear H1
          have H' := Aside0.mk H
          clear H
          go_wp2_with (first | ((with_reducible refine gate_callee (f := 15) rfl ?_); refine goesL_ (some 134) rfl rfl Try.func15 (by kernel_rfl) rfl #[] rfl (by (try simp only [List.map_toArray, List.map_cons, List.map_nil]); first | done | rfl | (simp only [List.length_drop, List.length_take]; rfl)) ?_; (with_reducible refine (chaselaw1_nears.calls kj63  false _ A114.out).mono ?_); rintro e w128 ⟨rfl, hb⟩; refine ⟨_, rfl, ?_⟩; have n0_ := Aside0.mk (blk_below (g := gb348) (o := .cells #[.int .i64 t345, .int .i64 t346] 35 (0, 0)) (by (with_reducible repeat (first | refine blk_drewN ?_ _ | refine blk_drew ?_ | refine blk_alloc ?_ _)); exact BK348.out) hb); have n1_ := Aside0.mk (blk_below (g := gb352) (o := .cells #[.int .i64 t349, .int .i64 t350] 35 (0, 0)) (by (with_reducible repeat (first | refine blk_drewN ?_ _ | refine blk_drew ?_ | refine blk_alloc ?_ _)); exact BK352.out) hb); have n2_ := Aside0.mk (blk_below (g := gb377) (o := .cells #[.int .i64 t363, .int .i64 t365] 35 (0, 0)) (by (with_reducible repeat (first | refine blk_drewN ?_ _ | refine blk_drew ?_ | refine blk_alloc ?_ _)); exact BK377.out) hb); have n3_ := Aside0.mk (blk_below (g := gb378) (o := .cells #[.int .i64 t370, .int .i64 t375] 35 (0, 0)) (by (with_reducible repeat (first | refine blk_drewN ?_ _ | refine blk_drew ?_ | refine blk_alloc ?_ _)); exact BK378.out) hb); have n4_ := Aside0.mk (below_step (by repeat (first | (with_reducible first | exact HB.out | apply below_alloc | apply pw_below_drewN | apply below_drew1 | refine below_set ?_ GE348.out | refine below_set ?_ GE352.out | refine below_set ?_ GE377.out | refine below_set ?_ GE378.out) | exact HB.out)) hb); clear BK348; clear BK352; clear BK377; clear BK378; clear HB; have BK348 := n0_; have BK352 := n1_; have BK377 := n2_; have BK378 := n3_; have HB := n4_; clear n0_ n1_ n2_ n3_ n4_; (try clear hb); (try clear hb2); (try clear hk); (try clear hi)))
          go_meet
          case rel => exact ⟨_, (false), (by first | rfl | (simp; done) | (simp [*]; done)), H', ⟨by have := HJ9.out; have := HJ63.out; first | omega | exact Nat.le_refl _⟩, ⟨by (with_reducible repeat (first | refine blk_drewN ?_ _ | refine blk_drew ?_ | refine blk_alloc ?_ _)); exact BK348.out⟩, ⟨by (with_reducible repeat (first | refine blk_drewN ?_ _ | refine blk_drew ?_ | refine blk_alloc ?_ _)); exact BK352.out⟩, ⟨by (with_reducible repeat (first | refine blk_drewN ?_ _ | refine blk_drew ?_ | refine blk_alloc ?_ _)); exact BK377.out⟩, ⟨by (with_reducible repeat (first | refine blk_drewN ?_ _ | refine blk_drew ?_ | refine blk_alloc ?_ _)); exact BK378.out⟩, ⟨by repeat (first | (with_reducible first | exact HB.out | apply below_alloc | apply pw_below_drewN | apply below_drew1 | refine below_set ?_ GE348.out | refine below_set ?_ GE352.out | refine below_set ?_ GE377.out | refine below_set ?_ GE378.out) | exact HB.out)⟩⟩
        case rest =>
         clear HC113
         try clear c1
         try clear c2
         try clear p2
         try clear c5
         try clear c7
         try clear c8
         try clear c9
         try clear c10
         try clear c11
         try clear c12
         try clear c15
         try clear c25
         try clear c25b0
         try clear c25b1
         try clear c26
         try clear c26b0
         try clear c26b1
         try clear c27
         try clear c28
         try clear c58
         try clear c77
         try clear c78
         try clear c79
         try clear c80
         try clear c82
         try clear c83
         try clear c84
         try clear c88
         try clear c90
         try clear c91
         try clear c92
         try clear c93
         try clear c96
         try clear c97
         try clear c98
         try clear c101
         try clear c102
         try clear c103
         try clear c104
         try clear c107
         try clear c110
         try clear c115
         try clear c116
         try clear c116b0
         try clear c116b1
         try clear c119
         try clear c120
         try clear c121
         try clear c123
         try clear c124
         try clear hcz105_0
         try clear hcz105_1
         try clear hcz122_0
         try clear hcz122_1
         try clear hcz125_0
         try clear hcz125_1
         try clear hcz81_0
         try clear hcz81_1
         try clear hcz85_0
         try clear hcz85_1
         try clear hcz94_0
         try clear hcz94_1
         try clear hcz99_0
         try clear hcz99_1
         try clear hfz105_0
         try clear hfz105_1
         try clear hfz122_0
         try clear hfz122_1
         try clear hfz125_0
         try clear hfz125_1
         try clear hfz81_0
         try clear hfz81_1
         try clear hfz85_0
         try clear hfz85_1
         try clear hfz94_0
         try clear hfz94_1
         try clear hfz99_0
         try clear hfz99_1
         try clear p2
         obtain ⟨kq, x2_112, rfl, HA, HJ112, BK348, BK352, BK377, BK378, HB⟩ := hcut
         cases kq with
         | zero => exact absurd HA.out (by simp [chaselaw1_ShinglesLike.j4])
         | succ kj112 =>
          have H := HA.out
          clear HA
          simp only [chaselaw1_ShinglesLike.j4] at H
          obtain rfl := Option.some.inj H
          go_wp2
          go_ret
          exact ⟨by first | rfl | (simp [errW_none, errW_some] <;> rfl) | (simp [*, errW_none, errW_some] <;> rfl), by repeat (first | (with_reducible first | exact HB.out | apply below_alloc | apply pw_below_drewN | apply below_drew1 | refine below_set ?_ GE348.out | refine below_set ?_ GE352.out | refine below_set ?_ GE377.out | refine below_set ?_ GE378.out) | exact HB.out)⟩
 ·rw [if_neg c9] at H
  have c9b0 : (t353 == 0) = false := beq_eq_false_iff_ne.mpr c9
  have c9b1 : (t353 != 0) = true := bne_iff_ne.mpr c9
  have HC129 := Aside0.mk H
  clear H
  go_enter Try.func4, Try.ntmps4
  go_upto_region 9 with (first | ((with_reducible refine gate_dst (N := 20) rfl ?_); refine box_event ?hg (N := 20) ?hd (cs := #[.slice A0 l0.length c0, .int .i64 0]) (t := 25) ?hr ?_; (case hd => rfl); (case hg => rfl); (case hr => first | (go_simp; done) | (go_simp; rfl)); intro gb334 hg w130 hbox hb; have n0_ := Aside0.mk (below_step (by repeat (first | (with_reducible first | exact HB.out | apply below_alloc | apply pw_below_drewN | apply below_drew1) | exact HB.out)) hb); have n1_ := Aside0.mk ((⟨_, _, hbox, (by rw [hg]; exact (below_size (by repeat (first | (with_reducible first | exact HB.out | apply below_alloc | apply pw_below_drewN | apply below_drew1) | exact HB.out)))), HR0.out⟩ : IsS25 w _ gb334 l0 0)); clear HB; have HB := n0_; have HI334 := n1_; clear n0_ n1_; clear hb hbox hg) | ((with_reducible refine gate_callee (f := 6) rfl ?_); refine goesL_ (some 22) rfl rfl Try.func6 (by kernel_rfl) rfl #[.pointer (some ⟨gb334, 0, none⟩), .int .i64 12] rfl (by (try simp only [List.map_toArray, List.map_cons, List.map_nil]); first | done | rfl | (simp only [List.length_drop, List.length_take]; rfl)) ?_; (with_reducible refine (chasemake_Stream_Prose.calls k gb334 l0 0 12 t335 t336 w _ ?side1 ?side2 A2.out).mono ?_); (case side1 => repeat (first | (with_reducible first | exact HI334.out | apply IsS25.alloc | apply IsS25.drewN | apply IsS25.drew | apply IsS25.set_1) | exact HI334.out)); (case side2 => repeat (first | (with_reducible first | exact HB.out | apply below_alloc | apply pw_below_drewN | apply below_drew1 | refine below_set ?_ (IsS25.ge HI334.out)) | exact HB.out)); rintro e w131 ⟨rfl, hi, hb, hk⟩; refine ⟨_, rfl, ?_⟩; have n0_ := Aside0.mk (hb); have n1_ := Aside0.mk (hi); clear HB; clear HI334; have HB := n0_; have HI334 := n1_; clear n0_ n1_; (try clear hb); (try clear hb2); (try clear hk); (try clear hi)) | ((with_reducible refine gate_callee (f := 7) rfl ?_); refine goesL_ (some 24) rfl rfl Try.func7 (by kernel_rfl) rfl #[.pointer (some ⟨gb334, 0, none⟩)] rfl (by (try simp only [List.map_toArray, List.map_cons, List.map_nil]); first | done | rfl | (simp only [List.length_drop, List.length_take]; rfl)) ?_; (with_reducible refine (chasemake_Stream_Size.calls gb334 l0 t336 t337 t338 w _ ?side1 ?side2 A3.out).mono ?_); (case side1 => repeat (first | (with_reducible first | exact HI334.out | apply IsS25.alloc | apply IsS25.drewN | apply IsS25.drew | apply IsS25.set_1) | exact HI334.out)); (case side2 => repeat (first | (with_reducible first | exact HB.out | apply below_alloc | apply pw_below_drewN | apply below_drew1 | refine below_set ?_ (IsS25.ge HI334.out)) | exact HB.out)); rintro e w132 ⟨rfl, hi, hb, hk⟩; refine ⟨_, rfl, ?_⟩; have n0_ := Aside0.mk (hb); have n1_ := Aside0.mk (hi); clear HB; clear HI334; have HB := n0_; have HI334 := n1_; clear n0_ n1_; (try clear hb); (try clear hb2); (try clear hk); (try clear hi)) | ((with_reducible refine gate_callee (f := 16) rfl ?_); refine goesL_ (some 27) rfl rfl Try.func16 (by kernel_rfl) rfl #[.pointer (some ⟨gb334, 0, none⟩), .string t335, .string (⟨#[97, 98, 32, 120]⟩ : ByteArray)] rfl (by (try simp only [List.map_toArray, List.map_cons, List.map_nil]); first | done | rfl | (simp only [List.length_drop, List.length_take]; rfl)) ?_; (with_reducible refine (chasemake_Stream_Changed.calls k gb334 l0 t338 t335 (⟨#[97, 98, 32, 120]⟩ : ByteArray) t339 t340 w _ ?side1 ?side2 A4.out).mono ?_); (case side1 => repeat (first | (with_reducible first | exact HI334.out | apply IsS25.alloc | apply IsS25.drewN | apply IsS25.drew | apply IsS25.set_1) | exact HI334.out)); (case side2 => repeat (first | (with_reducible first | exact HB.out | apply below_alloc | apply pw_below_drewN | apply below_drew1 | refine below_set ?_ (IsS25.ge HI334.out)) | exact HB.out)); rintro e w133 ⟨rfl, hi, hb, hk⟩; refine ⟨_, rfl, ?_⟩; have n0_ := Aside0.mk (hb); have n1_ := Aside0.mk (hi); clear HB; clear HI334; have HB := n0_; have HI334 := n1_; clear n0_ n1_; (try clear hb); (try clear hb2); (try clear hk); (try clear hi)) | ((with_reducible refine gate_callee (f := 17) rfl ?_); refine goesL_ (some 31) rfl rfl Try.func17 (by kernel_rfl) rfl #[.string t335, .int .i64 t337] rfl (by (try simp only [List.map_toArray, List.map_cons, List.map_nil]); first | done | rfl | (simp only [List.length_drop, List.length_take]; rfl)) ?_; (with_reducible refine (near_Shingles.calls k t335 t337 t341 t342 _ A5.out).mono ?_); rintro e w134 ⟨v343, rfl, ho0, hb⟩; refine ⟨_, rfl, ?_⟩; have n0_ := Aside0.mk (Kd.R_lower ho0 (below_size (by repeat (first | (with_reducible first | exact HB.out | apply below_alloc | apply pw_below_drewN | apply below_drew1 | refine below_set ?_ (IsS25.ge HI334.out)) | exact HB.out)))); have n1_ := Aside0.mk (IsS25.below (by repeat (first | (with_reducible first | exact HI334.out | apply IsS25.alloc | apply IsS25.drewN | apply IsS25.drew | apply IsS25.set_1) | exact HI334.out)) hb); have n2_ := Aside0.mk (below_step (by repeat (first | (with_reducible first | exact HB.out | apply below_alloc | apply pw_below_drewN | apply below_drew1 | refine below_set ?_ (IsS25.ge HI334.out)) | exact HB.out)) hb); clear HI334; clear HB; have HO344 := n0_; have HI334 := n1_; have HB := n2_; clear n0_ n1_ n2_; (try clear hb); (try clear hb2); (try clear hk); (try clear hi); (try clear ho0)) | ((with_reducible refine gate_callee (f := 18) rfl ?_); refine goesL_ (some 38) rfl rfl Try.func18 (by kernel_rfl) rfl #[.string t335, .string t339, .int .i64 t337] rfl (by (try simp only [List.map_toArray, List.map_cons, List.map_nil]); first | done | rfl | (simp only [List.length_drop, List.length_take]; rfl)) ?_; (with_reducible refine (near_Resemblance.calls k t335 t339 t337 t345 t346 t347 _ A6.out).mono ?_); rintro e w135 ⟨rfl, hb⟩; refine ⟨_, rfl, ?_⟩; have n0_ := Aside0.mk (Kd.R_below (by (with_reducible repeat (first | apply Kd.R_alloc | apply Kd.R_drewN | apply Kd.R_drew)); exact HO344.out) hb); have n1_ := Aside0.mk (IsS25.below (by repeat (first | (with_reducible first | exact HI334.out | apply IsS25.alloc | apply IsS25.drewN | apply IsS25.drew | apply IsS25.set_1) | exact HI334.out)) hb); have n2_ := Aside0.mk (below_step (by repeat (first | (with_reducible first | exact HB.out | apply below_alloc | apply pw_below_drewN | apply below_drew1 | refine below_set ?_ (IsS25.ge HI334.out)) | exact HB.out)) hb); clear HO344; clear HI334; clear HB; have HO344 := n0_; have HI334 := n1_; have HB := n2_; clear n0_ n1_ n2_; (try clear hb); (try clear hb2); (try clear hk); (try clear hi)) | ((with_reducible refine gate_dst (N := 9) rfl ?_); refine box_event ?hg (N := 9) ?hd (cs := #[.int .i64 0, .int .i64 0]) (t := 35) ?hr ?_; (case hd => rfl); (case hg => rfl); (case hr => first | (go_simp; done) | (go_simp; rfl)); intro gb348 hg w136 hbox hb; have n0_ := Aside0.mk (Kd.R_below (by (with_reducible repeat (first | apply Kd.R_alloc | apply Kd.R_drewN | apply Kd.R_drew)); exact HO344.out) hb); have n1_ := Aside0.mk (IsS25.below (by repeat (first | (with_reducible first | exact HI334.out | apply IsS25.alloc | apply IsS25.drewN | apply IsS25.drew | apply IsS25.set_1) | exact HI334.out)) hb); have n2_ := Aside0.mk (below_step (by repeat (first | (with_reducible first | exact HB.out | apply below_alloc | apply pw_below_drewN | apply below_drew1 | refine below_set ?_ (IsS25.ge HI334.out)) | exact HB.out)) hb); have n3_ := Aside0.mk (hbox); have n4_ := Aside0.mk ((by rw [hg]; exact (below_size (by repeat (first | (with_reducible first | exact HB.out | apply below_alloc | apply pw_below_drewN | apply below_drew1 | refine below_set ?_ (IsS25.ge HI334.out)) | exact HB.out))) : w.heap.size ≤ gb348)); have n5_ := Aside0.mk ((by rw [hg]; exact (below_size (by repeat (first | (with_reducible first | exact HB.out | apply below_alloc | apply pw_below_drewN | apply below_drew1 | refine below_set ?_ (IsS25.ge HI334.out)) | exact HB.out))) : w.heap.size ≤ gb348)); have n6_ := Aside0.mk ((by rw [hg]; exact Nat.ne_of_lt (IsS25.lt (show IsS25 w _ gb334 l0 t340 from by repeat (first | (with_reducible first | exact HI334.out | apply IsS25.alloc | apply IsS25.drewN | apply IsS25.drew | apply IsS25.set_1) | exact HI334.out))) : gb334 ≠ gb348)); have n7_ := Aside0.mk ((by rw [hg]; exact Nat.ne_of_gt (IsS25.lt (show IsS25 w _ gb334 l0 t340 from by repeat (first | (with_reducible first | exact HI334.out | apply IsS25.alloc | apply IsS25.drewN | apply IsS25.drew | apply IsS25.set_1) | exact HI334.out))) : gb348 ≠ gb334)); clear HO344; clear HI334; clear HB; have HO344 := n0_; have HI334 := n1_; have HB := n2_; have BK348 := n3_; have GW348 := n4_; have GE348 := n5_; have NB334_348 := n6_; have NB348_334 := n7_; clear n0_ n1_ n2_ n3_ n4_ n5_ n6_ n7_; clear hb hbox hg; have hnb137 := NB348_334.out; have hnc137 := NB334_348.out; have hcz138_0 : w136.cell? ⟨gb348, 0, none⟩ = some (.int .i64 0) := (blk_cell BK348.out 0).trans rfl; have hcz138_1 : w136.cell? ⟨gb348, 1, none⟩ = some (.int .i64 0) := (blk_cell BK348.out 1).trans rfl; have hfz138_0 := blk_frozen BK348.out 0; have hfz138_1 := blk_frozen BK348.out 1) | ((with_reducible refine gate_callee (f := 19) rfl ?_); refine goesL_ (some 45) rfl rfl Try.func19 (by kernel_rfl) rfl #[.string t335, .string t339, .int .i64 t337] rfl (by (try simp only [List.map_toArray, List.map_cons, List.map_nil]); first | done | rfl | (simp only [List.length_drop, List.length_take]; rfl)) ?_; (with_reducible refine (near_Containment.calls k t335 t339 t337 t349 t350 t351 _ A7.out).mono ?_); rintro e w139 ⟨rfl, hb⟩; refine ⟨_, rfl, ?_⟩; have n0_ := Aside0.mk (Kd.R_below (by (with_reducible repeat (first | apply Kd.R_alloc | apply Kd.R_drewN | apply Kd.R_drew)); exact (Kd.R_mono (Kd.R_far (p := ⟨gb348, 1, none⟩) (Kd.R_far (p := ⟨gb348, 0, none⟩) (Kd.R_types HO344.out BK348.out (by decide)) (fun _ hk => hk.2) (.int .i64 t345)) (fun _ hk => hk.2) (.int .i64 t346)) (fun _ h_ => h_.1))) hb); have n1_ := Aside0.mk (IsS25.below (show IsS25 w _ gb334 l0 t340 from by repeat (first | (with_reducible first | exact HI334.out | apply IsS25.alloc | apply IsS25.drewN | apply IsS25.drew | apply IsS25.set_1 | refine IsS25.far ?_ NB334_348.out _) | exact HI334.out)) hb); have n2_ := Aside0.mk (blk_below (g := gb348) (o := .cells #[.int .i64 t345, .int .i64 t346] 35 (0, 0)) (by (with_reducible repeat (first | refine blk_drewN ?_ _ | refine blk_drew ?_ | refine blk_alloc ?_ _)); refine blk_put (cs := #[.int .i64 t345, .int .i64 0]) ?_ 1 _ rfl; (with_reducible repeat (first | refine blk_drewN ?_ _ | refine blk_drew ?_ | refine blk_alloc ?_ _)); refine blk_put (cs := #[.int .i64 0, .int .i64 0]) ?_ 0 _ rfl; (with_reducible repeat (first | refine blk_drewN ?_ _ | refine blk_drew ?_ | refine blk_alloc ?_ _)); exact BK348.out) hb); have n3_ := Aside0.mk (below_step (by repeat (first | (with_reducible first | exact HB.out | apply below_alloc | apply pw_below_drewN | apply below_drew1 | refine below_set ?_ (IsS25.ge HI334.out) | refine below_set ?_ GE348.out) | exact HB.out)) hb); clear HO344; clear HI334; clear BK348; clear HB; have HO344 := n0_; have HI334 := n1_; have BK348 := n2_; have HB := n3_; clear n0_ n1_ n2_ n3_; (try clear hb); (try clear hb2); (try clear hk); (try clear hi)) | ((with_reducible refine gate_dst (N := 11) rfl ?_); refine box_event ?hg (N := 11) ?hd (cs := #[.int .i64 0, .int .i64 0]) (t := 35) ?hr ?_; (case hd => rfl); (case hg => rfl); (case hr => first | (go_simp; done) | (go_simp; rfl)); intro gb352 hg w140 hbox hb; have n0_ := Aside0.mk (Kd.R_below (by (with_reducible repeat (first | apply Kd.R_alloc | apply Kd.R_drewN | apply Kd.R_drew)); exact HO344.out) hb); have n1_ := Aside0.mk (IsS25.below (by repeat (first | (with_reducible first | exact HI334.out | apply IsS25.alloc | apply IsS25.drewN | apply IsS25.drew | apply IsS25.set_1 | refine IsS25.far ?_ NB334_348.out _) | exact HI334.out)) hb); have n2_ := Aside0.mk (blk_below (g := gb348) (o := .cells #[.int .i64 t345, .int .i64 t346] 35 (0, 0)) (by (with_reducible repeat (first | refine blk_drewN ?_ _ | refine blk_drew ?_ | refine blk_alloc ?_ _)); exact BK348.out) hb); have n3_ := Aside0.mk (below_step (by repeat (first | (with_reducible first | exact HB.out | apply below_alloc | apply pw_below_drewN | apply below_drew1 | refine below_set ?_ (IsS25.ge HI334.out) | refine below_set ?_ GE348.out) | exact HB.out)) hb); have n4_ := Aside0.mk (hbox); have n5_ := Aside0.mk ((by rw [hg]; exact (below_size (by repeat (first | (with_reducible first | exact HB.out | apply below_alloc | apply pw_below_drewN | apply below_drew1 | refine below_set ?_ (IsS25.ge HI334.out) | refine below_set ?_ GE348.out) | exact HB.out))) : w.heap.size ≤ gb352)); have n6_ := Aside0.mk ((by rw [hg]; exact (below_size (by repeat (first | (with_reducible first | exact HB.out | apply below_alloc | apply pw_below_drewN | apply below_drew1 | refine below_set ?_ (IsS25.ge HI334.out) | refine below_set ?_ GE348.out) | exact HB.out))) : w.heap.size ≤ gb352)); have n7_ := Aside0.mk ((by rw [hg]; exact Nat.ne_of_lt (blk_lt (g := gb348) (o := .cells #[.int .i64 t345, .int .i64 t346] 35 (0, 0)) (by (with_reducible repeat (first | refine blk_drewN ?_ _ | refine blk_drew ?_ | refine blk_alloc ?_ _)); exact BK348.out)) : gb348 ≠ gb352)); have n8_ := Aside0.mk ((by rw [hg]; exact Nat.ne_of_gt (blk_lt (g := gb348) (o := .cells #[.int .i64 t345, .int .i64 t346] 35 (0, 0)) (by (with_reducible repeat (first | refine blk_drewN ?_ _ | refine blk_drew ?_ | refine blk_alloc ?_ _)); exact BK348.out)) : gb352 ≠ gb348)); have n9_ := Aside0.mk ((by rw [hg]; exact Nat.ne_of_lt (IsS25.lt (show IsS25 w _ gb334 l0 t340 from by repeat (first | (with_reducible first | exact HI334.out | apply IsS25.alloc | apply IsS25.drewN | apply IsS25.drew | apply IsS25.set_1 | refine IsS25.far ?_ NB334_348.out _) | exact HI334.out))) : gb334 ≠ gb352)); have n10_ := Aside0.mk ((by rw [hg]; exact Nat.ne_of_gt (IsS25.lt (show IsS25 w _ gb334 l0 t340 from by repeat (first | (with_reducible first | exact HI334.out | apply IsS25.alloc | apply IsS25.drewN | apply IsS25.drew | apply IsS25.set_1 | refine IsS25.far ?_ NB334_348.out _) | exact HI334.out))) : gb352 ≠ gb334)); clear HO344; clear HI334; clear BK348; clear HB; have HO344 := n0_; have HI334 := n1_; have BK348 := n2_; have HB := n3_; have BK352 := n4_; have GW352 := n5_; have GE352 := n6_; have NB348_352 := n7_; have NB352_348 := n8_; have NB334_352 := n9_; have NB352_334 := n10_; clear n0_ n1_ n2_ n3_ n4_ n5_ n6_ n7_ n8_ n9_ n10_; clear hb hbox hg; have hnb141 := NB352_348.out; have hnc141 := NB348_352.out; have hnb142 := NB352_334.out; have hnc142 := NB334_352.out; have hcz143_0 : w140.cell? ⟨gb352, 0, none⟩ = some (.int .i64 0) := (blk_cell BK352.out 0).trans rfl; have hcz143_1 : w140.cell? ⟨gb352, 1, none⟩ = some (.int .i64 0) := (blk_cell BK352.out 1).trans rfl; have hfz143_0 := blk_frozen BK352.out 0; have hfz143_1 := blk_frozen BK352.out 1) | ((with_reducible refine gate_callee (f := 20) rfl ?_); refine goesL_ (some 50) rfl rfl Try.func20 (by kernel_rfl) rfl #[.string t335, .int .i64 t337] rfl (by (try simp only [List.map_toArray, List.map_cons, List.map_nil]); first | done | rfl | (simp only [List.length_drop, List.length_take]; rfl)) ?_; (with_reducible refine (chaseref1_ShinglesFault.calls t335 t337 t353 _ A8.out).mono ?_); rintro e w' ⟨rfl, ⟨nd, rfl⟩⟩; refine ⟨_, rfl, ?_⟩))
  (try simp only [Act.put, List.setIfInBounds_toArray, List.set_cons_zero, List.set_cons_succ])
  go_cut [2] (fun v2 wc => ∃ (kq : Nat) (x2_128 : Bool), v2 = .bool x2_128 ∧ Aside0 (chaselaw1_ShinglesLike.j0 kq x2_128 = some r) ∧ Aside0 (kq ≤ k) ∧ Aside0 (wc.heap[gb348]? = some (.cells #[.int .i64 t345, .int .i64 t346] 35 (0, 0))) ∧ Aside0 (wc.heap[gb352]? = some (.cells #[.int .i64 t349, .int .i64 t350] 35 (0, 0))) ∧ Aside0 (Below w.heap.size w wc))
  case first =>
   have H := HC129.out
   clear HC129
   replace H := Option.bind_eq_some_iff.mp H
   obtain ⟨t354, A1440, H⟩ := H
   replace H : (if t354 = true then (if t342 = t353 then (if t347 = t353 then (chaselaw1_ShinglesLike.j0 k (t351 == t353)) else (chaselaw1_ShinglesLike.j0 k false)) else (chaselaw1_ShinglesLike.j0 k false)) else (chaselaw1_ShinglesLike.j0 k false)) = some r := H
   have A144 := Aside0.mk A1440
   clear A1440
   by_cases c145 : t354 = true
   ·subst c145
    have H1 : (if t342 = t353 then (if t347 = t353 then (chaselaw1_ShinglesLike.j0 k (t351 == t353)) else (chaselaw1_ShinglesLike.j0 k false)) else (chaselaw1_ShinglesLike.j0 k false)) = some r := by rw [if_pos rfl] at H; exact H
    clear H
    have H := H1
    clear H1
    by_cases c146 : t342 = t353
    ·rw [if_pos c146] at H
     have c146b0 : (t342 == t353) = true := beq_iff_eq.mpr c146
     have c146b1 : (t342 != t353) = false := bne_eq_false_iff_eq.mpr c146
     clear c146
     (first | rw [c146b0] | (simp only [i64_w, i32_w]; rw [c146b0]) | skip)
     by_cases c147 : t347 = t353
     ·rw [if_pos c147] at H
      have c147b0 : (t347 == t353) = true := beq_iff_eq.mpr c147
      have c147b1 : (t347 != t353) = false := bne_eq_false_iff_eq.mpr c147
      clear c147
      have H' := Aside0.mk H
      clear H
      go_wp2_with (first | ((with_reducible refine gate_callee (f := 15) rfl ?_); refine goesL_ (some 53) rfl rfl Try.func15 (by kernel_rfl) rfl #[] rfl (by (try simp only [List.map_toArray, List.map_cons, List.map_nil]); first | done | rfl | (simp only [List.length_drop, List.length_take]; rfl)) ?_; (with_reducible refine (chaselaw1_nears.calls k  true _ A144.out).mono ?_); rintro e w148 ⟨rfl, hb⟩; refine ⟨_, rfl, ?_⟩; have n0_ := Aside0.mk (Kd.R_below (by (with_reducible repeat (first | apply Kd.R_alloc | apply Kd.R_drewN | apply Kd.R_drew)); exact (Kd.R_mono (Kd.R_far (p := ⟨gb352, 1, none⟩) (Kd.R_far (p := ⟨gb352, 0, none⟩) (Kd.R_types HO344.out BK352.out (by decide)) (fun _ hk => hk.2) (.int .i64 t349)) (fun _ hk => hk.2) (.int .i64 t350)) (fun _ h_ => h_.1))) hb); have n1_ := Aside0.mk (IsS25.below (show IsS25 w _ gb334 l0 t340 from by repeat (first | (with_reducible first | exact HI334.out | apply IsS25.alloc | apply IsS25.drewN | apply IsS25.drew | apply IsS25.set_1 | refine IsS25.far ?_ NB334_348.out _ | refine IsS25.far ?_ NB334_352.out _) | exact HI334.out)) hb); have n2_ := Aside0.mk (blk_below (g := gb348) (o := .cells #[.int .i64 t345, .int .i64 t346] 35 (0, 0)) (by (with_reducible repeat (first | refine blk_drewN ?_ _ | refine blk_drew ?_ | refine blk_alloc ?_ _)); refine blk_far ?_ NB348_352.out _; (with_reducible repeat (first | refine blk_drewN ?_ _ | refine blk_drew ?_ | refine blk_alloc ?_ _)); refine blk_far ?_ NB348_352.out _; (with_reducible repeat (first | refine blk_drewN ?_ _ | refine blk_drew ?_ | refine blk_alloc ?_ _)); exact BK348.out) hb); have n3_ := Aside0.mk (blk_below (g := gb352) (o := .cells #[.int .i64 t349, .int .i64 t350] 35 (0, 0)) (by (with_reducible repeat (first | refine blk_drewN ?_ _ | refine blk_drew ?_ | refine blk_alloc ?_ _)); refine blk_put (cs := #[.int .i64 t349, .int .i64 0]) ?_ 1 _ rfl; (with_reducible repeat (first | refine blk_drewN ?_ _ | refine blk_drew ?_ | refine blk_alloc ?_ _)); refine blk_put (cs := #[.int .i64 0, .int .i64 0]) ?_ 0 _ rfl; (with_reducible repeat (first | refine blk_drewN ?_ _ | refine blk_drew ?_ | refine blk_alloc ?_ _)); exact BK352.out) hb); have n4_ := Aside0.mk (below_step (by repeat (first | (with_reducible first | exact HB.out | apply below_alloc | apply pw_below_drewN | apply below_drew1 | refine below_set ?_ (IsS25.ge HI334.out) | refine below_set ?_ GE348.out | refine below_set ?_ GE352.out) | exact HB.out)) hb); clear HO344; clear HI334; clear BK348; clear BK352; clear HB; have HO344 := n0_; have HI334 := n1_; have BK348 := n2_; have BK352 := n3_; have HB := n4_; clear n0_ n1_ n2_ n3_ n4_; (try clear hb); (try clear hb2); (try clear hk); (try clear hi)))
      go_meet
      case rel => exact ⟨_, ((t351 == t353)), (by first | rfl | (simp; done) | (simp [*]; done)), H', ⟨by first | omega | exact Nat.le_refl _⟩, ⟨by (with_reducible repeat (first | refine blk_drewN ?_ _ | refine blk_drew ?_ | refine blk_alloc ?_ _)); exact BK348.out⟩, ⟨by (with_reducible repeat (first | refine blk_drewN ?_ _ | refine blk_drew ?_ | refine blk_alloc ?_ _)); exact BK352.out⟩, ⟨by repeat (first | (with_reducible first | exact HB.out | apply below_alloc | apply pw_below_drewN | apply below_drew1 | refine below_set ?_ (IsS25.ge HI334.out) | refine below_set ?_ GE348.out | refine below_set ?_ GE352.out) | exact HB.out)⟩⟩
     ·rw [if_neg c147] at H
      have c147b0 : (t347 == t353) = false := beq_eq_false_iff_ne.mpr c147
      have c147b1 : (t347 != t353) = true := bne_iff_ne.mpr c147
      have H' := Aside0.mk H
      clear H
      go_wp2_with (first | ((with_reducible refine gate_callee (f := 15) rfl ?_); refine goesL_ (some 53) rfl rfl Try.func15 (by kernel_rfl) rfl #[] rfl (by (try simp only [List.map_toArray, List.map_cons, List.map_nil]); first | done | rfl | (simp only [List.length_drop, List.length_take]; rfl)) ?_; (with_reducible refine (chaselaw1_nears.calls k  true _ A144.out).mono ?_); rintro e w149 ⟨rfl, hb⟩; refine ⟨_, rfl, ?_⟩; have n0_ := Aside0.mk (Kd.R_below (by (with_reducible repeat (first | apply Kd.R_alloc | apply Kd.R_drewN | apply Kd.R_drew)); exact (Kd.R_mono (Kd.R_far (p := ⟨gb352, 1, none⟩) (Kd.R_far (p := ⟨gb352, 0, none⟩) (Kd.R_types HO344.out BK352.out (by decide)) (fun _ hk => hk.2) (.int .i64 t349)) (fun _ hk => hk.2) (.int .i64 t350)) (fun _ h_ => h_.1))) hb); have n1_ := Aside0.mk (IsS25.below (show IsS25 w _ gb334 l0 t340 from by repeat (first | (with_reducible first | exact HI334.out | apply IsS25.alloc | apply IsS25.drewN | apply IsS25.drew | apply IsS25.set_1 | refine IsS25.far ?_ NB334_348.out _ | refine IsS25.far ?_ NB334_352.out _) | exact HI334.out)) hb); have n2_ := Aside0.mk (blk_below (g := gb348) (o := .cells #[.int .i64 t345, .int .i64 t346] 35 (0, 0)) (by (with_reducible repeat (first | refine blk_drewN ?_ _ | refine blk_drew ?_ | refine blk_alloc ?_ _)); refine blk_far ?_ NB348_352.out _; (with_reducible repeat (first | refine blk_drewN ?_ _ | refine blk_drew ?_ | refine blk_alloc ?_ _)); refine blk_far ?_ NB348_352.out _; (with_reducible repeat (first | refine blk_drewN ?_ _ | refine blk_drew ?_ | refine blk_alloc ?_ _)); exact BK348.out) hb); have n3_ := Aside0.mk (blk_below (g := gb352) (o := .cells #[.int .i64 t349, .int .i64 t350] 35 (0, 0)) (by (with_reducible repeat (first | refine blk_drewN ?_ _ | refine blk_drew ?_ | refine blk_alloc ?_ _)); refine blk_put (cs := #[.int .i64 t349, .int .i64 0]) ?_ 1 _ rfl; (with_reducible repeat (first | refine blk_drewN ?_ _ | refine blk_drew ?_ | refine blk_alloc ?_ _)); refine blk_put (cs := #[.int .i64 0, .int .i64 0]) ?_ 0 _ rfl; (with_reducible repeat (first | refine blk_drewN ?_ _ | refine blk_drew ?_ | refine blk_alloc ?_ _)); exact BK352.out) hb); have n4_ := Aside0.mk (below_step (by repeat (first | (with_reducible first | exact HB.out | apply below_alloc | apply pw_below_drewN | apply below_drew1 | refine below_set ?_ (IsS25.ge HI334.out) | refine below_set ?_ GE348.out | refine below_set ?_ GE352.out) | exact HB.out)) hb); clear HO344; clear HI334; clear BK348; clear BK352; clear HB; have HO344 := n0_; have HI334 := n1_; have BK348 := n2_; have BK352 := n3_; have HB := n4_; clear n0_ n1_ n2_ n3_ n4_; (try clear hb); (try clear hb2); (try clear hk); (try clear hi)))
      go_meet
      case rel => exact ⟨_, (false), (by first | rfl | (simp; done) | (simp [*]; done)), H', ⟨by first | omega | exact Nat.le_refl _⟩, ⟨by (with_reducible repeat (first | refine blk_drewN ?_ _ | refine blk_drew ?_ | refine blk_alloc ?_ _)); exact BK348.out⟩, ⟨by (with_reducible repeat (first | refine blk_drewN ?_ _ | refine blk_drew ?_ | refine blk_alloc ?_ _)); exact BK352.out⟩, ⟨by repeat (first | (with_reducible first | exact HB.out | apply below_alloc | apply pw_below_drewN | apply below_drew1 | refine below_set ?_ (IsS25.ge HI334.out) | refine below_set ?_ GE348.out | refine below_set ?_ GE352.out) | exact HB.out)⟩⟩
    ·rw [if_neg c146] at H
     have c146b0 : (t342 == t353) = false := beq_eq_false_iff_ne.mpr c146
     have c146b1 : (t342 != t353) = true := bne_iff_ne.mpr c146
     (first | rw [c146b0] | (simp only [i64_w, i32_w]; rw [c146b0]) | skip)
     have H' := Aside0.mk H
     clear H
     go_wp2_with (first | ((with_reducible refine gate_callee (f := 15) rfl ?_); refine goesL_ (some 53) rfl rfl Try.func15 (by kernel_rfl) rfl #[] rfl (by (try simp only [List.map_toArray, List.map_cons, List.map_nil]); first | done | rfl | (simp only [List.length_drop, List.length_take]; rfl)) ?_; (with_reducible refine (chaselaw1_nears.calls k  true _ A144.out).mono ?_); rintro e w150 ⟨rfl, hb⟩; refine ⟨_, rfl, ?_⟩; have n0_ := Aside0.mk (Kd.R_below (by (with_reducible repeat (first | apply Kd.R_alloc | apply Kd.R_drewN | apply Kd.R_drew)); exact (Kd.R_mono (Kd.R_far (p := ⟨gb352, 1, none⟩) (Kd.R_far (p := ⟨gb352, 0, none⟩) (Kd.R_types HO344.out BK352.out (by decide)) (fun _ hk => hk.2) (.int .i64 t349)) (fun _ hk => hk.2) (.int .i64 t350)) (fun _ h_ => h_.1))) hb); have n1_ := Aside0.mk (IsS25.below (show IsS25 w _ gb334 l0 t340 from by repeat (first | (with_reducible first | exact HI334.out | apply IsS25.alloc | apply IsS25.drewN | apply IsS25.drew | apply IsS25.set_1 | refine IsS25.far ?_ NB334_348.out _ | refine IsS25.far ?_ NB334_352.out _) | exact HI334.out)) hb); have n2_ := Aside0.mk (blk_below (g := gb348) (o := .cells #[.int .i64 t345, .int .i64 t346] 35 (0, 0)) (by (with_reducible repeat (first | refine blk_drewN ?_ _ | refine blk_drew ?_ | refine blk_alloc ?_ _)); refine blk_far ?_ NB348_352.out _; (with_reducible repeat (first | refine blk_drewN ?_ _ | refine blk_drew ?_ | refine blk_alloc ?_ _)); refine blk_far ?_ NB348_352.out _; (with_reducible repeat (first | refine blk_drewN ?_ _ | refine blk_drew ?_ | refine blk_alloc ?_ _)); exact BK348.out) hb); have n3_ := Aside0.mk (blk_below (g := gb352) (o := .cells #[.int .i64 t349, .int .i64 t350] 35 (0, 0)) (by (with_reducible repeat (first | refine blk_drewN ?_ _ | refine blk_drew ?_ | refine blk_alloc ?_ _)); refine blk_put (cs := #[.int .i64 t349, .int .i64 0]) ?_ 1 _ rfl; (with_reducible repeat (first | refine blk_drewN ?_ _ | refine blk_drew ?_ | refine blk_alloc ?_ _)); refine blk_put (cs := #[.int .i64 0, .int .i64 0]) ?_ 0 _ rfl; (with_reducible repeat (first | refine blk_drewN ?_ _ | refine blk_drew ?_ | refine blk_alloc ?_ _)); exact BK352.out) hb); have n4_ := Aside0.mk (below_step (by repeat (first | (with_reducible first | exact HB.out | apply below_alloc | apply pw_below_drewN | apply below_drew1 | refine below_set ?_ (IsS25.ge HI334.out) | refine below_set ?_ GE348.out | refine below_set ?_ GE352.out) | exact HB.out)) hb); clear HO344; clear HI334; clear BK348; clear BK352; clear HB; have HO344 := n0_; have HI334 := n1_; have BK348 := n2_; have BK352 := n3_; have HB := n4_; clear n0_ n1_ n2_ n3_ n4_; (try clear hb); (try clear hb2); (try clear hk); (try clear hi)))
     go_meet
     case rel => exact ⟨_, (false), (by first | rfl | (simp; done) | (simp [*]; done)), H', ⟨by first | omega | exact Nat.le_refl _⟩, ⟨by (with_reducible repeat (first | refine blk_drewN ?_ _ | refine blk_drew ?_ | refine blk_alloc ?_ _)); exact BK348.out⟩, ⟨by (with_reducible repeat (first | refine blk_drewN ?_ _ | refine blk_drew ?_ | refine blk_alloc ?_ _)); exact BK352.out⟩, ⟨by repeat (first | (with_reducible first | exact HB.out | apply below_alloc | apply pw_below_drewN | apply below_drew1 | refine below_set ?_ (IsS25.ge HI334.out) | refine below_set ?_ GE348.out | refine below_set ?_ GE352.out) | exact HB.out)⟩⟩
   ·replace c145 := Bool.eq_false_iff.mpr c145
    subst c145
    have H1 : (chaselaw1_ShinglesLike.j0 k false) = some r := by rw [if_neg (show ¬ (false = true) by decide)] at H; exact H
    clear H
    have H := H1
    clear H1
    have H' := Aside0.mk H
    clear H
    go_wp2_with (first | ((with_reducible refine gate_callee (f := 15) rfl ?_); refine goesL_ (some 53) rfl rfl Try.func15 (by kernel_rfl) rfl #[] rfl (by (try simp only [List.map_toArray, List.map_cons, List.map_nil]); first | done | rfl | (simp only [List.length_drop, List.length_take]; rfl)) ?_; (with_reducible refine (chaselaw1_nears.calls k  false _ A144.out).mono ?_); rintro e w151 ⟨rfl, hb⟩; refine ⟨_, rfl, ?_⟩; have n0_ := Aside0.mk (Kd.R_below (by (with_reducible repeat (first | apply Kd.R_alloc | apply Kd.R_drewN | apply Kd.R_drew)); exact (Kd.R_mono (Kd.R_far (p := ⟨gb352, 1, none⟩) (Kd.R_far (p := ⟨gb352, 0, none⟩) (Kd.R_types HO344.out BK352.out (by decide)) (fun _ hk => hk.2) (.int .i64 t349)) (fun _ hk => hk.2) (.int .i64 t350)) (fun _ h_ => h_.1))) hb); have n1_ := Aside0.mk (IsS25.below (show IsS25 w _ gb334 l0 t340 from by repeat (first | (with_reducible first | exact HI334.out | apply IsS25.alloc | apply IsS25.drewN | apply IsS25.drew | apply IsS25.set_1 | refine IsS25.far ?_ NB334_348.out _ | refine IsS25.far ?_ NB334_352.out _) | exact HI334.out)) hb); have n2_ := Aside0.mk (blk_below (g := gb348) (o := .cells #[.int .i64 t345, .int .i64 t346] 35 (0, 0)) (by (with_reducible repeat (first | refine blk_drewN ?_ _ | refine blk_drew ?_ | refine blk_alloc ?_ _)); refine blk_far ?_ NB348_352.out _; (with_reducible repeat (first | refine blk_drewN ?_ _ | refine blk_drew ?_ | refine blk_alloc ?_ _)); refine blk_far ?_ NB348_352.out _; (with_reducible repeat (first | refine blk_drewN ?_ _ | refine blk_drew ?_ | refine blk_alloc ?_ _)); exact BK348.out) hb); have n3_ := Aside0.mk (blk_below (g := gb352) (o := .cells #[.int .i64 t349, .int .i64 t350] 35 (0, 0)) (by (with_reducible repeat (first | refine blk_drewN ?_ _ | refine blk_drew ?_ | refine blk_alloc ?_ _)); refine blk_put (cs := #[.int .i64 t349, .int .i64 0]) ?_ 1 _ rfl; (with_reducible repeat (first | refine blk_drewN ?_ _ | refine blk_drew ?_ | refine blk_alloc ?_ _)); refine blk_put (cs := #[.int .i64 0, .int .i64 0]) ?_ 0 _ rfl; (with_reducible repeat (first | refine blk_drewN ?_ _ | refine blk_drew ?_ | refine blk_alloc ?_ _)); exact BK352.out) hb); have n4_ := Aside0.mk (below_step (by repeat (first | (with_reducible first | exact HB.out | apply below_alloc | apply pw_below_drewN | apply below_drew1 | refine below_set ?_ (IsS25.ge HI334.out) | refine below_set ?_ GE348.out | refine below_set ?_ GE352.out) | exact HB.out)) hb); clear HO344; clear HI334; clear BK348; clear BK352; clear HB; have HO344 := n0_; have HI334 := n1_; have BK348 := n2_; have BK352 := n3_; have HB := n4_; clear n0_ n1_ n2_ n3_ n4_; (try clear hb); (try clear hb2); (try clear hk); (try clear hi)))
    go_meet
    case rel => exact ⟨_, (false), (by first | rfl | (simp; done) | (simp [*]; done)), H', ⟨by first | omega | exact Nat.le_refl _⟩, ⟨by (with_reducible repeat (first | refine blk_drewN ?_ _ | refine blk_drew ?_ | refine blk_alloc ?_ _)); exact BK348.out⟩, ⟨by (with_reducible repeat (first | refine blk_drewN ?_ _ | refine blk_drew ?_ | refine blk_alloc ?_ _)); exact BK352.out⟩, ⟨by repeat (first | (with_reducible first | exact HB.out | apply below_alloc | apply pw_below_drewN | apply below_drew1 | refine below_set ?_ (IsS25.ge HI334.out) | refine below_set ?_ GE348.out | refine below_set ?_ GE352.out) | exact HB.out)⟩⟩
  case rest =>
   clear HC129
   try clear c1
   try clear c2
   try clear p2
   try clear c4
   try clear c5
   try clear c6
   try clear c7
   try clear c8
   try clear c9
   try clear c9b0
   try clear c9b1
   try clear c10
   try clear c11
   try clear c12
   try clear c13
   try clear c14
   try clear c15
   try clear c16
   try clear c17
   try clear c18
   try clear c19
   try clear c20
   try clear c25
   try clear c25b0
   try clear c25b1
   try clear c26
   try clear c26b0
   try clear c26b1
   try clear c27
   try clear c28
   try clear c58
   try clear c77
   try clear c78
   try clear c79
   try clear c80
   try clear c82
   try clear c83
   try clear c84
   try clear c88
   try clear c90
   try clear c91
   try clear c92
   try clear c93
   try clear c96
   try clear c97
   try clear c98
   try clear c101
   try clear c102
   try clear c103
   try clear c104
   try clear c107
   try clear c110
   try clear c115
   try clear c116
   try clear c116b0
   try clear c116b1
   try clear c119
   try clear c120
   try clear c121
   try clear c123
   try clear c124
   try clear c137
   try clear c141
   try clear c142
   try clear c145
   try clear c146
   try clear c146b0
   try clear c146b1
   try clear c147
   try clear c147b0
   try clear c147b1
   try clear hcz105_0
   try clear hcz105_1
   try clear hcz122_0
   try clear hcz122_1
   try clear hcz125_0
   try clear hcz125_1
   try clear hcz138_0
   try clear hcz138_1
   try clear hcz143_0
   try clear hcz143_1
   try clear hcz81_0
   try clear hcz81_1
   try clear hcz85_0
   try clear hcz85_1
   try clear hcz94_0
   try clear hcz94_1
   try clear hcz99_0
   try clear hcz99_1
   try clear hfz105_0
   try clear hfz105_1
   try clear hfz122_0
   try clear hfz122_1
   try clear hfz125_0
   try clear hfz125_1
   try clear hfz138_0
   try clear hfz138_1
   try clear hfz143_0
   try clear hfz143_1
   try clear hfz81_0
   try clear hfz81_1
   try clear hfz85_0
   try clear hfz85_1
   try clear hfz94_0
   try clear hfz94_1
   try clear hfz99_0
   try clear hfz99_1
   try clear p2
   obtain ⟨kq, x2_128, rfl, HA, HJ128, BK348, BK352, HB⟩ := hcut
   cases kq with
   | zero => exact absurd HA.out (by simp [chaselaw1_ShinglesLike.j0])
   | succ kj128 =>
    have H := HA.out
    clear HA
    simp only [chaselaw1_ShinglesLike.j0] at H
    obtain rfl := Option.some.inj H
    go_wp2
    go_ret
    exact ⟨by first | rfl | (simp [errW_none, errW_some] <;> rfl) | (simp [*, errW_none, errW_some] <;> rfl), by repeat (first | (with_reducible first | exact HB.out | apply below_alloc | apply pw_below_drewN | apply below_drew1 | refine below_set ?_ GE348.out | refine below_set ?_ GE352.out) | exact HB.out)⟩
def chaselaw1_ShinglesLike.Pure : Prop := ∀ (l0 : List Int), l0.length ≤ maxLen → l0.length * 8 ≤ 140737488351232 → (∀ x ∈ l0, (Lit.int .i64 x).wf = true) → ∃ k, chaselaw1_ShinglesLike.f k l0 = some true
theorem chaselaw1_ShinglesLike.walk (P : chaselaw1_ShinglesLike.Pure) (a0 : Option Addr) (len0 cap0 : Nat) (z0 : List Int) (w : World) (w0 : (a0 = none ∧ len0 = 0 ∧ cap0 = 0 ∧ z0 = []) ∨ ∃ x, a0 = some x ∧ len0 ≤ cap0 ∧ cap0 ≤ maxLen ∧ z0.length = cap0 ∧ (∀ i, i < z0.length → w.cell? (x.add i) = some (.int .i64 (z0.getD i 0))) ∧ ∀ n ∈ z0, (Lit.int .i64 n).wf = true) (y0 : len0 * 8 ≤ 140737488351232) :
  Calls Try.prog 4 #[.slice a0 len0 cap0] w fun e w' => e = .returned (.bool true) ∧ Below w.heap.size w w' := by
 obtain ⟨l0, rfl, hr0, hm0, hw0, hc0⟩ := ReadsInt.ofRowC w0
 obtain ⟨k, h⟩ := P l0 hm0 y0 hw0
 refine (chaselaw1_ShinglesLike.calls k _ _ l0 true w (Kd.C_of_reads (d := (0 : Int)) (h1 := fun _ => rfl) hr0) hc0 h).mono ?_
 rintro e w' ⟨rfl, hd⟩
 exact ⟨rfl, hd⟩
end Go.Proofs.Ytbamfhcifpfocaa.Ph
