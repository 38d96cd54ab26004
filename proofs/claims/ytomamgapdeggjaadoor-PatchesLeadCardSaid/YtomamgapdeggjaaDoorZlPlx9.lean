/- Part of the proof that the law patchesLead is true for every input. No conditions. Laid by a program of this session over the kit's print and words; declarations that nothing names are left out. -/
import Derived.Test.YtomamgapdeggjaaDoorZlPlx0
import Derived.Test.YtomamgapdeggjaaDoorZlPlx1
import Derived.Test.YtomamgapdeggjaaDoorZlPlx2
import Derived.Test.YtomamgapdeggjaaDoorZlPlx4
import Derived.Test.YtomamgapdeggjaaDoorZlPlx6
import Derived.Test.YtomamgapdeggjaaDoorZlPlx7
import Derived.Test.YtomamgapdeggjaaDoorZlPlx8
namespace Go.Proofs.YtomamgapdeggjaaDoor.Pl
open Go.RowKit Go.Proofs.YtomamgapdeggjaaDoor.GBase Go.Proofs.YtomamgapdeggjaaDoorW.PrintWords Go.Proofs.YtomamgapdeggjaaDoorW.PrintLast Go.Proofs.YtomamgapdeggjaaDoorW.PrintMore
attribute [local go_sem] str_leq max2_int min2_int max_two min_two max_three min_three max_four min_four
set_option linter.unusedVariables false
set_option linter.unusedSimpArgs false
set_option maxHeartbeats 8000000 in
set_option maxRecDepth 100000 in
theorem chasekeep1_PatchesLead.calls (k : Nat) (A0 : Option Addr) (c0 : Nat) (l0 : List Int) (r : Bool) (w : World) (hr0 : Kd.C (Kd.int .i64) w A0 l0.length l0) (hc0 : l0.length ≤ c0) (hGl : Wd w) (h : chasekeep1_PatchesLead.f k l0 = some r) :
  Calls Tryd.prog 8 #[.slice A0 l0.length c0] w fun e w' => e = .returned (.bool r) ∧ Below w.heap.size w w' := by
 have hu25 := Tryd.underlying25
 have hu72 := Tryd.underlying72
 have HGl := Aside0.mk hGl
 clear hGl
 have HR0 := Aside0.mk hr0
 have HC0 := Aside0.mk hc0
 clear hr0 hc0
 have HB := Aside0.mk (Below.refl w.heap.size w)
 have H : ((chasemake_Stream_Prose.f k l0 0 14).bind fun bt322 => ((chasemake_Stream_Changed.f k l0 bt322.2 bt322.1 (⟨#[97, 98, 99, 32, 120, 10]⟩ : ByteArray)).bind fun bt324 => ((chasemake_Stream_Changed.f k l0 bt324.2 bt324.1 (⟨#[100, 32]⟩ : ByteArray)).bind fun bt326 => ((near_Differ.f k bt322.1 bt326.1).bind fun bt328 => ((near_Patch.f k bt322.1 bt328.1).bind fun bt332 => ((near_Turn.f k bt322.1 bt328.1).bind fun bt334 => ((near_Patch.f k bt332.1 bt334.1).bind fun bt338 => ((near_Distance.f k bt322.1 bt326.1).bind fun bt340 => ((near_Distance.f k bt326.1 bt322.1).bind fun bt342 => ((some (([bt328.2, bt332.2, bt334.2, bt338.2, bt340.2, bt342.2] : List Int) : List Int)).bind fun y344 => (chasekeep1_PatchesLead.l0 k bt322.1 bt326.1 bt328.1 bt332.1 bt338.1 bt340.1 bt342.1 y344 (y344.length : Int) 0))))))))))) = some r := h
 clear h
 replace H := Option.bind_eq_some_iff.mp H
 obtain ⟨⟨t322, t323⟩, A20, H⟩ := H
 replace H : ((chasemake_Stream_Changed.f k l0 t323 t322 (⟨#[97, 98, 99, 32, 120, 10]⟩ : ByteArray)).bind fun bt324 => ((chasemake_Stream_Changed.f k l0 bt324.2 bt324.1 (⟨#[100, 32]⟩ : ByteArray)).bind fun bt326 => ((near_Differ.f k t322 bt326.1).bind fun bt328 => ((near_Patch.f k t322 bt328.1).bind fun bt332 => ((near_Turn.f k t322 bt328.1).bind fun bt334 => ((near_Patch.f k bt332.1 bt334.1).bind fun bt338 => ((near_Distance.f k t322 bt326.1).bind fun bt340 => ((near_Distance.f k bt326.1 t322).bind fun bt342 => ((some (([bt328.2, bt332.2, bt334.2, bt338.2, bt340.2, bt342.2] : List Int) : List Int)).bind fun y344 => (chasekeep1_PatchesLead.l0 k t322 bt326.1 bt328.1 bt332.1 bt338.1 bt340.1 bt342.1 y344 (y344.length : Int) 0)))))))))) = some r := H
 have A2 := Aside0.mk A20
 clear A20
 replace H := Option.bind_eq_some_iff.mp H
 obtain ⟨⟨t324, t325⟩, A30, H⟩ := H
 replace H : ((chasemake_Stream_Changed.f k l0 t325 t324 (⟨#[100, 32]⟩ : ByteArray)).bind fun bt326 => ((near_Differ.f k t322 bt326.1).bind fun bt328 => ((near_Patch.f k t322 bt328.1).bind fun bt332 => ((near_Turn.f k t322 bt328.1).bind fun bt334 => ((near_Patch.f k bt332.1 bt334.1).bind fun bt338 => ((near_Distance.f k t322 bt326.1).bind fun bt340 => ((near_Distance.f k bt326.1 t322).bind fun bt342 => ((some (([bt328.2, bt332.2, bt334.2, bt338.2, bt340.2, bt342.2] : List Int) : List Int)).bind fun y344 => (chasekeep1_PatchesLead.l0 k t322 bt326.1 bt328.1 bt332.1 bt338.1 bt340.1 bt342.1 y344 (y344.length : Int) 0))))))))) = some r := H
 have A3 := Aside0.mk A30
 clear A30
 replace H := Option.bind_eq_some_iff.mp H
 obtain ⟨⟨t326, t327⟩, A40, H⟩ := H
 replace H : ((near_Differ.f k t322 t326).bind fun bt328 => ((near_Patch.f k t322 bt328.1).bind fun bt332 => ((near_Turn.f k t322 bt328.1).bind fun bt334 => ((near_Patch.f k bt332.1 bt334.1).bind fun bt338 => ((near_Distance.f k t322 t326).bind fun bt340 => ((near_Distance.f k t326 t322).bind fun bt342 => ((some (([bt328.2, bt332.2, bt334.2, bt338.2, bt340.2, bt342.2] : List Int) : List Int)).bind fun y344 => (chasekeep1_PatchesLead.l0 k t322 t326 bt328.1 bt332.1 bt338.1 bt340.1 bt342.1 y344 (y344.length : Int) 0)))))))) = some r := H
 have A4 := Aside0.mk A40
 clear A40
 replace H := Option.bind_eq_some_iff.mp H
 obtain ⟨⟨t328, t329⟩, A50, H⟩ := H
 replace H : ((near_Patch.f k t322 t328).bind fun bt332 => ((near_Turn.f k t322 t328).bind fun bt334 => ((near_Patch.f k bt332.1 bt334.1).bind fun bt338 => ((near_Distance.f k t322 t326).bind fun bt340 => ((near_Distance.f k t326 t322).bind fun bt342 => ((some (([t329, bt332.2, bt334.2, bt338.2, bt340.2, bt342.2] : List Int) : List Int)).bind fun y344 => (chasekeep1_PatchesLead.l0 k t322 t326 t328 bt332.1 bt338.1 bt340.1 bt342.1 y344 (y344.length : Int) 0))))))) = some r := H
 have A5 := Aside0.mk A50
 clear A50
 replace H := Option.bind_eq_some_iff.mp H
 obtain ⟨⟨t332, t333⟩, A60, H⟩ := H
 replace H : ((near_Turn.f k t322 t328).bind fun bt334 => ((near_Patch.f k t332 bt334.1).bind fun bt338 => ((near_Distance.f k t322 t326).bind fun bt340 => ((near_Distance.f k t326 t322).bind fun bt342 => ((some (([t329, t333, bt334.2, bt338.2, bt340.2, bt342.2] : List Int) : List Int)).bind fun y344 => (chasekeep1_PatchesLead.l0 k t322 t326 t328 t332 bt338.1 bt340.1 bt342.1 y344 (y344.length : Int) 0)))))) = some r := H
 have A6 := Aside0.mk A60
 clear A60
 replace H := Option.bind_eq_some_iff.mp H
 obtain ⟨⟨t334, t335⟩, A70, H⟩ := H
 replace H : ((near_Patch.f k t332 t334).bind fun bt338 => ((near_Distance.f k t322 t326).bind fun bt340 => ((near_Distance.f k t326 t322).bind fun bt342 => ((some (([t329, t333, t335, bt338.2, bt340.2, bt342.2] : List Int) : List Int)).bind fun y344 => (chasekeep1_PatchesLead.l0 k t322 t326 t328 t332 bt338.1 bt340.1 bt342.1 y344 (y344.length : Int) 0))))) = some r := H
 have A7 := Aside0.mk A70
 clear A70
 replace H := Option.bind_eq_some_iff.mp H
 obtain ⟨⟨t338, t339⟩, A80, H⟩ := H
 replace H : ((near_Distance.f k t322 t326).bind fun bt340 => ((near_Distance.f k t326 t322).bind fun bt342 => ((some (([t329, t333, t335, t339, bt340.2, bt342.2] : List Int) : List Int)).bind fun y344 => (chasekeep1_PatchesLead.l0 k t322 t326 t328 t332 t338 bt340.1 bt342.1 y344 (y344.length : Int) 0)))) = some r := H
 have A8 := Aside0.mk A80
 clear A80
 replace H := Option.bind_eq_some_iff.mp H
 obtain ⟨⟨t340, t341⟩, A90, H⟩ := H
 replace H : ((near_Distance.f k t326 t322).bind fun bt342 => ((some (([t329, t333, t335, t339, t341, bt342.2] : List Int) : List Int)).bind fun y344 => (chasekeep1_PatchesLead.l0 k t322 t326 t328 t332 t338 t340 bt342.1 y344 (y344.length : Int) 0))) = some r := H
 have A9 := Aside0.mk A90
 clear A90
 replace H := Option.bind_eq_some_iff.mp H
 obtain ⟨⟨t342, t343⟩, A100, H⟩ := H
 replace H : ((some (([t329, t333, t335, t339, t341, t343] : List Int) : List Int)).bind fun y344 => (chasekeep1_PatchesLead.l0 k t322 t326 t328 t332 t338 t340 t342 y344 (y344.length : Int) 0)) = some r := H
 have A10 := Aside0.mk A100
 clear A100
 obtain ⟨y344, hy344⟩ : ∃ y_ : List Int, y_ = (([t329, t333, t335, t339, t341, t343] : List Int)) := ⟨_, rfl⟩
 replace H : (chasekeep1_PatchesLead.l0 k t322 t326 t328 t332 t338 t340 t342 y344 (y344.length : Int) 0) = some r := by first | (rw [hy344]; with_reducible exact H) | (have H2_ := (Option.bind_some _ _).symm.trans H; rw [hy344]; with_reducible exact H2_) | (have H2_ := (Option.bind_some _ _).symm.trans H; with_reducible exact H2_) | with_reducible exact H | (rw [hy344]; exact H) | exact H
 have Ny344 := Aside0.mk hy344
 clear hy344
 have H' := Aside0.mk H
 clear H
 go_enter Tryd.func8, Tryd.ntmps8
 go_wp2_with (first | ((with_reducible refine gate_dst (N := 25) rfl ?_); refine box_event ?hg (N := 25) ?hd (cs := #[.slice A0 l0.length c0, .int .i64 0]) (t := 25) ?hr ?_; (case hd => rfl); (case hg => rfl); (case hr => first | (go_simp; done) | (go_simp; rfl)); intro gb321 hg w11 hbox hb; have n0_ := Aside0.mk (below_step (by repeat (first | (with_reducible first | exact HB.out | apply below_alloc | apply pw_below_drewN | apply below_drew1) | exact HB.out)) hb); have n1_ := Aside0.mk ((⟨_, _, hbox, (by rw [hg]; exact (below_size (by repeat (first | (with_reducible first | exact HB.out | apply below_alloc | apply pw_below_drewN | apply below_drew1) | exact HB.out)))), HR0.out⟩ : IsS25 w _ gb321 l0 0)); clear HB; have HB := n0_; have HI321 := n1_; clear n0_ n1_; clear hb hbox hg) | ((with_reducible refine gate_callee (f := 42) rfl ?_); refine goesL_ (some 27) rfl rfl Tryd.func42 (by kernel_rfl) rfl #[.pointer (some ⟨gb321, 0, none⟩), .int .i64 14] rfl (by (try simp only [List.map_toArray, List.map_cons, List.map_nil]); first | done | rfl | (simp only [List.length_drop, List.length_take]; rfl)) ?_; (with_reducible refine (chasemake_Stream_Prose.calls k gb321 l0 0 14 t322 t323 w _ ?side1 ?side2 A2.out).mono ?_); (case side1 => repeat (first | (with_reducible first | exact HI321.out | apply IsS25.alloc | apply IsS25.drewN | apply IsS25.drew | apply IsS25.set_1) | exact HI321.out)); (case side2 => repeat (first | (with_reducible first | exact HB.out | apply below_alloc | apply pw_below_drewN | apply below_drew1 | refine below_set ?_ (IsS25.ge HI321.out)) | exact HB.out)); rintro e w12 ⟨rfl, hi, hb, hk⟩; refine ⟨_, rfl, ?_⟩; have n0_ := Aside0.mk (hb); have n1_ := Aside0.mk (hi); clear HB; clear HI321; have HB := n0_; have HI321 := n1_; clear n0_ n1_; (try clear hb); (try clear hb2); (try clear hk); (try clear hi)) | ((with_reducible refine gate_callee (f := 43) rfl ?_); refine goesL_ (some 31) rfl rfl Tryd.func43 (by kernel_rfl) rfl #[.pointer (some ⟨gb321, 0, none⟩), .string t322, .string (⟨#[97, 98, 99, 32, 120, 10]⟩ : ByteArray)] rfl (by (try simp only [List.map_toArray, List.map_cons, List.map_nil]); first | done | rfl | (simp only [List.length_drop, List.length_take]; rfl)) ?_; (with_reducible refine (chasemake_Stream_Changed.calls k gb321 l0 t323 t322 (⟨#[97, 98, 99, 32, 120, 10]⟩ : ByteArray) t324 t325 w _ ?side1 ?side2 A3.out).mono ?_); (case side1 => repeat (first | (with_reducible first | exact HI321.out | apply IsS25.alloc | apply IsS25.drewN | apply IsS25.drew | apply IsS25.set_1) | exact HI321.out)); (case side2 => repeat (first | (with_reducible first | exact HB.out | apply below_alloc | apply pw_below_drewN | apply below_drew1 | refine below_set ?_ (IsS25.ge HI321.out)) | exact HB.out)); rintro e w13 ⟨rfl, hi, hb, hk⟩; refine ⟨_, rfl, ?_⟩; have n0_ := Aside0.mk (hb); have n1_ := Aside0.mk (hi); clear HB; clear HI321; have HB := n0_; have HI321 := n1_; clear n0_ n1_; (try clear hb); (try clear hb2); (try clear hk); (try clear hi)) | ((with_reducible refine gate_callee (f := 43) rfl ?_); refine goesL_ (some 32) rfl rfl Tryd.func43 (by kernel_rfl) rfl #[.pointer (some ⟨gb321, 0, none⟩), .string t324, .string (⟨#[100, 32]⟩ : ByteArray)] rfl (by (try simp only [List.map_toArray, List.map_cons, List.map_nil]); first | done | rfl | (simp only [List.length_drop, List.length_take]; rfl)) ?_; (with_reducible refine (chasemake_Stream_Changed.calls k gb321 l0 t325 t324 (⟨#[100, 32]⟩ : ByteArray) t326 t327 w _ ?side1 ?side2 A4.out).mono ?_); (case side1 => repeat (first | (with_reducible first | exact HI321.out | apply IsS25.alloc | apply IsS25.drewN | apply IsS25.drew | apply IsS25.set_1) | exact HI321.out)); (case side2 => repeat (first | (with_reducible first | exact HB.out | apply below_alloc | apply pw_below_drewN | apply below_drew1 | refine below_set ?_ (IsS25.ge HI321.out)) | exact HB.out)); rintro e w14 ⟨rfl, hi, hb, hk⟩; refine ⟨_, rfl, ?_⟩; have n0_ := Aside0.mk (hb); have n1_ := Aside0.mk (hi); clear HB; clear HI321; have HB := n0_; have HI321 := n1_; clear n0_ n1_; (try clear hb); (try clear hb2); (try clear hk); (try clear hi)) | ((with_reducible refine gate_callee (f := 44) rfl ?_); refine goesL_ (some 36) rfl rfl Tryd.func44 (by kernel_rfl) rfl #[.string t322, .string t326] rfl (by (try simp only [List.map_toArray, List.map_cons, List.map_nil]); first | done | rfl | (simp only [List.length_drop, List.length_take]; rfl)) ?_; (with_reducible refine (near_Differ.calls k t322 t326 t328 t329 _ ?side1 A5.out).mono ?_); (case side1 => exact Wd.below HGl.out (by repeat (first | (with_reducible first | exact HB.out | apply below_alloc | apply pw_below_drewN | apply below_drew1 | refine below_set ?_ (IsS25.ge HI321.out)) | exact HB.out))); rintro e w15 ⟨v330, rfl, ho0, hb⟩; refine ⟨_, rfl, ?_⟩; have n0_ := Aside0.mk (Kd.S_lower ho0 (below_size (by repeat (first | (with_reducible first | exact HB.out | apply below_alloc | apply pw_below_drewN | apply below_drew1 | refine below_set ?_ (IsS25.ge HI321.out)) | exact HB.out)))); have n1_ := Aside0.mk (IsS25.below (by repeat (first | (with_reducible first | exact HI321.out | apply IsS25.alloc | apply IsS25.drewN | apply IsS25.drew | apply IsS25.set_1) | exact HI321.out)) hb); have n2_ := Aside0.mk (below_step (by repeat (first | (with_reducible first | exact HB.out | apply below_alloc | apply pw_below_drewN | apply below_drew1 | refine below_set ?_ (IsS25.ge HI321.out)) | exact HB.out)) hb); clear HI321; clear HB; have HO331 := n0_; have HI321 := n1_; have HB := n2_; clear n0_ n1_ n2_; (try clear hb); (try clear hb2); (try clear hk); (try clear hi); (try clear ho0); obtain ⟨Ao16, co16, eo16⟩ := Kd.S_slice HO331.out; subst eo16) | ((with_reducible refine gate_callee (f := 45) rfl ?_); refine goesL_ (some 42) rfl rfl Tryd.func45 (by kernel_rfl) rfl #[.string t322, .slice Ao16 t328.length co16] rfl (by (try simp only [List.map_toArray, List.map_cons, List.map_nil]); first | done | rfl | (simp only [List.length_drop, List.length_take]; rfl)) ?_; (with_reducible refine (near_Patch.calls k t322 _ _ t328 t332 t333 _ ?side1 ?side2 ?side3 A6.out).mono ?_); (case side1 => repeat (first | exact (Kd.S_reads' HO331.out).2.2 | (with_reducible refine Kd.C_alloc ?_ _) | (with_reducible refine Kd.C_drewN ?_ _) | (with_reducible refine Kd.C_drew ?_))); (case side2 => exact (Kd.S_reads' HO331.out).2.1); (case side3 => exact Wd.below HGl.out (by repeat (first | (with_reducible first | exact HB.out | apply below_alloc | apply pw_below_drewN | apply below_drew1 | refine below_set ?_ (IsS25.ge HI321.out)) | exact HB.out))); rintro e w17 ⟨rfl, hb⟩; refine ⟨_, rfl, ?_⟩; have n0_ := Aside0.mk (Kd.S_below (by (with_reducible repeat (first | apply Kd.S_alloc | apply Kd.S_drewN | apply Kd.S_drew)); exact HO331.out) hb); have n1_ := Aside0.mk (IsS25.below (by repeat (first | (with_reducible first | exact HI321.out | apply IsS25.alloc | apply IsS25.drewN | apply IsS25.drew | apply IsS25.set_1) | exact HI321.out)) hb); have n2_ := Aside0.mk (below_step (by repeat (first | (with_reducible first | exact HB.out | apply below_alloc | apply pw_below_drewN | apply below_drew1 | refine below_set ?_ (IsS25.ge HI321.out)) | exact HB.out)) hb); clear HO331; clear HI321; clear HB; have HO331 := n0_; have HI321 := n1_; have HB := n2_; clear n0_ n1_ n2_; (try clear hb); (try clear hb2); (try clear hk); (try clear hi)) | ((with_reducible refine gate_callee (f := 46) rfl ?_); refine goesL_ (some 48) rfl rfl Tryd.func46 (by kernel_rfl) rfl #[.string t322, .slice Ao16 t328.length co16] rfl (by (try simp only [List.map_toArray, List.map_cons, List.map_nil]); first | done | rfl | (simp only [List.length_drop, List.length_take]; rfl)) ?_; (with_reducible refine (near_Turn.calls k t322 _ _ t328 t334 t335 _ ?side1 ?side2 ?side3 A7.out).mono ?_); (case side1 => repeat (first | exact (Kd.S_reads' HO331.out).2.2 | (with_reducible refine Kd.C_alloc ?_ _) | (with_reducible refine Kd.C_drewN ?_ _) | (with_reducible refine Kd.C_drew ?_))); (case side2 => exact (Kd.S_reads' HO331.out).2.1); (case side3 => exact Wd.below HGl.out (by repeat (first | (with_reducible first | exact HB.out | apply below_alloc | apply pw_below_drewN | apply below_drew1 | refine below_set ?_ (IsS25.ge HI321.out)) | exact HB.out))); rintro e w18 ⟨v336, rfl, ho0, hb⟩; refine ⟨_, rfl, ?_⟩; have n0_ := Aside0.mk (Kd.S_elder' (by (with_reducible repeat (first | apply Kd.S_alloc | apply Kd.S_drewN | apply Kd.S_drew)); exact HO331.out) (Kd.S_base ho0) hb); have n1_ := Aside0.mk (Kd.S_lower (Kd.S_new' ho0 (Kd.S_lt (by (with_reducible repeat (first | apply Kd.S_alloc | apply Kd.S_drewN | apply Kd.S_drew)); exact HO331.out))) (below_size (by repeat (first | (with_reducible first | exact HB.out | apply below_alloc | apply pw_below_drewN | apply below_drew1 | refine below_set ?_ (IsS25.ge HI321.out)) | exact HB.out)))); have n2_ := Aside0.mk (IsS25.below (by repeat (first | (with_reducible first | exact HI321.out | apply IsS25.alloc | apply IsS25.drewN | apply IsS25.drew | apply IsS25.set_1) | exact HI321.out)) hb); have n3_ := Aside0.mk (below_step (by repeat (first | (with_reducible first | exact HB.out | apply below_alloc | apply pw_below_drewN | apply below_drew1 | refine below_set ?_ (IsS25.ge HI321.out)) | exact HB.out)) hb); clear HO331; clear HI321; clear HB; have HO331 := n0_; have HO337 := n1_; have HI321 := n2_; have HB := n3_; clear n0_ n1_ n2_ n3_; (try clear hb); (try clear hb2); (try clear hk); (try clear hi); (try clear ho0); obtain ⟨Ao19, co19, eo19⟩ := Kd.S_slice HO337.out; subst eo19) | ((with_reducible refine gate_callee (f := 45) rfl ?_); refine goesL_ (some 54) rfl rfl Tryd.func45 (by kernel_rfl) rfl #[.string t332, .slice Ao19 t334.length co19] rfl (by (try simp only [List.map_toArray, List.map_cons, List.map_nil]); first | done | rfl | (simp only [List.length_drop, List.length_take]; rfl)) ?_; (with_reducible refine (near_Patch.calls k t332 _ _ t334 t338 t339 _ ?side1 ?side2 ?side3 A8.out).mono ?_); (case side1 => repeat (first | exact (Kd.S_reads' HO337.out).2.2 | (with_reducible refine Kd.C_alloc ?_ _) | (with_reducible refine Kd.C_drewN ?_ _) | (with_reducible refine Kd.C_drew ?_))); (case side2 => exact (Kd.S_reads' HO337.out).2.1); (case side3 => exact Wd.below HGl.out (by repeat (first | (with_reducible first | exact HB.out | apply below_alloc | apply pw_below_drewN | apply below_drew1 | refine below_set ?_ (IsS25.ge HI321.out)) | exact HB.out))); rintro e w20 ⟨rfl, hb⟩; refine ⟨_, rfl, ?_⟩; have n0_ := Aside0.mk (Kd.S_below (by (with_reducible repeat (first | apply Kd.S_alloc | apply Kd.S_drewN | apply Kd.S_drew)); exact HO331.out) hb); have n1_ := Aside0.mk (Kd.S_below (by (with_reducible repeat (first | apply Kd.S_alloc | apply Kd.S_drewN | apply Kd.S_drew)); exact HO337.out) hb); have n2_ := Aside0.mk (IsS25.below (by repeat (first | (with_reducible first | exact HI321.out | apply IsS25.alloc | apply IsS25.drewN | apply IsS25.drew | apply IsS25.set_1) | exact HI321.out)) hb); have n3_ := Aside0.mk (below_step (by repeat (first | (with_reducible first | exact HB.out | apply below_alloc | apply pw_below_drewN | apply below_drew1 | refine below_set ?_ (IsS25.ge HI321.out)) | exact HB.out)) hb); clear HO331; clear HO337; clear HI321; clear HB; have HO331 := n0_; have HO337 := n1_; have HI321 := n2_; have HB := n3_; clear n0_ n1_ n2_ n3_; (try clear hb); (try clear hb2); (try clear hk); (try clear hi)) | ((with_reducible refine gate_callee (f := 47) rfl ?_); refine goesL_ (some 60) rfl rfl Tryd.func47 (by kernel_rfl) rfl #[.string t322, .string t326] rfl (by (try simp only [List.map_toArray, List.map_cons, List.map_nil]); first | done | rfl | (simp only [List.length_drop, List.length_take]; rfl)) ?_; (with_reducible refine (near_Distance.calls k t322 t326 t340 t341 _ ?side1 A9.out).mono ?_); (case side1 => exact Wd.below HGl.out (by repeat (first | (with_reducible first | exact HB.out | apply below_alloc | apply pw_below_drewN | apply below_drew1 | refine below_set ?_ (IsS25.ge HI321.out)) | exact HB.out))); rintro e w21 ⟨rfl, hb⟩; refine ⟨_, rfl, ?_⟩; have n0_ := Aside0.mk (Kd.S_below (by (with_reducible repeat (first | apply Kd.S_alloc | apply Kd.S_drewN | apply Kd.S_drew)); exact HO331.out) hb); have n1_ := Aside0.mk (Kd.S_below (by (with_reducible repeat (first | apply Kd.S_alloc | apply Kd.S_drewN | apply Kd.S_drew)); exact HO337.out) hb); have n2_ := Aside0.mk (IsS25.below (by repeat (first | (with_reducible first | exact HI321.out | apply IsS25.alloc | apply IsS25.drewN | apply IsS25.drew | apply IsS25.set_1) | exact HI321.out)) hb); have n3_ := Aside0.mk (below_step (by repeat (first | (with_reducible first | exact HB.out | apply below_alloc | apply pw_below_drewN | apply below_drew1 | refine below_set ?_ (IsS25.ge HI321.out)) | exact HB.out)) hb); clear HO331; clear HO337; clear HI321; clear HB; have HO331 := n0_; have HO337 := n1_; have HI321 := n2_; have HB := n3_; clear n0_ n1_ n2_ n3_; (try clear hb); (try clear hb2); (try clear hk); (try clear hi)) | ((with_reducible refine gate_callee (f := 47) rfl ?_); refine goesL_ (some 66) rfl rfl Tryd.func47 (by kernel_rfl) rfl #[.string t326, .string t322] rfl (by (try simp only [List.map_toArray, List.map_cons, List.map_nil]); first | done | rfl | (simp only [List.length_drop, List.length_take]; rfl)) ?_; (with_reducible refine (near_Distance.calls k t326 t322 t342 t343 _ ?side1 A10.out).mono ?_); (case side1 => exact Wd.below HGl.out (by repeat (first | (with_reducible first | exact HB.out | apply below_alloc | apply pw_below_drewN | apply below_drew1 | refine below_set ?_ (IsS25.ge HI321.out)) | exact HB.out))); rintro e w22 ⟨rfl, hb⟩; refine ⟨_, rfl, ?_⟩; have n0_ := Aside0.mk (Kd.S_below (by (with_reducible repeat (first | apply Kd.S_alloc | apply Kd.S_drewN | apply Kd.S_drew)); exact HO331.out) hb); have n1_ := Aside0.mk (Kd.S_below (by (with_reducible repeat (first | apply Kd.S_alloc | apply Kd.S_drewN | apply Kd.S_drew)); exact HO337.out) hb); have n2_ := Aside0.mk (IsS25.below (by repeat (first | (with_reducible first | exact HI321.out | apply IsS25.alloc | apply IsS25.drewN | apply IsS25.drew | apply IsS25.set_1) | exact HI321.out)) hb); have n3_ := Aside0.mk (below_step (by repeat (first | (with_reducible first | exact HB.out | apply below_alloc | apply pw_below_drewN | apply below_drew1 | refine below_set ?_ (IsS25.ge HI321.out)) | exact HB.out)) hb); clear HO331; clear HO337; clear HI321; clear HB; have HO331 := n0_; have HO337 := n1_; have HI321 := n2_; have HB := n3_; clear n0_ n1_ n2_ n3_; (try clear hb); (try clear hb2); (try clear hk); (try clear hi)) | ((with_reducible refine gate_dst (N := 75) rfl ?_); refine Kd.R_lit (Kd.int .i64) _ 29 ?hg (N := 75) ?hd (xs := ([t329, t333, t335, t339, t341, t343] : List Int)) (inner := [.int .i64 t329, .int .i64 t333, .int .i64 t335, .int .i64 t339, .int .i64 t341, .int .i64 t343]) (ok := fun _ => True) (okp := fun _ => True) ?hr ?hp (fun _ hk => hk) trivial (Below.refl _ _) (Nat.le_refl _) (by simp) ?_; (case hd => rfl); (case hg => rfl); (case hr => first | (go_simp; done) | (go_simp; rfl)); (case hp => exact (Reps.one (show Kd.M (Kd.int .i64) _ _ _ t329 [.int .i64 t329] from rfl) (Reps.one (show Kd.M (Kd.int .i64) _ _ _ t333 [.int .i64 t333] from rfl) (Reps.one (show Kd.M (Kd.int .i64) _ _ _ t335 [.int .i64 t335] from rfl) (Reps.one (show Kd.M (Kd.int .i64) _ _ _ t339 [.int .i64 t339] from rfl) (Reps.one (show Kd.M (Kd.int .i64) _ _ _ t341 [.int .i64 t341] from rfl) (Reps.one (show Kd.M (Kd.int .i64) _ _ _ t343 [.int .i64 t343] from rfl) (Reps.none _ _)))))))); intro v345 w23 ho24 hb hg_ hnew_; clear hg_ hnew_; (first | rw [← Ny344.out] at ho24 | (simp only [Int.reduceToNat] at ho24; rw [← Ny344.out] at ho24)); have n0_ := Aside0.mk (Kd.S_below (by (with_reducible repeat (first | apply Kd.S_alloc | apply Kd.S_drewN | apply Kd.S_drew)); exact HO331.out) hb); have n1_ := Aside0.mk (Kd.S_below (by (with_reducible repeat (first | apply Kd.S_alloc | apply Kd.S_drewN | apply Kd.S_drew)); exact HO337.out) hb); have n2_ := Aside0.mk (Kd.R_lower ho24 (below_size (by repeat (first | (with_reducible first | exact HB.out | apply below_alloc | apply pw_below_drewN | apply below_drew1 | refine below_set ?_ (IsS25.ge HI321.out)) | exact HB.out)))); have n3_ := Aside0.mk (IsS25.below (by repeat (first | (with_reducible first | exact HI321.out | apply IsS25.alloc | apply IsS25.drewN | apply IsS25.drew | apply IsS25.set_1) | exact HI321.out)) hb); have n4_ := Aside0.mk (below_step (by repeat (first | (with_reducible first | exact HB.out | apply below_alloc | apply pw_below_drewN | apply below_drew1 | refine below_set ?_ (IsS25.ge HI321.out)) | exact HB.out)) hb); clear HO331; clear HO337; clear HI321; clear HB; have HO331 := n0_; have HO337 := n1_; have HO346 := n2_; have HI321 := n3_; have HB := n4_; clear n0_ n1_ n2_ n3_ n4_; clear hb ho24; obtain ⟨Ao25, co25, eo25⟩ := Kd.R_slice HO346.out; subst eo25))
 go_loopg [77] k (fun kq v77 w' => ∃ (x77_1 : Int), v77 = .int .i64 x77_1 ∧ Aside0 (chasekeep1_PatchesLead.l0 kq t322 t326 t328 t332 t338 t340 t342 y344 (y344.length : Int) x77_1 = some r) ∧ Aside0 (kq ≤ k) ∧ Aside0 (Kd.S k72 72 w' w.heap.size (fun _ => True) (.slice Ao16 t328.length co16) t328) ∧ Aside0 (Kd.R (Kd.int .i64) 29 w' w.heap.size (fun _ => True) (.slice Ao25 y344.length co25) y344) ∧ Aside0 (Below w.heap.size w w'))
 case atStart => exact ⟨(0), (by first | rfl | (simp; done) | (simp [*]; done)), H', ⟨Nat.le_refl _⟩, ⟨by (with_reducible repeat (first | apply Kd.S_alloc | apply Kd.S_drewN | apply Kd.S_drew)); exact Kd.S_mono HO331.out (fun _ hk => trivial)⟩, ⟨by (with_reducible repeat (first | apply Kd.R_alloc | apply Kd.R_drewN | apply Kd.R_drew)); exact HO346.out⟩, ⟨by repeat (first | (with_reducible first | exact HB.out | apply below_alloc | apply pw_below_drewN | apply below_drew1 | refine below_set ?_ (IsS25.ge HI321.out)) | exact HB.out)⟩⟩
 case round =>
  clear H'
  try clear p1
  try clear p2
  try clear c4
  try clear c8
  obtain ⟨x77_1, rfl, HA, HK1, HO_6, HO_75, HB⟩ := hrel
  cases gk with
  | zero => exact absurd HA.out (by simp [chasekeep1_PatchesLead.l0])
  | succ k1 =>
   have H := HA.out
   clear HA
   simp only [chasekeep1_PatchesLead.l0] at H
   by_cases c26 : x77_1 < (y344.length : Int)
   ·rw [if_pos c26] at H
    have c26b0 : decide (x77_1 < (y344.length : Int)) = true := decide_eq_true c26
    clear c26
    by_cases c27 : 0 ≤ x77_1
    ·rw [if_pos c27] at H
     have c27b0 : decide (0 ≤ x77_1) = true := decide_eq_true c27
     clear c27
     by_cases c28 : x77_1 < (y344.length : Int)
     ·rw [if_pos c28] at H
      have c28b0 : decide (x77_1 < (y344.length : Int)) = true := decide_eq_true c28
      clear c28
      by_cases c29 : (rd y344 x77_1) = 0
      ·rw [if_pos c29] at H
       have c29b0 : ((rd y344 x77_1) == 0) = true := beq_iff_eq.mpr c29
       have c29b1 : ((rd y344 x77_1) != 0) = false := bne_eq_false_iff_eq.mpr c29
       clear c29
       have H' := Aside0.mk H
       clear H
       have p347 : 0 ≤ (x77_1 : Int) := of_decide_eq_true (by first | (with_reducible assumption) | assumption)
       have q347 : x77_1 < (y344.length : Int) := of_decide_eq_true (by first | (with_reducible assumption) | assumption)
       obtain ⟨ad347, e347, hx347_0⟩ := Kd.at_int (Kd.R_reads' HO_75.out).2.2 x77_1 p347 q347
       cases e347
       replace p347 := eq_true p347
       replace q347 := eq_true q347
       go_wp2
       go_roundg k1
       case measure => have := HK1.out; omega
       case rel => exact ⟨(wrap64 (x77_1 + 1)), (by first | rfl | (simp; done) | (simp [*]; done)), H', ⟨by have := HK1.out; omega⟩, ⟨by (with_reducible repeat (first | apply Kd.S_alloc | apply Kd.S_drewN | apply Kd.S_drew)); exact HO_6.out⟩, ⟨by (with_reducible repeat (first | apply Kd.R_alloc | apply Kd.R_drewN | apply Kd.R_drew)); exact HO_75.out⟩, ⟨by repeat (first | (with_reducible first | exact HB.out | apply below_alloc | apply pw_below_drewN | apply below_drew1) | exact HB.out)⟩⟩
      ·rw [if_neg c29] at H
       have c29b0 : ((rd y344 x77_1) == 0) = false := beq_eq_false_iff_ne.mpr c29
       have c29b1 : ((rd y344 x77_1) != 0) = true := bne_iff_ne.mpr c29
       obtain rfl := Option.some.inj H
       have p347 : 0 ≤ (x77_1 : Int) := of_decide_eq_true (by first | (with_reducible assumption) | assumption)
       have q347 : x77_1 < (y344.length : Int) := of_decide_eq_true (by first | (with_reducible assumption) | assumption)
       obtain ⟨ad347, e347, hx347_0⟩ := Kd.at_int (Kd.R_reads' HO_75.out).2.2 x77_1 p347 q347
       cases e347
       replace p347 := eq_true p347
       replace q347 := eq_true q347
       go_wp2
       go_ret
       exact ⟨by first | rfl | (simp [errW_none, errW_some] <;> rfl) | (simp [*, errW_none, errW_some] <;> rfl), by repeat (first | (with_reducible first | exact HB.out | apply below_alloc | apply pw_below_drewN | apply below_drew1) | exact HB.out)⟩
     ·rw [if_neg c28] at H
      exact absurd H (by simp)
    ·rw [if_neg c27] at H
     exact absurd H (by simp)
   ·rw [if_neg c26] at H
    have c26b0 : decide (x77_1 < (y344.length : Int)) = false := decide_eq_false c26
    clear c26
    have H' := Aside0.mk H
    clear H
    go_wp2
    go_loopg [20, 86] k1 (fun kq v20 v86 w' => ∃ (x20_2 : Int) (x86_2 : Int), v20 = .int .i64 x20_2 ∧ v86 = .int .i64 x86_2 ∧ Aside0 (chasekeep1_PatchesLead.l1 kq t322 t326 t332 t338 t340 t342 x20_2 t328 (t328.length : Int) x86_2 = some r) ∧ Aside0 (kq ≤ k1) ∧ Aside0 (Kd.S k72 72 w' w.heap.size (fun _ => True) (.slice Ao16 t328.length co16) t328) ∧ Aside0 (Below w.heap.size w w'))
    case atStart => exact ⟨(0), (0), (by first | rfl | (simp; done) | (simp [*]; done)), (by first | rfl | (simp; done) | (simp [*]; done)), H', ⟨Nat.le_refl _⟩, ⟨by (with_reducible repeat (first | apply Kd.S_alloc | apply Kd.S_drewN | apply Kd.S_drew)); exact HO_6.out⟩, ⟨by repeat (first | (with_reducible first | exact HB.out | apply below_alloc | apply pw_below_drewN | apply below_drew1) | exact HB.out)⟩⟩
    case round =>
     clear H'
     try clear p1
     try clear c2
     try clear p2
     try clear p3
     try clear q3
     try clear hx3
     try clear c4
     try clear p6
     try clear c8
     try clear c26
     try clear c26b0
     try clear c27
     try clear c27b0
     try clear c28
     try clear c28b0
     try clear c29
     try clear c29b0
     try clear c29b1
     try clear hx347_0
     try clear p1
     try clear p2
     try clear p347
     try clear q347
     obtain ⟨x20_2, x86_2, rfl, rfl, HA, HK2, HO_84, HB⟩ := hrel
     cases gk with
     | zero => exact absurd HA.out (by simp [chasekeep1_PatchesLead.l1])
     | succ k2 =>
      have H := HA.out
      clear HA
      simp only [chasekeep1_PatchesLead.l1] at H
      by_cases c30 : x86_2 < (t328.length : Int)
      ·rw [if_pos c30] at H
       have c30b0 : decide (x86_2 < (t328.length : Int)) = true := decide_eq_true c30
       clear c30
       by_cases c31 : 0 ≤ x86_2
       ·rw [if_pos c31] at H
        have c31b0 : decide (0 ≤ x86_2) = true := decide_eq_true c31
        clear c31
        by_cases c32 : x86_2 < (t328.length : Int)
        ·rw [if_pos c32] at H
         have c32b0 : decide (x86_2 < (t328.length : Int)) = true := decide_eq_true c32
         clear c32
         have H' := Aside0.mk H
         clear H
         have p348 : 0 ≤ (x86_2 : Int) := of_decide_eq_true (by first | (with_reducible assumption) | assumption)
         have q348 : x86_2 < (t328.length : Int) := of_decide_eq_true (by first | (with_reducible assumption) | assumption)
         obtain ⟨ad348, A348_1, c348_1, A348_2, c348_2, e348, hx348_0, hx348_1, hx348_2, hl348_1, hi348_1, hl348_2, hi348_2⟩ := at_T72 (Kd.S_reads' HO_84.out).2.2 x86_2 p348 q348
         cases e348
         obtain ⟨ce348, hce348, hMe348, hcc348⟩ := Kd.S_get HO_84.out z72 x86_2 p348 (by first | exact q348 | exact of_decide_eq_true (by first | (with_reducible assumption) | assumption) | (have e_ := (Kd.S_reads' HO_84.out).1; omega))
         obtain ⟨ve348_1, ve348_2, rfl, ge348_1, ge348_2⟩ := k72_openM hMe348
         have hv348_1 := hcc348 1 _ rfl
         rw [add_field _ _ 1 (by omega)] at hv348_1
         replace hv348_1 := Option.some.inj (hv348_1.symm.trans hx348_1)
         rw [hv348_1] at ge348_1
         have HL348_1 := Aside0.mk (show Kd.R Kd.string 9 _ _ _ _ ((rd_T72 t328 x86_2).f1) from ge348_1)
         clear hv348_1 ge348_1
         have hv348_2 := hcc348 2 _ rfl
         rw [add_field _ _ 2 (by omega)] at hv348_2
         replace hv348_2 := Option.some.inj (hv348_2.symm.trans hx348_2)
         rw [hv348_2] at ge348_2
         have HL348_2 := Aside0.mk (show Kd.R Kd.string 9 _ _ _ _ ((rd_T72 t328 x86_2).f2) from ge348_2)
         clear hv348_2 ge348_2
         clear hcc348 hce348
         have HR348_1 := Aside0.mk hi348_1
         have HC348_1 := Aside0.mk hl348_1
         clear hi348_1 hl348_1
         have HR348_2 := Aside0.mk hi348_2
         have HC348_2 := Aside0.mk hl348_2
         clear hi348_2 hl348_2
         replace p348 := eq_true p348
         replace q348 := eq_true q348
         go_wp2_with (first | ((with_reducible refine gate_dst (N := 22) rfl ?_); refine box_event ?hg (N := 22) ?hd (cs := #[.int .i64 0, .slice none 0 0, .slice none 0 0]) (t := 72) ?hr ?_; (case hd => rfl); (case hg => rfl); (case hr => first | (go_simp; done) | (go_simp; rfl)); intro gb349 hg w33 hbox hb; have n0_ := Aside0.mk (Kd.S_below (Kd.S_elderB (by (with_reducible repeat (first | apply Kd.S_alloc | apply Kd.S_drewN | apply Kd.S_drew)); exact HO_84.out) gb349 (Nat.le_of_eq hg.symm)) hb); have n1_ := Aside0.mk (Kd.R_below (by (with_reducible repeat (first | apply Kd.R_alloc | apply Kd.R_drewN | apply Kd.R_drew)); exact HL348_1.out) hb); have n2_ := Aside0.mk (Kd.R_below (by (with_reducible repeat (first | apply Kd.R_alloc | apply Kd.R_drewN | apply Kd.R_drew)); exact HL348_2.out) hb); have n3_ := Aside0.mk (Kd.C_below (by repeat (first | (with_reducible exact HR348_1.out) | (with_reducible refine Kd.C_alloc ?_ _) | (with_reducible refine Kd.C_drewN ?_ _) | (with_reducible refine Kd.C_drew ?_) | exact HR348_1.out)) hb); have n4_ := Aside0.mk (Kd.C_below (by repeat (first | (with_reducible exact HR348_2.out) | (with_reducible refine Kd.C_alloc ?_ _) | (with_reducible refine Kd.C_drewN ?_ _) | (with_reducible refine Kd.C_drew ?_) | exact HR348_2.out)) hb); have n5_ := Aside0.mk (below_step (by repeat (first | (with_reducible first | exact HB.out | apply below_alloc | apply pw_below_drewN | apply below_drew1) | exact HB.out)) hb); have n6_ := Aside0.mk (hbox); have n7_ := Aside0.mk ((by rw [hg]; exact (below_size (by repeat (first | (with_reducible first | exact HB.out | apply below_alloc | apply pw_below_drewN | apply below_drew1) | exact HB.out))) : w.heap.size ≤ gb349)); have n8_ := Aside0.mk ((by rw [hg]; exact (below_size (by repeat (first | (with_reducible first | exact HB.out | apply below_alloc | apply pw_below_drewN | apply below_drew1) | exact HB.out))) : w.heap.size ≤ gb349)); clear HO_84; clear HL348_1; clear HL348_2; clear HR348_1; clear HR348_2; clear HB; have HO_84 := n0_; have HL348_1 := n1_; have HL348_2 := n2_; have HR348_1 := n3_; have HR348_2 := n4_; have HB := n5_; have BK349 := n6_; have GW349 := n7_; have GE349 := n8_; clear n0_ n1_ n2_ n3_ n4_ n5_ n6_ n7_ n8_; clear hb hbox hg; have hcz34_0 : w33.cell? ⟨gb349, 0, none⟩ = some (.int .i64 0) := (blk_cell BK349.out 0).trans rfl; have hcz34_1 : w33.cell? ⟨gb349, 1, none⟩ = some (.slice none 0 0) := (blk_cell BK349.out 1).trans rfl; have hcz34_2 : w33.cell? ⟨gb349, 2, none⟩ = some (.slice none 0 0) := (blk_cell BK349.out 2).trans rfl; have hfz34_0 := blk_frozen BK349.out 0; have hfz34_1 := blk_frozen BK349.out 1; have hfz34_2 := blk_frozen BK349.out 2))
         go_roundg k2
         case measure => have := HK1.out; have := HK2.out; omega
         case rel => exact ⟨(wrap64 (x20_2 + (wrap64 ((((rd_T72 t328 x86_2).f1).length : Int) + (((rd_T72 t328 x86_2).f2).length : Int))))), (wrap64 (x86_2 + 1)), (by first | rfl | (simp; done) | (simp [*]; done)), (by first | rfl | (simp; done) | (simp [*]; done)), H', ⟨by have := HK1.out; have := HK2.out; omega⟩, ⟨by (with_reducible repeat (first | apply Kd.S_alloc | apply Kd.S_drewN | apply Kd.S_drew)); exact Kd.S_mono (Kd.S_far (p := ⟨gb349, 2, none⟩) (Kd.S_far (p := ⟨gb349, 1, none⟩) (Kd.S_far (p := ⟨gb349, 0, none⟩) (Kd.S_mono HO_84.out (fun k_ hk => (⟨hk, hk.2⟩ : _ ∧ k_ ≠ gb349))) (fun _ hk => hk.2) (.int .i64 ((rd_T72 t328 x86_2).f0))) (fun _ hk => hk.2) (.slice A348_1 ((rd_T72 t328 x86_2).f1).length c348_1)) (fun _ hk => hk.2) (.slice A348_2 ((rd_T72 t328 x86_2).f2).length c348_2)) (fun _ hk => trivial)⟩, ⟨by repeat (first | (with_reducible first | exact HB.out | apply below_alloc | apply pw_below_drewN | apply below_drew1 | refine below_set ?_ GE349.out) | exact HB.out)⟩⟩
        ·rw [if_neg c32] at H
         exact absurd H (by simp)
       ·rw [if_neg c31] at H
        exact absurd H (by simp)
      ·rw [if_neg c30] at H
       have c30b0 : decide (x86_2 < (t328.length : Int)) = false := decide_eq_false c30
       clear c30
       have HC35 := Aside0.mk H
       clear H
       go_upto_region 22 with (fail)
       go_cut [2] (fun v2 wc => ∃ (kq : Nat) (x2_34 : Bool), v2 = .bool x2_34 ∧ Aside0 (chasekeep1_PatchesLead.j2 kq x2_34 = some r) ∧ Aside0 (kq ≤ k2) ∧ Aside0 (Below w.heap.size w wc))
       case first =>
        have H := HC35.out
        clear HC35
        replace H := Option.bind_eq_some_iff.mp H
        obtain ⟨t350, A360, H⟩ := H
        replace H : (if t350 = true then ((near_Tokens.f k2 t326).bind fun t351 => ((near_Join.f t351).bind fun t354 => (if t332.toList = t354.toList then ((near_Tokens.f k2 t322).bind fun t355 => ((near_Join.f t355).bind fun t358 => (if t338.toList = t358.toList then (if t340 = t342 then (chasekeep1_PatchesLead.j2 k2 (t340 == x20_2)) else (chasekeep1_PatchesLead.j2 k2 false)) else (chasekeep1_PatchesLead.j2 k2 false)))) else (chasekeep1_PatchesLead.j2 k2 false)))) else (chasekeep1_PatchesLead.j2 k2 false)) = some r := H
        have A36 := Aside0.mk A360
        clear A360
        by_cases c37 : t350 = true
        ·subst c37
         have H1 : ((near_Tokens.f k2 t326).bind fun t351 => ((near_Join.f t351).bind fun t354 => (if t332.toList = t354.toList then ((near_Tokens.f k2 t322).bind fun t355 => ((near_Join.f t355).bind fun t358 => (if t338.toList = t358.toList then (if t340 = t342 then (chasekeep1_PatchesLead.j2 k2 (t340 == x20_2)) else (chasekeep1_PatchesLead.j2 k2 false)) else (chasekeep1_PatchesLead.j2 k2 false)))) else (chasekeep1_PatchesLead.j2 k2 false)))) = some r := by rw [if_pos rfl] at H; exact H
         clear H
         have H := H1
         clear H1
         replace H := Option.bind_eq_some_iff.mp H
         obtain ⟨t351, A380, H⟩ := H
         replace H : ((near_Join.f t351).bind fun t354 => (if t332.toList = t354.toList then ((near_Tokens.f k2 t322).bind fun t355 => ((near_Join.f t355).bind fun t358 => (if t338.toList = t358.toList then (if t340 = t342 then (chasekeep1_PatchesLead.j2 k2 (t340 == x20_2)) else (chasekeep1_PatchesLead.j2 k2 false)) else (chasekeep1_PatchesLead.j2 k2 false)))) else (chasekeep1_PatchesLead.j2 k2 false))) = some r := H
         have A38 := Aside0.mk A380
         clear A380
         replace H := Option.bind_eq_some_iff.mp H
         obtain ⟨t354, A390, H⟩ := H
         replace H : (if t332.toList = t354.toList then ((near_Tokens.f k2 t322).bind fun t355 => ((near_Join.f t355).bind fun t358 => (if t338.toList = t358.toList then (if t340 = t342 then (chasekeep1_PatchesLead.j2 k2 (t340 == x20_2)) else (chasekeep1_PatchesLead.j2 k2 false)) else (chasekeep1_PatchesLead.j2 k2 false)))) else (chasekeep1_PatchesLead.j2 k2 false)) = some r := H
         have A39 := Aside0.mk A390
         clear A390
         by_cases c40 : t332.toList = t354.toList
         ·rw [if_pos c40] at H
          have c40b0 : (t332.toList == t354.toList) = true := beq_iff_eq.mpr c40
          have c40b1 : (t332.toList != t354.toList) = false := bne_eq_false_iff_eq.mpr c40
          clear c40
          (first | rw [c40b0] | (simp only [i64_w, i32_w]; rw [c40b0]) | skip)
          replace H := Option.bind_eq_some_iff.mp H
          obtain ⟨t355, A410, H⟩ := H
          replace H : ((near_Join.f t355).bind fun t358 => (if t338.toList = t358.toList then (if t340 = t342 then (chasekeep1_PatchesLead.j2 k2 (t340 == x20_2)) else (chasekeep1_PatchesLead.j2 k2 false)) else (chasekeep1_PatchesLead.j2 k2 false))) = some r := H
          have A41 := Aside0.mk A410
          clear A410
          replace H := Option.bind_eq_some_iff.mp H
          obtain ⟨t358, A420, H⟩ := H
          replace H : (if t338.toList = t358.toList then (if t340 = t342 then (chasekeep1_PatchesLead.j2 k2 (t340 == x20_2)) else (chasekeep1_PatchesLead.j2 k2 false)) else (chasekeep1_PatchesLead.j2 k2 false)) = some r := H
          have A42 := Aside0.mk A420
          clear A420
          by_cases c43 : t338.toList = t358.toList
          ·rw [if_pos c43] at H
           have c43b0 : (t338.toList == t358.toList) = true := beq_iff_eq.mpr c43
           have c43b1 : (t338.toList != t358.toList) = false := bne_eq_false_iff_eq.mpr c43
           clear c43
           by_cases c44 : t340 = t342
           ·rw [if_pos c44] at H
            have c44b0 : (t340 == t342) = true := beq_iff_eq.mpr c44
            have c44b1 : (t340 != t342) = false := bne_eq_false_iff_eq.mpr c44
            clear c44
            have H' := Aside0.mk H
            clear H
            go_wp2_with (first | ((with_reducible refine gate_callee (f := 48) rfl ?_); refine goesL_ (some 100) rfl rfl Tryd.func48 (by kernel_rfl) rfl #[] rfl (by (try simp only [List.map_toArray, List.map_cons, List.map_nil]); first | done | rfl | (simp only [List.length_drop, List.length_take]; rfl)) ?_; (with_reducible refine (chasekeep1_nears.calls k2  true _ A36.out).mono ?_); rintro e w45 ⟨rfl, hb⟩; refine ⟨_, rfl, ?_⟩; have n0_ := Aside0.mk (Kd.S_below (by (with_reducible repeat (first | apply Kd.S_alloc | apply Kd.S_drewN | apply Kd.S_drew)); exact HO_84.out) hb); have n1_ := Aside0.mk (below_step (by repeat (first | (with_reducible first | exact HB.out | apply below_alloc | apply pw_below_drewN | apply below_drew1) | exact HB.out)) hb); clear HO_84; clear HB; have HO_84 := n0_; have HB := n1_; clear n0_ n1_; (try clear hb); (try clear hb2); (try clear hk); (try clear hi)) | (go_at_call 50; (with_reducible refine (near_Tokens.calls k2 t326 t351 _ ?side1 A38.out).mono ?_); (case side1 => exact Wd.below HGl.out (by repeat (first | (with_reducible first | exact HB.out | apply below_alloc | apply pw_below_drewN | apply below_drew1) | exact HB.out))); rintro e w46 ⟨v352, rfl, ho0, hb⟩; have n0_ := Aside0.mk (Kd.S_elder' (by (with_reducible repeat (first | apply Kd.S_alloc | apply Kd.S_drewN | apply Kd.S_drew)); exact HO_84.out) (Kd.R_base ho0) hb); have n1_ := Aside0.mk (Kd.R_lower ho0 (below_size (by repeat (first | (with_reducible first | exact HB.out | apply below_alloc | apply pw_below_drewN | apply below_drew1) | exact HB.out)))); have n2_ := Aside0.mk (below_step (by repeat (first | (with_reducible first | exact HB.out | apply below_alloc | apply pw_below_drewN | apply below_drew1) | exact HB.out)) hb); clear HO_84; clear HB; have HO_84 := n0_; have HO353 := n1_; have HB := n2_; clear n0_ n1_ n2_; (try clear hb); (try clear hb2); (try clear hk); (try clear hi); (try clear ho0); obtain ⟨Ao47, co47, eo47⟩ := Kd.R_slice HO353.out; subst eo47) | (go_at_call 49; (with_reducible refine (near_Join.calls _ _ t351 t354 _ ?side1 ?side2 A39.out).mono ?_); (case side1 => repeat (first | exact (Kd.R_reads' HO353.out).2.2 | (with_reducible refine Kd.C_alloc ?_ _) | (with_reducible refine Kd.C_drewN ?_ _) | (with_reducible refine Kd.C_drew ?_))); (case side2 => exact (Kd.R_reads' HO353.out).2.1); rintro e w48 ⟨rfl, hb⟩; have n0_ := Aside0.mk (Kd.S_below (by (with_reducible repeat (first | apply Kd.S_alloc | apply Kd.S_drewN | apply Kd.S_drew)); exact HO_84.out) hb); have n1_ := Aside0.mk (Kd.R_below (by (with_reducible repeat (first | apply Kd.R_alloc | apply Kd.R_drewN | apply Kd.R_drew)); exact HO353.out) hb); have n2_ := Aside0.mk (below_step (by repeat (first | (with_reducible first | exact HB.out | apply below_alloc | apply pw_below_drewN | apply below_drew1) | exact HB.out)) hb); clear HO_84; clear HO353; clear HB; have HO_84 := n0_; have HO353 := n1_; have HB := n2_; clear n0_ n1_ n2_; (try clear hb); (try clear hb2); (try clear hk); (try clear hi)) | (go_at_call 50; (with_reducible refine (near_Tokens.calls k2 t322 t355 _ ?side1 A41.out).mono ?_); (case side1 => exact Wd.below HGl.out (by repeat (first | (with_reducible first | exact HB.out | apply below_alloc | apply pw_below_drewN | apply below_drew1) | exact HB.out))); rintro e w49 ⟨v356, rfl, ho0, hb⟩; have n0_ := Aside0.mk (Kd.S_elder' (by (with_reducible repeat (first | apply Kd.S_alloc | apply Kd.S_drewN | apply Kd.S_drew)); exact HO_84.out) (Kd.R_base ho0) hb); have n1_ := Aside0.mk (Kd.R_elder' (by (with_reducible repeat (first | apply Kd.R_alloc | apply Kd.R_drewN | apply Kd.R_drew)); exact HO353.out) (Kd.R_base ho0) hb); have n2_ := Aside0.mk (Kd.R_lower (Kd.R_new' ho0 (Kd.R_lt (by (with_reducible repeat (first | apply Kd.R_alloc | apply Kd.R_drewN | apply Kd.R_drew)); exact HO353.out))) (below_size (by repeat (first | (with_reducible first | exact HB.out | apply below_alloc | apply pw_below_drewN | apply below_drew1) | exact HB.out)))); have n3_ := Aside0.mk (below_step (by repeat (first | (with_reducible first | exact HB.out | apply below_alloc | apply pw_below_drewN | apply below_drew1) | exact HB.out)) hb); clear HO_84; clear HO353; clear HB; have HO_84 := n0_; have HO353 := n1_; have HO357 := n2_; have HB := n3_; clear n0_ n1_ n2_ n3_; (try clear hb); (try clear hb2); (try clear hk); (try clear hi); (try clear ho0); obtain ⟨Ao50, co50, eo50⟩ := Kd.R_slice HO357.out; subst eo50) | (go_at_call 49; (with_reducible refine (near_Join.calls _ _ t355 t358 _ ?side1 ?side2 A42.out).mono ?_); (case side1 => repeat (first | exact (Kd.R_reads' HO357.out).2.2 | (with_reducible refine Kd.C_alloc ?_ _) | (with_reducible refine Kd.C_drewN ?_ _) | (with_reducible refine Kd.C_drew ?_))); (case side2 => exact (Kd.R_reads' HO357.out).2.1); rintro e w51 ⟨rfl, hb⟩; have n0_ := Aside0.mk (Kd.S_below (by (with_reducible repeat (first | apply Kd.S_alloc | apply Kd.S_drewN | apply Kd.S_drew)); exact HO_84.out) hb); have n1_ := Aside0.mk (Kd.R_below (by (with_reducible repeat (first | apply Kd.R_alloc | apply Kd.R_drewN | apply Kd.R_drew)); exact HO353.out) hb); have n2_ := Aside0.mk (Kd.R_below (by (with_reducible repeat (first | apply Kd.R_alloc | apply Kd.R_drewN | apply Kd.R_drew)); exact HO357.out) hb); have n3_ := Aside0.mk (below_step (by repeat (first | (with_reducible first | exact HB.out | apply below_alloc | apply pw_below_drewN | apply below_drew1) | exact HB.out)) hb); clear HO_84; clear HO353; clear HO357; clear HB; have HO_84 := n0_; have HO353 := n1_; have HO357 := n2_; have HB := n3_; clear n0_ n1_ n2_ n3_; (try clear hb); (try clear hb2); (try clear hk); (try clear hi)))
            go_meet
            case rel => exact ⟨_, ((t340 == x20_2)), (by first | rfl | (simp; done) | (simp [*]; done)), H', ⟨by have := HK1.out; have := HK2.out; first | omega | exact Nat.le_refl _⟩, ⟨by repeat (first | (with_reducible first | exact HB.out | apply below_alloc | apply pw_below_drewN | apply below_drew1) | exact HB.out)⟩⟩
           ·rw [if_neg c44] at H
            have c44b0 : (t340 == t342) = false := beq_eq_false_iff_ne.mpr c44
            have c44b1 : (t340 != t342) = true := bne_iff_ne.mpr c44
            have H' := Aside0.mk H
            clear H
            go_wp2_with (first | ((with_reducible refine gate_callee (f := 48) rfl ?_); refine goesL_ (some 100) rfl rfl Tryd.func48 (by kernel_rfl) rfl #[] rfl (by (try simp only [List.map_toArray, List.map_cons, List.map_nil]); first | done | rfl | (simp only [List.length_drop, List.length_take]; rfl)) ?_; (with_reducible refine (chasekeep1_nears.calls k2  true _ A36.out).mono ?_); rintro e w52 ⟨rfl, hb⟩; refine ⟨_, rfl, ?_⟩; have n0_ := Aside0.mk (Kd.S_below (by (with_reducible repeat (first | apply Kd.S_alloc | apply Kd.S_drewN | apply Kd.S_drew)); exact HO_84.out) hb); have n1_ := Aside0.mk (below_step (by repeat (first | (with_reducible first | exact HB.out | apply below_alloc | apply pw_below_drewN | apply below_drew1) | exact HB.out)) hb); clear HO_84; clear HB; have HO_84 := n0_; have HB := n1_; clear n0_ n1_; (try clear hb); (try clear hb2); (try clear hk); (try clear hi)) | (go_at_call 50; (with_reducible refine (near_Tokens.calls k2 t326 t351 _ ?side1 A38.out).mono ?_); (case side1 => exact Wd.below HGl.out (by repeat (first | (with_reducible first | exact HB.out | apply below_alloc | apply pw_below_drewN | apply below_drew1) | exact HB.out))); rintro e w53 ⟨v352, rfl, ho0, hb⟩; have n0_ := Aside0.mk (Kd.S_elder' (by (with_reducible repeat (first | apply Kd.S_alloc | apply Kd.S_drewN | apply Kd.S_drew)); exact HO_84.out) (Kd.R_base ho0) hb); have n1_ := Aside0.mk (Kd.R_lower ho0 (below_size (by repeat (first | (with_reducible first | exact HB.out | apply below_alloc | apply pw_below_drewN | apply below_drew1) | exact HB.out)))); have n2_ := Aside0.mk (below_step (by repeat (first | (with_reducible first | exact HB.out | apply below_alloc | apply pw_below_drewN | apply below_drew1) | exact HB.out)) hb); clear HO_84; clear HB; have HO_84 := n0_; have HO353 := n1_; have HB := n2_; clear n0_ n1_ n2_; (try clear hb); (try clear hb2); (try clear hk); (try clear hi); (try clear ho0); obtain ⟨Ao54, co54, eo54⟩ := Kd.R_slice HO353.out; subst eo54) | (go_at_call 49; (with_reducible refine (near_Join.calls _ _ t351 t354 _ ?side1 ?side2 A39.out).mono ?_); (case side1 => repeat (first | exact (Kd.R_reads' HO353.out).2.2 | (with_reducible refine Kd.C_alloc ?_ _) | (with_reducible refine Kd.C_drewN ?_ _) | (with_reducible refine Kd.C_drew ?_))); (case side2 => exact (Kd.R_reads' HO353.out).2.1); rintro e w55 ⟨rfl, hb⟩; have n0_ := Aside0.mk (Kd.S_below (by (with_reducible repeat (first | apply Kd.S_alloc | apply Kd.S_drewN | apply Kd.S_drew)); exact HO_84.out) hb); have n1_ := Aside0.mk (Kd.R_below (by (with_reducible repeat (first | apply Kd.R_alloc | apply Kd.R_drewN | apply Kd.R_drew)); exact HO353.out) hb); have n2_ := Aside0.mk (below_step (by repeat (first | (with_reducible first | exact HB.out | apply below_alloc | apply pw_below_drewN | apply below_drew1) | exact HB.out)) hb); clear HO_84; clear HO353; clear HB; have HO_84 := n0_; have HO353 := n1_; have HB := n2_; clear n0_ n1_ n2_; (try clear hb); (try clear hb2); (try clear hk); (try clear hi)) | (go_at_call 50; (with_reducible refine (near_Tokens.calls k2 t322 t355 _ ?side1 A41.out).mono ?_); (case side1 => exact Wd.below HGl.out (by repeat (first | (with_reducible first | exact HB.out | apply below_alloc | apply pw_below_drewN | apply below_drew1) | exact HB.out))); rintro e w56 ⟨v356, rfl, ho0, hb⟩; have n0_ := Aside0.mk (Kd.S_elder' (by (with_reducible repeat (first | apply Kd.S_alloc | apply Kd.S_drewN | apply Kd.S_drew)); exact HO_84.out) (Kd.R_base ho0) hb); have n1_ := Aside0.mk (Kd.R_elder' (by (with_reducible repeat (first | apply Kd.R_alloc | apply Kd.R_drewN | apply Kd.R_drew)); exact HO353.out) (Kd.R_base ho0) hb); have n2_ := Aside0.mk (Kd.R_lower (Kd.R_new' ho0 (Kd.R_lt (by (with_reducible repeat (first | apply Kd.R_alloc | apply Kd.R_drewN | apply Kd.R_drew)); exact HO353.out))) (below_size (by repeat (first | (with_reducible first | exact HB.out | apply below_alloc | apply pw_below_drewN | apply below_drew1) | exact HB.out)))); have n3_ := Aside0.mk (below_step (by repeat (first | (with_reducible first | exact HB.out | apply below_alloc | apply pw_below_drewN | apply below_drew1) | exact HB.out)) hb); clear HO_84; clear HO353; clear HB; have HO_84 := n0_; have HO353 := n1_; have HO357 := n2_; have HB := n3_; clear n0_ n1_ n2_ n3_; (try clear hb); (try clear hb2); (try clear hk); (try clear hi); (try clear ho0); obtain ⟨Ao57, co57, eo57⟩ := Kd.R_slice HO357.out; subst eo57) | (go_at_call 49; (with_reducible refine (near_Join.calls _ _ t355 t358 _ ?side1 ?side2 A42.out).mono ?_); (case side1 => repeat (first | exact (Kd.R_reads' HO357.out).2.2 | (with_reducible refine Kd.C_alloc ?_ _) | (with_reducible refine Kd.C_drewN ?_ _) | (with_reducible refine Kd.C_drew ?_))); (case side2 => exact (Kd.R_reads' HO357.out).2.1); rintro e w58 ⟨rfl, hb⟩; have n0_ := Aside0.mk (Kd.S_below (by (with_reducible repeat (first | apply Kd.S_alloc | apply Kd.S_drewN | apply Kd.S_drew)); exact HO_84.out) hb); have n1_ := Aside0.mk (Kd.R_below (by (with_reducible repeat (first | apply Kd.R_alloc | apply Kd.R_drewN | apply Kd.R_drew)); exact HO353.out) hb); have n2_ := Aside0.mk (Kd.R_below (by (with_reducible repeat (first | apply Kd.R_alloc | apply Kd.R_drewN | apply Kd.R_drew)); exact HO357.out) hb); have n3_ := Aside0.mk (below_step (by repeat (first | (with_reducible first | exact HB.out | apply below_alloc | apply pw_below_drewN | apply below_drew1) | exact HB.out)) hb); clear HO_84; clear HO353; clear HO357; clear HB; have HO_84 := n0_; have HO353 := n1_; have HO357 := n2_; have HB := n3_; clear n0_ n1_ n2_ n3_; (try clear hb); (try clear hb2); (try clear hk); (try clear hi)))
            go_meet
            case rel => exact ⟨_, (false), (by first | rfl | (simp; done) | (simp [*]; done)), H', ⟨by have := HK1.out; have := HK2.out; first | omega | exact Nat.le_refl _⟩, ⟨by repeat (first | (with_reducible first | exact HB.out | apply below_alloc | apply pw_below_drewN | apply below_drew1) | exact HB.out)⟩⟩
          ·rw [if_neg c43] at H
           have c43b0 : (t338.toList == t358.toList) = false := beq_eq_false_iff_ne.mpr c43
           have c43b1 : (t338.toList != t358.toList) = true := bne_iff_ne.mpr c43
           have H' := Aside0.mk H
           clear H
           go_wp2_with (first | ((with_reducible refine gate_callee (f := 48) rfl ?_); refine goesL_ (some 100) rfl rfl Tryd.func48 (by kernel_rfl) rfl #[] rfl (by (try simp only [List.map_toArray, List.map_cons, List.map_nil]); first | done | rfl | (simp only [List.length_drop, List.length_take]; rfl)) ?_; (with_reducible refine (chasekeep1_nears.calls k2  true _ A36.out).mono ?_); rintro e w59 ⟨rfl, hb⟩; refine ⟨_, rfl, ?_⟩; have n0_ := Aside0.mk (Kd.S_below (by (with_reducible repeat (first | apply Kd.S_alloc | apply Kd.S_drewN | apply Kd.S_drew)); exact HO_84.out) hb); have n1_ := Aside0.mk (below_step (by repeat (first | (with_reducible first | exact HB.out | apply below_alloc | apply pw_below_drewN | apply below_drew1) | exact HB.out)) hb); clear HO_84; clear HB; have HO_84 := n0_; have HB := n1_; clear n0_ n1_; (try clear hb); (try clear hb2); (try clear hk); (try clear hi)) | (go_at_call 50; (with_reducible refine (near_Tokens.calls k2 t326 t351 _ ?side1 A38.out).mono ?_); (case side1 => exact Wd.below HGl.out (by repeat (first | (with_reducible first | exact HB.out | apply below_alloc | apply pw_below_drewN | apply below_drew1) | exact HB.out))); rintro e w60 ⟨v352, rfl, ho0, hb⟩; have n0_ := Aside0.mk (Kd.S_elder' (by (with_reducible repeat (first | apply Kd.S_alloc | apply Kd.S_drewN | apply Kd.S_drew)); exact HO_84.out) (Kd.R_base ho0) hb); have n1_ := Aside0.mk (Kd.R_lower ho0 (below_size (by repeat (first | (with_reducible first | exact HB.out | apply below_alloc | apply pw_below_drewN | apply below_drew1) | exact HB.out)))); have n2_ := Aside0.mk (below_step (by repeat (first | (with_reducible first | exact HB.out | apply below_alloc | apply pw_below_drewN | apply below_drew1) | exact HB.out)) hb); clear HO_84; clear HB; have HO_84 := n0_; have HO353 := n1_; have HB := n2_; clear n0_ n1_ n2_; (try clear hb); (try clear hb2); (try clear hk); (try clear hi); (try clear ho0); obtain ⟨Ao61, co61, eo61⟩ := Kd.R_slice HO353.out; subst eo61) | (go_at_call 49; (with_reducible refine (near_Join.calls _ _ t351 t354 _ ?side1 ?side2 A39.out).mono ?_); (case side1 => repeat (first | exact (Kd.R_reads' HO353.out).2.2 | (with_reducible refine Kd.C_alloc ?_ _) | (with_reducible refine Kd.C_drewN ?_ _) | (with_reducible refine Kd.C_drew ?_))); (case side2 => exact (Kd.R_reads' HO353.out).2.1); rintro e w62 ⟨rfl, hb⟩; have n0_ := Aside0.mk (Kd.S_below (by (with_reducible repeat (first | apply Kd.S_alloc | apply Kd.S_drewN | apply Kd.S_drew)); exact HO_84.out) hb); have n1_ := Aside0.mk (Kd.R_below (by (with_reducible repeat (first | apply Kd.R_alloc | apply Kd.R_drewN | apply Kd.R_drew)); exact HO353.out) hb); have n2_ := Aside0.mk (below_step (by repeat (first | (with_reducible first | exact HB.out | apply below_alloc | apply pw_below_drewN | apply below_drew1) | exact HB.out)) hb); clear HO_84; clear HO353; clear HB; have HO_84 := n0_; have HO353 := n1_; have HB := n2_; clear n0_ n1_ n2_; (try clear hb); (try clear hb2); (try clear hk); (try clear hi)) | (go_at_call 50; (with_reducible refine (near_Tokens.calls k2 t322 t355 _ ?side1 A41.out).mono ?_); (case side1 => exact Wd.below HGl.out (by repeat (first | (with_reducible first | exact HB.out | apply below_alloc | apply pw_below_drewN | apply below_drew1) | exact HB.out))); rintro e w63 ⟨v356, rfl, ho0, hb⟩; have n0_ := Aside0.mk (Kd.S_elder' (by (with_reducible repeat (first | apply Kd.S_alloc | apply Kd.S_drewN | apply Kd.S_drew)); exact HO_84.out) (Kd.R_base ho0) hb); have n1_ := Aside0.mk (Kd.R_elder' (by (with_reducible repeat (first | apply Kd.R_alloc | apply Kd.R_drewN | apply Kd.R_drew)); exact HO353.out) (Kd.R_base ho0) hb); have n2_ := Aside0.mk (Kd.R_lower (Kd.R_new' ho0 (Kd.R_lt (by (with_reducible repeat (first | apply Kd.R_alloc | apply Kd.R_drewN | apply Kd.R_drew)); exact HO353.out))) (below_size (by repeat (first | (with_reducible first | exact HB.out | apply below_alloc | apply pw_below_drewN | apply below_drew1) | exact HB.out)))); have n3_ := Aside0.mk (below_step (by repeat (first | (with_reducible first | exact HB.out | apply below_alloc | apply pw_below_drewN | apply below_drew1) | exact HB.out)) hb); clear HO_84; clear HO353; clear HB; have HO_84 := n0_; have HO353 := n1_; have HO357 := n2_; have HB := n3_; clear n0_ n1_ n2_ n3_; (try clear hb); (try clear hb2); (try clear hk); (try clear hi); (try clear ho0); obtain ⟨Ao64, co64, eo64⟩ := Kd.R_slice HO357.out; subst eo64) | (go_at_call 49; (with_reducible refine (near_Join.calls _ _ t355 t358 _ ?side1 ?side2 A42.out).mono ?_); (case side1 => repeat (first | exact (Kd.R_reads' HO357.out).2.2 | (with_reducible refine Kd.C_alloc ?_ _) | (with_reducible refine Kd.C_drewN ?_ _) | (with_reducible refine Kd.C_drew ?_))); (case side2 => exact (Kd.R_reads' HO357.out).2.1); rintro e w65 ⟨rfl, hb⟩; have n0_ := Aside0.mk (Kd.S_below (by (with_reducible repeat (first | apply Kd.S_alloc | apply Kd.S_drewN | apply Kd.S_drew)); exact HO_84.out) hb); have n1_ := Aside0.mk (Kd.R_below (by (with_reducible repeat (first | apply Kd.R_alloc | apply Kd.R_drewN | apply Kd.R_drew)); exact HO353.out) hb); have n2_ := Aside0.mk (Kd.R_below (by (with_reducible repeat (first | apply Kd.R_alloc | apply Kd.R_drewN | apply Kd.R_drew)); exact HO357.out) hb); have n3_ := Aside0.mk (below_step (by repeat (first | (with_reducible first | exact HB.out | apply below_alloc | apply pw_below_drewN | apply below_drew1) | exact HB.out)) hb); clear HO_84; clear HO353; clear HO357; clear HB; have HO_84 := n0_; have HO353 := n1_; have HO357 := n2_; have HB := n3_; clear n0_ n1_ n2_ n3_; (try clear hb); (try clear hb2); (try clear hk); (try clear hi)))
           go_meet
           case rel => exact ⟨_, (false), (by first | rfl | (simp; done) | (simp [*]; done)), H', ⟨by have := HK1.out; have := HK2.out; first | omega | exact Nat.le_refl _⟩, ⟨by repeat (first | (with_reducible first | exact HB.out | apply below_alloc | apply pw_below_drewN | apply below_drew1) | exact HB.out)⟩⟩
         ·rw [if_neg c40] at H
          have c40b0 : (t332.toList == t354.toList) = false := beq_eq_false_iff_ne.mpr c40
          have c40b1 : (t332.toList != t354.toList) = true := bne_iff_ne.mpr c40
          (first | rw [c40b0] | (simp only [i64_w, i32_w]; rw [c40b0]) | skip)
          have H' := Aside0.mk H
          clear H
          go_wp2_with (first | ((with_reducible refine gate_callee (f := 48) rfl ?_); refine goesL_ (some 100) rfl rfl Tryd.func48 (by kernel_rfl) rfl #[] rfl (by (try simp only [List.map_toArray, List.map_cons, List.map_nil]); first | done | rfl | (simp only [List.length_drop, List.length_take]; rfl)) ?_; (with_reducible refine (chasekeep1_nears.calls k2  true _ A36.out).mono ?_); rintro e w66 ⟨rfl, hb⟩; refine ⟨_, rfl, ?_⟩; have n0_ := Aside0.mk (Kd.S_below (by (with_reducible repeat (first | apply Kd.S_alloc | apply Kd.S_drewN | apply Kd.S_drew)); exact HO_84.out) hb); have n1_ := Aside0.mk (below_step (by repeat (first | (with_reducible first | exact HB.out | apply below_alloc | apply pw_below_drewN | apply below_drew1) | exact HB.out)) hb); clear HO_84; clear HB; have HO_84 := n0_; have HB := n1_; clear n0_ n1_; (try clear hb); (try clear hb2); (try clear hk); (try clear hi)) | (go_at_call 50; (with_reducible refine (near_Tokens.calls k2 t326 t351 _ ?side1 A38.out).mono ?_); (case side1 => exact Wd.below HGl.out (by repeat (first | (with_reducible first | exact HB.out | apply below_alloc | apply pw_below_drewN | apply below_drew1) | exact HB.out))); rintro e w67 ⟨v352, rfl, ho0, hb⟩; have n0_ := Aside0.mk (Kd.S_elder' (by (with_reducible repeat (first | apply Kd.S_alloc | apply Kd.S_drewN | apply Kd.S_drew)); exact HO_84.out) (Kd.R_base ho0) hb); have n1_ := Aside0.mk (Kd.R_lower ho0 (below_size (by repeat (first | (with_reducible first | exact HB.out | apply below_alloc | apply pw_below_drewN | apply below_drew1) | exact HB.out)))); have n2_ := Aside0.mk (below_step (by repeat (first | (with_reducible first | exact HB.out | apply below_alloc | apply pw_below_drewN | apply below_drew1) | exact HB.out)) hb); clear HO_84; clear HB; have HO_84 := n0_; have HO353 := n1_; have HB := n2_; clear n0_ n1_ n2_; (try clear hb); (try clear hb2); (try clear hk); (try clear hi); (try clear ho0); obtain ⟨Ao68, co68, eo68⟩ := Kd.R_slice HO353.out; subst eo68) | (go_at_call 49; (with_reducible refine (near_Join.calls _ _ t351 t354 _ ?side1 ?side2 A39.out).mono ?_); (case side1 => repeat (first | exact (Kd.R_reads' HO353.out).2.2 | (with_reducible refine Kd.C_alloc ?_ _) | (with_reducible refine Kd.C_drewN ?_ _) | (with_reducible refine Kd.C_drew ?_))); (case side2 => exact (Kd.R_reads' HO353.out).2.1); rintro e w69 ⟨rfl, hb⟩; have n0_ := Aside0.mk (Kd.S_below (by (with_reducible repeat (first | apply Kd.S_alloc | apply Kd.S_drewN | apply Kd.S_drew)); exact HO_84.out) hb); have n1_ := Aside0.mk (Kd.R_below (by (with_reducible repeat (first | apply Kd.R_alloc | apply Kd.R_drewN | apply Kd.R_drew)); exact HO353.out) hb); have n2_ := Aside0.mk (below_step (by repeat (first | (with_reducible first | exact HB.out | apply below_alloc | apply pw_below_drewN | apply below_drew1) | exact HB.out)) hb); clear HO_84; clear HO353; clear HB; have HO_84 := n0_; have HO353 := n1_; have HB := n2_; clear n0_ n1_ n2_; (try clear hb); (try clear hb2); (try clear hk); (try clear hi)))
          go_meet
          case rel => exact ⟨_, (false), (by first | rfl | (simp; done) | (simp [*]; done)), H', ⟨by have := HK1.out; have := HK2.out; first | omega | exact Nat.le_refl _⟩, ⟨by repeat (first | (with_reducible first | exact HB.out | apply below_alloc | apply pw_below_drewN | apply below_drew1) | exact HB.out)⟩⟩
        ·replace c37 := Bool.eq_false_iff.mpr c37
         subst c37
         have H1 : (chasekeep1_PatchesLead.j2 k2 false) = some r := by rw [if_neg (show ¬ (false = true) by decide)] at H; exact H
         clear H
         have H := H1
         clear H1
         have H' := Aside0.mk H
         clear H
         go_wp2_with (first | ((with_reducible refine gate_callee (f := 48) rfl ?_); refine goesL_ (some 100) rfl rfl Tryd.func48 (by kernel_rfl) rfl #[] rfl (by (try simp only [List.map_toArray, List.map_cons, List.map_nil]); first | done | rfl | (simp only [List.length_drop, List.length_take]; rfl)) ?_; (with_reducible refine (chasekeep1_nears.calls k2  false _ A36.out).mono ?_); rintro e w70 ⟨rfl, hb⟩; refine ⟨_, rfl, ?_⟩; have n0_ := Aside0.mk (Kd.S_below (by (with_reducible repeat (first | apply Kd.S_alloc | apply Kd.S_drewN | apply Kd.S_drew)); exact HO_84.out) hb); have n1_ := Aside0.mk (below_step (by repeat (first | (with_reducible first | exact HB.out | apply below_alloc | apply pw_below_drewN | apply below_drew1) | exact HB.out)) hb); clear HO_84; clear HB; have HO_84 := n0_; have HB := n1_; clear n0_ n1_; (try clear hb); (try clear hb2); (try clear hk); (try clear hi)))
         go_meet
         case rel => exact ⟨_, (false), (by first | rfl | (simp; done) | (simp [*]; done)), H', ⟨by have := HK1.out; have := HK2.out; first | omega | exact Nat.le_refl _⟩, ⟨by repeat (first | (with_reducible first | exact HB.out | apply below_alloc | apply pw_below_drewN | apply below_drew1) | exact HB.out)⟩⟩
       case rest =>
        clear HC35
        try clear p1
        try clear c2
        try clear p2
        try clear c3
        try clear p3
        try clear q3
        try clear hx3
        try clear c4
        try clear p6
        try clear c8
        try clear c26
        try clear c26b0
        try clear c27
        try clear c27b0
        try clear c28
        try clear c28b0
        try clear c29
        try clear c29b0
        try clear c29b1
        try clear c30
        try clear c30b0
        try clear c31
        try clear c31b0
        try clear c32
        try clear c32b0
        try clear c34
        try clear p34
        try clear q34
        try clear hx34
        try clear c37
        try clear c40
        try clear c40b0
        try clear c40b1
        try clear c42
        try clear c43
        try clear c43b0
        try clear c43b1
        try clear c44
        try clear c44b0
        try clear c44b1
        try clear c45
        try clear c46
        try clear c47
        try clear c48
        try clear p64
        try clear hcz34_0
        try clear hcz34_1
        try clear hcz34_2
        try clear hfz34_0
        try clear hfz34_1
        try clear hfz34_2
        try clear hx347_0
        try clear hx348_0
        try clear hx348_1
        try clear hx348_2
        try clear p1
        try clear p2
        try clear p3
        try clear p347
        try clear p348
        try clear p6
        try clear q3
        try clear q347
        try clear q348
        obtain ⟨kq, x2_34, rfl, HA, HJ34, HB⟩ := hcut
        cases kq with
        | zero => exact absurd HA.out (by simp [chasekeep1_PatchesLead.j2])
        | succ kj34 =>
         have H := HA.out
         clear HA
         simp only [chasekeep1_PatchesLead.j2] at H
         obtain rfl := Option.some.inj H
         go_wp2
         go_ret
         exact ⟨by first | rfl | (simp [errW_none, errW_some] <;> rfl) | (simp [*, errW_none, errW_some] <;> rfl), by repeat (first | (with_reducible first | exact HB.out | apply below_alloc | apply pw_below_drewN | apply below_drew1) | exact HB.out)⟩
def chasekeep1_PatchesLead.Pure : Prop := ∀ (l0 : List Int), l0.length ≤ maxLen → l0.length * 8 ≤ 140737488351232 → (∀ x ∈ l0, (Lit.int .i64 x).wf = true) → ∃ k, chasekeep1_PatchesLead.f k l0 = some true
theorem chasekeep1_PatchesLead.walk (P : chasekeep1_PatchesLead.Pure) (a0 : Option Addr) (len0 cap0 : Nat) (z0 : List Int) (w : World) (w0 : (a0 = none ∧ len0 = 0 ∧ cap0 = 0 ∧ z0 = []) ∨ ∃ x, a0 = some x ∧ len0 ≤ cap0 ∧ cap0 ≤ maxLen ∧ z0.length = cap0 ∧ (∀ i, i < z0.length → w.cell? (x.add i) = some (.int .i64 (z0.getD i 0))) ∧ ∀ n ∈ z0, (Lit.int .i64 n).wf = true) (y0 : len0 * 8 ≤ 140737488351232) (hGl : Wd w) :
  Calls Tryd.prog 8 #[.slice a0 len0 cap0] w fun e w' => e = .returned (.bool true) ∧ Below w.heap.size w w' := by
 obtain ⟨l0, rfl, hr0, hm0, hw0, hc0⟩ := ReadsInt.ofRowC w0
 obtain ⟨k, h⟩ := P l0 hm0 y0 hw0
 refine (chasekeep1_PatchesLead.calls k _ _ l0 true w (Kd.C_of_reads (d := (0 : Int)) (h1 := fun _ => rfl) hr0) hc0 hGl h).mono ?_
 rintro e w' ⟨rfl, hd⟩
 exact ⟨rfl, hd⟩
end Go.Proofs.YtomamgapdeggjaaDoor.Pl
