/- Part of the proof that the law coveredIsHidden is true for every input. No conditions. Laid by a program of this session over the kit's print and words; declarations that nothing names are left out. -/
import Derived.Test.YtolcpmdojlbhcaaDoorZvPcx0
import Derived.Test.YtolcpmdojlbhcaaDoorZvPcx2
import Derived.Test.YtolcpmdojlbhcaaDoorZvPcx6
import Derived.Test.YtolcpmdojlbhcaaDoorZvPcx8
import Derived.Test.YtolcpmdojlbhcaaDoorZvPcx9
namespace Go.Proofs.YtolcpmdojlbhcaaDoor.Pc
open Go.RowKit Go.Proofs.YtolcpmdojlbhcaaDoor.GBase Go.Proofs.YtolcpmdojlbhcaaDoorW.PrintWords Go.Proofs.YtolcpmdojlbhcaaDoorW.PrintLast Go.Proofs.YtolcpmdojlbhcaaDoorW.PrintMore
attribute [local go_sem] str_leq max2_int min2_int max_two min_two max_three min_three max_four min_four
set_option linter.unusedVariables false
set_option linter.unusedSimpArgs false
set_option maxHeartbeats 8000000 in
set_option maxRecDepth 100000 in
theorem chasekeep1_CoveredIsHidden.calls (k : Nat) (A0 : Option Addr) (c0 : Nat) (l0 : List Int) (r : Bool) (w : World) (hr0 : Kd.C (Kd.int .i64) w A0 l0.length l0) (hc0 : l0.length ≤ c0) (hGl : Wd w) (h : chasekeep1_CoveredIsHidden.f k l0 = some r) :
  Calls Tryd.prog 4 #[.slice A0 l0.length c0] w fun e w' => e = .returned (.bool r) ∧ Below w.heap.size w w' := by
 have hu25 := Tryd.underlying25
 have HGl := Aside0.mk hGl
 clear hGl
 have HR0 := Aside0.mk hr0
 have HC0 := Aside0.mk hc0
 clear hr0 hc0
 have HB := Aside0.mk (Below.refl w.heap.size w)
 have H : ((chasemake_Stream_Memo.f k l0 0).bind fun bt286 => ((chaseref1_BodyFault.f bt286.1).bind fun t288 => (if t288 = 0 then ((chasemake_Stream_SpanList.f k l0 bt286.2 (mn (bt286.1.size : Int) 50)).bind fun bt290 => ((chasemake_Stream_SpanList.f k l0 bt290.2 (mn (bt286.1.size : Int) 50)).bind fun bt294 => ((privilege_Redact.f k bt286.1 bt290.1).bind fun bt298 => ((privilege_Redact.f k bt298.1 bt294.1).bind fun bt300 => ((privilege_Union.f k bt290.1 bt294.1 (bt286.1.size : Int)).bind fun bt302 => ((privilege_Redact.f k bt286.1 bt302.1).bind fun bt306 => (if bt298.2 = 0 then (if bt300.2 = 0 then (if bt302.2 = 0 then (if bt306.2 = 0 then (if bt300.1.toList = bt306.1.toList then (chasekeep1_CoveredIsHidden.j0 k bt286.1 (bt286.1.size : Int) bt294.1 bt302.1 bt306.1 ((bt306.1.size : Int) != (bt286.1.size : Int))) else (chasekeep1_CoveredIsHidden.j0 k bt286.1 (bt286.1.size : Int) bt294.1 bt302.1 bt306.1 true)) else (chasekeep1_CoveredIsHidden.j0 k bt286.1 (bt286.1.size : Int) bt294.1 bt302.1 bt306.1 true)) else (chasekeep1_CoveredIsHidden.j0 k bt286.1 (bt286.1.size : Int) bt294.1 bt302.1 bt306.1 true)) else (chasekeep1_CoveredIsHidden.j0 k bt286.1 (bt286.1.size : Int) bt294.1 bt302.1 bt306.1 true)) else (chasekeep1_CoveredIsHidden.j0 k bt286.1 (bt286.1.size : Int) bt294.1 bt302.1 bt306.1 true)))))))) else ((chasekeep1_privileges.f k).bind fun t289 => (some t289))))) = some r := h
 clear h
 replace H := Option.bind_eq_some_iff.mp H
 obtain ⟨⟨t286, t287⟩, A20, H⟩ := H
 replace H : ((chaseref1_BodyFault.f t286).bind fun t288 => (if t288 = 0 then ((chasemake_Stream_SpanList.f k l0 t287 (mn (t286.size : Int) 50)).bind fun bt290 => ((chasemake_Stream_SpanList.f k l0 bt290.2 (mn (t286.size : Int) 50)).bind fun bt294 => ((privilege_Redact.f k t286 bt290.1).bind fun bt298 => ((privilege_Redact.f k bt298.1 bt294.1).bind fun bt300 => ((privilege_Union.f k bt290.1 bt294.1 (t286.size : Int)).bind fun bt302 => ((privilege_Redact.f k t286 bt302.1).bind fun bt306 => (if bt298.2 = 0 then (if bt300.2 = 0 then (if bt302.2 = 0 then (if bt306.2 = 0 then (if bt300.1.toList = bt306.1.toList then (chasekeep1_CoveredIsHidden.j0 k t286 (t286.size : Int) bt294.1 bt302.1 bt306.1 ((bt306.1.size : Int) != (t286.size : Int))) else (chasekeep1_CoveredIsHidden.j0 k t286 (t286.size : Int) bt294.1 bt302.1 bt306.1 true)) else (chasekeep1_CoveredIsHidden.j0 k t286 (t286.size : Int) bt294.1 bt302.1 bt306.1 true)) else (chasekeep1_CoveredIsHidden.j0 k t286 (t286.size : Int) bt294.1 bt302.1 bt306.1 true)) else (chasekeep1_CoveredIsHidden.j0 k t286 (t286.size : Int) bt294.1 bt302.1 bt306.1 true)) else (chasekeep1_CoveredIsHidden.j0 k t286 (t286.size : Int) bt294.1 bt302.1 bt306.1 true)))))))) else ((chasekeep1_privileges.f k).bind fun t289 => (some t289)))) = some r := H
 have A2 := Aside0.mk A20
 clear A20
 replace H := Option.bind_eq_some_iff.mp H
 obtain ⟨t288, A30, H⟩ := H
 replace H : (if t288 = 0 then ((chasemake_Stream_SpanList.f k l0 t287 (mn (t286.size : Int) 50)).bind fun bt290 => ((chasemake_Stream_SpanList.f k l0 bt290.2 (mn (t286.size : Int) 50)).bind fun bt294 => ((privilege_Redact.f k t286 bt290.1).bind fun bt298 => ((privilege_Redact.f k bt298.1 bt294.1).bind fun bt300 => ((privilege_Union.f k bt290.1 bt294.1 (t286.size : Int)).bind fun bt302 => ((privilege_Redact.f k t286 bt302.1).bind fun bt306 => (if bt298.2 = 0 then (if bt300.2 = 0 then (if bt302.2 = 0 then (if bt306.2 = 0 then (if bt300.1.toList = bt306.1.toList then (chasekeep1_CoveredIsHidden.j0 k t286 (t286.size : Int) bt294.1 bt302.1 bt306.1 ((bt306.1.size : Int) != (t286.size : Int))) else (chasekeep1_CoveredIsHidden.j0 k t286 (t286.size : Int) bt294.1 bt302.1 bt306.1 true)) else (chasekeep1_CoveredIsHidden.j0 k t286 (t286.size : Int) bt294.1 bt302.1 bt306.1 true)) else (chasekeep1_CoveredIsHidden.j0 k t286 (t286.size : Int) bt294.1 bt302.1 bt306.1 true)) else (chasekeep1_CoveredIsHidden.j0 k t286 (t286.size : Int) bt294.1 bt302.1 bt306.1 true)) else (chasekeep1_CoveredIsHidden.j0 k t286 (t286.size : Int) bt294.1 bt302.1 bt306.1 true)))))))) else ((chasekeep1_privileges.f k).bind fun t289 => (some t289))) = some r := H
 have A3 := Aside0.mk A30
 clear A30
 by_cases c4 : t288 = 0
 ·rw [if_pos c4] at H
  have c4b0 : (t288 == 0) = true := beq_iff_eq.mpr c4
  have c4b1 : (t288 != 0) = false := bne_eq_false_iff_eq.mpr c4
  clear c4
  obtain ⟨ji5, hji5⟩ : ∃ j_ : Int, (mn (t286.size : Int) 50) = j_ := ⟨_, rfl⟩
  replace H : ((chasemake_Stream_SpanList.f k l0 t287 (ji5)).bind fun bt290 => ((chasemake_Stream_SpanList.f k l0 bt290.2 (ji5)).bind fun bt294 => ((privilege_Redact.f k t286 bt290.1).bind fun bt298 => ((privilege_Redact.f k bt298.1 bt294.1).bind fun bt300 => ((privilege_Union.f k bt290.1 bt294.1 (t286.size : Int)).bind fun bt302 => ((privilege_Redact.f k t286 bt302.1).bind fun bt306 => (if bt298.2 = 0 then (if bt300.2 = 0 then (if bt302.2 = 0 then (if bt306.2 = 0 then (if bt300.1.toList = bt306.1.toList then (chasekeep1_CoveredIsHidden.j0 k t286 (t286.size : Int) bt294.1 bt302.1 bt306.1 ((bt306.1.size : Int) != (t286.size : Int))) else (chasekeep1_CoveredIsHidden.j0 k t286 (t286.size : Int) bt294.1 bt302.1 bt306.1 true)) else (chasekeep1_CoveredIsHidden.j0 k t286 (t286.size : Int) bt294.1 bt302.1 bt306.1 true)) else (chasekeep1_CoveredIsHidden.j0 k t286 (t286.size : Int) bt294.1 bt302.1 bt306.1 true)) else (chasekeep1_CoveredIsHidden.j0 k t286 (t286.size : Int) bt294.1 bt302.1 bt306.1 true)) else (chasekeep1_CoveredIsHidden.j0 k t286 (t286.size : Int) bt294.1 bt302.1 bt306.1 true)))))))) = some r := by first | (rw [hji5] at H; exact H) | (simp only [hji5] at H ⊢; exact H)
  (try rw [hji5] at A2)
  (try rw [hji5] at A3)
  (try (have hji5h : ji5 ≤ 50 := by (rw [← hji5]; unfold mn; (repeat' split) <;> omega)))
  (try (have hji5g : ji5 ≤ 64 := by omega))
  (try (have hji5l : 0 ≤ ji5 := by (rw [← hji5]; unfold mn; (repeat' split) <;> omega)))
  (try (have hji5m : 0 ≤ ji5 := by omega))
  have hji5_ : (if 50 < (t286.size : Int) then 50 else (t286.size : Int)) = ji5 := hji5
  replace H := Option.bind_eq_some_iff.mp H
  obtain ⟨⟨t290, t293⟩, A60, H⟩ := H
  replace H : ((chasemake_Stream_SpanList.f k l0 t293 (ji5)).bind fun bt294 => ((privilege_Redact.f k t286 t290).bind fun bt298 => ((privilege_Redact.f k bt298.1 bt294.1).bind fun bt300 => ((privilege_Union.f k t290 bt294.1 (t286.size : Int)).bind fun bt302 => ((privilege_Redact.f k t286 bt302.1).bind fun bt306 => (if bt298.2 = 0 then (if bt300.2 = 0 then (if bt302.2 = 0 then (if bt306.2 = 0 then (if bt300.1.toList = bt306.1.toList then (chasekeep1_CoveredIsHidden.j0 k t286 (t286.size : Int) bt294.1 bt302.1 bt306.1 ((bt306.1.size : Int) != (t286.size : Int))) else (chasekeep1_CoveredIsHidden.j0 k t286 (t286.size : Int) bt294.1 bt302.1 bt306.1 true)) else (chasekeep1_CoveredIsHidden.j0 k t286 (t286.size : Int) bt294.1 bt302.1 bt306.1 true)) else (chasekeep1_CoveredIsHidden.j0 k t286 (t286.size : Int) bt294.1 bt302.1 bt306.1 true)) else (chasekeep1_CoveredIsHidden.j0 k t286 (t286.size : Int) bt294.1 bt302.1 bt306.1 true)) else (chasekeep1_CoveredIsHidden.j0 k t286 (t286.size : Int) bt294.1 bt302.1 bt306.1 true))))))) = some r := H
  have A6 := Aside0.mk A60
  clear A60
  replace H := Option.bind_eq_some_iff.mp H
  obtain ⟨⟨t294, t297⟩, A80, H⟩ := H
  replace H : ((privilege_Redact.f k t286 t290).bind fun bt298 => ((privilege_Redact.f k bt298.1 t294).bind fun bt300 => ((privilege_Union.f k t290 t294 (t286.size : Int)).bind fun bt302 => ((privilege_Redact.f k t286 bt302.1).bind fun bt306 => (if bt298.2 = 0 then (if bt300.2 = 0 then (if bt302.2 = 0 then (if bt306.2 = 0 then (if bt300.1.toList = bt306.1.toList then (chasekeep1_CoveredIsHidden.j0 k t286 (t286.size : Int) t294 bt302.1 bt306.1 ((bt306.1.size : Int) != (t286.size : Int))) else (chasekeep1_CoveredIsHidden.j0 k t286 (t286.size : Int) t294 bt302.1 bt306.1 true)) else (chasekeep1_CoveredIsHidden.j0 k t286 (t286.size : Int) t294 bt302.1 bt306.1 true)) else (chasekeep1_CoveredIsHidden.j0 k t286 (t286.size : Int) t294 bt302.1 bt306.1 true)) else (chasekeep1_CoveredIsHidden.j0 k t286 (t286.size : Int) t294 bt302.1 bt306.1 true)) else (chasekeep1_CoveredIsHidden.j0 k t286 (t286.size : Int) t294 bt302.1 bt306.1 true)))))) = some r := H
  have A8 := Aside0.mk A80
  clear A80
  replace H := Option.bind_eq_some_iff.mp H
  obtain ⟨⟨t298, t299⟩, A90, H⟩ := H
  replace H : ((privilege_Redact.f k t298 t294).bind fun bt300 => ((privilege_Union.f k t290 t294 (t286.size : Int)).bind fun bt302 => ((privilege_Redact.f k t286 bt302.1).bind fun bt306 => (if t299 = 0 then (if bt300.2 = 0 then (if bt302.2 = 0 then (if bt306.2 = 0 then (if bt300.1.toList = bt306.1.toList then (chasekeep1_CoveredIsHidden.j0 k t286 (t286.size : Int) t294 bt302.1 bt306.1 ((bt306.1.size : Int) != (t286.size : Int))) else (chasekeep1_CoveredIsHidden.j0 k t286 (t286.size : Int) t294 bt302.1 bt306.1 true)) else (chasekeep1_CoveredIsHidden.j0 k t286 (t286.size : Int) t294 bt302.1 bt306.1 true)) else (chasekeep1_CoveredIsHidden.j0 k t286 (t286.size : Int) t294 bt302.1 bt306.1 true)) else (chasekeep1_CoveredIsHidden.j0 k t286 (t286.size : Int) t294 bt302.1 bt306.1 true)) else (chasekeep1_CoveredIsHidden.j0 k t286 (t286.size : Int) t294 bt302.1 bt306.1 true))))) = some r := H
  have A9 := Aside0.mk A90
  clear A90
  replace H := Option.bind_eq_some_iff.mp H
  obtain ⟨⟨t300, t301⟩, A100, H⟩ := H
  replace H : ((privilege_Union.f k t290 t294 (t286.size : Int)).bind fun bt302 => ((privilege_Redact.f k t286 bt302.1).bind fun bt306 => (if t299 = 0 then (if t301 = 0 then (if bt302.2 = 0 then (if bt306.2 = 0 then (if t300.toList = bt306.1.toList then (chasekeep1_CoveredIsHidden.j0 k t286 (t286.size : Int) t294 bt302.1 bt306.1 ((bt306.1.size : Int) != (t286.size : Int))) else (chasekeep1_CoveredIsHidden.j0 k t286 (t286.size : Int) t294 bt302.1 bt306.1 true)) else (chasekeep1_CoveredIsHidden.j0 k t286 (t286.size : Int) t294 bt302.1 bt306.1 true)) else (chasekeep1_CoveredIsHidden.j0 k t286 (t286.size : Int) t294 bt302.1 bt306.1 true)) else (chasekeep1_CoveredIsHidden.j0 k t286 (t286.size : Int) t294 bt302.1 bt306.1 true)) else (chasekeep1_CoveredIsHidden.j0 k t286 (t286.size : Int) t294 bt302.1 bt306.1 true)))) = some r := H
  have A10 := Aside0.mk A100
  clear A100
  replace H := Option.bind_eq_some_iff.mp H
  obtain ⟨⟨t302, t305⟩, A110, H⟩ := H
  replace H : ((privilege_Redact.f k t286 t302).bind fun bt306 => (if t299 = 0 then (if t301 = 0 then (if t305 = 0 then (if bt306.2 = 0 then (if t300.toList = bt306.1.toList then (chasekeep1_CoveredIsHidden.j0 k t286 (t286.size : Int) t294 t302 bt306.1 ((bt306.1.size : Int) != (t286.size : Int))) else (chasekeep1_CoveredIsHidden.j0 k t286 (t286.size : Int) t294 t302 bt306.1 true)) else (chasekeep1_CoveredIsHidden.j0 k t286 (t286.size : Int) t294 t302 bt306.1 true)) else (chasekeep1_CoveredIsHidden.j0 k t286 (t286.size : Int) t294 t302 bt306.1 true)) else (chasekeep1_CoveredIsHidden.j0 k t286 (t286.size : Int) t294 t302 bt306.1 true)) else (chasekeep1_CoveredIsHidden.j0 k t286 (t286.size : Int) t294 t302 bt306.1 true))) = some r := H
  have A11 := Aside0.mk A110
  clear A110
  replace H := Option.bind_eq_some_iff.mp H
  obtain ⟨⟨t306, t307⟩, A120, H⟩ := H
  replace H : (if t299 = 0 then (if t301 = 0 then (if t305 = 0 then (if t307 = 0 then (if t300.toList = t306.toList then (chasekeep1_CoveredIsHidden.j0 k t286 (t286.size : Int) t294 t302 t306 ((t306.size : Int) != (t286.size : Int))) else (chasekeep1_CoveredIsHidden.j0 k t286 (t286.size : Int) t294 t302 t306 true)) else (chasekeep1_CoveredIsHidden.j0 k t286 (t286.size : Int) t294 t302 t306 true)) else (chasekeep1_CoveredIsHidden.j0 k t286 (t286.size : Int) t294 t302 t306 true)) else (chasekeep1_CoveredIsHidden.j0 k t286 (t286.size : Int) t294 t302 t306 true)) else (chasekeep1_CoveredIsHidden.j0 k t286 (t286.size : Int) t294 t302 t306 true)) = some r := H
  have A12 := Aside0.mk A120
  clear A120
  have HC13 := Aside0.mk H
  clear H
  go_enter Tryd.func4, Tryd.ntmps4
  go_upto_region 11 with (first | ((with_reducible refine gate_dst (N := 24) rfl ?_); (try (refine gate_guard (by rfl) ?_; dsimp only)); refine box_event ?hg (N := 24) ?hd (cs := #[.slice A0 l0.length c0, .int .i64 0]) (t := 25) ?hr ?_; (case hd => rfl); (case hg => rfl); (case hr => first | (go_simp; done) | (go_simp; rfl)); intro gb285 hg w14 hbox hb; have n0_ := Aside0.mk (below_step (by repeat (first | (with_reducible first | exact HB.out | apply below_alloc | apply pw_below_drewN | apply below_drew1) | exact HB.out)) hb); have n1_ := Aside0.mk ((⟨_, _, hbox, (by rw [hg]; exact (below_size (by repeat (first | (with_reducible first | exact HB.out | apply below_alloc | apply pw_below_drewN | apply below_drew1) | exact HB.out)))), HR0.out⟩ : IsS25 w _ gb285 l0 0)); clear HB; have HB := n0_; have HI285 := n1_; clear n0_ n1_; clear hb hbox hg) | (go_at_call 15; (with_reducible refine (chasemake_Stream_Memo.calls k gb285 l0 0 t286 t287 w _ ?side1 ?side2 A2.out).mono ?_); (case side1 => repeat (first | (with_reducible first | exact HI285.out | apply IsS25.alloc | apply IsS25.drewN | apply IsS25.drew | apply IsS25.set_1) | exact HI285.out)); (case side2 => repeat (first | (with_reducible first | exact HB.out | apply below_alloc | apply pw_below_drewN | apply below_drew1 | refine below_set ?_ (IsS25.ge HI285.out)) | exact HB.out)); rintro e w15 ⟨rfl, hi, hb, hk⟩; have n0_ := Aside0.mk (hb); have n1_ := Aside0.mk (hi); clear HB; clear HI285; have HB := n0_; have HI285 := n1_; clear n0_ n1_; (try clear hb); (try clear hb2); (try clear hk); (try clear hi)) | (go_at_call 16; (with_reducible refine (chaseref1_BodyFault.calls t286 t288 _ ?side1 A3.out).mono ?_); (case side1 => exact Wd.below HGl.out (by repeat (first | (with_reducible first | exact HB.out | apply below_alloc | apply pw_below_drewN | apply below_drew1 | refine below_set ?_ (IsS25.ge HI285.out)) | exact HB.out))); rintro e w16 ⟨rfl, hb⟩; have n0_ := Aside0.mk (IsS25.below (by repeat (first | (with_reducible first | exact HI285.out | apply IsS25.alloc | apply IsS25.drewN | apply IsS25.drew | apply IsS25.set_1) | exact HI285.out)) hb); have n1_ := Aside0.mk (below_step (by repeat (first | (with_reducible first | exact HB.out | apply below_alloc | apply pw_below_drewN | apply below_drew1 | refine below_set ?_ (IsS25.ge HI285.out)) | exact HB.out)) hb); clear HI285; clear HB; have HI285 := n0_; have HB := n1_; clear n0_ n1_; (try clear hb); (try clear hb2); (try clear hk); (try clear hi)) | (go_at_call 18; (with_reducible refine (chasemake_Stream_SpanList.calls k gb285 l0 t287 ji5 t290 t293 w _ ?side1 ?side2 A6.out).mono ?_); (case side1 => repeat (first | (with_reducible first | exact HI285.out | apply IsS25.alloc | apply IsS25.drewN | apply IsS25.drew | apply IsS25.set_1) | exact HI285.out)); (case side2 => repeat (first | (with_reducible first | exact HB.out | apply below_alloc | apply pw_below_drewN | apply below_drew1 | refine below_set ?_ (IsS25.ge HI285.out)) | exact HB.out)); rintro e w17 ⟨v291, rfl, ho0, hi, hb, hk⟩; have n0_ := Aside0.mk (Kd.R_lower ho0 (below_size (by repeat (first | (with_reducible first | exact HB.out | apply below_alloc | apply pw_below_drewN | apply below_drew1 | refine below_set ?_ (IsS25.ge HI285.out)) | exact HB.out)))); have n1_ := Aside0.mk (hb); have n2_ := Aside0.mk (hi); clear HB; clear HI285; have HO292 := n0_; have HB := n1_; have HI285 := n2_; clear n0_ n1_ n2_; (try clear hb); (try clear hb2); (try clear hk); (try clear hi); (try clear ho0)) | (go_at_call 18; (with_reducible refine (chasemake_Stream_SpanList.calls k gb285 l0 t293 ji5 t294 t297 w _ ?side1 ?side2 A8.out).mono ?_); (case side1 => repeat (first | (with_reducible first | exact HI285.out | apply IsS25.alloc | apply IsS25.drewN | apply IsS25.drew | apply IsS25.set_1) | exact HI285.out)); (case side2 => repeat (first | (with_reducible first | exact HB.out | apply below_alloc | apply pw_below_drewN | apply below_drew1 | refine below_set ?_ (IsS25.ge HI285.out)) | exact HB.out)); rintro e w18 ⟨v295, rfl, ho0, hi, hb, hk⟩; have n0_ := Aside0.mk (Kd.R_mono (Kd.R_told (Kd.R_oldK (IsS25.apart (show IsS25 w _ gb285 l0 t293 from by repeat (first | (with_reducible first | exact HI285.out | apply IsS25.alloc | apply IsS25.drewN | apply IsS25.drew | apply IsS25.set_1) | exact HI285.out)) (by (with_reducible repeat (first | apply Kd.R_alloc | apply Kd.R_drewN | apply Kd.R_drew)); exact HO292.out) (by decide)) hk) (Kd.R_base ho0)) (fun _ h_ => h_.1)); have n1_ := Aside0.mk (Kd.R_lower (Kd.R_new' ho0 (Kd.R_lt (by (with_reducible repeat (first | apply Kd.R_alloc | apply Kd.R_drewN | apply Kd.R_drew)); exact HO292.out))) (below_size (by repeat (first | (with_reducible first | exact HB.out | apply below_alloc | apply pw_below_drewN | apply below_drew1 | refine below_set ?_ (IsS25.ge HI285.out)) | exact HB.out)))); have n2_ := Aside0.mk (hb); have n3_ := Aside0.mk (hi); clear HO292; clear HB; clear HI285; have HO292 := n0_; have HO296 := n1_; have HB := n2_; have HI285 := n3_; clear n0_ n1_ n2_ n3_; (try clear hb); (try clear hb2); (try clear hk); (try clear hi); (try clear ho0); obtain ⟨Ao19, co19, eo19⟩ := Kd.R_slice HO292.out; subst eo19) | (go_at_call 19; (with_reducible refine (privilege_Redact.calls k t286 _ _ t290 t298 t299 _ ?side1 ?side2 ?side3 A9.out).mono ?_); (case side1 => repeat (first | exact (Kd.R_reads' HO292.out).2.2 | (with_reducible refine Kd.C_alloc ?_ _) | (with_reducible refine Kd.C_drewN ?_ _) | (with_reducible refine Kd.C_drew ?_))); (case side2 => exact (Kd.R_reads' HO292.out).2.1); (case side3 => exact Wd.below HGl.out (by repeat (first | (with_reducible first | exact HB.out | apply below_alloc | apply pw_below_drewN | apply below_drew1 | refine below_set ?_ (IsS25.ge HI285.out)) | exact HB.out))); rintro e w20 ⟨rfl, hb⟩; have n0_ := Aside0.mk (Kd.R_below (by (with_reducible repeat (first | apply Kd.R_alloc | apply Kd.R_drewN | apply Kd.R_drew)); exact HO292.out) hb); have n1_ := Aside0.mk (Kd.R_below (by (with_reducible repeat (first | apply Kd.R_alloc | apply Kd.R_drewN | apply Kd.R_drew)); exact HO296.out) hb); have n2_ := Aside0.mk (IsS25.below (by repeat (first | (with_reducible first | exact HI285.out | apply IsS25.alloc | apply IsS25.drewN | apply IsS25.drew | apply IsS25.set_1) | exact HI285.out)) hb); have n3_ := Aside0.mk (below_step (by repeat (first | (with_reducible first | exact HB.out | apply below_alloc | apply pw_below_drewN | apply below_drew1 | refine below_set ?_ (IsS25.ge HI285.out)) | exact HB.out)) hb); clear HO292; clear HO296; clear HI285; clear HB; have HO292 := n0_; have HO296 := n1_; have HI285 := n2_; have HB := n3_; clear n0_ n1_ n2_ n3_; (try clear hb); (try clear hb2); (try clear hk); (try clear hi); obtain ⟨Ao21, co21, eo21⟩ := Kd.R_slice HO296.out; subst eo21) | (go_at_call 19; (with_reducible refine (privilege_Redact.calls k t298 _ _ t294 t300 t301 _ ?side1 ?side2 ?side3 A10.out).mono ?_); (case side1 => repeat (first | exact (Kd.R_reads' HO296.out).2.2 | (with_reducible refine Kd.C_alloc ?_ _) | (with_reducible refine Kd.C_drewN ?_ _) | (with_reducible refine Kd.C_drew ?_))); (case side2 => exact (Kd.R_reads' HO296.out).2.1); (case side3 => exact Wd.below HGl.out (by repeat (first | (with_reducible first | exact HB.out | apply below_alloc | apply pw_below_drewN | apply below_drew1 | refine below_set ?_ (IsS25.ge HI285.out)) | exact HB.out))); rintro e w22 ⟨rfl, hb⟩; have n0_ := Aside0.mk (Kd.R_below (by (with_reducible repeat (first | apply Kd.R_alloc | apply Kd.R_drewN | apply Kd.R_drew)); exact HO292.out) hb); have n1_ := Aside0.mk (Kd.R_below (by (with_reducible repeat (first | apply Kd.R_alloc | apply Kd.R_drewN | apply Kd.R_drew)); exact HO296.out) hb); have n2_ := Aside0.mk (IsS25.below (by repeat (first | (with_reducible first | exact HI285.out | apply IsS25.alloc | apply IsS25.drewN | apply IsS25.drew | apply IsS25.set_1) | exact HI285.out)) hb); have n3_ := Aside0.mk (below_step (by repeat (first | (with_reducible first | exact HB.out | apply below_alloc | apply pw_below_drewN | apply below_drew1 | refine below_set ?_ (IsS25.ge HI285.out)) | exact HB.out)) hb); clear HO292; clear HO296; clear HI285; clear HB; have HO292 := n0_; have HO296 := n1_; have HI285 := n2_; have HB := n3_; clear n0_ n1_ n2_ n3_; (try clear hb); (try clear hb2); (try clear hk); (try clear hi)) | (go_at_call 20; (with_reducible refine (privilege_Union.calls k (fun k_ => some k_ = (.slice Ao19 t290.length co19 : Value).ownBlock) _ _ t290 (fun k_ => some k_ = (.slice Ao21 t294.length co21 : Value).ownBlock) _ _ t294 (t286.size : Int) t302 t305 _ ?side1 ?side2 A11.out).mono ?_); (case side1 => exact Kd.R_V (Kd.R_tight rfl (IsS25.apart HI285.out (HO292.out) (by decide)))); (case side2 => exact Kd.R_V (Kd.R_tight rfl (IsS25.apart HI285.out (HO296.out) (by decide)))); rintro e w23 ⟨v303, rfl, ho0, hb⟩; have n0_ := Aside0.mk (Kd.R_elder' (by (with_reducible repeat (first | apply Kd.R_alloc | apply Kd.R_drewN | apply Kd.R_drew)); exact HO292.out) (Kd.R_base ho0) hb); have n1_ := Aside0.mk (Kd.R_elder' (by (with_reducible repeat (first | apply Kd.R_alloc | apply Kd.R_drewN | apply Kd.R_drew)); exact HO296.out) (Kd.R_base ho0) hb); have n2_ := Aside0.mk (Kd.R_lower (Kd.R_new' (Kd.R_new' (Kd.R_mono (ok' := fun k_ => True) ho0 (fun _ hk_ => trivial)) (Kd.R_lt (by (with_reducible repeat (first | apply Kd.R_alloc | apply Kd.R_drewN | apply Kd.R_drew)); exact HO292.out))) (Kd.R_lt (by (with_reducible repeat (first | apply Kd.R_alloc | apply Kd.R_drewN | apply Kd.R_drew)); exact HO296.out))) (below_size (by repeat (first | (with_reducible first | exact HB.out | apply below_alloc | apply pw_below_drewN | apply below_drew1 | refine below_set ?_ (IsS25.ge HI285.out)) | exact HB.out)))); have n3_ := Aside0.mk (IsS25.below (by repeat (first | (with_reducible first | exact HI285.out | apply IsS25.alloc | apply IsS25.drewN | apply IsS25.drew | apply IsS25.set_1) | exact HI285.out)) hb); have n4_ := Aside0.mk (below_step (by repeat (first | (with_reducible first | exact HB.out | apply below_alloc | apply pw_below_drewN | apply below_drew1 | refine below_set ?_ (IsS25.ge HI285.out)) | exact HB.out)) hb); clear HO292; clear HO296; clear HI285; clear HB; have HO292 := n0_; have HO296 := n1_; have HO304 := n2_; have HI285 := n3_; have HB := n4_; clear n0_ n1_ n2_ n3_ n4_; (try clear hb); (try clear hb2); (try clear hk); (try clear hi); (try clear ho0); obtain ⟨Ao24, co24, eo24⟩ := Kd.R_slice HO304.out; subst eo24) | (go_at_call 19; (with_reducible refine (privilege_Redact.calls k t286 _ _ t302 t306 t307 _ ?side1 ?side2 ?side3 A12.out).mono ?_); (case side1 => repeat (first | exact (Kd.R_reads' HO304.out).2.2 | (with_reducible refine Kd.C_alloc ?_ _) | (with_reducible refine Kd.C_drewN ?_ _) | (with_reducible refine Kd.C_drew ?_))); (case side2 => exact (Kd.R_reads' HO304.out).2.1); (case side3 => exact Wd.below HGl.out (by repeat (first | (with_reducible first | exact HB.out | apply below_alloc | apply pw_below_drewN | apply below_drew1 | refine below_set ?_ (IsS25.ge HI285.out)) | exact HB.out))); rintro e w25 ⟨rfl, hb⟩; have n0_ := Aside0.mk (Kd.R_below (by (with_reducible repeat (first | apply Kd.R_alloc | apply Kd.R_drewN | apply Kd.R_drew)); exact HO292.out) hb); have n1_ := Aside0.mk (Kd.R_below (by (with_reducible repeat (first | apply Kd.R_alloc | apply Kd.R_drewN | apply Kd.R_drew)); exact HO296.out) hb); have n2_ := Aside0.mk (Kd.R_below (by (with_reducible repeat (first | apply Kd.R_alloc | apply Kd.R_drewN | apply Kd.R_drew)); exact HO304.out) hb); have n3_ := Aside0.mk (IsS25.below (by repeat (first | (with_reducible first | exact HI285.out | apply IsS25.alloc | apply IsS25.drewN | apply IsS25.drew | apply IsS25.set_1) | exact HI285.out)) hb); have n4_ := Aside0.mk (below_step (by repeat (first | (with_reducible first | exact HB.out | apply below_alloc | apply pw_below_drewN | apply below_drew1 | refine below_set ?_ (IsS25.ge HI285.out)) | exact HB.out)) hb); clear HO292; clear HO296; clear HO304; clear HI285; clear HB; have HO292 := n0_; have HO296 := n1_; have HO304 := n2_; have HI285 := n3_; have HB := n4_; clear n0_ n1_ n2_ n3_ n4_; (try clear hb); (try clear hb2); (try clear hk); (try clear hi)))
  repeat (go_quiet (first | ((with_reducible refine gate_dst (N := 24) rfl ?_); (try (refine gate_guard (by rfl) ?_; dsimp only)); refine box_event ?hg (N := 24) ?hd (cs := #[.slice A0 l0.length c0, .int .i64 0]) (t := 25) ?hr ?_; (case hd => rfl); (case hg => rfl); (case hr => first | (go_simp; done) | (go_simp; rfl)); intro gb285 hg w14 hbox hb; have n0_ := Aside0.mk (below_step (by repeat (first | (with_reducible first | exact HB.out | apply below_alloc | apply pw_below_drewN | apply below_drew1) | exact HB.out)) hb); have n1_ := Aside0.mk ((⟨_, _, hbox, (by rw [hg]; exact (below_size (by repeat (first | (with_reducible first | exact HB.out | apply below_alloc | apply pw_below_drewN | apply below_drew1) | exact HB.out)))), HR0.out⟩ : IsS25 w _ gb285 l0 0)); clear HB; have HB := n0_; have HI285 := n1_; clear n0_ n1_; clear hb hbox hg) | (go_at_call 15; (with_reducible refine (chasemake_Stream_Memo.calls k gb285 l0 0 t286 t287 w _ ?side1 ?side2 A2.out).mono ?_); (case side1 => repeat (first | (with_reducible first | exact HI285.out | apply IsS25.alloc | apply IsS25.drewN | apply IsS25.drew | apply IsS25.set_1) | exact HI285.out)); (case side2 => repeat (first | (with_reducible first | exact HB.out | apply below_alloc | apply pw_below_drewN | apply below_drew1 | refine below_set ?_ (IsS25.ge HI285.out)) | exact HB.out)); rintro e w15 ⟨rfl, hi, hb, hk⟩; have n0_ := Aside0.mk (hb); have n1_ := Aside0.mk (hi); clear HB; clear HI285; have HB := n0_; have HI285 := n1_; clear n0_ n1_; (try clear hb); (try clear hb2); (try clear hk); (try clear hi)) | (go_at_call 16; (with_reducible refine (chaseref1_BodyFault.calls t286 t288 _ ?side1 A3.out).mono ?_); (case side1 => exact Wd.below HGl.out (by repeat (first | (with_reducible first | exact HB.out | apply below_alloc | apply pw_below_drewN | apply below_drew1 | refine below_set ?_ (IsS25.ge HI285.out)) | exact HB.out))); rintro e w16 ⟨rfl, hb⟩; have n0_ := Aside0.mk (IsS25.below (by repeat (first | (with_reducible first | exact HI285.out | apply IsS25.alloc | apply IsS25.drewN | apply IsS25.drew | apply IsS25.set_1) | exact HI285.out)) hb); have n1_ := Aside0.mk (below_step (by repeat (first | (with_reducible first | exact HB.out | apply below_alloc | apply pw_below_drewN | apply below_drew1 | refine below_set ?_ (IsS25.ge HI285.out)) | exact HB.out)) hb); clear HI285; clear HB; have HI285 := n0_; have HB := n1_; clear n0_ n1_; (try clear hb); (try clear hb2); (try clear hk); (try clear hi)) | (go_at_call 18; (with_reducible refine (chasemake_Stream_SpanList.calls k gb285 l0 t287 ji5 t290 t293 w _ ?side1 ?side2 A6.out).mono ?_); (case side1 => repeat (first | (with_reducible first | exact HI285.out | apply IsS25.alloc | apply IsS25.drewN | apply IsS25.drew | apply IsS25.set_1) | exact HI285.out)); (case side2 => repeat (first | (with_reducible first | exact HB.out | apply below_alloc | apply pw_below_drewN | apply below_drew1 | refine below_set ?_ (IsS25.ge HI285.out)) | exact HB.out)); rintro e w17 ⟨v291, rfl, ho0, hi, hb, hk⟩; have n0_ := Aside0.mk (Kd.R_lower ho0 (below_size (by repeat (first | (with_reducible first | exact HB.out | apply below_alloc | apply pw_below_drewN | apply below_drew1 | refine below_set ?_ (IsS25.ge HI285.out)) | exact HB.out)))); have n1_ := Aside0.mk (hb); have n2_ := Aside0.mk (hi); clear HB; clear HI285; have HO292 := n0_; have HB := n1_; have HI285 := n2_; clear n0_ n1_ n2_; (try clear hb); (try clear hb2); (try clear hk); (try clear hi); (try clear ho0)) | (go_at_call 18; (with_reducible refine (chasemake_Stream_SpanList.calls k gb285 l0 t293 ji5 t294 t297 w _ ?side1 ?side2 A8.out).mono ?_); (case side1 => repeat (first | (with_reducible first | exact HI285.out | apply IsS25.alloc | apply IsS25.drewN | apply IsS25.drew | apply IsS25.set_1) | exact HI285.out)); (case side2 => repeat (first | (with_reducible first | exact HB.out | apply below_alloc | apply pw_below_drewN | apply below_drew1 | refine below_set ?_ (IsS25.ge HI285.out)) | exact HB.out)); rintro e w18 ⟨v295, rfl, ho0, hi, hb, hk⟩; have n0_ := Aside0.mk (Kd.R_mono (Kd.R_told (Kd.R_oldK (IsS25.apart (show IsS25 w _ gb285 l0 t293 from by repeat (first | (with_reducible first | exact HI285.out | apply IsS25.alloc | apply IsS25.drewN | apply IsS25.drew | apply IsS25.set_1) | exact HI285.out)) (by (with_reducible repeat (first | apply Kd.R_alloc | apply Kd.R_drewN | apply Kd.R_drew)); exact HO292.out) (by decide)) hk) (Kd.R_base ho0)) (fun _ h_ => h_.1)); have n1_ := Aside0.mk (Kd.R_lower (Kd.R_new' ho0 (Kd.R_lt (by (with_reducible repeat (first | apply Kd.R_alloc | apply Kd.R_drewN | apply Kd.R_drew)); exact HO292.out))) (below_size (by repeat (first | (with_reducible first | exact HB.out | apply below_alloc | apply pw_below_drewN | apply below_drew1 | refine below_set ?_ (IsS25.ge HI285.out)) | exact HB.out)))); have n2_ := Aside0.mk (hb); have n3_ := Aside0.mk (hi); clear HO292; clear HB; clear HI285; have HO292 := n0_; have HO296 := n1_; have HB := n2_; have HI285 := n3_; clear n0_ n1_ n2_ n3_; (try clear hb); (try clear hb2); (try clear hk); (try clear hi); (try clear ho0); obtain ⟨Ao19, co19, eo19⟩ := Kd.R_slice HO292.out; subst eo19) | (go_at_call 19; (with_reducible refine (privilege_Redact.calls k t286 _ _ t290 t298 t299 _ ?side1 ?side2 ?side3 A9.out).mono ?_); (case side1 => repeat (first | exact (Kd.R_reads' HO292.out).2.2 | (with_reducible refine Kd.C_alloc ?_ _) | (with_reducible refine Kd.C_drewN ?_ _) | (with_reducible refine Kd.C_drew ?_))); (case side2 => exact (Kd.R_reads' HO292.out).2.1); (case side3 => exact Wd.below HGl.out (by repeat (first | (with_reducible first | exact HB.out | apply below_alloc | apply pw_below_drewN | apply below_drew1 | refine below_set ?_ (IsS25.ge HI285.out)) | exact HB.out))); rintro e w20 ⟨rfl, hb⟩; have n0_ := Aside0.mk (Kd.R_below (by (with_reducible repeat (first | apply Kd.R_alloc | apply Kd.R_drewN | apply Kd.R_drew)); exact HO292.out) hb); have n1_ := Aside0.mk (Kd.R_below (by (with_reducible repeat (first | apply Kd.R_alloc | apply Kd.R_drewN | apply Kd.R_drew)); exact HO296.out) hb); have n2_ := Aside0.mk (IsS25.below (by repeat (first | (with_reducible first | exact HI285.out | apply IsS25.alloc | apply IsS25.drewN | apply IsS25.drew | apply IsS25.set_1) | exact HI285.out)) hb); have n3_ := Aside0.mk (below_step (by repeat (first | (with_reducible first | exact HB.out | apply below_alloc | apply pw_below_drewN | apply below_drew1 | refine below_set ?_ (IsS25.ge HI285.out)) | exact HB.out)) hb); clear HO292; clear HO296; clear HI285; clear HB; have HO292 := n0_; have HO296 := n1_; have HI285 := n2_; have HB := n3_; clear n0_ n1_ n2_ n3_; (try clear hb); (try clear hb2); (try clear hk); (try clear hi); obtain ⟨Ao21, co21, eo21⟩ := Kd.R_slice HO296.out; subst eo21) | (go_at_call 19; (with_reducible refine (privilege_Redact.calls k t298 _ _ t294 t300 t301 _ ?side1 ?side2 ?side3 A10.out).mono ?_); (case side1 => repeat (first | exact (Kd.R_reads' HO296.out).2.2 | (with_reducible refine Kd.C_alloc ?_ _) | (with_reducible refine Kd.C_drewN ?_ _) | (with_reducible refine Kd.C_drew ?_))); (case side2 => exact (Kd.R_reads' HO296.out).2.1); (case side3 => exact Wd.below HGl.out (by repeat (first | (with_reducible first | exact HB.out | apply below_alloc | apply pw_below_drewN | apply below_drew1 | refine below_set ?_ (IsS25.ge HI285.out)) | exact HB.out))); rintro e w22 ⟨rfl, hb⟩; have n0_ := Aside0.mk (Kd.R_below (by (with_reducible repeat (first | apply Kd.R_alloc | apply Kd.R_drewN | apply Kd.R_drew)); exact HO292.out) hb); have n1_ := Aside0.mk (Kd.R_below (by (with_reducible repeat (first | apply Kd.R_alloc | apply Kd.R_drewN | apply Kd.R_drew)); exact HO296.out) hb); have n2_ := Aside0.mk (IsS25.below (by repeat (first | (with_reducible first | exact HI285.out | apply IsS25.alloc | apply IsS25.drewN | apply IsS25.drew | apply IsS25.set_1) | exact HI285.out)) hb); have n3_ := Aside0.mk (below_step (by repeat (first | (with_reducible first | exact HB.out | apply below_alloc | apply pw_below_drewN | apply below_drew1 | refine below_set ?_ (IsS25.ge HI285.out)) | exact HB.out)) hb); clear HO292; clear HO296; clear HI285; clear HB; have HO292 := n0_; have HO296 := n1_; have HI285 := n2_; have HB := n3_; clear n0_ n1_ n2_ n3_; (try clear hb); (try clear hb2); (try clear hk); (try clear hi)) | (go_at_call 20; (with_reducible refine (privilege_Union.calls k (fun k_ => some k_ = (.slice Ao19 t290.length co19 : Value).ownBlock) _ _ t290 (fun k_ => some k_ = (.slice Ao21 t294.length co21 : Value).ownBlock) _ _ t294 (t286.size : Int) t302 t305 _ ?side1 ?side2 A11.out).mono ?_); (case side1 => exact Kd.R_V (Kd.R_tight rfl (IsS25.apart HI285.out (HO292.out) (by decide)))); (case side2 => exact Kd.R_V (Kd.R_tight rfl (IsS25.apart HI285.out (HO296.out) (by decide)))); rintro e w23 ⟨v303, rfl, ho0, hb⟩; have n0_ := Aside0.mk (Kd.R_elder' (by (with_reducible repeat (first | apply Kd.R_alloc | apply Kd.R_drewN | apply Kd.R_drew)); exact HO292.out) (Kd.R_base ho0) hb); have n1_ := Aside0.mk (Kd.R_elder' (by (with_reducible repeat (first | apply Kd.R_alloc | apply Kd.R_drewN | apply Kd.R_drew)); exact HO296.out) (Kd.R_base ho0) hb); have n2_ := Aside0.mk (Kd.R_lower (Kd.R_new' (Kd.R_new' (Kd.R_mono (ok' := fun k_ => True) ho0 (fun _ hk_ => trivial)) (Kd.R_lt (by (with_reducible repeat (first | apply Kd.R_alloc | apply Kd.R_drewN | apply Kd.R_drew)); exact HO292.out))) (Kd.R_lt (by (with_reducible repeat (first | apply Kd.R_alloc | apply Kd.R_drewN | apply Kd.R_drew)); exact HO296.out))) (below_size (by repeat (first | (with_reducible first | exact HB.out | apply below_alloc | apply pw_below_drewN | apply below_drew1 | refine below_set ?_ (IsS25.ge HI285.out)) | exact HB.out)))); have n3_ := Aside0.mk (IsS25.below (by repeat (first | (with_reducible first | exact HI285.out | apply IsS25.alloc | apply IsS25.drewN | apply IsS25.drew | apply IsS25.set_1) | exact HI285.out)) hb); have n4_ := Aside0.mk (below_step (by repeat (first | (with_reducible first | exact HB.out | apply below_alloc | apply pw_below_drewN | apply below_drew1 | refine below_set ?_ (IsS25.ge HI285.out)) | exact HB.out)) hb); clear HO292; clear HO296; clear HI285; clear HB; have HO292 := n0_; have HO296 := n1_; have HO304 := n2_; have HI285 := n3_; have HB := n4_; clear n0_ n1_ n2_ n3_ n4_; (try clear hb); (try clear hb2); (try clear hk); (try clear hi); (try clear ho0); obtain ⟨Ao24, co24, eo24⟩ := Kd.R_slice HO304.out; subst eo24) | (go_at_call 19; (with_reducible refine (privilege_Redact.calls k t286 _ _ t302 t306 t307 _ ?side1 ?side2 ?side3 A12.out).mono ?_); (case side1 => repeat (first | exact (Kd.R_reads' HO304.out).2.2 | (with_reducible refine Kd.C_alloc ?_ _) | (with_reducible refine Kd.C_drewN ?_ _) | (with_reducible refine Kd.C_drew ?_))); (case side2 => exact (Kd.R_reads' HO304.out).2.1); (case side3 => exact Wd.below HGl.out (by repeat (first | (with_reducible first | exact HB.out | apply below_alloc | apply pw_below_drewN | apply below_drew1 | refine below_set ?_ (IsS25.ge HI285.out)) | exact HB.out))); rintro e w25 ⟨rfl, hb⟩; have n0_ := Aside0.mk (Kd.R_below (by (with_reducible repeat (first | apply Kd.R_alloc | apply Kd.R_drewN | apply Kd.R_drew)); exact HO292.out) hb); have n1_ := Aside0.mk (Kd.R_below (by (with_reducible repeat (first | apply Kd.R_alloc | apply Kd.R_drewN | apply Kd.R_drew)); exact HO296.out) hb); have n2_ := Aside0.mk (Kd.R_below (by (with_reducible repeat (first | apply Kd.R_alloc | apply Kd.R_drewN | apply Kd.R_drew)); exact HO304.out) hb); have n3_ := Aside0.mk (IsS25.below (by repeat (first | (with_reducible first | exact HI285.out | apply IsS25.alloc | apply IsS25.drewN | apply IsS25.drew | apply IsS25.set_1) | exact HI285.out)) hb); have n4_ := Aside0.mk (below_step (by repeat (first | (with_reducible first | exact HB.out | apply below_alloc | apply pw_below_drewN | apply below_drew1 | refine below_set ?_ (IsS25.ge HI285.out)) | exact HB.out)) hb); clear HO292; clear HO296; clear HO304; clear HI285; clear HB; have HO292 := n0_; have HO296 := n1_; have HO304 := n2_; have HI285 := n3_; have HB := n4_; clear n0_ n1_ n2_ n3_ n4_; (try clear hb); (try clear hb2); (try clear hk); (try clear hi))); go_upto_region 11 with (first | ((with_reducible refine gate_dst (N := 24) rfl ?_); (try (refine gate_guard (by rfl) ?_; dsimp only)); refine box_event ?hg (N := 24) ?hd (cs := #[.slice A0 l0.length c0, .int .i64 0]) (t := 25) ?hr ?_; (case hd => rfl); (case hg => rfl); (case hr => first | (go_simp; done) | (go_simp; rfl)); intro gb285 hg w14 hbox hb; have n0_ := Aside0.mk (below_step (by repeat (first | (with_reducible first | exact HB.out | apply below_alloc | apply pw_below_drewN | apply below_drew1) | exact HB.out)) hb); have n1_ := Aside0.mk ((⟨_, _, hbox, (by rw [hg]; exact (below_size (by repeat (first | (with_reducible first | exact HB.out | apply below_alloc | apply pw_below_drewN | apply below_drew1) | exact HB.out)))), HR0.out⟩ : IsS25 w _ gb285 l0 0)); clear HB; have HB := n0_; have HI285 := n1_; clear n0_ n1_; clear hb hbox hg) | (go_at_call 15; (with_reducible refine (chasemake_Stream_Memo.calls k gb285 l0 0 t286 t287 w _ ?side1 ?side2 A2.out).mono ?_); (case side1 => repeat (first | (with_reducible first | exact HI285.out | apply IsS25.alloc | apply IsS25.drewN | apply IsS25.drew | apply IsS25.set_1) | exact HI285.out)); (case side2 => repeat (first | (with_reducible first | exact HB.out | apply below_alloc | apply pw_below_drewN | apply below_drew1 | refine below_set ?_ (IsS25.ge HI285.out)) | exact HB.out)); rintro e w15 ⟨rfl, hi, hb, hk⟩; have n0_ := Aside0.mk (hb); have n1_ := Aside0.mk (hi); clear HB; clear HI285; have HB := n0_; have HI285 := n1_; clear n0_ n1_; (try clear hb); (try clear hb2); (try clear hk); (try clear hi)) | (go_at_call 16; (with_reducible refine (chaseref1_BodyFault.calls t286 t288 _ ?side1 A3.out).mono ?_); (case side1 => exact Wd.below HGl.out (by repeat (first | (with_reducible first | exact HB.out | apply below_alloc | apply pw_below_drewN | apply below_drew1 | refine below_set ?_ (IsS25.ge HI285.out)) | exact HB.out))); rintro e w16 ⟨rfl, hb⟩; have n0_ := Aside0.mk (IsS25.below (by repeat (first | (with_reducible first | exact HI285.out | apply IsS25.alloc | apply IsS25.drewN | apply IsS25.drew | apply IsS25.set_1) | exact HI285.out)) hb); have n1_ := Aside0.mk (below_step (by repeat (first | (with_reducible first | exact HB.out | apply below_alloc | apply pw_below_drewN | apply below_drew1 | refine below_set ?_ (IsS25.ge HI285.out)) | exact HB.out)) hb); clear HI285; clear HB; have HI285 := n0_; have HB := n1_; clear n0_ n1_; (try clear hb); (try clear hb2); (try clear hk); (try clear hi)) | (go_at_call 18; (with_reducible refine (chasemake_Stream_SpanList.calls k gb285 l0 t287 ji5 t290 t293 w _ ?side1 ?side2 A6.out).mono ?_); (case side1 => repeat (first | (with_reducible first | exact HI285.out | apply IsS25.alloc | apply IsS25.drewN | apply IsS25.drew | apply IsS25.set_1) | exact HI285.out)); (case side2 => repeat (first | (with_reducible first | exact HB.out | apply below_alloc | apply pw_below_drewN | apply below_drew1 | refine below_set ?_ (IsS25.ge HI285.out)) | exact HB.out)); rintro e w17 ⟨v291, rfl, ho0, hi, hb, hk⟩; have n0_ := Aside0.mk (Kd.R_lower ho0 (below_size (by repeat (first | (with_reducible first | exact HB.out | apply below_alloc | apply pw_below_drewN | apply below_drew1 | refine below_set ?_ (IsS25.ge HI285.out)) | exact HB.out)))); have n1_ := Aside0.mk (hb); have n2_ := Aside0.mk (hi); clear HB; clear HI285; have HO292 := n0_; have HB := n1_; have HI285 := n2_; clear n0_ n1_ n2_; (try clear hb); (try clear hb2); (try clear hk); (try clear hi); (try clear ho0)) | (go_at_call 18; (with_reducible refine (chasemake_Stream_SpanList.calls k gb285 l0 t293 ji5 t294 t297 w _ ?side1 ?side2 A8.out).mono ?_); (case side1 => repeat (first | (with_reducible first | exact HI285.out | apply IsS25.alloc | apply IsS25.drewN | apply IsS25.drew | apply IsS25.set_1) | exact HI285.out)); (case side2 => repeat (first | (with_reducible first | exact HB.out | apply below_alloc | apply pw_below_drewN | apply below_drew1 | refine below_set ?_ (IsS25.ge HI285.out)) | exact HB.out)); rintro e w18 ⟨v295, rfl, ho0, hi, hb, hk⟩; have n0_ := Aside0.mk (Kd.R_mono (Kd.R_told (Kd.R_oldK (IsS25.apart (show IsS25 w _ gb285 l0 t293 from by repeat (first | (with_reducible first | exact HI285.out | apply IsS25.alloc | apply IsS25.drewN | apply IsS25.drew | apply IsS25.set_1) | exact HI285.out)) (by (with_reducible repeat (first | apply Kd.R_alloc | apply Kd.R_drewN | apply Kd.R_drew)); exact HO292.out) (by decide)) hk) (Kd.R_base ho0)) (fun _ h_ => h_.1)); have n1_ := Aside0.mk (Kd.R_lower (Kd.R_new' ho0 (Kd.R_lt (by (with_reducible repeat (first | apply Kd.R_alloc | apply Kd.R_drewN | apply Kd.R_drew)); exact HO292.out))) (below_size (by repeat (first | (with_reducible first | exact HB.out | apply below_alloc | apply pw_below_drewN | apply below_drew1 | refine below_set ?_ (IsS25.ge HI285.out)) | exact HB.out)))); have n2_ := Aside0.mk (hb); have n3_ := Aside0.mk (hi); clear HO292; clear HB; clear HI285; have HO292 := n0_; have HO296 := n1_; have HB := n2_; have HI285 := n3_; clear n0_ n1_ n2_ n3_; (try clear hb); (try clear hb2); (try clear hk); (try clear hi); (try clear ho0); obtain ⟨Ao19, co19, eo19⟩ := Kd.R_slice HO292.out; subst eo19) | (go_at_call 19; (with_reducible refine (privilege_Redact.calls k t286 _ _ t290 t298 t299 _ ?side1 ?side2 ?side3 A9.out).mono ?_); (case side1 => repeat (first | exact (Kd.R_reads' HO292.out).2.2 | (with_reducible refine Kd.C_alloc ?_ _) | (with_reducible refine Kd.C_drewN ?_ _) | (with_reducible refine Kd.C_drew ?_))); (case side2 => exact (Kd.R_reads' HO292.out).2.1); (case side3 => exact Wd.below HGl.out (by repeat (first | (with_reducible first | exact HB.out | apply below_alloc | apply pw_below_drewN | apply below_drew1 | refine below_set ?_ (IsS25.ge HI285.out)) | exact HB.out))); rintro e w20 ⟨rfl, hb⟩; have n0_ := Aside0.mk (Kd.R_below (by (with_reducible repeat (first | apply Kd.R_alloc | apply Kd.R_drewN | apply Kd.R_drew)); exact HO292.out) hb); have n1_ := Aside0.mk (Kd.R_below (by (with_reducible repeat (first | apply Kd.R_alloc | apply Kd.R_drewN | apply Kd.R_drew)); exact HO296.out) hb); have n2_ := Aside0.mk (IsS25.below (by repeat (first | (with_reducible first | exact HI285.out | apply IsS25.alloc | apply IsS25.drewN | apply IsS25.drew | apply IsS25.set_1) | exact HI285.out)) hb); have n3_ := Aside0.mk (below_step (by repeat (first | (with_reducible first | exact HB.out | apply below_alloc | apply pw_below_drewN | apply below_drew1 | refine below_set ?_ (IsS25.ge HI285.out)) | exact HB.out)) hb); clear HO292; clear HO296; clear HI285; clear HB; have HO292 := n0_; have HO296 := n1_; have HI285 := n2_; have HB := n3_; clear n0_ n1_ n2_ n3_; (try clear hb); (try clear hb2); (try clear hk); (try clear hi); obtain ⟨Ao21, co21, eo21⟩ := Kd.R_slice HO296.out; subst eo21) | (go_at_call 19; (with_reducible refine (privilege_Redact.calls k t298 _ _ t294 t300 t301 _ ?side1 ?side2 ?side3 A10.out).mono ?_); (case side1 => repeat (first | exact (Kd.R_reads' HO296.out).2.2 | (with_reducible refine Kd.C_alloc ?_ _) | (with_reducible refine Kd.C_drewN ?_ _) | (with_reducible refine Kd.C_drew ?_))); (case side2 => exact (Kd.R_reads' HO296.out).2.1); (case side3 => exact Wd.below HGl.out (by repeat (first | (with_reducible first | exact HB.out | apply below_alloc | apply pw_below_drewN | apply below_drew1 | refine below_set ?_ (IsS25.ge HI285.out)) | exact HB.out))); rintro e w22 ⟨rfl, hb⟩; have n0_ := Aside0.mk (Kd.R_below (by (with_reducible repeat (first | apply Kd.R_alloc | apply Kd.R_drewN | apply Kd.R_drew)); exact HO292.out) hb); have n1_ := Aside0.mk (Kd.R_below (by (with_reducible repeat (first | apply Kd.R_alloc | apply Kd.R_drewN | apply Kd.R_drew)); exact HO296.out) hb); have n2_ := Aside0.mk (IsS25.below (by repeat (first | (with_reducible first | exact HI285.out | apply IsS25.alloc | apply IsS25.drewN | apply IsS25.drew | apply IsS25.set_1) | exact HI285.out)) hb); have n3_ := Aside0.mk (below_step (by repeat (first | (with_reducible first | exact HB.out | apply below_alloc | apply pw_below_drewN | apply below_drew1 | refine below_set ?_ (IsS25.ge HI285.out)) | exact HB.out)) hb); clear HO292; clear HO296; clear HI285; clear HB; have HO292 := n0_; have HO296 := n1_; have HI285 := n2_; have HB := n3_; clear n0_ n1_ n2_ n3_; (try clear hb); (try clear hb2); (try clear hk); (try clear hi)) | (go_at_call 20; (with_reducible refine (privilege_Union.calls k (fun k_ => some k_ = (.slice Ao19 t290.length co19 : Value).ownBlock) _ _ t290 (fun k_ => some k_ = (.slice Ao21 t294.length co21 : Value).ownBlock) _ _ t294 (t286.size : Int) t302 t305 _ ?side1 ?side2 A11.out).mono ?_); (case side1 => exact Kd.R_V (Kd.R_tight rfl (IsS25.apart HI285.out (HO292.out) (by decide)))); (case side2 => exact Kd.R_V (Kd.R_tight rfl (IsS25.apart HI285.out (HO296.out) (by decide)))); rintro e w23 ⟨v303, rfl, ho0, hb⟩; have n0_ := Aside0.mk (Kd.R_elder' (by (with_reducible repeat (first | apply Kd.R_alloc | apply Kd.R_drewN | apply Kd.R_drew)); exact HO292.out) (Kd.R_base ho0) hb); have n1_ := Aside0.mk (Kd.R_elder' (by (with_reducible repeat (first | apply Kd.R_alloc | apply Kd.R_drewN | apply Kd.R_drew)); exact HO296.out) (Kd.R_base ho0) hb); have n2_ := Aside0.mk (Kd.R_lower (Kd.R_new' (Kd.R_new' (Kd.R_mono (ok' := fun k_ => True) ho0 (fun _ hk_ => trivial)) (Kd.R_lt (by (with_reducible repeat (first | apply Kd.R_alloc | apply Kd.R_drewN | apply Kd.R_drew)); exact HO292.out))) (Kd.R_lt (by (with_reducible repeat (first | apply Kd.R_alloc | apply Kd.R_drewN | apply Kd.R_drew)); exact HO296.out))) (below_size (by repeat (first | (with_reducible first | exact HB.out | apply below_alloc | apply pw_below_drewN | apply below_drew1 | refine below_set ?_ (IsS25.ge HI285.out)) | exact HB.out)))); have n3_ := Aside0.mk (IsS25.below (by repeat (first | (with_reducible first | exact HI285.out | apply IsS25.alloc | apply IsS25.drewN | apply IsS25.drew | apply IsS25.set_1) | exact HI285.out)) hb); have n4_ := Aside0.mk (below_step (by repeat (first | (with_reducible first | exact HB.out | apply below_alloc | apply pw_below_drewN | apply below_drew1 | refine below_set ?_ (IsS25.ge HI285.out)) | exact HB.out)) hb); clear HO292; clear HO296; clear HI285; clear HB; have HO292 := n0_; have HO296 := n1_; have HO304 := n2_; have HI285 := n3_; have HB := n4_; clear n0_ n1_ n2_ n3_ n4_; (try clear hb); (try clear hb2); (try clear hk); (try clear hi); (try clear ho0); obtain ⟨Ao24, co24, eo24⟩ := Kd.R_slice HO304.out; subst eo24) | (go_at_call 19; (with_reducible refine (privilege_Redact.calls k t286 _ _ t302 t306 t307 _ ?side1 ?side2 ?side3 A12.out).mono ?_); (case side1 => repeat (first | exact (Kd.R_reads' HO304.out).2.2 | (with_reducible refine Kd.C_alloc ?_ _) | (with_reducible refine Kd.C_drewN ?_ _) | (with_reducible refine Kd.C_drew ?_))); (case side2 => exact (Kd.R_reads' HO304.out).2.1); (case side3 => exact Wd.below HGl.out (by repeat (first | (with_reducible first | exact HB.out | apply below_alloc | apply pw_below_drewN | apply below_drew1 | refine below_set ?_ (IsS25.ge HI285.out)) | exact HB.out))); rintro e w25 ⟨rfl, hb⟩; have n0_ := Aside0.mk (Kd.R_below (by (with_reducible repeat (first | apply Kd.R_alloc | apply Kd.R_drewN | apply Kd.R_drew)); exact HO292.out) hb); have n1_ := Aside0.mk (Kd.R_below (by (with_reducible repeat (first | apply Kd.R_alloc | apply Kd.R_drewN | apply Kd.R_drew)); exact HO296.out) hb); have n2_ := Aside0.mk (Kd.R_below (by (with_reducible repeat (first | apply Kd.R_alloc | apply Kd.R_drewN | apply Kd.R_drew)); exact HO304.out) hb); have n3_ := Aside0.mk (IsS25.below (by repeat (first | (with_reducible first | exact HI285.out | apply IsS25.alloc | apply IsS25.drewN | apply IsS25.drew | apply IsS25.set_1) | exact HI285.out)) hb); have n4_ := Aside0.mk (below_step (by repeat (first | (with_reducible first | exact HB.out | apply below_alloc | apply pw_below_drewN | apply below_drew1 | refine below_set ?_ (IsS25.ge HI285.out)) | exact HB.out)) hb); clear HO292; clear HO296; clear HO304; clear HI285; clear HB; have HO292 := n0_; have HO296 := n1_; have HO304 := n2_; have HI285 := n3_; have HB := n4_; clear n0_ n1_ n2_ n3_ n4_; (try clear hb); (try clear hb2); (try clear hk); (try clear hi))))
  (try simp only [Act.put, List.setIfInBounds_toArray, List.set_cons_zero, List.set_cons_succ])
  go_cut [90] (fun v90 wc => ∃ (kq : Nat) (x90_12 : Bool), v90 = .bool x90_12 ∧ Aside0 (chasekeep1_CoveredIsHidden.j0 kq t286 (t286.size : Int) t294 t302 t306 x90_12 = some r) ∧ Aside0 (kq ≤ k) ∧ Aside0 (Kd.R k46 46 wc w.heap.size (fun k_ => some k_ ≠ ((.slice Ao24 t302.length co24) : Value).ownBlock) (.slice Ao21 t294.length co21) t294) ∧ Aside0 (Kd.R k46 46 wc w.heap.size (fun k_ => some k_ ≠ ((.slice Ao21 t294.length co21) : Value).ownBlock) (.slice Ao24 t302.length co24) t302) ∧ Aside0 (Below w.heap.size w wc))
  case first =>
   have H := HC13.out
   clear HC13
   by_cases c26 : t299 = 0
   ·rw [if_pos c26] at H
    have c26b0 : (t299 == 0) = true := beq_iff_eq.mpr c26
    have c26b1 : (t299 != 0) = false := bne_eq_false_iff_eq.mpr c26
    clear c26
    (first | rw [c26b0] | (simp only [i64_w, i32_w]; rw [c26b0]) | skip)
    by_cases c27 : t301 = 0
    ·rw [if_pos c27] at H
     have c27b0 : (t301 == 0) = true := beq_iff_eq.mpr c27
     have c27b1 : (t301 != 0) = false := bne_eq_false_iff_eq.mpr c27
     clear c27
     by_cases c28 : t305 = 0
     ·rw [if_pos c28] at H
      have c28b0 : (t305 == 0) = true := beq_iff_eq.mpr c28
      have c28b1 : (t305 != 0) = false := bne_eq_false_iff_eq.mpr c28
      clear c28
      by_cases c29 : t307 = 0
      ·rw [if_pos c29] at H
       have c29b0 : (t307 == 0) = true := beq_iff_eq.mpr c29
       have c29b1 : (t307 != 0) = false := bne_eq_false_iff_eq.mpr c29
       clear c29
       by_cases c30 : t300.toList = t306.toList
       ·rw [if_pos c30] at H
        have c30b0 : (t300.toList == t306.toList) = true := beq_iff_eq.mpr c30
        have c30b1 : (t300.toList != t306.toList) = false := bne_eq_false_iff_eq.mpr c30
        clear c30
        have H' := Aside0.mk H
        clear H
        go_wp2
        repeat (go_quiet (fail); try go_wp2)
        go_meet
        case rel => exact ⟨_, (((t306.size : Int) != (t286.size : Int))), (by first | rfl | (simp; done) | (simp [*]; done)), H', ⟨by first | omega | exact Nat.le_refl _⟩, ⟨by (with_reducible repeat (first | apply Kd.R_alloc | apply Kd.R_drewN | apply Kd.R_drew)); exact Kd.R_mono HO296.out (fun _ hk => hk.2)⟩, ⟨by (with_reducible repeat (first | apply Kd.R_alloc | apply Kd.R_drewN | apply Kd.R_drew)); exact Kd.R_mono HO304.out (fun _ hk => hk.2)⟩, ⟨by repeat (first | (with_reducible first | exact HB.out | apply below_alloc | apply pw_below_drewN | apply below_drew1 | refine below_set ?_ (IsS25.ge HI285.out)) | exact HB.out)⟩⟩
       ·rw [if_neg c30] at H
        have c30b0 : (t300.toList == t306.toList) = false := beq_eq_false_iff_ne.mpr c30
        have c30b1 : (t300.toList != t306.toList) = true := bne_iff_ne.mpr c30
        have H' := Aside0.mk H
        clear H
        go_wp2
        repeat (go_quiet (fail); try go_wp2)
        go_meet
        case rel => exact ⟨_, (true), (by first | rfl | (simp; done) | (simp [*]; done)), H', ⟨by first | omega | exact Nat.le_refl _⟩, ⟨by (with_reducible repeat (first | apply Kd.R_alloc | apply Kd.R_drewN | apply Kd.R_drew)); exact Kd.R_mono HO296.out (fun _ hk => hk.2)⟩, ⟨by (with_reducible repeat (first | apply Kd.R_alloc | apply Kd.R_drewN | apply Kd.R_drew)); exact Kd.R_mono HO304.out (fun _ hk => hk.2)⟩, ⟨by repeat (first | (with_reducible first | exact HB.out | apply below_alloc | apply pw_below_drewN | apply below_drew1 | refine below_set ?_ (IsS25.ge HI285.out)) | exact HB.out)⟩⟩
      ·rw [if_neg c29] at H
       have c29b0 : (t307 == 0) = false := beq_eq_false_iff_ne.mpr c29
       have c29b1 : (t307 != 0) = true := bne_iff_ne.mpr c29
       have H' := Aside0.mk H
       clear H
       go_wp2
       repeat (go_quiet (fail); try go_wp2)
       go_meet
       case rel => exact ⟨_, (true), (by first | rfl | (simp; done) | (simp [*]; done)), H', ⟨by first | omega | exact Nat.le_refl _⟩, ⟨by (with_reducible repeat (first | apply Kd.R_alloc | apply Kd.R_drewN | apply Kd.R_drew)); exact Kd.R_mono HO296.out (fun _ hk => hk.2)⟩, ⟨by (with_reducible repeat (first | apply Kd.R_alloc | apply Kd.R_drewN | apply Kd.R_drew)); exact Kd.R_mono HO304.out (fun _ hk => hk.2)⟩, ⟨by repeat (first | (with_reducible first | exact HB.out | apply below_alloc | apply pw_below_drewN | apply below_drew1 | refine below_set ?_ (IsS25.ge HI285.out)) | exact HB.out)⟩⟩
     ·rw [if_neg c28] at H
      have c28b0 : (t305 == 0) = false := beq_eq_false_iff_ne.mpr c28
      have c28b1 : (t305 != 0) = true := bne_iff_ne.mpr c28
      have H' := Aside0.mk H
      clear H
      go_wp2
      repeat (go_quiet (fail); try go_wp2)
      go_meet
      case rel => exact ⟨_, (true), (by first | rfl | (simp; done) | (simp [*]; done)), H', ⟨by first | omega | exact Nat.le_refl _⟩, ⟨by (with_reducible repeat (first | apply Kd.R_alloc | apply Kd.R_drewN | apply Kd.R_drew)); exact Kd.R_mono HO296.out (fun _ hk => hk.2)⟩, ⟨by (with_reducible repeat (first | apply Kd.R_alloc | apply Kd.R_drewN | apply Kd.R_drew)); exact Kd.R_mono HO304.out (fun _ hk => hk.2)⟩, ⟨by repeat (first | (with_reducible first | exact HB.out | apply below_alloc | apply pw_below_drewN | apply below_drew1 | refine below_set ?_ (IsS25.ge HI285.out)) | exact HB.out)⟩⟩
    ·rw [if_neg c27] at H
     have c27b0 : (t301 == 0) = false := beq_eq_false_iff_ne.mpr c27
     have c27b1 : (t301 != 0) = true := bne_iff_ne.mpr c27
     have H' := Aside0.mk H
     clear H
     go_wp2
     repeat (go_quiet (fail); try go_wp2)
     go_meet
     case rel => exact ⟨_, (true), (by first | rfl | (simp; done) | (simp [*]; done)), H', ⟨by first | omega | exact Nat.le_refl _⟩, ⟨by (with_reducible repeat (first | apply Kd.R_alloc | apply Kd.R_drewN | apply Kd.R_drew)); exact Kd.R_mono HO296.out (fun _ hk => hk.2)⟩, ⟨by (with_reducible repeat (first | apply Kd.R_alloc | apply Kd.R_drewN | apply Kd.R_drew)); exact Kd.R_mono HO304.out (fun _ hk => hk.2)⟩, ⟨by repeat (first | (with_reducible first | exact HB.out | apply below_alloc | apply pw_below_drewN | apply below_drew1 | refine below_set ?_ (IsS25.ge HI285.out)) | exact HB.out)⟩⟩
   ·rw [if_neg c26] at H
    have c26b0 : (t299 == 0) = false := beq_eq_false_iff_ne.mpr c26
    have c26b1 : (t299 != 0) = true := bne_iff_ne.mpr c26
    (first | rw [c26b0] | (simp only [i64_w, i32_w]; rw [c26b0]) | skip)
    have H' := Aside0.mk H
    clear H
    go_wp2
    repeat (go_quiet (fail); try go_wp2)
    go_meet
    case rel => exact ⟨_, (true), (by first | rfl | (simp; done) | (simp [*]; done)), H', ⟨by first | omega | exact Nat.le_refl _⟩, ⟨by (with_reducible repeat (first | apply Kd.R_alloc | apply Kd.R_drewN | apply Kd.R_drew)); exact Kd.R_mono HO296.out (fun _ hk => hk.2)⟩, ⟨by (with_reducible repeat (first | apply Kd.R_alloc | apply Kd.R_drewN | apply Kd.R_drew)); exact Kd.R_mono HO304.out (fun _ hk => hk.2)⟩, ⟨by repeat (first | (with_reducible first | exact HB.out | apply below_alloc | apply pw_below_drewN | apply below_drew1 | refine below_set ?_ (IsS25.ge HI285.out)) | exact HB.out)⟩⟩
  case rest =>
   clear HC13
   try clear p1
   try clear c2
   try clear p2
   try clear c3
   try clear c4
   try clear c4b0
   try clear c4b1
   try clear c7
   try clear c7b0
   try clear c26
   try clear c26b0
   try clear c26b1
   try clear c27
   try clear c27b0
   try clear c27b1
   try clear c28
   try clear c28b0
   try clear c28b1
   try clear c29
   try clear c29b0
   try clear c29b1
   try clear c30
   try clear c30b0
   try clear c30b1
   obtain ⟨kq, x90_12, rfl, HA, HJ12, HO_7, HO_12, HB⟩ := hcut
   cases kq with
   | zero => exact absurd HA.out (by simp [chasekeep1_CoveredIsHidden.j0])
   | succ kj12 =>
    have H := HA.out
    clear HA
    simp only [chasekeep1_CoveredIsHidden.j0] at H
    by_cases c31 : x90_12 = true
    ·subst c31
     have H1 : (some false) = some r := by rw [if_pos rfl] at H; exact H
     clear H
     have H := H1
     clear H1
     obtain rfl := Option.some.inj H
     go_wp2
     repeat (go_quiet (fail); try go_wp2)
     go_ret
     exact ⟨by first | rfl | (simp [errW_none, errW_some] <;> rfl) | (simp only [← hji5]; first | rfl | (simp [errW_none, errW_some] <;> rfl)) | (simp [*, errW_none, errW_some] <;> rfl), by repeat (first | (with_reducible first | exact HB.out | apply below_alloc | apply pw_below_drewN | apply below_drew1) | exact HB.out)⟩
    ·replace c31 := Bool.eq_false_iff.mpr c31
     subst c31
     have H1 : (chasekeep1_CoveredIsHidden.l0 kj12 t286 (t286.size : Int) t294 t302 t306 (t286.size : Int) 0) = some r := by rw [if_neg (show ¬ (false = true) by decide)] at H; exact H
     clear H
     have H := H1
     clear H1
     have H' := Aside0.mk H
     clear H
     go_wp2
     repeat (go_quiet (fail); try go_wp2)
     go_loopg [92] kj12 (fun kq v92 w' => ∃ (x92_2 : Int), v92 = .int .i64 x92_2 ∧ Aside0 (chasekeep1_CoveredIsHidden.l0 kq t286 (t286.size : Int) t294 t302 t306 (t286.size : Int) x92_2 = some r) ∧ Aside0 (kq ≤ kj12) ∧ Aside0 (Kd.R k46 46 w' w.heap.size (fun k_ => some k_ ≠ ((.slice Ao24 t302.length co24) : Value).ownBlock) (.slice Ao21 t294.length co21) t294) ∧ Aside0 (Kd.R k46 46 w' w.heap.size (fun k_ => some k_ ≠ ((.slice Ao21 t294.length co21) : Value).ownBlock) (.slice Ao24 t302.length co24) t302) ∧ Aside0 (Below w.heap.size w w'))
     case atStart => exact ⟨(0), (by first | rfl | (simp; done) | (simp [*]; done)), H', ⟨Nat.le_refl _⟩, ⟨by (with_reducible repeat (first | apply Kd.R_alloc | apply Kd.R_drewN | apply Kd.R_drew)); exact HO_7.out⟩, ⟨by (with_reducible repeat (first | apply Kd.R_alloc | apply Kd.R_drewN | apply Kd.R_drew)); exact HO_12.out⟩, ⟨by repeat (first | (with_reducible first | exact HB.out | apply below_alloc | apply pw_below_drewN | apply below_drew1) | exact HB.out)⟩⟩
     case round =>
      clear H'
      try clear p1
      try clear c2
      try clear p2
      try clear c3
      try clear c4
      try clear c4b0
      try clear c4b1
      try clear c7
      try clear c7b0
      try clear c26
      try clear c26b0
      try clear c26b1
      try clear c27
      try clear c27b0
      try clear c27b1
      try clear c28
      try clear c28b0
      try clear c28b1
      try clear c29
      try clear c29b0
      try clear c29b1
      try clear c30
      try clear c30b0
      try clear c30b1
      try clear c31
      try clear p1
      try clear p2
      obtain ⟨x92_2, rfl, HA, HK2, HO_7, HO_12, HB⟩ := hrel
      cases gk with
      | zero => exact absurd HA.out (by simp [chasekeep1_CoveredIsHidden.l0])
      | succ k2 =>
       have H := HA.out
       clear HA
       simp only [chasekeep1_CoveredIsHidden.l0] at H
       by_cases c32 : x92_2 < (t286.size : Int)
       ·rw [if_pos c32] at H
        have c32b0 : decide (x92_2 < (t286.size : Int)) = true := decide_eq_true c32
        clear c32
        replace H := Option.bind_eq_some_iff.mp H
        obtain ⟨t308, A330, H⟩ := H
        replace H : (if t308 = true then (if 0 ≤ x92_2 then (if x92_2 < (t306.size : Int) then (if (bt t306 x92_2) = 35 then (chasekeep1_CoveredIsHidden.j2 k2 t286 (t286.size : Int) t294 t302 t306 (t286.size : Int) x92_2 false) else (if (bt t306 x92_2) = 32 then (chasekeep1_CoveredIsHidden.j2 k2 t286 (t286.size : Int) t294 t302 t306 (t286.size : Int) x92_2 false) else (if (bt t306 x92_2) = 10 then (chasekeep1_CoveredIsHidden.j2 k2 t286 (t286.size : Int) t294 t302 t306 (t286.size : Int) x92_2 false) else (chasekeep1_CoveredIsHidden.j2 k2 t286 (t286.size : Int) t294 t302 t306 (t286.size : Int) x92_2 true)))) else (none)) else (none)) else (if 0 ≤ x92_2 then (if x92_2 < (t286.size : Int) then (if (bt t286 x92_2) < 128 then (if x92_2 < (t306.size : Int) then (chasekeep1_CoveredIsHidden.j2 k2 t286 (t286.size : Int) t294 t302 t306 (t286.size : Int) x92_2 ((bt t306 x92_2) != (bt t286 x92_2))) else (none)) else (chasekeep1_CoveredIsHidden.j2 k2 t286 (t286.size : Int) t294 t302 t306 (t286.size : Int) x92_2 false)) else (none)) else (none))) = some r := H
        have A33 := Aside0.mk A330
        clear A330
        have HC34 := Aside0.mk H
        clear H
        have HCL : Aside0 (wr.heap.size < (wr.alloc (.cells #[.int .i64 x92_2] 3)).heap.size ∧ (wr.alloc (.cells #[.int .i64 x92_2] 3)).cell? ⟨wr.heap.size, 0, none⟩ = some (.int .i64 x92_2)) := ⟨by simp, by simp⟩
        go_upto_region 17 with (first | (go_at_call 21; (with_reducible refine (api_Span_21.calls _ _ t302 x92_2 t308 _ ?side1 ?side2 _ HCL.out.1 HCL.out.2 A33.out).mono ?_); (case side1 => repeat (first | exact (Kd.R_reads' HO_12.out).2.2 | (with_reducible refine Kd.C_alloc ?_ _) | (with_reducible refine Kd.C_drewN ?_ _) | (with_reducible refine Kd.C_drew ?_))); (case side2 => exact (Kd.R_reads' HO_12.out).2.1); rintro e w35 ⟨rfl, hb⟩; have n0_ := Aside0.mk (Kd.R_below (by (with_reducible repeat (first | apply Kd.R_alloc | apply Kd.R_drewN | apply Kd.R_drew)); exact HO_7.out) hb); have n1_ := Aside0.mk (Kd.R_below (by (with_reducible repeat (first | apply Kd.R_alloc | apply Kd.R_drewN | apply Kd.R_drew)); exact HO_12.out) hb); have n2_ := Aside0.mk (below_step (by repeat (first | (with_reducible first | exact HB.out | apply below_alloc | apply pw_below_drewN | apply below_drew1) | exact HB.out)) hb); have n9_ : Aside0 (wr.heap.size < w35.heap.size ∧ w35.cell? ⟨wr.heap.size, 0, none⟩ = some (.int .i64 x92_2)) := Aside0.mk (And.intro (Nat.lt_of_lt_of_le HCL.out.1 hb.size) ((hb.cell (p := ⟨wr.heap.size, 0, none⟩) HCL.out.1).trans HCL.out.2)); clear HCL; have HCL := n9_; clear n9_; clear HO_7; clear HO_12; clear HB; have HO_7 := n0_; have HO_12 := n1_; have HB := n2_; clear n0_ n1_ n2_; (try clear hb); (try clear hb2); (try clear hk); (try clear hi)))
        repeat (go_quiet (first | (go_at_call 21; (with_reducible refine (api_Span_21.calls _ _ t302 x92_2 t308 _ ?side1 ?side2 _ HCL.out.1 HCL.out.2 A33.out).mono ?_); (case side1 => repeat (first | exact (Kd.R_reads' HO_12.out).2.2 | (with_reducible refine Kd.C_alloc ?_ _) | (with_reducible refine Kd.C_drewN ?_ _) | (with_reducible refine Kd.C_drew ?_))); (case side2 => exact (Kd.R_reads' HO_12.out).2.1); rintro e w35 ⟨rfl, hb⟩; have n0_ := Aside0.mk (Kd.R_below (by (with_reducible repeat (first | apply Kd.R_alloc | apply Kd.R_drewN | apply Kd.R_drew)); exact HO_7.out) hb); have n1_ := Aside0.mk (Kd.R_below (by (with_reducible repeat (first | apply Kd.R_alloc | apply Kd.R_drewN | apply Kd.R_drew)); exact HO_12.out) hb); have n2_ := Aside0.mk (below_step (by repeat (first | (with_reducible first | exact HB.out | apply below_alloc | apply pw_below_drewN | apply below_drew1) | exact HB.out)) hb); have n9_ : Aside0 (wr.heap.size < w35.heap.size ∧ w35.cell? ⟨wr.heap.size, 0, none⟩ = some (.int .i64 x92_2)) := Aside0.mk (And.intro (Nat.lt_of_lt_of_le HCL.out.1 hb.size) ((hb.cell (p := ⟨wr.heap.size, 0, none⟩) HCL.out.1).trans HCL.out.2)); clear HCL; have HCL := n9_; clear n9_; clear HO_7; clear HO_12; clear HB; have HO_7 := n0_; have HO_12 := n1_; have HB := n2_; clear n0_ n1_ n2_; (try clear hb); (try clear hb2); (try clear hk); (try clear hi))); go_upto_region 17 with (first | (go_at_call 21; (with_reducible refine (api_Span_21.calls _ _ t302 x92_2 t308 _ ?side1 ?side2 _ HCL.out.1 HCL.out.2 A33.out).mono ?_); (case side1 => repeat (first | exact (Kd.R_reads' HO_12.out).2.2 | (with_reducible refine Kd.C_alloc ?_ _) | (with_reducible refine Kd.C_drewN ?_ _) | (with_reducible refine Kd.C_drew ?_))); (case side2 => exact (Kd.R_reads' HO_12.out).2.1); rintro e w35 ⟨rfl, hb⟩; have n0_ := Aside0.mk (Kd.R_below (by (with_reducible repeat (first | apply Kd.R_alloc | apply Kd.R_drewN | apply Kd.R_drew)); exact HO_7.out) hb); have n1_ := Aside0.mk (Kd.R_below (by (with_reducible repeat (first | apply Kd.R_alloc | apply Kd.R_drewN | apply Kd.R_drew)); exact HO_12.out) hb); have n2_ := Aside0.mk (below_step (by repeat (first | (with_reducible first | exact HB.out | apply below_alloc | apply pw_below_drewN | apply below_drew1) | exact HB.out)) hb); have n9_ : Aside0 (wr.heap.size < w35.heap.size ∧ w35.cell? ⟨wr.heap.size, 0, none⟩ = some (.int .i64 x92_2)) := Aside0.mk (And.intro (Nat.lt_of_lt_of_le HCL.out.1 hb.size) ((hb.cell (p := ⟨wr.heap.size, 0, none⟩) HCL.out.1).trans HCL.out.2)); clear HCL; have HCL := n9_; clear n9_; clear HO_7; clear HO_12; clear HB; have HO_7 := n0_; have HO_12 := n1_; have HB := n2_; clear n0_ n1_ n2_; (try clear hb); (try clear hb2); (try clear hk); (try clear hi))))
        (try simp only [Act.put, List.setIfInBounds_toArray, List.set_cons_zero, List.set_cons_succ])
        go_cut [135] (fun v135 wc => ∃ (kq : Nat) (x135_33 : Bool), v135 = .bool x135_33 ∧ Aside0 (chasekeep1_CoveredIsHidden.j2 kq t286 (t286.size : Int) t294 t302 t306 (t286.size : Int) x92_2 x135_33 = some r) ∧ Aside0 (kq ≤ k2) ∧ Aside0 (Kd.R k46 46 wc w.heap.size (fun k_ => some k_ ≠ ((.slice Ao24 t302.length co24) : Value).ownBlock) (.slice Ao21 t294.length co21) t294) ∧ Aside0 (Kd.R k46 46 wc w.heap.size (fun k_ => some k_ ≠ ((.slice Ao21 t294.length co21) : Value).ownBlock) (.slice Ao24 t302.length co24) t302) ∧ Aside0 (Below w.heap.size w wc))
        case first =>
         have hcz0_ := HCL.out.2
         have H := HC34.out
         clear HC34
         by_cases c36 : t308 = true
         ·subst c36
          have H1 : (if 0 ≤ x92_2 then (if x92_2 < (t306.size : Int) then (if (bt t306 x92_2) = 35 then (chasekeep1_CoveredIsHidden.j2 k2 t286 (t286.size : Int) t294 t302 t306 (t286.size : Int) x92_2 false) else (if (bt t306 x92_2) = 32 then (chasekeep1_CoveredIsHidden.j2 k2 t286 (t286.size : Int) t294 t302 t306 (t286.size : Int) x92_2 false) else (if (bt t306 x92_2) = 10 then (chasekeep1_CoveredIsHidden.j2 k2 t286 (t286.size : Int) t294 t302 t306 (t286.size : Int) x92_2 false) else (chasekeep1_CoveredIsHidden.j2 k2 t286 (t286.size : Int) t294 t302 t306 (t286.size : Int) x92_2 true)))) else (none)) else (none)) = some r := by rw [if_pos rfl] at H; exact H
          clear H
          have H := H1
          clear H1
          by_cases c37 : 0 ≤ x92_2
          ·rw [if_pos c37] at H
           have c37b0 : decide (0 ≤ x92_2) = true := decide_eq_true c37
           clear c37
           (first | rw [c37b0] | (simp only [i64_w, i32_w]; rw [c37b0]) | skip)
           by_cases c38 : x92_2 < (t306.size : Int)
           ·rw [if_pos c38] at H
            have c38b0 : decide (x92_2 < (t306.size : Int)) = true := decide_eq_true c38
            clear c38
            by_cases c40 : (bt t306 x92_2) = 35
            ·rw [if_pos c40] at H
             have c40b0 : ((bt t306 x92_2) == 35) = true := beq_iff_eq.mpr c40
             have c40b1 : ((bt t306 x92_2) != 35) = false := bne_eq_false_iff_eq.mpr c40
             clear c40
             have H' := Aside0.mk H
             clear H
             have p39 : 0 ≤ (x92_2 : Int) := of_decide_eq_true (by first | (with_reducible assumption) | assumption)
             have q39 : x92_2 < (t306.size : Int) := of_decide_eq_true (by first | (with_reducible assumption) | assumption)
             have hx39 := bt_at t306 x92_2
             replace p39 := eq_true p39
             replace q39 := eq_true q39
             go_wp2
             repeat (go_quiet (fail); try go_wp2)
             go_meet
             case rel => exact ⟨_, (false), (by first | rfl | (simp; done) | (simp [*]; done)), H', ⟨by have := HJ12.out; have := HK2.out; first | omega | exact Nat.le_refl _⟩, ⟨by (with_reducible repeat (first | apply Kd.R_alloc | apply Kd.R_drewN | apply Kd.R_drew)); exact HO_7.out⟩, ⟨by (with_reducible repeat (first | apply Kd.R_alloc | apply Kd.R_drewN | apply Kd.R_drew)); exact HO_12.out⟩, ⟨by repeat (first | (with_reducible first | exact HB.out | apply below_alloc | apply pw_below_drewN | apply below_drew1) | exact HB.out)⟩⟩
            ·rw [if_neg c40] at H
             have c40b0 : ((bt t306 x92_2) == 35) = false := beq_eq_false_iff_ne.mpr c40
             have c40b1 : ((bt t306 x92_2) != 35) = true := bne_iff_ne.mpr c40
             by_cases c42 : (bt t306 x92_2) = 32
             ·rw [if_pos c42] at H
              have c42b0 : ((bt t306 x92_2) == 32) = true := beq_iff_eq.mpr c42
              have c42b1 : ((bt t306 x92_2) != 32) = false := bne_eq_false_iff_eq.mpr c42
              clear c42
              have H' := Aside0.mk H
              clear H
              have p39 : 0 ≤ (x92_2 : Int) := of_decide_eq_true (by first | (with_reducible assumption) | assumption)
              have q39 : x92_2 < (t306.size : Int) := of_decide_eq_true (by first | (with_reducible assumption) | assumption)
              have hx39 := bt_at t306 x92_2
              replace p39 := eq_true p39
              replace q39 := eq_true q39
              have p41 : 0 ≤ (x92_2 : Int) := of_decide_eq_true (by first | (with_reducible assumption) | assumption)
              have q41 : x92_2 < (t306.size : Int) := of_decide_eq_true (by first | (with_reducible assumption) | assumption)
              have hx41 := bt_at t306 x92_2
              replace p41 := eq_true p41
              replace q41 := eq_true q41
              go_wp2
              repeat (go_quiet (fail); try go_wp2)
              go_meet
              case rel => exact ⟨_, (false), (by first | rfl | (simp; done) | (simp [*]; done)), H', ⟨by have := HJ12.out; have := HK2.out; first | omega | exact Nat.le_refl _⟩, ⟨by (with_reducible repeat (first | apply Kd.R_alloc | apply Kd.R_drewN | apply Kd.R_drew)); exact HO_7.out⟩, ⟨by (with_reducible repeat (first | apply Kd.R_alloc | apply Kd.R_drewN | apply Kd.R_drew)); exact HO_12.out⟩, ⟨by repeat (first | (with_reducible first | exact HB.out | apply below_alloc | apply pw_below_drewN | apply below_drew1) | exact HB.out)⟩⟩
             ·rw [if_neg c42] at H
              have c42b0 : ((bt t306 x92_2) == 32) = false := beq_eq_false_iff_ne.mpr c42
              have c42b1 : ((bt t306 x92_2) != 32) = true := bne_iff_ne.mpr c42
              by_cases c44 : (bt t306 x92_2) = 10
              ·rw [if_pos c44] at H
               have c44b0 : ((bt t306 x92_2) == 10) = true := beq_iff_eq.mpr c44
               have c44b1 : ((bt t306 x92_2) != 10) = false := bne_eq_false_iff_eq.mpr c44
               clear c44
               have H' := Aside0.mk H
               clear H
               have p39 : 0 ≤ (x92_2 : Int) := of_decide_eq_true (by first | (with_reducible assumption) | assumption)
               have q39 : x92_2 < (t306.size : Int) := of_decide_eq_true (by first | (with_reducible assumption) | assumption)
               have hx39 := bt_at t306 x92_2
               replace p39 := eq_true p39
               replace q39 := eq_true q39
               have p41 : 0 ≤ (x92_2 : Int) := of_decide_eq_true (by first | (with_reducible assumption) | assumption)
               have q41 : x92_2 < (t306.size : Int) := of_decide_eq_true (by first | (with_reducible assumption) | assumption)
               have hx41 := bt_at t306 x92_2
               replace p41 := eq_true p41
               replace q41 := eq_true q41
               have p43 : 0 ≤ (x92_2 : Int) := of_decide_eq_true (by first | (with_reducible assumption) | assumption)
               have q43 : x92_2 < (t306.size : Int) := of_decide_eq_true (by first | (with_reducible assumption) | assumption)
               have hx43 := bt_at t306 x92_2
               replace p43 := eq_true p43
               replace q43 := eq_true q43
               go_wp2
               repeat (go_quiet (fail); try go_wp2)
               go_meet
               case rel => exact ⟨_, (false), (by first | rfl | (simp; done) | (simp [*]; done)), H', ⟨by have := HJ12.out; have := HK2.out; first | omega | exact Nat.le_refl _⟩, ⟨by (with_reducible repeat (first | apply Kd.R_alloc | apply Kd.R_drewN | apply Kd.R_drew)); exact HO_7.out⟩, ⟨by (with_reducible repeat (first | apply Kd.R_alloc | apply Kd.R_drewN | apply Kd.R_drew)); exact HO_12.out⟩, ⟨by repeat (first | (with_reducible first | exact HB.out | apply below_alloc | apply pw_below_drewN | apply below_drew1) | exact HB.out)⟩⟩
              ·rw [if_neg c44] at H
               have c44b0 : ((bt t306 x92_2) == 10) = false := beq_eq_false_iff_ne.mpr c44
               have c44b1 : ((bt t306 x92_2) != 10) = true := bne_iff_ne.mpr c44
               have H' := Aside0.mk H
               clear H
               have p39 : 0 ≤ (x92_2 : Int) := of_decide_eq_true (by first | (with_reducible assumption) | assumption)
               have q39 : x92_2 < (t306.size : Int) := of_decide_eq_true (by first | (with_reducible assumption) | assumption)
               have hx39 := bt_at t306 x92_2
               replace p39 := eq_true p39
               replace q39 := eq_true q39
               have p41 : 0 ≤ (x92_2 : Int) := of_decide_eq_true (by first | (with_reducible assumption) | assumption)
               have q41 : x92_2 < (t306.size : Int) := of_decide_eq_true (by first | (with_reducible assumption) | assumption)
               have hx41 := bt_at t306 x92_2
               replace p41 := eq_true p41
               replace q41 := eq_true q41
               have p43 : 0 ≤ (x92_2 : Int) := of_decide_eq_true (by first | (with_reducible assumption) | assumption)
               have q43 : x92_2 < (t306.size : Int) := of_decide_eq_true (by first | (with_reducible assumption) | assumption)
               have hx43 := bt_at t306 x92_2
               replace p43 := eq_true p43
               replace q43 := eq_true q43
               go_wp2
               repeat (go_quiet (fail); try go_wp2)
               go_meet
               case rel => exact ⟨_, (true), (by first | rfl | (simp; done) | (simp [*]; done)), H', ⟨by have := HJ12.out; have := HK2.out; first | omega | exact Nat.le_refl _⟩, ⟨by (with_reducible repeat (first | apply Kd.R_alloc | apply Kd.R_drewN | apply Kd.R_drew)); exact HO_7.out⟩, ⟨by (with_reducible repeat (first | apply Kd.R_alloc | apply Kd.R_drewN | apply Kd.R_drew)); exact HO_12.out⟩, ⟨by repeat (first | (with_reducible first | exact HB.out | apply below_alloc | apply pw_below_drewN | apply below_drew1) | exact HB.out)⟩⟩
           ·rw [if_neg c38] at H
            exact absurd H (by simp)
          ·rw [if_neg c37] at H
           exact absurd H (by simp)
         ·replace c36 := Bool.eq_false_iff.mpr c36
          subst c36
          have H1 : (if 0 ≤ x92_2 then (if x92_2 < (t286.size : Int) then (if (bt t286 x92_2) < 128 then (if x92_2 < (t306.size : Int) then (chasekeep1_CoveredIsHidden.j2 k2 t286 (t286.size : Int) t294 t302 t306 (t286.size : Int) x92_2 ((bt t306 x92_2) != (bt t286 x92_2))) else (none)) else (chasekeep1_CoveredIsHidden.j2 k2 t286 (t286.size : Int) t294 t302 t306 (t286.size : Int) x92_2 false)) else (none)) else (none)) = some r := by rw [if_neg (show ¬ (false = true) by decide)] at H; exact H
          clear H
          have H := H1
          clear H1
          by_cases c45 : 0 ≤ x92_2
          ·rw [if_pos c45] at H
           have c45b0 : decide (0 ≤ x92_2) = true := decide_eq_true c45
           clear c45
           by_cases c46 : x92_2 < (t286.size : Int)
           ·rw [if_pos c46] at H
            have c46b0 : decide (x92_2 < (t286.size : Int)) = true := decide_eq_true c46
            clear c46
            by_cases c48 : (bt t286 x92_2) < 128
            ·rw [if_pos c48] at H
             have c48b0 : decide ((bt t286 x92_2) < 128) = true := decide_eq_true c48
             clear c48
             by_cases c49 : x92_2 < (t306.size : Int)
             ·rw [if_pos c49] at H
              have c49b0 : decide (x92_2 < (t306.size : Int)) = true := decide_eq_true c49
              clear c49
              have H' := Aside0.mk H
              clear H
              have p47 : 0 ≤ (x92_2 : Int) := of_decide_eq_true (by first | (with_reducible assumption) | assumption)
              have q47 : x92_2 < (t286.size : Int) := of_decide_eq_true (by first | (with_reducible assumption) | assumption)
              have hx47 := bt_at t286 x92_2
              replace p47 := eq_true p47
              replace q47 := eq_true q47
              have p50 : 0 ≤ (x92_2 : Int) := of_decide_eq_true (by first | (with_reducible assumption) | assumption)
              have q50 : x92_2 < (t306.size : Int) := of_decide_eq_true (by first | (with_reducible assumption) | assumption)
              have hx50 := bt_at t306 x92_2
              replace p50 := eq_true p50
              replace q50 := eq_true q50
              have p51 : 0 ≤ (x92_2 : Int) := of_decide_eq_true (by first | (with_reducible assumption) | assumption)
              have q51 : x92_2 < (t286.size : Int) := of_decide_eq_true (by first | (with_reducible assumption) | assumption)
              have hx51 := bt_at t286 x92_2
              replace p51 := eq_true p51
              replace q51 := eq_true q51
              go_wp2
              repeat (go_quiet (fail); try go_wp2)
              go_meet
              case rel => exact ⟨_, (((bt t306 x92_2) != (bt t286 x92_2))), (by first | rfl | (simp; done) | (simp [*]; done)), H', ⟨by have := HJ12.out; have := HK2.out; first | omega | exact Nat.le_refl _⟩, ⟨by (with_reducible repeat (first | apply Kd.R_alloc | apply Kd.R_drewN | apply Kd.R_drew)); exact HO_7.out⟩, ⟨by (with_reducible repeat (first | apply Kd.R_alloc | apply Kd.R_drewN | apply Kd.R_drew)); exact HO_12.out⟩, ⟨by repeat (first | (with_reducible first | exact HB.out | apply below_alloc | apply pw_below_drewN | apply below_drew1) | exact HB.out)⟩⟩
             ·rw [if_neg c49] at H
              exact absurd H (by simp)
            ·rw [if_neg c48] at H
             have c48b0 : decide ((bt t286 x92_2) < 128) = false := decide_eq_false c48
             clear c48
             have H' := Aside0.mk H
             clear H
             have p47 : 0 ≤ (x92_2 : Int) := of_decide_eq_true (by first | (with_reducible assumption) | assumption)
             have q47 : x92_2 < (t286.size : Int) := of_decide_eq_true (by first | (with_reducible assumption) | assumption)
             have hx47 := bt_at t286 x92_2
             replace p47 := eq_true p47
             replace q47 := eq_true q47
             go_wp2
             repeat (go_quiet (fail); try go_wp2)
             go_meet
             case rel => exact ⟨_, (false), (by first | rfl | (simp; done) | (simp [*]; done)), H', ⟨by have := HJ12.out; have := HK2.out; first | omega | exact Nat.le_refl _⟩, ⟨by (with_reducible repeat (first | apply Kd.R_alloc | apply Kd.R_drewN | apply Kd.R_drew)); exact HO_7.out⟩, ⟨by (with_reducible repeat (first | apply Kd.R_alloc | apply Kd.R_drewN | apply Kd.R_drew)); exact HO_12.out⟩, ⟨by repeat (first | (with_reducible first | exact HB.out | apply below_alloc | apply pw_below_drewN | apply below_drew1) | exact HB.out)⟩⟩
           ·rw [if_neg c46] at H
            exact absurd H (by simp)
          ·rw [if_neg c45] at H
           exact absurd H (by simp)
        case rest =>
         clear HCL
         clear HC34
         try clear p1
         try clear c2
         try clear p2
         try clear c3
         try clear p3
         try clear q3
         try clear hx3
         try clear c4
         try clear c4b0
         try clear c4b1
         try clear p4
         try clear q4
         try clear hx4
         try clear p5
         try clear q5
         try clear hx5
         try clear c7
         try clear c7b0
         try clear c26
         try clear c26b0
         try clear c26b1
         try clear c27
         try clear c27b0
         try clear c27b1
         try clear c28
         try clear c28b0
         try clear c28b1
         try clear c29
         try clear c29b0
         try clear c29b1
         try clear c30
         try clear c30b0
         try clear c30b1
         try clear c31
         try clear c32
         try clear c32b0
         try clear c36
         try clear c37
         try clear c37b0
         try clear c38
         try clear c38b0
         try clear p39
         try clear q39
         try clear hx39
         try clear c40
         try clear c40b0
         try clear c40b1
         try clear p41
         try clear q41
         try clear hx41
         try clear c42
         try clear c42b0
         try clear c42b1
         try clear p43
         try clear q43
         try clear hx43
         try clear c44
         try clear c44b0
         try clear c44b1
         try clear c45
         try clear c45b0
         try clear c46
         try clear c46b0
         try clear p47
         try clear q47
         try clear hx47
         try clear c48
         try clear c48b0
         try clear c49
         try clear c49b0
         try clear p50
         try clear q50
         try clear hx50
         try clear p51
         try clear q51
         try clear hx51
         try clear p1
         try clear p2
         try clear p39
         try clear p41
         try clear p43
         try clear p47
         try clear p50
         try clear p51
         try clear q39
         try clear q41
         try clear q43
         try clear q47
         try clear q50
         try clear q51
         obtain ⟨kq, x135_33, rfl, HA, HJ33, HO_7, HO_12, HB⟩ := hcut
         cases kq with
         | zero => exact absurd HA.out (by simp [chasekeep1_CoveredIsHidden.j2])
         | succ kj33 =>
          have H := HA.out
          clear HA
          simp only [chasekeep1_CoveredIsHidden.j2] at H
          by_cases c52 : x135_33 = true
          ·subst c52
           have H1 : (some false) = some r := by rw [if_pos rfl] at H; exact H
           clear H
           have H := H1
           clear H1
           obtain rfl := Option.some.inj H
           go_wp2
           repeat (go_quiet (fail); try go_wp2)
           go_ret
           exact ⟨by first | rfl | (simp [errW_none, errW_some] <;> rfl) | (simp only [← hji5]; first | rfl | (simp [errW_none, errW_some] <;> rfl)) | (simp [*, errW_none, errW_some] <;> rfl), by repeat (first | (with_reducible first | exact HB.out | apply below_alloc | apply pw_below_drewN | apply below_drew1) | exact HB.out)⟩
          ·replace c52 := Bool.eq_false_iff.mpr c52
           subst c52
           have H1 : (chasekeep1_CoveredIsHidden.l0 kj33 t286 (t286.size : Int) t294 t302 t306 (t286.size : Int) (wrap64 (x92_2 + 1))) = some r := by rw [if_neg (show ¬ (false = true) by decide)] at H; exact H
           clear H
           have H := H1
           clear H1
           have H' := Aside0.mk H
           clear H
           go_wp2
           repeat (go_quiet (fail); try go_wp2)
           go_roundg kj33
           case measure => have := HJ12.out; have := HK2.out; have := HJ33.out; omega
           case rel => exact ⟨(wrap64 (x92_2 + 1)), (by first | rfl | (simp; done) | (simp [*]; done)), H', ⟨by have := HJ12.out; have := HK2.out; have := HJ33.out; omega⟩, ⟨by (with_reducible repeat (first | apply Kd.R_alloc | apply Kd.R_drewN | apply Kd.R_drew)); exact HO_7.out⟩, ⟨by (with_reducible repeat (first | apply Kd.R_alloc | apply Kd.R_drewN | apply Kd.R_drew)); exact HO_12.out⟩, ⟨by repeat (first | (with_reducible first | exact HB.out | apply below_alloc | apply pw_below_drewN | apply below_drew1) | exact HB.out)⟩⟩
       ·rw [if_neg c32] at H
        have c32b0 : decide (x92_2 < (t286.size : Int)) = false := decide_eq_false c32
        clear c32
        replace H := Option.bind_eq_some_iff.mp H
        obtain ⟨⟨t309, t310⟩, A530, H⟩ := H
        replace H : ((privilege_Union.f k2 t309 t294 (t286.size : Int)).bind fun bt313 => ((chasekeep1_privileges.f k2).bind fun t317 => (if t317 = true then (if t310 = 0 then (if bt313.2 = 0 then ((api_Span_24.f k2 bt313.1 t302).bind fun t318 => (chasekeep1_CoveredIsHidden.j3 k2 t318)) else (chasekeep1_CoveredIsHidden.j3 k2 false)) else (chasekeep1_CoveredIsHidden.j3 k2 false)) else (chasekeep1_CoveredIsHidden.j3 k2 false)))) = some r := H
        have A53 := Aside0.mk A530
        clear A530
        replace H := Option.bind_eq_some_iff.mp H
        obtain ⟨⟨t313, t316⟩, A540, H⟩ := H
        replace H : ((chasekeep1_privileges.f k2).bind fun t317 => (if t317 = true then (if t310 = 0 then (if t316 = 0 then ((api_Span_24.f k2 t313 t302).bind fun t318 => (chasekeep1_CoveredIsHidden.j3 k2 t318)) else (chasekeep1_CoveredIsHidden.j3 k2 false)) else (chasekeep1_CoveredIsHidden.j3 k2 false)) else (chasekeep1_CoveredIsHidden.j3 k2 false))) = some r := H
        have A54 := Aside0.mk A540
        clear A540
        have HC55 := Aside0.mk H
        clear H
        go_upto_region 22 with (first | (go_at_call 23; (with_reducible refine (privilege_Without.calls k2 _ _ t302 _ _ t294 (t286.size : Int) t309 t310 _ ?side1 ?side2 ?side3 ?side4 A53.out).mono ?_); (case side1 => repeat (first | exact (Kd.R_reads' HO_12.out).2.2 | (with_reducible refine Kd.C_alloc ?_ _) | (with_reducible refine Kd.C_drewN ?_ _) | (with_reducible refine Kd.C_drew ?_))); (case side2 => exact (Kd.R_reads' HO_12.out).2.1); (case side3 => repeat (first | exact (Kd.R_reads' HO_7.out).2.2 | (with_reducible refine Kd.C_alloc ?_ _) | (with_reducible refine Kd.C_drewN ?_ _) | (with_reducible refine Kd.C_drew ?_))); (case side4 => exact (Kd.R_reads' HO_7.out).2.1); rintro e w56 ⟨v311, rfl, ho0, hb⟩; have n0_ := Aside0.mk (Kd.R_elder' (by (with_reducible repeat (first | apply Kd.R_alloc | apply Kd.R_drewN | apply Kd.R_drew)); exact HO_7.out) (Kd.R_base ho0) hb); have n1_ := Aside0.mk (Kd.R_elder' (by (with_reducible repeat (first | apply Kd.R_alloc | apply Kd.R_drewN | apply Kd.R_drew)); exact HO_12.out) (Kd.R_base ho0) hb); have n2_ := Aside0.mk (Kd.R_lower (Kd.R_new' (Kd.R_new' ho0 (Kd.R_lt (by (with_reducible repeat (first | apply Kd.R_alloc | apply Kd.R_drewN | apply Kd.R_drew)); exact HO_7.out))) (Kd.R_lt (by (with_reducible repeat (first | apply Kd.R_alloc | apply Kd.R_drewN | apply Kd.R_drew)); exact HO_12.out))) (below_size (by repeat (first | (with_reducible first | exact HB.out | apply below_alloc | apply pw_below_drewN | apply below_drew1) | exact HB.out)))); have n3_ := Aside0.mk (below_step (by repeat (first | (with_reducible first | exact HB.out | apply below_alloc | apply pw_below_drewN | apply below_drew1) | exact HB.out)) hb); clear HO_7; clear HO_12; clear HB; have HO_7 := n0_; have HO_12 := n1_; have HO312 := n2_; have HB := n3_; clear n0_ n1_ n2_ n3_; (try clear hb); (try clear hb2); (try clear hk); (try clear hi); (try clear ho0); obtain ⟨Ao57, co57, eo57⟩ := Kd.R_slice HO312.out; subst eo57) | (go_at_call 20; (with_reducible refine (privilege_Union.calls k2 (fun k_ => some k_ = (.slice Ao57 t309.length co57 : Value).ownBlock) _ _ t309 (fun k_ => some k_ = (.slice Ao21 t294.length co21 : Value).ownBlock) _ _ t294 (t286.size : Int) t313 t316 _ ?side1 ?side2 A54.out).mono ?_); (case side1 => exact Kd.R_V (Kd.R_tight rfl (HO312.out))); (case side2 => exact Kd.R_V (Kd.R_tight rfl (HO_7.out))); rintro e w58 ⟨v314, rfl, ho0, hb⟩; have n0_ := Aside0.mk (Kd.R_elder' (by (with_reducible repeat (first | apply Kd.R_alloc | apply Kd.R_drewN | apply Kd.R_drew)); exact HO_7.out) (Kd.R_base ho0) hb); have n1_ := Aside0.mk (Kd.R_elder' (by (with_reducible repeat (first | apply Kd.R_alloc | apply Kd.R_drewN | apply Kd.R_drew)); exact HO_12.out) (Kd.R_base ho0) hb); have n2_ := Aside0.mk (Kd.R_elder' (by (with_reducible repeat (first | apply Kd.R_alloc | apply Kd.R_drewN | apply Kd.R_drew)); exact HO312.out) (Kd.R_base ho0) hb); have n3_ := Aside0.mk (Kd.R_lower (Kd.R_new' (Kd.R_new' (Kd.R_new' (Kd.R_mono (ok' := fun k_ => True) ho0 (fun _ hk_ => trivial)) (Kd.R_lt (by (with_reducible repeat (first | apply Kd.R_alloc | apply Kd.R_drewN | apply Kd.R_drew)); exact HO_7.out))) (Kd.R_lt (by (with_reducible repeat (first | apply Kd.R_alloc | apply Kd.R_drewN | apply Kd.R_drew)); exact HO_12.out))) (Kd.R_lt (by (with_reducible repeat (first | apply Kd.R_alloc | apply Kd.R_drewN | apply Kd.R_drew)); exact HO312.out))) (below_size (by repeat (first | (with_reducible first | exact HB.out | apply below_alloc | apply pw_below_drewN | apply below_drew1) | exact HB.out)))); have n4_ := Aside0.mk (below_step (by repeat (first | (with_reducible first | exact HB.out | apply below_alloc | apply pw_below_drewN | apply below_drew1) | exact HB.out)) hb); clear HO_7; clear HO_12; clear HO312; clear HB; have HO_7 := n0_; have HO_12 := n1_; have HO312 := n2_; have HO315 := n3_; have HB := n4_; clear n0_ n1_ n2_ n3_ n4_; (try clear hb); (try clear hb2); (try clear hk); (try clear hi); (try clear ho0)))
        repeat (go_quiet (first | (go_at_call 23; (with_reducible refine (privilege_Without.calls k2 _ _ t302 _ _ t294 (t286.size : Int) t309 t310 _ ?side1 ?side2 ?side3 ?side4 A53.out).mono ?_); (case side1 => repeat (first | exact (Kd.R_reads' HO_12.out).2.2 | (with_reducible refine Kd.C_alloc ?_ _) | (with_reducible refine Kd.C_drewN ?_ _) | (with_reducible refine Kd.C_drew ?_))); (case side2 => exact (Kd.R_reads' HO_12.out).2.1); (case side3 => repeat (first | exact (Kd.R_reads' HO_7.out).2.2 | (with_reducible refine Kd.C_alloc ?_ _) | (with_reducible refine Kd.C_drewN ?_ _) | (with_reducible refine Kd.C_drew ?_))); (case side4 => exact (Kd.R_reads' HO_7.out).2.1); rintro e w56 ⟨v311, rfl, ho0, hb⟩; have n0_ := Aside0.mk (Kd.R_elder' (by (with_reducible repeat (first | apply Kd.R_alloc | apply Kd.R_drewN | apply Kd.R_drew)); exact HO_7.out) (Kd.R_base ho0) hb); have n1_ := Aside0.mk (Kd.R_elder' (by (with_reducible repeat (first | apply Kd.R_alloc | apply Kd.R_drewN | apply Kd.R_drew)); exact HO_12.out) (Kd.R_base ho0) hb); have n2_ := Aside0.mk (Kd.R_lower (Kd.R_new' (Kd.R_new' ho0 (Kd.R_lt (by (with_reducible repeat (first | apply Kd.R_alloc | apply Kd.R_drewN | apply Kd.R_drew)); exact HO_7.out))) (Kd.R_lt (by (with_reducible repeat (first | apply Kd.R_alloc | apply Kd.R_drewN | apply Kd.R_drew)); exact HO_12.out))) (below_size (by repeat (first | (with_reducible first | exact HB.out | apply below_alloc | apply pw_below_drewN | apply below_drew1) | exact HB.out)))); have n3_ := Aside0.mk (below_step (by repeat (first | (with_reducible first | exact HB.out | apply below_alloc | apply pw_below_drewN | apply below_drew1) | exact HB.out)) hb); clear HO_7; clear HO_12; clear HB; have HO_7 := n0_; have HO_12 := n1_; have HO312 := n2_; have HB := n3_; clear n0_ n1_ n2_ n3_; (try clear hb); (try clear hb2); (try clear hk); (try clear hi); (try clear ho0); obtain ⟨Ao57, co57, eo57⟩ := Kd.R_slice HO312.out; subst eo57) | (go_at_call 20; (with_reducible refine (privilege_Union.calls k2 (fun k_ => some k_ = (.slice Ao57 t309.length co57 : Value).ownBlock) _ _ t309 (fun k_ => some k_ = (.slice Ao21 t294.length co21 : Value).ownBlock) _ _ t294 (t286.size : Int) t313 t316 _ ?side1 ?side2 A54.out).mono ?_); (case side1 => exact Kd.R_V (Kd.R_tight rfl (HO312.out))); (case side2 => exact Kd.R_V (Kd.R_tight rfl (HO_7.out))); rintro e w58 ⟨v314, rfl, ho0, hb⟩; have n0_ := Aside0.mk (Kd.R_elder' (by (with_reducible repeat (first | apply Kd.R_alloc | apply Kd.R_drewN | apply Kd.R_drew)); exact HO_7.out) (Kd.R_base ho0) hb); have n1_ := Aside0.mk (Kd.R_elder' (by (with_reducible repeat (first | apply Kd.R_alloc | apply Kd.R_drewN | apply Kd.R_drew)); exact HO_12.out) (Kd.R_base ho0) hb); have n2_ := Aside0.mk (Kd.R_elder' (by (with_reducible repeat (first | apply Kd.R_alloc | apply Kd.R_drewN | apply Kd.R_drew)); exact HO312.out) (Kd.R_base ho0) hb); have n3_ := Aside0.mk (Kd.R_lower (Kd.R_new' (Kd.R_new' (Kd.R_new' (Kd.R_mono (ok' := fun k_ => True) ho0 (fun _ hk_ => trivial)) (Kd.R_lt (by (with_reducible repeat (first | apply Kd.R_alloc | apply Kd.R_drewN | apply Kd.R_drew)); exact HO_7.out))) (Kd.R_lt (by (with_reducible repeat (first | apply Kd.R_alloc | apply Kd.R_drewN | apply Kd.R_drew)); exact HO_12.out))) (Kd.R_lt (by (with_reducible repeat (first | apply Kd.R_alloc | apply Kd.R_drewN | apply Kd.R_drew)); exact HO312.out))) (below_size (by repeat (first | (with_reducible first | exact HB.out | apply below_alloc | apply pw_below_drewN | apply below_drew1) | exact HB.out)))); have n4_ := Aside0.mk (below_step (by repeat (first | (with_reducible first | exact HB.out | apply below_alloc | apply pw_below_drewN | apply below_drew1) | exact HB.out)) hb); clear HO_7; clear HO_12; clear HO312; clear HB; have HO_7 := n0_; have HO_12 := n1_; have HO312 := n2_; have HO315 := n3_; have HB := n4_; clear n0_ n1_ n2_ n3_ n4_; (try clear hb); (try clear hb2); (try clear hk); (try clear hi); (try clear ho0))); go_upto_region 22 with (first | (go_at_call 23; (with_reducible refine (privilege_Without.calls k2 _ _ t302 _ _ t294 (t286.size : Int) t309 t310 _ ?side1 ?side2 ?side3 ?side4 A53.out).mono ?_); (case side1 => repeat (first | exact (Kd.R_reads' HO_12.out).2.2 | (with_reducible refine Kd.C_alloc ?_ _) | (with_reducible refine Kd.C_drewN ?_ _) | (with_reducible refine Kd.C_drew ?_))); (case side2 => exact (Kd.R_reads' HO_12.out).2.1); (case side3 => repeat (first | exact (Kd.R_reads' HO_7.out).2.2 | (with_reducible refine Kd.C_alloc ?_ _) | (with_reducible refine Kd.C_drewN ?_ _) | (with_reducible refine Kd.C_drew ?_))); (case side4 => exact (Kd.R_reads' HO_7.out).2.1); rintro e w56 ⟨v311, rfl, ho0, hb⟩; have n0_ := Aside0.mk (Kd.R_elder' (by (with_reducible repeat (first | apply Kd.R_alloc | apply Kd.R_drewN | apply Kd.R_drew)); exact HO_7.out) (Kd.R_base ho0) hb); have n1_ := Aside0.mk (Kd.R_elder' (by (with_reducible repeat (first | apply Kd.R_alloc | apply Kd.R_drewN | apply Kd.R_drew)); exact HO_12.out) (Kd.R_base ho0) hb); have n2_ := Aside0.mk (Kd.R_lower (Kd.R_new' (Kd.R_new' ho0 (Kd.R_lt (by (with_reducible repeat (first | apply Kd.R_alloc | apply Kd.R_drewN | apply Kd.R_drew)); exact HO_7.out))) (Kd.R_lt (by (with_reducible repeat (first | apply Kd.R_alloc | apply Kd.R_drewN | apply Kd.R_drew)); exact HO_12.out))) (below_size (by repeat (first | (with_reducible first | exact HB.out | apply below_alloc | apply pw_below_drewN | apply below_drew1) | exact HB.out)))); have n3_ := Aside0.mk (below_step (by repeat (first | (with_reducible first | exact HB.out | apply below_alloc | apply pw_below_drewN | apply below_drew1) | exact HB.out)) hb); clear HO_7; clear HO_12; clear HB; have HO_7 := n0_; have HO_12 := n1_; have HO312 := n2_; have HB := n3_; clear n0_ n1_ n2_ n3_; (try clear hb); (try clear hb2); (try clear hk); (try clear hi); (try clear ho0); obtain ⟨Ao57, co57, eo57⟩ := Kd.R_slice HO312.out; subst eo57) | (go_at_call 20; (with_reducible refine (privilege_Union.calls k2 (fun k_ => some k_ = (.slice Ao57 t309.length co57 : Value).ownBlock) _ _ t309 (fun k_ => some k_ = (.slice Ao21 t294.length co21 : Value).ownBlock) _ _ t294 (t286.size : Int) t313 t316 _ ?side1 ?side2 A54.out).mono ?_); (case side1 => exact Kd.R_V (Kd.R_tight rfl (HO312.out))); (case side2 => exact Kd.R_V (Kd.R_tight rfl (HO_7.out))); rintro e w58 ⟨v314, rfl, ho0, hb⟩; have n0_ := Aside0.mk (Kd.R_elder' (by (with_reducible repeat (first | apply Kd.R_alloc | apply Kd.R_drewN | apply Kd.R_drew)); exact HO_7.out) (Kd.R_base ho0) hb); have n1_ := Aside0.mk (Kd.R_elder' (by (with_reducible repeat (first | apply Kd.R_alloc | apply Kd.R_drewN | apply Kd.R_drew)); exact HO_12.out) (Kd.R_base ho0) hb); have n2_ := Aside0.mk (Kd.R_elder' (by (with_reducible repeat (first | apply Kd.R_alloc | apply Kd.R_drewN | apply Kd.R_drew)); exact HO312.out) (Kd.R_base ho0) hb); have n3_ := Aside0.mk (Kd.R_lower (Kd.R_new' (Kd.R_new' (Kd.R_new' (Kd.R_mono (ok' := fun k_ => True) ho0 (fun _ hk_ => trivial)) (Kd.R_lt (by (with_reducible repeat (first | apply Kd.R_alloc | apply Kd.R_drewN | apply Kd.R_drew)); exact HO_7.out))) (Kd.R_lt (by (with_reducible repeat (first | apply Kd.R_alloc | apply Kd.R_drewN | apply Kd.R_drew)); exact HO_12.out))) (Kd.R_lt (by (with_reducible repeat (first | apply Kd.R_alloc | apply Kd.R_drewN | apply Kd.R_drew)); exact HO312.out))) (below_size (by repeat (first | (with_reducible first | exact HB.out | apply below_alloc | apply pw_below_drewN | apply below_drew1) | exact HB.out)))); have n4_ := Aside0.mk (below_step (by repeat (first | (with_reducible first | exact HB.out | apply below_alloc | apply pw_below_drewN | apply below_drew1) | exact HB.out)) hb); clear HO_7; clear HO_12; clear HO312; clear HB; have HO_7 := n0_; have HO_12 := n1_; have HO312 := n2_; have HO315 := n3_; have HB := n4_; clear n0_ n1_ n2_ n3_ n4_; (try clear hb); (try clear hb2); (try clear hk); (try clear hi); (try clear ho0))))
        (try simp only [Act.put, List.setIfInBounds_toArray, List.set_cons_zero, List.set_cons_succ])
        go_cut [2] (fun v2 wc => ∃ (kq : Nat) (x2_54 : Bool), v2 = .bool x2_54 ∧ Aside0 (chasekeep1_CoveredIsHidden.j3 kq x2_54 = some r) ∧ Aside0 (kq ≤ k2) ∧ Aside0 (Below w.heap.size w wc))
        case first =>
         have H := HC55.out
         clear HC55
         replace H := Option.bind_eq_some_iff.mp H
         obtain ⟨t317, A590, H⟩ := H
         replace H : (if t317 = true then (if t310 = 0 then (if t316 = 0 then ((api_Span_24.f k2 t313 t302).bind fun t318 => (chasekeep1_CoveredIsHidden.j3 k2 t318)) else (chasekeep1_CoveredIsHidden.j3 k2 false)) else (chasekeep1_CoveredIsHidden.j3 k2 false)) else (chasekeep1_CoveredIsHidden.j3 k2 false)) = some r := H
         have A59 := Aside0.mk A590
         clear A590
         by_cases c60 : t317 = true
         ·subst c60
          have H1 : (if t310 = 0 then (if t316 = 0 then ((api_Span_24.f k2 t313 t302).bind fun t318 => (chasekeep1_CoveredIsHidden.j3 k2 t318)) else (chasekeep1_CoveredIsHidden.j3 k2 false)) else (chasekeep1_CoveredIsHidden.j3 k2 false)) = some r := by rw [if_pos rfl] at H; exact H
          clear H
          have H := H1
          clear H1
          by_cases c61 : t310 = 0
          ·rw [if_pos c61] at H
           have c61b0 : (t310 == 0) = true := beq_iff_eq.mpr c61
           have c61b1 : (t310 != 0) = false := bne_eq_false_iff_eq.mpr c61
           clear c61
           (first | rw [c61b0] | (simp only [i64_w, i32_w]; rw [c61b0]) | skip)
           by_cases c62 : t316 = 0
           ·rw [if_pos c62] at H
            have c62b0 : (t316 == 0) = true := beq_iff_eq.mpr c62
            have c62b1 : (t316 != 0) = false := bne_eq_false_iff_eq.mpr c62
            clear c62
            replace H := Option.bind_eq_some_iff.mp H
            obtain ⟨t318, A630, H⟩ := H
            replace H : (chasekeep1_CoveredIsHidden.j3 k2 t318) = some r := H
            have A63 := Aside0.mk A630
            clear A630
            have H' := Aside0.mk H
            clear H
            go_wp2_with (first | (go_at_call 17; (with_reducible refine (chasekeep1_privileges.calls k2  true _ ?side1 A59.out).mono ?_); (case side1 => exact Wd.below HGl.out (by repeat (first | (with_reducible first | exact HB.out | apply below_alloc | apply pw_below_drewN | apply below_drew1) | exact HB.out))); rintro e w64 ⟨rfl, hb⟩; have n0_ := Aside0.mk (Kd.R_below (by (with_reducible repeat (first | apply Kd.R_alloc | apply Kd.R_drewN | apply Kd.R_drew)); exact HO_7.out) hb); have n1_ := Aside0.mk (Kd.R_below (by (with_reducible repeat (first | apply Kd.R_alloc | apply Kd.R_drewN | apply Kd.R_drew)); exact HO_12.out) hb); have n2_ := Aside0.mk (Kd.R_below (by (with_reducible repeat (first | apply Kd.R_alloc | apply Kd.R_drewN | apply Kd.R_drew)); exact HO312.out) hb); have n3_ := Aside0.mk (Kd.R_below (by (with_reducible repeat (first | apply Kd.R_alloc | apply Kd.R_drewN | apply Kd.R_drew)); exact HO315.out) hb); have n4_ := Aside0.mk (below_step (by repeat (first | (with_reducible first | exact HB.out | apply below_alloc | apply pw_below_drewN | apply below_drew1) | exact HB.out)) hb); clear HO_7; clear HO_12; clear HO312; clear HO315; clear HB; have HO_7 := n0_; have HO_12 := n1_; have HO312 := n2_; have HO315 := n3_; have HB := n4_; clear n0_ n1_ n2_ n3_ n4_; (try clear hb); (try clear hb2); (try clear hk); (try clear hi); obtain ⟨Ao65, co65, eo65⟩ := Kd.R_slice HO315.out; subst eo65) | (go_at_call 24; (with_reducible refine (api_Span_24.calls k2 _ _ t313 _ _ t302 t318 _ ?side1 ?side2 ?side3 ?side4 A63.out).mono ?_); (case side1 => repeat (first | exact (Kd.R_reads' HO315.out).2.2 | (with_reducible refine Kd.C_alloc ?_ _) | (with_reducible refine Kd.C_drewN ?_ _) | (with_reducible refine Kd.C_drew ?_))); (case side2 => exact (Kd.R_reads' HO315.out).2.1); (case side3 => repeat (first | exact (Kd.R_reads' HO_12.out).2.2 | (with_reducible refine Kd.C_alloc ?_ _) | (with_reducible refine Kd.C_drewN ?_ _) | (with_reducible refine Kd.C_drew ?_))); (case side4 => exact (Kd.R_reads' HO_12.out).2.1); rintro e w' ⟨rfl, ⟨nd, rfl⟩⟩; (try first | exact ⟨rfl, _, World.drewN_drewN _ _ _⟩ | exact ⟨rfl, _, Eq.trans (World.drewN_drewN _ _ _) (congrArg (World.drewN _) (Nat.add_assoc _ _ _))⟩)))
            repeat (go_quiet (first | (go_at_call 17; (with_reducible refine (chasekeep1_privileges.calls k2  true _ ?side1 A59.out).mono ?_); (case side1 => exact Wd.below HGl.out (by repeat (first | (with_reducible first | exact HB.out | apply below_alloc | apply pw_below_drewN | apply below_drew1) | exact HB.out))); rintro e w64 ⟨rfl, hb⟩; have n0_ := Aside0.mk (Kd.R_below (by (with_reducible repeat (first | apply Kd.R_alloc | apply Kd.R_drewN | apply Kd.R_drew)); exact HO_7.out) hb); have n1_ := Aside0.mk (Kd.R_below (by (with_reducible repeat (first | apply Kd.R_alloc | apply Kd.R_drewN | apply Kd.R_drew)); exact HO_12.out) hb); have n2_ := Aside0.mk (Kd.R_below (by (with_reducible repeat (first | apply Kd.R_alloc | apply Kd.R_drewN | apply Kd.R_drew)); exact HO312.out) hb); have n3_ := Aside0.mk (Kd.R_below (by (with_reducible repeat (first | apply Kd.R_alloc | apply Kd.R_drewN | apply Kd.R_drew)); exact HO315.out) hb); have n4_ := Aside0.mk (below_step (by repeat (first | (with_reducible first | exact HB.out | apply below_alloc | apply pw_below_drewN | apply below_drew1) | exact HB.out)) hb); clear HO_7; clear HO_12; clear HO312; clear HO315; clear HB; have HO_7 := n0_; have HO_12 := n1_; have HO312 := n2_; have HO315 := n3_; have HB := n4_; clear n0_ n1_ n2_ n3_ n4_; (try clear hb); (try clear hb2); (try clear hk); (try clear hi); obtain ⟨Ao65, co65, eo65⟩ := Kd.R_slice HO315.out; subst eo65) | (go_at_call 24; (with_reducible refine (api_Span_24.calls k2 _ _ t313 _ _ t302 t318 _ ?side1 ?side2 ?side3 ?side4 A63.out).mono ?_); (case side1 => repeat (first | exact (Kd.R_reads' HO315.out).2.2 | (with_reducible refine Kd.C_alloc ?_ _) | (with_reducible refine Kd.C_drewN ?_ _) | (with_reducible refine Kd.C_drew ?_))); (case side2 => exact (Kd.R_reads' HO315.out).2.1); (case side3 => repeat (first | exact (Kd.R_reads' HO_12.out).2.2 | (with_reducible refine Kd.C_alloc ?_ _) | (with_reducible refine Kd.C_drewN ?_ _) | (with_reducible refine Kd.C_drew ?_))); (case side4 => exact (Kd.R_reads' HO_12.out).2.1); rintro e w' ⟨rfl, ⟨nd, rfl⟩⟩; (try first | exact ⟨rfl, _, World.drewN_drewN _ _ _⟩ | exact ⟨rfl, _, Eq.trans (World.drewN_drewN _ _ _) (congrArg (World.drewN _) (Nat.add_assoc _ _ _))⟩))); try go_wp2_with (first | (go_at_call 17; (with_reducible refine (chasekeep1_privileges.calls k2  true _ ?side1 A59.out).mono ?_); (case side1 => exact Wd.below HGl.out (by repeat (first | (with_reducible first | exact HB.out | apply below_alloc | apply pw_below_drewN | apply below_drew1) | exact HB.out))); rintro e w64 ⟨rfl, hb⟩; have n0_ := Aside0.mk (Kd.R_below (by (with_reducible repeat (first | apply Kd.R_alloc | apply Kd.R_drewN | apply Kd.R_drew)); exact HO_7.out) hb); have n1_ := Aside0.mk (Kd.R_below (by (with_reducible repeat (first | apply Kd.R_alloc | apply Kd.R_drewN | apply Kd.R_drew)); exact HO_12.out) hb); have n2_ := Aside0.mk (Kd.R_below (by (with_reducible repeat (first | apply Kd.R_alloc | apply Kd.R_drewN | apply Kd.R_drew)); exact HO312.out) hb); have n3_ := Aside0.mk (Kd.R_below (by (with_reducible repeat (first | apply Kd.R_alloc | apply Kd.R_drewN | apply Kd.R_drew)); exact HO315.out) hb); have n4_ := Aside0.mk (below_step (by repeat (first | (with_reducible first | exact HB.out | apply below_alloc | apply pw_below_drewN | apply below_drew1) | exact HB.out)) hb); clear HO_7; clear HO_12; clear HO312; clear HO315; clear HB; have HO_7 := n0_; have HO_12 := n1_; have HO312 := n2_; have HO315 := n3_; have HB := n4_; clear n0_ n1_ n2_ n3_ n4_; (try clear hb); (try clear hb2); (try clear hk); (try clear hi); obtain ⟨Ao65, co65, eo65⟩ := Kd.R_slice HO315.out; subst eo65) | (go_at_call 24; (with_reducible refine (api_Span_24.calls k2 _ _ t313 _ _ t302 t318 _ ?side1 ?side2 ?side3 ?side4 A63.out).mono ?_); (case side1 => repeat (first | exact (Kd.R_reads' HO315.out).2.2 | (with_reducible refine Kd.C_alloc ?_ _) | (with_reducible refine Kd.C_drewN ?_ _) | (with_reducible refine Kd.C_drew ?_))); (case side2 => exact (Kd.R_reads' HO315.out).2.1); (case side3 => repeat (first | exact (Kd.R_reads' HO_12.out).2.2 | (with_reducible refine Kd.C_alloc ?_ _) | (with_reducible refine Kd.C_drewN ?_ _) | (with_reducible refine Kd.C_drew ?_))); (case side4 => exact (Kd.R_reads' HO_12.out).2.1); rintro e w' ⟨rfl, ⟨nd, rfl⟩⟩; (try first | exact ⟨rfl, _, World.drewN_drewN _ _ _⟩ | exact ⟨rfl, _, Eq.trans (World.drewN_drewN _ _ _) (congrArg (World.drewN _) (Nat.add_assoc _ _ _))⟩))))
            go_meet
            case rel => exact ⟨_, (t318), (by first | rfl | (simp; done) | (simp [*]; done)), H', ⟨by have := HJ12.out; have := HK2.out; first | omega | exact Nat.le_refl _⟩, ⟨by repeat (first | (with_reducible first | exact HB.out | apply below_alloc | apply pw_below_drewN | apply below_drew1) | exact HB.out)⟩⟩
           ·rw [if_neg c62] at H
            have c62b0 : (t316 == 0) = false := beq_eq_false_iff_ne.mpr c62
            have c62b1 : (t316 != 0) = true := bne_iff_ne.mpr c62
            have H' := Aside0.mk H
            clear H
            go_wp2_with (first | (go_at_call 17; (with_reducible refine (chasekeep1_privileges.calls k2  true _ ?side1 A59.out).mono ?_); (case side1 => exact Wd.below HGl.out (by repeat (first | (with_reducible first | exact HB.out | apply below_alloc | apply pw_below_drewN | apply below_drew1) | exact HB.out))); rintro e w66 ⟨rfl, hb⟩; have n0_ := Aside0.mk (Kd.R_below (by (with_reducible repeat (first | apply Kd.R_alloc | apply Kd.R_drewN | apply Kd.R_drew)); exact HO_7.out) hb); have n1_ := Aside0.mk (Kd.R_below (by (with_reducible repeat (first | apply Kd.R_alloc | apply Kd.R_drewN | apply Kd.R_drew)); exact HO_12.out) hb); have n2_ := Aside0.mk (Kd.R_below (by (with_reducible repeat (first | apply Kd.R_alloc | apply Kd.R_drewN | apply Kd.R_drew)); exact HO312.out) hb); have n3_ := Aside0.mk (Kd.R_below (by (with_reducible repeat (first | apply Kd.R_alloc | apply Kd.R_drewN | apply Kd.R_drew)); exact HO315.out) hb); have n4_ := Aside0.mk (below_step (by repeat (first | (with_reducible first | exact HB.out | apply below_alloc | apply pw_below_drewN | apply below_drew1) | exact HB.out)) hb); clear HO_7; clear HO_12; clear HO312; clear HO315; clear HB; have HO_7 := n0_; have HO_12 := n1_; have HO312 := n2_; have HO315 := n3_; have HB := n4_; clear n0_ n1_ n2_ n3_ n4_; (try clear hb); (try clear hb2); (try clear hk); (try clear hi)))
            repeat (go_quiet (first | (go_at_call 17; (with_reducible refine (chasekeep1_privileges.calls k2  true _ ?side1 A59.out).mono ?_); (case side1 => exact Wd.below HGl.out (by repeat (first | (with_reducible first | exact HB.out | apply below_alloc | apply pw_below_drewN | apply below_drew1) | exact HB.out))); rintro e w66 ⟨rfl, hb⟩; have n0_ := Aside0.mk (Kd.R_below (by (with_reducible repeat (first | apply Kd.R_alloc | apply Kd.R_drewN | apply Kd.R_drew)); exact HO_7.out) hb); have n1_ := Aside0.mk (Kd.R_below (by (with_reducible repeat (first | apply Kd.R_alloc | apply Kd.R_drewN | apply Kd.R_drew)); exact HO_12.out) hb); have n2_ := Aside0.mk (Kd.R_below (by (with_reducible repeat (first | apply Kd.R_alloc | apply Kd.R_drewN | apply Kd.R_drew)); exact HO312.out) hb); have n3_ := Aside0.mk (Kd.R_below (by (with_reducible repeat (first | apply Kd.R_alloc | apply Kd.R_drewN | apply Kd.R_drew)); exact HO315.out) hb); have n4_ := Aside0.mk (below_step (by repeat (first | (with_reducible first | exact HB.out | apply below_alloc | apply pw_below_drewN | apply below_drew1) | exact HB.out)) hb); clear HO_7; clear HO_12; clear HO312; clear HO315; clear HB; have HO_7 := n0_; have HO_12 := n1_; have HO312 := n2_; have HO315 := n3_; have HB := n4_; clear n0_ n1_ n2_ n3_ n4_; (try clear hb); (try clear hb2); (try clear hk); (try clear hi))); try go_wp2_with (first | (go_at_call 17; (with_reducible refine (chasekeep1_privileges.calls k2  true _ ?side1 A59.out).mono ?_); (case side1 => exact Wd.below HGl.out (by repeat (first | (with_reducible first | exact HB.out | apply below_alloc | apply pw_below_drewN | apply below_drew1) | exact HB.out))); rintro e w66 ⟨rfl, hb⟩; have n0_ := Aside0.mk (Kd.R_below (by (with_reducible repeat (first | apply Kd.R_alloc | apply Kd.R_drewN | apply Kd.R_drew)); exact HO_7.out) hb); have n1_ := Aside0.mk (Kd.R_below (by (with_reducible repeat (first | apply Kd.R_alloc | apply Kd.R_drewN | apply Kd.R_drew)); exact HO_12.out) hb); have n2_ := Aside0.mk (Kd.R_below (by (with_reducible repeat (first | apply Kd.R_alloc | apply Kd.R_drewN | apply Kd.R_drew)); exact HO312.out) hb); have n3_ := Aside0.mk (Kd.R_below (by (with_reducible repeat (first | apply Kd.R_alloc | apply Kd.R_drewN | apply Kd.R_drew)); exact HO315.out) hb); have n4_ := Aside0.mk (below_step (by repeat (first | (with_reducible first | exact HB.out | apply below_alloc | apply pw_below_drewN | apply below_drew1) | exact HB.out)) hb); clear HO_7; clear HO_12; clear HO312; clear HO315; clear HB; have HO_7 := n0_; have HO_12 := n1_; have HO312 := n2_; have HO315 := n3_; have HB := n4_; clear n0_ n1_ n2_ n3_ n4_; (try clear hb); (try clear hb2); (try clear hk); (try clear hi))))
            go_meet
            case rel => exact ⟨_, (false), (by first | rfl | (simp; done) | (simp [*]; done)), H', ⟨by have := HJ12.out; have := HK2.out; first | omega | exact Nat.le_refl _⟩, ⟨by repeat (first | (with_reducible first | exact HB.out | apply below_alloc | apply pw_below_drewN | apply below_drew1) | exact HB.out)⟩⟩
          ·rw [if_neg c61] at H
           have c61b0 : (t310 == 0) = false := beq_eq_false_iff_ne.mpr c61
           have c61b1 : (t310 != 0) = true := bne_iff_ne.mpr c61
           (first | rw [c61b0] | (simp only [i64_w, i32_w]; rw [c61b0]) | skip)
           have H' := Aside0.mk H
           clear H
           go_wp2_with (first | (go_at_call 17; (with_reducible refine (chasekeep1_privileges.calls k2  true _ ?side1 A59.out).mono ?_); (case side1 => exact Wd.below HGl.out (by repeat (first | (with_reducible first | exact HB.out | apply below_alloc | apply pw_below_drewN | apply below_drew1) | exact HB.out))); rintro e w67 ⟨rfl, hb⟩; have n0_ := Aside0.mk (Kd.R_below (by (with_reducible repeat (first | apply Kd.R_alloc | apply Kd.R_drewN | apply Kd.R_drew)); exact HO_7.out) hb); have n1_ := Aside0.mk (Kd.R_below (by (with_reducible repeat (first | apply Kd.R_alloc | apply Kd.R_drewN | apply Kd.R_drew)); exact HO_12.out) hb); have n2_ := Aside0.mk (Kd.R_below (by (with_reducible repeat (first | apply Kd.R_alloc | apply Kd.R_drewN | apply Kd.R_drew)); exact HO312.out) hb); have n3_ := Aside0.mk (Kd.R_below (by (with_reducible repeat (first | apply Kd.R_alloc | apply Kd.R_drewN | apply Kd.R_drew)); exact HO315.out) hb); have n4_ := Aside0.mk (below_step (by repeat (first | (with_reducible first | exact HB.out | apply below_alloc | apply pw_below_drewN | apply below_drew1) | exact HB.out)) hb); clear HO_7; clear HO_12; clear HO312; clear HO315; clear HB; have HO_7 := n0_; have HO_12 := n1_; have HO312 := n2_; have HO315 := n3_; have HB := n4_; clear n0_ n1_ n2_ n3_ n4_; (try clear hb); (try clear hb2); (try clear hk); (try clear hi)))
           repeat (go_quiet (first | (go_at_call 17; (with_reducible refine (chasekeep1_privileges.calls k2  true _ ?side1 A59.out).mono ?_); (case side1 => exact Wd.below HGl.out (by repeat (first | (with_reducible first | exact HB.out | apply below_alloc | apply pw_below_drewN | apply below_drew1) | exact HB.out))); rintro e w67 ⟨rfl, hb⟩; have n0_ := Aside0.mk (Kd.R_below (by (with_reducible repeat (first | apply Kd.R_alloc | apply Kd.R_drewN | apply Kd.R_drew)); exact HO_7.out) hb); have n1_ := Aside0.mk (Kd.R_below (by (with_reducible repeat (first | apply Kd.R_alloc | apply Kd.R_drewN | apply Kd.R_drew)); exact HO_12.out) hb); have n2_ := Aside0.mk (Kd.R_below (by (with_reducible repeat (first | apply Kd.R_alloc | apply Kd.R_drewN | apply Kd.R_drew)); exact HO312.out) hb); have n3_ := Aside0.mk (Kd.R_below (by (with_reducible repeat (first | apply Kd.R_alloc | apply Kd.R_drewN | apply Kd.R_drew)); exact HO315.out) hb); have n4_ := Aside0.mk (below_step (by repeat (first | (with_reducible first | exact HB.out | apply below_alloc | apply pw_below_drewN | apply below_drew1) | exact HB.out)) hb); clear HO_7; clear HO_12; clear HO312; clear HO315; clear HB; have HO_7 := n0_; have HO_12 := n1_; have HO312 := n2_; have HO315 := n3_; have HB := n4_; clear n0_ n1_ n2_ n3_ n4_; (try clear hb); (try clear hb2); (try clear hk); (try clear hi))); try go_wp2_with (first | (go_at_call 17; (with_reducible refine (chasekeep1_privileges.calls k2  true _ ?side1 A59.out).mono ?_); (case side1 => exact Wd.below HGl.out (by repeat (first | (with_reducible first | exact HB.out | apply below_alloc | apply pw_below_drewN | apply below_drew1) | exact HB.out))); rintro e w67 ⟨rfl, hb⟩; have n0_ := Aside0.mk (Kd.R_below (by (with_reducible repeat (first | apply Kd.R_alloc | apply Kd.R_drewN | apply Kd.R_drew)); exact HO_7.out) hb); have n1_ := Aside0.mk (Kd.R_below (by (with_reducible repeat (first | apply Kd.R_alloc | apply Kd.R_drewN | apply Kd.R_drew)); exact HO_12.out) hb); have n2_ := Aside0.mk (Kd.R_below (by (with_reducible repeat (first | apply Kd.R_alloc | apply Kd.R_drewN | apply Kd.R_drew)); exact HO312.out) hb); have n3_ := Aside0.mk (Kd.R_below (by (with_reducible repeat (first | apply Kd.R_alloc | apply Kd.R_drewN | apply Kd.R_drew)); exact HO315.out) hb); have n4_ := Aside0.mk (below_step (by repeat (first | (with_reducible first | exact HB.out | apply below_alloc | apply pw_below_drewN | apply below_drew1) | exact HB.out)) hb); clear HO_7; clear HO_12; clear HO312; clear HO315; clear HB; have HO_7 := n0_; have HO_12 := n1_; have HO312 := n2_; have HO315 := n3_; have HB := n4_; clear n0_ n1_ n2_ n3_ n4_; (try clear hb); (try clear hb2); (try clear hk); (try clear hi))))
           go_meet
           case rel => exact ⟨_, (false), (by first | rfl | (simp; done) | (simp [*]; done)), H', ⟨by have := HJ12.out; have := HK2.out; first | omega | exact Nat.le_refl _⟩, ⟨by repeat (first | (with_reducible first | exact HB.out | apply below_alloc | apply pw_below_drewN | apply below_drew1) | exact HB.out)⟩⟩
         ·replace c60 := Bool.eq_false_iff.mpr c60
          subst c60
          have H1 : (chasekeep1_CoveredIsHidden.j3 k2 false) = some r := by rw [if_neg (show ¬ (false = true) by decide)] at H; exact H
          clear H
          have H := H1
          clear H1
          have H' := Aside0.mk H
          clear H
          go_wp2_with (first | (go_at_call 17; (with_reducible refine (chasekeep1_privileges.calls k2  false _ ?side1 A59.out).mono ?_); (case side1 => exact Wd.below HGl.out (by repeat (first | (with_reducible first | exact HB.out | apply below_alloc | apply pw_below_drewN | apply below_drew1) | exact HB.out))); rintro e w68 ⟨rfl, hb⟩; have n0_ := Aside0.mk (Kd.R_below (by (with_reducible repeat (first | apply Kd.R_alloc | apply Kd.R_drewN | apply Kd.R_drew)); exact HO_7.out) hb); have n1_ := Aside0.mk (Kd.R_below (by (with_reducible repeat (first | apply Kd.R_alloc | apply Kd.R_drewN | apply Kd.R_drew)); exact HO_12.out) hb); have n2_ := Aside0.mk (Kd.R_below (by (with_reducible repeat (first | apply Kd.R_alloc | apply Kd.R_drewN | apply Kd.R_drew)); exact HO312.out) hb); have n3_ := Aside0.mk (Kd.R_below (by (with_reducible repeat (first | apply Kd.R_alloc | apply Kd.R_drewN | apply Kd.R_drew)); exact HO315.out) hb); have n4_ := Aside0.mk (below_step (by repeat (first | (with_reducible first | exact HB.out | apply below_alloc | apply pw_below_drewN | apply below_drew1) | exact HB.out)) hb); clear HO_7; clear HO_12; clear HO312; clear HO315; clear HB; have HO_7 := n0_; have HO_12 := n1_; have HO312 := n2_; have HO315 := n3_; have HB := n4_; clear n0_ n1_ n2_ n3_ n4_; (try clear hb); (try clear hb2); (try clear hk); (try clear hi)))
          repeat (go_quiet (first | (go_at_call 17; (with_reducible refine (chasekeep1_privileges.calls k2  false _ ?side1 A59.out).mono ?_); (case side1 => exact Wd.below HGl.out (by repeat (first | (with_reducible first | exact HB.out | apply below_alloc | apply pw_below_drewN | apply below_drew1) | exact HB.out))); rintro e w68 ⟨rfl, hb⟩; have n0_ := Aside0.mk (Kd.R_below (by (with_reducible repeat (first | apply Kd.R_alloc | apply Kd.R_drewN | apply Kd.R_drew)); exact HO_7.out) hb); have n1_ := Aside0.mk (Kd.R_below (by (with_reducible repeat (first | apply Kd.R_alloc | apply Kd.R_drewN | apply Kd.R_drew)); exact HO_12.out) hb); have n2_ := Aside0.mk (Kd.R_below (by (with_reducible repeat (first | apply Kd.R_alloc | apply Kd.R_drewN | apply Kd.R_drew)); exact HO312.out) hb); have n3_ := Aside0.mk (Kd.R_below (by (with_reducible repeat (first | apply Kd.R_alloc | apply Kd.R_drewN | apply Kd.R_drew)); exact HO315.out) hb); have n4_ := Aside0.mk (below_step (by repeat (first | (with_reducible first | exact HB.out | apply below_alloc | apply pw_below_drewN | apply below_drew1) | exact HB.out)) hb); clear HO_7; clear HO_12; clear HO312; clear HO315; clear HB; have HO_7 := n0_; have HO_12 := n1_; have HO312 := n2_; have HO315 := n3_; have HB := n4_; clear n0_ n1_ n2_ n3_ n4_; (try clear hb); (try clear hb2); (try clear hk); (try clear hi))); try go_wp2_with (first | (go_at_call 17; (with_reducible refine (chasekeep1_privileges.calls k2  false _ ?side1 A59.out).mono ?_); (case side1 => exact Wd.below HGl.out (by repeat (first | (with_reducible first | exact HB.out | apply below_alloc | apply pw_below_drewN | apply below_drew1) | exact HB.out))); rintro e w68 ⟨rfl, hb⟩; have n0_ := Aside0.mk (Kd.R_below (by (with_reducible repeat (first | apply Kd.R_alloc | apply Kd.R_drewN | apply Kd.R_drew)); exact HO_7.out) hb); have n1_ := Aside0.mk (Kd.R_below (by (with_reducible repeat (first | apply Kd.R_alloc | apply Kd.R_drewN | apply Kd.R_drew)); exact HO_12.out) hb); have n2_ := Aside0.mk (Kd.R_below (by (with_reducible repeat (first | apply Kd.R_alloc | apply Kd.R_drewN | apply Kd.R_drew)); exact HO312.out) hb); have n3_ := Aside0.mk (Kd.R_below (by (with_reducible repeat (first | apply Kd.R_alloc | apply Kd.R_drewN | apply Kd.R_drew)); exact HO315.out) hb); have n4_ := Aside0.mk (below_step (by repeat (first | (with_reducible first | exact HB.out | apply below_alloc | apply pw_below_drewN | apply below_drew1) | exact HB.out)) hb); clear HO_7; clear HO_12; clear HO312; clear HO315; clear HB; have HO_7 := n0_; have HO_12 := n1_; have HO312 := n2_; have HO315 := n3_; have HB := n4_; clear n0_ n1_ n2_ n3_ n4_; (try clear hb); (try clear hb2); (try clear hk); (try clear hi))))
          go_meet
          case rel => exact ⟨_, (false), (by first | rfl | (simp; done) | (simp [*]; done)), H', ⟨by have := HJ12.out; have := HK2.out; first | omega | exact Nat.le_refl _⟩, ⟨by repeat (first | (with_reducible first | exact HB.out | apply below_alloc | apply pw_below_drewN | apply below_drew1) | exact HB.out)⟩⟩
        case rest =>
         clear HC55
         try clear p1
         try clear c2
         try clear p2
         try clear c3
         try clear p3
         try clear q3
         try clear hx3
         try clear c4
         try clear c4b0
         try clear c4b1
         try clear p4
         try clear q4
         try clear hx4
         try clear c5
         try clear p5
         try clear q5
         try clear hx5
         try clear c6
         try clear p6
         try clear c7
         try clear c7b0
         try clear c26
         try clear c26b0
         try clear c26b1
         try clear c27
         try clear c27b0
         try clear c27b1
         try clear c28
         try clear c28b0
         try clear c28b1
         try clear c29
         try clear c29b0
         try clear c29b1
         try clear c30
         try clear c30b0
         try clear c30b1
         try clear c31
         try clear c32
         try clear c32b0
         try clear c36
         try clear c37
         try clear c37b0
         try clear c38
         try clear c38b0
         try clear p39
         try clear q39
         try clear hx39
         try clear c40
         try clear c40b0
         try clear c40b1
         try clear p41
         try clear q41
         try clear hx41
         try clear c42
         try clear c42b0
         try clear c42b1
         try clear p43
         try clear q43
         try clear hx43
         try clear c44
         try clear c44b0
         try clear c44b1
         try clear c45
         try clear c45b0
         try clear c46
         try clear c46b0
         try clear p47
         try clear q47
         try clear hx47
         try clear c48
         try clear c48b0
         try clear c49
         try clear c49b0
         try clear p50
         try clear q50
         try clear hx50
         try clear p51
         try clear q51
         try clear hx51
         try clear c52
         try clear c60
         try clear c61
         try clear c61b0
         try clear c61b1
         try clear c62
         try clear c62b0
         try clear c62b1
         try clear p64
         try clear p1
         try clear p2
         try clear p3
         try clear p39
         try clear p4
         try clear p41
         try clear p43
         try clear p47
         try clear p5
         try clear p50
         try clear p51
         try clear q3
         try clear q39
         try clear q4
         try clear q41
         try clear q43
         try clear q47
         try clear q5
         try clear q50
         try clear q51
         obtain ⟨kq, x2_54, rfl, HA, HJ54, HB⟩ := hcut
         cases kq with
         | zero => exact absurd HA.out (by simp [chasekeep1_CoveredIsHidden.j3])
         | succ kj54 =>
          have H := HA.out
          clear HA
          simp only [chasekeep1_CoveredIsHidden.j3] at H
          obtain rfl := Option.some.inj H
          go_wp2
          repeat (go_quiet (fail); try go_wp2)
          go_ret
          exact ⟨by first | rfl | (simp [errW_none, errW_some] <;> rfl) | (simp only [← hji5]; first | rfl | (simp [errW_none, errW_some] <;> rfl)) | (simp [*, errW_none, errW_some] <;> rfl), by repeat (first | (with_reducible first | exact HB.out | apply below_alloc | apply pw_below_drewN | apply below_drew1) | exact HB.out)⟩
 ·rw [if_neg c4] at H
  have c4b0 : (t288 == 0) = false := beq_eq_false_iff_ne.mpr c4
  have c4b1 : (t288 != 0) = true := bne_iff_ne.mpr c4
  replace H := Option.bind_eq_some_iff.mp H
  obtain ⟨t289, A690, H⟩ := H
  replace H : (some t289) = some r := H
  have A69 := Aside0.mk A690
  clear A690
  obtain rfl := Option.some.inj H
  go_enter Tryd.func4, Tryd.ntmps4
  go_wp2_with (first | ((with_reducible refine gate_dst (N := 24) rfl ?_); (try (refine gate_guard (by rfl) ?_; dsimp only)); refine box_event ?hg (N := 24) ?hd (cs := #[.slice A0 l0.length c0, .int .i64 0]) (t := 25) ?hr ?_; (case hd => rfl); (case hg => rfl); (case hr => first | (go_simp; done) | (go_simp; rfl)); intro gb285 hg w70 hbox hb; have n0_ := Aside0.mk (below_step (by repeat (first | (with_reducible first | exact HB.out | apply below_alloc | apply pw_below_drewN | apply below_drew1) | exact HB.out)) hb); have n1_ := Aside0.mk ((⟨_, _, hbox, (by rw [hg]; exact (below_size (by repeat (first | (with_reducible first | exact HB.out | apply below_alloc | apply pw_below_drewN | apply below_drew1) | exact HB.out)))), HR0.out⟩ : IsS25 w _ gb285 l0 0)); clear HB; have HB := n0_; have HI285 := n1_; clear n0_ n1_; clear hb hbox hg) | (go_at_call 15; (with_reducible refine (chasemake_Stream_Memo.calls k gb285 l0 0 t286 t287 w _ ?side1 ?side2 A2.out).mono ?_); (case side1 => repeat (first | (with_reducible first | exact HI285.out | apply IsS25.alloc | apply IsS25.drewN | apply IsS25.drew | apply IsS25.set_1) | exact HI285.out)); (case side2 => repeat (first | (with_reducible first | exact HB.out | apply below_alloc | apply pw_below_drewN | apply below_drew1 | refine below_set ?_ (IsS25.ge HI285.out)) | exact HB.out)); rintro e w71 ⟨rfl, hi, hb, hk⟩; have n0_ := Aside0.mk (hb); have n1_ := Aside0.mk (hi); clear HB; clear HI285; have HB := n0_; have HI285 := n1_; clear n0_ n1_; (try clear hb); (try clear hb2); (try clear hk); (try clear hi)) | (go_at_call 16; (with_reducible refine (chaseref1_BodyFault.calls t286 t288 _ ?side1 A3.out).mono ?_); (case side1 => exact Wd.below HGl.out (by repeat (first | (with_reducible first | exact HB.out | apply below_alloc | apply pw_below_drewN | apply below_drew1 | refine below_set ?_ (IsS25.ge HI285.out)) | exact HB.out))); rintro e w72 ⟨rfl, hb⟩; have n0_ := Aside0.mk (IsS25.below (by repeat (first | (with_reducible first | exact HI285.out | apply IsS25.alloc | apply IsS25.drewN | apply IsS25.drew | apply IsS25.set_1) | exact HI285.out)) hb); have n1_ := Aside0.mk (below_step (by repeat (first | (with_reducible first | exact HB.out | apply below_alloc | apply pw_below_drewN | apply below_drew1 | refine below_set ?_ (IsS25.ge HI285.out)) | exact HB.out)) hb); clear HI285; clear HB; have HI285 := n0_; have HB := n1_; clear n0_ n1_; (try clear hb); (try clear hb2); (try clear hk); (try clear hi)) | (go_at_call 17; (with_reducible refine (chasekeep1_privileges.calls k  t289 _ ?side1 A69.out).mono ?_); (case side1 => exact Wd.below HGl.out (by repeat (first | (with_reducible first | exact HB.out | apply below_alloc | apply pw_below_drewN | apply below_drew1 | refine below_set ?_ (IsS25.ge HI285.out)) | exact HB.out))); rintro e w73 ⟨rfl, hb⟩; have n0_ := Aside0.mk (IsS25.below (by repeat (first | (with_reducible first | exact HI285.out | apply IsS25.alloc | apply IsS25.drewN | apply IsS25.drew | apply IsS25.set_1) | exact HI285.out)) hb); have n1_ := Aside0.mk (below_step (by repeat (first | (with_reducible first | exact HB.out | apply below_alloc | apply pw_below_drewN | apply below_drew1 | refine below_set ?_ (IsS25.ge HI285.out)) | exact HB.out)) hb); clear HI285; clear HB; have HI285 := n0_; have HB := n1_; clear n0_ n1_; (try clear hb); (try clear hb2); (try clear hk); (try clear hi)))
  repeat (go_quiet (first | ((with_reducible refine gate_dst (N := 24) rfl ?_); (try (refine gate_guard (by rfl) ?_; dsimp only)); refine box_event ?hg (N := 24) ?hd (cs := #[.slice A0 l0.length c0, .int .i64 0]) (t := 25) ?hr ?_; (case hd => rfl); (case hg => rfl); (case hr => first | (go_simp; done) | (go_simp; rfl)); intro gb285 hg w70 hbox hb; have n0_ := Aside0.mk (below_step (by repeat (first | (with_reducible first | exact HB.out | apply below_alloc | apply pw_below_drewN | apply below_drew1) | exact HB.out)) hb); have n1_ := Aside0.mk ((⟨_, _, hbox, (by rw [hg]; exact (below_size (by repeat (first | (with_reducible first | exact HB.out | apply below_alloc | apply pw_below_drewN | apply below_drew1) | exact HB.out)))), HR0.out⟩ : IsS25 w _ gb285 l0 0)); clear HB; have HB := n0_; have HI285 := n1_; clear n0_ n1_; clear hb hbox hg) | (go_at_call 15; (with_reducible refine (chasemake_Stream_Memo.calls k gb285 l0 0 t286 t287 w _ ?side1 ?side2 A2.out).mono ?_); (case side1 => repeat (first | (with_reducible first | exact HI285.out | apply IsS25.alloc | apply IsS25.drewN | apply IsS25.drew | apply IsS25.set_1) | exact HI285.out)); (case side2 => repeat (first | (with_reducible first | exact HB.out | apply below_alloc | apply pw_below_drewN | apply below_drew1 | refine below_set ?_ (IsS25.ge HI285.out)) | exact HB.out)); rintro e w71 ⟨rfl, hi, hb, hk⟩; have n0_ := Aside0.mk (hb); have n1_ := Aside0.mk (hi); clear HB; clear HI285; have HB := n0_; have HI285 := n1_; clear n0_ n1_; (try clear hb); (try clear hb2); (try clear hk); (try clear hi)) | (go_at_call 16; (with_reducible refine (chaseref1_BodyFault.calls t286 t288 _ ?side1 A3.out).mono ?_); (case side1 => exact Wd.below HGl.out (by repeat (first | (with_reducible first | exact HB.out | apply below_alloc | apply pw_below_drewN | apply below_drew1 | refine below_set ?_ (IsS25.ge HI285.out)) | exact HB.out))); rintro e w72 ⟨rfl, hb⟩; have n0_ := Aside0.mk (IsS25.below (by repeat (first | (with_reducible first | exact HI285.out | apply IsS25.alloc | apply IsS25.drewN | apply IsS25.drew | apply IsS25.set_1) | exact HI285.out)) hb); have n1_ := Aside0.mk (below_step (by repeat (first | (with_reducible first | exact HB.out | apply below_alloc | apply pw_below_drewN | apply below_drew1 | refine below_set ?_ (IsS25.ge HI285.out)) | exact HB.out)) hb); clear HI285; clear HB; have HI285 := n0_; have HB := n1_; clear n0_ n1_; (try clear hb); (try clear hb2); (try clear hk); (try clear hi)) | (go_at_call 17; (with_reducible refine (chasekeep1_privileges.calls k  t289 _ ?side1 A69.out).mono ?_); (case side1 => exact Wd.below HGl.out (by repeat (first | (with_reducible first | exact HB.out | apply below_alloc | apply pw_below_drewN | apply below_drew1 | refine below_set ?_ (IsS25.ge HI285.out)) | exact HB.out))); rintro e w73 ⟨rfl, hb⟩; have n0_ := Aside0.mk (IsS25.below (by repeat (first | (with_reducible first | exact HI285.out | apply IsS25.alloc | apply IsS25.drewN | apply IsS25.drew | apply IsS25.set_1) | exact HI285.out)) hb); have n1_ := Aside0.mk (below_step (by repeat (first | (with_reducible first | exact HB.out | apply below_alloc | apply pw_below_drewN | apply below_drew1 | refine below_set ?_ (IsS25.ge HI285.out)) | exact HB.out)) hb); clear HI285; clear HB; have HI285 := n0_; have HB := n1_; clear n0_ n1_; (try clear hb); (try clear hb2); (try clear hk); (try clear hi))); try go_wp2_with (first | ((with_reducible refine gate_dst (N := 24) rfl ?_); (try (refine gate_guard (by rfl) ?_; dsimp only)); refine box_event ?hg (N := 24) ?hd (cs := #[.slice A0 l0.length c0, .int .i64 0]) (t := 25) ?hr ?_; (case hd => rfl); (case hg => rfl); (case hr => first | (go_simp; done) | (go_simp; rfl)); intro gb285 hg w70 hbox hb; have n0_ := Aside0.mk (below_step (by repeat (first | (with_reducible first | exact HB.out | apply below_alloc | apply pw_below_drewN | apply below_drew1) | exact HB.out)) hb); have n1_ := Aside0.mk ((⟨_, _, hbox, (by rw [hg]; exact (below_size (by repeat (first | (with_reducible first | exact HB.out | apply below_alloc | apply pw_below_drewN | apply below_drew1) | exact HB.out)))), HR0.out⟩ : IsS25 w _ gb285 l0 0)); clear HB; have HB := n0_; have HI285 := n1_; clear n0_ n1_; clear hb hbox hg) | (go_at_call 15; (with_reducible refine (chasemake_Stream_Memo.calls k gb285 l0 0 t286 t287 w _ ?side1 ?side2 A2.out).mono ?_); (case side1 => repeat (first | (with_reducible first | exact HI285.out | apply IsS25.alloc | apply IsS25.drewN | apply IsS25.drew | apply IsS25.set_1) | exact HI285.out)); (case side2 => repeat (first | (with_reducible first | exact HB.out | apply below_alloc | apply pw_below_drewN | apply below_drew1 | refine below_set ?_ (IsS25.ge HI285.out)) | exact HB.out)); rintro e w71 ⟨rfl, hi, hb, hk⟩; have n0_ := Aside0.mk (hb); have n1_ := Aside0.mk (hi); clear HB; clear HI285; have HB := n0_; have HI285 := n1_; clear n0_ n1_; (try clear hb); (try clear hb2); (try clear hk); (try clear hi)) | (go_at_call 16; (with_reducible refine (chaseref1_BodyFault.calls t286 t288 _ ?side1 A3.out).mono ?_); (case side1 => exact Wd.below HGl.out (by repeat (first | (with_reducible first | exact HB.out | apply below_alloc | apply pw_below_drewN | apply below_drew1 | refine below_set ?_ (IsS25.ge HI285.out)) | exact HB.out))); rintro e w72 ⟨rfl, hb⟩; have n0_ := Aside0.mk (IsS25.below (by repeat (first | (with_reducible first | exact HI285.out | apply IsS25.alloc | apply IsS25.drewN | apply IsS25.drew | apply IsS25.set_1) | exact HI285.out)) hb); have n1_ := Aside0.mk (below_step (by repeat (first | (with_reducible first | exact HB.out | apply below_alloc | apply pw_below_drewN | apply below_drew1 | refine below_set ?_ (IsS25.ge HI285.out)) | exact HB.out)) hb); clear HI285; clear HB; have HI285 := n0_; have HB := n1_; clear n0_ n1_; (try clear hb); (try clear hb2); (try clear hk); (try clear hi)) | (go_at_call 17; (with_reducible refine (chasekeep1_privileges.calls k  t289 _ ?side1 A69.out).mono ?_); (case side1 => exact Wd.below HGl.out (by repeat (first | (with_reducible first | exact HB.out | apply below_alloc | apply pw_below_drewN | apply below_drew1 | refine below_set ?_ (IsS25.ge HI285.out)) | exact HB.out))); rintro e w73 ⟨rfl, hb⟩; have n0_ := Aside0.mk (IsS25.below (by repeat (first | (with_reducible first | exact HI285.out | apply IsS25.alloc | apply IsS25.drewN | apply IsS25.drew | apply IsS25.set_1) | exact HI285.out)) hb); have n1_ := Aside0.mk (below_step (by repeat (first | (with_reducible first | exact HB.out | apply below_alloc | apply pw_below_drewN | apply below_drew1 | refine below_set ?_ (IsS25.ge HI285.out)) | exact HB.out)) hb); clear HI285; clear HB; have HI285 := n0_; have HB := n1_; clear n0_ n1_; (try clear hb); (try clear hb2); (try clear hk); (try clear hi))))
  go_ret
  exact ⟨by first | rfl | (simp [errW_none, errW_some] <;> rfl) | (simp [*, errW_none, errW_some] <;> rfl), by repeat (first | (with_reducible first | exact HB.out | apply below_alloc | apply pw_below_drewN | apply below_drew1 | refine below_set ?_ (IsS25.ge HI285.out)) | exact HB.out)⟩
def chasekeep1_CoveredIsHidden.Pure : Prop := ∀ (l0 : List Int), l0.length ≤ maxLen → l0.length * 8 ≤ 140737488351232 → (∀ x ∈ l0, (Lit.int .i64 x).wf = true) → ∃ k, chasekeep1_CoveredIsHidden.f k l0 = some true
theorem chasekeep1_CoveredIsHidden.walk (P : chasekeep1_CoveredIsHidden.Pure) (a0 : Option Addr) (len0 cap0 : Nat) (z0 : List Int) (w : World) (w0 : (a0 = none ∧ len0 = 0 ∧ cap0 = 0 ∧ z0 = []) ∨ ∃ x, a0 = some x ∧ len0 ≤ cap0 ∧ cap0 ≤ maxLen ∧ z0.length = cap0 ∧ (∀ i, i < z0.length → w.cell? (x.add i) = some (.int .i64 (z0.getD i 0))) ∧ ∀ n ∈ z0, (Lit.int .i64 n).wf = true) (y0 : len0 * 8 ≤ 140737488351232) (hGl : Wd w) :
  Calls Tryd.prog 4 #[.slice a0 len0 cap0] w fun e w' => e = .returned (.bool true) ∧ Below w.heap.size w w' := by
 obtain ⟨l0, rfl, hr0, hm0, hw0, hc0⟩ := ReadsInt.ofRowC w0
 obtain ⟨k, h⟩ := P l0 hm0 y0 hw0
 refine (chasekeep1_CoveredIsHidden.calls k _ _ l0 true w (Kd.C_of_reads (d := (0 : Int)) (h1 := fun _ => rfl) hr0) hc0 hGl h).mono ?_
 rintro e w' ⟨rfl, hd⟩
 exact ⟨rfl, hd⟩
end Go.Proofs.YtolcpmdojlbhcaaDoor.Pc
