/- Printed by a program of this session: functions of the law and their walks. -/
import Derived.Test.YtlokmliannklaaaQP0
import Derived.Test.YtlokmliannklaaaQPrint3
import Derived.Test.YtlokmliannklaaaQPrint4
import Derived.Test.YtlokmliannklaaaQSkd
import Derived.Test.YtlokmliannklaaaQFitted
import Derived.Test.YtlokmliannklaaaQPrint14d
import Derived.Test.YtlokmliannklaaaQW14
section
namespace Go.Proofs.Ytlokmliannklaaa.Print
open Go.RowKit Go.Proofs.YtlokmliannklaaaW.PrintWords Go.Proofs.YtlokmliannklaaaW.PrintLast Go.Proofs.YtlokmliannklaaaW.PrintMore
attribute [local go_sem] max2_int min2_int max_two min_two max_three min_three max_four min_four   -- for this text's walks alone
set_option linter.unusedVariables false
set_option linter.unusedSimpArgs false

set_option maxHeartbeats 8000000 in
set_option maxRecDepth 100000 in
theorem pacemakerlaw10_SlopeTurns_calls_p4  : (pacemakerlaw10_SlopeTurns_calls_skel ).2.2.2.2.1 := by
  intro k A0 c0 l0 w hu29 hu36 HR0 HC0 t349 t350 t351 t352 t353 t354 t355 t356 t357 t358 t359 t360 t361 t362 t363 t364 A2 z0_ w4 gb365 w5 z1_ z2_ GW365 GE365 wc u9 u10 u11 u12 u13 u14 u15 u16 u17 u18 u19 u21 z3_ z4_ z5_ z6_ z7_ z8_ z9_ z10_ z11_ z12_ z13_ z14_ z15_ z16_ z17_ z18_ z19_ z20_ z21_ z22_ z23_ u43 u44 u45 u46 u47 u48 u49 u50 u51 u52 u53 u54 u55 u56 u57 u58 u59 u60 u61 u62 u63 u64 u65 u66 u67 u68 u69 u70 u71 u72 u73 z24_ z25_ kj2 HJ2 z26_ z27_ wr u5 u22 u23 u24 u25 u26 u27 u28 u29 u30 u31 u32 u33 u34 u35 u36 u37 u38 u39 u40 u41 u42 z28_ z29_ z30_ x5_2 x6_2 HO_5 BK365 HB k2 z31_ HK2 H c11
  rw [if_neg c11] at H
  have c11b0 : decide (x6_2 < (l0.length : Int)) = false := decide_eq_false c11
  clear c11
  replace H := Option.bind_eq_some_iff.mp H
  obtain ⟨⟨t372, t373, t374, t375, t376, t377, t378, t379, t380, t381, t382, t383, t384, t385, t386, t387⟩, A160, H⟩ := H
  replace H : ((pacemakerlaw10_fitted.f).bind fun t389 => (if t389 = true then (if t387 = true then ((slope_Grade.f k2 t372 t373 t374 t375 t376 t377 t378 t379 t380 t381 t382 t383 t384 t385 t386).bind fun t390 => ((slope_Grade.f k2 t349 t350 t351 t352 t353 t354 t355 t356 t357 t358 t359 t360 t361 t362 t363).bind fun t391 => (if t390 = (wrap64 (-t391)) then ((slope_Mean.f k2 t372 t373 t374 t375 t376 t377 t378 t379 t380 t381 t382 t383 t384 t385 t386).bind fun t392 => ((slope_Mean.f k2 t349 t350 t351 t352 t353 t354 t355 t356 t357 t358 t359 t360 t361 t362 t363).bind fun t393 => (if t392 = t393 then ((slope_Dev.f k2 t372 t373 t374 t375 t376 t377 t378 t379 t380 t381 t382 t383 t384 t385 t386).bind fun t394 => ((slope_Dev.f k2 t349 t350 t351 t352 t353 t354 t355 t356 t357 t358 t359 t360 t361 t362 t363).bind fun t395 => (some (t394 == t395)))) else (some false)))) else (some false)))) else (some false)) else (some false))) = some true := H
  have A16 := Aside0.mk A160
  clear A160
  replace H := Option.bind_eq_some_iff.mp H
  obtain ⟨t389, A170, H⟩ := H
  replace H : (if t389 = true then (if t387 = true then ((slope_Grade.f k2 t372 t373 t374 t375 t376 t377 t378 t379 t380 t381 t382 t383 t384 t385 t386).bind fun t390 => ((slope_Grade.f k2 t349 t350 t351 t352 t353 t354 t355 t356 t357 t358 t359 t360 t361 t362 t363).bind fun t391 => (if t390 = (wrap64 (-t391)) then ((slope_Mean.f k2 t372 t373 t374 t375 t376 t377 t378 t379 t380 t381 t382 t383 t384 t385 t386).bind fun t392 => ((slope_Mean.f k2 t349 t350 t351 t352 t353 t354 t355 t356 t357 t358 t359 t360 t361 t362 t363).bind fun t393 => (if t392 = t393 then ((slope_Dev.f k2 t372 t373 t374 t375 t376 t377 t378 t379 t380 t381 t382 t383 t384 t385 t386).bind fun t394 => ((slope_Dev.f k2 t349 t350 t351 t352 t353 t354 t355 t356 t357 t358 t359 t360 t361 t362 t363).bind fun t395 => (some (t394 == t395)))) else (some false)))) else (some false)))) else (some false)) else (some false)) = some true := H
  have A17 := Aside0.mk A170
  clear A170
  by_cases c18 : t389 = true
  · subst c18
    have H1 : (if t387 = true then ((slope_Grade.f k2 t372 t373 t374 t375 t376 t377 t378 t379 t380 t381 t382 t383 t384 t385 t386).bind fun t390 => ((slope_Grade.f k2 t349 t350 t351 t352 t353 t354 t355 t356 t357 t358 t359 t360 t361 t362 t363).bind fun t391 => (if t390 = (wrap64 (-t391)) then ((slope_Mean.f k2 t372 t373 t374 t375 t376 t377 t378 t379 t380 t381 t382 t383 t384 t385 t386).bind fun t392 => ((slope_Mean.f k2 t349 t350 t351 t352 t353 t354 t355 t356 t357 t358 t359 t360 t361 t362 t363).bind fun t393 => (if t392 = t393 then ((slope_Dev.f k2 t372 t373 t374 t375 t376 t377 t378 t379 t380 t381 t382 t383 t384 t385 t386).bind fun t394 => ((slope_Dev.f k2 t349 t350 t351 t352 t353 t354 t355 t356 t357 t358 t359 t360 t361 t362 t363).bind fun t395 => (some (t394 == t395)))) else (some false)))) else (some false)))) else (some false)) = some true := by rw [if_pos rfl] at H; exact H
    clear H
    have H := H1
    clear H1
    by_cases c19 : t387 = true
    · subst c19
      have H1 : ((slope_Grade.f k2 t372 t373 t374 t375 t376 t377 t378 t379 t380 t381 t382 t383 t384 t385 t386).bind fun t390 => ((slope_Grade.f k2 t349 t350 t351 t352 t353 t354 t355 t356 t357 t358 t359 t360 t361 t362 t363).bind fun t391 => (if t390 = (wrap64 (-t391)) then ((slope_Mean.f k2 t372 t373 t374 t375 t376 t377 t378 t379 t380 t381 t382 t383 t384 t385 t386).bind fun t392 => ((slope_Mean.f k2 t349 t350 t351 t352 t353 t354 t355 t356 t357 t358 t359 t360 t361 t362 t363).bind fun t393 => (if t392 = t393 then ((slope_Dev.f k2 t372 t373 t374 t375 t376 t377 t378 t379 t380 t381 t382 t383 t384 t385 t386).bind fun t394 => ((slope_Dev.f k2 t349 t350 t351 t352 t353 t354 t355 t356 t357 t358 t359 t360 t361 t362 t363).bind fun t395 => (some (t394 == t395)))) else (some false)))) else (some false)))) = some true := by rw [if_pos rfl] at H; exact H
      clear H
      have H := H1
      clear H1
      replace H := Option.bind_eq_some_iff.mp H
      obtain ⟨t390, A200, H⟩ := H
      replace H : ((slope_Grade.f k2 t349 t350 t351 t352 t353 t354 t355 t356 t357 t358 t359 t360 t361 t362 t363).bind fun t391 => (if t390 = (wrap64 (-t391)) then ((slope_Mean.f k2 t372 t373 t374 t375 t376 t377 t378 t379 t380 t381 t382 t383 t384 t385 t386).bind fun t392 => ((slope_Mean.f k2 t349 t350 t351 t352 t353 t354 t355 t356 t357 t358 t359 t360 t361 t362 t363).bind fun t393 => (if t392 = t393 then ((slope_Dev.f k2 t372 t373 t374 t375 t376 t377 t378 t379 t380 t381 t382 t383 t384 t385 t386).bind fun t394 => ((slope_Dev.f k2 t349 t350 t351 t352 t353 t354 t355 t356 t357 t358 t359 t360 t361 t362 t363).bind fun t395 => (some (t394 == t395)))) else (some false)))) else (some false))) = some true := H
      have A20 := Aside0.mk A200
      clear A200
      replace H := Option.bind_eq_some_iff.mp H
      obtain ⟨t391, A210, H⟩ := H
      replace H : (if t390 = (wrap64 (-t391)) then ((slope_Mean.f k2 t372 t373 t374 t375 t376 t377 t378 t379 t380 t381 t382 t383 t384 t385 t386).bind fun t392 => ((slope_Mean.f k2 t349 t350 t351 t352 t353 t354 t355 t356 t357 t358 t359 t360 t361 t362 t363).bind fun t393 => (if t392 = t393 then ((slope_Dev.f k2 t372 t373 t374 t375 t376 t377 t378 t379 t380 t381 t382 t383 t384 t385 t386).bind fun t394 => ((slope_Dev.f k2 t349 t350 t351 t352 t353 t354 t355 t356 t357 t358 t359 t360 t361 t362 t363).bind fun t395 => (some (t394 == t395)))) else (some false)))) else (some false)) = some true := H
      have A21 := Aside0.mk A210
      clear A210
      by_cases c22 : t390 = (wrap64 (-t391))
      · rw [if_pos c22] at H
        have c22b0 : (t390 == (wrap64 (-t391))) = true := beq_iff_eq.mpr c22
        have c22b1 : (t390 != (wrap64 (-t391))) = false := bne_eq_false_iff_eq.mpr c22
        clear c22
        replace H := Option.bind_eq_some_iff.mp H
        obtain ⟨t392, A230, H⟩ := H
        replace H : ((slope_Mean.f k2 t349 t350 t351 t352 t353 t354 t355 t356 t357 t358 t359 t360 t361 t362 t363).bind fun t393 => (if t392 = t393 then ((slope_Dev.f k2 t372 t373 t374 t375 t376 t377 t378 t379 t380 t381 t382 t383 t384 t385 t386).bind fun t394 => ((slope_Dev.f k2 t349 t350 t351 t352 t353 t354 t355 t356 t357 t358 t359 t360 t361 t362 t363).bind fun t395 => (some (t394 == t395)))) else (some false))) = some true := H
        have A23 := Aside0.mk A230
        clear A230
        replace H := Option.bind_eq_some_iff.mp H
        obtain ⟨t393, A240, H⟩ := H
        replace H : (if t392 = t393 then ((slope_Dev.f k2 t372 t373 t374 t375 t376 t377 t378 t379 t380 t381 t382 t383 t384 t385 t386).bind fun t394 => ((slope_Dev.f k2 t349 t350 t351 t352 t353 t354 t355 t356 t357 t358 t359 t360 t361 t362 t363).bind fun t395 => (some (t394 == t395)))) else (some false)) = some true := H
        have A24 := Aside0.mk A240
        clear A240
        by_cases c25 : t392 = t393
        · rw [if_pos c25] at H
          have c25b0 : (t392 == t393) = true := beq_iff_eq.mpr c25
          have c25b1 : (t392 != t393) = false := bne_eq_false_iff_eq.mpr c25
          clear c25
          replace H := Option.bind_eq_some_iff.mp H
          obtain ⟨t394, A260, H⟩ := H
          replace H : ((slope_Dev.f k2 t349 t350 t351 t352 t353 t354 t355 t356 t357 t358 t359 t360 t361 t362 t363).bind fun t395 => (some (t394 == t395))) = some true := H
          have A26 := Aside0.mk A260
          clear A260
          replace H := Option.bind_eq_some_iff.mp H
          obtain ⟨t395, A270, H⟩ := H
          replace H : (some (t394 == t395)) = some true := H
          have A27 := Aside0.mk A270
          clear A270
          first
            | exact absurd (Option.some.inj H) (by decide)
            | have HL_ := Aside0.mk (Option.some.inj H)
              clear H
              obtain ⟨Ao28, co28, eo28⟩ := Kd.R_slice HO_5.out
              subst eo28
              try go_wp2_with (first | ((with_reducible refine gate_callee (f := 18) rfl ?_); refine goesL_ (some 45) rfl rfl Try.func18 (by kernel_rfl) rfl #[.slice Ao28 x5_2.length co28] rfl (by (try simp only [List.map_toArray, List.map_cons, List.map_nil]); first | done | rfl | (simp only [List.length_drop, List.length_take]; rfl)) ?_; (with_reducible refine (pacemakerlaw10_sampled.calls _ _ x5_2 t372 t373 t374 t375 t376 t377 t378 t379 t380 t381 t382 t383 t384 t385 t386 true _ ?side1 ?side2 A16.out).mono ?_); (case side1 => repeat (first | exact (Kd.R_reads' HO_5.out).2.2 | (with_reducible refine Kd.C_alloc ?_ _) | (with_reducible refine Kd.C_drewN ?_ _) | (with_reducible refine Kd.C_drew ?_))); (case side2 => exact (Kd.R_reads' HO_5.out).2.1); rintro e w29 ⟨rfl, hb⟩; refine ⟨_, rfl, ?_⟩; have n0_ := Aside0.mk (Kd.R_below (by (with_reducible repeat (first | apply Kd.R_alloc | apply Kd.R_drewN | apply Kd.R_drew)); exact HO_5.out) hb); have n1_ := Aside0.mk (blk_below (g := gb365) (o := .cells #[.int .i64 t349, .int .i64 t350, .int .i64 t351, .int .i64 t352, .int .i64 t353, .int .i64 t354, .int .i64 t355, .int .i64 t356, .int .i64 t357, .int .i64 t358, .int .i64 t359, .int .i64 t360, .int .i64 t361, .int .i64 t362, .int .i64 t363] 29 (0, 0)) (by (with_reducible repeat (first | refine blk_drewN ?_ _ | refine blk_drew ?_ | refine blk_alloc ?_ _)); exact BK365.out) hb); have n2_ := Aside0.mk (below_step (by repeat (first | (with_reducible first | exact HB.out | apply below_alloc | apply pw_below_drewN | apply below_drew1 | refine below_set ?_ GE365.out) | exact HB.out)) hb); clear HO_5; clear BK365; clear HB; have HO_5 := n0_; have BK365 := n1_; have HB := n2_; clear n0_ n1_ n2_; (try clear hb); (try clear hb2); (try clear hk); (try clear hi)) | ((with_reducible refine gate_dst (N := 7) rfl ?_); refine box_event ?hg (N := 7) ?hd (cs := #[.int .i64 0, .int .i64 0, .int .i64 0, .int .i64 0, .int .i64 0, .int .i64 0, .int .i64 0, .int .i64 0, .int .i64 0, .int .i64 0, .int .i64 0, .int .i64 0, .int .i64 0, .int .i64 0, .int .i64 0]) (t := 29) ?hr ?_; (case hd => rfl); (case hg => rfl); (case hr => first | (go_simp; done) | (go_simp; rfl)); intro gb388 hg w30 hbox hb; have n0_ := Aside0.mk (Kd.R_below (by (with_reducible repeat (first | apply Kd.R_alloc | apply Kd.R_drewN | apply Kd.R_drew)); exact HO_5.out) hb); have n1_ := Aside0.mk (blk_below (g := gb365) (o := .cells #[.int .i64 t349, .int .i64 t350, .int .i64 t351, .int .i64 t352, .int .i64 t353, .int .i64 t354, .int .i64 t355, .int .i64 t356, .int .i64 t357, .int .i64 t358, .int .i64 t359, .int .i64 t360, .int .i64 t361, .int .i64 t362, .int .i64 t363] 29 (0, 0)) (by (with_reducible repeat (first | refine blk_drewN ?_ _ | refine blk_drew ?_ | refine blk_alloc ?_ _)); exact BK365.out) hb); have n2_ := Aside0.mk (below_step (by repeat (first | (with_reducible first | exact HB.out | apply below_alloc | apply pw_below_drewN | apply below_drew1 | refine below_set ?_ GE365.out) | exact HB.out)) hb); have n3_ := Aside0.mk (hbox); have n4_ := Aside0.mk ((by rw [hg]; exact (below_size (by repeat (first | (with_reducible first | exact HB.out | apply below_alloc | apply pw_below_drewN | apply below_drew1 | refine below_set ?_ GE365.out) | exact HB.out))) : w.heap.size ≤ gb388)); have n5_ := Aside0.mk ((by rw [hg]; exact (below_size (by repeat (first | (with_reducible first | exact HB.out | apply below_alloc | apply pw_below_drewN | apply below_drew1 | refine below_set ?_ GE365.out) | exact HB.out))) : w.heap.size ≤ gb388)); have n6_ := Aside0.mk ((by rw [hg]; exact Nat.ne_of_lt (blk_lt (g := gb365) (o := .cells #[.int .i64 t349, .int .i64 t350, .int .i64 t351, .int .i64 t352, .int .i64 t353, .int .i64 t354, .int .i64 t355, .int .i64 t356, .int .i64 t357, .int .i64 t358, .int .i64 t359, .int .i64 t360, .int .i64 t361, .int .i64 t362, .int .i64 t363] 29 (0, 0)) (by (with_reducible repeat (first | refine blk_drewN ?_ _ | refine blk_drew ?_ | refine blk_alloc ?_ _)); exact BK365.out)) : gb365 ≠ gb388)); have n7_ := Aside0.mk ((by rw [hg]; exact Nat.ne_of_gt (blk_lt (g := gb365) (o := .cells #[.int .i64 t349, .int .i64 t350, .int .i64 t351, .int .i64 t352, .int .i64 t353, .int .i64 t354, .int .i64 t355, .int .i64 t356, .int .i64 t357, .int .i64 t358, .int .i64 t359, .int .i64 t360, .int .i64 t361, .int .i64 t362, .int .i64 t363] 29 (0, 0)) (by (with_reducible repeat (first | refine blk_drewN ?_ _ | refine blk_drew ?_ | refine blk_alloc ?_ _)); exact BK365.out)) : gb388 ≠ gb365)); clear HO_5; clear BK365; clear HB; have HO_5 := n0_; have BK365 := n1_; have HB := n2_; have BK388 := n3_; have GW388 := n4_; have GE388 := n5_; have NB365_388 := n6_; have NB388_365 := n7_; clear n0_ n1_ n2_ n3_ n4_ n5_ n6_ n7_; clear hb hbox hg; have hnb31 := NB388_365.out; have hnc31 := NB365_388.out; have hcz32_0 : w30.cell? ⟨gb388, 0, none⟩ = some (.int .i64 0) := (blk_cell BK388.out 0).trans rfl; have hcz32_1 : w30.cell? ⟨gb388, 1, none⟩ = some (.int .i64 0) := (blk_cell BK388.out 1).trans rfl; have hcz32_2 : w30.cell? ⟨gb388, 2, none⟩ = some (.int .i64 0) := (blk_cell BK388.out 2).trans rfl; have hcz32_3 : w30.cell? ⟨gb388, 3, none⟩ = some (.int .i64 0) := (blk_cell BK388.out 3).trans rfl; have hcz32_4 : w30.cell? ⟨gb388, 4, none⟩ = some (.int .i64 0) := (blk_cell BK388.out 4).trans rfl; have hcz32_5 : w30.cell? ⟨gb388, 5, none⟩ = some (.int .i64 0) := (blk_cell BK388.out 5).trans rfl; have hcz32_6 : w30.cell? ⟨gb388, 6, none⟩ = some (.int .i64 0) := (blk_cell BK388.out 6).trans rfl; have hcz32_7 : w30.cell? ⟨gb388, 7, none⟩ = some (.int .i64 0) := (blk_cell BK388.out 7).trans rfl; have hcz32_8 : w30.cell? ⟨gb388, 8, none⟩ = some (.int .i64 0) := (blk_cell BK388.out 8).trans rfl; have hcz32_9 : w30.cell? ⟨gb388, 9, none⟩ = some (.int .i64 0) := (blk_cell BK388.out 9).trans rfl; have hcz32_10 : w30.cell? ⟨gb388, 10, none⟩ = some (.int .i64 0) := (blk_cell BK388.out 10).trans rfl; have hcz32_11 : w30.cell? ⟨gb388, 11, none⟩ = some (.int .i64 0) := (blk_cell BK388.out 11).trans rfl; have hcz32_12 : w30.cell? ⟨gb388, 12, none⟩ = some (.int .i64 0) := (blk_cell BK388.out 12).trans rfl; have hcz32_13 : w30.cell? ⟨gb388, 13, none⟩ = some (.int .i64 0) := (blk_cell BK388.out 13).trans rfl; have hcz32_14 : w30.cell? ⟨gb388, 14, none⟩ = some (.int .i64 0) := (blk_cell BK388.out 14).trans rfl; have hfz32_0 := blk_frozen BK388.out 0; have hfz32_1 := blk_frozen BK388.out 1; have hfz32_2 := blk_frozen BK388.out 2; have hfz32_3 := blk_frozen BK388.out 3; have hfz32_4 := blk_frozen BK388.out 4; have hfz32_5 := blk_frozen BK388.out 5; have hfz32_6 := blk_frozen BK388.out 6; have hfz32_7 := blk_frozen BK388.out 7; have hfz32_8 := blk_frozen BK388.out 8; have hfz32_9 := blk_frozen BK388.out 9; have hfz32_10 := blk_frozen BK388.out 10; have hfz32_11 := blk_frozen BK388.out 11; have hfz32_12 := blk_frozen BK388.out 12; have hfz32_13 := blk_frozen BK388.out 13; have hfz32_14 := blk_frozen BK388.out 14))
              have n0_ : Aside0 (Kd.R k36 36 (((((((((((((((w30.setCell ⟨gb388, 0, none⟩ (.int .i64 t372)).setCell ⟨gb388, 1, none⟩ (.int .i64 t373)).setCell ⟨gb388, 2, none⟩ (.int .i64 t374)).setCell ⟨gb388, 3, none⟩ (.int .i64 t375)).setCell ⟨gb388, 4, none⟩ (.int .i64 t376)).setCell ⟨gb388, 5, none⟩ (.int .i64 t377)).setCell ⟨gb388, 6, none⟩ (.int .i64 t378)).setCell ⟨gb388, 7, none⟩ (.int .i64 t379)).setCell ⟨gb388, 8, none⟩ (.int .i64 t380)).setCell ⟨gb388, 9, none⟩ (.int .i64 t381)).setCell ⟨gb388, 10, none⟩ (.int .i64 t382)).setCell ⟨gb388, 11, none⟩ (.int .i64 t383)).setCell ⟨gb388, 12, none⟩ (.int .i64 t384)).setCell ⟨gb388, 13, none⟩ (.int .i64 t385)).setCell ⟨gb388, 14, none⟩ (.int .i64 t386)) w.heap.size (fun _ => True) (.slice Ao28 x5_2.length co28) x5_2) := ⟨by (with_reducible repeat (first | apply Kd.R_alloc | apply Kd.R_drewN | apply Kd.R_drew)); exact Kd.R_mono (Kd.R_far (p := ⟨gb388, 14, none⟩) (Kd.R_far (p := ⟨gb388, 13, none⟩) (Kd.R_far (p := ⟨gb388, 12, none⟩) (Kd.R_far (p := ⟨gb388, 11, none⟩) (Kd.R_far (p := ⟨gb388, 10, none⟩) (Kd.R_far (p := ⟨gb388, 9, none⟩) (Kd.R_far (p := ⟨gb388, 8, none⟩) (Kd.R_far (p := ⟨gb388, 7, none⟩) (Kd.R_far (p := ⟨gb388, 6, none⟩) (Kd.R_far (p := ⟨gb388, 5, none⟩) (Kd.R_far (p := ⟨gb388, 4, none⟩) (Kd.R_far (p := ⟨gb388, 3, none⟩) (Kd.R_far (p := ⟨gb388, 2, none⟩) (Kd.R_far (p := ⟨gb388, 1, none⟩) (Kd.R_far (p := ⟨gb388, 0, none⟩) (Kd.R_types HO_5.out BK388.out (by decide)) (fun _ hk => hk.2) (.int .i64 t372)) (fun _ hk => hk.2) (.int .i64 t373)) (fun _ hk => hk.2) (.int .i64 t374)) (fun _ hk => hk.2) (.int .i64 t375)) (fun _ hk => hk.2) (.int .i64 t376)) (fun _ hk => hk.2) (.int .i64 t377)) (fun _ hk => hk.2) (.int .i64 t378)) (fun _ hk => hk.2) (.int .i64 t379)) (fun _ hk => hk.2) (.int .i64 t380)) (fun _ hk => hk.2) (.int .i64 t381)) (fun _ hk => hk.2) (.int .i64 t382)) (fun _ hk => hk.2) (.int .i64 t383)) (fun _ hk => hk.2) (.int .i64 t384)) (fun _ hk => hk.2) (.int .i64 t385)) (fun _ hk => hk.2) (.int .i64 t386)) (fun _ hk => trivial)⟩
              have n1_ : Aside0 ((((((((((((((((w30.setCell ⟨gb388, 0, none⟩ (.int .i64 t372)).setCell ⟨gb388, 1, none⟩ (.int .i64 t373)).setCell ⟨gb388, 2, none⟩ (.int .i64 t374)).setCell ⟨gb388, 3, none⟩ (.int .i64 t375)).setCell ⟨gb388, 4, none⟩ (.int .i64 t376)).setCell ⟨gb388, 5, none⟩ (.int .i64 t377)).setCell ⟨gb388, 6, none⟩ (.int .i64 t378)).setCell ⟨gb388, 7, none⟩ (.int .i64 t379)).setCell ⟨gb388, 8, none⟩ (.int .i64 t380)).setCell ⟨gb388, 9, none⟩ (.int .i64 t381)).setCell ⟨gb388, 10, none⟩ (.int .i64 t382)).setCell ⟨gb388, 11, none⟩ (.int .i64 t383)).setCell ⟨gb388, 12, none⟩ (.int .i64 t384)).setCell ⟨gb388, 13, none⟩ (.int .i64 t385)).setCell ⟨gb388, 14, none⟩ (.int .i64 t386)).heap[gb365]? = some (.cells #[.int .i64 t349, .int .i64 t350, .int .i64 t351, .int .i64 t352, .int .i64 t353, .int .i64 t354, .int .i64 t355, .int .i64 t356, .int .i64 t357, .int .i64 t358, .int .i64 t359, .int .i64 t360, .int .i64 t361, .int .i64 t362, .int .i64 t363] 29 (0, 0))) := ⟨by (with_reducible repeat (first | refine blk_drewN ?_ _ | refine blk_drew ?_ | refine blk_alloc ?_ _)); refine blk_far ?_ NB365_388.out _; (with_reducible repeat (first | refine blk_drewN ?_ _ | refine blk_drew ?_ | refine blk_alloc ?_ _)); refine blk_far ?_ NB365_388.out _; (with_reducible repeat (first | refine blk_drewN ?_ _ | refine blk_drew ?_ | refine blk_alloc ?_ _)); refine blk_far ?_ NB365_388.out _; (with_reducible repeat (first | refine blk_drewN ?_ _ | refine blk_drew ?_ | refine blk_alloc ?_ _)); refine blk_far ?_ NB365_388.out _; (with_reducible repeat (first | refine blk_drewN ?_ _ | refine blk_drew ?_ | refine blk_alloc ?_ _)); refine blk_far ?_ NB365_388.out _; (with_reducible repeat (first | refine blk_drewN ?_ _ | refine blk_drew ?_ | refine blk_alloc ?_ _)); refine blk_far ?_ NB365_388.out _; (with_reducible repeat (first | refine blk_drewN ?_ _ | refine blk_drew ?_ | refine blk_alloc ?_ _)); refine blk_far ?_ NB365_388.out _; (with_reducible repeat (first | refine blk_drewN ?_ _ | refine blk_drew ?_ | refine blk_alloc ?_ _)); refine blk_far ?_ NB365_388.out _; (with_reducible repeat (first | refine blk_drewN ?_ _ | refine blk_drew ?_ | refine blk_alloc ?_ _)); refine blk_far ?_ NB365_388.out _; (with_reducible repeat (first | refine blk_drewN ?_ _ | refine blk_drew ?_ | refine blk_alloc ?_ _)); refine blk_far ?_ NB365_388.out _; (with_reducible repeat (first | refine blk_drewN ?_ _ | refine blk_drew ?_ | refine blk_alloc ?_ _)); refine blk_far ?_ NB365_388.out _; (with_reducible repeat (first | refine blk_drewN ?_ _ | refine blk_drew ?_ | refine blk_alloc ?_ _)); refine blk_far ?_ NB365_388.out _; (with_reducible repeat (first | refine blk_drewN ?_ _ | refine blk_drew ?_ | refine blk_alloc ?_ _)); refine blk_far ?_ NB365_388.out _; (with_reducible repeat (first | refine blk_drewN ?_ _ | refine blk_drew ?_ | refine blk_alloc ?_ _)); refine blk_far ?_ NB365_388.out _; (with_reducible repeat (first | refine blk_drewN ?_ _ | refine blk_drew ?_ | refine blk_alloc ?_ _)); refine blk_far ?_ NB365_388.out _; (with_reducible repeat (first | refine blk_drewN ?_ _ | refine blk_drew ?_ | refine blk_alloc ?_ _)); exact BK365.out⟩
              have n2_ : Aside0 ((((((((((((((((w30.setCell ⟨gb388, 0, none⟩ (.int .i64 t372)).setCell ⟨gb388, 1, none⟩ (.int .i64 t373)).setCell ⟨gb388, 2, none⟩ (.int .i64 t374)).setCell ⟨gb388, 3, none⟩ (.int .i64 t375)).setCell ⟨gb388, 4, none⟩ (.int .i64 t376)).setCell ⟨gb388, 5, none⟩ (.int .i64 t377)).setCell ⟨gb388, 6, none⟩ (.int .i64 t378)).setCell ⟨gb388, 7, none⟩ (.int .i64 t379)).setCell ⟨gb388, 8, none⟩ (.int .i64 t380)).setCell ⟨gb388, 9, none⟩ (.int .i64 t381)).setCell ⟨gb388, 10, none⟩ (.int .i64 t382)).setCell ⟨gb388, 11, none⟩ (.int .i64 t383)).setCell ⟨gb388, 12, none⟩ (.int .i64 t384)).setCell ⟨gb388, 13, none⟩ (.int .i64 t385)).setCell ⟨gb388, 14, none⟩ (.int .i64 t386)).heap[gb388]? = some (.cells #[.int .i64 t372, .int .i64 t373, .int .i64 t374, .int .i64 t375, .int .i64 t376, .int .i64 t377, .int .i64 t378, .int .i64 t379, .int .i64 t380, .int .i64 t381, .int .i64 t382, .int .i64 t383, .int .i64 t384, .int .i64 t385, .int .i64 t386] 29 (0, 0))) := ⟨by (with_reducible repeat (first | refine blk_drewN ?_ _ | refine blk_drew ?_ | refine blk_alloc ?_ _)); refine blk_put (cs := #[.int .i64 t372, .int .i64 t373, .int .i64 t374, .int .i64 t375, .int .i64 t376, .int .i64 t377, .int .i64 t378, .int .i64 t379, .int .i64 t380, .int .i64 t381, .int .i64 t382, .int .i64 t383, .int .i64 t384, .int .i64 t385, .int .i64 0]) ?_ 14 _ rfl; (with_reducible repeat (first | refine blk_drewN ?_ _ | refine blk_drew ?_ | refine blk_alloc ?_ _)); refine blk_put (cs := #[.int .i64 t372, .int .i64 t373, .int .i64 t374, .int .i64 t375, .int .i64 t376, .int .i64 t377, .int .i64 t378, .int .i64 t379, .int .i64 t380, .int .i64 t381, .int .i64 t382, .int .i64 t383, .int .i64 t384, .int .i64 0, .int .i64 0]) ?_ 13 _ rfl; (with_reducible repeat (first | refine blk_drewN ?_ _ | refine blk_drew ?_ | refine blk_alloc ?_ _)); refine blk_put (cs := #[.int .i64 t372, .int .i64 t373, .int .i64 t374, .int .i64 t375, .int .i64 t376, .int .i64 t377, .int .i64 t378, .int .i64 t379, .int .i64 t380, .int .i64 t381, .int .i64 t382, .int .i64 t383, .int .i64 0, .int .i64 0, .int .i64 0]) ?_ 12 _ rfl; (with_reducible repeat (first | refine blk_drewN ?_ _ | refine blk_drew ?_ | refine blk_alloc ?_ _)); refine blk_put (cs := #[.int .i64 t372, .int .i64 t373, .int .i64 t374, .int .i64 t375, .int .i64 t376, .int .i64 t377, .int .i64 t378, .int .i64 t379, .int .i64 t380, .int .i64 t381, .int .i64 t382, .int .i64 0, .int .i64 0, .int .i64 0, .int .i64 0]) ?_ 11 _ rfl; (with_reducible repeat (first | refine blk_drewN ?_ _ | refine blk_drew ?_ | refine blk_alloc ?_ _)); refine blk_put (cs := #[.int .i64 t372, .int .i64 t373, .int .i64 t374, .int .i64 t375, .int .i64 t376, .int .i64 t377, .int .i64 t378, .int .i64 t379, .int .i64 t380, .int .i64 t381, .int .i64 0, .int .i64 0, .int .i64 0, .int .i64 0, .int .i64 0]) ?_ 10 _ rfl; (with_reducible repeat (first | refine blk_drewN ?_ _ | refine blk_drew ?_ | refine blk_alloc ?_ _)); refine blk_put (cs := #[.int .i64 t372, .int .i64 t373, .int .i64 t374, .int .i64 t375, .int .i64 t376, .int .i64 t377, .int .i64 t378, .int .i64 t379, .int .i64 t380, .int .i64 0, .int .i64 0, .int .i64 0, .int .i64 0, .int .i64 0, .int .i64 0]) ?_ 9 _ rfl; (with_reducible repeat (first | refine blk_drewN ?_ _ | refine blk_drew ?_ | refine blk_alloc ?_ _)); refine blk_put (cs := #[.int .i64 t372, .int .i64 t373, .int .i64 t374, .int .i64 t375, .int .i64 t376, .int .i64 t377, .int .i64 t378, .int .i64 t379, .int .i64 0, .int .i64 0, .int .i64 0, .int .i64 0, .int .i64 0, .int .i64 0, .int .i64 0]) ?_ 8 _ rfl; (with_reducible repeat (first | refine blk_drewN ?_ _ | refine blk_drew ?_ | refine blk_alloc ?_ _)); refine blk_put (cs := #[.int .i64 t372, .int .i64 t373, .int .i64 t374, .int .i64 t375, .int .i64 t376, .int .i64 t377, .int .i64 t378, .int .i64 0, .int .i64 0, .int .i64 0, .int .i64 0, .int .i64 0, .int .i64 0, .int .i64 0, .int .i64 0]) ?_ 7 _ rfl; (with_reducible repeat (first | refine blk_drewN ?_ _ | refine blk_drew ?_ | refine blk_alloc ?_ _)); refine blk_put (cs := #[.int .i64 t372, .int .i64 t373, .int .i64 t374, .int .i64 t375, .int .i64 t376, .int .i64 t377, .int .i64 0, .int .i64 0, .int .i64 0, .int .i64 0, .int .i64 0, .int .i64 0, .int .i64 0, .int .i64 0, .int .i64 0]) ?_ 6 _ rfl; (with_reducible repeat (first | refine blk_drewN ?_ _ | refine blk_drew ?_ | refine blk_alloc ?_ _)); refine blk_put (cs := #[.int .i64 t372, .int .i64 t373, .int .i64 t374, .int .i64 t375, .int .i64 t376, .int .i64 0, .int .i64 0, .int .i64 0, .int .i64 0, .int .i64 0, .int .i64 0, .int .i64 0, .int .i64 0, .int .i64 0, .int .i64 0]) ?_ 5 _ rfl; (with_reducible repeat (first | refine blk_drewN ?_ _ | refine blk_drew ?_ | refine blk_alloc ?_ _)); refine blk_put (cs := #[.int .i64 t372, .int .i64 t373, .int .i64 t374, .int .i64 t375, .int .i64 0, .int .i64 0, .int .i64 0, .int .i64 0, .int .i64 0, .int .i64 0, .int .i64 0, .int .i64 0, .int .i64 0, .int .i64 0, .int .i64 0]) ?_ 4 _ rfl; (with_reducible repeat (first | refine blk_drewN ?_ _ | refine blk_drew ?_ | refine blk_alloc ?_ _)); refine blk_put (cs := #[.int .i64 t372, .int .i64 t373, .int .i64 t374, .int .i64 0, .int .i64 0, .int .i64 0, .int .i64 0, .int .i64 0, .int .i64 0, .int .i64 0, .int .i64 0, .int .i64 0, .int .i64 0, .int .i64 0, .int .i64 0]) ?_ 3 _ rfl; (with_reducible repeat (first | refine blk_drewN ?_ _ | refine blk_drew ?_ | refine blk_alloc ?_ _)); refine blk_put (cs := #[.int .i64 t372, .int .i64 t373, .int .i64 0, .int .i64 0, .int .i64 0, .int .i64 0, .int .i64 0, .int .i64 0, .int .i64 0, .int .i64 0, .int .i64 0, .int .i64 0, .int .i64 0, .int .i64 0, .int .i64 0]) ?_ 2 _ rfl; (with_reducible repeat (first | refine blk_drewN ?_ _ | refine blk_drew ?_ | refine blk_alloc ?_ _)); refine blk_put (cs := #[.int .i64 t372, .int .i64 0, .int .i64 0, .int .i64 0, .int .i64 0, .int .i64 0, .int .i64 0, .int .i64 0, .int .i64 0, .int .i64 0, .int .i64 0, .int .i64 0, .int .i64 0, .int .i64 0, .int .i64 0]) ?_ 1 _ rfl; (with_reducible repeat (first | refine blk_drewN ?_ _ | refine blk_drew ?_ | refine blk_alloc ?_ _)); refine blk_put (cs := #[.int .i64 0, .int .i64 0, .int .i64 0, .int .i64 0, .int .i64 0, .int .i64 0, .int .i64 0, .int .i64 0, .int .i64 0, .int .i64 0, .int .i64 0, .int .i64 0, .int .i64 0, .int .i64 0, .int .i64 0]) ?_ 0 _ rfl; (with_reducible repeat (first | refine blk_drewN ?_ _ | refine blk_drew ?_ | refine blk_alloc ?_ _)); exact BK388.out⟩
              have n3_ : Aside0 (Below w.heap.size w (((((((((((((((w30.setCell ⟨gb388, 0, none⟩ (.int .i64 t372)).setCell ⟨gb388, 1, none⟩ (.int .i64 t373)).setCell ⟨gb388, 2, none⟩ (.int .i64 t374)).setCell ⟨gb388, 3, none⟩ (.int .i64 t375)).setCell ⟨gb388, 4, none⟩ (.int .i64 t376)).setCell ⟨gb388, 5, none⟩ (.int .i64 t377)).setCell ⟨gb388, 6, none⟩ (.int .i64 t378)).setCell ⟨gb388, 7, none⟩ (.int .i64 t379)).setCell ⟨gb388, 8, none⟩ (.int .i64 t380)).setCell ⟨gb388, 9, none⟩ (.int .i64 t381)).setCell ⟨gb388, 10, none⟩ (.int .i64 t382)).setCell ⟨gb388, 11, none⟩ (.int .i64 t383)).setCell ⟨gb388, 12, none⟩ (.int .i64 t384)).setCell ⟨gb388, 13, none⟩ (.int .i64 t385)).setCell ⟨gb388, 14, none⟩ (.int .i64 t386))) := ⟨by repeat (first | (with_reducible first | exact HB.out | apply below_alloc | apply pw_below_drewN | apply below_drew1 | refine below_set ?_ GE365.out | refine below_set ?_ GE388.out) | exact HB.out)⟩
              (try clear HO_5)
              (try clear BK365)
              (try clear BK388)
              (try clear HB)
              generalize (((((((((((((((w30.setCell ⟨gb388, 0, none⟩ (.int .i64 t372)).setCell ⟨gb388, 1, none⟩ (.int .i64 t373)).setCell ⟨gb388, 2, none⟩ (.int .i64 t374)).setCell ⟨gb388, 3, none⟩ (.int .i64 t375)).setCell ⟨gb388, 4, none⟩ (.int .i64 t376)).setCell ⟨gb388, 5, none⟩ (.int .i64 t377)).setCell ⟨gb388, 6, none⟩ (.int .i64 t378)).setCell ⟨gb388, 7, none⟩ (.int .i64 t379)).setCell ⟨gb388, 8, none⟩ (.int .i64 t380)).setCell ⟨gb388, 9, none⟩ (.int .i64 t381)).setCell ⟨gb388, 10, none⟩ (.int .i64 t382)).setCell ⟨gb388, 11, none⟩ (.int .i64 t383)).setCell ⟨gb388, 12, none⟩ (.int .i64 t384)).setCell ⟨gb388, 13, none⟩ (.int .i64 t385)).setCell ⟨gb388, 14, none⟩ (.int .i64 t386)) = w33 at n0_ n1_ n2_ n3_ ⊢
              have HO_5 := n0_
              have BK365 := n1_
              have BK388 := n2_
              have HB := n3_
              clear n0_ n1_ n2_ n3_
              have n0_ := Aside0.mk (Kd.R_drew HO_5.out)
              have n1_ := Aside0.mk (blk_drew BK365.out)
              have n2_ := Aside0.mk (blk_drew BK388.out)
              have n3_ := Aside0.mk (below_drew1 HB.out)
              clear HO_5
              clear BK365
              clear BK388
              clear HB
              have HO_5 := n0_
              have BK365 := n1_
              have BK388 := n2_
              have HB := n3_
              clear n0_ n1_ n2_ n3_
              refine start_ (n := 27) (S := fun w' => w'.cell? ⟨gb388, 0, none⟩ = some (.int .i64 t372) ∧ w'.cell? ⟨gb388, 1, none⟩ = some (.int .i64 t373) ∧ w'.cell? ⟨gb388, 2, none⟩ = some (.int .i64 t374) ∧ w'.cell? ⟨gb388, 3, none⟩ = some (.int .i64 t375) ∧ w'.cell? ⟨gb388, 4, none⟩ = some (.int .i64 t376) ∧ w'.cell? ⟨gb388, 5, none⟩ = some (.int .i64 t377) ∧ w'.cell? ⟨gb388, 6, none⟩ = some (.int .i64 t378) ∧ w'.cell? ⟨gb388, 7, none⟩ = some (.int .i64 t379) ∧ w'.cell? ⟨gb388, 8, none⟩ = some (.int .i64 t380) ∧ w'.cell? ⟨gb388, 9, none⟩ = some (.int .i64 t381) ∧ w'.cell? ⟨gb388, 10, none⟩ = some (.int .i64 t382) ∧ w'.cell? ⟨gb388, 11, none⟩ = some (.int .i64 t383) ∧ w'.cell? ⟨gb388, 12, none⟩ = some (.int .i64 t384) ∧ w'.cell? ⟨gb388, 13, none⟩ = some (.int .i64 t385) ∧ w'.cell? ⟨gb388, 14, none⟩ = some (.int .i64 t386) ∧ w'.cell? ⟨gb365, 0, none⟩ = some (.int .i64 t349) ∧ w'.cell? ⟨gb365, 1, none⟩ = some (.int .i64 t350) ∧ w'.cell? ⟨gb365, 2, none⟩ = some (.int .i64 t351) ∧ w'.cell? ⟨gb365, 3, none⟩ = some (.int .i64 t352) ∧ w'.cell? ⟨gb365, 4, none⟩ = some (.int .i64 t353) ∧ w'.cell? ⟨gb365, 5, none⟩ = some (.int .i64 t354) ∧ w'.cell? ⟨gb365, 6, none⟩ = some (.int .i64 t355) ∧ w'.cell? ⟨gb365, 7, none⟩ = some (.int .i64 t356) ∧ w'.cell? ⟨gb365, 8, none⟩ = some (.int .i64 t357) ∧ w'.cell? ⟨gb365, 9, none⟩ = some (.int .i64 t358) ∧ w'.cell? ⟨gb365, 10, none⟩ = some (.int .i64 t359) ∧ w'.cell? ⟨gb365, 11, none⟩ = some (.int .i64 t360) ∧ w'.cell? ⟨gb365, 12, none⟩ = some (.int .i64 t361) ∧ w'.cell? ⟨gb365, 13, none⟩ = some (.int .i64 t362) ∧ w'.cell? ⟨gb365, 14, none⟩ = some (.int .i64 t363)) (ds := []) #[false, false, false, false, false, false, false, false, false, false, false, false, false, false, false, false, false, false, false, false, false, false, false, false, false, false, false] (by kernel_rfl) rfl rfl ⟨(blk_cell BK388.out 0).trans rfl, (blk_cell BK388.out 1).trans rfl, (blk_cell BK388.out 2).trans rfl, (blk_cell BK388.out 3).trans rfl, (blk_cell BK388.out 4).trans rfl, (blk_cell BK388.out 5).trans rfl, (blk_cell BK388.out 6).trans rfl, (blk_cell BK388.out 7).trans rfl, (blk_cell BK388.out 8).trans rfl, (blk_cell BK388.out 9).trans rfl, (blk_cell BK388.out 10).trans rfl, (blk_cell BK388.out 11).trans rfl, (blk_cell BK388.out 12).trans rfl, (blk_cell BK388.out 13).trans rfl, (blk_cell BK388.out 14).trans rfl, (blk_cell BK365.out 0).trans rfl, (blk_cell BK365.out 1).trans rfl, (blk_cell BK365.out 2).trans rfl, (blk_cell BK365.out 3).trans rfl, (blk_cell BK365.out 4).trans rfl, (blk_cell BK365.out 5).trans rfl, (blk_cell BK365.out 6).trans rfl, (blk_cell BK365.out 7).trans rfl, (blk_cell BK365.out 8).trans rfl, (blk_cell BK365.out 9).trans rfl, (blk_cell BK365.out 10).trans rfl, (blk_cell BK365.out 11).trans rfl, (blk_cell BK365.out 12).trans rfl, (blk_cell BK365.out 13).trans rfl, (blk_cell BK365.out 14).trans rfl⟩ (fun hHeld => ?_); refine with_tabW pacemakerlaw10_SlopeTurns.tab10 pacemakerlaw10_SlopeTurns.bits10 (fun HT_ HW_ => ?_)
              generalize w33.drew = w34 at HO_5 BK365 BK388 HB hHeld ⊢
              refine one_ (i := 0) (N := some 48) #[true, false, false, false, false, false, false, false, false, false, false, false, false, false, false, false, false, false, false, false, false, false, false, false, false, false, false] rfl rfl (one_of HT_.out (by kernel_rfl)) (by decide) (fun K hK => ?_)
              refine goes_ Try.func9 (by kernel_rfl) rfl #[] (by rfl) rfl rfl (by (try simp only [List.map_toArray, List.map_cons, List.map_nil]); first | done | rfl | (simp only [List.length_drop, List.length_take]; rfl)) ?_
              with_reducible refine (pacemakerlaw10_fitted.calls  true _ A17.out).mono ?_
              rintro e w35 ⟨rfl, hb⟩
              refine ⟨_, rfl, ?_⟩
              have n0_ := Aside0.mk (Kd.R_below (by (with_reducible repeat (first | apply Kd.R_alloc | apply Kd.R_drewN | apply Kd.R_drew)); exact HO_5.out) hb)
              have n1_ := Aside0.mk (blk_below (g := gb365) (o := .cells #[.int .i64 t349, .int .i64 t350, .int .i64 t351, .int .i64 t352, .int .i64 t353, .int .i64 t354, .int .i64 t355, .int .i64 t356, .int .i64 t357, .int .i64 t358, .int .i64 t359, .int .i64 t360, .int .i64 t361, .int .i64 t362, .int .i64 t363] 29 (0, 0)) (by (with_reducible repeat (first | refine blk_drewN ?_ _ | refine blk_drew ?_ | refine blk_alloc ?_ _)); exact BK365.out) hb)
              have n2_ := Aside0.mk (blk_below (g := gb388) (o := .cells #[.int .i64 t372, .int .i64 t373, .int .i64 t374, .int .i64 t375, .int .i64 t376, .int .i64 t377, .int .i64 t378, .int .i64 t379, .int .i64 t380, .int .i64 t381, .int .i64 t382, .int .i64 t383, .int .i64 t384, .int .i64 t385, .int .i64 t386] 29 (0, 0)) (by (with_reducible repeat (first | refine blk_drewN ?_ _ | refine blk_drew ?_ | refine blk_alloc ?_ _)); exact BK388.out) hb)
              have n3_ := Aside0.mk (below_step (by repeat (first | (with_reducible first | exact HB.out | apply below_alloc | apply pw_below_drewN | apply below_drew1 | refine below_set ?_ GE365.out | refine below_set ?_ GE388.out) | exact HB.out)) hb)
              clear HO_5
              clear BK365
              clear BK388
              clear HB
              have HO_5 := n0_
              have BK365 := n1_
              have BK388 := n2_
              have HB := n3_
              clear n0_ n1_ n2_ n3_
              (try clear hb)
              (try clear hb2)
              (try clear hk)
              (try clear hi)
              refine hK.out _ _ ⟨(blk_cell BK388.out 0).trans rfl, (blk_cell BK388.out 1).trans rfl, (blk_cell BK388.out 2).trans rfl, (blk_cell BK388.out 3).trans rfl, (blk_cell BK388.out 4).trans rfl, (blk_cell BK388.out 5).trans rfl, (blk_cell BK388.out 6).trans rfl, (blk_cell BK388.out 7).trans rfl, (blk_cell BK388.out 8).trans rfl, (blk_cell BK388.out 9).trans rfl, (blk_cell BK388.out 10).trans rfl, (blk_cell BK388.out 11).trans rfl, (blk_cell BK388.out 12).trans rfl, (blk_cell BK388.out 13).trans rfl, (blk_cell BK388.out 14).trans rfl, (blk_cell BK365.out 0).trans rfl, (blk_cell BK365.out 1).trans rfl, (blk_cell BK365.out 2).trans rfl, (blk_cell BK365.out 3).trans rfl, (blk_cell BK365.out 4).trans rfl, (blk_cell BK365.out 5).trans rfl, (blk_cell BK365.out 6).trans rfl, (blk_cell BK365.out 7).trans rfl, (blk_cell BK365.out 8).trans rfl, (blk_cell BK365.out 9).trans rfl, (blk_cell BK365.out 10).trans rfl, (blk_cell BK365.out 11).trans rfl, (blk_cell BK365.out 12).trans rfl, (blk_cell BK365.out 13).trans rfl, (blk_cell BK365.out 14).trans rfl⟩ (fun hHeld => ?_)
              clear hK K
              refine norm_ (a' := ?_) ?_ ?_
              rotate_left
              · show Act.put _ (some 48) _ = _
                simp only [Act.put, List.setIfInBounds_toArray, List.set_cons_zero, List.set_cons_succ, i64_w, i32_w]
                rfl
              refine pure_ (i := 1) (N := some 49) (v := ?_) (a' := ?_) #[true, true, false, false, false, false, false, false, false, false, false, false, false, false, false, false, false, false, false, false, false, false, false, false, false, false, false] rfl rfl (any_of HT_.out (by kernel_rfl)) (fun _ _ _ h => h) (Or.inl ⟨by rfl, ?_⟩) ?_ ?_
              rotate_left
              · intro w'
                go_simp
                with_reducible rfl
              rotate_left
              · simp only [Act.put, List.setIfInBounds_toArray, List.set_cons_zero, List.set_cons_succ, i64_w, i32_w]
                rfl
              refine pure_ (i := 2) (N := some 50) (v := ?_) (a' := ?_) #[true, true, true, false, false, false, false, false, false, false, false, false, false, false, false, false, false, false, false, false, false, false, false, false, false, false, false] rfl rfl (any_of HT_.out (by kernel_rfl)) (fun _ _ _ h => h) (Or.inl ⟨by rfl, ?_⟩) ?_ ?_
              rotate_left
              · intro w'
                go_simp
                with_reducible rfl
              rotate_left
              · simp only [Act.put, List.setIfInBounds_toArray, List.set_cons_zero, List.set_cons_succ, i64_w, i32_w]
                rfl
              refine pure_ (i := 3) (N := some 51) (v := ?_) (a' := ?_) #[true, true, true, true, false, false, false, false, false, false, false, false, false, false, false, false, false, false, false, false, false, false, false, false, false, false, false] rfl rfl (any_of HT_.out (by kernel_rfl)) (fun _ _ _ h => h) (Or.inl ⟨by rfl, ?_⟩) ?_ ?_
              rotate_left
              · intro w'
                go_simp
                with_reducible rfl
              rotate_left
              · simp only [Act.put, List.setIfInBounds_toArray, List.set_cons_zero, List.set_cons_succ, i64_w, i32_w]
                rfl
              refine pure_ (i := 4) (N := some 52) (v := ?_) (a' := ?_) #[true, true, true, true, true, false, false, false, false, false, false, false, false, false, false, false, false, false, false, false, false, false, false, false, false, false, false] rfl rfl (any_of HT_.out (by kernel_rfl)) (fun _ _ _ h => h) (Or.inl ⟨by rfl, ?_⟩) ?_ ?_
              rotate_left
              · intro w'
                go_simp
                with_reducible rfl
              rotate_left
              · simp only [Act.put, List.setIfInBounds_toArray, List.set_cons_zero, List.set_cons_succ, i64_w, i32_w]
                rfl
              refine take_ (i := 5) (N := some 53) (v := ?_) (a' := ?_) #[true, true, true, true, true, true, false, false, false, false, false, false, false, false, false, false, false, false, false, false, false, false, false, false, false, false, false] rfl rfl (take_ofW HT_.out HW_.out (by kernel_rfl)) (fun _ _ _ h => h) (Or.inl ⟨by rfl, ?_⟩) hHeld ?_ ?_
              rotate_left
              · rintro w' ⟨s0, s1, s2, s3, s4, s5, s6, s7, s8, s9, s10, s11, s12, s13, s14, s15, s16, s17, s18, s19, s20, s21, s22, s23, s24, s25, s26, s27, s28, s29⟩
                go_simp
                with_reducible rfl
              rotate_left
              · simp only [Act.put, List.setIfInBounds_toArray, List.set_cons_zero, List.set_cons_succ, i64_w, i32_w]
                rfl
              refine take_ (i := 7) (N := some 55) (v := ?_) (a' := ?_) #[true, true, true, true, true, true, false, true, false, false, false, false, false, false, false, false, false, false, false, false, false, false, false, false, false, false, false] rfl rfl (take_ofW HT_.out HW_.out (by kernel_rfl)) (fun _ _ _ h => h) (Or.inl ⟨by rfl, ?_⟩) hHeld ?_ ?_
              rotate_left
              · rintro w' ⟨s0, s1, s2, s3, s4, s5, s6, s7, s8, s9, s10, s11, s12, s13, s14, s15, s16, s17, s18, s19, s20, s21, s22, s23, s24, s25, s26, s27, s28, s29⟩
                go_simp
                with_reducible rfl
              rotate_left
              · simp only [Act.put, List.setIfInBounds_toArray, List.set_cons_zero, List.set_cons_succ, i64_w, i32_w]
                rfl
              refine one_ (i := 6) (N := some 54) #[true, true, true, true, true, true, true, true, false, false, false, false, false, false, false, false, false, false, false, false, false, false, false, false, false, false, false] rfl rfl (one_of HT_.out (by kernel_rfl)) (by decide) (fun K hK => ?_)
              refine goes_ Try.func16 (by kernel_rfl) rfl #[.agg #[.int .i64 t372, .int .i64 t373, .int .i64 t374, .int .i64 t375, .int .i64 t376, .int .i64 t377, .int .i64 t378, .int .i64 t379, .int .i64 t380, .int .i64 t381, .int .i64 t382, .int .i64 t383, .int .i64 t384, .int .i64 t385, .int .i64 t386]] (by rfl) rfl rfl (by (try simp only [List.map_toArray, List.map_cons, List.map_nil]); first | done | rfl | (simp only [List.length_drop, List.length_take]; rfl)) ?_
              with_reducible refine (slope_Grade.calls k2 t372 t373 t374 t375 t376 t377 t378 t379 t380 t381 t382 t383 t384 t385 t386 t390 _ A20.out).mono ?_
              rintro e w36 ⟨rfl, hb⟩
              refine ⟨_, rfl, ?_⟩
              have n0_ := Aside0.mk (Kd.R_below (by (with_reducible repeat (first | apply Kd.R_alloc | apply Kd.R_drewN | apply Kd.R_drew)); exact HO_5.out) hb)
              have n1_ := Aside0.mk (blk_below (g := gb365) (o := .cells #[.int .i64 t349, .int .i64 t350, .int .i64 t351, .int .i64 t352, .int .i64 t353, .int .i64 t354, .int .i64 t355, .int .i64 t356, .int .i64 t357, .int .i64 t358, .int .i64 t359, .int .i64 t360, .int .i64 t361, .int .i64 t362, .int .i64 t363] 29 (0, 0)) (by (with_reducible repeat (first | refine blk_drewN ?_ _ | refine blk_drew ?_ | refine blk_alloc ?_ _)); exact BK365.out) hb)
              have n2_ := Aside0.mk (blk_below (g := gb388) (o := .cells #[.int .i64 t372, .int .i64 t373, .int .i64 t374, .int .i64 t375, .int .i64 t376, .int .i64 t377, .int .i64 t378, .int .i64 t379, .int .i64 t380, .int .i64 t381, .int .i64 t382, .int .i64 t383, .int .i64 t384, .int .i64 t385, .int .i64 t386] 29 (0, 0)) (by (with_reducible repeat (first | refine blk_drewN ?_ _ | refine blk_drew ?_ | refine blk_alloc ?_ _)); exact BK388.out) hb)
              have n3_ := Aside0.mk (below_step (by repeat (first | (with_reducible first | exact HB.out | apply below_alloc | apply pw_below_drewN | apply below_drew1 | refine below_set ?_ GE365.out | refine below_set ?_ GE388.out) | exact HB.out)) hb)
              clear HO_5
              clear BK365
              clear BK388
              clear HB
              have HO_5 := n0_
              have BK365 := n1_
              have BK388 := n2_
              have HB := n3_
              clear n0_ n1_ n2_ n3_
              (try clear hb)
              (try clear hb2)
              (try clear hk)
              (try clear hi)
              refine hK.out _ _ ⟨(blk_cell BK388.out 0).trans rfl, (blk_cell BK388.out 1).trans rfl, (blk_cell BK388.out 2).trans rfl, (blk_cell BK388.out 3).trans rfl, (blk_cell BK388.out 4).trans rfl, (blk_cell BK388.out 5).trans rfl, (blk_cell BK388.out 6).trans rfl, (blk_cell BK388.out 7).trans rfl, (blk_cell BK388.out 8).trans rfl, (blk_cell BK388.out 9).trans rfl, (blk_cell BK388.out 10).trans rfl, (blk_cell BK388.out 11).trans rfl, (blk_cell BK388.out 12).trans rfl, (blk_cell BK388.out 13).trans rfl, (blk_cell BK388.out 14).trans rfl, (blk_cell BK365.out 0).trans rfl, (blk_cell BK365.out 1).trans rfl, (blk_cell BK365.out 2).trans rfl, (blk_cell BK365.out 3).trans rfl, (blk_cell BK365.out 4).trans rfl, (blk_cell BK365.out 5).trans rfl, (blk_cell BK365.out 6).trans rfl, (blk_cell BK365.out 7).trans rfl, (blk_cell BK365.out 8).trans rfl, (blk_cell BK365.out 9).trans rfl, (blk_cell BK365.out 10).trans rfl, (blk_cell BK365.out 11).trans rfl, (blk_cell BK365.out 12).trans rfl, (blk_cell BK365.out 13).trans rfl, (blk_cell BK365.out 14).trans rfl⟩ (fun hHeld => ?_)
              clear hK K
              refine norm_ (a' := ?_) ?_ ?_
              rotate_left
              · show Act.put _ (some 54) _ = _
                simp only [Act.put, List.setIfInBounds_toArray, List.set_cons_zero, List.set_cons_succ, i64_w, i32_w]
                rfl
              refine one_ (i := 8) (N := some 56) #[true, true, true, true, true, true, true, true, true, false, false, false, false, false, false, false, false, false, false, false, false, false, false, false, false, false, false] rfl rfl (one_of HT_.out (by kernel_rfl)) (by decide) (fun K hK => ?_)
              refine goes_ Try.func16 (by kernel_rfl) rfl #[.agg #[.int .i64 t349, .int .i64 t350, .int .i64 t351, .int .i64 t352, .int .i64 t353, .int .i64 t354, .int .i64 t355, .int .i64 t356, .int .i64 t357, .int .i64 t358, .int .i64 t359, .int .i64 t360, .int .i64 t361, .int .i64 t362, .int .i64 t363]] (by rfl) rfl rfl (by (try simp only [List.map_toArray, List.map_cons, List.map_nil]); first | done | rfl | (simp only [List.length_drop, List.length_take]; rfl)) ?_
              with_reducible refine (slope_Grade.calls k2 t349 t350 t351 t352 t353 t354 t355 t356 t357 t358 t359 t360 t361 t362 t363 t391 _ A21.out).mono ?_
              rintro e w37 ⟨rfl, hb⟩
              refine ⟨_, rfl, ?_⟩
              have n0_ := Aside0.mk (Kd.R_below (by (with_reducible repeat (first | apply Kd.R_alloc | apply Kd.R_drewN | apply Kd.R_drew)); exact HO_5.out) hb)
              have n1_ := Aside0.mk (blk_below (g := gb365) (o := .cells #[.int .i64 t349, .int .i64 t350, .int .i64 t351, .int .i64 t352, .int .i64 t353, .int .i64 t354, .int .i64 t355, .int .i64 t356, .int .i64 t357, .int .i64 t358, .int .i64 t359, .int .i64 t360, .int .i64 t361, .int .i64 t362, .int .i64 t363] 29 (0, 0)) (by (with_reducible repeat (first | refine blk_drewN ?_ _ | refine blk_drew ?_ | refine blk_alloc ?_ _)); exact BK365.out) hb)
              have n2_ := Aside0.mk (blk_below (g := gb388) (o := .cells #[.int .i64 t372, .int .i64 t373, .int .i64 t374, .int .i64 t375, .int .i64 t376, .int .i64 t377, .int .i64 t378, .int .i64 t379, .int .i64 t380, .int .i64 t381, .int .i64 t382, .int .i64 t383, .int .i64 t384, .int .i64 t385, .int .i64 t386] 29 (0, 0)) (by (with_reducible repeat (first | refine blk_drewN ?_ _ | refine blk_drew ?_ | refine blk_alloc ?_ _)); exact BK388.out) hb)
              have n3_ := Aside0.mk (below_step (by repeat (first | (with_reducible first | exact HB.out | apply below_alloc | apply pw_below_drewN | apply below_drew1 | refine below_set ?_ GE365.out | refine below_set ?_ GE388.out) | exact HB.out)) hb)
              clear HO_5
              clear BK365
              clear BK388
              clear HB
              have HO_5 := n0_
              have BK365 := n1_
              have BK388 := n2_
              have HB := n3_
              clear n0_ n1_ n2_ n3_
              (try clear hb)
              (try clear hb2)
              (try clear hk)
              (try clear hi)
              refine hK.out _ _ ⟨(blk_cell BK388.out 0).trans rfl, (blk_cell BK388.out 1).trans rfl, (blk_cell BK388.out 2).trans rfl, (blk_cell BK388.out 3).trans rfl, (blk_cell BK388.out 4).trans rfl, (blk_cell BK388.out 5).trans rfl, (blk_cell BK388.out 6).trans rfl, (blk_cell BK388.out 7).trans rfl, (blk_cell BK388.out 8).trans rfl, (blk_cell BK388.out 9).trans rfl, (blk_cell BK388.out 10).trans rfl, (blk_cell BK388.out 11).trans rfl, (blk_cell BK388.out 12).trans rfl, (blk_cell BK388.out 13).trans rfl, (blk_cell BK388.out 14).trans rfl, (blk_cell BK365.out 0).trans rfl, (blk_cell BK365.out 1).trans rfl, (blk_cell BK365.out 2).trans rfl, (blk_cell BK365.out 3).trans rfl, (blk_cell BK365.out 4).trans rfl, (blk_cell BK365.out 5).trans rfl, (blk_cell BK365.out 6).trans rfl, (blk_cell BK365.out 7).trans rfl, (blk_cell BK365.out 8).trans rfl, (blk_cell BK365.out 9).trans rfl, (blk_cell BK365.out 10).trans rfl, (blk_cell BK365.out 11).trans rfl, (blk_cell BK365.out 12).trans rfl, (blk_cell BK365.out 13).trans rfl, (blk_cell BK365.out 14).trans rfl⟩ (fun hHeld => ?_)
              clear hK K
              refine norm_ (a' := ?_) ?_ ?_
              rotate_left
              · show Act.put _ (some 56) _ = _
                simp only [Act.put, List.setIfInBounds_toArray, List.set_cons_zero, List.set_cons_succ, i64_w, i32_w]
                rfl
              refine pure_ (i := 9) (N := some 57) (v := ?_) (a' := ?_) #[true, true, true, true, true, true, true, true, true, true, false, false, false, false, false, false, false, false, false, false, false, false, false, false, false, false, false] rfl rfl (any_of HT_.out (by kernel_rfl)) (fun _ _ _ h => h) (Or.inl ⟨by rfl, ?_⟩) ?_ ?_
              rotate_left
              · intro w'
                go_simp
                with_reducible rfl
              rotate_left
              · simp only [Act.put, List.setIfInBounds_toArray, List.set_cons_zero, List.set_cons_succ, i64_w, i32_w]
                rfl
              refine pure_ (i := 10) (N := some 58) (v := ?_) (a' := ?_) #[true, true, true, true, true, true, true, true, true, true, true, false, false, false, false, false, false, false, false, false, false, false, false, false, false, false, false] rfl rfl (any_of HT_.out (by kernel_rfl)) (fun _ _ _ h => h) (Or.inl ⟨by rfl, ?_⟩) ?_ ?_
              rotate_left
              · intro w'
                go_simp
                with_reducible rfl
              rotate_left
              · simp only [Act.put, List.setIfInBounds_toArray, List.set_cons_zero, List.set_cons_succ, i64_w, i32_w]
                rfl
              refine pure_ (i := 11) (N := some 59) (v := ?_) (a' := ?_) #[true, true, true, true, true, true, true, true, true, true, true, true, false, false, false, false, false, false, false, false, false, false, false, false, false, false, false] rfl rfl (any_of HT_.out (by kernel_rfl)) (fun _ _ _ h => h) (Or.inl ⟨by rfl, ?_⟩) ?_ ?_
              rotate_left
              · intro w'
                go_simp
                with_reducible rfl
              rotate_left
              · simp only [Act.put, List.setIfInBounds_toArray, List.set_cons_zero, List.set_cons_succ, i64_w, i32_w]
                rfl
              refine pure_ (i := 12) (N := some 60) (v := ?_) (a' := ?_) #[true, true, true, true, true, true, true, true, true, true, true, true, true, false, false, false, false, false, false, false, false, false, false, false, false, false, false] rfl rfl (any_of HT_.out (by kernel_rfl)) (fun _ _ _ h => h) (Or.inl ⟨by rfl, ?_⟩) ?_ ?_
              rotate_left
              · intro w'
                go_simp
                with_reducible rfl
              rotate_left
              · simp only [Act.put, List.setIfInBounds_toArray, List.set_cons_zero, List.set_cons_succ, i64_w, i32_w]
                rfl
              refine take_ (i := 13) (N := some 61) (v := ?_) (a' := ?_) #[true, true, true, true, true, true, true, true, true, true, true, true, true, true, false, false, false, false, false, false, false, false, false, false, false, false, false] rfl rfl (take_ofW HT_.out HW_.out (by kernel_rfl)) (fun _ _ _ h => h) (Or.inl ⟨by rfl, ?_⟩) hHeld ?_ ?_
              rotate_left
              · rintro w' ⟨s0, s1, s2, s3, s4, s5, s6, s7, s8, s9, s10, s11, s12, s13, s14, s15, s16, s17, s18, s19, s20, s21, s22, s23, s24, s25, s26, s27, s28, s29⟩
                go_simp
                with_reducible rfl
              rotate_left
              · simp only [Act.put, List.setIfInBounds_toArray, List.set_cons_zero, List.set_cons_succ, i64_w, i32_w]
                rfl
              refine take_ (i := 15) (N := some 63) (v := ?_) (a' := ?_) #[true, true, true, true, true, true, true, true, true, true, true, true, true, true, false, true, false, false, false, false, false, false, false, false, false, false, false] rfl rfl (take_ofW HT_.out HW_.out (by kernel_rfl)) (fun _ _ _ h => h) (Or.inl ⟨by rfl, ?_⟩) hHeld ?_ ?_
              rotate_left
              · rintro w' ⟨s0, s1, s2, s3, s4, s5, s6, s7, s8, s9, s10, s11, s12, s13, s14, s15, s16, s17, s18, s19, s20, s21, s22, s23, s24, s25, s26, s27, s28, s29⟩
                go_simp
                with_reducible rfl
              rotate_left
              · simp only [Act.put, List.setIfInBounds_toArray, List.set_cons_zero, List.set_cons_succ, i64_w, i32_w]
                rfl
              refine one_ (i := 14) (N := some 62) #[true, true, true, true, true, true, true, true, true, true, true, true, true, true, true, true, false, false, false, false, false, false, false, false, false, false, false] rfl rfl (one_of HT_.out (by kernel_rfl)) (by decide) (fun K hK => ?_)
              refine goes_ Try.func12 (by kernel_rfl) rfl #[.agg #[.int .i64 t372, .int .i64 t373, .int .i64 t374, .int .i64 t375, .int .i64 t376, .int .i64 t377, .int .i64 t378, .int .i64 t379, .int .i64 t380, .int .i64 t381, .int .i64 t382, .int .i64 t383, .int .i64 t384, .int .i64 t385, .int .i64 t386]] (by rfl) rfl rfl (by (try simp only [List.map_toArray, List.map_cons, List.map_nil]); first | done | rfl | (simp only [List.length_drop, List.length_take]; rfl)) ?_
              with_reducible refine (slope_Mean.calls k2 t372 t373 t374 t375 t376 t377 t378 t379 t380 t381 t382 t383 t384 t385 t386 t392 _ A23.out).mono ?_
              rintro e w38 ⟨rfl, hb⟩
              refine ⟨_, rfl, ?_⟩
              have n0_ := Aside0.mk (Kd.R_below (by (with_reducible repeat (first | apply Kd.R_alloc | apply Kd.R_drewN | apply Kd.R_drew)); exact HO_5.out) hb)
              have n1_ := Aside0.mk (blk_below (g := gb365) (o := .cells #[.int .i64 t349, .int .i64 t350, .int .i64 t351, .int .i64 t352, .int .i64 t353, .int .i64 t354, .int .i64 t355, .int .i64 t356, .int .i64 t357, .int .i64 t358, .int .i64 t359, .int .i64 t360, .int .i64 t361, .int .i64 t362, .int .i64 t363] 29 (0, 0)) (by (with_reducible repeat (first | refine blk_drewN ?_ _ | refine blk_drew ?_ | refine blk_alloc ?_ _)); exact BK365.out) hb)
              have n2_ := Aside0.mk (blk_below (g := gb388) (o := .cells #[.int .i64 t372, .int .i64 t373, .int .i64 t374, .int .i64 t375, .int .i64 t376, .int .i64 t377, .int .i64 t378, .int .i64 t379, .int .i64 t380, .int .i64 t381, .int .i64 t382, .int .i64 t383, .int .i64 t384, .int .i64 t385, .int .i64 t386] 29 (0, 0)) (by (with_reducible repeat (first | refine blk_drewN ?_ _ | refine blk_drew ?_ | refine blk_alloc ?_ _)); exact BK388.out) hb)
              have n3_ := Aside0.mk (below_step (by repeat (first | (with_reducible first | exact HB.out | apply below_alloc | apply pw_below_drewN | apply below_drew1 | refine below_set ?_ GE365.out | refine below_set ?_ GE388.out) | exact HB.out)) hb)
              clear HO_5
              clear BK365
              clear BK388
              clear HB
              have HO_5 := n0_
              have BK365 := n1_
              have BK388 := n2_
              have HB := n3_
              clear n0_ n1_ n2_ n3_
              (try clear hb)
              (try clear hb2)
              (try clear hk)
              (try clear hi)
              refine hK.out _ _ ⟨(blk_cell BK388.out 0).trans rfl, (blk_cell BK388.out 1).trans rfl, (blk_cell BK388.out 2).trans rfl, (blk_cell BK388.out 3).trans rfl, (blk_cell BK388.out 4).trans rfl, (blk_cell BK388.out 5).trans rfl, (blk_cell BK388.out 6).trans rfl, (blk_cell BK388.out 7).trans rfl, (blk_cell BK388.out 8).trans rfl, (blk_cell BK388.out 9).trans rfl, (blk_cell BK388.out 10).trans rfl, (blk_cell BK388.out 11).trans rfl, (blk_cell BK388.out 12).trans rfl, (blk_cell BK388.out 13).trans rfl, (blk_cell BK388.out 14).trans rfl, (blk_cell BK365.out 0).trans rfl, (blk_cell BK365.out 1).trans rfl, (blk_cell BK365.out 2).trans rfl, (blk_cell BK365.out 3).trans rfl, (blk_cell BK365.out 4).trans rfl, (blk_cell BK365.out 5).trans rfl, (blk_cell BK365.out 6).trans rfl, (blk_cell BK365.out 7).trans rfl, (blk_cell BK365.out 8).trans rfl, (blk_cell BK365.out 9).trans rfl, (blk_cell BK365.out 10).trans rfl, (blk_cell BK365.out 11).trans rfl, (blk_cell BK365.out 12).trans rfl, (blk_cell BK365.out 13).trans rfl, (blk_cell BK365.out 14).trans rfl⟩ (fun hHeld => ?_)
              clear hK K
              refine norm_ (a' := ?_) ?_ ?_
              rotate_left
              · show Act.put _ (some 62) _ = _
                simp only [Act.put, List.setIfInBounds_toArray, List.set_cons_zero, List.set_cons_succ, i64_w, i32_w]
                rfl
              refine one_ (i := 16) (N := some 64) #[true, true, true, true, true, true, true, true, true, true, true, true, true, true, true, true, true, false, false, false, false, false, false, false, false, false, false] rfl rfl (one_of HT_.out (by kernel_rfl)) (by decide) (fun K hK => ?_)
              refine goes_ Try.func12 (by kernel_rfl) rfl #[.agg #[.int .i64 t349, .int .i64 t350, .int .i64 t351, .int .i64 t352, .int .i64 t353, .int .i64 t354, .int .i64 t355, .int .i64 t356, .int .i64 t357, .int .i64 t358, .int .i64 t359, .int .i64 t360, .int .i64 t361, .int .i64 t362, .int .i64 t363]] (by rfl) rfl rfl (by (try simp only [List.map_toArray, List.map_cons, List.map_nil]); first | done | rfl | (simp only [List.length_drop, List.length_take]; rfl)) ?_
              with_reducible refine (slope_Mean.calls k2 t349 t350 t351 t352 t353 t354 t355 t356 t357 t358 t359 t360 t361 t362 t363 t393 _ A24.out).mono ?_
              rintro e w39 ⟨rfl, hb⟩
              refine ⟨_, rfl, ?_⟩
              have n0_ := Aside0.mk (Kd.R_below (by (with_reducible repeat (first | apply Kd.R_alloc | apply Kd.R_drewN | apply Kd.R_drew)); exact HO_5.out) hb)
              have n1_ := Aside0.mk (blk_below (g := gb365) (o := .cells #[.int .i64 t349, .int .i64 t350, .int .i64 t351, .int .i64 t352, .int .i64 t353, .int .i64 t354, .int .i64 t355, .int .i64 t356, .int .i64 t357, .int .i64 t358, .int .i64 t359, .int .i64 t360, .int .i64 t361, .int .i64 t362, .int .i64 t363] 29 (0, 0)) (by (with_reducible repeat (first | refine blk_drewN ?_ _ | refine blk_drew ?_ | refine blk_alloc ?_ _)); exact BK365.out) hb)
              have n2_ := Aside0.mk (blk_below (g := gb388) (o := .cells #[.int .i64 t372, .int .i64 t373, .int .i64 t374, .int .i64 t375, .int .i64 t376, .int .i64 t377, .int .i64 t378, .int .i64 t379, .int .i64 t380, .int .i64 t381, .int .i64 t382, .int .i64 t383, .int .i64 t384, .int .i64 t385, .int .i64 t386] 29 (0, 0)) (by (with_reducible repeat (first | refine blk_drewN ?_ _ | refine blk_drew ?_ | refine blk_alloc ?_ _)); exact BK388.out) hb)
              have n3_ := Aside0.mk (below_step (by repeat (first | (with_reducible first | exact HB.out | apply below_alloc | apply pw_below_drewN | apply below_drew1 | refine below_set ?_ GE365.out | refine below_set ?_ GE388.out) | exact HB.out)) hb)
              clear HO_5
              clear BK365
              clear BK388
              clear HB
              have HO_5 := n0_
              have BK365 := n1_
              have BK388 := n2_
              have HB := n3_
              clear n0_ n1_ n2_ n3_
              (try clear hb)
              (try clear hb2)
              (try clear hk)
              (try clear hi)
              refine hK.out _ _ ⟨(blk_cell BK388.out 0).trans rfl, (blk_cell BK388.out 1).trans rfl, (blk_cell BK388.out 2).trans rfl, (blk_cell BK388.out 3).trans rfl, (blk_cell BK388.out 4).trans rfl, (blk_cell BK388.out 5).trans rfl, (blk_cell BK388.out 6).trans rfl, (blk_cell BK388.out 7).trans rfl, (blk_cell BK388.out 8).trans rfl, (blk_cell BK388.out 9).trans rfl, (blk_cell BK388.out 10).trans rfl, (blk_cell BK388.out 11).trans rfl, (blk_cell BK388.out 12).trans rfl, (blk_cell BK388.out 13).trans rfl, (blk_cell BK388.out 14).trans rfl, (blk_cell BK365.out 0).trans rfl, (blk_cell BK365.out 1).trans rfl, (blk_cell BK365.out 2).trans rfl, (blk_cell BK365.out 3).trans rfl, (blk_cell BK365.out 4).trans rfl, (blk_cell BK365.out 5).trans rfl, (blk_cell BK365.out 6).trans rfl, (blk_cell BK365.out 7).trans rfl, (blk_cell BK365.out 8).trans rfl, (blk_cell BK365.out 9).trans rfl, (blk_cell BK365.out 10).trans rfl, (blk_cell BK365.out 11).trans rfl, (blk_cell BK365.out 12).trans rfl, (blk_cell BK365.out 13).trans rfl, (blk_cell BK365.out 14).trans rfl⟩ (fun hHeld => ?_)
              clear hK K
              refine norm_ (a' := ?_) ?_ ?_
              rotate_left
              · show Act.put _ (some 64) _ = _
                simp only [Act.put, List.setIfInBounds_toArray, List.set_cons_zero, List.set_cons_succ, i64_w, i32_w]
                rfl
              refine pure_ (i := 17) (N := some 65) (v := ?_) (a' := ?_) #[true, true, true, true, true, true, true, true, true, true, true, true, true, true, true, true, true, true, false, false, false, false, false, false, false, false, false] rfl rfl (any_of HT_.out (by kernel_rfl)) (fun _ _ _ h => h) (Or.inl ⟨by rfl, ?_⟩) ?_ ?_
              rotate_left
              · intro w'
                go_simp
                with_reducible rfl
              rotate_left
              · simp only [Act.put, List.setIfInBounds_toArray, List.set_cons_zero, List.set_cons_succ, i64_w, i32_w]
                rfl
              refine pure_ (i := 18) (N := some 66) (v := ?_) (a' := ?_) #[true, true, true, true, true, true, true, true, true, true, true, true, true, true, true, true, true, true, true, false, false, false, false, false, false, false, false] rfl rfl (any_of HT_.out (by kernel_rfl)) (fun _ _ _ h => h) (Or.inl ⟨by rfl, ?_⟩) ?_ ?_
              rotate_left
              · intro w'
                go_simp
                with_reducible rfl
              rotate_left
              · simp only [Act.put, List.setIfInBounds_toArray, List.set_cons_zero, List.set_cons_succ, i64_w, i32_w]
                rfl
              refine pure_ (i := 19) (N := some 67) (v := ?_) (a' := ?_) #[true, true, true, true, true, true, true, true, true, true, true, true, true, true, true, true, true, true, true, true, false, false, false, false, false, false, false] rfl rfl (any_of HT_.out (by kernel_rfl)) (fun _ _ _ h => h) (Or.inl ⟨by rfl, ?_⟩) ?_ ?_
              rotate_left
              · intro w'
                go_simp
                with_reducible rfl
              rotate_left
              · simp only [Act.put, List.setIfInBounds_toArray, List.set_cons_zero, List.set_cons_succ, i64_w, i32_w]
                rfl
              refine take_ (i := 20) (N := some 68) (v := ?_) (a' := ?_) #[true, true, true, true, true, true, true, true, true, true, true, true, true, true, true, true, true, true, true, true, true, false, false, false, false, false, false] rfl rfl (take_ofW HT_.out HW_.out (by kernel_rfl)) (fun _ _ _ h => h) (Or.inl ⟨by rfl, ?_⟩) hHeld ?_ ?_
              rotate_left
              · rintro w' ⟨s0, s1, s2, s3, s4, s5, s6, s7, s8, s9, s10, s11, s12, s13, s14, s15, s16, s17, s18, s19, s20, s21, s22, s23, s24, s25, s26, s27, s28, s29⟩
                go_simp
                with_reducible rfl
              rotate_left
              · simp only [Act.put, List.setIfInBounds_toArray, List.set_cons_zero, List.set_cons_succ, i64_w, i32_w]
                rfl
              refine take_ (i := 22) (N := some 70) (v := ?_) (a' := ?_) #[true, true, true, true, true, true, true, true, true, true, true, true, true, true, true, true, true, true, true, true, true, false, true, false, false, false, false] rfl rfl (take_ofW HT_.out HW_.out (by kernel_rfl)) (fun _ _ _ h => h) (Or.inl ⟨by rfl, ?_⟩) hHeld ?_ ?_
              rotate_left
              · rintro w' ⟨s0, s1, s2, s3, s4, s5, s6, s7, s8, s9, s10, s11, s12, s13, s14, s15, s16, s17, s18, s19, s20, s21, s22, s23, s24, s25, s26, s27, s28, s29⟩
                go_simp
                with_reducible rfl
              rotate_left
              · simp only [Act.put, List.setIfInBounds_toArray, List.set_cons_zero, List.set_cons_succ, i64_w, i32_w]
                rfl
              refine one_ (i := 21) (N := some 69) #[true, true, true, true, true, true, true, true, true, true, true, true, true, true, true, true, true, true, true, true, true, true, true, false, false, false, false] rfl rfl (one_of HT_.out (by kernel_rfl)) (by decide) (fun K hK => ?_)
              refine goes_ Try.func14 (by kernel_rfl) rfl #[.agg #[.int .i64 t372, .int .i64 t373, .int .i64 t374, .int .i64 t375, .int .i64 t376, .int .i64 t377, .int .i64 t378, .int .i64 t379, .int .i64 t380, .int .i64 t381, .int .i64 t382, .int .i64 t383, .int .i64 t384, .int .i64 t385, .int .i64 t386]] (by rfl) rfl rfl (by (try simp only [List.map_toArray, List.map_cons, List.map_nil]); first | done | rfl | (simp only [List.length_drop, List.length_take]; rfl)) ?_
              with_reducible refine (slope_Dev.calls k2 t372 t373 t374 t375 t376 t377 t378 t379 t380 t381 t382 t383 t384 t385 t386 t394 _ A26.out).mono ?_
              rintro e w40 ⟨rfl, hb⟩
              refine ⟨_, rfl, ?_⟩
              have n0_ := Aside0.mk (Kd.R_below (by (with_reducible repeat (first | apply Kd.R_alloc | apply Kd.R_drewN | apply Kd.R_drew)); exact HO_5.out) hb)
              have n1_ := Aside0.mk (blk_below (g := gb365) (o := .cells #[.int .i64 t349, .int .i64 t350, .int .i64 t351, .int .i64 t352, .int .i64 t353, .int .i64 t354, .int .i64 t355, .int .i64 t356, .int .i64 t357, .int .i64 t358, .int .i64 t359, .int .i64 t360, .int .i64 t361, .int .i64 t362, .int .i64 t363] 29 (0, 0)) (by (with_reducible repeat (first | refine blk_drewN ?_ _ | refine blk_drew ?_ | refine blk_alloc ?_ _)); exact BK365.out) hb)
              have n2_ := Aside0.mk (blk_below (g := gb388) (o := .cells #[.int .i64 t372, .int .i64 t373, .int .i64 t374, .int .i64 t375, .int .i64 t376, .int .i64 t377, .int .i64 t378, .int .i64 t379, .int .i64 t380, .int .i64 t381, .int .i64 t382, .int .i64 t383, .int .i64 t384, .int .i64 t385, .int .i64 t386] 29 (0, 0)) (by (with_reducible repeat (first | refine blk_drewN ?_ _ | refine blk_drew ?_ | refine blk_alloc ?_ _)); exact BK388.out) hb)
              have n3_ := Aside0.mk (below_step (by repeat (first | (with_reducible first | exact HB.out | apply below_alloc | apply pw_below_drewN | apply below_drew1 | refine below_set ?_ GE365.out | refine below_set ?_ GE388.out) | exact HB.out)) hb)
              clear HO_5
              clear BK365
              clear BK388
              clear HB
              have HO_5 := n0_
              have BK365 := n1_
              have BK388 := n2_
              have HB := n3_
              clear n0_ n1_ n2_ n3_
              (try clear hb)
              (try clear hb2)
              (try clear hk)
              (try clear hi)
              refine hK.out _ _ ⟨(blk_cell BK388.out 0).trans rfl, (blk_cell BK388.out 1).trans rfl, (blk_cell BK388.out 2).trans rfl, (blk_cell BK388.out 3).trans rfl, (blk_cell BK388.out 4).trans rfl, (blk_cell BK388.out 5).trans rfl, (blk_cell BK388.out 6).trans rfl, (blk_cell BK388.out 7).trans rfl, (blk_cell BK388.out 8).trans rfl, (blk_cell BK388.out 9).trans rfl, (blk_cell BK388.out 10).trans rfl, (blk_cell BK388.out 11).trans rfl, (blk_cell BK388.out 12).trans rfl, (blk_cell BK388.out 13).trans rfl, (blk_cell BK388.out 14).trans rfl, (blk_cell BK365.out 0).trans rfl, (blk_cell BK365.out 1).trans rfl, (blk_cell BK365.out 2).trans rfl, (blk_cell BK365.out 3).trans rfl, (blk_cell BK365.out 4).trans rfl, (blk_cell BK365.out 5).trans rfl, (blk_cell BK365.out 6).trans rfl, (blk_cell BK365.out 7).trans rfl, (blk_cell BK365.out 8).trans rfl, (blk_cell BK365.out 9).trans rfl, (blk_cell BK365.out 10).trans rfl, (blk_cell BK365.out 11).trans rfl, (blk_cell BK365.out 12).trans rfl, (blk_cell BK365.out 13).trans rfl, (blk_cell BK365.out 14).trans rfl⟩ (fun hHeld => ?_)
              clear hK K
              refine norm_ (a' := ?_) ?_ ?_
              rotate_left
              · show Act.put _ (some 69) _ = _
                simp only [Act.put, List.setIfInBounds_toArray, List.set_cons_zero, List.set_cons_succ, i64_w, i32_w]
                rfl
              refine one_ (i := 23) (N := some 71) #[true, true, true, true, true, true, true, true, true, true, true, true, true, true, true, true, true, true, true, true, true, true, true, true, false, false, false] rfl rfl (one_of HT_.out (by kernel_rfl)) (by decide) (fun K hK => ?_)
              refine goes_ Try.func14 (by kernel_rfl) rfl #[.agg #[.int .i64 t349, .int .i64 t350, .int .i64 t351, .int .i64 t352, .int .i64 t353, .int .i64 t354, .int .i64 t355, .int .i64 t356, .int .i64 t357, .int .i64 t358, .int .i64 t359, .int .i64 t360, .int .i64 t361, .int .i64 t362, .int .i64 t363]] (by rfl) rfl rfl (by (try simp only [List.map_toArray, List.map_cons, List.map_nil]); first | done | rfl | (simp only [List.length_drop, List.length_take]; rfl)) ?_
              with_reducible refine (slope_Dev.calls k2 t349 t350 t351 t352 t353 t354 t355 t356 t357 t358 t359 t360 t361 t362 t363 t395 _ A27.out).mono ?_
              rintro e w41 ⟨rfl, hb⟩
              refine ⟨_, rfl, ?_⟩
              have n0_ := Aside0.mk (Kd.R_below (by (with_reducible repeat (first | apply Kd.R_alloc | apply Kd.R_drewN | apply Kd.R_drew)); exact HO_5.out) hb)
              have n1_ := Aside0.mk (blk_below (g := gb365) (o := .cells #[.int .i64 t349, .int .i64 t350, .int .i64 t351, .int .i64 t352, .int .i64 t353, .int .i64 t354, .int .i64 t355, .int .i64 t356, .int .i64 t357, .int .i64 t358, .int .i64 t359, .int .i64 t360, .int .i64 t361, .int .i64 t362, .int .i64 t363] 29 (0, 0)) (by (with_reducible repeat (first | refine blk_drewN ?_ _ | refine blk_drew ?_ | refine blk_alloc ?_ _)); exact BK365.out) hb)
              have n2_ := Aside0.mk (blk_below (g := gb388) (o := .cells #[.int .i64 t372, .int .i64 t373, .int .i64 t374, .int .i64 t375, .int .i64 t376, .int .i64 t377, .int .i64 t378, .int .i64 t379, .int .i64 t380, .int .i64 t381, .int .i64 t382, .int .i64 t383, .int .i64 t384, .int .i64 t385, .int .i64 t386] 29 (0, 0)) (by (with_reducible repeat (first | refine blk_drewN ?_ _ | refine blk_drew ?_ | refine blk_alloc ?_ _)); exact BK388.out) hb)
              have n3_ := Aside0.mk (below_step (by repeat (first | (with_reducible first | exact HB.out | apply below_alloc | apply pw_below_drewN | apply below_drew1 | refine below_set ?_ GE365.out | refine below_set ?_ GE388.out) | exact HB.out)) hb)
              clear HO_5
              clear BK365
              clear BK388
              clear HB
              have HO_5 := n0_
              have BK365 := n1_
              have BK388 := n2_
              have HB := n3_
              clear n0_ n1_ n2_ n3_
              (try clear hb)
              (try clear hb2)
              (try clear hk)
              (try clear hi)
              refine hK.out _ _ ⟨(blk_cell BK388.out 0).trans rfl, (blk_cell BK388.out 1).trans rfl, (blk_cell BK388.out 2).trans rfl, (blk_cell BK388.out 3).trans rfl, (blk_cell BK388.out 4).trans rfl, (blk_cell BK388.out 5).trans rfl, (blk_cell BK388.out 6).trans rfl, (blk_cell BK388.out 7).trans rfl, (blk_cell BK388.out 8).trans rfl, (blk_cell BK388.out 9).trans rfl, (blk_cell BK388.out 10).trans rfl, (blk_cell BK388.out 11).trans rfl, (blk_cell BK388.out 12).trans rfl, (blk_cell BK388.out 13).trans rfl, (blk_cell BK388.out 14).trans rfl, (blk_cell BK365.out 0).trans rfl, (blk_cell BK365.out 1).trans rfl, (blk_cell BK365.out 2).trans rfl, (blk_cell BK365.out 3).trans rfl, (blk_cell BK365.out 4).trans rfl, (blk_cell BK365.out 5).trans rfl, (blk_cell BK365.out 6).trans rfl, (blk_cell BK365.out 7).trans rfl, (blk_cell BK365.out 8).trans rfl, (blk_cell BK365.out 9).trans rfl, (blk_cell BK365.out 10).trans rfl, (blk_cell BK365.out 11).trans rfl, (blk_cell BK365.out 12).trans rfl, (blk_cell BK365.out 13).trans rfl, (blk_cell BK365.out 14).trans rfl⟩ (fun hHeld => ?_)
              clear hK K
              refine norm_ (a' := ?_) ?_ ?_
              rotate_left
              · show Act.put _ (some 71) _ = _
                simp only [Act.put, List.setIfInBounds_toArray, List.set_cons_zero, List.set_cons_succ, i64_w, i32_w]
                rfl
              refine pure_ (i := 24) (N := some 72) (v := ?_) (a' := ?_) #[true, true, true, true, true, true, true, true, true, true, true, true, true, true, true, true, true, true, true, true, true, true, true, true, true, false, false] rfl rfl (any_of HT_.out (by kernel_rfl)) (fun _ _ _ h => h) (Or.inl ⟨by rfl, ?_⟩) ?_ ?_
              rotate_left
              · intro w'
                go_simp
                with_reducible rfl
              rotate_left
              · simp only [Act.put, List.setIfInBounds_toArray, List.set_cons_zero, List.set_cons_succ, i64_w, i32_w]
                rfl
              refine pure_ (i := 25) (N := some 73) (v := ?_) (a' := ?_) #[true, true, true, true, true, true, true, true, true, true, true, true, true, true, true, true, true, true, true, true, true, true, true, true, true, true, false] rfl rfl (any_of HT_.out (by kernel_rfl)) (fun _ _ _ h => h) (Or.inl ⟨by rfl, ?_⟩) ?_ ?_
              rotate_left
              · intro w'
                go_simp
                with_reducible rfl
              rotate_left
              · simp only [Act.put, List.setIfInBounds_toArray, List.set_cons_zero, List.set_cons_succ, i64_w, i32_w]
                rfl
              refine pure_ (i := 26) (N := some 2) (v := ?_) (a' := ?_) #[true, true, true, true, true, true, true, true, true, true, true, true, true, true, true, true, true, true, true, true, true, true, true, true, true, true, true] rfl rfl (any_of HT_.out (by kernel_rfl)) (fun _ _ _ h => h) (Or.inl ⟨by rfl, ?_⟩) ?_ ?_
              rotate_left
              · intro w'
                go_simp
                with_reducible rfl
              rotate_left
              · simp only [Act.put, List.setIfInBounds_toArray, List.set_cons_zero, List.set_cons_succ, i64_w, i32_w]
                rfl
              refine done_ (done_of HT_.out (by kernel_rfl)) ?_
              try go_wp2
              go_ret
              have hlast := HL_.out
              exact ⟨by first | rfl | (simp [errW_none, errW_some] <;> rfl) | (simp [*, errW_none, errW_some] <;> rfl), by repeat (first | (with_reducible first | exact HB.out | apply below_alloc | apply pw_below_drewN | apply below_drew1 | refine below_set ?_ GE365.out | refine below_set ?_ GE388.out) | exact HB.out)⟩
        · rw [if_neg c25] at H
          have c25b0 : (t392 == t393) = false := beq_eq_false_iff_ne.mpr c25
          have c25b1 : (t392 != t393) = true := bne_iff_ne.mpr c25
          exact absurd (Option.some.inj H) (by decide)
      · rw [if_neg c22] at H
        have c22b0 : (t390 == (wrap64 (-t391))) = false := beq_eq_false_iff_ne.mpr c22
        have c22b1 : (t390 != (wrap64 (-t391))) = true := bne_iff_ne.mpr c22
        exact absurd (Option.some.inj H) (by decide)
    · replace c19 := Bool.eq_false_iff.mpr c19
      subst c19
      have H1 : (some false) = some true := by rw [if_neg (show ¬ (false = true) by decide)] at H; exact H
      clear H
      have H := H1
      clear H1
      exact absurd (Option.some.inj H) (by decide)
  · replace c18 := Bool.eq_false_iff.mpr c18
    subst c18
    have H1 : (some false) = some true := by rw [if_neg (show ¬ (false = true) by decide)] at H; exact H
    clear H
    have H := H1
    clear H1
    exact absurd (Option.some.inj H) (by decide)
end Go.Proofs.Ytlokmliannklaaa.Print
end

section
namespace Go.Proofs.Ytlokmliannklaaa.Print
open Go.RowKit Go.Proofs.YtlokmliannklaaaW.PrintWords Go.Proofs.YtlokmliannklaaaW.PrintLast Go.Proofs.YtlokmliannklaaaW.PrintMore
attribute [local go_sem] max2_int min2_int max_two min_two max_three min_three max_four min_four   -- for this text's walks alone
set_option linter.unusedVariables false
set_option linter.unusedSimpArgs false

theorem pacemakerlaw10_SlopeTurns_calls  (k : Nat) (A0 : Option Addr) (c0 : Nat) (l0 : List (S36)) (w : World) (hr0 : Kd.C k36 w A0 l0.length l0) (hc0 : l0.length ≤ c0) (h : pacemakerlaw10_SlopeTurns.f k l0 = some true) : Calls Try.prog 7 #[.slice A0 l0.length c0] w fun e w' => e = .returned (.bool true) ∧ Below w.heap.size w w' :=
  (pacemakerlaw10_SlopeTurns_calls_skel ).2.2.2.2.2 ⟨pacemakerlaw10_SlopeTurns_calls_p0 ⟩ ⟨pacemakerlaw10_SlopeTurns_calls_p1 ⟩ ⟨pacemakerlaw10_SlopeTurns_calls_p2 ⟩ ⟨pacemakerlaw10_SlopeTurns_calls_p3 ⟩ ⟨pacemakerlaw10_SlopeTurns_calls_p4 ⟩ k A0 c0 l0 w hr0 hc0 h
end Go.Proofs.Ytlokmliannklaaa.Print
end
