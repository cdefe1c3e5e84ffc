/- Printed by a program of this session: functions of the law and their walks. -/
import Derived.Test.YtlokmliannklaaaQP0
import Derived.Test.YtlokmliannklaaaQPrint3
import Derived.Test.YtlokmliannklaaaQPrint4
import Derived.Test.YtlokmliannklaaaQSkd
import Derived.Test.YtlokmliannklaaaQFitted
import Derived.Test.YtlokmliannklaaaQPrint14d
section
namespace Go.Proofs.Ytlokmliannklaaa.Print
open Go.RowKit Go.Proofs.YtlokmliannklaaaW.PrintWords Go.Proofs.YtlokmliannklaaaW.PrintLast Go.Proofs.YtlokmliannklaaaW.PrintMore
attribute [local go_sem] max2_int min2_int max_two min_two max_three min_three max_four min_four   -- for this text's walks alone
set_option linter.unusedVariables false
set_option linter.unusedSimpArgs false

/-- Kept away from the tactics. -/
structure pacemakerlaw10_SlopeTurns_calls_Kept (p : Prop) : Prop where mk :: (out : p)
set_option maxHeartbeats 8000000 in
set_option maxRecDepth 100000 in
noncomputable def pacemakerlaw10_SlopeTurns_calls_skel  : Σ' (P0 P1 P2 P3 P4 : Prop), pacemakerlaw10_SlopeTurns_calls_Kept P0 → pacemakerlaw10_SlopeTurns_calls_Kept P1 → pacemakerlaw10_SlopeTurns_calls_Kept P2 → pacemakerlaw10_SlopeTurns_calls_Kept P3 → pacemakerlaw10_SlopeTurns_calls_Kept P4 → (∀ (k : Nat) (A0 : Option Addr) (c0 : Nat) (l0 : List (S36)) (w : World) (hr0 : Kd.C k36 w A0 l0.length l0) (hc0 : l0.length ≤ c0) (h : pacemakerlaw10_SlopeTurns.f k l0 = some true), Calls Try.prog 7 #[.slice A0 l0.length c0] w fun e w' => e = .returned (.bool true) ∧ Below w.heap.size w w') := by
  refine ⟨?P0, ?P1, ?P2, ?P3, ?P4, fun hP0 hP1 hP2 hP3 hP4 k A0 c0 l0 w hr0 hc0 h => ?_⟩
  rotate_left 5
  focus
    have hu29 := Try.underlying29
    have hu36 := Try.underlying36
    have HR0 := Aside0.mk hr0
    have HC0 := Aside0.mk hc0
    clear hr0 hc0
    have HB := Aside0.mk (Below.refl w.heap.size w)
    have H : ((pacemakerlaw10_sampled.f l0).bind fun bt349 => (if (l0.length : Int) > 100 then (pacemakerlaw10_SlopeTurns.j0 k l0 true bt349.1 bt349.2.1 bt349.2.2.1 bt349.2.2.2.1 bt349.2.2.2.2.1 bt349.2.2.2.2.2.1 bt349.2.2.2.2.2.2.1 bt349.2.2.2.2.2.2.2.1 bt349.2.2.2.2.2.2.2.2.1 bt349.2.2.2.2.2.2.2.2.2.1 bt349.2.2.2.2.2.2.2.2.2.2.1 bt349.2.2.2.2.2.2.2.2.2.2.2.1 bt349.2.2.2.2.2.2.2.2.2.2.2.2.1 bt349.2.2.2.2.2.2.2.2.2.2.2.2.2.1 bt349.2.2.2.2.2.2.2.2.2.2.2.2.2.2.1) else (pacemakerlaw10_SlopeTurns.j0 k l0 (!bt349.2.2.2.2.2.2.2.2.2.2.2.2.2.2.2) bt349.1 bt349.2.1 bt349.2.2.1 bt349.2.2.2.1 bt349.2.2.2.2.1 bt349.2.2.2.2.2.1 bt349.2.2.2.2.2.2.1 bt349.2.2.2.2.2.2.2.1 bt349.2.2.2.2.2.2.2.2.1 bt349.2.2.2.2.2.2.2.2.2.1 bt349.2.2.2.2.2.2.2.2.2.2.1 bt349.2.2.2.2.2.2.2.2.2.2.2.1 bt349.2.2.2.2.2.2.2.2.2.2.2.2.1 bt349.2.2.2.2.2.2.2.2.2.2.2.2.2.1 bt349.2.2.2.2.2.2.2.2.2.2.2.2.2.2.1))) = some true := h
    clear h
    replace H := Option.bind_eq_some_iff.mp H
    obtain ⟨⟨t349, t350, t351, t352, t353, t354, t355, t356, t357, t358, t359, t360, t361, t362, t363, t364⟩, A20, H⟩ := H
    replace H : (if (l0.length : Int) > 100 then (pacemakerlaw10_SlopeTurns.j0 k l0 true t349 t350 t351 t352 t353 t354 t355 t356 t357 t358 t359 t360 t361 t362 t363) else (pacemakerlaw10_SlopeTurns.j0 k l0 (!t364) t349 t350 t351 t352 t353 t354 t355 t356 t357 t358 t359 t360 t361 t362 t363)) = some true := H
    have A2 := Aside0.mk A20
    clear A20
    have HC3 := Aside0.mk H
    clear H
    go_enter Try.func7, Try.ntmps7
    go_upto_region 2 with (first | ((with_reducible refine gate_callee (f := 18) rfl ?_); refine goesL_ (some 11) rfl rfl Try.func18 (by kernel_rfl) rfl #[.slice A0 l0.length c0] rfl (by (try simp only [List.map_toArray, List.map_cons, List.map_nil]); first | done | rfl | (simp only [List.length_drop, List.length_take]; rfl)) ?_; (with_reducible refine (pacemakerlaw10_sampled.calls _ _ l0 t349 t350 t351 t352 t353 t354 t355 t356 t357 t358 t359 t360 t361 t362 t363 t364 _ ?side1 ?side2 A2.out).mono ?_); (case side1 => repeat (first | exact HR0.out | (with_reducible refine Kd.C_alloc ?_ _) | (with_reducible refine Kd.C_drewN ?_ _) | (with_reducible refine Kd.C_drew ?_))); (case side2 => exact HC0.out); rintro e w4 ⟨rfl, hb⟩; refine ⟨_, rfl, ?_⟩; have n0_ := Aside0.mk (below_step (by repeat (first | (with_reducible first | exact HB.out | apply below_alloc | apply pw_below_drewN | apply below_drew1) | exact HB.out)) hb); clear HB; have HB := n0_; clear n0_; (try clear hb); (try clear hb2); (try clear hk); (try clear hi)) | ((with_reducible refine gate_dst (N := 3) rfl ?_); refine box_event ?hg (N := 3) ?hd (cs := #[.int .i64 0, .int .i64 0, .int .i64 0, .int .i64 0, .int .i64 0, .int .i64 0, .int .i64 0, .int .i64 0, .int .i64 0, .int .i64 0, .int .i64 0, .int .i64 0, .int .i64 0, .int .i64 0, .int .i64 0]) (t := 29) ?hr ?_; (case hd => rfl); (case hg => rfl); (case hr => first | (go_simp; done) | (go_simp; rfl)); intro gb365 hg w5 hbox hb; have n0_ := Aside0.mk (below_step (by repeat (first | (with_reducible first | exact HB.out | apply below_alloc | apply pw_below_drewN | apply below_drew1) | exact HB.out)) hb); have n1_ := Aside0.mk (hbox); have n2_ := Aside0.mk ((by rw [hg]; exact (below_size (by repeat (first | (with_reducible first | exact HB.out | apply below_alloc | apply pw_below_drewN | apply below_drew1) | exact HB.out))) : w.heap.size ≤ gb365)); have n3_ := Aside0.mk ((by rw [hg]; exact (below_size (by repeat (first | (with_reducible first | exact HB.out | apply below_alloc | apply pw_below_drewN | apply below_drew1) | exact HB.out))) : w.heap.size ≤ gb365)); clear HB; have HB := n0_; have BK365 := n1_; have GW365 := n2_; have GE365 := n3_; clear n0_ n1_ n2_ n3_; clear hb hbox hg; have hcz6_0 : w5.cell? ⟨gb365, 0, none⟩ = some (.int .i64 0) := (blk_cell BK365.out 0).trans rfl; have hcz6_1 : w5.cell? ⟨gb365, 1, none⟩ = some (.int .i64 0) := (blk_cell BK365.out 1).trans rfl; have hcz6_2 : w5.cell? ⟨gb365, 2, none⟩ = some (.int .i64 0) := (blk_cell BK365.out 2).trans rfl; have hcz6_3 : w5.cell? ⟨gb365, 3, none⟩ = some (.int .i64 0) := (blk_cell BK365.out 3).trans rfl; have hcz6_4 : w5.cell? ⟨gb365, 4, none⟩ = some (.int .i64 0) := (blk_cell BK365.out 4).trans rfl; have hcz6_5 : w5.cell? ⟨gb365, 5, none⟩ = some (.int .i64 0) := (blk_cell BK365.out 5).trans rfl; have hcz6_6 : w5.cell? ⟨gb365, 6, none⟩ = some (.int .i64 0) := (blk_cell BK365.out 6).trans rfl; have hcz6_7 : w5.cell? ⟨gb365, 7, none⟩ = some (.int .i64 0) := (blk_cell BK365.out 7).trans rfl; have hcz6_8 : w5.cell? ⟨gb365, 8, none⟩ = some (.int .i64 0) := (blk_cell BK365.out 8).trans rfl; have hcz6_9 : w5.cell? ⟨gb365, 9, none⟩ = some (.int .i64 0) := (blk_cell BK365.out 9).trans rfl; have hcz6_10 : w5.cell? ⟨gb365, 10, none⟩ = some (.int .i64 0) := (blk_cell BK365.out 10).trans rfl; have hcz6_11 : w5.cell? ⟨gb365, 11, none⟩ = some (.int .i64 0) := (blk_cell BK365.out 11).trans rfl; have hcz6_12 : w5.cell? ⟨gb365, 12, none⟩ = some (.int .i64 0) := (blk_cell BK365.out 12).trans rfl; have hcz6_13 : w5.cell? ⟨gb365, 13, none⟩ = some (.int .i64 0) := (blk_cell BK365.out 13).trans rfl; have hcz6_14 : w5.cell? ⟨gb365, 14, none⟩ = some (.int .i64 0) := (blk_cell BK365.out 14).trans rfl; have hfz6_0 := blk_frozen BK365.out 0; have hfz6_1 := blk_frozen BK365.out 1; have hfz6_2 := blk_frozen BK365.out 2; have hfz6_3 := blk_frozen BK365.out 3; have hfz6_4 := blk_frozen BK365.out 4; have hfz6_5 := blk_frozen BK365.out 5; have hfz6_6 := blk_frozen BK365.out 6; have hfz6_7 := blk_frozen BK365.out 7; have hfz6_8 := blk_frozen BK365.out 8; have hfz6_9 := blk_frozen BK365.out 9; have hfz6_10 := blk_frozen BK365.out 10; have hfz6_11 := blk_frozen BK365.out 11; have hfz6_12 := blk_frozen BK365.out 12; have hfz6_13 := blk_frozen BK365.out 13; have hfz6_14 := blk_frozen BK365.out 14))
    (try simp only [Act.put, List.setIfInBounds_toArray, List.set_cons_zero, List.set_cons_succ])
    go_cut [20] (fun v20 wc => ∃ (kq : Nat) (x20_2 : Bool), v20 = .bool x20_2 ∧ Aside0 (pacemakerlaw10_SlopeTurns.j0 kq l0 x20_2 t349 t350 t351 t352 t353 t354 t355 t356 t357 t358 t359 t360 t361 t362 t363 = some true) ∧ Aside0 (kq ≤ k) ∧ Aside0 (wc.heap[gb365]? = some (.cells #[.int .i64 t349, .int .i64 t350, .int .i64 t351, .int .i64 t352, .int .i64 t353, .int .i64 t354, .int .i64 t355, .int .i64 t356, .int .i64 t357, .int .i64 t358, .int .i64 t359, .int .i64 t360, .int .i64 t361, .int .i64 t362, .int .i64 t363] 29 (0, 0))) ∧ Aside0 (Below w.heap.size w wc))
    case first =>
      have H := HC3.out
      clear HC3
      by_cases c7 : (l0.length : Int) > 100
      · rename_i z0_ z1_ z2_ z3_ z4_ z5_ z6_ z7_ z8_
        revert k A0 c0 l0 w hu29 hu36 HR0 HC0 t349 t350 t351 t352 t353 t354 t355 t356 t357 t358 t359 t360 t361 t362 t363 t364 A2 z0_ w4 gb365 w5 HB BK365 GW365 GE365 hcz6_0 hcz6_1 hcz6_2 hcz6_3 hcz6_4 hcz6_5 hcz6_6 hcz6_7 hcz6_8 hcz6_9 hcz6_10 hcz6_11 hcz6_12 hcz6_13 hcz6_14 hfz6_0 hfz6_1 hfz6_2 hfz6_3 hfz6_4 hfz6_5 hfz6_6 hfz6_7 hfz6_8 hfz6_9 hfz6_10 hfz6_11 hfz6_12 hfz6_13 hfz6_14 z1_ z2_ z3_ z4_ z5_ z6_ z7_ z8_ H c7
        exact hP0.out
      · rename_i z0_ z1_ z2_ z3_ z4_ z5_ z6_ z7_ z8_
        revert k A0 c0 l0 w hu29 hu36 HR0 HC0 t349 t350 t351 t352 t353 t354 t355 t356 t357 t358 t359 t360 t361 t362 t363 t364 A2 z0_ w4 gb365 w5 HB BK365 GW365 GE365 hcz6_0 hcz6_1 hcz6_2 hcz6_3 hcz6_4 hcz6_5 hcz6_6 hcz6_7 hcz6_8 hcz6_9 hcz6_10 hcz6_11 hcz6_12 hcz6_13 hcz6_14 hfz6_0 hfz6_1 hfz6_2 hfz6_3 hfz6_4 hfz6_5 hfz6_6 hfz6_7 hfz6_8 hfz6_9 hfz6_10 hfz6_11 hfz6_12 hfz6_13 hfz6_14 z1_ z2_ z3_ z4_ z5_ z6_ z7_ z8_ H c7
        exact hP1.out
    case rest =>
      clear HC3
      try clear c1
      try clear p2
      try clear c7
      try clear c7b0
      try clear c7b1
      try clear hcz6_0
      try clear hcz6_1
      try clear hcz6_10
      try clear hcz6_11
      try clear hcz6_12
      try clear hcz6_13
      try clear hcz6_14
      try clear hcz6_2
      try clear hcz6_3
      try clear hcz6_4
      try clear hcz6_5
      try clear hcz6_6
      try clear hcz6_7
      try clear hcz6_8
      try clear hcz6_9
      try clear hfz6_0
      try clear hfz6_1
      try clear hfz6_10
      try clear hfz6_11
      try clear hfz6_12
      try clear hfz6_13
      try clear hfz6_14
      try clear hfz6_2
      try clear hfz6_3
      try clear hfz6_4
      try clear hfz6_5
      try clear hfz6_6
      try clear hfz6_7
      try clear hfz6_8
      try clear hfz6_9
      obtain ⟨kq, x20_2, rfl, HA, HJ2, BK365, HB⟩ := hcut
      cases kq with
      | zero => exact absurd HA.out (by simp [pacemakerlaw10_SlopeTurns.j0])
      | succ kj2 =>
        have H := HA.out
        clear HA
        simp only [pacemakerlaw10_SlopeTurns.j0] at H
        by_cases c8 : x20_2 = true
        · rename_i z0_ z1_ z2_ z3_ z4_ z5_ z6_
          revert k A0 c0 l0 w hu29 hu36 HR0 HC0 t349 t350 t351 t352 t353 t354 t355 t356 t357 t358 t359 t360 t361 t362 t363 t364 A2 z0_ w4 gb365 w5 z1_ z2_ GW365 GE365 z3_ z4_ z5_ z6_ wc u9 u10 u11 u12 u13 u14 u15 u16 u17 u18 u19 u21 u22 u23 u24 u25 u26 u27 u28 u29 u30 u31 u32 u33 u34 u35 u36 u37 u38 u39 u40 u41 u42 u43 u44 u45 u46 u47 u48 u49 u50 u51 u52 u53 u54 u55 u56 u57 u58 u59 u60 u61 u62 u63 u64 u65 u66 u67 u68 u69 u70 u71 u72 u73 x20_2 BK365 HB kj2 HJ2 H c8
          exact hP2.out
        · replace c8 := Bool.eq_false_iff.mpr c8
          subst c8
          have H1 : (pacemakerlaw10_SlopeTurns.l0 kj2 l0 ([] : List (S36)) 0 t349 t350 t351 t352 t353 t354 t355 t356 t357 t358 t359 t360 t361 t362 t363) = some true := by rw [if_neg (show ¬ (false = true) by decide)] at H; exact H
          clear H
          have H := H1
          clear H1
          have H' := Aside0.mk H
          clear H
          go_wp2
          go_loopg [5, 6] kj2 (fun kq v5 v6 w' => ∃ (x5_2 : List (S36)) (x6_2 : Int), v6 = .int .i64 x6_2 ∧ Aside0 (pacemakerlaw10_SlopeTurns.l0 kq l0 x5_2 x6_2 t349 t350 t351 t352 t353 t354 t355 t356 t357 t358 t359 t360 t361 t362 t363 = some true) ∧ Aside0 (kq ≤ kj2) ∧ Aside0 (Kd.R k36 36 w' w.heap.size (fun _ => True) v5 x5_2) ∧ Aside0 (w'.heap[gb365]? = some (.cells #[.int .i64 t349, .int .i64 t350, .int .i64 t351, .int .i64 t352, .int .i64 t353, .int .i64 t354, .int .i64 t355, .int .i64 t356, .int .i64 t357, .int .i64 t358, .int .i64 t359, .int .i64 t360, .int .i64 t361, .int .i64 t362, .int .i64 t363] 29 (0, 0))) ∧ Aside0 (Below w.heap.size w w'))
          case atStart => exact ⟨(([] : List (S36))), (0), (by first | rfl | (simp; done) | (simp [*]; done)), H', ⟨Nat.le_refl _⟩, ⟨by first | exact Kd.R_nil _ _ _ _ _ | exact Kd.N_nil _ _ _ _ _ | exact Kd.V_nil _ _ _ _ _ | exact Kd.Q_nil _ _ _ _ _ | exact Kd.S_nil _ _ _ _ _⟩, ⟨by (with_reducible repeat (first | refine blk_drewN ?_ _ | refine blk_drew ?_ | refine blk_alloc ?_ _)); exact BK365.out⟩, ⟨by repeat (first | (with_reducible first | exact HB.out | apply below_alloc | apply pw_below_drewN | apply below_drew1 | refine below_set ?_ GE365.out) | exact HB.out)⟩⟩
          case round =>
            clear H'
            try clear c1
            try clear p2
            try clear c7
            try clear c7b0
            try clear c7b1
            try clear c8
            try clear c9
            try clear hcz6_0
            try clear hcz6_1
            try clear hcz6_10
            try clear hcz6_11
            try clear hcz6_12
            try clear hcz6_13
            try clear hcz6_14
            try clear hcz6_2
            try clear hcz6_3
            try clear hcz6_4
            try clear hcz6_5
            try clear hcz6_6
            try clear hcz6_7
            try clear hcz6_8
            try clear hcz6_9
            try clear hfz6_0
            try clear hfz6_1
            try clear hfz6_10
            try clear hfz6_11
            try clear hfz6_12
            try clear hfz6_13
            try clear hfz6_14
            try clear hfz6_2
            try clear hfz6_3
            try clear hfz6_4
            try clear hfz6_5
            try clear hfz6_6
            try clear hfz6_7
            try clear hfz6_8
            try clear hfz6_9
            try clear p2
            obtain ⟨x5_2, x6_2, rfl, HA, HK2, HO_5, BK365, HB⟩ := hrel
            cases gk with
            | zero => exact absurd HA.out (by simp [pacemakerlaw10_SlopeTurns.l0])
            | succ k2 =>
              have H := HA.out
              clear HA
              simp only [pacemakerlaw10_SlopeTurns.l0] at H
              by_cases c11 : x6_2 < (l0.length : Int)
              · rename_i z0_ z1_ z2_ z3_ z4_ z5_ z6_ z7_ z8_ z9_ z10_ z11_ z12_ z13_ z14_ z15_ z16_ z17_ z18_ z19_ z20_ z21_ z22_ z23_ z24_ z25_ z26_ z27_ z28_ z29_ z30_ z31_
                revert k A0 c0 l0 w hu29 hu36 HR0 HC0 t349 t350 t351 t352 t353 t354 t355 t356 t357 t358 t359 t360 t361 t362 t363 t364 A2 z0_ w4 gb365 w5 z1_ z2_ GW365 GE365 wc u9 u10 u11 u12 u13 u14 u15 u16 u17 u18 u19 u21 z3_ z4_ z5_ z6_ z7_ z8_ z9_ z10_ z11_ z12_ z13_ z14_ z15_ z16_ z17_ z18_ z19_ z20_ z21_ z22_ z23_ u43 u44 u45 u46 u47 u48 u49 u50 u51 u52 u53 u54 u55 u56 u57 u58 u59 u60 u61 u62 u63 u64 u65 u66 u67 u68 u69 u70 u71 u72 u73 z24_ z25_ kj2 HJ2 z26_ z27_ wr u5 u22 u23 u24 u25 u26 u27 u28 u29 u30 u31 u32 u33 u34 u35 u36 u37 u38 u39 u40 u41 u42 z28_ z29_ z30_ x5_2 x6_2 HO_5 BK365 HB k2 z31_ HK2 H c11
                exact hP3.out
              · rename_i z0_ z1_ z2_ z3_ z4_ z5_ z6_ z7_ z8_ z9_ z10_ z11_ z12_ z13_ z14_ z15_ z16_ z17_ z18_ z19_ z20_ z21_ z22_ z23_ z24_ z25_ z26_ z27_ z28_ z29_ z30_ z31_
                revert k A0 c0 l0 w hu29 hu36 HR0 HC0 t349 t350 t351 t352 t353 t354 t355 t356 t357 t358 t359 t360 t361 t362 t363 t364 A2 z0_ w4 gb365 w5 z1_ z2_ GW365 GE365 wc u9 u10 u11 u12 u13 u14 u15 u16 u17 u18 u19 u21 z3_ z4_ z5_ z6_ z7_ z8_ z9_ z10_ z11_ z12_ z13_ z14_ z15_ z16_ z17_ z18_ z19_ z20_ z21_ z22_ z23_ u43 u44 u45 u46 u47 u48 u49 u50 u51 u52 u53 u54 u55 u56 u57 u58 u59 u60 u61 u62 u63 u64 u65 u66 u67 u68 u69 u70 u71 u72 u73 z24_ z25_ kj2 HJ2 z26_ z27_ wr u5 u22 u23 u24 u25 u26 u27 u28 u29 u30 u31 u32 u33 u34 u35 u36 u37 u38 u39 u40 u41 u42 z28_ z29_ z30_ x5_2 x6_2 HO_5 BK365 HB k2 z31_ HK2 H c11
                exact hP4.out
end Go.Proofs.Ytlokmliannklaaa.Print
end

section
namespace Go.Proofs.Ytlokmliannklaaa.Print
open Go.RowKit Go.Proofs.YtlokmliannklaaaW.PrintWords Go.Proofs.YtlokmliannklaaaW.PrintLast Go.Proofs.YtlokmliannklaaaW.PrintMore
attribute [local go_sem] max2_int min2_int max_two min_two max_three min_three max_four min_four   -- for this text's walks alone
set_option linter.unusedVariables false
set_option linter.unusedSimpArgs false

set_option maxHeartbeats 8000000 in
set_option maxRecDepth 100000 in
theorem pacemakerlaw10_SlopeTurns_calls_p0  : (pacemakerlaw10_SlopeTurns_calls_skel ).1 := by
  intro k A0 c0 l0 w hu29 hu36 HR0 HC0 t349 t350 t351 t352 t353 t354 t355 t356 t357 t358 t359 t360 t361 t362 t363 t364 A2 z0_ w4 gb365 w5 HB BK365 GW365 GE365 hcz6_0 hcz6_1 hcz6_2 hcz6_3 hcz6_4 hcz6_5 hcz6_6 hcz6_7 hcz6_8 hcz6_9 hcz6_10 hcz6_11 hcz6_12 hcz6_13 hcz6_14 hfz6_0 hfz6_1 hfz6_2 hfz6_3 hfz6_4 hfz6_5 hfz6_6 hfz6_7 hfz6_8 hfz6_9 hfz6_10 hfz6_11 hfz6_12 hfz6_13 hfz6_14 z1_ z2_ z3_ z4_ z5_ z6_ z7_ z8_ H c7
  rw [if_pos c7] at H
  have c7b0 : decide (100 < (l0.length : Int)) = true := decide_eq_true c7
  have c7b1 : decide (100 < l0.length) = true := decide_eq_true (by omega)
  clear c7
  (first | rw [c7b0] | (simp only [i64_w, i32_w]; rw [c7b0]) | skip)
  have H' := Aside0.mk H
  clear H
  go_wp2
  go_meet
  case rel => exact ⟨_, (true), (by first | rfl | (simp; done) | (simp [*]; done)), H', ⟨by first | omega | exact Nat.le_refl _⟩, ⟨by (with_reducible repeat (first | refine blk_drewN ?_ _ | refine blk_drew ?_ | refine blk_alloc ?_ _)); refine blk_put (cs := #[.int .i64 t349, .int .i64 t350, .int .i64 t351, .int .i64 t352, .int .i64 t353, .int .i64 t354, .int .i64 t355, .int .i64 t356, .int .i64 t357, .int .i64 t358, .int .i64 t359, .int .i64 t360, .int .i64 t361, .int .i64 t362, .int .i64 0]) ?_ 14 _ rfl; (with_reducible repeat (first | refine blk_drewN ?_ _ | refine blk_drew ?_ | refine blk_alloc ?_ _)); refine blk_put (cs := #[.int .i64 t349, .int .i64 t350, .int .i64 t351, .int .i64 t352, .int .i64 t353, .int .i64 t354, .int .i64 t355, .int .i64 t356, .int .i64 t357, .int .i64 t358, .int .i64 t359, .int .i64 t360, .int .i64 t361, .int .i64 0, .int .i64 0]) ?_ 13 _ rfl; (with_reducible repeat (first | refine blk_drewN ?_ _ | refine blk_drew ?_ | refine blk_alloc ?_ _)); refine blk_put (cs := #[.int .i64 t349, .int .i64 t350, .int .i64 t351, .int .i64 t352, .int .i64 t353, .int .i64 t354, .int .i64 t355, .int .i64 t356, .int .i64 t357, .int .i64 t358, .int .i64 t359, .int .i64 t360, .int .i64 0, .int .i64 0, .int .i64 0]) ?_ 12 _ rfl; (with_reducible repeat (first | refine blk_drewN ?_ _ | refine blk_drew ?_ | refine blk_alloc ?_ _)); refine blk_put (cs := #[.int .i64 t349, .int .i64 t350, .int .i64 t351, .int .i64 t352, .int .i64 t353, .int .i64 t354, .int .i64 t355, .int .i64 t356, .int .i64 t357, .int .i64 t358, .int .i64 t359, .int .i64 0, .int .i64 0, .int .i64 0, .int .i64 0]) ?_ 11 _ rfl; (with_reducible repeat (first | refine blk_drewN ?_ _ | refine blk_drew ?_ | refine blk_alloc ?_ _)); refine blk_put (cs := #[.int .i64 t349, .int .i64 t350, .int .i64 t351, .int .i64 t352, .int .i64 t353, .int .i64 t354, .int .i64 t355, .int .i64 t356, .int .i64 t357, .int .i64 t358, .int .i64 0, .int .i64 0, .int .i64 0, .int .i64 0, .int .i64 0]) ?_ 10 _ rfl; (with_reducible repeat (first | refine blk_drewN ?_ _ | refine blk_drew ?_ | refine blk_alloc ?_ _)); refine blk_put (cs := #[.int .i64 t349, .int .i64 t350, .int .i64 t351, .int .i64 t352, .int .i64 t353, .int .i64 t354, .int .i64 t355, .int .i64 t356, .int .i64 t357, .int .i64 0, .int .i64 0, .int .i64 0, .int .i64 0, .int .i64 0, .int .i64 0]) ?_ 9 _ rfl; (with_reducible repeat (first | refine blk_drewN ?_ _ | refine blk_drew ?_ | refine blk_alloc ?_ _)); refine blk_put (cs := #[.int .i64 t349, .int .i64 t350, .int .i64 t351, .int .i64 t352, .int .i64 t353, .int .i64 t354, .int .i64 t355, .int .i64 t356, .int .i64 0, .int .i64 0, .int .i64 0, .int .i64 0, .int .i64 0, .int .i64 0, .int .i64 0]) ?_ 8 _ rfl; (with_reducible repeat (first | refine blk_drewN ?_ _ | refine blk_drew ?_ | refine blk_alloc ?_ _)); refine blk_put (cs := #[.int .i64 t349, .int .i64 t350, .int .i64 t351, .int .i64 t352, .int .i64 t353, .int .i64 t354, .int .i64 t355, .int .i64 0, .int .i64 0, .int .i64 0, .int .i64 0, .int .i64 0, .int .i64 0, .int .i64 0, .int .i64 0]) ?_ 7 _ rfl; (with_reducible repeat (first | refine blk_drewN ?_ _ | refine blk_drew ?_ | refine blk_alloc ?_ _)); refine blk_put (cs := #[.int .i64 t349, .int .i64 t350, .int .i64 t351, .int .i64 t352, .int .i64 t353, .int .i64 t354, .int .i64 0, .int .i64 0, .int .i64 0, .int .i64 0, .int .i64 0, .int .i64 0, .int .i64 0, .int .i64 0, .int .i64 0]) ?_ 6 _ rfl; (with_reducible repeat (first | refine blk_drewN ?_ _ | refine blk_drew ?_ | refine blk_alloc ?_ _)); refine blk_put (cs := #[.int .i64 t349, .int .i64 t350, .int .i64 t351, .int .i64 t352, .int .i64 t353, .int .i64 0, .int .i64 0, .int .i64 0, .int .i64 0, .int .i64 0, .int .i64 0, .int .i64 0, .int .i64 0, .int .i64 0, .int .i64 0]) ?_ 5 _ rfl; (with_reducible repeat (first | refine blk_drewN ?_ _ | refine blk_drew ?_ | refine blk_alloc ?_ _)); refine blk_put (cs := #[.int .i64 t349, .int .i64 t350, .int .i64 t351, .int .i64 t352, .int .i64 0, .int .i64 0, .int .i64 0, .int .i64 0, .int .i64 0, .int .i64 0, .int .i64 0, .int .i64 0, .int .i64 0, .int .i64 0, .int .i64 0]) ?_ 4 _ rfl; (with_reducible repeat (first | refine blk_drewN ?_ _ | refine blk_drew ?_ | refine blk_alloc ?_ _)); refine blk_put (cs := #[.int .i64 t349, .int .i64 t350, .int .i64 t351, .int .i64 0, .int .i64 0, .int .i64 0, .int .i64 0, .int .i64 0, .int .i64 0, .int .i64 0, .int .i64 0, .int .i64 0, .int .i64 0, .int .i64 0, .int .i64 0]) ?_ 3 _ rfl; (with_reducible repeat (first | refine blk_drewN ?_ _ | refine blk_drew ?_ | refine blk_alloc ?_ _)); refine blk_put (cs := #[.int .i64 t349, .int .i64 t350, .int .i64 0, .int .i64 0, .int .i64 0, .int .i64 0, .int .i64 0, .int .i64 0, .int .i64 0, .int .i64 0, .int .i64 0, .int .i64 0, .int .i64 0, .int .i64 0, .int .i64 0]) ?_ 2 _ rfl; (with_reducible repeat (first | refine blk_drewN ?_ _ | refine blk_drew ?_ | refine blk_alloc ?_ _)); refine blk_put (cs := #[.int .i64 t349, .int .i64 0, .int .i64 0, .int .i64 0, .int .i64 0, .int .i64 0, .int .i64 0, .int .i64 0, .int .i64 0, .int .i64 0, .int .i64 0, .int .i64 0, .int .i64 0, .int .i64 0, .int .i64 0]) ?_ 1 _ rfl; (with_reducible repeat (first | refine blk_drewN ?_ _ | refine blk_drew ?_ | refine blk_alloc ?_ _)); refine blk_put (cs := #[.int .i64 0, .int .i64 0, .int .i64 0, .int .i64 0, .int .i64 0, .int .i64 0, .int .i64 0, .int .i64 0, .int .i64 0, .int .i64 0, .int .i64 0, .int .i64 0, .int .i64 0, .int .i64 0, .int .i64 0]) ?_ 0 _ rfl; (with_reducible repeat (first | refine blk_drewN ?_ _ | refine blk_drew ?_ | refine blk_alloc ?_ _)); exact BK365.out⟩, ⟨by repeat (first | (with_reducible first | exact HB.out | apply below_alloc | apply pw_below_drewN | apply below_drew1 | refine below_set ?_ GE365.out) | exact HB.out)⟩⟩
end Go.Proofs.Ytlokmliannklaaa.Print
end

section
namespace Go.Proofs.Ytlokmliannklaaa.Print
open Go.RowKit Go.Proofs.YtlokmliannklaaaW.PrintWords Go.Proofs.YtlokmliannklaaaW.PrintLast Go.Proofs.YtlokmliannklaaaW.PrintMore
attribute [local go_sem] max2_int min2_int max_two min_two max_three min_three max_four min_four   -- for this text's walks alone
set_option linter.unusedVariables false
set_option linter.unusedSimpArgs false

set_option maxHeartbeats 8000000 in
set_option maxRecDepth 100000 in
theorem pacemakerlaw10_SlopeTurns_calls_p1  : (pacemakerlaw10_SlopeTurns_calls_skel ).2.1 := by
  intro k A0 c0 l0 w hu29 hu36 HR0 HC0 t349 t350 t351 t352 t353 t354 t355 t356 t357 t358 t359 t360 t361 t362 t363 t364 A2 z0_ w4 gb365 w5 HB BK365 GW365 GE365 hcz6_0 hcz6_1 hcz6_2 hcz6_3 hcz6_4 hcz6_5 hcz6_6 hcz6_7 hcz6_8 hcz6_9 hcz6_10 hcz6_11 hcz6_12 hcz6_13 hcz6_14 hfz6_0 hfz6_1 hfz6_2 hfz6_3 hfz6_4 hfz6_5 hfz6_6 hfz6_7 hfz6_8 hfz6_9 hfz6_10 hfz6_11 hfz6_12 hfz6_13 hfz6_14 z1_ z2_ z3_ z4_ z5_ z6_ z7_ z8_ H c7
  rw [if_neg c7] at H
  have c7b0 : decide (100 < (l0.length : Int)) = false := decide_eq_false c7
  have c7b1 : decide (100 < l0.length) = false := decide_eq_false (by omega)
  clear c7
  (first | rw [c7b0] | (simp only [i64_w, i32_w]; rw [c7b0]) | skip)
  have H' := Aside0.mk H
  clear H
  go_wp2
  go_meet
  case rel => exact ⟨_, (!t364), (by first | rfl | (simp; done) | (simp [*]; done)), H', ⟨by first | omega | exact Nat.le_refl _⟩, ⟨by (with_reducible repeat (first | refine blk_drewN ?_ _ | refine blk_drew ?_ | refine blk_alloc ?_ _)); refine blk_put (cs := #[.int .i64 t349, .int .i64 t350, .int .i64 t351, .int .i64 t352, .int .i64 t353, .int .i64 t354, .int .i64 t355, .int .i64 t356, .int .i64 t357, .int .i64 t358, .int .i64 t359, .int .i64 t360, .int .i64 t361, .int .i64 t362, .int .i64 0]) ?_ 14 _ rfl; (with_reducible repeat (first | refine blk_drewN ?_ _ | refine blk_drew ?_ | refine blk_alloc ?_ _)); refine blk_put (cs := #[.int .i64 t349, .int .i64 t350, .int .i64 t351, .int .i64 t352, .int .i64 t353, .int .i64 t354, .int .i64 t355, .int .i64 t356, .int .i64 t357, .int .i64 t358, .int .i64 t359, .int .i64 t360, .int .i64 t361, .int .i64 0, .int .i64 0]) ?_ 13 _ rfl; (with_reducible repeat (first | refine blk_drewN ?_ _ | refine blk_drew ?_ | refine blk_alloc ?_ _)); refine blk_put (cs := #[.int .i64 t349, .int .i64 t350, .int .i64 t351, .int .i64 t352, .int .i64 t353, .int .i64 t354, .int .i64 t355, .int .i64 t356, .int .i64 t357, .int .i64 t358, .int .i64 t359, .int .i64 t360, .int .i64 0, .int .i64 0, .int .i64 0]) ?_ 12 _ rfl; (with_reducible repeat (first | refine blk_drewN ?_ _ | refine blk_drew ?_ | refine blk_alloc ?_ _)); refine blk_put (cs := #[.int .i64 t349, .int .i64 t350, .int .i64 t351, .int .i64 t352, .int .i64 t353, .int .i64 t354, .int .i64 t355, .int .i64 t356, .int .i64 t357, .int .i64 t358, .int .i64 t359, .int .i64 0, .int .i64 0, .int .i64 0, .int .i64 0]) ?_ 11 _ rfl; (with_reducible repeat (first | refine blk_drewN ?_ _ | refine blk_drew ?_ | refine blk_alloc ?_ _)); refine blk_put (cs := #[.int .i64 t349, .int .i64 t350, .int .i64 t351, .int .i64 t352, .int .i64 t353, .int .i64 t354, .int .i64 t355, .int .i64 t356, .int .i64 t357, .int .i64 t358, .int .i64 0, .int .i64 0, .int .i64 0, .int .i64 0, .int .i64 0]) ?_ 10 _ rfl; (with_reducible repeat (first | refine blk_drewN ?_ _ | refine blk_drew ?_ | refine blk_alloc ?_ _)); refine blk_put (cs := #[.int .i64 t349, .int .i64 t350, .int .i64 t351, .int .i64 t352, .int .i64 t353, .int .i64 t354, .int .i64 t355, .int .i64 t356, .int .i64 t357, .int .i64 0, .int .i64 0, .int .i64 0, .int .i64 0, .int .i64 0, .int .i64 0]) ?_ 9 _ rfl; (with_reducible repeat (first | refine blk_drewN ?_ _ | refine blk_drew ?_ | refine blk_alloc ?_ _)); refine blk_put (cs := #[.int .i64 t349, .int .i64 t350, .int .i64 t351, .int .i64 t352, .int .i64 t353, .int .i64 t354, .int .i64 t355, .int .i64 t356, .int .i64 0, .int .i64 0, .int .i64 0, .int .i64 0, .int .i64 0, .int .i64 0, .int .i64 0]) ?_ 8 _ rfl; (with_reducible repeat (first | refine blk_drewN ?_ _ | refine blk_drew ?_ | refine blk_alloc ?_ _)); refine blk_put (cs := #[.int .i64 t349, .int .i64 t350, .int .i64 t351, .int .i64 t352, .int .i64 t353, .int .i64 t354, .int .i64 t355, .int .i64 0, .int .i64 0, .int .i64 0, .int .i64 0, .int .i64 0, .int .i64 0, .int .i64 0, .int .i64 0]) ?_ 7 _ rfl; (with_reducible repeat (first | refine blk_drewN ?_ _ | refine blk_drew ?_ | refine blk_alloc ?_ _)); refine blk_put (cs := #[.int .i64 t349, .int .i64 t350, .int .i64 t351, .int .i64 t352, .int .i64 t353, .int .i64 t354, .int .i64 0, .int .i64 0, .int .i64 0, .int .i64 0, .int .i64 0, .int .i64 0, .int .i64 0, .int .i64 0, .int .i64 0]) ?_ 6 _ rfl; (with_reducible repeat (first | refine blk_drewN ?_ _ | refine blk_drew ?_ | refine blk_alloc ?_ _)); refine blk_put (cs := #[.int .i64 t349, .int .i64 t350, .int .i64 t351, .int .i64 t352, .int .i64 t353, .int .i64 0, .int .i64 0, .int .i64 0, .int .i64 0, .int .i64 0, .int .i64 0, .int .i64 0, .int .i64 0, .int .i64 0, .int .i64 0]) ?_ 5 _ rfl; (with_reducible repeat (first | refine blk_drewN ?_ _ | refine blk_drew ?_ | refine blk_alloc ?_ _)); refine blk_put (cs := #[.int .i64 t349, .int .i64 t350, .int .i64 t351, .int .i64 t352, .int .i64 0, .int .i64 0, .int .i64 0, .int .i64 0, .int .i64 0, .int .i64 0, .int .i64 0, .int .i64 0, .int .i64 0, .int .i64 0, .int .i64 0]) ?_ 4 _ rfl; (with_reducible repeat (first | refine blk_drewN ?_ _ | refine blk_drew ?_ | refine blk_alloc ?_ _)); refine blk_put (cs := #[.int .i64 t349, .int .i64 t350, .int .i64 t351, .int .i64 0, .int .i64 0, .int .i64 0, .int .i64 0, .int .i64 0, .int .i64 0, .int .i64 0, .int .i64 0, .int .i64 0, .int .i64 0, .int .i64 0, .int .i64 0]) ?_ 3 _ rfl; (with_reducible repeat (first | refine blk_drewN ?_ _ | refine blk_drew ?_ | refine blk_alloc ?_ _)); refine blk_put (cs := #[.int .i64 t349, .int .i64 t350, .int .i64 0, .int .i64 0, .int .i64 0, .int .i64 0, .int .i64 0, .int .i64 0, .int .i64 0, .int .i64 0, .int .i64 0, .int .i64 0, .int .i64 0, .int .i64 0, .int .i64 0]) ?_ 2 _ rfl; (with_reducible repeat (first | refine blk_drewN ?_ _ | refine blk_drew ?_ | refine blk_alloc ?_ _)); refine blk_put (cs := #[.int .i64 t349, .int .i64 0, .int .i64 0, .int .i64 0, .int .i64 0, .int .i64 0, .int .i64 0, .int .i64 0, .int .i64 0, .int .i64 0, .int .i64 0, .int .i64 0, .int .i64 0, .int .i64 0, .int .i64 0]) ?_ 1 _ rfl; (with_reducible repeat (first | refine blk_drewN ?_ _ | refine blk_drew ?_ | refine blk_alloc ?_ _)); refine blk_put (cs := #[.int .i64 0, .int .i64 0, .int .i64 0, .int .i64 0, .int .i64 0, .int .i64 0, .int .i64 0, .int .i64 0, .int .i64 0, .int .i64 0, .int .i64 0, .int .i64 0, .int .i64 0, .int .i64 0, .int .i64 0]) ?_ 0 _ rfl; (with_reducible repeat (first | refine blk_drewN ?_ _ | refine blk_drew ?_ | refine blk_alloc ?_ _)); exact BK365.out⟩, ⟨by repeat (first | (with_reducible first | exact HB.out | apply below_alloc | apply pw_below_drewN | apply below_drew1 | refine below_set ?_ GE365.out) | exact HB.out)⟩⟩
end Go.Proofs.Ytlokmliannklaaa.Print
end

section
namespace Go.Proofs.Ytlokmliannklaaa.Print
open Go.RowKit Go.Proofs.YtlokmliannklaaaW.PrintWords Go.Proofs.YtlokmliannklaaaW.PrintLast Go.Proofs.YtlokmliannklaaaW.PrintMore
attribute [local go_sem] max2_int min2_int max_two min_two max_three min_three max_four min_four   -- for this text's walks alone
set_option linter.unusedVariables false
set_option linter.unusedSimpArgs false

set_option maxHeartbeats 8000000 in
set_option maxRecDepth 100000 in
theorem pacemakerlaw10_SlopeTurns_calls_p2  : (pacemakerlaw10_SlopeTurns_calls_skel ).2.2.1 := by
  intro k A0 c0 l0 w hu29 hu36 HR0 HC0 t349 t350 t351 t352 t353 t354 t355 t356 t357 t358 t359 t360 t361 t362 t363 t364 A2 z0_ w4 gb365 w5 z1_ z2_ GW365 GE365 z3_ z4_ z5_ z6_ wc u9 u10 u11 u12 u13 u14 u15 u16 u17 u18 u19 u21 u22 u23 u24 u25 u26 u27 u28 u29 u30 u31 u32 u33 u34 u35 u36 u37 u38 u39 u40 u41 u42 u43 u44 u45 u46 u47 u48 u49 u50 u51 u52 u53 u54 u55 u56 u57 u58 u59 u60 u61 u62 u63 u64 u65 u66 u67 u68 u69 u70 u71 u72 u73 x20_2 BK365 HB kj2 HJ2 H c8
  subst c8
  have H1 : ((pacemakerlaw10_fitted.f).bind fun t366 => (some t366)) = some true := by rw [if_pos rfl] at H; exact H
  clear H
  have H := H1
  clear H1
  replace H := Option.bind_eq_some_iff.mp H
  obtain ⟨t366, A90, H⟩ := H
  replace H : (some t366) = some true := H
  have A9 := Aside0.mk A90
  clear A90
  first
    | exact absurd (Option.some.inj H) (by decide)
    | have HL_ := Aside0.mk (Option.some.inj H)
      clear H
      go_wp2_with (first | ((with_reducible refine gate_callee (f := 9) rfl ?_); refine goesL_ (some 21) rfl rfl Try.func9 (by kernel_rfl) rfl #[] rfl (by (try simp only [List.map_toArray, List.map_cons, List.map_nil]); first | done | rfl | (simp only [List.length_drop, List.length_take]; rfl)) ?_; (with_reducible refine (pacemakerlaw10_fitted.calls  t366 _ A9.out).mono ?_); rintro e w10 ⟨rfl, hb⟩; refine ⟨_, rfl, ?_⟩; have n0_ := Aside0.mk (blk_below (g := gb365) (o := .cells #[.int .i64 t349, .int .i64 t350, .int .i64 t351, .int .i64 t352, .int .i64 t353, .int .i64 t354, .int .i64 t355, .int .i64 t356, .int .i64 t357, .int .i64 t358, .int .i64 t359, .int .i64 t360, .int .i64 t361, .int .i64 t362, .int .i64 t363] 29 (0, 0)) (by (with_reducible repeat (first | refine blk_drewN ?_ _ | refine blk_drew ?_ | refine blk_alloc ?_ _)); exact BK365.out) hb); have n1_ := Aside0.mk (below_step (by repeat (first | (with_reducible first | exact HB.out | apply below_alloc | apply pw_below_drewN | apply below_drew1 | refine below_set ?_ GE365.out) | exact HB.out)) hb); clear BK365; clear HB; have BK365 := n0_; have HB := n1_; clear n0_ n1_; (try clear hb); (try clear hb2); (try clear hk); (try clear hi)))
      go_ret
      have hlast := HL_.out
      exact ⟨by first | rfl | (simp [errW_none, errW_some] <;> rfl) | (simp [*, errW_none, errW_some] <;> rfl), by repeat (first | (with_reducible first | exact HB.out | apply below_alloc | apply pw_below_drewN | apply below_drew1 | refine below_set ?_ GE365.out) | exact HB.out)⟩
end Go.Proofs.Ytlokmliannklaaa.Print
end

section
namespace Go.Proofs.Ytlokmliannklaaa.Print
open Go.RowKit Go.Proofs.YtlokmliannklaaaW.PrintWords Go.Proofs.YtlokmliannklaaaW.PrintLast Go.Proofs.YtlokmliannklaaaW.PrintMore
attribute [local go_sem] max2_int min2_int max_two min_two max_three min_three max_four min_four   -- for this text's walks alone
set_option linter.unusedVariables false
set_option linter.unusedSimpArgs false

set_option maxHeartbeats 8000000 in
set_option maxRecDepth 100000 in
theorem pacemakerlaw10_SlopeTurns_calls_p3  : (pacemakerlaw10_SlopeTurns_calls_skel ).2.2.2.1 := by
  intro k A0 c0 l0 w hu29 hu36 HR0 HC0 t349 t350 t351 t352 t353 t354 t355 t356 t357 t358 t359 t360 t361 t362 t363 t364 A2 z0_ w4 gb365 w5 z1_ z2_ GW365 GE365 wc u9 u10 u11 u12 u13 u14 u15 u16 u17 u18 u19 u21 z3_ z4_ z5_ z6_ z7_ z8_ z9_ z10_ z11_ z12_ z13_ z14_ z15_ z16_ z17_ z18_ z19_ z20_ z21_ z22_ z23_ u43 u44 u45 u46 u47 u48 u49 u50 u51 u52 u53 u54 u55 u56 u57 u58 u59 u60 u61 u62 u63 u64 u65 u66 u67 u68 u69 u70 u71 u72 u73 z24_ z25_ kj2 HJ2 z26_ z27_ wr u5 u22 u23 u24 u25 u26 u27 u28 u29 u30 u31 u32 u33 u34 u35 u36 u37 u38 u39 u40 u41 u42 z28_ z29_ z30_ x5_2 x6_2 HO_5 BK365 HB k2 z31_ HK2 H c11
  rw [if_pos c11] at H
  have c11b0 : decide (x6_2 < (l0.length : Int)) = true := decide_eq_true c11
  clear c11
  by_cases c12 : 0 ≤ x6_2
  · rw [if_pos c12] at H
    have c12b0 : decide (0 ≤ x6_2) = true := decide_eq_true c12
    clear c12
    by_cases c13 : x5_2.length < 8796093022208
    · rw [if_pos c13] at H
      have LMc13 := Aside0.mk c13
      clear c13
      obtain ⟨y369, hy369⟩ : ∃ y_ : List (S36), y_ = (x5_2 ++ [(⟨wrap64 (60000000 - ((rd_T36 l0 x6_2).f0)), (rd_T36 l0 x6_2).f1⟩ : S36)]) := ⟨_, rfl⟩
      replace H : (pacemakerlaw10_SlopeTurns.l0 k2 l0 y369 (wrap64 (x6_2 + 1)) t349 t350 t351 t352 t353 t354 t355 t356 t357 t358 t359 t360 t361 t362 t363) = some true := by first | (rw [hy369]; with_reducible exact H) | (have H2_ := (Option.bind_some _ _).symm.trans H; rw [hy369]; with_reducible exact H2_) | (have H2_ := (Option.bind_some _ _).symm.trans H; with_reducible exact H2_) | with_reducible exact H | (rw [hy369]; exact H) | exact H
      have Ny369 := Aside0.mk hy369
      clear hy369
      have H' := Aside0.mk H
      clear H
      try go_wp2
      have n0_ := Aside0.mk (Kd.R_drew HO_5.out)
      have n1_ := Aside0.mk (blk_drew BK365.out)
      have n2_ := Aside0.mk (below_drew1 HB.out)
      clear HO_5
      clear BK365
      clear HB
      have HO_5 := n0_
      have BK365 := n1_
      have HB := n2_
      clear n0_ n1_ n2_
      have p367 : 0 ≤ (x6_2 : Int) := of_decide_eq_true (by first | (with_reducible assumption) | assumption)
      have q367 : x6_2 < (l0.length : Int) := of_decide_eq_true (by first | (with_reducible assumption) | assumption)
      obtain ⟨ad367, e367, hx367_0, hx367_1⟩ := at_T36 HR0.out x6_2 p367 q367
      have hw367_1 := hx367_1
      have hw367_0 := hx367_0
      cases e367
      replace hx367_0 := (HB.out.cell (World.block_lt_of_cell? w _ hx367_0)).trans hx367_0
      replace hx367_1 := (HB.out.cell (World.block_lt_of_cell? w _ hx367_1)).trans hx367_1
      replace p367 := eq_true p367
      replace q367 := eq_true q367
      have p368 : 0 ≤ (x6_2 : Int) := of_decide_eq_true (by first | (with_reducible assumption) | assumption)
      have q368 : x6_2 < (l0.length : Int) := of_decide_eq_true (by first | (with_reducible assumption) | assumption)
      obtain ⟨ad368, e368, hx368_0, hx368_1⟩ := at_T36 HR0.out x6_2 p368 q368
      have hw368_1 := hx368_1
      have hw368_0 := hx368_0
      obtain rfl : ad367 = ad368 := (by injection e368)
      replace hx368_0 := (HB.out.cell (World.block_lt_of_cell? w _ hx368_0)).trans hx368_0
      replace hx368_1 := (HB.out.cell (World.block_lt_of_cell? w _ hx368_1)).trans hx368_1
      replace p368 := eq_true p368
      replace q368 := eq_true q368
      refine start_ (n := 16) (S := fun w' => w'.cell? (ad367.add ((x6_2).toNat * 2)) = some (.int .i64 ((rd_T36 l0 x6_2).f0)) ∧ w'.cell? ⟨(ad367.add ((x6_2).toNat * 2)).block, (ad367.add ((x6_2).toNat * 2)).off + 1, none⟩ = some (.int .i64 ((rd_T36 l0 x6_2).f1)) ∧ w'.cell? (ad367.add ((x6_2).toNat * 2)) = some (.int .i64 ((rd_T36 l0 x6_2).f0)) ∧ w'.cell? ⟨(ad367.add ((x6_2).toNat * 2)).block, (ad367.add ((x6_2).toNat * 2)).off + 1, none⟩ = some (.int .i64 ((rd_T36 l0 x6_2).f1))) (ds := []) #[false, false, false, false, false, false, false, false, false, false, false, false, false, false, false, false] (by kernel_rfl) rfl rfl ⟨((HB.out.cell (World.block_lt_of_cell? w _ hw367_0)).trans hw367_0), ((HB.out.cell (World.block_lt_of_cell? w _ hw367_1)).trans hw367_1), ((HB.out.cell (World.block_lt_of_cell? w _ hw368_0)).trans hw368_0), ((HB.out.cell (World.block_lt_of_cell? w _ hw368_1)).trans hw368_1)⟩ (fun hHeld => ?_); refine with_tabW pacemakerlaw10_SlopeTurns.tab8 pacemakerlaw10_SlopeTurns.bits8 (fun HT_ HW_ => ?_)
      generalize wr.drew = w14 at HO_5 BK365 HB hx367_0 hx367_1 hx368_0 hx368_1 hHeld ⊢
      refine pure_ (i := 0) (N := some 28) (v := ?_) (a' := ?_) #[true, false, false, false, false, false, false, false, false, false, false, false, false, false, false, false] rfl rfl (any_of HT_.out (by kernel_rfl)) (fun _ _ _ h => h) (Or.inl ⟨by rfl, ?_⟩) ?_ ?_
      rotate_left
      · intro w'
        go_simp
        with_reducible rfl
      rotate_left
      · simp only [Act.put, List.setIfInBounds_toArray, List.set_cons_zero, List.set_cons_succ, i64_w, i32_w]
        rfl
      refine pure_ (i := 1) (N := some 29) (v := ?_) (a' := ?_) #[true, true, false, false, false, false, false, false, false, false, false, false, false, false, false, false] rfl rfl (any_of HT_.out (by kernel_rfl)) (fun _ _ _ h => h) (Or.inl ⟨by rfl, ?_⟩) ?_ ?_
      rotate_left
      · intro w'
        go_simp
        with_reducible rfl
      rotate_left
      · simp only [Act.put, List.setIfInBounds_toArray, List.set_cons_zero, List.set_cons_succ, i64_w, i32_w]
        rfl
      refine pure_ (i := 2) (N := some 30) (v := ?_) (a' := ?_) #[true, true, true, false, false, false, false, false, false, false, false, false, false, false, false, false] rfl rfl (any_of HT_.out (by kernel_rfl)) (fun _ _ _ h => h) (Or.inl ⟨by rfl, ?_⟩) ?_ ?_
      rotate_left
      · intro w'
        go_simp
        with_reducible rfl
      rotate_left
      · simp only [Act.put, List.setIfInBounds_toArray, List.set_cons_zero, List.set_cons_succ, i64_w, i32_w]
        rfl
      refine pure_ (i := 3) (N := some 31) (v := ?_) (a' := ?_) #[true, true, true, true, false, false, false, false, false, false, false, false, false, false, false, false] rfl rfl (any_of HT_.out (by kernel_rfl)) (fun _ _ _ h => h) (Or.inl ⟨by rfl, ?_⟩) ?_ ?_
      rotate_left
      · intro w'
        go_simp
        with_reducible rfl
      rotate_left
      · simp only [Act.put, List.setIfInBounds_toArray, List.set_cons_zero, List.set_cons_succ, i64_w, i32_w]
        rfl
      refine pure_ (i := 4) (N := some 32) (v := ?_) (a' := ?_) #[true, true, true, true, true, false, false, false, false, false, false, false, false, false, false, false] rfl rfl (any_of HT_.out (by kernel_rfl)) (fun _ _ _ h => h) (Or.inl ⟨by rfl, ?_⟩) ?_ ?_
      rotate_left
      · intro w'
        go_simp
        with_reducible rfl
      rotate_left
      · simp only [Act.put, List.setIfInBounds_toArray, List.set_cons_zero, List.set_cons_succ, i64_w, i32_w]
        rfl
      refine pure_ (i := 7) (N := some 35) (v := ?_) (a' := ?_) #[true, true, true, true, true, false, false, true, false, false, false, false, false, false, false, false] rfl rfl (any_of HT_.out (by kernel_rfl)) (fun _ _ _ h => h) (Or.inl ⟨by rfl, ?_⟩) ?_ ?_
      rotate_left
      · intro w'
        go_simp
        with_reducible rfl
      rotate_left
      · simp only [Act.put, List.setIfInBounds_toArray, List.set_cons_zero, List.set_cons_succ, i64_w, i32_w]
        rfl
      refine pure_ (i := 8) (N := some 36) (v := ?_) (a' := ?_) #[true, true, true, true, true, false, false, true, true, false, false, false, false, false, false, false] rfl rfl (any_of HT_.out (by kernel_rfl)) (fun _ _ _ h => h) (Or.inl ⟨by rfl, ?_⟩) ?_ ?_
      rotate_left
      · intro w'
        go_simp
        with_reducible rfl
      rotate_left
      · simp only [Act.put, List.setIfInBounds_toArray, List.set_cons_zero, List.set_cons_succ, i64_w, i32_w]
        rfl
      refine pure_ (i := 9) (N := some 37) (v := ?_) (a' := ?_) #[true, true, true, true, true, false, false, true, true, true, false, false, false, false, false, false] rfl rfl (any_of HT_.out (by kernel_rfl)) (fun _ _ _ h => h) (Or.inl ⟨by rfl, ?_⟩) ?_ ?_
      rotate_left
      · intro w'
        go_simp
        with_reducible rfl
      rotate_left
      · simp only [Act.put, List.setIfInBounds_toArray, List.set_cons_zero, List.set_cons_succ, i64_w, i32_w]
        rfl
      refine pure_ (i := 10) (N := some 38) (v := ?_) (a' := ?_) #[true, true, true, true, true, false, false, true, true, true, true, false, false, false, false, false] rfl rfl (any_of HT_.out (by kernel_rfl)) (fun _ _ _ h => h) (Or.inl ⟨by rfl, ?_⟩) ?_ ?_
      rotate_left
      · intro w'
        go_simp
        with_reducible rfl
      rotate_left
      · simp only [Act.put, List.setIfInBounds_toArray, List.set_cons_zero, List.set_cons_succ, i64_w, i32_w]
        rfl
      refine take_ (i := 5) (N := some 33) (v := ?_) (a' := ?_) #[true, true, true, true, true, true, false, true, true, true, true, false, false, false, false, false] rfl rfl (take_ofW HT_.out HW_.out (by kernel_rfl)) (fun _ _ _ h => h) (Or.inl ⟨by rfl, ?_⟩) hHeld ?_ ?_
      rotate_left
      · rintro w' ⟨s0, s1, s2, s3⟩
        go_simp
        with_reducible rfl
      rotate_left
      · simp only [Act.put, List.setIfInBounds_toArray, List.set_cons_zero, List.set_cons_succ, i64_w, i32_w]
        rfl
      refine pure_ (i := 6) (N := some 34) (v := ?_) (a' := ?_) #[true, true, true, true, true, true, true, true, true, true, true, false, false, false, false, false] rfl rfl (any_of HT_.out (by kernel_rfl)) (fun _ _ _ h => h) (Or.inl ⟨by rfl, ?_⟩) ?_ ?_
      rotate_left
      · intro w'
        go_simp
        with_reducible rfl
      rotate_left
      · simp only [Act.put, List.setIfInBounds_toArray, List.set_cons_zero, List.set_cons_succ, i64_w, i32_w]
        rfl
      refine take_ (i := 11) (N := some 39) (v := ?_) (a' := ?_) #[true, true, true, true, true, true, true, true, true, true, true, true, false, false, false, false] rfl rfl (take_ofW HT_.out HW_.out (by kernel_rfl)) (fun _ _ _ h => h) (Or.inl ⟨by rfl, ?_⟩) hHeld ?_ ?_
      rotate_left
      · rintro w' ⟨s0, s1, s2, s3⟩
        go_simp
        with_reducible rfl
      rotate_left
      · simp only [Act.put, List.setIfInBounds_toArray, List.set_cons_zero, List.set_cons_succ, i64_w, i32_w]
        rfl
      refine pure_ (i := 12) (N := some 40) (v := ?_) (a' := ?_) #[true, true, true, true, true, true, true, true, true, true, true, true, true, false, false, false] rfl rfl (any_of HT_.out (by kernel_rfl)) (fun _ _ _ h => h) (Or.inl ⟨by rfl, ?_⟩) ?_ ?_
      rotate_left
      · intro w'
        go_simp
        with_reducible rfl
      rotate_left
      · simp only [Act.put, List.setIfInBounds_toArray, List.set_cons_zero, List.set_cons_succ, i64_w, i32_w]
        rfl
      refine one_ (i := 13) (N := some 41) #[true, true, true, true, true, true, true, true, true, true, true, true, true, true, false, false] rfl rfl (one_of HT_.out (by kernel_rfl)) (by decide) (fun K hK => ?_)
      refine value_ (w1 := ?_) (v := ?_) (by rfl) rfl ?_ ?_
      rotate_left 2
      · go_simp
        constructor
        · rfl
        · rfl
      refine hK.out _ _ ⟨(World.cell?_alloc_lt _ _ _ (World.block_lt_of_cell? _ _ (((HB.out.cell (World.block_lt_of_cell? w _ hw367_0)).trans hw367_0)))).trans (((HB.out.cell (World.block_lt_of_cell? w _ hw367_0)).trans hw367_0)), (World.cell?_alloc_lt _ _ _ (World.block_lt_of_cell? _ _ (((HB.out.cell (World.block_lt_of_cell? w _ hw367_1)).trans hw367_1)))).trans (((HB.out.cell (World.block_lt_of_cell? w _ hw367_1)).trans hw367_1)), (World.cell?_alloc_lt _ _ _ (World.block_lt_of_cell? _ _ (((HB.out.cell (World.block_lt_of_cell? w _ hw368_0)).trans hw368_0)))).trans (((HB.out.cell (World.block_lt_of_cell? w _ hw368_0)).trans hw368_0)), (World.cell?_alloc_lt _ _ _ (World.block_lt_of_cell? _ _ (((HB.out.cell (World.block_lt_of_cell? w _ hw368_1)).trans hw368_1)))).trans (((HB.out.cell (World.block_lt_of_cell? w _ hw368_1)).trans hw368_1))⟩ (fun hHeld => ?_)
      clear hK K
      refine norm_ (a' := ?_) ?_ ?_
      rotate_left
      · show Act.put _ (some 41) _ = _
        simp only [Act.put, List.setIfInBounds_toArray, List.set_cons_zero, List.set_cons_succ, i64_w, i32_w]
        rfl
      refine one_ (i := 14) (N := some 42) #[true, true, true, true, true, true, true, true, true, true, true, true, true, true, true, false] rfl rfl (one_of HT_.out (by kernel_rfl)) (by decide) (fun K hK => ?_)
      refine Kd.R_append_step k36 (w0 := w) w.heap.size (by rfl) (.tmp 28) (.tmp 41) 32 36 (.agg #[(.int .i64 0), (.int .i64 0)]) 16 rfl Try.underlying32 info36 rfl (by decide) (by omega) u5 x5_2 (⟨wrap64 (60000000 - ((rd_T36 l0 x6_2).f0)), (rd_T36 l0 x6_2).f1⟩ : S36) [.int .i64 (wrap64 (60000000 - ((rd_T36 l0 x6_2).f0))), .int .i64 ((rd_T36 l0 x6_2).f1)] (fun _ => True) (fun _ => False) rfl rfl ?aP (fun _ hk => hk.elim) ?aF ?aO ?aB ?aS ?aL ?_
      (case aP => exact k36_mkM _ _ _ (⟨wrap64 (60000000 - ((rd_T36 l0 x6_2).f0)), (rd_T36 l0 x6_2).f1⟩ : S36))
      (case aB => exact (by repeat (first | (with_reducible first | exact HB.out | apply below_alloc | apply pw_below_drewN | apply below_drew1 | refine below_set ?_ GE365.out) | exact HB.out)))
      (case aF => exact (fun _ _ => trivial))
      (case aO => exact (by (with_reducible repeat (first | apply Kd.R_alloc | apply Kd.R_drewN | apply Kd.R_drew)); exact HO_5.out))
      (case aS => exact (below_size (by repeat (first | (with_reducible first | exact HB.out | apply below_alloc | apply pw_below_drewN | apply below_drew1 | refine below_set ?_ GE365.out) | exact HB.out))))
      (case aL => have := LMc13.out; omega)
      intro v370 w15 ho hb hg hat
      rw [← Ny369.out] at ho
      have n0_ := Aside0.mk (blk_grown (g := gb365) (o := .cells #[.int .i64 t349, .int .i64 t350, .int .i64 t351, .int .i64 t352, .int .i64 t353, .int .i64 t354, .int .i64 t355, .int .i64 t356, .int .i64 t357, .int .i64 t358, .int .i64 t359, .int .i64 t360, .int .i64 t361, .int .i64 t362, .int .i64 t363] 29 (0, 0)) (by (with_reducible repeat (first | refine blk_drewN ?_ _ | refine blk_drew ?_ | refine blk_alloc ?_ _)); exact BK365.out) hg (Kd.R_ne HO_5.out BK365.out (by decide)))
      have n1_ := Aside0.mk (hb)
      have n2_ := Aside0.mk (ho)
      clear BK365
      clear HB
      clear HO_5
      have BK365 := n0_
      have HB := n1_
      have HO371 := n2_
      clear n0_ n1_ n2_
      clear ho hb hg hat
      refine hK.out _ _ ⟨((HB.out.cell (World.block_lt_of_cell? w _ hw367_0)).trans hw367_0), ((HB.out.cell (World.block_lt_of_cell? w _ hw367_1)).trans hw367_1), ((HB.out.cell (World.block_lt_of_cell? w _ hw368_0)).trans hw368_0), ((HB.out.cell (World.block_lt_of_cell? w _ hw368_1)).trans hw368_1)⟩ (fun hHeld => ?_)
      clear hK K
      refine norm_ (a' := ?_) ?_ ?_
      rotate_left
      · show Act.put _ (some 42) _ = _
        simp only [Act.put, List.setIfInBounds_toArray, List.set_cons_zero, List.set_cons_succ, i64_w, i32_w]
        rfl
      refine pure_ (i := 15) (N := some 5) (v := ?_) (a' := ?_) #[true, true, true, true, true, true, true, true, true, true, true, true, true, true, true, true] rfl rfl (any_of HT_.out (by kernel_rfl)) (fun _ _ _ h => h) (Or.inl ⟨by rfl, ?_⟩) ?_ ?_
      rotate_left
      · intro w'
        go_simp
        with_reducible rfl
      rotate_left
      · simp only [Act.put, List.setIfInBounds_toArray, List.set_cons_zero, List.set_cons_succ, i64_w, i32_w]
        rfl
      refine done_ (done_of HT_.out (by kernel_rfl)) ?_
      try go_wp2
      go_roundg k2
      case measure => have := HJ2.out; have := HK2.out; omega
      case rel => exact ⟨(y369), (wrap64 (x6_2 + 1)), (by first | rfl | (simp; done) | (simp [*]; done)), H', ⟨by have := HJ2.out; have := HK2.out; omega⟩, ⟨by (with_reducible repeat (first | apply Kd.R_alloc | apply Kd.R_drewN | apply Kd.R_drew)); exact HO371.out⟩, ⟨by (with_reducible repeat (first | refine blk_drewN ?_ _ | refine blk_drew ?_ | refine blk_alloc ?_ _)); exact BK365.out⟩, ⟨by repeat (first | (with_reducible first | exact HB.out | apply below_alloc | apply pw_below_drewN | apply below_drew1 | refine below_set ?_ GE365.out) | exact HB.out)⟩⟩
    · rw [if_neg c13] at H
      exact absurd H (by simp)
  · rw [if_neg c12] at H
    exact absurd H (by simp)
end Go.Proofs.Ytlokmliannklaaa.Print
end
