/- Printed by a program of this session: functions of the law and their walks. -/
import Derived.Test.YtlokmliannklaaaQP0
import Derived.Test.YtlokmliannklaaaQPrint3
import Derived.Test.YtlokmliannklaaaQPrint4
import Derived.Test.YtlokmliannklaaaQSkd
import Derived.Test.YtlokmliannklaaaQFitted
import Derived.Test.YtlokmliannklaaaQPrint15d
section
namespace Go.Proofs.Ytlokmliannklaaa.Print
open Go.RowKit Go.Proofs.YtlokmliannklaaaW.PrintWords Go.Proofs.YtlokmliannklaaaW.PrintLast Go.Proofs.YtlokmliannklaaaW.PrintMore
attribute [local go_sem] max2_int min2_int max_two min_two max_three min_three max_four min_four   -- for this text's walks alone
set_option linter.unusedVariables false
set_option linter.unusedSimpArgs false

/-- Kept away from the tactics. -/
structure pacemakerlaw10_SlopeWithin_calls_Kept (p : Prop) : Prop where mk :: (out : p)
set_option maxHeartbeats 8000000 in
set_option maxRecDepth 100000 in
noncomputable def pacemakerlaw10_SlopeWithin_calls_skel  : Σ' (P0 P1 P2 P3 P4 : Prop), pacemakerlaw10_SlopeWithin_calls_Kept P0 → pacemakerlaw10_SlopeWithin_calls_Kept P1 → pacemakerlaw10_SlopeWithin_calls_Kept P2 → pacemakerlaw10_SlopeWithin_calls_Kept P3 → pacemakerlaw10_SlopeWithin_calls_Kept P4 → (∀ (k : Nat) (A0 : Option Addr) (c0 : Nat) (l0 : List (S36)) (w : World) (hr0 : Kd.C k36 w A0 l0.length l0) (hc0 : l0.length ≤ c0) (h : pacemakerlaw10_SlopeWithin.f k l0 = some true), Calls Try.prog 8 #[.slice A0 l0.length c0] w fun e w' => e = .returned (.bool true) ∧ Below w.heap.size w w') := by
  refine ⟨?P0, ?P1, ?P2, ?P3, ?P4, fun hP0 hP1 hP2 hP3 hP4 k A0 c0 l0 w hr0 hc0 h => ?_⟩
  rotate_left 5
  focus
    have hu29 := Try.underlying29
    have HR0 := Aside0.mk hr0
    have HC0 := Aside0.mk hc0
    clear hr0 hc0
    have HB := Aside0.mk (Below.refl w.heap.size w)
    have H : ((pacemakerlaw10_sampled.f l0).bind fun bt396 => (if (l0.length : Int) > 100 then (pacemakerlaw10_SlopeWithin.j0 k l0 true bt396.1 bt396.2.1 bt396.2.2.1 bt396.2.2.2.1 bt396.2.2.2.2.1 bt396.2.2.2.2.2.1 bt396.2.2.2.2.2.2.1 bt396.2.2.2.2.2.2.2.1 bt396.2.2.2.2.2.2.2.2.1 bt396.2.2.2.2.2.2.2.2.2.1 bt396.2.2.2.2.2.2.2.2.2.2.1 bt396.2.2.2.2.2.2.2.2.2.2.2.1 bt396.2.2.2.2.2.2.2.2.2.2.2.2.1 bt396.2.2.2.2.2.2.2.2.2.2.2.2.2.1 bt396.2.2.2.2.2.2.2.2.2.2.2.2.2.2.1) else (if bt396.2.2.2.2.2.2.2.2.2.2.2.2.2.2.2 = true then (pacemakerlaw10_SlopeWithin.j0 k l0 ((l0.length : Int) == 0) bt396.1 bt396.2.1 bt396.2.2.1 bt396.2.2.2.1 bt396.2.2.2.2.1 bt396.2.2.2.2.2.1 bt396.2.2.2.2.2.2.1 bt396.2.2.2.2.2.2.2.1 bt396.2.2.2.2.2.2.2.2.1 bt396.2.2.2.2.2.2.2.2.2.1 bt396.2.2.2.2.2.2.2.2.2.2.1 bt396.2.2.2.2.2.2.2.2.2.2.2.1 bt396.2.2.2.2.2.2.2.2.2.2.2.2.1 bt396.2.2.2.2.2.2.2.2.2.2.2.2.2.1 bt396.2.2.2.2.2.2.2.2.2.2.2.2.2.2.1) else (pacemakerlaw10_SlopeWithin.j0 k l0 true bt396.1 bt396.2.1 bt396.2.2.1 bt396.2.2.2.1 bt396.2.2.2.2.1 bt396.2.2.2.2.2.1 bt396.2.2.2.2.2.2.1 bt396.2.2.2.2.2.2.2.1 bt396.2.2.2.2.2.2.2.2.1 bt396.2.2.2.2.2.2.2.2.2.1 bt396.2.2.2.2.2.2.2.2.2.2.1 bt396.2.2.2.2.2.2.2.2.2.2.2.1 bt396.2.2.2.2.2.2.2.2.2.2.2.2.1 bt396.2.2.2.2.2.2.2.2.2.2.2.2.2.1 bt396.2.2.2.2.2.2.2.2.2.2.2.2.2.2.1)))) = some true := h
    clear h
    replace H := Option.bind_eq_some_iff.mp H
    obtain ⟨⟨t396, t397, t398, t399, t400, t401, t402, t403, t404, t405, t406, t407, t408, t409, t410, t411⟩, A20, H⟩ := H
    replace H : (if (l0.length : Int) > 100 then (pacemakerlaw10_SlopeWithin.j0 k l0 true t396 t397 t398 t399 t400 t401 t402 t403 t404 t405 t406 t407 t408 t409 t410) else (if t411 = true then (pacemakerlaw10_SlopeWithin.j0 k l0 ((l0.length : Int) == 0) t396 t397 t398 t399 t400 t401 t402 t403 t404 t405 t406 t407 t408 t409 t410) else (pacemakerlaw10_SlopeWithin.j0 k l0 true t396 t397 t398 t399 t400 t401 t402 t403 t404 t405 t406 t407 t408 t409 t410))) = some true := H
    have A2 := Aside0.mk A20
    clear A20
    have HC3 := Aside0.mk H
    clear H
    go_enter Try.func8, Try.ntmps8
    go_upto_region 2 with (first | ((with_reducible refine gate_callee (f := 18) rfl ?_); refine goesL_ (some 12) rfl rfl Try.func18 (by kernel_rfl) rfl #[.slice A0 l0.length c0] rfl (by (try simp only [List.map_toArray, List.map_cons, List.map_nil]); first | done | rfl | (simp only [List.length_drop, List.length_take]; rfl)) ?_; (with_reducible refine (pacemakerlaw10_sampled.calls _ _ l0 t396 t397 t398 t399 t400 t401 t402 t403 t404 t405 t406 t407 t408 t409 t410 t411 _ ?side1 ?side2 A2.out).mono ?_); (case side1 => repeat (first | exact HR0.out | (with_reducible refine Kd.C_alloc ?_ _) | (with_reducible refine Kd.C_drewN ?_ _) | (with_reducible refine Kd.C_drew ?_))); (case side2 => exact HC0.out); rintro e w4 ⟨rfl, hb⟩; refine ⟨_, rfl, ?_⟩; have n0_ := Aside0.mk (below_step (by repeat (first | (with_reducible first | exact HB.out | apply below_alloc | apply pw_below_drewN | apply below_drew1) | exact HB.out)) hb); clear HB; have HB := n0_; clear n0_; (try clear hb); (try clear hb2); (try clear hk); (try clear hi)) | ((with_reducible refine gate_dst (N := 3) rfl ?_); (try (refine gate_guard (by rfl) ?_; dsimp only)); refine box_event ?hg (N := 3) ?hd (cs := #[.int .i64 0, .int .i64 0, .int .i64 0, .int .i64 0, .int .i64 0, .int .i64 0, .int .i64 0, .int .i64 0, .int .i64 0, .int .i64 0, .int .i64 0, .int .i64 0, .int .i64 0, .int .i64 0, .int .i64 0]) (t := 29) ?hr ?_; (case hd => rfl); (case hg => rfl); (case hr => first | (go_simp; done) | (go_simp; rfl)); intro gb412 hg w5 hbox hb; have n0_ := Aside0.mk (below_step (by repeat (first | (with_reducible first | exact HB.out | apply below_alloc | apply pw_below_drewN | apply below_drew1) | exact HB.out)) hb); have n1_ := Aside0.mk (hbox); have n2_ := Aside0.mk ((by rw [hg]; exact (below_size (by repeat (first | (with_reducible first | exact HB.out | apply below_alloc | apply pw_below_drewN | apply below_drew1) | exact HB.out))) : w.heap.size ≤ gb412)); have n3_ := Aside0.mk ((by rw [hg]; exact (below_size (by repeat (first | (with_reducible first | exact HB.out | apply below_alloc | apply pw_below_drewN | apply below_drew1) | exact HB.out))) : w.heap.size ≤ gb412)); clear HB; have HB := n0_; have BK412 := n1_; have GW412 := n2_; have GE412 := n3_; clear n0_ n1_ n2_ n3_; clear hb hbox hg; have hcz6_0 : w5.cell? ⟨gb412, 0, none⟩ = some (.int .i64 0) := (blk_cell BK412.out 0).trans rfl; have hcz6_1 : w5.cell? ⟨gb412, 1, none⟩ = some (.int .i64 0) := (blk_cell BK412.out 1).trans rfl; have hcz6_2 : w5.cell? ⟨gb412, 2, none⟩ = some (.int .i64 0) := (blk_cell BK412.out 2).trans rfl; have hcz6_3 : w5.cell? ⟨gb412, 3, none⟩ = some (.int .i64 0) := (blk_cell BK412.out 3).trans rfl; have hcz6_4 : w5.cell? ⟨gb412, 4, none⟩ = some (.int .i64 0) := (blk_cell BK412.out 4).trans rfl; have hcz6_5 : w5.cell? ⟨gb412, 5, none⟩ = some (.int .i64 0) := (blk_cell BK412.out 5).trans rfl; have hcz6_6 : w5.cell? ⟨gb412, 6, none⟩ = some (.int .i64 0) := (blk_cell BK412.out 6).trans rfl; have hcz6_7 : w5.cell? ⟨gb412, 7, none⟩ = some (.int .i64 0) := (blk_cell BK412.out 7).trans rfl; have hcz6_8 : w5.cell? ⟨gb412, 8, none⟩ = some (.int .i64 0) := (blk_cell BK412.out 8).trans rfl; have hcz6_9 : w5.cell? ⟨gb412, 9, none⟩ = some (.int .i64 0) := (blk_cell BK412.out 9).trans rfl; have hcz6_10 : w5.cell? ⟨gb412, 10, none⟩ = some (.int .i64 0) := (blk_cell BK412.out 10).trans rfl; have hcz6_11 : w5.cell? ⟨gb412, 11, none⟩ = some (.int .i64 0) := (blk_cell BK412.out 11).trans rfl; have hcz6_12 : w5.cell? ⟨gb412, 12, none⟩ = some (.int .i64 0) := (blk_cell BK412.out 12).trans rfl; have hcz6_13 : w5.cell? ⟨gb412, 13, none⟩ = some (.int .i64 0) := (blk_cell BK412.out 13).trans rfl; have hcz6_14 : w5.cell? ⟨gb412, 14, none⟩ = some (.int .i64 0) := (blk_cell BK412.out 14).trans rfl; have hfz6_0 := blk_frozen BK412.out 0; have hfz6_1 := blk_frozen BK412.out 1; have hfz6_2 := blk_frozen BK412.out 2; have hfz6_3 := blk_frozen BK412.out 3; have hfz6_4 := blk_frozen BK412.out 4; have hfz6_5 := blk_frozen BK412.out 5; have hfz6_6 := blk_frozen BK412.out 6; have hfz6_7 := blk_frozen BK412.out 7; have hfz6_8 := blk_frozen BK412.out 8; have hfz6_9 := blk_frozen BK412.out 9; have hfz6_10 := blk_frozen BK412.out 10; have hfz6_11 := blk_frozen BK412.out 11; have hfz6_12 := blk_frozen BK412.out 12; have hfz6_13 := blk_frozen BK412.out 13; have hfz6_14 := blk_frozen BK412.out 14))
    (try simp only [Act.put, List.setIfInBounds_toArray, List.set_cons_zero, List.set_cons_succ])
    go_cut [26] (fun v26 wc => ∃ (kq : Nat) (x26_2 : Bool), v26 = .bool x26_2 ∧ Aside0 (pacemakerlaw10_SlopeWithin.j0 kq l0 x26_2 t396 t397 t398 t399 t400 t401 t402 t403 t404 t405 t406 t407 t408 t409 t410 = some true) ∧ Aside0 (kq ≤ k) ∧ Aside0 (wc.heap[gb412]? = some (.cells #[.int .i64 t396, .int .i64 t397, .int .i64 t398, .int .i64 t399, .int .i64 t400, .int .i64 t401, .int .i64 t402, .int .i64 t403, .int .i64 t404, .int .i64 t405, .int .i64 t406, .int .i64 t407, .int .i64 t408, .int .i64 t409, .int .i64 t410] 29 (0, 0))) ∧ Aside0 (Below w.heap.size w wc))
    case first =>
      have H := HC3.out
      clear HC3
      by_cases c7 : (l0.length : Int) > 100
      · rename_i z0_ z1_ z2_ z3_ z4_ z5_ z6_ z7_ z8_
        revert k A0 c0 l0 w hu29 HR0 HC0 t396 t397 t398 t399 t400 t401 t402 t403 t404 t405 t406 t407 t408 t409 t410 t411 A2 z0_ w4 gb412 w5 HB BK412 GW412 GE412 hcz6_0 hcz6_1 hcz6_2 hcz6_3 hcz6_4 hcz6_5 hcz6_6 hcz6_7 hcz6_8 hcz6_9 hcz6_10 hcz6_11 hcz6_12 hcz6_13 hcz6_14 hfz6_0 hfz6_1 hfz6_2 hfz6_3 hfz6_4 hfz6_5 hfz6_6 hfz6_7 hfz6_8 hfz6_9 hfz6_10 hfz6_11 hfz6_12 hfz6_13 hfz6_14 z1_ z2_ z3_ z4_ z5_ z6_ z7_ z8_ H c7
        exact hP0.out
      · rename_i z0_ z1_ z2_ z3_ z4_ z5_ z6_ z7_ z8_
        revert k A0 c0 l0 w hu29 HR0 HC0 t396 t397 t398 t399 t400 t401 t402 t403 t404 t405 t406 t407 t408 t409 t410 t411 A2 z0_ w4 gb412 w5 HB BK412 GW412 GE412 hcz6_0 hcz6_1 hcz6_2 hcz6_3 hcz6_4 hcz6_5 hcz6_6 hcz6_7 hcz6_8 hcz6_9 hcz6_10 hcz6_11 hcz6_12 hcz6_13 hcz6_14 hfz6_0 hfz6_1 hfz6_2 hfz6_3 hfz6_4 hfz6_5 hfz6_6 hfz6_7 hfz6_8 hfz6_9 hfz6_10 hfz6_11 hfz6_12 hfz6_13 hfz6_14 z1_ z2_ z3_ z4_ z5_ z6_ z7_ z8_ H c7
        exact hP1.out
    case rest =>
      clear HC3
      try clear c1
      try clear p2
      try clear c7
      try clear c7b0
      try clear c7b1
      try clear c8
      try clear hcz6_0
      try clear hcz6_1
      try clear hcz6_10
      try clear hcz6_11
      try clear hcz6_12
      try clear hcz6_13
      try clear hcz6_14
      try clear hcz6_2
      try clear hcz6_3
      try clear hcz6_4
      try clear hcz6_5
      try clear hcz6_6
      try clear hcz6_7
      try clear hcz6_8
      try clear hcz6_9
      try clear hfz6_0
      try clear hfz6_1
      try clear hfz6_10
      try clear hfz6_11
      try clear hfz6_12
      try clear hfz6_13
      try clear hfz6_14
      try clear hfz6_2
      try clear hfz6_3
      try clear hfz6_4
      try clear hfz6_5
      try clear hfz6_6
      try clear hfz6_7
      try clear hfz6_8
      try clear hfz6_9
      obtain ⟨kq, x26_2, rfl, HA, HJ2, BK412, HB⟩ := hcut
      cases kq with
      | zero => exact absurd HA.out (by simp [pacemakerlaw10_SlopeWithin.j0])
      | succ kj2 =>
        have H := HA.out
        clear HA
        simp only [pacemakerlaw10_SlopeWithin.j0] at H
        by_cases c9 : x26_2 = true
        · rename_i z0_ z1_ z2_ z3_ z4_ z5_ z6_
          revert k A0 c0 l0 w hu29 HR0 HC0 t396 t397 t398 t399 t400 t401 t402 t403 t404 t405 t406 t407 t408 t409 t410 t411 A2 z0_ w4 gb412 w5 z1_ z2_ GW412 GE412 z3_ z4_ z5_ z6_ wc u10 u11 u12 u13 u14 u15 u16 u17 u18 u19 u20 u21 u22 u23 u24 u25 u27 u28 u29 u30 u31 u32 u33 u34 u35 u36 u37 u38 u39 u40 u41 u42 u43 u44 u45 u46 u47 u48 u49 u50 u51 u52 u53 u54 u55 u56 u57 u58 u59 u60 u61 u62 u63 u64 u65 u66 u67 u68 u69 u70 u71 u72 u73 u74 u75 u76 u77 u78 u79 u80 u81 u82 u83 u84 x26_2 BK412 HB kj2 HJ2 H c9
          exact hP2.out
        · replace c9 := Bool.eq_false_iff.mpr c9
          subst c9
          have H1 : (if 0 < (l0.length : Int) then (pacemakerlaw10_SlopeWithin.l0 kj2 l0 ((rd_T36 l0 0).f1) ((rd_T36 l0 0).f1) 0 t396 t397 t398 t399 t400 t401 t402 t403 t404 t405 t406 t407 t408 t409 t410) else (none)) = some true := by rw [if_neg (show ¬ (false = true) by decide)] at H; exact H
          clear H
          have H := H1
          clear H1
          by_cases c12 : 0 < (l0.length : Int)
          · rw [if_pos c12] at H
            have c12b0 : decide (0 < (l0.length : Int)) = true := decide_eq_true c12
            have c12b1 : decide (0 < l0.length) = true := decide_eq_true (by omega)
            clear c12
            have H' := Aside0.mk H
            clear H
            have p414 : 0 ≤ (0 : Int) := (by omega)
            have q414 : 0 < (l0.length : Int) := of_decide_eq_true (by first | (with_reducible assumption) | assumption)
            obtain ⟨ad414, e414, hx414_0, hx414_1⟩ := at_T36 HR0.out 0 p414 q414
            cases e414
            have qi414 : (0 < l0.length) = True := eq_true (by omega)
            (try rw [show ((0 : Int)).toNat = 0 from rfl] at hx414_0)
            (try rw [show 0 * 2 = 0 from rfl] at hx414_0)
            (try rw [Addr.add_zero'] at hx414_0)
            (try rw [show ((0 : Int)).toNat = 0 from rfl] at hx414_1)
            (try rw [show 0 * 2 = 0 from rfl] at hx414_1)
            (try rw [Addr.add_zero'] at hx414_1)
            replace hx414_0 := (HB.out.cell (World.block_lt_of_cell? w _ hx414_0)).trans hx414_0
            replace hx414_1 := (HB.out.cell (World.block_lt_of_cell? w _ hx414_1)).trans hx414_1
            replace p414 := eq_true p414
            replace q414 := eq_true q414
            have p415 : 0 ≤ (0 : Int) := (by omega)
            have q415 : 0 < (l0.length : Int) := of_decide_eq_true (by first | (with_reducible assumption) | assumption)
            obtain ⟨ad415, e415, hx415_0, hx415_1⟩ := at_T36 HR0.out 0 p415 q415
            obtain rfl : ad414 = ad415 := (by injection e415)
            have qi415 : (0 < l0.length) = True := eq_true (by omega)
            (try rw [show ((0 : Int)).toNat = 0 from rfl] at hx415_0)
            (try rw [show 0 * 2 = 0 from rfl] at hx415_0)
            (try rw [Addr.add_zero'] at hx415_0)
            (try rw [show ((0 : Int)).toNat = 0 from rfl] at hx415_1)
            (try rw [show 0 * 2 = 0 from rfl] at hx415_1)
            (try rw [Addr.add_zero'] at hx415_1)
            replace hx415_0 := (HB.out.cell (World.block_lt_of_cell? w _ hx415_0)).trans hx415_0
            replace hx415_1 := (HB.out.cell (World.block_lt_of_cell? w _ hx415_1)).trans hx415_1
            replace p415 := eq_true p415
            replace q415 := eq_true q415
            go_wp2
            go_loopg [5, 6, 7] kj2 (fun kq v5 v6 v7 w' => ∃ (x5_2 : Int) (x6_2 : Int) (x7_2 : Int), v5 = .int .i64 x5_2 ∧ v6 = .int .i64 x6_2 ∧ v7 = .int .i64 x7_2 ∧ Aside0 (pacemakerlaw10_SlopeWithin.l0 kq l0 x5_2 x6_2 x7_2 t396 t397 t398 t399 t400 t401 t402 t403 t404 t405 t406 t407 t408 t409 t410 = some true) ∧ Aside0 (kq ≤ kj2) ∧ Aside0 (w'.heap[gb412]? = some (.cells #[.int .i64 t396, .int .i64 t397, .int .i64 t398, .int .i64 t399, .int .i64 t400, .int .i64 t401, .int .i64 t402, .int .i64 t403, .int .i64 t404, .int .i64 t405, .int .i64 t406, .int .i64 t407, .int .i64 t408, .int .i64 t409, .int .i64 t410] 29 (0, 0))) ∧ Aside0 (Below w.heap.size w w'))
            case atStart => exact ⟨((rd_T36 l0 0).f1), ((rd_T36 l0 0).f1), (0), (by first | rfl | (simp; done) | (simp [*]; done)), (by first | rfl | (simp; done) | (simp [*]; done)), (by first | rfl | (simp; done) | (simp [*]; done)), H', ⟨Nat.le_refl _⟩, ⟨by (with_reducible repeat (first | refine blk_drewN ?_ _ | refine blk_drew ?_ | refine blk_alloc ?_ _)); exact BK412.out⟩, ⟨by repeat (first | (with_reducible first | exact HB.out | apply below_alloc | apply pw_below_drewN | apply below_drew1 | refine below_set ?_ GE412.out) | exact HB.out)⟩⟩
            case round =>
              clear H'
              try clear c1
              try clear p2
              try clear p4
              try clear q4
              try clear hx4
              try clear qi4
              try clear c7
              try clear c7b0
              try clear c7b1
              try clear c8
              try clear c9
              try clear c12
              try clear c12b0
              try clear c12b1
              try clear hcz6_0
              try clear hcz6_1
              try clear hcz6_10
              try clear hcz6_11
              try clear hcz6_12
              try clear hcz6_13
              try clear hcz6_14
              try clear hcz6_2
              try clear hcz6_3
              try clear hcz6_4
              try clear hcz6_5
              try clear hcz6_6
              try clear hcz6_7
              try clear hcz6_8
              try clear hcz6_9
              try clear hfz6_0
              try clear hfz6_1
              try clear hfz6_10
              try clear hfz6_11
              try clear hfz6_12
              try clear hfz6_13
              try clear hfz6_14
              try clear hfz6_2
              try clear hfz6_3
              try clear hfz6_4
              try clear hfz6_5
              try clear hfz6_6
              try clear hfz6_7
              try clear hfz6_8
              try clear hfz6_9
              try clear hx414_0
              try clear hx414_1
              try clear hx415_0
              try clear hx415_1
              try clear p2
              try clear p414
              try clear p415
              try clear q414
              try clear q415
              obtain ⟨x5_2, x6_2, x7_2, rfl, rfl, rfl, HA, HK2, BK412, HB⟩ := hrel
              cases gk with
              | zero => exact absurd HA.out (by simp [pacemakerlaw10_SlopeWithin.l0])
              | succ k2 =>
                have H := HA.out
                clear HA
                simp only [pacemakerlaw10_SlopeWithin.l0] at H
                by_cases c13 : x7_2 < (l0.length : Int)
                · rename_i z0_ z1_ z2_ z3_ z4_ z5_ z6_ z7_ z8_ z9_ z10_ z11_ z12_ z13_ z14_ z15_ z16_ z17_ z18_ z19_ z20_ z21_ z22_ z23_ z24_ z25_ z26_ z27_ z28_ z29_ z30_
                  revert k c0 l0 w hu29 HC0 t396 t397 t398 t399 t400 t401 t402 t403 t404 t405 t406 t407 t408 t409 t410 t411 A2 z0_ w4 gb412 w5 z1_ z2_ GW412 GE412 wc u10 u11 u12 u13 u14 u15 u16 u17 u18 u19 u20 u21 u22 u23 u24 u25 u27 u28 u29 u30 u31 u32 u33 u34 u35 z3_ z4_ z5_ z6_ z7_ z8_ z9_ z10_ z11_ z12_ z13_ z14_ z15_ z16_ z17_ z18_ z19_ z20_ z21_ z22_ u56 u57 u58 u59 u60 u61 u62 u63 u64 u65 u66 u67 u68 u69 u70 u71 u72 u73 u74 u75 u76 u77 u78 u79 u80 u81 u82 u83 u84 z23_ z24_ kj2 HJ2 ad414 HR0 qi414 qi415 z25_ z26_ e415 wr u36 u37 u38 u39 u40 u41 u42 u43 u44 u45 u46 u47 u48 u49 u50 u51 u52 u53 u54 u55 z27_ z28_ z29_ x5_2 x6_2 x7_2 BK412 HB k2 z30_ HK2 H c13
                  exact hP3.out
                · rename_i z0_ z1_ z2_ z3_ z4_ z5_ z6_ z7_ z8_ z9_ z10_ z11_ z12_ z13_ z14_ z15_ z16_ z17_ z18_ z19_ z20_ z21_ z22_ z23_ z24_ z25_ z26_ z27_ z28_ z29_ z30_
                  revert k c0 l0 w hu29 HC0 t396 t397 t398 t399 t400 t401 t402 t403 t404 t405 t406 t407 t408 t409 t410 t411 A2 z0_ w4 gb412 w5 z1_ z2_ GW412 GE412 wc u10 u11 u12 u13 u14 u15 u16 u17 u18 u19 u20 u21 u22 u23 u24 u25 u27 u28 u29 u30 u31 u32 u33 u34 u35 z3_ z4_ z5_ z6_ z7_ z8_ z9_ z10_ z11_ z12_ z13_ z14_ z15_ z16_ z17_ z18_ z19_ z20_ z21_ z22_ u56 u57 u58 u59 u60 u61 u62 u63 u64 u65 u66 u67 u68 u69 u70 u71 u72 u73 u74 u75 u76 u77 u78 u79 u80 u81 u82 u83 u84 z23_ z24_ kj2 HJ2 ad414 HR0 qi414 qi415 z25_ z26_ e415 wr u36 u37 u38 u39 u40 u41 u42 u43 u44 u45 u46 u47 u48 u49 u50 u51 u52 u53 u54 u55 z27_ z28_ z29_ x5_2 x6_2 x7_2 BK412 HB k2 z30_ HK2 H c13
                  exact hP4.out
          · rw [if_neg c12] at H
            exact absurd H (by simp)
end Go.Proofs.Ytlokmliannklaaa.Print
end

section
namespace Go.Proofs.Ytlokmliannklaaa.Print
open Go.RowKit Go.Proofs.YtlokmliannklaaaW.PrintWords Go.Proofs.YtlokmliannklaaaW.PrintLast Go.Proofs.YtlokmliannklaaaW.PrintMore
attribute [local go_sem] max2_int min2_int max_two min_two max_three min_three max_four min_four   -- for this text's walks alone
set_option linter.unusedVariables false
set_option linter.unusedSimpArgs false

set_option maxHeartbeats 8000000 in
set_option maxRecDepth 100000 in
theorem pacemakerlaw10_SlopeWithin_calls_p0  : (pacemakerlaw10_SlopeWithin_calls_skel ).1 := by
  intro k A0 c0 l0 w hu29 HR0 HC0 t396 t397 t398 t399 t400 t401 t402 t403 t404 t405 t406 t407 t408 t409 t410 t411 A2 z0_ w4 gb412 w5 HB BK412 GW412 GE412 hcz6_0 hcz6_1 hcz6_2 hcz6_3 hcz6_4 hcz6_5 hcz6_6 hcz6_7 hcz6_8 hcz6_9 hcz6_10 hcz6_11 hcz6_12 hcz6_13 hcz6_14 hfz6_0 hfz6_1 hfz6_2 hfz6_3 hfz6_4 hfz6_5 hfz6_6 hfz6_7 hfz6_8 hfz6_9 hfz6_10 hfz6_11 hfz6_12 hfz6_13 hfz6_14 z1_ z2_ z3_ z4_ z5_ z6_ z7_ z8_ H c7
  rw [if_pos c7] at H
  have c7b0 : decide (100 < (l0.length : Int)) = true := decide_eq_true c7
  have c7b1 : decide (100 < l0.length) = true := decide_eq_true (by omega)
  clear c7
  (first | rw [c7b0] | (simp only [i64_w, i32_w]; rw [c7b0]) | skip)
  have H' := Aside0.mk H
  clear H
  go_wp2
  go_meet
  case rel => exact ⟨_, (true), (by first | rfl | (simp; done) | (simp [*]; done)), H', ⟨by first | omega | exact Nat.le_refl _⟩, ⟨by (with_reducible repeat (first | refine blk_drewN ?_ _ | refine blk_drew ?_ | refine blk_alloc ?_ _)); refine blk_put (cs := #[.int .i64 t396, .int .i64 t397, .int .i64 t398, .int .i64 t399, .int .i64 t400, .int .i64 t401, .int .i64 t402, .int .i64 t403, .int .i64 t404, .int .i64 t405, .int .i64 t406, .int .i64 t407, .int .i64 t408, .int .i64 t409, .int .i64 0]) ?_ 14 _ rfl; (with_reducible repeat (first | refine blk_drewN ?_ _ | refine blk_drew ?_ | refine blk_alloc ?_ _)); refine blk_put (cs := #[.int .i64 t396, .int .i64 t397, .int .i64 t398, .int .i64 t399, .int .i64 t400, .int .i64 t401, .int .i64 t402, .int .i64 t403, .int .i64 t404, .int .i64 t405, .int .i64 t406, .int .i64 t407, .int .i64 t408, .int .i64 0, .int .i64 0]) ?_ 13 _ rfl; (with_reducible repeat (first | refine blk_drewN ?_ _ | refine blk_drew ?_ | refine blk_alloc ?_ _)); refine blk_put (cs := #[.int .i64 t396, .int .i64 t397, .int .i64 t398, .int .i64 t399, .int .i64 t400, .int .i64 t401, .int .i64 t402, .int .i64 t403, .int .i64 t404, .int .i64 t405, .int .i64 t406, .int .i64 t407, .int .i64 0, .int .i64 0, .int .i64 0]) ?_ 12 _ rfl; (with_reducible repeat (first | refine blk_drewN ?_ _ | refine blk_drew ?_ | refine blk_alloc ?_ _)); refine blk_put (cs := #[.int .i64 t396, .int .i64 t397, .int .i64 t398, .int .i64 t399, .int .i64 t400, .int .i64 t401, .int .i64 t402, .int .i64 t403, .int .i64 t404, .int .i64 t405, .int .i64 t406, .int .i64 0, .int .i64 0, .int .i64 0, .int .i64 0]) ?_ 11 _ rfl; (with_reducible repeat (first | refine blk_drewN ?_ _ | refine blk_drew ?_ | refine blk_alloc ?_ _)); refine blk_put (cs := #[.int .i64 t396, .int .i64 t397, .int .i64 t398, .int .i64 t399, .int .i64 t400, .int .i64 t401, .int .i64 t402, .int .i64 t403, .int .i64 t404, .int .i64 t405, .int .i64 0, .int .i64 0, .int .i64 0, .int .i64 0, .int .i64 0]) ?_ 10 _ rfl; (with_reducible repeat (first | refine blk_drewN ?_ _ | refine blk_drew ?_ | refine blk_alloc ?_ _)); refine blk_put (cs := #[.int .i64 t396, .int .i64 t397, .int .i64 t398, .int .i64 t399, .int .i64 t400, .int .i64 t401, .int .i64 t402, .int .i64 t403, .int .i64 t404, .int .i64 0, .int .i64 0, .int .i64 0, .int .i64 0, .int .i64 0, .int .i64 0]) ?_ 9 _ rfl; (with_reducible repeat (first | refine blk_drewN ?_ _ | refine blk_drew ?_ | refine blk_alloc ?_ _)); refine blk_put (cs := #[.int .i64 t396, .int .i64 t397, .int .i64 t398, .int .i64 t399, .int .i64 t400, .int .i64 t401, .int .i64 t402, .int .i64 t403, .int .i64 0, .int .i64 0, .int .i64 0, .int .i64 0, .int .i64 0, .int .i64 0, .int .i64 0]) ?_ 8 _ rfl; (with_reducible repeat (first | refine blk_drewN ?_ _ | refine blk_drew ?_ | refine blk_alloc ?_ _)); refine blk_put (cs := #[.int .i64 t396, .int .i64 t397, .int .i64 t398, .int .i64 t399, .int .i64 t400, .int .i64 t401, .int .i64 t402, .int .i64 0, .int .i64 0, .int .i64 0, .int .i64 0, .int .i64 0, .int .i64 0, .int .i64 0, .int .i64 0]) ?_ 7 _ rfl; (with_reducible repeat (first | refine blk_drewN ?_ _ | refine blk_drew ?_ | refine blk_alloc ?_ _)); refine blk_put (cs := #[.int .i64 t396, .int .i64 t397, .int .i64 t398, .int .i64 t399, .int .i64 t400, .int .i64 t401, .int .i64 0, .int .i64 0, .int .i64 0, .int .i64 0, .int .i64 0, .int .i64 0, .int .i64 0, .int .i64 0, .int .i64 0]) ?_ 6 _ rfl; (with_reducible repeat (first | refine blk_drewN ?_ _ | refine blk_drew ?_ | refine blk_alloc ?_ _)); refine blk_put (cs := #[.int .i64 t396, .int .i64 t397, .int .i64 t398, .int .i64 t399, .int .i64 t400, .int .i64 0, .int .i64 0, .int .i64 0, .int .i64 0, .int .i64 0, .int .i64 0, .int .i64 0, .int .i64 0, .int .i64 0, .int .i64 0]) ?_ 5 _ rfl; (with_reducible repeat (first | refine blk_drewN ?_ _ | refine blk_drew ?_ | refine blk_alloc ?_ _)); refine blk_put (cs := #[.int .i64 t396, .int .i64 t397, .int .i64 t398, .int .i64 t399, .int .i64 0, .int .i64 0, .int .i64 0, .int .i64 0, .int .i64 0, .int .i64 0, .int .i64 0, .int .i64 0, .int .i64 0, .int .i64 0, .int .i64 0]) ?_ 4 _ rfl; (with_reducible repeat (first | refine blk_drewN ?_ _ | refine blk_drew ?_ | refine blk_alloc ?_ _)); refine blk_put (cs := #[.int .i64 t396, .int .i64 t397, .int .i64 t398, .int .i64 0, .int .i64 0, .int .i64 0, .int .i64 0, .int .i64 0, .int .i64 0, .int .i64 0, .int .i64 0, .int .i64 0, .int .i64 0, .int .i64 0, .int .i64 0]) ?_ 3 _ rfl; (with_reducible repeat (first | refine blk_drewN ?_ _ | refine blk_drew ?_ | refine blk_alloc ?_ _)); refine blk_put (cs := #[.int .i64 t396, .int .i64 t397, .int .i64 0, .int .i64 0, .int .i64 0, .int .i64 0, .int .i64 0, .int .i64 0, .int .i64 0, .int .i64 0, .int .i64 0, .int .i64 0, .int .i64 0, .int .i64 0, .int .i64 0]) ?_ 2 _ rfl; (with_reducible repeat (first | refine blk_drewN ?_ _ | refine blk_drew ?_ | refine blk_alloc ?_ _)); refine blk_put (cs := #[.int .i64 t396, .int .i64 0, .int .i64 0, .int .i64 0, .int .i64 0, .int .i64 0, .int .i64 0, .int .i64 0, .int .i64 0, .int .i64 0, .int .i64 0, .int .i64 0, .int .i64 0, .int .i64 0, .int .i64 0]) ?_ 1 _ rfl; (with_reducible repeat (first | refine blk_drewN ?_ _ | refine blk_drew ?_ | refine blk_alloc ?_ _)); refine blk_put (cs := #[.int .i64 0, .int .i64 0, .int .i64 0, .int .i64 0, .int .i64 0, .int .i64 0, .int .i64 0, .int .i64 0, .int .i64 0, .int .i64 0, .int .i64 0, .int .i64 0, .int .i64 0, .int .i64 0, .int .i64 0]) ?_ 0 _ rfl; (with_reducible repeat (first | refine blk_drewN ?_ _ | refine blk_drew ?_ | refine blk_alloc ?_ _)); exact BK412.out⟩, ⟨by repeat (first | (with_reducible first | exact HB.out | apply below_alloc | apply pw_below_drewN | apply below_drew1 | refine below_set ?_ GE412.out) | exact HB.out)⟩⟩
end Go.Proofs.Ytlokmliannklaaa.Print
end

section
namespace Go.Proofs.Ytlokmliannklaaa.Print
open Go.RowKit Go.Proofs.YtlokmliannklaaaW.PrintWords Go.Proofs.YtlokmliannklaaaW.PrintLast Go.Proofs.YtlokmliannklaaaW.PrintMore
attribute [local go_sem] max2_int min2_int max_two min_two max_three min_three max_four min_four   -- for this text's walks alone
set_option linter.unusedVariables false
set_option linter.unusedSimpArgs false

set_option maxHeartbeats 8000000 in
set_option maxRecDepth 100000 in
theorem pacemakerlaw10_SlopeWithin_calls_p1  : (pacemakerlaw10_SlopeWithin_calls_skel ).2.1 := by
  intro k A0 c0 l0 w hu29 HR0 HC0 t396 t397 t398 t399 t400 t401 t402 t403 t404 t405 t406 t407 t408 t409 t410 t411 A2 z0_ w4 gb412 w5 HB BK412 GW412 GE412 hcz6_0 hcz6_1 hcz6_2 hcz6_3 hcz6_4 hcz6_5 hcz6_6 hcz6_7 hcz6_8 hcz6_9 hcz6_10 hcz6_11 hcz6_12 hcz6_13 hcz6_14 hfz6_0 hfz6_1 hfz6_2 hfz6_3 hfz6_4 hfz6_5 hfz6_6 hfz6_7 hfz6_8 hfz6_9 hfz6_10 hfz6_11 hfz6_12 hfz6_13 hfz6_14 z1_ z2_ z3_ z4_ z5_ z6_ z7_ z8_ H c7
  rw [if_neg c7] at H
  have c7b0 : decide (100 < (l0.length : Int)) = false := decide_eq_false c7
  have c7b1 : decide (100 < l0.length) = false := decide_eq_false (by omega)
  clear c7
  (first | rw [c7b0] | (simp only [i64_w, i32_w]; rw [c7b0]) | skip)
  by_cases c8 : t411 = true
  · subst c8
    have H1 : (pacemakerlaw10_SlopeWithin.j0 k l0 ((l0.length : Int) == 0) t396 t397 t398 t399 t400 t401 t402 t403 t404 t405 t406 t407 t408 t409 t410) = some true := by rw [if_pos rfl] at H; exact H
    clear H
    have H := H1
    clear H1
    have H' := Aside0.mk H
    clear H
    go_wp2
    go_meet
    case rel => exact ⟨_, (((l0.length : Int) == 0)), (by first | rfl | (simp; done) | (simp [*]; done)), H', ⟨by first | omega | exact Nat.le_refl _⟩, ⟨by (with_reducible repeat (first | refine blk_drewN ?_ _ | refine blk_drew ?_ | refine blk_alloc ?_ _)); refine blk_put (cs := #[.int .i64 t396, .int .i64 t397, .int .i64 t398, .int .i64 t399, .int .i64 t400, .int .i64 t401, .int .i64 t402, .int .i64 t403, .int .i64 t404, .int .i64 t405, .int .i64 t406, .int .i64 t407, .int .i64 t408, .int .i64 t409, .int .i64 0]) ?_ 14 _ rfl; (with_reducible repeat (first | refine blk_drewN ?_ _ | refine blk_drew ?_ | refine blk_alloc ?_ _)); refine blk_put (cs := #[.int .i64 t396, .int .i64 t397, .int .i64 t398, .int .i64 t399, .int .i64 t400, .int .i64 t401, .int .i64 t402, .int .i64 t403, .int .i64 t404, .int .i64 t405, .int .i64 t406, .int .i64 t407, .int .i64 t408, .int .i64 0, .int .i64 0]) ?_ 13 _ rfl; (with_reducible repeat (first | refine blk_drewN ?_ _ | refine blk_drew ?_ | refine blk_alloc ?_ _)); refine blk_put (cs := #[.int .i64 t396, .int .i64 t397, .int .i64 t398, .int .i64 t399, .int .i64 t400, .int .i64 t401, .int .i64 t402, .int .i64 t403, .int .i64 t404, .int .i64 t405, .int .i64 t406, .int .i64 t407, .int .i64 0, .int .i64 0, .int .i64 0]) ?_ 12 _ rfl; (with_reducible repeat (first | refine blk_drewN ?_ _ | refine blk_drew ?_ | refine blk_alloc ?_ _)); refine blk_put (cs := #[.int .i64 t396, .int .i64 t397, .int .i64 t398, .int .i64 t399, .int .i64 t400, .int .i64 t401, .int .i64 t402, .int .i64 t403, .int .i64 t404, .int .i64 t405, .int .i64 t406, .int .i64 0, .int .i64 0, .int .i64 0, .int .i64 0]) ?_ 11 _ rfl; (with_reducible repeat (first | refine blk_drewN ?_ _ | refine blk_drew ?_ | refine blk_alloc ?_ _)); refine blk_put (cs := #[.int .i64 t396, .int .i64 t397, .int .i64 t398, .int .i64 t399, .int .i64 t400, .int .i64 t401, .int .i64 t402, .int .i64 t403, .int .i64 t404, .int .i64 t405, .int .i64 0, .int .i64 0, .int .i64 0, .int .i64 0, .int .i64 0]) ?_ 10 _ rfl; (with_reducible repeat (first | refine blk_drewN ?_ _ | refine blk_drew ?_ | refine blk_alloc ?_ _)); refine blk_put (cs := #[.int .i64 t396, .int .i64 t397, .int .i64 t398, .int .i64 t399, .int .i64 t400, .int .i64 t401, .int .i64 t402, .int .i64 t403, .int .i64 t404, .int .i64 0, .int .i64 0, .int .i64 0, .int .i64 0, .int .i64 0, .int .i64 0]) ?_ 9 _ rfl; (with_reducible repeat (first | refine blk_drewN ?_ _ | refine blk_drew ?_ | refine blk_alloc ?_ _)); refine blk_put (cs := #[.int .i64 t396, .int .i64 t397, .int .i64 t398, .int .i64 t399, .int .i64 t400, .int .i64 t401, .int .i64 t402, .int .i64 t403, .int .i64 0, .int .i64 0, .int .i64 0, .int .i64 0, .int .i64 0, .int .i64 0, .int .i64 0]) ?_ 8 _ rfl; (with_reducible repeat (first | refine blk_drewN ?_ _ | refine blk_drew ?_ | refine blk_alloc ?_ _)); refine blk_put (cs := #[.int .i64 t396, .int .i64 t397, .int .i64 t398, .int .i64 t399, .int .i64 t400, .int .i64 t401, .int .i64 t402, .int .i64 0, .int .i64 0, .int .i64 0, .int .i64 0, .int .i64 0, .int .i64 0, .int .i64 0, .int .i64 0]) ?_ 7 _ rfl; (with_reducible repeat (first | refine blk_drewN ?_ _ | refine blk_drew ?_ | refine blk_alloc ?_ _)); refine blk_put (cs := #[.int .i64 t396, .int .i64 t397, .int .i64 t398, .int .i64 t399, .int .i64 t400, .int .i64 t401, .int .i64 0, .int .i64 0, .int .i64 0, .int .i64 0, .int .i64 0, .int .i64 0, .int .i64 0, .int .i64 0, .int .i64 0]) ?_ 6 _ rfl; (with_reducible repeat (first | refine blk_drewN ?_ _ | refine blk_drew ?_ | refine blk_alloc ?_ _)); refine blk_put (cs := #[.int .i64 t396, .int .i64 t397, .int .i64 t398, .int .i64 t399, .int .i64 t400, .int .i64 0, .int .i64 0, .int .i64 0, .int .i64 0, .int .i64 0, .int .i64 0, .int .i64 0, .int .i64 0, .int .i64 0, .int .i64 0]) ?_ 5 _ rfl; (with_reducible repeat (first | refine blk_drewN ?_ _ | refine blk_drew ?_ | refine blk_alloc ?_ _)); refine blk_put (cs := #[.int .i64 t396, .int .i64 t397, .int .i64 t398, .int .i64 t399, .int .i64 0, .int .i64 0, .int .i64 0, .int .i64 0, .int .i64 0, .int .i64 0, .int .i64 0, .int .i64 0, .int .i64 0, .int .i64 0, .int .i64 0]) ?_ 4 _ rfl; (with_reducible repeat (first | refine blk_drewN ?_ _ | refine blk_drew ?_ | refine blk_alloc ?_ _)); refine blk_put (cs := #[.int .i64 t396, .int .i64 t397, .int .i64 t398, .int .i64 0, .int .i64 0, .int .i64 0, .int .i64 0, .int .i64 0, .int .i64 0, .int .i64 0, .int .i64 0, .int .i64 0, .int .i64 0, .int .i64 0, .int .i64 0]) ?_ 3 _ rfl; (with_reducible repeat (first | refine blk_drewN ?_ _ | refine blk_drew ?_ | refine blk_alloc ?_ _)); refine blk_put (cs := #[.int .i64 t396, .int .i64 t397, .int .i64 0, .int .i64 0, .int .i64 0, .int .i64 0, .int .i64 0, .int .i64 0, .int .i64 0, .int .i64 0, .int .i64 0, .int .i64 0, .int .i64 0, .int .i64 0, .int .i64 0]) ?_ 2 _ rfl; (with_reducible repeat (first | refine blk_drewN ?_ _ | refine blk_drew ?_ | refine blk_alloc ?_ _)); refine blk_put (cs := #[.int .i64 t396, .int .i64 0, .int .i64 0, .int .i64 0, .int .i64 0, .int .i64 0, .int .i64 0, .int .i64 0, .int .i64 0, .int .i64 0, .int .i64 0, .int .i64 0, .int .i64 0, .int .i64 0, .int .i64 0]) ?_ 1 _ rfl; (with_reducible repeat (first | refine blk_drewN ?_ _ | refine blk_drew ?_ | refine blk_alloc ?_ _)); refine blk_put (cs := #[.int .i64 0, .int .i64 0, .int .i64 0, .int .i64 0, .int .i64 0, .int .i64 0, .int .i64 0, .int .i64 0, .int .i64 0, .int .i64 0, .int .i64 0, .int .i64 0, .int .i64 0, .int .i64 0, .int .i64 0]) ?_ 0 _ rfl; (with_reducible repeat (first | refine blk_drewN ?_ _ | refine blk_drew ?_ | refine blk_alloc ?_ _)); exact BK412.out⟩, ⟨by repeat (first | (with_reducible first | exact HB.out | apply below_alloc | apply pw_below_drewN | apply below_drew1 | refine below_set ?_ GE412.out) | exact HB.out)⟩⟩
  · replace c8 := Bool.eq_false_iff.mpr c8
    subst c8
    have H1 : (pacemakerlaw10_SlopeWithin.j0 k l0 true t396 t397 t398 t399 t400 t401 t402 t403 t404 t405 t406 t407 t408 t409 t410) = some true := by rw [if_neg (show ¬ (false = true) by decide)] at H; exact H
    clear H
    have H := H1
    clear H1
    have H' := Aside0.mk H
    clear H
    go_wp2
    go_meet
    case rel => exact ⟨_, (true), (by first | rfl | (simp; done) | (simp [*]; done)), H', ⟨by first | omega | exact Nat.le_refl _⟩, ⟨by (with_reducible repeat (first | refine blk_drewN ?_ _ | refine blk_drew ?_ | refine blk_alloc ?_ _)); refine blk_put (cs := #[.int .i64 t396, .int .i64 t397, .int .i64 t398, .int .i64 t399, .int .i64 t400, .int .i64 t401, .int .i64 t402, .int .i64 t403, .int .i64 t404, .int .i64 t405, .int .i64 t406, .int .i64 t407, .int .i64 t408, .int .i64 t409, .int .i64 0]) ?_ 14 _ rfl; (with_reducible repeat (first | refine blk_drewN ?_ _ | refine blk_drew ?_ | refine blk_alloc ?_ _)); refine blk_put (cs := #[.int .i64 t396, .int .i64 t397, .int .i64 t398, .int .i64 t399, .int .i64 t400, .int .i64 t401, .int .i64 t402, .int .i64 t403, .int .i64 t404, .int .i64 t405, .int .i64 t406, .int .i64 t407, .int .i64 t408, .int .i64 0, .int .i64 0]) ?_ 13 _ rfl; (with_reducible repeat (first | refine blk_drewN ?_ _ | refine blk_drew ?_ | refine blk_alloc ?_ _)); refine blk_put (cs := #[.int .i64 t396, .int .i64 t397, .int .i64 t398, .int .i64 t399, .int .i64 t400, .int .i64 t401, .int .i64 t402, .int .i64 t403, .int .i64 t404, .int .i64 t405, .int .i64 t406, .int .i64 t407, .int .i64 0, .int .i64 0, .int .i64 0]) ?_ 12 _ rfl; (with_reducible repeat (first | refine blk_drewN ?_ _ | refine blk_drew ?_ | refine blk_alloc ?_ _)); refine blk_put (cs := #[.int .i64 t396, .int .i64 t397, .int .i64 t398, .int .i64 t399, .int .i64 t400, .int .i64 t401, .int .i64 t402, .int .i64 t403, .int .i64 t404, .int .i64 t405, .int .i64 t406, .int .i64 0, .int .i64 0, .int .i64 0, .int .i64 0]) ?_ 11 _ rfl; (with_reducible repeat (first | refine blk_drewN ?_ _ | refine blk_drew ?_ | refine blk_alloc ?_ _)); refine blk_put (cs := #[.int .i64 t396, .int .i64 t397, .int .i64 t398, .int .i64 t399, .int .i64 t400, .int .i64 t401, .int .i64 t402, .int .i64 t403, .int .i64 t404, .int .i64 t405, .int .i64 0, .int .i64 0, .int .i64 0, .int .i64 0, .int .i64 0]) ?_ 10 _ rfl; (with_reducible repeat (first | refine blk_drewN ?_ _ | refine blk_drew ?_ | refine blk_alloc ?_ _)); refine blk_put (cs := #[.int .i64 t396, .int .i64 t397, .int .i64 t398, .int .i64 t399, .int .i64 t400, .int .i64 t401, .int .i64 t402, .int .i64 t403, .int .i64 t404, .int .i64 0, .int .i64 0, .int .i64 0, .int .i64 0, .int .i64 0, .int .i64 0]) ?_ 9 _ rfl; (with_reducible repeat (first | refine blk_drewN ?_ _ | refine blk_drew ?_ | refine blk_alloc ?_ _)); refine blk_put (cs := #[.int .i64 t396, .int .i64 t397, .int .i64 t398, .int .i64 t399, .int .i64 t400, .int .i64 t401, .int .i64 t402, .int .i64 t403, .int .i64 0, .int .i64 0, .int .i64 0, .int .i64 0, .int .i64 0, .int .i64 0, .int .i64 0]) ?_ 8 _ rfl; (with_reducible repeat (first | refine blk_drewN ?_ _ | refine blk_drew ?_ | refine blk_alloc ?_ _)); refine blk_put (cs := #[.int .i64 t396, .int .i64 t397, .int .i64 t398, .int .i64 t399, .int .i64 t400, .int .i64 t401, .int .i64 t402, .int .i64 0, .int .i64 0, .int .i64 0, .int .i64 0, .int .i64 0, .int .i64 0, .int .i64 0, .int .i64 0]) ?_ 7 _ rfl; (with_reducible repeat (first | refine blk_drewN ?_ _ | refine blk_drew ?_ | refine blk_alloc ?_ _)); refine blk_put (cs := #[.int .i64 t396, .int .i64 t397, .int .i64 t398, .int .i64 t399, .int .i64 t400, .int .i64 t401, .int .i64 0, .int .i64 0, .int .i64 0, .int .i64 0, .int .i64 0, .int .i64 0, .int .i64 0, .int .i64 0, .int .i64 0]) ?_ 6 _ rfl; (with_reducible repeat (first | refine blk_drewN ?_ _ | refine blk_drew ?_ | refine blk_alloc ?_ _)); refine blk_put (cs := #[.int .i64 t396, .int .i64 t397, .int .i64 t398, .int .i64 t399, .int .i64 t400, .int .i64 0, .int .i64 0, .int .i64 0, .int .i64 0, .int .i64 0, .int .i64 0, .int .i64 0, .int .i64 0, .int .i64 0, .int .i64 0]) ?_ 5 _ rfl; (with_reducible repeat (first | refine blk_drewN ?_ _ | refine blk_drew ?_ | refine blk_alloc ?_ _)); refine blk_put (cs := #[.int .i64 t396, .int .i64 t397, .int .i64 t398, .int .i64 t399, .int .i64 0, .int .i64 0, .int .i64 0, .int .i64 0, .int .i64 0, .int .i64 0, .int .i64 0, .int .i64 0, .int .i64 0, .int .i64 0, .int .i64 0]) ?_ 4 _ rfl; (with_reducible repeat (first | refine blk_drewN ?_ _ | refine blk_drew ?_ | refine blk_alloc ?_ _)); refine blk_put (cs := #[.int .i64 t396, .int .i64 t397, .int .i64 t398, .int .i64 0, .int .i64 0, .int .i64 0, .int .i64 0, .int .i64 0, .int .i64 0, .int .i64 0, .int .i64 0, .int .i64 0, .int .i64 0, .int .i64 0, .int .i64 0]) ?_ 3 _ rfl; (with_reducible repeat (first | refine blk_drewN ?_ _ | refine blk_drew ?_ | refine blk_alloc ?_ _)); refine blk_put (cs := #[.int .i64 t396, .int .i64 t397, .int .i64 0, .int .i64 0, .int .i64 0, .int .i64 0, .int .i64 0, .int .i64 0, .int .i64 0, .int .i64 0, .int .i64 0, .int .i64 0, .int .i64 0, .int .i64 0, .int .i64 0]) ?_ 2 _ rfl; (with_reducible repeat (first | refine blk_drewN ?_ _ | refine blk_drew ?_ | refine blk_alloc ?_ _)); refine blk_put (cs := #[.int .i64 t396, .int .i64 0, .int .i64 0, .int .i64 0, .int .i64 0, .int .i64 0, .int .i64 0, .int .i64 0, .int .i64 0, .int .i64 0, .int .i64 0, .int .i64 0, .int .i64 0, .int .i64 0, .int .i64 0]) ?_ 1 _ rfl; (with_reducible repeat (first | refine blk_drewN ?_ _ | refine blk_drew ?_ | refine blk_alloc ?_ _)); refine blk_put (cs := #[.int .i64 0, .int .i64 0, .int .i64 0, .int .i64 0, .int .i64 0, .int .i64 0, .int .i64 0, .int .i64 0, .int .i64 0, .int .i64 0, .int .i64 0, .int .i64 0, .int .i64 0, .int .i64 0, .int .i64 0]) ?_ 0 _ rfl; (with_reducible repeat (first | refine blk_drewN ?_ _ | refine blk_drew ?_ | refine blk_alloc ?_ _)); exact BK412.out⟩, ⟨by repeat (first | (with_reducible first | exact HB.out | apply below_alloc | apply pw_below_drewN | apply below_drew1 | refine below_set ?_ GE412.out) | exact HB.out)⟩⟩
end Go.Proofs.Ytlokmliannklaaa.Print
end

section
namespace Go.Proofs.Ytlokmliannklaaa.Print
open Go.RowKit Go.Proofs.YtlokmliannklaaaW.PrintWords Go.Proofs.YtlokmliannklaaaW.PrintLast Go.Proofs.YtlokmliannklaaaW.PrintMore
attribute [local go_sem] max2_int min2_int max_two min_two max_three min_three max_four min_four   -- for this text's walks alone
set_option linter.unusedVariables false
set_option linter.unusedSimpArgs false

set_option maxHeartbeats 8000000 in
set_option maxRecDepth 100000 in
theorem pacemakerlaw10_SlopeWithin_calls_p2  : (pacemakerlaw10_SlopeWithin_calls_skel ).2.2.1 := by
  intro k A0 c0 l0 w hu29 HR0 HC0 t396 t397 t398 t399 t400 t401 t402 t403 t404 t405 t406 t407 t408 t409 t410 t411 A2 z0_ w4 gb412 w5 z1_ z2_ GW412 GE412 z3_ z4_ z5_ z6_ wc u10 u11 u12 u13 u14 u15 u16 u17 u18 u19 u20 u21 u22 u23 u24 u25 u27 u28 u29 u30 u31 u32 u33 u34 u35 u36 u37 u38 u39 u40 u41 u42 u43 u44 u45 u46 u47 u48 u49 u50 u51 u52 u53 u54 u55 u56 u57 u58 u59 u60 u61 u62 u63 u64 u65 u66 u67 u68 u69 u70 u71 u72 u73 u74 u75 u76 u77 u78 u79 u80 u81 u82 u83 u84 x26_2 BK412 HB kj2 HJ2 H c9
  subst c9
  have H1 : ((pacemakerlaw10_fitted.f).bind fun t413 => (some t413)) = some true := by rw [if_pos rfl] at H; exact H
  clear H
  have H := H1
  clear H1
  replace H := Option.bind_eq_some_iff.mp H
  obtain ⟨t413, A100, H⟩ := H
  replace H : (some t413) = some true := H
  have A10 := Aside0.mk A100
  clear A100
  first
    | exact absurd (Option.some.inj H) (by decide)
    | have HL_ := Aside0.mk (Option.some.inj H)
      clear H
      go_wp2_with (first | ((with_reducible refine gate_callee (f := 9) rfl ?_); refine goesL_ (some 27) rfl rfl Try.func9 (by kernel_rfl) rfl #[] rfl (by (try simp only [List.map_toArray, List.map_cons, List.map_nil]); first | done | rfl | (simp only [List.length_drop, List.length_take]; rfl)) ?_; (with_reducible refine (pacemakerlaw10_fitted.calls  t413 _ A10.out).mono ?_); rintro e w11 ⟨rfl, hb⟩; refine ⟨_, rfl, ?_⟩; have n0_ := Aside0.mk (blk_below (g := gb412) (o := .cells #[.int .i64 t396, .int .i64 t397, .int .i64 t398, .int .i64 t399, .int .i64 t400, .int .i64 t401, .int .i64 t402, .int .i64 t403, .int .i64 t404, .int .i64 t405, .int .i64 t406, .int .i64 t407, .int .i64 t408, .int .i64 t409, .int .i64 t410] 29 (0, 0)) (by (with_reducible repeat (first | refine blk_drewN ?_ _ | refine blk_drew ?_ | refine blk_alloc ?_ _)); exact BK412.out) hb); have n1_ := Aside0.mk (below_step (by repeat (first | (with_reducible first | exact HB.out | apply below_alloc | apply pw_below_drewN | apply below_drew1 | refine below_set ?_ GE412.out) | exact HB.out)) hb); clear BK412; clear HB; have BK412 := n0_; have HB := n1_; clear n0_ n1_; (try clear hb); (try clear hb2); (try clear hk); (try clear hi)))
      go_ret
      have hlast := HL_.out
      exact ⟨by first | rfl | (simp [errW_none, errW_some] <;> rfl) | (simp [*, errW_none, errW_some] <;> rfl), by repeat (first | (with_reducible first | exact HB.out | apply below_alloc | apply pw_below_drewN | apply below_drew1 | refine below_set ?_ GE412.out) | exact HB.out)⟩
end Go.Proofs.Ytlokmliannklaaa.Print
end

section
namespace Go.Proofs.Ytlokmliannklaaa.Print
open Go.RowKit Go.Proofs.YtlokmliannklaaaW.PrintWords Go.Proofs.YtlokmliannklaaaW.PrintLast Go.Proofs.YtlokmliannklaaaW.PrintMore
attribute [local go_sem] max2_int min2_int max_two min_two max_three min_three max_four min_four   -- for this text's walks alone
set_option linter.unusedVariables false
set_option linter.unusedSimpArgs false

set_option maxHeartbeats 8000000 in
set_option maxRecDepth 100000 in
theorem pacemakerlaw10_SlopeWithin_calls_p3  : (pacemakerlaw10_SlopeWithin_calls_skel ).2.2.2.1 := by
  intro k c0 l0 w hu29 HC0 t396 t397 t398 t399 t400 t401 t402 t403 t404 t405 t406 t407 t408 t409 t410 t411 A2 z0_ w4 gb412 w5 z1_ z2_ GW412 GE412 wc u10 u11 u12 u13 u14 u15 u16 u17 u18 u19 u20 u21 u22 u23 u24 u25 u27 u28 u29 u30 u31 u32 u33 u34 u35 z3_ z4_ z5_ z6_ z7_ z8_ z9_ z10_ z11_ z12_ z13_ z14_ z15_ z16_ z17_ z18_ z19_ z20_ z21_ z22_ u56 u57 u58 u59 u60 u61 u62 u63 u64 u65 u66 u67 u68 u69 u70 u71 u72 u73 u74 u75 u76 u77 u78 u79 u80 u81 u82 u83 u84 z23_ z24_ kj2 HJ2 ad414 HR0 qi414 qi415 z25_ z26_ e415 wr u36 u37 u38 u39 u40 u41 u42 u43 u44 u45 u46 u47 u48 u49 u50 u51 u52 u53 u54 u55 z27_ z28_ z29_ x5_2 x6_2 x7_2 BK412 HB k2 z30_ HK2 H c13
  rw [if_pos c13] at H
  have c13b0 : decide (x7_2 < (l0.length : Int)) = true := decide_eq_true c13
  clear c13
  by_cases c14 : 0 ≤ x7_2
  · rw [if_pos c14] at H
    have c14b0 : decide (0 ≤ x7_2) = true := decide_eq_true c14
    clear c14
    obtain ⟨ji15, hji15⟩ : ∃ j_ : Int, (mn x5_2 ((rd_T36 l0 x7_2).f1)) = j_ := ⟨_, rfl⟩
    replace H : (pacemakerlaw10_SlopeWithin.l0 k2 l0 ji15 (mx x6_2 ((rd_T36 l0 x7_2).f1)) (wrap64 (x7_2 + 1)) t396 t397 t398 t399 t400 t401 t402 t403 t404 t405 t406 t407 t408 t409 t410) = some true := by first | (rw [hji15] at H; exact H) | (simp only [hji15] at H ⊢; exact H)
    have hji15_ : (if ((rd_T36 l0 x7_2).f1) < x5_2 then ((rd_T36 l0 x7_2).f1) else x5_2) = ji15 := hji15
    obtain ⟨ji16, hji16⟩ : ∃ j_ : Int, (mx x6_2 ((rd_T36 l0 x7_2).f1)) = j_ := ⟨_, rfl⟩
    replace H : (pacemakerlaw10_SlopeWithin.l0 k2 l0 ji15 ji16 (wrap64 (x7_2 + 1)) t396 t397 t398 t399 t400 t401 t402 t403 t404 t405 t406 t407 t408 t409 t410) = some true := by first | (rw [hji16] at H; exact H) | (simp only [hji16] at H ⊢; exact H)
    have hji16_ : (if x6_2 < ((rd_T36 l0 x7_2).f1) then ((rd_T36 l0 x7_2).f1) else x6_2) = ji16 := hji16
    have H' := Aside0.mk H
    clear H
    have p416 : 0 ≤ (x7_2 : Int) := of_decide_eq_true (by first | (with_reducible assumption) | assumption)
    have q416 : x7_2 < (l0.length : Int) := of_decide_eq_true (by first | (with_reducible assumption) | assumption)
    obtain ⟨ad416, e416, hx416_0, hx416_1⟩ := at_T36 HR0.out x7_2 p416 q416
    obtain rfl : ad414 = ad416 := (by injection e416)
    replace hx416_0 := (HB.out.cell (World.block_lt_of_cell? w _ hx416_0)).trans hx416_0
    replace hx416_1 := (HB.out.cell (World.block_lt_of_cell? w _ hx416_1)).trans hx416_1
    replace p416 := eq_true p416
    replace q416 := eq_true q416
    have p417 : 0 ≤ (x7_2 : Int) := of_decide_eq_true (by first | (with_reducible assumption) | assumption)
    have q417 : x7_2 < (l0.length : Int) := of_decide_eq_true (by first | (with_reducible assumption) | assumption)
    obtain ⟨ad417, e417, hx417_0, hx417_1⟩ := at_T36 HR0.out x7_2 p417 q417
    obtain rfl : ad414 = ad417 := (by injection e417)
    replace hx417_0 := (HB.out.cell (World.block_lt_of_cell? w _ hx417_0)).trans hx417_0
    replace hx417_1 := (HB.out.cell (World.block_lt_of_cell? w _ hx417_1)).trans hx417_1
    replace p417 := eq_true p417
    replace q417 := eq_true q417
    go_wp2
    go_roundg k2
    case measure => have := HJ2.out; have := HK2.out; omega
    case rel => exact ⟨(ji15), (ji16), (wrap64 (x7_2 + 1)), (by first | rfl | (simp; done) | (simp only [← hji15] <;> (first | rfl | simp)) | (simp [*]; done)), (by first | rfl | (simp; done) | (simp only [← hji16] <;> (first | rfl | simp)) | (simp [*]; done)), (by first | rfl | (simp; done) | (simp [*]; done)), H', ⟨by have := HJ2.out; have := HK2.out; omega⟩, ⟨by (with_reducible repeat (first | refine blk_drewN ?_ _ | refine blk_drew ?_ | refine blk_alloc ?_ _)); exact BK412.out⟩, ⟨by repeat (first | (with_reducible first | exact HB.out | apply below_alloc | apply pw_below_drewN | apply below_drew1 | refine below_set ?_ GE412.out) | exact HB.out)⟩⟩
  · rw [if_neg c14] at H
    exact absurd H (by simp)
end Go.Proofs.Ytlokmliannklaaa.Print
end

section
namespace Go.Proofs.Ytlokmliannklaaa.Print
open Go.RowKit Go.Proofs.YtlokmliannklaaaW.PrintWords Go.Proofs.YtlokmliannklaaaW.PrintLast Go.Proofs.YtlokmliannklaaaW.PrintMore
attribute [local go_sem] max2_int min2_int max_two min_two max_three min_three max_four min_four   -- for this text's walks alone
set_option linter.unusedVariables false
set_option linter.unusedSimpArgs false

set_option maxHeartbeats 8000000 in
set_option maxRecDepth 100000 in
theorem pacemakerlaw10_SlopeWithin_calls_p4  : (pacemakerlaw10_SlopeWithin_calls_skel ).2.2.2.2.1 := by
  intro k c0 l0 w hu29 HC0 t396 t397 t398 t399 t400 t401 t402 t403 t404 t405 t406 t407 t408 t409 t410 t411 A2 z0_ w4 gb412 w5 z1_ z2_ GW412 GE412 wc u10 u11 u12 u13 u14 u15 u16 u17 u18 u19 u20 u21 u22 u23 u24 u25 u27 u28 u29 u30 u31 u32 u33 u34 u35 z3_ z4_ z5_ z6_ z7_ z8_ z9_ z10_ z11_ z12_ z13_ z14_ z15_ z16_ z17_ z18_ z19_ z20_ z21_ z22_ u56 u57 u58 u59 u60 u61 u62 u63 u64 u65 u66 u67 u68 u69 u70 u71 u72 u73 u74 u75 u76 u77 u78 u79 u80 u81 u82 u83 u84 z23_ z24_ kj2 HJ2 ad414 HR0 qi414 qi415 z25_ z26_ e415 wr u36 u37 u38 u39 u40 u41 u42 u43 u44 u45 u46 u47 u48 u49 u50 u51 u52 u53 u54 u55 z27_ z28_ z29_ x5_2 x6_2 x7_2 BK412 HB k2 z30_ HK2 H c13
  rw [if_neg c13] at H
  have c13b0 : decide (x7_2 < (l0.length : Int)) = false := decide_eq_false c13
  clear c13
  replace H := Option.bind_eq_some_iff.mp H
  obtain ⟨t418, A170, H⟩ := H
  replace H : ((slope_Dev.f k2 t396 t397 t398 t399 t400 t401 t402 t403 t404 t405 t406 t407 t408 t409 t410).bind fun t419 => ((pacemakerlaw10_fitted.f).bind fun t420 => (if t420 = true then ((fix_Of.f x5_2).bind fun t421 => (if t418 ≥ t421 then ((fix_Of.f x6_2).bind fun t422 => (if t418 ≤ t422 then (if t419 ≥ 0 then ((fix_Of.f (wrap64 (x6_2 - x5_2))).bind fun t423 => (some (decide (t419 ≤ t423)))) else (some false)) else (some false))) else (some false))) else (some false)))) = some true := H
  have A17 := Aside0.mk A170
  clear A170
  replace H := Option.bind_eq_some_iff.mp H
  obtain ⟨t419, A180, H⟩ := H
  replace H : ((pacemakerlaw10_fitted.f).bind fun t420 => (if t420 = true then ((fix_Of.f x5_2).bind fun t421 => (if t418 ≥ t421 then ((fix_Of.f x6_2).bind fun t422 => (if t418 ≤ t422 then (if t419 ≥ 0 then ((fix_Of.f (wrap64 (x6_2 - x5_2))).bind fun t423 => (some (decide (t419 ≤ t423)))) else (some false)) else (some false))) else (some false))) else (some false))) = some true := H
  have A18 := Aside0.mk A180
  clear A180
  replace H := Option.bind_eq_some_iff.mp H
  obtain ⟨t420, A190, H⟩ := H
  replace H : (if t420 = true then ((fix_Of.f x5_2).bind fun t421 => (if t418 ≥ t421 then ((fix_Of.f x6_2).bind fun t422 => (if t418 ≤ t422 then (if t419 ≥ 0 then ((fix_Of.f (wrap64 (x6_2 - x5_2))).bind fun t423 => (some (decide (t419 ≤ t423)))) else (some false)) else (some false))) else (some false))) else (some false)) = some true := H
  have A19 := Aside0.mk A190
  clear A190
  by_cases c20 : t420 = true
  · subst c20
    have H1 : ((fix_Of.f x5_2).bind fun t421 => (if t418 ≥ t421 then ((fix_Of.f x6_2).bind fun t422 => (if t418 ≤ t422 then (if t419 ≥ 0 then ((fix_Of.f (wrap64 (x6_2 - x5_2))).bind fun t423 => (some (decide (t419 ≤ t423)))) else (some false)) else (some false))) else (some false))) = some true := by rw [if_pos rfl] at H; exact H
    clear H
    have H := H1
    clear H1
    replace H := Option.bind_eq_some_iff.mp H
    obtain ⟨t421, A210, H⟩ := H
    replace H : (if t418 ≥ t421 then ((fix_Of.f x6_2).bind fun t422 => (if t418 ≤ t422 then (if t419 ≥ 0 then ((fix_Of.f (wrap64 (x6_2 - x5_2))).bind fun t423 => (some (decide (t419 ≤ t423)))) else (some false)) else (some false))) else (some false)) = some true := H
    have A21 := Aside0.mk A210
    clear A210
    by_cases c22 : t418 ≥ t421
    · rw [if_pos c22] at H
      have c22b0 : decide (t421 ≤ t418) = true := decide_eq_true c22
      clear c22
      replace H := Option.bind_eq_some_iff.mp H
      obtain ⟨t422, A230, H⟩ := H
      replace H : (if t418 ≤ t422 then (if t419 ≥ 0 then ((fix_Of.f (wrap64 (x6_2 - x5_2))).bind fun t423 => (some (decide (t419 ≤ t423)))) else (some false)) else (some false)) = some true := H
      have A23 := Aside0.mk A230
      clear A230
      by_cases c24 : t418 ≤ t422
      · rw [if_pos c24] at H
        have c24b0 : decide (t418 ≤ t422) = true := decide_eq_true c24
        clear c24
        by_cases c25 : t419 ≥ 0
        · rw [if_pos c25] at H
          have c25b0 : decide (0 ≤ t419) = true := decide_eq_true c25
          clear c25
          replace H := Option.bind_eq_some_iff.mp H
          obtain ⟨t423, A260, H⟩ := H
          replace H : (some (decide (t419 ≤ t423))) = some true := H
          have A26 := Aside0.mk A260
          clear A260
          first
            | exact absurd (Option.some.inj H) (by decide)
            | have HL_ := Aside0.mk (Option.some.inj H)
              clear H
              have hcz27_0 : wr.cell? ⟨gb412, 0, none⟩ = some (.int .i64 t396) := (blk_cell BK412.out 0).trans rfl
              have hcz27_1 : wr.cell? ⟨gb412, 1, none⟩ = some (.int .i64 t397) := (blk_cell BK412.out 1).trans rfl
              have hcz27_2 : wr.cell? ⟨gb412, 2, none⟩ = some (.int .i64 t398) := (blk_cell BK412.out 2).trans rfl
              have hcz27_3 : wr.cell? ⟨gb412, 3, none⟩ = some (.int .i64 t399) := (blk_cell BK412.out 3).trans rfl
              have hcz27_4 : wr.cell? ⟨gb412, 4, none⟩ = some (.int .i64 t400) := (blk_cell BK412.out 4).trans rfl
              have hcz27_5 : wr.cell? ⟨gb412, 5, none⟩ = some (.int .i64 t401) := (blk_cell BK412.out 5).trans rfl
              have hcz27_6 : wr.cell? ⟨gb412, 6, none⟩ = some (.int .i64 t402) := (blk_cell BK412.out 6).trans rfl
              have hcz27_7 : wr.cell? ⟨gb412, 7, none⟩ = some (.int .i64 t403) := (blk_cell BK412.out 7).trans rfl
              have hcz27_8 : wr.cell? ⟨gb412, 8, none⟩ = some (.int .i64 t404) := (blk_cell BK412.out 8).trans rfl
              have hcz27_9 : wr.cell? ⟨gb412, 9, none⟩ = some (.int .i64 t405) := (blk_cell BK412.out 9).trans rfl
              have hcz27_10 : wr.cell? ⟨gb412, 10, none⟩ = some (.int .i64 t406) := (blk_cell BK412.out 10).trans rfl
              have hcz27_11 : wr.cell? ⟨gb412, 11, none⟩ = some (.int .i64 t407) := (blk_cell BK412.out 11).trans rfl
              have hcz27_12 : wr.cell? ⟨gb412, 12, none⟩ = some (.int .i64 t408) := (blk_cell BK412.out 12).trans rfl
              have hcz27_13 : wr.cell? ⟨gb412, 13, none⟩ = some (.int .i64 t409) := (blk_cell BK412.out 13).trans rfl
              have hcz27_14 : wr.cell? ⟨gb412, 14, none⟩ = some (.int .i64 t410) := (blk_cell BK412.out 14).trans rfl
              have hfz27_0 := blk_frozen BK412.out 0
              have hfz27_1 := blk_frozen BK412.out 1
              have hfz27_2 := blk_frozen BK412.out 2
              have hfz27_3 := blk_frozen BK412.out 3
              have hfz27_4 := blk_frozen BK412.out 4
              have hfz27_5 := blk_frozen BK412.out 5
              have hfz27_6 := blk_frozen BK412.out 6
              have hfz27_7 := blk_frozen BK412.out 7
              have hfz27_8 := blk_frozen BK412.out 8
              have hfz27_9 := blk_frozen BK412.out 9
              have hfz27_10 := blk_frozen BK412.out 10
              have hfz27_11 := blk_frozen BK412.out 11
              have hfz27_12 := blk_frozen BK412.out 12
              have hfz27_13 := blk_frozen BK412.out 13
              have hfz27_14 := blk_frozen BK412.out 14
              go_wp2_with (first | ((with_reducible refine gate_callee (f := 12) rfl ?_); refine goesL_ (some 57) rfl rfl Try.func12 (by kernel_rfl) rfl #[.agg #[.int .i64 t396, .int .i64 t397, .int .i64 t398, .int .i64 t399, .int .i64 t400, .int .i64 t401, .int .i64 t402, .int .i64 t403, .int .i64 t404, .int .i64 t405, .int .i64 t406, .int .i64 t407, .int .i64 t408, .int .i64 t409, .int .i64 t410]] rfl (by (try simp only [List.map_toArray, List.map_cons, List.map_nil]); first | done | rfl | (simp only [List.length_drop, List.length_take]; rfl)) ?_; (with_reducible refine (slope_Mean.calls k2 t396 t397 t398 t399 t400 t401 t402 t403 t404 t405 t406 t407 t408 t409 t410 t418 _ A17.out).mono ?_); rintro e w28 ⟨rfl, hb⟩; refine ⟨_, rfl, ?_⟩; have n0_ := Aside0.mk (blk_below (g := gb412) (o := .cells #[.int .i64 t396, .int .i64 t397, .int .i64 t398, .int .i64 t399, .int .i64 t400, .int .i64 t401, .int .i64 t402, .int .i64 t403, .int .i64 t404, .int .i64 t405, .int .i64 t406, .int .i64 t407, .int .i64 t408, .int .i64 t409, .int .i64 t410] 29 (0, 0)) (by (with_reducible repeat (first | refine blk_drewN ?_ _ | refine blk_drew ?_ | refine blk_alloc ?_ _)); exact BK412.out) hb); have n1_ := Aside0.mk (below_step (by repeat (first | (with_reducible first | exact HB.out | apply below_alloc | apply pw_below_drewN | apply below_drew1 | refine below_set ?_ GE412.out) | exact HB.out)) hb); clear BK412; clear HB; have BK412 := n0_; have HB := n1_; clear n0_ n1_; (try clear hb); (try clear hb2); (try clear hk); (try clear hi); have hcz29_0 : w28.cell? ⟨gb412, 0, none⟩ = some (.int .i64 t396) := (blk_cell BK412.out 0).trans rfl; have hcz29_1 : w28.cell? ⟨gb412, 1, none⟩ = some (.int .i64 t397) := (blk_cell BK412.out 1).trans rfl; have hcz29_2 : w28.cell? ⟨gb412, 2, none⟩ = some (.int .i64 t398) := (blk_cell BK412.out 2).trans rfl; have hcz29_3 : w28.cell? ⟨gb412, 3, none⟩ = some (.int .i64 t399) := (blk_cell BK412.out 3).trans rfl; have hcz29_4 : w28.cell? ⟨gb412, 4, none⟩ = some (.int .i64 t400) := (blk_cell BK412.out 4).trans rfl; have hcz29_5 : w28.cell? ⟨gb412, 5, none⟩ = some (.int .i64 t401) := (blk_cell BK412.out 5).trans rfl; have hcz29_6 : w28.cell? ⟨gb412, 6, none⟩ = some (.int .i64 t402) := (blk_cell BK412.out 6).trans rfl; have hcz29_7 : w28.cell? ⟨gb412, 7, none⟩ = some (.int .i64 t403) := (blk_cell BK412.out 7).trans rfl; have hcz29_8 : w28.cell? ⟨gb412, 8, none⟩ = some (.int .i64 t404) := (blk_cell BK412.out 8).trans rfl; have hcz29_9 : w28.cell? ⟨gb412, 9, none⟩ = some (.int .i64 t405) := (blk_cell BK412.out 9).trans rfl; have hcz29_10 : w28.cell? ⟨gb412, 10, none⟩ = some (.int .i64 t406) := (blk_cell BK412.out 10).trans rfl; have hcz29_11 : w28.cell? ⟨gb412, 11, none⟩ = some (.int .i64 t407) := (blk_cell BK412.out 11).trans rfl; have hcz29_12 : w28.cell? ⟨gb412, 12, none⟩ = some (.int .i64 t408) := (blk_cell BK412.out 12).trans rfl; have hcz29_13 : w28.cell? ⟨gb412, 13, none⟩ = some (.int .i64 t409) := (blk_cell BK412.out 13).trans rfl; have hcz29_14 : w28.cell? ⟨gb412, 14, none⟩ = some (.int .i64 t410) := (blk_cell BK412.out 14).trans rfl; have hfz29_0 := blk_frozen BK412.out 0; have hfz29_1 := blk_frozen BK412.out 1; have hfz29_2 := blk_frozen BK412.out 2; have hfz29_3 := blk_frozen BK412.out 3; have hfz29_4 := blk_frozen BK412.out 4; have hfz29_5 := blk_frozen BK412.out 5; have hfz29_6 := blk_frozen BK412.out 6; have hfz29_7 := blk_frozen BK412.out 7; have hfz29_8 := blk_frozen BK412.out 8; have hfz29_9 := blk_frozen BK412.out 9; have hfz29_10 := blk_frozen BK412.out 10; have hfz29_11 := blk_frozen BK412.out 11; have hfz29_12 := blk_frozen BK412.out 12; have hfz29_13 := blk_frozen BK412.out 13; have hfz29_14 := blk_frozen BK412.out 14) | ((with_reducible refine gate_callee (f := 14) rfl ?_); refine goesL_ (some 59) rfl rfl Try.func14 (by kernel_rfl) rfl #[.agg #[.int .i64 t396, .int .i64 t397, .int .i64 t398, .int .i64 t399, .int .i64 t400, .int .i64 t401, .int .i64 t402, .int .i64 t403, .int .i64 t404, .int .i64 t405, .int .i64 t406, .int .i64 t407, .int .i64 t408, .int .i64 t409, .int .i64 t410]] rfl (by (try simp only [List.map_toArray, List.map_cons, List.map_nil]); first | done | rfl | (simp only [List.length_drop, List.length_take]; rfl)) ?_; (with_reducible refine (slope_Dev.calls k2 t396 t397 t398 t399 t400 t401 t402 t403 t404 t405 t406 t407 t408 t409 t410 t419 _ A18.out).mono ?_); rintro e w30 ⟨rfl, hb⟩; refine ⟨_, rfl, ?_⟩; have n0_ := Aside0.mk (blk_below (g := gb412) (o := .cells #[.int .i64 t396, .int .i64 t397, .int .i64 t398, .int .i64 t399, .int .i64 t400, .int .i64 t401, .int .i64 t402, .int .i64 t403, .int .i64 t404, .int .i64 t405, .int .i64 t406, .int .i64 t407, .int .i64 t408, .int .i64 t409, .int .i64 t410] 29 (0, 0)) (by (with_reducible repeat (first | refine blk_drewN ?_ _ | refine blk_drew ?_ | refine blk_alloc ?_ _)); exact BK412.out) hb); have n1_ := Aside0.mk (below_step (by repeat (first | (with_reducible first | exact HB.out | apply below_alloc | apply pw_below_drewN | apply below_drew1 | refine below_set ?_ GE412.out) | exact HB.out)) hb); clear BK412; clear HB; have BK412 := n0_; have HB := n1_; clear n0_ n1_; (try clear hb); (try clear hb2); (try clear hk); (try clear hi)) | ((with_reducible refine gate_callee (f := 9) rfl ?_); refine goesL_ (some 60) rfl rfl Try.func9 (by kernel_rfl) rfl #[] rfl (by (try simp only [List.map_toArray, List.map_cons, List.map_nil]); first | done | rfl | (simp only [List.length_drop, List.length_take]; rfl)) ?_; (with_reducible refine (pacemakerlaw10_fitted.calls  true _ A19.out).mono ?_); rintro e w31 ⟨rfl, hb⟩; refine ⟨_, rfl, ?_⟩; have n0_ := Aside0.mk (blk_below (g := gb412) (o := .cells #[.int .i64 t396, .int .i64 t397, .int .i64 t398, .int .i64 t399, .int .i64 t400, .int .i64 t401, .int .i64 t402, .int .i64 t403, .int .i64 t404, .int .i64 t405, .int .i64 t406, .int .i64 t407, .int .i64 t408, .int .i64 t409, .int .i64 t410] 29 (0, 0)) (by (with_reducible repeat (first | refine blk_drewN ?_ _ | refine blk_drew ?_ | refine blk_alloc ?_ _)); exact BK412.out) hb); have n1_ := Aside0.mk (below_step (by repeat (first | (with_reducible first | exact HB.out | apply below_alloc | apply pw_below_drewN | apply below_drew1 | refine below_set ?_ GE412.out) | exact HB.out)) hb); clear BK412; clear HB; have BK412 := n0_; have HB := n1_; clear n0_ n1_; (try clear hb); (try clear hb2); (try clear hk); (try clear hi)) | (go_at_call 19; (with_reducible refine (fix_Of.calls x5_2 t421 _ A21.out).mono ?_); rintro e w32 ⟨rfl, hb⟩; have n0_ := Aside0.mk (blk_below (g := gb412) (o := .cells #[.int .i64 t396, .int .i64 t397, .int .i64 t398, .int .i64 t399, .int .i64 t400, .int .i64 t401, .int .i64 t402, .int .i64 t403, .int .i64 t404, .int .i64 t405, .int .i64 t406, .int .i64 t407, .int .i64 t408, .int .i64 t409, .int .i64 t410] 29 (0, 0)) (by (with_reducible repeat (first | refine blk_drewN ?_ _ | refine blk_drew ?_ | refine blk_alloc ?_ _)); exact BK412.out) hb); have n1_ := Aside0.mk (below_step (by repeat (first | (with_reducible first | exact HB.out | apply below_alloc | apply pw_below_drewN | apply below_drew1 | refine below_set ?_ GE412.out) | exact HB.out)) hb); clear BK412; clear HB; have BK412 := n0_; have HB := n1_; clear n0_ n1_; (try clear hb); (try clear hb2); (try clear hk); (try clear hi)) | (go_at_call 19; (with_reducible refine (fix_Of.calls x6_2 t422 _ A23.out).mono ?_); rintro e w33 ⟨rfl, hb⟩; have n0_ := Aside0.mk (blk_below (g := gb412) (o := .cells #[.int .i64 t396, .int .i64 t397, .int .i64 t398, .int .i64 t399, .int .i64 t400, .int .i64 t401, .int .i64 t402, .int .i64 t403, .int .i64 t404, .int .i64 t405, .int .i64 t406, .int .i64 t407, .int .i64 t408, .int .i64 t409, .int .i64 t410] 29 (0, 0)) (by (with_reducible repeat (first | refine blk_drewN ?_ _ | refine blk_drew ?_ | refine blk_alloc ?_ _)); exact BK412.out) hb); have n1_ := Aside0.mk (below_step (by repeat (first | (with_reducible first | exact HB.out | apply below_alloc | apply pw_below_drewN | apply below_drew1 | refine below_set ?_ GE412.out) | exact HB.out)) hb); clear BK412; clear HB; have BK412 := n0_; have HB := n1_; clear n0_ n1_; (try clear hb); (try clear hb2); (try clear hk); (try clear hi)) | (go_at_call 19; (with_reducible refine (fix_Of.calls (wrap64 (x6_2 - x5_2)) t423 _ A26.out).mono ?_); rintro e w34 ⟨rfl, hb⟩; have n0_ := Aside0.mk (blk_below (g := gb412) (o := .cells #[.int .i64 t396, .int .i64 t397, .int .i64 t398, .int .i64 t399, .int .i64 t400, .int .i64 t401, .int .i64 t402, .int .i64 t403, .int .i64 t404, .int .i64 t405, .int .i64 t406, .int .i64 t407, .int .i64 t408, .int .i64 t409, .int .i64 t410] 29 (0, 0)) (by (with_reducible repeat (first | refine blk_drewN ?_ _ | refine blk_drew ?_ | refine blk_alloc ?_ _)); exact BK412.out) hb); have n1_ := Aside0.mk (below_step (by repeat (first | (with_reducible first | exact HB.out | apply below_alloc | apply pw_below_drewN | apply below_drew1 | refine below_set ?_ GE412.out) | exact HB.out)) hb); clear BK412; clear HB; have BK412 := n0_; have HB := n1_; clear n0_ n1_; (try clear hb); (try clear hb2); (try clear hk); (try clear hi)))
              go_ret
              have hlast := HL_.out
              exact ⟨by first | rfl | (simp [errW_none, errW_some] <;> rfl) | (simp [*, errW_none, errW_some] <;> rfl), by repeat (first | (with_reducible first | exact HB.out | apply below_alloc | apply pw_below_drewN | apply below_drew1 | refine below_set ?_ GE412.out) | exact HB.out)⟩
        · rw [if_neg c25] at H
          have c25b0 : decide (0 ≤ t419) = false := decide_eq_false c25
          clear c25
          exact absurd (Option.some.inj H) (by decide)
      · rw [if_neg c24] at H
        have c24b0 : decide (t418 ≤ t422) = false := decide_eq_false c24
        clear c24
        exact absurd (Option.some.inj H) (by decide)
    · rw [if_neg c22] at H
      have c22b0 : decide (t421 ≤ t418) = false := decide_eq_false c22
      clear c22
      exact absurd (Option.some.inj H) (by decide)
  · replace c20 := Bool.eq_false_iff.mpr c20
    subst c20
    have H1 : (some false) = some true := by rw [if_neg (show ¬ (false = true) by decide)] at H; exact H
    clear H
    have H := H1
    clear H1
    exact absurd (Option.some.inj H) (by decide)
end Go.Proofs.Ytlokmliannklaaa.Print
end
