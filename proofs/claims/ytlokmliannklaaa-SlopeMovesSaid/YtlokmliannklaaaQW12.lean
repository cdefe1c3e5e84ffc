/- Printed by a program of this session: functions of the law and their walks. -/
import Derived.Test.YtlokmliannklaaaQP0
import Derived.Test.YtlokmliannklaaaQPrint3
import Derived.Test.YtlokmliannklaaaQPrint4
import Derived.Test.YtlokmliannklaaaQSkd
import Derived.Test.YtlokmliannklaaaQFitted
import Derived.Test.YtlokmliannklaaaQPrint12d
section
namespace Go.Proofs.Ytlokmliannklaaa.Print
open Go.RowKit Go.Proofs.YtlokmliannklaaaW.PrintWords Go.Proofs.YtlokmliannklaaaW.PrintLast Go.Proofs.YtlokmliannklaaaW.PrintMore
attribute [local go_sem] max2_int min2_int max_two min_two max_three min_three max_four min_four   -- for this text's walks alone
set_option linter.unusedVariables false
set_option linter.unusedSimpArgs false

/-- Kept away from the tactics. -/
structure pacemakerlaw10_SlopeMoves_calls_Kept (p : Prop) : Prop where mk :: (out : p)
set_option maxHeartbeats 8000000 in
set_option maxRecDepth 100000 in
noncomputable def pacemakerlaw10_SlopeMoves_calls_skel  : Σ' (P0 P1 P2 P3 P4 P5 P6 P7 : Prop), pacemakerlaw10_SlopeMoves_calls_Kept P0 → pacemakerlaw10_SlopeMoves_calls_Kept P1 → pacemakerlaw10_SlopeMoves_calls_Kept P2 → pacemakerlaw10_SlopeMoves_calls_Kept P3 → pacemakerlaw10_SlopeMoves_calls_Kept P4 → pacemakerlaw10_SlopeMoves_calls_Kept P5 → pacemakerlaw10_SlopeMoves_calls_Kept P6 → pacemakerlaw10_SlopeMoves_calls_Kept P7 → (∀ (k : Nat) (A0 : Option Addr) (c0 : Nat) (l0 : List (S36)) (a1 : Int) (w : World) (hr0 : Kd.C k36 w A0 l0.length l0) (hc0 : l0.length ≤ c0) (h : pacemakerlaw10_SlopeMoves.f k l0 a1 = some true), Calls Try.prog 5 #[.slice A0 l0.length c0, .int .i64 a1] w fun e w' => e = .returned (.bool true) ∧ Below w.heap.size w w') := by
  refine ⟨?P0, ?P1, ?P2, ?P3, ?P4, ?P5, ?P6, ?P7, fun hP0 hP1 hP2 hP3 hP4 hP5 hP6 hP7 k A0 c0 l0 a1 w hr0 hc0 h => ?_⟩
  rotate_left 8
  focus
    have hu29 := Try.underlying29
    have hu36 := Try.underlying36
    have HR0 := Aside0.mk hr0
    have HC0 := Aside0.mk hc0
    clear hr0 hc0
    have HB := Aside0.mk (Below.refl w.heap.size w)
    have H : ((pacemakerlaw10_sampled.f l0).bind fun bt233 => (if (l0.length : Int) > 100 then (pacemakerlaw10_SlopeMoves.j0 k l0 a1 true bt233.1 bt233.2.1 bt233.2.2.1 bt233.2.2.2.1 bt233.2.2.2.2.1 bt233.2.2.2.2.2.1 bt233.2.2.2.2.2.2.1 bt233.2.2.2.2.2.2.2.1 bt233.2.2.2.2.2.2.2.2.1 bt233.2.2.2.2.2.2.2.2.2.1 bt233.2.2.2.2.2.2.2.2.2.2.1 bt233.2.2.2.2.2.2.2.2.2.2.2.1 bt233.2.2.2.2.2.2.2.2.2.2.2.2.1 bt233.2.2.2.2.2.2.2.2.2.2.2.2.2.1 bt233.2.2.2.2.2.2.2.2.2.2.2.2.2.2.1) else (if bt233.2.2.2.2.2.2.2.2.2.2.2.2.2.2.2 = true then (if a1 < 0 then (pacemakerlaw10_SlopeMoves.j0 k l0 a1 true bt233.1 bt233.2.1 bt233.2.2.1 bt233.2.2.2.1 bt233.2.2.2.2.1 bt233.2.2.2.2.2.1 bt233.2.2.2.2.2.2.1 bt233.2.2.2.2.2.2.2.1 bt233.2.2.2.2.2.2.2.2.1 bt233.2.2.2.2.2.2.2.2.2.1 bt233.2.2.2.2.2.2.2.2.2.2.1 bt233.2.2.2.2.2.2.2.2.2.2.2.1 bt233.2.2.2.2.2.2.2.2.2.2.2.2.1 bt233.2.2.2.2.2.2.2.2.2.2.2.2.2.1 bt233.2.2.2.2.2.2.2.2.2.2.2.2.2.2.1) else (pacemakerlaw10_SlopeMoves.j0 k l0 a1 (decide (a1 > 60000000)) bt233.1 bt233.2.1 bt233.2.2.1 bt233.2.2.2.1 bt233.2.2.2.2.1 bt233.2.2.2.2.2.1 bt233.2.2.2.2.2.2.1 bt233.2.2.2.2.2.2.2.1 bt233.2.2.2.2.2.2.2.2.1 bt233.2.2.2.2.2.2.2.2.2.1 bt233.2.2.2.2.2.2.2.2.2.2.1 bt233.2.2.2.2.2.2.2.2.2.2.2.1 bt233.2.2.2.2.2.2.2.2.2.2.2.2.1 bt233.2.2.2.2.2.2.2.2.2.2.2.2.2.1 bt233.2.2.2.2.2.2.2.2.2.2.2.2.2.2.1)) else (pacemakerlaw10_SlopeMoves.j0 k l0 a1 true bt233.1 bt233.2.1 bt233.2.2.1 bt233.2.2.2.1 bt233.2.2.2.2.1 bt233.2.2.2.2.2.1 bt233.2.2.2.2.2.2.1 bt233.2.2.2.2.2.2.2.1 bt233.2.2.2.2.2.2.2.2.1 bt233.2.2.2.2.2.2.2.2.2.1 bt233.2.2.2.2.2.2.2.2.2.2.1 bt233.2.2.2.2.2.2.2.2.2.2.2.1 bt233.2.2.2.2.2.2.2.2.2.2.2.2.1 bt233.2.2.2.2.2.2.2.2.2.2.2.2.2.1 bt233.2.2.2.2.2.2.2.2.2.2.2.2.2.2.1)))) = some true := h
    clear h
    replace H := Option.bind_eq_some_iff.mp H
    obtain ⟨⟨t233, t234, t235, t236, t237, t238, t239, t240, t241, t242, t243, t244, t245, t246, t247, t248⟩, A30, H⟩ := H
    replace H : (if (l0.length : Int) > 100 then (pacemakerlaw10_SlopeMoves.j0 k l0 a1 true t233 t234 t235 t236 t237 t238 t239 t240 t241 t242 t243 t244 t245 t246 t247) else (if t248 = true then (if a1 < 0 then (pacemakerlaw10_SlopeMoves.j0 k l0 a1 true t233 t234 t235 t236 t237 t238 t239 t240 t241 t242 t243 t244 t245 t246 t247) else (pacemakerlaw10_SlopeMoves.j0 k l0 a1 (decide (a1 > 60000000)) t233 t234 t235 t236 t237 t238 t239 t240 t241 t242 t243 t244 t245 t246 t247)) else (pacemakerlaw10_SlopeMoves.j0 k l0 a1 true t233 t234 t235 t236 t237 t238 t239 t240 t241 t242 t243 t244 t245 t246 t247))) = some true := H
    have A3 := Aside0.mk A30
    clear A30
    have HC4 := Aside0.mk H
    clear H
    go_enter Try.func5, Try.ntmps5
    go_upto_region 2 with (first | ((with_reducible refine gate_callee (f := 18) rfl ?_); refine goesL_ (some 13) rfl rfl Try.func18 (by kernel_rfl) rfl #[.slice A0 l0.length c0] rfl (by (try simp only [List.map_toArray, List.map_cons, List.map_nil]); first | done | rfl | (simp only [List.length_drop, List.length_take]; rfl)) ?_; (with_reducible refine (pacemakerlaw10_sampled.calls _ _ l0 t233 t234 t235 t236 t237 t238 t239 t240 t241 t242 t243 t244 t245 t246 t247 t248 _ ?side1 ?side2 A3.out).mono ?_); (case side1 => repeat (first | exact HR0.out | (with_reducible refine Kd.C_alloc ?_ _) | (with_reducible refine Kd.C_drewN ?_ _) | (with_reducible refine Kd.C_drew ?_))); (case side2 => exact HC0.out); rintro e w5 ⟨rfl, hb⟩; refine ⟨_, rfl, ?_⟩; have n0_ := Aside0.mk (below_step (by repeat (first | (with_reducible first | exact HB.out | apply below_alloc | apply pw_below_drewN | apply below_drew1) | exact HB.out)) hb); clear HB; have HB := n0_; clear n0_; (try clear hb); (try clear hb2); (try clear hk); (try clear hi)) | ((with_reducible refine gate_dst (N := 5) rfl ?_); (try (refine gate_guard (by rfl) ?_; dsimp only)); refine box_event ?hg (N := 5) ?hd (cs := #[.int .i64 0, .int .i64 0, .int .i64 0, .int .i64 0, .int .i64 0, .int .i64 0, .int .i64 0, .int .i64 0, .int .i64 0, .int .i64 0, .int .i64 0, .int .i64 0, .int .i64 0, .int .i64 0, .int .i64 0]) (t := 29) ?hr ?_; (case hd => rfl); (case hg => rfl); (case hr => first | (go_simp; done) | (go_simp; rfl)); intro gb249 hg w6 hbox hb; have n0_ := Aside0.mk (below_step (by repeat (first | (with_reducible first | exact HB.out | apply below_alloc | apply pw_below_drewN | apply below_drew1) | exact HB.out)) hb); have n1_ := Aside0.mk (hbox); have n2_ := Aside0.mk ((by rw [hg]; exact (below_size (by repeat (first | (with_reducible first | exact HB.out | apply below_alloc | apply pw_below_drewN | apply below_drew1) | exact HB.out))) : w.heap.size ≤ gb249)); have n3_ := Aside0.mk ((by rw [hg]; exact (below_size (by repeat (first | (with_reducible first | exact HB.out | apply below_alloc | apply pw_below_drewN | apply below_drew1) | exact HB.out))) : w.heap.size ≤ gb249)); clear HB; have HB := n0_; have BK249 := n1_; have GW249 := n2_; have GE249 := n3_; clear n0_ n1_ n2_ n3_; clear hb hbox hg; have hcz7_0 : w6.cell? ⟨gb249, 0, none⟩ = some (.int .i64 0) := (blk_cell BK249.out 0).trans rfl; have hcz7_1 : w6.cell? ⟨gb249, 1, none⟩ = some (.int .i64 0) := (blk_cell BK249.out 1).trans rfl; have hcz7_2 : w6.cell? ⟨gb249, 2, none⟩ = some (.int .i64 0) := (blk_cell BK249.out 2).trans rfl; have hcz7_3 : w6.cell? ⟨gb249, 3, none⟩ = some (.int .i64 0) := (blk_cell BK249.out 3).trans rfl; have hcz7_4 : w6.cell? ⟨gb249, 4, none⟩ = some (.int .i64 0) := (blk_cell BK249.out 4).trans rfl; have hcz7_5 : w6.cell? ⟨gb249, 5, none⟩ = some (.int .i64 0) := (blk_cell BK249.out 5).trans rfl; have hcz7_6 : w6.cell? ⟨gb249, 6, none⟩ = some (.int .i64 0) := (blk_cell BK249.out 6).trans rfl; have hcz7_7 : w6.cell? ⟨gb249, 7, none⟩ = some (.int .i64 0) := (blk_cell BK249.out 7).trans rfl; have hcz7_8 : w6.cell? ⟨gb249, 8, none⟩ = some (.int .i64 0) := (blk_cell BK249.out 8).trans rfl; have hcz7_9 : w6.cell? ⟨gb249, 9, none⟩ = some (.int .i64 0) := (blk_cell BK249.out 9).trans rfl; have hcz7_10 : w6.cell? ⟨gb249, 10, none⟩ = some (.int .i64 0) := (blk_cell BK249.out 10).trans rfl; have hcz7_11 : w6.cell? ⟨gb249, 11, none⟩ = some (.int .i64 0) := (blk_cell BK249.out 11).trans rfl; have hcz7_12 : w6.cell? ⟨gb249, 12, none⟩ = some (.int .i64 0) := (blk_cell BK249.out 12).trans rfl; have hcz7_13 : w6.cell? ⟨gb249, 13, none⟩ = some (.int .i64 0) := (blk_cell BK249.out 13).trans rfl; have hcz7_14 : w6.cell? ⟨gb249, 14, none⟩ = some (.int .i64 0) := (blk_cell BK249.out 14).trans rfl; have hfz7_0 := blk_frozen BK249.out 0; have hfz7_1 := blk_frozen BK249.out 1; have hfz7_2 := blk_frozen BK249.out 2; have hfz7_3 := blk_frozen BK249.out 3; have hfz7_4 := blk_frozen BK249.out 4; have hfz7_5 := blk_frozen BK249.out 5; have hfz7_6 := blk_frozen BK249.out 6; have hfz7_7 := blk_frozen BK249.out 7; have hfz7_8 := blk_frozen BK249.out 8; have hfz7_9 := blk_frozen BK249.out 9; have hfz7_10 := blk_frozen BK249.out 10; have hfz7_11 := blk_frozen BK249.out 11; have hfz7_12 := blk_frozen BK249.out 12; have hfz7_13 := blk_frozen BK249.out 13; have hfz7_14 := blk_frozen BK249.out 14))
    (try simp only [Act.put, List.setIfInBounds_toArray, List.set_cons_zero, List.set_cons_succ])
    go_cut [30] (fun v30 wc => ∃ (kq : Nat) (x30_3 : Bool), v30 = .bool x30_3 ∧ Aside0 (pacemakerlaw10_SlopeMoves.j0 kq l0 a1 x30_3 t233 t234 t235 t236 t237 t238 t239 t240 t241 t242 t243 t244 t245 t246 t247 = some true) ∧ Aside0 (kq ≤ k) ∧ Aside0 (wc.heap[gb249]? = some (.cells #[.int .i64 t233, .int .i64 t234, .int .i64 t235, .int .i64 t236, .int .i64 t237, .int .i64 t238, .int .i64 t239, .int .i64 t240, .int .i64 t241, .int .i64 t242, .int .i64 t243, .int .i64 t244, .int .i64 t245, .int .i64 t246, .int .i64 t247] 29 (0, 0))) ∧ Aside0 (Below w.heap.size w wc))
    case first =>
      have H := HC4.out
      clear HC4
      by_cases c8 : (l0.length : Int) > 100
      · rename_i z0_ z1_ z2_ z3_ z4_ z5_ z6_ z7_ z8_
        revert k A0 c0 l0 a1 w hu29 hu36 HR0 HC0 t233 t234 t235 t236 t237 t238 t239 t240 t241 t242 t243 t244 t245 t246 t247 t248 A3 z0_ w5 gb249 w6 HB BK249 GW249 GE249 hcz7_0 hcz7_1 hcz7_2 hcz7_3 hcz7_4 hcz7_5 hcz7_6 hcz7_7 hcz7_8 hcz7_9 hcz7_10 hcz7_11 hcz7_12 hcz7_13 hcz7_14 hfz7_0 hfz7_1 hfz7_2 hfz7_3 hfz7_4 hfz7_5 hfz7_6 hfz7_7 hfz7_8 hfz7_9 hfz7_10 hfz7_11 hfz7_12 hfz7_13 hfz7_14 z1_ z2_ z3_ z4_ z5_ z6_ z7_ z8_ H c8
        exact hP0.out
      · rename_i z0_ z1_ z2_ z3_ z4_ z5_ z6_ z7_ z8_
        revert k A0 c0 l0 a1 w hu29 hu36 HR0 HC0 t233 t234 t235 t236 t237 t238 t239 t240 t241 t242 t243 t244 t245 t246 t247 t248 A3 z0_ w5 gb249 w6 HB BK249 GW249 GE249 hcz7_0 hcz7_1 hcz7_2 hcz7_3 hcz7_4 hcz7_5 hcz7_6 hcz7_7 hcz7_8 hcz7_9 hcz7_10 hcz7_11 hcz7_12 hcz7_13 hcz7_14 hfz7_0 hfz7_1 hfz7_2 hfz7_3 hfz7_4 hfz7_5 hfz7_6 hfz7_7 hfz7_8 hfz7_9 hfz7_10 hfz7_11 hfz7_12 hfz7_13 hfz7_14 z1_ z2_ z3_ z4_ z5_ z6_ z7_ z8_ H c8
        exact hP1.out
    case rest =>
      clear HC4
      try clear c1
      try clear p2
      try clear c5
      try clear c8
      try clear c8b0
      try clear c8b1
      try clear c9
      try clear c10
      try clear c10b0
      try clear hcz7_0
      try clear hcz7_1
      try clear hcz7_10
      try clear hcz7_11
      try clear hcz7_12
      try clear hcz7_13
      try clear hcz7_14
      try clear hcz7_2
      try clear hcz7_3
      try clear hcz7_4
      try clear hcz7_5
      try clear hcz7_6
      try clear hcz7_7
      try clear hcz7_8
      try clear hcz7_9
      try clear hfz7_0
      try clear hfz7_1
      try clear hfz7_10
      try clear hfz7_11
      try clear hfz7_12
      try clear hfz7_13
      try clear hfz7_14
      try clear hfz7_2
      try clear hfz7_3
      try clear hfz7_4
      try clear hfz7_5
      try clear hfz7_6
      try clear hfz7_7
      try clear hfz7_8
      try clear hfz7_9
      obtain ⟨kq, x30_3, rfl, HA, HJ3, BK249, HB⟩ := hcut
      cases kq with
      | zero => exact absurd HA.out (by simp [pacemakerlaw10_SlopeMoves.j0])
      | succ kj3 =>
        have H := HA.out
        clear HA
        simp only [pacemakerlaw10_SlopeMoves.j0] at H
        by_cases c11 : x30_3 = true
        · rename_i z0_ z1_ z2_ z3_ z4_ z5_ z6_
          revert k A0 c0 l0 a1 w hu29 hu36 HR0 HC0 t233 t234 t235 t236 t237 t238 t239 t240 t241 t242 t243 t244 t245 t246 t247 t248 A3 z0_ w5 gb249 w6 z1_ z2_ GW249 GE249 z3_ z4_ z5_ z6_ wc u11 u12 u13 u14 u15 u16 u17 u18 u19 u20 u21 u22 u23 u24 u25 u26 u27 u28 u29 u31 u32 u33 u34 u35 u36 u37 u38 u39 u40 u41 u42 u43 u44 u45 u46 u47 u48 u49 u50 u51 u52 u53 u54 u55 u56 u57 u58 u59 u60 u61 u62 u63 u64 u65 u66 u67 u68 u69 u70 u71 u72 u73 u74 u75 u76 u77 u78 u79 u80 u81 u82 u83 u84 u85 u86 u87 u88 u89 u90 u91 x30_3 BK249 HB kj3 HJ3 H c11
          exact hP2.out
        · replace c11 := Bool.eq_false_iff.mpr c11
          subst c11
          have H1 : (pacemakerlaw10_SlopeMoves.l0 kj3 l0 a1 ([] : List (S36)) 0 t233 t234 t235 t236 t237 t238 t239 t240 t241 t242 t243 t244 t245 t246 t247) = some true := by rw [if_neg (show ¬ (false = true) by decide)] at H; exact H
          clear H
          have H := H1
          clear H1
          have H' := Aside0.mk H
          clear H
          go_wp2
          go_loopg [7, 8] kj3 (fun kq v7 v8 w' => ∃ (x7_2 : List (S36)) (x8_2 : Int), v8 = .int .i64 x8_2 ∧ Aside0 (pacemakerlaw10_SlopeMoves.l0 kq l0 a1 x7_2 x8_2 t233 t234 t235 t236 t237 t238 t239 t240 t241 t242 t243 t244 t245 t246 t247 = some true) ∧ Aside0 (kq ≤ kj3) ∧ Aside0 (Kd.R k36 36 w' w.heap.size (fun _ => True) v7 x7_2) ∧ Aside0 (w'.heap[gb249]? = some (.cells #[.int .i64 t233, .int .i64 t234, .int .i64 t235, .int .i64 t236, .int .i64 t237, .int .i64 t238, .int .i64 t239, .int .i64 t240, .int .i64 t241, .int .i64 t242, .int .i64 t243, .int .i64 t244, .int .i64 t245, .int .i64 t246, .int .i64 t247] 29 (0, 0))) ∧ Aside0 (Below w.heap.size w w'))
          case atStart => exact ⟨(([] : List (S36))), (0), (by first | rfl | (simp; done) | (simp [*]; done)), H', ⟨Nat.le_refl _⟩, ⟨by first | exact Kd.R_nil _ _ _ _ _ | exact Kd.N_nil _ _ _ _ _ | exact Kd.V_nil _ _ _ _ _ | exact Kd.Q_nil _ _ _ _ _ | exact Kd.S_nil _ _ _ _ _⟩, ⟨by (with_reducible repeat (first | refine blk_drewN ?_ _ | refine blk_drew ?_ | refine blk_alloc ?_ _)); exact BK249.out⟩, ⟨by repeat (first | (with_reducible first | exact HB.out | apply below_alloc | apply pw_below_drewN | apply below_drew1 | refine below_set ?_ GE249.out) | exact HB.out)⟩⟩
          case round =>
            clear H'
            try clear c1
            try clear p2
            try clear c5
            try clear c8
            try clear c8b0
            try clear c8b1
            try clear c9
            try clear c10
            try clear c10b0
            try clear c11
            try clear hcz7_0
            try clear hcz7_1
            try clear hcz7_10
            try clear hcz7_11
            try clear hcz7_12
            try clear hcz7_13
            try clear hcz7_14
            try clear hcz7_2
            try clear hcz7_3
            try clear hcz7_4
            try clear hcz7_5
            try clear hcz7_6
            try clear hcz7_7
            try clear hcz7_8
            try clear hcz7_9
            try clear hfz7_0
            try clear hfz7_1
            try clear hfz7_10
            try clear hfz7_11
            try clear hfz7_12
            try clear hfz7_13
            try clear hfz7_14
            try clear hfz7_2
            try clear hfz7_3
            try clear hfz7_4
            try clear hfz7_5
            try clear hfz7_6
            try clear hfz7_7
            try clear hfz7_8
            try clear hfz7_9
            try clear p2
            obtain ⟨x7_2, x8_2, rfl, HA, HK2, HO_7, BK249, HB⟩ := hrel
            cases gk with
            | zero => exact absurd HA.out (by simp [pacemakerlaw10_SlopeMoves.l0])
            | succ k2 =>
              have H := HA.out
              clear HA
              simp only [pacemakerlaw10_SlopeMoves.l0] at H
              by_cases c14 : x8_2 < (l0.length : Int)
              · rename_i z0_ z1_ z2_ z3_ z4_ z5_ z6_ z7_ z8_ z9_ z10_ z11_ z12_ z13_ z14_ z15_ z16_ z17_ z18_ z19_ z20_ z21_ z22_ z23_ z24_ z25_ z26_ z27_ z28_ z29_ z30_ z31_ z32_
                revert k A0 c0 l0 a1 w hu29 hu36 HR0 HC0 t233 t234 t235 t236 t237 t238 t239 t240 t241 t242 t243 t244 t245 t246 t247 t248 A3 z0_ w5 gb249 w6 z1_ z2_ GW249 GE249 wc u11 u12 u13 u14 u15 u16 u17 u18 u19 u20 u21 u22 u23 u24 u25 u26 u27 u28 u29 u31 z3_ z4_ z5_ z6_ z7_ z8_ z9_ z10_ z11_ z12_ z13_ z14_ z15_ z16_ z17_ z18_ z19_ z20_ z21_ z22_ z23_ z24_ u54 u55 u56 u57 u58 u59 u60 u61 u62 u63 u64 u65 u66 u67 u68 u69 u70 u71 u72 u73 u74 u75 u76 u77 u78 u79 u80 u81 u82 u83 u84 u85 u86 u87 u88 u89 u90 u91 z25_ z26_ kj3 HJ3 z27_ z28_ wr u7 u32 u33 u34 u35 u36 u37 u38 u39 u40 u41 u42 u43 u44 u45 u46 u47 u48 u49 u50 u51 u52 u53 z29_ z30_ z31_ x7_2 x8_2 HO_7 BK249 HB k2 z32_ HK2 H c14
                exact hP3.out
              · rw [if_neg c14] at H
                have c14b0 : decide (x8_2 < (l0.length : Int)) = false := decide_eq_false c14
                clear c14
                replace H := Option.bind_eq_some_iff.mp H
                obtain ⟨⟨t256, t257, t258, t259, t260, t261, t262, t263, t264, t265, t266, t267, t268, t269, t270, t271⟩, A190, H⟩ := H
                replace H : (if t271 = true then (pacemakerlaw10_SlopeMoves.j2 k2 a1 ((l0.length : Int) == 0) t233 t234 t235 t236 t237 t238 t239 t240 t241 t242 t243 t244 t245 t246 t247 t256 t257 t258 t259 t260 t261 t262 t263 t264 t265 t266 t267 t268 t269 t270) else (pacemakerlaw10_SlopeMoves.j2 k2 a1 true t233 t234 t235 t236 t237 t238 t239 t240 t241 t242 t243 t244 t245 t246 t247 t256 t257 t258 t259 t260 t261 t262 t263 t264 t265 t266 t267 t268 t269 t270)) = some true := H
                have A19 := Aside0.mk A190
                clear A190
                have HC20 := Aside0.mk H
                clear H
                obtain ⟨Ao21, co21, eo21⟩ := Kd.R_slice HO_7.out
                subst eo21
                go_upto_region 10 with (first | ((with_reducible refine gate_callee (f := 18) rfl ?_); refine goesL_ (some 56) rfl rfl Try.func18 (by kernel_rfl) rfl #[.slice Ao21 x7_2.length co21] rfl (by (try simp only [List.map_toArray, List.map_cons, List.map_nil]); first | done | rfl | (simp only [List.length_drop, List.length_take]; rfl)) ?_; (with_reducible refine (pacemakerlaw10_sampled.calls _ _ x7_2 t256 t257 t258 t259 t260 t261 t262 t263 t264 t265 t266 t267 t268 t269 t270 t271 _ ?side1 ?side2 A19.out).mono ?_); (case side1 => repeat (first | exact (Kd.R_reads' HO_7.out).2.2 | (with_reducible refine Kd.C_alloc ?_ _) | (with_reducible refine Kd.C_drewN ?_ _) | (with_reducible refine Kd.C_drew ?_))); (case side2 => exact (Kd.R_reads' HO_7.out).2.1); rintro e w22 ⟨rfl, hb⟩; refine ⟨_, rfl, ?_⟩; have n0_ := Aside0.mk (Kd.R_below (by (with_reducible repeat (first | apply Kd.R_alloc | apply Kd.R_drewN | apply Kd.R_drew)); exact HO_7.out) hb); have n1_ := Aside0.mk (blk_below (g := gb249) (o := .cells #[.int .i64 t233, .int .i64 t234, .int .i64 t235, .int .i64 t236, .int .i64 t237, .int .i64 t238, .int .i64 t239, .int .i64 t240, .int .i64 t241, .int .i64 t242, .int .i64 t243, .int .i64 t244, .int .i64 t245, .int .i64 t246, .int .i64 t247] 29 (0, 0)) (by (with_reducible repeat (first | refine blk_drewN ?_ _ | refine blk_drew ?_ | refine blk_alloc ?_ _)); exact BK249.out) hb); have n2_ := Aside0.mk (below_step (by repeat (first | (with_reducible first | exact HB.out | apply below_alloc | apply pw_below_drewN | apply below_drew1 | refine below_set ?_ GE249.out) | exact HB.out)) hb); clear HO_7; clear BK249; clear HB; have HO_7 := n0_; have BK249 := n1_; have HB := n2_; clear n0_ n1_ n2_; (try clear hb); (try clear hb2); (try clear hk); (try clear hi)) | ((with_reducible refine gate_dst (N := 9) rfl ?_); (try (refine gate_guard (by rfl) ?_; dsimp only)); refine box_event ?hg (N := 9) ?hd (cs := #[.int .i64 0, .int .i64 0, .int .i64 0, .int .i64 0, .int .i64 0, .int .i64 0, .int .i64 0, .int .i64 0, .int .i64 0, .int .i64 0, .int .i64 0, .int .i64 0, .int .i64 0, .int .i64 0, .int .i64 0]) (t := 29) ?hr ?_; (case hd => rfl); (case hg => rfl); (case hr => first | (go_simp; done) | (go_simp; rfl)); intro gb272 hg w23 hbox hb; have n0_ := Aside0.mk (Kd.R_below (by (with_reducible repeat (first | apply Kd.R_alloc | apply Kd.R_drewN | apply Kd.R_drew)); exact HO_7.out) hb); have n1_ := Aside0.mk (blk_below (g := gb249) (o := .cells #[.int .i64 t233, .int .i64 t234, .int .i64 t235, .int .i64 t236, .int .i64 t237, .int .i64 t238, .int .i64 t239, .int .i64 t240, .int .i64 t241, .int .i64 t242, .int .i64 t243, .int .i64 t244, .int .i64 t245, .int .i64 t246, .int .i64 t247] 29 (0, 0)) (by (with_reducible repeat (first | refine blk_drewN ?_ _ | refine blk_drew ?_ | refine blk_alloc ?_ _)); exact BK249.out) hb); have n2_ := Aside0.mk (below_step (by repeat (first | (with_reducible first | exact HB.out | apply below_alloc | apply pw_below_drewN | apply below_drew1 | refine below_set ?_ GE249.out) | exact HB.out)) hb); have n3_ := Aside0.mk (hbox); have n4_ := Aside0.mk ((by rw [hg]; exact (below_size (by repeat (first | (with_reducible first | exact HB.out | apply below_alloc | apply pw_below_drewN | apply below_drew1 | refine below_set ?_ GE249.out) | exact HB.out))) : w.heap.size ≤ gb272)); have n5_ := Aside0.mk ((by rw [hg]; exact (below_size (by repeat (first | (with_reducible first | exact HB.out | apply below_alloc | apply pw_below_drewN | apply below_drew1 | refine below_set ?_ GE249.out) | exact HB.out))) : w.heap.size ≤ gb272)); have n6_ := Aside0.mk ((by rw [hg]; exact Nat.ne_of_lt (blk_lt (g := gb249) (o := .cells #[.int .i64 t233, .int .i64 t234, .int .i64 t235, .int .i64 t236, .int .i64 t237, .int .i64 t238, .int .i64 t239, .int .i64 t240, .int .i64 t241, .int .i64 t242, .int .i64 t243, .int .i64 t244, .int .i64 t245, .int .i64 t246, .int .i64 t247] 29 (0, 0)) (by (with_reducible repeat (first | refine blk_drewN ?_ _ | refine blk_drew ?_ | refine blk_alloc ?_ _)); exact BK249.out)) : gb249 ≠ gb272)); have n7_ := Aside0.mk ((by rw [hg]; exact Nat.ne_of_gt (blk_lt (g := gb249) (o := .cells #[.int .i64 t233, .int .i64 t234, .int .i64 t235, .int .i64 t236, .int .i64 t237, .int .i64 t238, .int .i64 t239, .int .i64 t240, .int .i64 t241, .int .i64 t242, .int .i64 t243, .int .i64 t244, .int .i64 t245, .int .i64 t246, .int .i64 t247] 29 (0, 0)) (by (with_reducible repeat (first | refine blk_drewN ?_ _ | refine blk_drew ?_ | refine blk_alloc ?_ _)); exact BK249.out)) : gb272 ≠ gb249)); clear HO_7; clear BK249; clear HB; have HO_7 := n0_; have BK249 := n1_; have HB := n2_; have BK272 := n3_; have GW272 := n4_; have GE272 := n5_; have NB249_272 := n6_; have NB272_249 := n7_; clear n0_ n1_ n2_ n3_ n4_ n5_ n6_ n7_; clear hb hbox hg; have hnb24 := NB272_249.out; have hnc24 := NB249_272.out; have hcz25_0 : w23.cell? ⟨gb272, 0, none⟩ = some (.int .i64 0) := (blk_cell BK272.out 0).trans rfl; have hcz25_1 : w23.cell? ⟨gb272, 1, none⟩ = some (.int .i64 0) := (blk_cell BK272.out 1).trans rfl; have hcz25_2 : w23.cell? ⟨gb272, 2, none⟩ = some (.int .i64 0) := (blk_cell BK272.out 2).trans rfl; have hcz25_3 : w23.cell? ⟨gb272, 3, none⟩ = some (.int .i64 0) := (blk_cell BK272.out 3).trans rfl; have hcz25_4 : w23.cell? ⟨gb272, 4, none⟩ = some (.int .i64 0) := (blk_cell BK272.out 4).trans rfl; have hcz25_5 : w23.cell? ⟨gb272, 5, none⟩ = some (.int .i64 0) := (blk_cell BK272.out 5).trans rfl; have hcz25_6 : w23.cell? ⟨gb272, 6, none⟩ = some (.int .i64 0) := (blk_cell BK272.out 6).trans rfl; have hcz25_7 : w23.cell? ⟨gb272, 7, none⟩ = some (.int .i64 0) := (blk_cell BK272.out 7).trans rfl; have hcz25_8 : w23.cell? ⟨gb272, 8, none⟩ = some (.int .i64 0) := (blk_cell BK272.out 8).trans rfl; have hcz25_9 : w23.cell? ⟨gb272, 9, none⟩ = some (.int .i64 0) := (blk_cell BK272.out 9).trans rfl; have hcz25_10 : w23.cell? ⟨gb272, 10, none⟩ = some (.int .i64 0) := (blk_cell BK272.out 10).trans rfl; have hcz25_11 : w23.cell? ⟨gb272, 11, none⟩ = some (.int .i64 0) := (blk_cell BK272.out 11).trans rfl; have hcz25_12 : w23.cell? ⟨gb272, 12, none⟩ = some (.int .i64 0) := (blk_cell BK272.out 12).trans rfl; have hcz25_13 : w23.cell? ⟨gb272, 13, none⟩ = some (.int .i64 0) := (blk_cell BK272.out 13).trans rfl; have hcz25_14 : w23.cell? ⟨gb272, 14, none⟩ = some (.int .i64 0) := (blk_cell BK272.out 14).trans rfl; have hfz25_0 := blk_frozen BK272.out 0; have hfz25_1 := blk_frozen BK272.out 1; have hfz25_2 := blk_frozen BK272.out 2; have hfz25_3 := blk_frozen BK272.out 3; have hfz25_4 := blk_frozen BK272.out 4; have hfz25_5 := blk_frozen BK272.out 5; have hfz25_6 := blk_frozen BK272.out 6; have hfz25_7 := blk_frozen BK272.out 7; have hfz25_8 := blk_frozen BK272.out 8; have hfz25_9 := blk_frozen BK272.out 9; have hfz25_10 := blk_frozen BK272.out 10; have hfz25_11 := blk_frozen BK272.out 11; have hfz25_12 := blk_frozen BK272.out 12; have hfz25_13 := blk_frozen BK272.out 13; have hfz25_14 := blk_frozen BK272.out 14))
                (try simp only [Act.put, List.setIfInBounds_toArray, List.set_cons_zero, List.set_cons_succ])
                go_cut [65] (fun v65 wc => ∃ (kq : Nat) (x65_19 : Bool), v65 = .bool x65_19 ∧ Aside0 (pacemakerlaw10_SlopeMoves.j2 kq a1 x65_19 t233 t234 t235 t236 t237 t238 t239 t240 t241 t242 t243 t244 t245 t246 t247 t256 t257 t258 t259 t260 t261 t262 t263 t264 t265 t266 t267 t268 t269 t270 = some true) ∧ Aside0 (kq ≤ k2) ∧ Aside0 (wc.heap[gb249]? = some (.cells #[.int .i64 t233, .int .i64 t234, .int .i64 t235, .int .i64 t236, .int .i64 t237, .int .i64 t238, .int .i64 t239, .int .i64 t240, .int .i64 t241, .int .i64 t242, .int .i64 t243, .int .i64 t244, .int .i64 t245, .int .i64 t246, .int .i64 t247] 29 (0, 0))) ∧ Aside0 (wc.heap[gb272]? = some (.cells #[.int .i64 t256, .int .i64 t257, .int .i64 t258, .int .i64 t259, .int .i64 t260, .int .i64 t261, .int .i64 t262, .int .i64 t263, .int .i64 t264, .int .i64 t265, .int .i64 t266, .int .i64 t267, .int .i64 t268, .int .i64 t269, .int .i64 t270] 29 (0, 0))) ∧ Aside0 (Below w.heap.size w wc))
                case first =>
                  have H := HC20.out
                  clear HC20
                  by_cases c26 : t271 = true
                  · rename_i z0_ z1_ z2_ z3_ z4_ z5_ z6_ z7_ z8_ z9_ z10_ z11_ z12_ z13_ z14_ z15_ z16_ z17_ z18_ z19_ z20_ z21_ z22_ z23_ z24_ z25_ z26_ z27_ z28_ z29_ z30_ z31_ z32_ z33_ z34_ z35_ z36_ z37_ z38_ z39_ z40_ z41_
                    revert k A0 c0 l0 a1 w hu29 hu36 HR0 HC0 t233 t234 t235 t236 t237 t238 t239 t240 t241 t242 t243 t244 t245 t246 t247 t248 A3 z0_ w5 gb249 w6 z1_ z2_ GW249 GE249 wc u11 u12 u13 u14 u15 u16 u17 u18 u19 u20 u21 u22 u23 u24 u25 u26 u27 u28 u29 u31 z3_ z4_ z5_ z6_ z7_ z8_ z9_ z10_ z11_ z12_ z13_ z14_ z15_ z16_ z17_ z18_ z19_ z20_ z21_ z22_ z23_ z24_ u54 u55 u56 u57 u58 u59 u60 u61 u62 u63 u64 u65 u66 u67 u68 u69 u70 u71 u72 u73 u74 u75 u76 u77 u78 u79 u80 u81 u82 u83 u84 u85 u86 u87 u88 u89 u90 u91 z25_ z26_ kj3 HJ3 z27_ wr u32 u33 u34 u35 u36 u37 u38 u39 u40 u41 u42 u43 u44 u45 u46 u47 u48 u49 u50 u51 u52 u53 z28_ z29_ z30_ x7_2 x8_2 k2 z31_ HK2 c14b0 t256 t257 t258 t259 t260 t261 t262 t263 t264 t265 t266 t267 t268 t269 t270 t271 A19 Ao21 co21 z32_ z33_ w22 gb272 w23 HO_7 BK249 HB BK272 GW272 GE272 NB249_272 NB272_249 hnb24 hnc24 hcz25_0 hcz25_1 hcz25_2 hcz25_3 hcz25_4 hcz25_5 hcz25_6 hcz25_7 hcz25_8 hcz25_9 hcz25_10 hcz25_11 hcz25_12 hcz25_13 hcz25_14 hfz25_0 hfz25_1 hfz25_2 hfz25_3 hfz25_4 hfz25_5 hfz25_6 hfz25_7 hfz25_8 hfz25_9 hfz25_10 hfz25_11 hfz25_12 hfz25_13 hfz25_14 z34_ z35_ z36_ z37_ z38_ z39_ z40_ z41_ H c26
                    exact hP4.out
                  · rename_i z0_ z1_ z2_ z3_ z4_ z5_ z6_ z7_ z8_ z9_ z10_ z11_ z12_ z13_ z14_ z15_ z16_ z17_ z18_ z19_ z20_ z21_ z22_ z23_ z24_ z25_ z26_ z27_ z28_ z29_ z30_ z31_ z32_ z33_ z34_ z35_ z36_ z37_ z38_ z39_ z40_ z41_
                    revert k A0 c0 l0 a1 w hu29 hu36 HR0 HC0 t233 t234 t235 t236 t237 t238 t239 t240 t241 t242 t243 t244 t245 t246 t247 t248 A3 z0_ w5 gb249 w6 z1_ z2_ GW249 GE249 wc u11 u12 u13 u14 u15 u16 u17 u18 u19 u20 u21 u22 u23 u24 u25 u26 u27 u28 u29 u31 z3_ z4_ z5_ z6_ z7_ z8_ z9_ z10_ z11_ z12_ z13_ z14_ z15_ z16_ z17_ z18_ z19_ z20_ z21_ z22_ z23_ z24_ u54 u55 u56 u57 u58 u59 u60 u61 u62 u63 u64 u65 u66 u67 u68 u69 u70 u71 u72 u73 u74 u75 u76 u77 u78 u79 u80 u81 u82 u83 u84 u85 u86 u87 u88 u89 u90 u91 z25_ z26_ kj3 HJ3 z27_ wr u32 u33 u34 u35 u36 u37 u38 u39 u40 u41 u42 u43 u44 u45 u46 u47 u48 u49 u50 u51 u52 u53 z28_ z29_ z30_ x7_2 x8_2 k2 z31_ HK2 c14b0 t256 t257 t258 t259 t260 t261 t262 t263 t264 t265 t266 t267 t268 t269 t270 t271 A19 Ao21 co21 z32_ z33_ w22 gb272 w23 HO_7 BK249 HB BK272 GW272 GE272 NB249_272 NB272_249 hnb24 hnc24 hcz25_0 hcz25_1 hcz25_2 hcz25_3 hcz25_4 hcz25_5 hcz25_6 hcz25_7 hcz25_8 hcz25_9 hcz25_10 hcz25_11 hcz25_12 hcz25_13 hcz25_14 hfz25_0 hfz25_1 hfz25_2 hfz25_3 hfz25_4 hfz25_5 hfz25_6 hfz25_7 hfz25_8 hfz25_9 hfz25_10 hfz25_11 hfz25_12 hfz25_13 hfz25_14 z34_ z35_ z36_ z37_ z38_ z39_ z40_ z41_ H c26
                    exact hP5.out
                case rest =>
                  clear HC20
                  try clear c1
                  try clear c2
                  try clear p2
                  try clear q2
                  try clear hx2
                  try clear c5
                  try clear p6
                  try clear c8
                  try clear c8b0
                  try clear c8b1
                  try clear c9
                  try clear c10
                  try clear c10b0
                  try clear c11
                  try clear c14
                  try clear c14b0
                  try clear c15
                  try clear c15b0
                  try clear c16
                  try clear c18
                  try clear c24
                  try clear p25
                  try clear q25
                  try clear hx25
                  try clear c26
                  try clear hcz25_0
                  try clear hcz25_1
                  try clear hcz25_10
                  try clear hcz25_11
                  try clear hcz25_12
                  try clear hcz25_13
                  try clear hcz25_14
                  try clear hcz25_2
                  try clear hcz25_3
                  try clear hcz25_4
                  try clear hcz25_5
                  try clear hcz25_6
                  try clear hcz25_7
                  try clear hcz25_8
                  try clear hcz25_9
                  try clear hcz7_0
                  try clear hcz7_1
                  try clear hcz7_10
                  try clear hcz7_11
                  try clear hcz7_12
                  try clear hcz7_13
                  try clear hcz7_14
                  try clear hcz7_2
                  try clear hcz7_3
                  try clear hcz7_4
                  try clear hcz7_5
                  try clear hcz7_6
                  try clear hcz7_7
                  try clear hcz7_8
                  try clear hcz7_9
                  try clear hfz25_0
                  try clear hfz25_1
                  try clear hfz25_10
                  try clear hfz25_11
                  try clear hfz25_12
                  try clear hfz25_13
                  try clear hfz25_14
                  try clear hfz25_2
                  try clear hfz25_3
                  try clear hfz25_4
                  try clear hfz25_5
                  try clear hfz25_6
                  try clear hfz25_7
                  try clear hfz25_8
                  try clear hfz25_9
                  try clear hfz7_0
                  try clear hfz7_1
                  try clear hfz7_10
                  try clear hfz7_11
                  try clear hfz7_12
                  try clear hfz7_13
                  try clear hfz7_14
                  try clear hfz7_2
                  try clear hfz7_3
                  try clear hfz7_4
                  try clear hfz7_5
                  try clear hfz7_6
                  try clear hfz7_7
                  try clear hfz7_8
                  try clear hfz7_9
                  try clear hx251_0
                  try clear hx251_1
                  try clear hx252_0
                  try clear hx252_1
                  try clear p2
                  try clear p251
                  try clear p252
                  try clear q251
                  try clear q252
                  obtain ⟨kq, x65_19, rfl, HA, HJ19, BK249, BK272, HB⟩ := hcut
                  cases kq with
                  | zero => exact absurd HA.out (by simp [pacemakerlaw10_SlopeMoves.j2])
                  | succ kj19 =>
                    have H := HA.out
                    clear HA
                    simp only [pacemakerlaw10_SlopeMoves.j2] at H
                    by_cases c27 : x65_19 = true
                    · rename_i z0_ z1_ z2_ z3_ z4_ z5_ z6_ z7_ z8_ z9_ z10_ z11_ z12_ z13_ z14_ z15_ z16_ z17_ z18_ z19_ z20_ z21_ z22_ z23_ z24_ z25_ z26_ z27_ z28_ z29_ z30_ z31_ z32_ z33_ z34_ z35_ z36_ z37_ z38_ z39_ z40_ z41_ z42_ z43_ z44_ z45_ z46_ z47_ z48_ z49_ z50_ z51_ z52_ z53_ z54_ z55_ z56_ z57_ z58_ z59_ z60_ z61_ z62_ z63_ z64_ z65_ z66_ z67_ z68_ z69_ z70_ z71_ z72_ z73_ z74_ z75_ z76_ z77_ z78_ z79_ z80_ z81_ z82_ z83_ z84_ z85_ z86_ z87_ z88_ z89_ z90_ z91_ z92_ z93_ z94_ z95_ z96_ z97_ z98_ z99_ z100_ z101_ z102_ z103_ z104_ z105_ z106_ z107_ z108_ z109_ z110_ z111_ z112_ z113_ z114_ z115_ z116_ z117_ z118_ z119_ z120_
                      revert k A0 c0 l0 a1 w hu29 hu36 HR0 HC0 t233 t234 t235 t236 t237 t238 t239 t240 t241 t242 t243 t244 t245 t246 t247 t248 A3 z0_ w5 gb249 w6 z1_ z2_ GW249 GE249 z3_ z4_ z5_ z6_ z7_ z8_ z9_ z10_ z11_ z12_ z13_ z14_ z15_ z16_ z17_ z18_ z19_ z20_ z21_ z22_ z23_ z24_ z25_ z26_ z27_ z28_ z29_ z30_ z31_ z32_ z33_ z34_ z35_ z36_ z37_ z38_ z39_ z40_ z41_ z42_ z43_ z44_ z45_ z46_ z47_ z48_ z49_ z50_ z51_ z52_ z53_ z54_ z55_ z56_ u65 z57_ z58_ z59_ z60_ z61_ z62_ z63_ z64_ z65_ z66_ z67_ z68_ z69_ z70_ z71_ z72_ z73_ z74_ z75_ z76_ z77_ z78_ z79_ z80_ z81_ z82_ z83_ z84_ kj3 HJ3 z85_ wr z86_ z87_ z88_ z89_ z90_ z91_ z92_ z93_ z94_ z95_ z96_ z97_ z98_ z99_ z100_ z101_ z102_ z103_ z104_ z105_ z106_ z107_ z108_ z109_ z110_ x7_2 x8_2 k2 z111_ HK2 t256 t257 t258 t259 t260 t261 t262 t263 t264 t265 t266 t267 t268 t269 t270 t271 A19 Ao21 co21 z112_ z113_ w22 gb272 w23 HO_7 z114_ z115_ z116_ GW272 GE272 NB249_272 NB272_249 hnb24 hnc24 z117_ z118_ z119_ z120_ wc u11 u12 u13 u14 u15 u16 u17 u18 u19 u20 u21 u22 u23 u24 u25 u26 u27 u28 u29 u30 u31 u32 u33 u34 u35 u36 u37 u38 u39 u40 u41 u42 u43 u44 u45 u46 u47 u48 u49 u50 u51 u52 u53 u54 u55 u56 u57 u58 u59 u60 u61 u62 u63 u64 u66 u67 u68 u69 u70 u71 u72 u73 u74 u75 u76 u77 u78 u79 u80 u81 u82 u83 u84 u85 u86 u87 u88 u89 u90 u91 x65_19 BK249 BK272 HB kj19 HJ19 H c27
                      exact hP6.out
                    · rename_i z0_ z1_ z2_ z3_ z4_ z5_ z6_ z7_ z8_ z9_ z10_ z11_ z12_ z13_ z14_ z15_ z16_ z17_ z18_ z19_ z20_ z21_ z22_ z23_ z24_ z25_ z26_ z27_ z28_ z29_ z30_ z31_ z32_ z33_ z34_ z35_ z36_ z37_ z38_ z39_ z40_ z41_ z42_ z43_ z44_ z45_ z46_ z47_ z48_ z49_ z50_ z51_ z52_ z53_ z54_ z55_ z56_ z57_ z58_ z59_ z60_ z61_ z62_ z63_ z64_ z65_ z66_ z67_ z68_ z69_ z70_ z71_ z72_ z73_ z74_ z75_ z76_ z77_ z78_ z79_ z80_ z81_ z82_ z83_ z84_ z85_ z86_ z87_ z88_ z89_ z90_ z91_ z92_ z93_ z94_ z95_ z96_ z97_ z98_ z99_ z100_ z101_ z102_ z103_ z104_ z105_ z106_ z107_ z108_ z109_ z110_ z111_ z112_ z113_ z114_ z115_ z116_ z117_ z118_ z119_ z120_
                      revert k A0 c0 l0 a1 w hu29 hu36 HR0 HC0 t233 t234 t235 t236 t237 t238 t239 t240 t241 t242 t243 t244 t245 t246 t247 t248 A3 z0_ w5 gb249 w6 z1_ z2_ GW249 GE249 z3_ z4_ z5_ z6_ z7_ z8_ z9_ z10_ z11_ z12_ z13_ z14_ z15_ z16_ z17_ z18_ z19_ z20_ z21_ z22_ z23_ z24_ z25_ z26_ z27_ z28_ z29_ z30_ z31_ z32_ z33_ z34_ z35_ z36_ z37_ z38_ z39_ z40_ z41_ z42_ z43_ z44_ z45_ z46_ z47_ z48_ z49_ z50_ z51_ z52_ z53_ z54_ z55_ z56_ u65 z57_ z58_ z59_ z60_ z61_ z62_ z63_ z64_ z65_ z66_ z67_ z68_ z69_ z70_ z71_ z72_ z73_ z74_ z75_ z76_ z77_ z78_ z79_ z80_ z81_ z82_ z83_ z84_ kj3 HJ3 z85_ wr z86_ z87_ z88_ z89_ z90_ z91_ z92_ z93_ z94_ z95_ z96_ z97_ z98_ z99_ z100_ z101_ z102_ z103_ z104_ z105_ z106_ z107_ z108_ z109_ z110_ x7_2 x8_2 k2 z111_ HK2 t256 t257 t258 t259 t260 t261 t262 t263 t264 t265 t266 t267 t268 t269 t270 t271 A19 Ao21 co21 z112_ z113_ w22 gb272 w23 HO_7 z114_ z115_ z116_ GW272 GE272 NB249_272 NB272_249 hnb24 hnc24 z117_ z118_ z119_ z120_ wc u11 u12 u13 u14 u15 u16 u17 u18 u19 u20 u21 u22 u23 u24 u25 u26 u27 u28 u29 u30 u31 u32 u33 u34 u35 u36 u37 u38 u39 u40 u41 u42 u43 u44 u45 u46 u47 u48 u49 u50 u51 u52 u53 u54 u55 u56 u57 u58 u59 u60 u61 u62 u63 u64 u66 u67 u68 u69 u70 u71 u72 u73 u74 u75 u76 u77 u78 u79 u80 u81 u82 u83 u84 u85 u86 u87 u88 u89 u90 u91 x65_19 BK249 BK272 HB kj19 HJ19 H c27
                      exact hP7.out
end Go.Proofs.Ytlokmliannklaaa.Print
end

section
namespace Go.Proofs.Ytlokmliannklaaa.Print
open Go.RowKit Go.Proofs.YtlokmliannklaaaW.PrintWords Go.Proofs.YtlokmliannklaaaW.PrintLast Go.Proofs.YtlokmliannklaaaW.PrintMore
attribute [local go_sem] max2_int min2_int max_two min_two max_three min_three max_four min_four   -- for this text's walks alone
set_option linter.unusedVariables false
set_option linter.unusedSimpArgs false

set_option maxHeartbeats 8000000 in
set_option maxRecDepth 100000 in
theorem pacemakerlaw10_SlopeMoves_calls_p0  : (pacemakerlaw10_SlopeMoves_calls_skel ).1 := by
  intro k A0 c0 l0 a1 w hu29 hu36 HR0 HC0 t233 t234 t235 t236 t237 t238 t239 t240 t241 t242 t243 t244 t245 t246 t247 t248 A3 z0_ w5 gb249 w6 HB BK249 GW249 GE249 hcz7_0 hcz7_1 hcz7_2 hcz7_3 hcz7_4 hcz7_5 hcz7_6 hcz7_7 hcz7_8 hcz7_9 hcz7_10 hcz7_11 hcz7_12 hcz7_13 hcz7_14 hfz7_0 hfz7_1 hfz7_2 hfz7_3 hfz7_4 hfz7_5 hfz7_6 hfz7_7 hfz7_8 hfz7_9 hfz7_10 hfz7_11 hfz7_12 hfz7_13 hfz7_14 z1_ z2_ z3_ z4_ z5_ z6_ z7_ z8_ H c8
  rw [if_pos c8] at H
  have c8b0 : decide (100 < (l0.length : Int)) = true := decide_eq_true c8
  have c8b1 : decide (100 < l0.length) = true := decide_eq_true (by omega)
  clear c8
  (first | rw [c8b0] | (simp only [i64_w, i32_w]; rw [c8b0]) | skip)
  have H' := Aside0.mk H
  clear H
  go_wp2
  go_meet
  case rel => exact ⟨_, (true), (by first | rfl | (simp; done) | (simp [*]; done)), H', ⟨by first | omega | exact Nat.le_refl _⟩, ⟨by (with_reducible repeat (first | refine blk_drewN ?_ _ | refine blk_drew ?_ | refine blk_alloc ?_ _)); refine blk_put (cs := #[.int .i64 t233, .int .i64 t234, .int .i64 t235, .int .i64 t236, .int .i64 t237, .int .i64 t238, .int .i64 t239, .int .i64 t240, .int .i64 t241, .int .i64 t242, .int .i64 t243, .int .i64 t244, .int .i64 t245, .int .i64 t246, .int .i64 0]) ?_ 14 _ rfl; (with_reducible repeat (first | refine blk_drewN ?_ _ | refine blk_drew ?_ | refine blk_alloc ?_ _)); refine blk_put (cs := #[.int .i64 t233, .int .i64 t234, .int .i64 t235, .int .i64 t236, .int .i64 t237, .int .i64 t238, .int .i64 t239, .int .i64 t240, .int .i64 t241, .int .i64 t242, .int .i64 t243, .int .i64 t244, .int .i64 t245, .int .i64 0, .int .i64 0]) ?_ 13 _ rfl; (with_reducible repeat (first | refine blk_drewN ?_ _ | refine blk_drew ?_ | refine blk_alloc ?_ _)); refine blk_put (cs := #[.int .i64 t233, .int .i64 t234, .int .i64 t235, .int .i64 t236, .int .i64 t237, .int .i64 t238, .int .i64 t239, .int .i64 t240, .int .i64 t241, .int .i64 t242, .int .i64 t243, .int .i64 t244, .int .i64 0, .int .i64 0, .int .i64 0]) ?_ 12 _ rfl; (with_reducible repeat (first | refine blk_drewN ?_ _ | refine blk_drew ?_ | refine blk_alloc ?_ _)); refine blk_put (cs := #[.int .i64 t233, .int .i64 t234, .int .i64 t235, .int .i64 t236, .int .i64 t237, .int .i64 t238, .int .i64 t239, .int .i64 t240, .int .i64 t241, .int .i64 t242, .int .i64 t243, .int .i64 0, .int .i64 0, .int .i64 0, .int .i64 0]) ?_ 11 _ rfl; (with_reducible repeat (first | refine blk_drewN ?_ _ | refine blk_drew ?_ | refine blk_alloc ?_ _)); refine blk_put (cs := #[.int .i64 t233, .int .i64 t234, .int .i64 t235, .int .i64 t236, .int .i64 t237, .int .i64 t238, .int .i64 t239, .int .i64 t240, .int .i64 t241, .int .i64 t242, .int .i64 0, .int .i64 0, .int .i64 0, .int .i64 0, .int .i64 0]) ?_ 10 _ rfl; (with_reducible repeat (first | refine blk_drewN ?_ _ | refine blk_drew ?_ | refine blk_alloc ?_ _)); refine blk_put (cs := #[.int .i64 t233, .int .i64 t234, .int .i64 t235, .int .i64 t236, .int .i64 t237, .int .i64 t238, .int .i64 t239, .int .i64 t240, .int .i64 t241, .int .i64 0, .int .i64 0, .int .i64 0, .int .i64 0, .int .i64 0, .int .i64 0]) ?_ 9 _ rfl; (with_reducible repeat (first | refine blk_drewN ?_ _ | refine blk_drew ?_ | refine blk_alloc ?_ _)); refine blk_put (cs := #[.int .i64 t233, .int .i64 t234, .int .i64 t235, .int .i64 t236, .int .i64 t237, .int .i64 t238, .int .i64 t239, .int .i64 t240, .int .i64 0, .int .i64 0, .int .i64 0, .int .i64 0, .int .i64 0, .int .i64 0, .int .i64 0]) ?_ 8 _ rfl; (with_reducible repeat (first | refine blk_drewN ?_ _ | refine blk_drew ?_ | refine blk_alloc ?_ _)); refine blk_put (cs := #[.int .i64 t233, .int .i64 t234, .int .i64 t235, .int .i64 t236, .int .i64 t237, .int .i64 t238, .int .i64 t239, .int .i64 0, .int .i64 0, .int .i64 0, .int .i64 0, .int .i64 0, .int .i64 0, .int .i64 0, .int .i64 0]) ?_ 7 _ rfl; (with_reducible repeat (first | refine blk_drewN ?_ _ | refine blk_drew ?_ | refine blk_alloc ?_ _)); refine blk_put (cs := #[.int .i64 t233, .int .i64 t234, .int .i64 t235, .int .i64 t236, .int .i64 t237, .int .i64 t238, .int .i64 0, .int .i64 0, .int .i64 0, .int .i64 0, .int .i64 0, .int .i64 0, .int .i64 0, .int .i64 0, .int .i64 0]) ?_ 6 _ rfl; (with_reducible repeat (first | refine blk_drewN ?_ _ | refine blk_drew ?_ | refine blk_alloc ?_ _)); refine blk_put (cs := #[.int .i64 t233, .int .i64 t234, .int .i64 t235, .int .i64 t236, .int .i64 t237, .int .i64 0, .int .i64 0, .int .i64 0, .int .i64 0, .int .i64 0, .int .i64 0, .int .i64 0, .int .i64 0, .int .i64 0, .int .i64 0]) ?_ 5 _ rfl; (with_reducible repeat (first | refine blk_drewN ?_ _ | refine blk_drew ?_ | refine blk_alloc ?_ _)); refine blk_put (cs := #[.int .i64 t233, .int .i64 t234, .int .i64 t235, .int .i64 t236, .int .i64 0, .int .i64 0, .int .i64 0, .int .i64 0, .int .i64 0, .int .i64 0, .int .i64 0, .int .i64 0, .int .i64 0, .int .i64 0, .int .i64 0]) ?_ 4 _ rfl; (with_reducible repeat (first | refine blk_drewN ?_ _ | refine blk_drew ?_ | refine blk_alloc ?_ _)); refine blk_put (cs := #[.int .i64 t233, .int .i64 t234, .int .i64 t235, .int .i64 0, .int .i64 0, .int .i64 0, .int .i64 0, .int .i64 0, .int .i64 0, .int .i64 0, .int .i64 0, .int .i64 0, .int .i64 0, .int .i64 0, .int .i64 0]) ?_ 3 _ rfl; (with_reducible repeat (first | refine blk_drewN ?_ _ | refine blk_drew ?_ | refine blk_alloc ?_ _)); refine blk_put (cs := #[.int .i64 t233, .int .i64 t234, .int .i64 0, .int .i64 0, .int .i64 0, .int .i64 0, .int .i64 0, .int .i64 0, .int .i64 0, .int .i64 0, .int .i64 0, .int .i64 0, .int .i64 0, .int .i64 0, .int .i64 0]) ?_ 2 _ rfl; (with_reducible repeat (first | refine blk_drewN ?_ _ | refine blk_drew ?_ | refine blk_alloc ?_ _)); refine blk_put (cs := #[.int .i64 t233, .int .i64 0, .int .i64 0, .int .i64 0, .int .i64 0, .int .i64 0, .int .i64 0, .int .i64 0, .int .i64 0, .int .i64 0, .int .i64 0, .int .i64 0, .int .i64 0, .int .i64 0, .int .i64 0]) ?_ 1 _ rfl; (with_reducible repeat (first | refine blk_drewN ?_ _ | refine blk_drew ?_ | refine blk_alloc ?_ _)); refine blk_put (cs := #[.int .i64 0, .int .i64 0, .int .i64 0, .int .i64 0, .int .i64 0, .int .i64 0, .int .i64 0, .int .i64 0, .int .i64 0, .int .i64 0, .int .i64 0, .int .i64 0, .int .i64 0, .int .i64 0, .int .i64 0]) ?_ 0 _ rfl; (with_reducible repeat (first | refine blk_drewN ?_ _ | refine blk_drew ?_ | refine blk_alloc ?_ _)); exact BK249.out⟩, ⟨by repeat (first | (with_reducible first | exact HB.out | apply below_alloc | apply pw_below_drewN | apply below_drew1 | refine below_set ?_ GE249.out) | exact HB.out)⟩⟩
end Go.Proofs.Ytlokmliannklaaa.Print
end

section
namespace Go.Proofs.Ytlokmliannklaaa.Print
open Go.RowKit Go.Proofs.YtlokmliannklaaaW.PrintWords Go.Proofs.YtlokmliannklaaaW.PrintLast Go.Proofs.YtlokmliannklaaaW.PrintMore
attribute [local go_sem] max2_int min2_int max_two min_two max_three min_three max_four min_four   -- for this text's walks alone
set_option linter.unusedVariables false
set_option linter.unusedSimpArgs false

set_option maxHeartbeats 8000000 in
set_option maxRecDepth 100000 in
theorem pacemakerlaw10_SlopeMoves_calls_p1  : (pacemakerlaw10_SlopeMoves_calls_skel ).2.1 := by
  intro k A0 c0 l0 a1 w hu29 hu36 HR0 HC0 t233 t234 t235 t236 t237 t238 t239 t240 t241 t242 t243 t244 t245 t246 t247 t248 A3 z0_ w5 gb249 w6 HB BK249 GW249 GE249 hcz7_0 hcz7_1 hcz7_2 hcz7_3 hcz7_4 hcz7_5 hcz7_6 hcz7_7 hcz7_8 hcz7_9 hcz7_10 hcz7_11 hcz7_12 hcz7_13 hcz7_14 hfz7_0 hfz7_1 hfz7_2 hfz7_3 hfz7_4 hfz7_5 hfz7_6 hfz7_7 hfz7_8 hfz7_9 hfz7_10 hfz7_11 hfz7_12 hfz7_13 hfz7_14 z1_ z2_ z3_ z4_ z5_ z6_ z7_ z8_ H c8
  rw [if_neg c8] at H
  have c8b0 : decide (100 < (l0.length : Int)) = false := decide_eq_false c8
  have c8b1 : decide (100 < l0.length) = false := decide_eq_false (by omega)
  clear c8
  (first | rw [c8b0] | (simp only [i64_w, i32_w]; rw [c8b0]) | skip)
  by_cases c9 : t248 = true
  · subst c9
    have H1 : (if a1 < 0 then (pacemakerlaw10_SlopeMoves.j0 k l0 a1 true t233 t234 t235 t236 t237 t238 t239 t240 t241 t242 t243 t244 t245 t246 t247) else (pacemakerlaw10_SlopeMoves.j0 k l0 a1 (decide (a1 > 60000000)) t233 t234 t235 t236 t237 t238 t239 t240 t241 t242 t243 t244 t245 t246 t247)) = some true := by rw [if_pos rfl] at H; exact H
    clear H
    have H := H1
    clear H1
    by_cases c10 : a1 < 0
    · rw [if_pos c10] at H
      have c10b0 : decide (a1 < 0) = true := decide_eq_true c10
      clear c10
      have H' := Aside0.mk H
      clear H
      go_wp2
      go_meet
      case rel => exact ⟨_, (true), (by first | rfl | (simp; done) | (simp [*]; done)), H', ⟨by first | omega | exact Nat.le_refl _⟩, ⟨by (with_reducible repeat (first | refine blk_drewN ?_ _ | refine blk_drew ?_ | refine blk_alloc ?_ _)); refine blk_put (cs := #[.int .i64 t233, .int .i64 t234, .int .i64 t235, .int .i64 t236, .int .i64 t237, .int .i64 t238, .int .i64 t239, .int .i64 t240, .int .i64 t241, .int .i64 t242, .int .i64 t243, .int .i64 t244, .int .i64 t245, .int .i64 t246, .int .i64 0]) ?_ 14 _ rfl; (with_reducible repeat (first | refine blk_drewN ?_ _ | refine blk_drew ?_ | refine blk_alloc ?_ _)); refine blk_put (cs := #[.int .i64 t233, .int .i64 t234, .int .i64 t235, .int .i64 t236, .int .i64 t237, .int .i64 t238, .int .i64 t239, .int .i64 t240, .int .i64 t241, .int .i64 t242, .int .i64 t243, .int .i64 t244, .int .i64 t245, .int .i64 0, .int .i64 0]) ?_ 13 _ rfl; (with_reducible repeat (first | refine blk_drewN ?_ _ | refine blk_drew ?_ | refine blk_alloc ?_ _)); refine blk_put (cs := #[.int .i64 t233, .int .i64 t234, .int .i64 t235, .int .i64 t236, .int .i64 t237, .int .i64 t238, .int .i64 t239, .int .i64 t240, .int .i64 t241, .int .i64 t242, .int .i64 t243, .int .i64 t244, .int .i64 0, .int .i64 0, .int .i64 0]) ?_ 12 _ rfl; (with_reducible repeat (first | refine blk_drewN ?_ _ | refine blk_drew ?_ | refine blk_alloc ?_ _)); refine blk_put (cs := #[.int .i64 t233, .int .i64 t234, .int .i64 t235, .int .i64 t236, .int .i64 t237, .int .i64 t238, .int .i64 t239, .int .i64 t240, .int .i64 t241, .int .i64 t242, .int .i64 t243, .int .i64 0, .int .i64 0, .int .i64 0, .int .i64 0]) ?_ 11 _ rfl; (with_reducible repeat (first | refine blk_drewN ?_ _ | refine blk_drew ?_ | refine blk_alloc ?_ _)); refine blk_put (cs := #[.int .i64 t233, .int .i64 t234, .int .i64 t235, .int .i64 t236, .int .i64 t237, .int .i64 t238, .int .i64 t239, .int .i64 t240, .int .i64 t241, .int .i64 t242, .int .i64 0, .int .i64 0, .int .i64 0, .int .i64 0, .int .i64 0]) ?_ 10 _ rfl; (with_reducible repeat (first | refine blk_drewN ?_ _ | refine blk_drew ?_ | refine blk_alloc ?_ _)); refine blk_put (cs := #[.int .i64 t233, .int .i64 t234, .int .i64 t235, .int .i64 t236, .int .i64 t237, .int .i64 t238, .int .i64 t239, .int .i64 t240, .int .i64 t241, .int .i64 0, .int .i64 0, .int .i64 0, .int .i64 0, .int .i64 0, .int .i64 0]) ?_ 9 _ rfl; (with_reducible repeat (first | refine blk_drewN ?_ _ | refine blk_drew ?_ | refine blk_alloc ?_ _)); refine blk_put (cs := #[.int .i64 t233, .int .i64 t234, .int .i64 t235, .int .i64 t236, .int .i64 t237, .int .i64 t238, .int .i64 t239, .int .i64 t240, .int .i64 0, .int .i64 0, .int .i64 0, .int .i64 0, .int .i64 0, .int .i64 0, .int .i64 0]) ?_ 8 _ rfl; (with_reducible repeat (first | refine blk_drewN ?_ _ | refine blk_drew ?_ | refine blk_alloc ?_ _)); refine blk_put (cs := #[.int .i64 t233, .int .i64 t234, .int .i64 t235, .int .i64 t236, .int .i64 t237, .int .i64 t238, .int .i64 t239, .int .i64 0, .int .i64 0, .int .i64 0, .int .i64 0, .int .i64 0, .int .i64 0, .int .i64 0, .int .i64 0]) ?_ 7 _ rfl; (with_reducible repeat (first | refine blk_drewN ?_ _ | refine blk_drew ?_ | refine blk_alloc ?_ _)); refine blk_put (cs := #[.int .i64 t233, .int .i64 t234, .int .i64 t235, .int .i64 t236, .int .i64 t237, .int .i64 t238, .int .i64 0, .int .i64 0, .int .i64 0, .int .i64 0, .int .i64 0, .int .i64 0, .int .i64 0, .int .i64 0, .int .i64 0]) ?_ 6 _ rfl; (with_reducible repeat (first | refine blk_drewN ?_ _ | refine blk_drew ?_ | refine blk_alloc ?_ _)); refine blk_put (cs := #[.int .i64 t233, .int .i64 t234, .int .i64 t235, .int .i64 t236, .int .i64 t237, .int .i64 0, .int .i64 0, .int .i64 0, .int .i64 0, .int .i64 0, .int .i64 0, .int .i64 0, .int .i64 0, .int .i64 0, .int .i64 0]) ?_ 5 _ rfl; (with_reducible repeat (first | refine blk_drewN ?_ _ | refine blk_drew ?_ | refine blk_alloc ?_ _)); refine blk_put (cs := #[.int .i64 t233, .int .i64 t234, .int .i64 t235, .int .i64 t236, .int .i64 0, .int .i64 0, .int .i64 0, .int .i64 0, .int .i64 0, .int .i64 0, .int .i64 0, .int .i64 0, .int .i64 0, .int .i64 0, .int .i64 0]) ?_ 4 _ rfl; (with_reducible repeat (first | refine blk_drewN ?_ _ | refine blk_drew ?_ | refine blk_alloc ?_ _)); refine blk_put (cs := #[.int .i64 t233, .int .i64 t234, .int .i64 t235, .int .i64 0, .int .i64 0, .int .i64 0, .int .i64 0, .int .i64 0, .int .i64 0, .int .i64 0, .int .i64 0, .int .i64 0, .int .i64 0, .int .i64 0, .int .i64 0]) ?_ 3 _ rfl; (with_reducible repeat (first | refine blk_drewN ?_ _ | refine blk_drew ?_ | refine blk_alloc ?_ _)); refine blk_put (cs := #[.int .i64 t233, .int .i64 t234, .int .i64 0, .int .i64 0, .int .i64 0, .int .i64 0, .int .i64 0, .int .i64 0, .int .i64 0, .int .i64 0, .int .i64 0, .int .i64 0, .int .i64 0, .int .i64 0, .int .i64 0]) ?_ 2 _ rfl; (with_reducible repeat (first | refine blk_drewN ?_ _ | refine blk_drew ?_ | refine blk_alloc ?_ _)); refine blk_put (cs := #[.int .i64 t233, .int .i64 0, .int .i64 0, .int .i64 0, .int .i64 0, .int .i64 0, .int .i64 0, .int .i64 0, .int .i64 0, .int .i64 0, .int .i64 0, .int .i64 0, .int .i64 0, .int .i64 0, .int .i64 0]) ?_ 1 _ rfl; (with_reducible repeat (first | refine blk_drewN ?_ _ | refine blk_drew ?_ | refine blk_alloc ?_ _)); refine blk_put (cs := #[.int .i64 0, .int .i64 0, .int .i64 0, .int .i64 0, .int .i64 0, .int .i64 0, .int .i64 0, .int .i64 0, .int .i64 0, .int .i64 0, .int .i64 0, .int .i64 0, .int .i64 0, .int .i64 0, .int .i64 0]) ?_ 0 _ rfl; (with_reducible repeat (first | refine blk_drewN ?_ _ | refine blk_drew ?_ | refine blk_alloc ?_ _)); exact BK249.out⟩, ⟨by repeat (first | (with_reducible first | exact HB.out | apply below_alloc | apply pw_below_drewN | apply below_drew1 | refine below_set ?_ GE249.out) | exact HB.out)⟩⟩
    · rw [if_neg c10] at H
      have c10b0 : decide (a1 < 0) = false := decide_eq_false c10
      clear c10
      have H' := Aside0.mk H
      clear H
      go_wp2
      go_meet
      case rel => exact ⟨_, (decide (a1 > 60000000)), (by first | rfl | (simp; done) | (simp [*]; done)), H', ⟨by first | omega | exact Nat.le_refl _⟩, ⟨by (with_reducible repeat (first | refine blk_drewN ?_ _ | refine blk_drew ?_ | refine blk_alloc ?_ _)); refine blk_put (cs := #[.int .i64 t233, .int .i64 t234, .int .i64 t235, .int .i64 t236, .int .i64 t237, .int .i64 t238, .int .i64 t239, .int .i64 t240, .int .i64 t241, .int .i64 t242, .int .i64 t243, .int .i64 t244, .int .i64 t245, .int .i64 t246, .int .i64 0]) ?_ 14 _ rfl; (with_reducible repeat (first | refine blk_drewN ?_ _ | refine blk_drew ?_ | refine blk_alloc ?_ _)); refine blk_put (cs := #[.int .i64 t233, .int .i64 t234, .int .i64 t235, .int .i64 t236, .int .i64 t237, .int .i64 t238, .int .i64 t239, .int .i64 t240, .int .i64 t241, .int .i64 t242, .int .i64 t243, .int .i64 t244, .int .i64 t245, .int .i64 0, .int .i64 0]) ?_ 13 _ rfl; (with_reducible repeat (first | refine blk_drewN ?_ _ | refine blk_drew ?_ | refine blk_alloc ?_ _)); refine blk_put (cs := #[.int .i64 t233, .int .i64 t234, .int .i64 t235, .int .i64 t236, .int .i64 t237, .int .i64 t238, .int .i64 t239, .int .i64 t240, .int .i64 t241, .int .i64 t242, .int .i64 t243, .int .i64 t244, .int .i64 0, .int .i64 0, .int .i64 0]) ?_ 12 _ rfl; (with_reducible repeat (first | refine blk_drewN ?_ _ | refine blk_drew ?_ | refine blk_alloc ?_ _)); refine blk_put (cs := #[.int .i64 t233, .int .i64 t234, .int .i64 t235, .int .i64 t236, .int .i64 t237, .int .i64 t238, .int .i64 t239, .int .i64 t240, .int .i64 t241, .int .i64 t242, .int .i64 t243, .int .i64 0, .int .i64 0, .int .i64 0, .int .i64 0]) ?_ 11 _ rfl; (with_reducible repeat (first | refine blk_drewN ?_ _ | refine blk_drew ?_ | refine blk_alloc ?_ _)); refine blk_put (cs := #[.int .i64 t233, .int .i64 t234, .int .i64 t235, .int .i64 t236, .int .i64 t237, .int .i64 t238, .int .i64 t239, .int .i64 t240, .int .i64 t241, .int .i64 t242, .int .i64 0, .int .i64 0, .int .i64 0, .int .i64 0, .int .i64 0]) ?_ 10 _ rfl; (with_reducible repeat (first | refine blk_drewN ?_ _ | refine blk_drew ?_ | refine blk_alloc ?_ _)); refine blk_put (cs := #[.int .i64 t233, .int .i64 t234, .int .i64 t235, .int .i64 t236, .int .i64 t237, .int .i64 t238, .int .i64 t239, .int .i64 t240, .int .i64 t241, .int .i64 0, .int .i64 0, .int .i64 0, .int .i64 0, .int .i64 0, .int .i64 0]) ?_ 9 _ rfl; (with_reducible repeat (first | refine blk_drewN ?_ _ | refine blk_drew ?_ | refine blk_alloc ?_ _)); refine blk_put (cs := #[.int .i64 t233, .int .i64 t234, .int .i64 t235, .int .i64 t236, .int .i64 t237, .int .i64 t238, .int .i64 t239, .int .i64 t240, .int .i64 0, .int .i64 0, .int .i64 0, .int .i64 0, .int .i64 0, .int .i64 0, .int .i64 0]) ?_ 8 _ rfl; (with_reducible repeat (first | refine blk_drewN ?_ _ | refine blk_drew ?_ | refine blk_alloc ?_ _)); refine blk_put (cs := #[.int .i64 t233, .int .i64 t234, .int .i64 t235, .int .i64 t236, .int .i64 t237, .int .i64 t238, .int .i64 t239, .int .i64 0, .int .i64 0, .int .i64 0, .int .i64 0, .int .i64 0, .int .i64 0, .int .i64 0, .int .i64 0]) ?_ 7 _ rfl; (with_reducible repeat (first | refine blk_drewN ?_ _ | refine blk_drew ?_ | refine blk_alloc ?_ _)); refine blk_put (cs := #[.int .i64 t233, .int .i64 t234, .int .i64 t235, .int .i64 t236, .int .i64 t237, .int .i64 t238, .int .i64 0, .int .i64 0, .int .i64 0, .int .i64 0, .int .i64 0, .int .i64 0, .int .i64 0, .int .i64 0, .int .i64 0]) ?_ 6 _ rfl; (with_reducible repeat (first | refine blk_drewN ?_ _ | refine blk_drew ?_ | refine blk_alloc ?_ _)); refine blk_put (cs := #[.int .i64 t233, .int .i64 t234, .int .i64 t235, .int .i64 t236, .int .i64 t237, .int .i64 0, .int .i64 0, .int .i64 0, .int .i64 0, .int .i64 0, .int .i64 0, .int .i64 0, .int .i64 0, .int .i64 0, .int .i64 0]) ?_ 5 _ rfl; (with_reducible repeat (first | refine blk_drewN ?_ _ | refine blk_drew ?_ | refine blk_alloc ?_ _)); refine blk_put (cs := #[.int .i64 t233, .int .i64 t234, .int .i64 t235, .int .i64 t236, .int .i64 0, .int .i64 0, .int .i64 0, .int .i64 0, .int .i64 0, .int .i64 0, .int .i64 0, .int .i64 0, .int .i64 0, .int .i64 0, .int .i64 0]) ?_ 4 _ rfl; (with_reducible repeat (first | refine blk_drewN ?_ _ | refine blk_drew ?_ | refine blk_alloc ?_ _)); refine blk_put (cs := #[.int .i64 t233, .int .i64 t234, .int .i64 t235, .int .i64 0, .int .i64 0, .int .i64 0, .int .i64 0, .int .i64 0, .int .i64 0, .int .i64 0, .int .i64 0, .int .i64 0, .int .i64 0, .int .i64 0, .int .i64 0]) ?_ 3 _ rfl; (with_reducible repeat (first | refine blk_drewN ?_ _ | refine blk_drew ?_ | refine blk_alloc ?_ _)); refine blk_put (cs := #[.int .i64 t233, .int .i64 t234, .int .i64 0, .int .i64 0, .int .i64 0, .int .i64 0, .int .i64 0, .int .i64 0, .int .i64 0, .int .i64 0, .int .i64 0, .int .i64 0, .int .i64 0, .int .i64 0, .int .i64 0]) ?_ 2 _ rfl; (with_reducible repeat (first | refine blk_drewN ?_ _ | refine blk_drew ?_ | refine blk_alloc ?_ _)); refine blk_put (cs := #[.int .i64 t233, .int .i64 0, .int .i64 0, .int .i64 0, .int .i64 0, .int .i64 0, .int .i64 0, .int .i64 0, .int .i64 0, .int .i64 0, .int .i64 0, .int .i64 0, .int .i64 0, .int .i64 0, .int .i64 0]) ?_ 1 _ rfl; (with_reducible repeat (first | refine blk_drewN ?_ _ | refine blk_drew ?_ | refine blk_alloc ?_ _)); refine blk_put (cs := #[.int .i64 0, .int .i64 0, .int .i64 0, .int .i64 0, .int .i64 0, .int .i64 0, .int .i64 0, .int .i64 0, .int .i64 0, .int .i64 0, .int .i64 0, .int .i64 0, .int .i64 0, .int .i64 0, .int .i64 0]) ?_ 0 _ rfl; (with_reducible repeat (first | refine blk_drewN ?_ _ | refine blk_drew ?_ | refine blk_alloc ?_ _)); exact BK249.out⟩, ⟨by repeat (first | (with_reducible first | exact HB.out | apply below_alloc | apply pw_below_drewN | apply below_drew1 | refine below_set ?_ GE249.out) | exact HB.out)⟩⟩
  · replace c9 := Bool.eq_false_iff.mpr c9
    subst c9
    have H1 : (pacemakerlaw10_SlopeMoves.j0 k l0 a1 true t233 t234 t235 t236 t237 t238 t239 t240 t241 t242 t243 t244 t245 t246 t247) = some true := by rw [if_neg (show ¬ (false = true) by decide)] at H; exact H
    clear H
    have H := H1
    clear H1
    have H' := Aside0.mk H
    clear H
    go_wp2
    go_meet
    case rel => exact ⟨_, (true), (by first | rfl | (simp; done) | (simp [*]; done)), H', ⟨by first | omega | exact Nat.le_refl _⟩, ⟨by (with_reducible repeat (first | refine blk_drewN ?_ _ | refine blk_drew ?_ | refine blk_alloc ?_ _)); refine blk_put (cs := #[.int .i64 t233, .int .i64 t234, .int .i64 t235, .int .i64 t236, .int .i64 t237, .int .i64 t238, .int .i64 t239, .int .i64 t240, .int .i64 t241, .int .i64 t242, .int .i64 t243, .int .i64 t244, .int .i64 t245, .int .i64 t246, .int .i64 0]) ?_ 14 _ rfl; (with_reducible repeat (first | refine blk_drewN ?_ _ | refine blk_drew ?_ | refine blk_alloc ?_ _)); refine blk_put (cs := #[.int .i64 t233, .int .i64 t234, .int .i64 t235, .int .i64 t236, .int .i64 t237, .int .i64 t238, .int .i64 t239, .int .i64 t240, .int .i64 t241, .int .i64 t242, .int .i64 t243, .int .i64 t244, .int .i64 t245, .int .i64 0, .int .i64 0]) ?_ 13 _ rfl; (with_reducible repeat (first | refine blk_drewN ?_ _ | refine blk_drew ?_ | refine blk_alloc ?_ _)); refine blk_put (cs := #[.int .i64 t233, .int .i64 t234, .int .i64 t235, .int .i64 t236, .int .i64 t237, .int .i64 t238, .int .i64 t239, .int .i64 t240, .int .i64 t241, .int .i64 t242, .int .i64 t243, .int .i64 t244, .int .i64 0, .int .i64 0, .int .i64 0]) ?_ 12 _ rfl; (with_reducible repeat (first | refine blk_drewN ?_ _ | refine blk_drew ?_ | refine blk_alloc ?_ _)); refine blk_put (cs := #[.int .i64 t233, .int .i64 t234, .int .i64 t235, .int .i64 t236, .int .i64 t237, .int .i64 t238, .int .i64 t239, .int .i64 t240, .int .i64 t241, .int .i64 t242, .int .i64 t243, .int .i64 0, .int .i64 0, .int .i64 0, .int .i64 0]) ?_ 11 _ rfl; (with_reducible repeat (first | refine blk_drewN ?_ _ | refine blk_drew ?_ | refine blk_alloc ?_ _)); refine blk_put (cs := #[.int .i64 t233, .int .i64 t234, .int .i64 t235, .int .i64 t236, .int .i64 t237, .int .i64 t238, .int .i64 t239, .int .i64 t240, .int .i64 t241, .int .i64 t242, .int .i64 0, .int .i64 0, .int .i64 0, .int .i64 0, .int .i64 0]) ?_ 10 _ rfl; (with_reducible repeat (first | refine blk_drewN ?_ _ | refine blk_drew ?_ | refine blk_alloc ?_ _)); refine blk_put (cs := #[.int .i64 t233, .int .i64 t234, .int .i64 t235, .int .i64 t236, .int .i64 t237, .int .i64 t238, .int .i64 t239, .int .i64 t240, .int .i64 t241, .int .i64 0, .int .i64 0, .int .i64 0, .int .i64 0, .int .i64 0, .int .i64 0]) ?_ 9 _ rfl; (with_reducible repeat (first | refine blk_drewN ?_ _ | refine blk_drew ?_ | refine blk_alloc ?_ _)); refine blk_put (cs := #[.int .i64 t233, .int .i64 t234, .int .i64 t235, .int .i64 t236, .int .i64 t237, .int .i64 t238, .int .i64 t239, .int .i64 t240, .int .i64 0, .int .i64 0, .int .i64 0, .int .i64 0, .int .i64 0, .int .i64 0, .int .i64 0]) ?_ 8 _ rfl; (with_reducible repeat (first | refine blk_drewN ?_ _ | refine blk_drew ?_ | refine blk_alloc ?_ _)); refine blk_put (cs := #[.int .i64 t233, .int .i64 t234, .int .i64 t235, .int .i64 t236, .int .i64 t237, .int .i64 t238, .int .i64 t239, .int .i64 0, .int .i64 0, .int .i64 0, .int .i64 0, .int .i64 0, .int .i64 0, .int .i64 0, .int .i64 0]) ?_ 7 _ rfl; (with_reducible repeat (first | refine blk_drewN ?_ _ | refine blk_drew ?_ | refine blk_alloc ?_ _)); refine blk_put (cs := #[.int .i64 t233, .int .i64 t234, .int .i64 t235, .int .i64 t236, .int .i64 t237, .int .i64 t238, .int .i64 0, .int .i64 0, .int .i64 0, .int .i64 0, .int .i64 0, .int .i64 0, .int .i64 0, .int .i64 0, .int .i64 0]) ?_ 6 _ rfl; (with_reducible repeat (first | refine blk_drewN ?_ _ | refine blk_drew ?_ | refine blk_alloc ?_ _)); refine blk_put (cs := #[.int .i64 t233, .int .i64 t234, .int .i64 t235, .int .i64 t236, .int .i64 t237, .int .i64 0, .int .i64 0, .int .i64 0, .int .i64 0, .int .i64 0, .int .i64 0, .int .i64 0, .int .i64 0, .int .i64 0, .int .i64 0]) ?_ 5 _ rfl; (with_reducible repeat (first | refine blk_drewN ?_ _ | refine blk_drew ?_ | refine blk_alloc ?_ _)); refine blk_put (cs := #[.int .i64 t233, .int .i64 t234, .int .i64 t235, .int .i64 t236, .int .i64 0, .int .i64 0, .int .i64 0, .int .i64 0, .int .i64 0, .int .i64 0, .int .i64 0, .int .i64 0, .int .i64 0, .int .i64 0, .int .i64 0]) ?_ 4 _ rfl; (with_reducible repeat (first | refine blk_drewN ?_ _ | refine blk_drew ?_ | refine blk_alloc ?_ _)); refine blk_put (cs := #[.int .i64 t233, .int .i64 t234, .int .i64 t235, .int .i64 0, .int .i64 0, .int .i64 0, .int .i64 0, .int .i64 0, .int .i64 0, .int .i64 0, .int .i64 0, .int .i64 0, .int .i64 0, .int .i64 0, .int .i64 0]) ?_ 3 _ rfl; (with_reducible repeat (first | refine blk_drewN ?_ _ | refine blk_drew ?_ | refine blk_alloc ?_ _)); refine blk_put (cs := #[.int .i64 t233, .int .i64 t234, .int .i64 0, .int .i64 0, .int .i64 0, .int .i64 0, .int .i64 0, .int .i64 0, .int .i64 0, .int .i64 0, .int .i64 0, .int .i64 0, .int .i64 0, .int .i64 0, .int .i64 0]) ?_ 2 _ rfl; (with_reducible repeat (first | refine blk_drewN ?_ _ | refine blk_drew ?_ | refine blk_alloc ?_ _)); refine blk_put (cs := #[.int .i64 t233, .int .i64 0, .int .i64 0, .int .i64 0, .int .i64 0, .int .i64 0, .int .i64 0, .int .i64 0, .int .i64 0, .int .i64 0, .int .i64 0, .int .i64 0, .int .i64 0, .int .i64 0, .int .i64 0]) ?_ 1 _ rfl; (with_reducible repeat (first | refine blk_drewN ?_ _ | refine blk_drew ?_ | refine blk_alloc ?_ _)); refine blk_put (cs := #[.int .i64 0, .int .i64 0, .int .i64 0, .int .i64 0, .int .i64 0, .int .i64 0, .int .i64 0, .int .i64 0, .int .i64 0, .int .i64 0, .int .i64 0, .int .i64 0, .int .i64 0, .int .i64 0, .int .i64 0]) ?_ 0 _ rfl; (with_reducible repeat (first | refine blk_drewN ?_ _ | refine blk_drew ?_ | refine blk_alloc ?_ _)); exact BK249.out⟩, ⟨by repeat (first | (with_reducible first | exact HB.out | apply below_alloc | apply pw_below_drewN | apply below_drew1 | refine below_set ?_ GE249.out) | exact HB.out)⟩⟩
end Go.Proofs.Ytlokmliannklaaa.Print
end

section
namespace Go.Proofs.Ytlokmliannklaaa.Print
open Go.RowKit Go.Proofs.YtlokmliannklaaaW.PrintWords Go.Proofs.YtlokmliannklaaaW.PrintLast Go.Proofs.YtlokmliannklaaaW.PrintMore
attribute [local go_sem] max2_int min2_int max_two min_two max_three min_three max_four min_four   -- for this text's walks alone
set_option linter.unusedVariables false
set_option linter.unusedSimpArgs false

set_option maxHeartbeats 8000000 in
set_option maxRecDepth 100000 in
theorem pacemakerlaw10_SlopeMoves_calls_p2  : (pacemakerlaw10_SlopeMoves_calls_skel ).2.2.1 := by
  intro k A0 c0 l0 a1 w hu29 hu36 HR0 HC0 t233 t234 t235 t236 t237 t238 t239 t240 t241 t242 t243 t244 t245 t246 t247 t248 A3 z0_ w5 gb249 w6 z1_ z2_ GW249 GE249 z3_ z4_ z5_ z6_ wc u11 u12 u13 u14 u15 u16 u17 u18 u19 u20 u21 u22 u23 u24 u25 u26 u27 u28 u29 u31 u32 u33 u34 u35 u36 u37 u38 u39 u40 u41 u42 u43 u44 u45 u46 u47 u48 u49 u50 u51 u52 u53 u54 u55 u56 u57 u58 u59 u60 u61 u62 u63 u64 u65 u66 u67 u68 u69 u70 u71 u72 u73 u74 u75 u76 u77 u78 u79 u80 u81 u82 u83 u84 u85 u86 u87 u88 u89 u90 u91 x30_3 BK249 HB kj3 HJ3 H c11
  subst c11
  have H1 : ((pacemakerlaw10_fitted.f).bind fun t250 => (some t250)) = some true := by rw [if_pos rfl] at H; exact H
  clear H
  have H := H1
  clear H1
  replace H := Option.bind_eq_some_iff.mp H
  obtain ⟨t250, A120, H⟩ := H
  replace H : (some t250) = some true := H
  have A12 := Aside0.mk A120
  clear A120
  first
    | exact absurd (Option.some.inj H) (by decide)
    | have HL_ := Aside0.mk (Option.some.inj H)
      clear H
      go_wp2_with (first | ((with_reducible refine gate_callee (f := 9) rfl ?_); refine goesL_ (some 31) rfl rfl Try.func9 (by kernel_rfl) rfl #[] rfl (by (try simp only [List.map_toArray, List.map_cons, List.map_nil]); first | done | rfl | (simp only [List.length_drop, List.length_take]; rfl)) ?_; (with_reducible refine (pacemakerlaw10_fitted.calls  t250 _ A12.out).mono ?_); rintro e w13 ⟨rfl, hb⟩; refine ⟨_, rfl, ?_⟩; have n0_ := Aside0.mk (blk_below (g := gb249) (o := .cells #[.int .i64 t233, .int .i64 t234, .int .i64 t235, .int .i64 t236, .int .i64 t237, .int .i64 t238, .int .i64 t239, .int .i64 t240, .int .i64 t241, .int .i64 t242, .int .i64 t243, .int .i64 t244, .int .i64 t245, .int .i64 t246, .int .i64 t247] 29 (0, 0)) (by (with_reducible repeat (first | refine blk_drewN ?_ _ | refine blk_drew ?_ | refine blk_alloc ?_ _)); exact BK249.out) hb); have n1_ := Aside0.mk (below_step (by repeat (first | (with_reducible first | exact HB.out | apply below_alloc | apply pw_below_drewN | apply below_drew1 | refine below_set ?_ GE249.out) | exact HB.out)) hb); clear BK249; clear HB; have BK249 := n0_; have HB := n1_; clear n0_ n1_; (try clear hb); (try clear hb2); (try clear hk); (try clear hi)))
      go_ret
      have hlast := HL_.out
      exact ⟨by first | rfl | (simp [errW_none, errW_some] <;> rfl) | (simp [*, errW_none, errW_some] <;> rfl), by repeat (first | (with_reducible first | exact HB.out | apply below_alloc | apply pw_below_drewN | apply below_drew1 | refine below_set ?_ GE249.out) | exact HB.out)⟩
end Go.Proofs.Ytlokmliannklaaa.Print
end

section
namespace Go.Proofs.Ytlokmliannklaaa.Print
open Go.RowKit Go.Proofs.YtlokmliannklaaaW.PrintWords Go.Proofs.YtlokmliannklaaaW.PrintLast Go.Proofs.YtlokmliannklaaaW.PrintMore
attribute [local go_sem] max2_int min2_int max_two min_two max_three min_three max_four min_four   -- for this text's walks alone
set_option linter.unusedVariables false
set_option linter.unusedSimpArgs false

set_option maxHeartbeats 8000000 in
set_option maxRecDepth 100000 in
theorem pacemakerlaw10_SlopeMoves_calls_p3  : (pacemakerlaw10_SlopeMoves_calls_skel ).2.2.2.1 := by
  intro k A0 c0 l0 a1 w hu29 hu36 HR0 HC0 t233 t234 t235 t236 t237 t238 t239 t240 t241 t242 t243 t244 t245 t246 t247 t248 A3 z0_ w5 gb249 w6 z1_ z2_ GW249 GE249 wc u11 u12 u13 u14 u15 u16 u17 u18 u19 u20 u21 u22 u23 u24 u25 u26 u27 u28 u29 u31 z3_ z4_ z5_ z6_ z7_ z8_ z9_ z10_ z11_ z12_ z13_ z14_ z15_ z16_ z17_ z18_ z19_ z20_ z21_ z22_ z23_ z24_ u54 u55 u56 u57 u58 u59 u60 u61 u62 u63 u64 u65 u66 u67 u68 u69 u70 u71 u72 u73 u74 u75 u76 u77 u78 u79 u80 u81 u82 u83 u84 u85 u86 u87 u88 u89 u90 u91 z25_ z26_ kj3 HJ3 z27_ z28_ wr u7 u32 u33 u34 u35 u36 u37 u38 u39 u40 u41 u42 u43 u44 u45 u46 u47 u48 u49 u50 u51 u52 u53 z29_ z30_ z31_ x7_2 x8_2 HO_7 BK249 HB k2 z32_ HK2 H c14
  rw [if_pos c14] at H
  have c14b0 : decide (x8_2 < (l0.length : Int)) = true := decide_eq_true c14
  clear c14
  by_cases c15 : 0 ≤ x8_2
  · rw [if_pos c15] at H
    have c15b0 : decide (0 ≤ x8_2) = true := decide_eq_true c15
    clear c15
    by_cases c16 : x7_2.length < 8796093022208
    · rw [if_pos c16] at H
      have LMc16 := Aside0.mk c16
      clear c16
      obtain ⟨y253, hy253⟩ : ∃ y_ : List (S36), y_ = (x7_2 ++ [(⟨(rd_T36 l0 x8_2).f0, wrap64 (((rd_T36 l0 x8_2).f1) + a1)⟩ : S36)]) := ⟨_, rfl⟩
      replace H : (pacemakerlaw10_SlopeMoves.l0 k2 l0 a1 y253 (wrap64 (x8_2 + 1)) t233 t234 t235 t236 t237 t238 t239 t240 t241 t242 t243 t244 t245 t246 t247) = some true := by first | (rw [hy253]; with_reducible exact H) | (have H2_ := (Option.bind_some _ _).symm.trans H; rw [hy253]; with_reducible exact H2_) | (have H2_ := (Option.bind_some _ _).symm.trans H; with_reducible exact H2_) | with_reducible exact H | (rw [hy253]; exact H) | exact H
      have Ny253 := Aside0.mk hy253
      clear hy253
      have H' := Aside0.mk H
      clear H
      try go_wp2
      have n0_ := Aside0.mk (Kd.R_drew HO_7.out)
      have n1_ := Aside0.mk (blk_drew BK249.out)
      have n2_ := Aside0.mk (below_drew1 HB.out)
      clear HO_7
      clear BK249
      clear HB
      have HO_7 := n0_
      have BK249 := n1_
      have HB := n2_
      clear n0_ n1_ n2_
      have p251 : 0 ≤ (x8_2 : Int) := of_decide_eq_true (by first | (with_reducible assumption) | assumption)
      have q251 : x8_2 < (l0.length : Int) := of_decide_eq_true (by first | (with_reducible assumption) | assumption)
      obtain ⟨ad251, e251, hx251_0, hx251_1⟩ := at_T36 HR0.out x8_2 p251 q251
      have hw251_1 := hx251_1
      have hw251_0 := hx251_0
      cases e251
      replace hx251_0 := (HB.out.cell (World.block_lt_of_cell? w _ hx251_0)).trans hx251_0
      replace hx251_1 := (HB.out.cell (World.block_lt_of_cell? w _ hx251_1)).trans hx251_1
      replace p251 := eq_true p251
      replace q251 := eq_true q251
      have p252 : 0 ≤ (x8_2 : Int) := of_decide_eq_true (by first | (with_reducible assumption) | assumption)
      have q252 : x8_2 < (l0.length : Int) := of_decide_eq_true (by first | (with_reducible assumption) | assumption)
      obtain ⟨ad252, e252, hx252_0, hx252_1⟩ := at_T36 HR0.out x8_2 p252 q252
      have hw252_1 := hx252_1
      have hw252_0 := hx252_0
      obtain rfl : ad251 = ad252 := (by injection e252)
      replace hx252_0 := (HB.out.cell (World.block_lt_of_cell? w _ hx252_0)).trans hx252_0
      replace hx252_1 := (HB.out.cell (World.block_lt_of_cell? w _ hx252_1)).trans hx252_1
      replace p252 := eq_true p252
      replace q252 := eq_true q252
      refine start_ (n := 17) (S := fun w' => w'.cell? (ad251.add ((x8_2).toNat * 2)) = some (.int .i64 ((rd_T36 l0 x8_2).f0)) ∧ w'.cell? ⟨(ad251.add ((x8_2).toNat * 2)).block, (ad251.add ((x8_2).toNat * 2)).off + 1, none⟩ = some (.int .i64 ((rd_T36 l0 x8_2).f1)) ∧ w'.cell? (ad251.add ((x8_2).toNat * 2)) = some (.int .i64 ((rd_T36 l0 x8_2).f0)) ∧ w'.cell? ⟨(ad251.add ((x8_2).toNat * 2)).block, (ad251.add ((x8_2).toNat * 2)).off + 1, none⟩ = some (.int .i64 ((rd_T36 l0 x8_2).f1))) (ds := []) #[false, false, false, false, false, false, false, false, false, false, false, false, false, false, false, false, false] (by kernel_rfl) rfl rfl ⟨((HB.out.cell (World.block_lt_of_cell? w _ hw251_0)).trans hw251_0), ((HB.out.cell (World.block_lt_of_cell? w _ hw251_1)).trans hw251_1), ((HB.out.cell (World.block_lt_of_cell? w _ hw252_0)).trans hw252_0), ((HB.out.cell (World.block_lt_of_cell? w _ hw252_1)).trans hw252_1)⟩ (fun hHeld => ?_); refine with_tabW pacemakerlaw10_SlopeMoves.tab8 pacemakerlaw10_SlopeMoves.bits8 (fun HT_ HW_ => ?_)
      generalize wr.drew = w17 at HO_7 BK249 HB hx251_0 hx251_1 hx252_0 hx252_1 hHeld ⊢
      refine pure_ (i := 0) (N := some 38) (v := ?_) (a' := ?_) #[true, false, false, false, false, false, false, false, false, false, false, false, false, false, false, false, false] rfl rfl (any_of HT_.out (by kernel_rfl)) (fun _ _ _ h => h) (Or.inl ⟨by rfl, ?_⟩) ?_ ?_
      rotate_left
      · intro w'
        go_simp
        with_reducible rfl
      rotate_left
      · simp only [Act.put, List.setIfInBounds_toArray, List.set_cons_zero, List.set_cons_succ, i64_w, i32_w]
        rfl
      refine pure_ (i := 1) (N := some 39) (v := ?_) (a' := ?_) #[true, true, false, false, false, false, false, false, false, false, false, false, false, false, false, false, false] rfl rfl (any_of HT_.out (by kernel_rfl)) (fun _ _ _ h => h) (Or.inl ⟨by rfl, ?_⟩) ?_ ?_
      rotate_left
      · intro w'
        go_simp
        with_reducible rfl
      rotate_left
      · simp only [Act.put, List.setIfInBounds_toArray, List.set_cons_zero, List.set_cons_succ, i64_w, i32_w]
        rfl
      refine pure_ (i := 2) (N := some 40) (v := ?_) (a' := ?_) #[true, true, true, false, false, false, false, false, false, false, false, false, false, false, false, false, false] rfl rfl (any_of HT_.out (by kernel_rfl)) (fun _ _ _ h => h) (Or.inl ⟨by rfl, ?_⟩) ?_ ?_
      rotate_left
      · intro w'
        go_simp
        with_reducible rfl
      rotate_left
      · simp only [Act.put, List.setIfInBounds_toArray, List.set_cons_zero, List.set_cons_succ, i64_w, i32_w]
        rfl
      refine pure_ (i := 3) (N := some 41) (v := ?_) (a' := ?_) #[true, true, true, true, false, false, false, false, false, false, false, false, false, false, false, false, false] rfl rfl (any_of HT_.out (by kernel_rfl)) (fun _ _ _ h => h) (Or.inl ⟨by rfl, ?_⟩) ?_ ?_
      rotate_left
      · intro w'
        go_simp
        with_reducible rfl
      rotate_left
      · simp only [Act.put, List.setIfInBounds_toArray, List.set_cons_zero, List.set_cons_succ, i64_w, i32_w]
        rfl
      refine pure_ (i := 4) (N := some 42) (v := ?_) (a' := ?_) #[true, true, true, true, true, false, false, false, false, false, false, false, false, false, false, false, false] rfl rfl (any_of HT_.out (by kernel_rfl)) (fun _ _ _ h => h) (Or.inl ⟨by rfl, ?_⟩) ?_ ?_
      rotate_left
      · intro w'
        go_simp
        with_reducible rfl
      rotate_left
      · simp only [Act.put, List.setIfInBounds_toArray, List.set_cons_zero, List.set_cons_succ, i64_w, i32_w]
        rfl
      refine pure_ (i := 6) (N := some 44) (v := ?_) (a' := ?_) #[true, true, true, true, true, false, true, false, false, false, false, false, false, false, false, false, false] rfl rfl (any_of HT_.out (by kernel_rfl)) (fun _ _ _ h => h) (Or.inl ⟨by rfl, ?_⟩) ?_ ?_
      rotate_left
      · intro w'
        go_simp
        with_reducible rfl
      rotate_left
      · simp only [Act.put, List.setIfInBounds_toArray, List.set_cons_zero, List.set_cons_succ, i64_w, i32_w]
        rfl
      refine pure_ (i := 7) (N := some 45) (v := ?_) (a' := ?_) #[true, true, true, true, true, false, true, true, false, false, false, false, false, false, false, false, false] rfl rfl (any_of HT_.out (by kernel_rfl)) (fun _ _ _ h => h) (Or.inl ⟨by rfl, ?_⟩) ?_ ?_
      rotate_left
      · intro w'
        go_simp
        with_reducible rfl
      rotate_left
      · simp only [Act.put, List.setIfInBounds_toArray, List.set_cons_zero, List.set_cons_succ, i64_w, i32_w]
        rfl
      refine pure_ (i := 8) (N := some 46) (v := ?_) (a' := ?_) #[true, true, true, true, true, false, true, true, true, false, false, false, false, false, false, false, false] rfl rfl (any_of HT_.out (by kernel_rfl)) (fun _ _ _ h => h) (Or.inl ⟨by rfl, ?_⟩) ?_ ?_
      rotate_left
      · intro w'
        go_simp
        with_reducible rfl
      rotate_left
      · simp only [Act.put, List.setIfInBounds_toArray, List.set_cons_zero, List.set_cons_succ, i64_w, i32_w]
        rfl
      refine pure_ (i := 9) (N := some 47) (v := ?_) (a' := ?_) #[true, true, true, true, true, false, true, true, true, true, false, false, false, false, false, false, false] rfl rfl (any_of HT_.out (by kernel_rfl)) (fun _ _ _ h => h) (Or.inl ⟨by rfl, ?_⟩) ?_ ?_
      rotate_left
      · intro w'
        go_simp
        with_reducible rfl
      rotate_left
      · simp only [Act.put, List.setIfInBounds_toArray, List.set_cons_zero, List.set_cons_succ, i64_w, i32_w]
        rfl
      refine pure_ (i := 11) (N := some 49) (v := ?_) (a' := ?_) #[true, true, true, true, true, false, true, true, true, true, false, true, false, false, false, false, false] rfl rfl (any_of HT_.out (by kernel_rfl)) (fun _ _ _ h => h) (Or.inl ⟨by rfl, ?_⟩) ?_ ?_
      rotate_left
      · intro w'
        go_simp
        with_reducible rfl
      rotate_left
      · simp only [Act.put, List.setIfInBounds_toArray, List.set_cons_zero, List.set_cons_succ, i64_w, i32_w]
        rfl
      refine take_ (i := 5) (N := some 43) (v := ?_) (a' := ?_) #[true, true, true, true, true, true, true, true, true, true, false, true, false, false, false, false, false] rfl rfl (take_ofW HT_.out HW_.out (by kernel_rfl)) (fun _ _ _ h => h) (Or.inl ⟨by rfl, ?_⟩) hHeld ?_ ?_
      rotate_left
      · rintro w' ⟨s0, s1, s2, s3⟩
        go_simp
        with_reducible rfl
      rotate_left
      · simp only [Act.put, List.setIfInBounds_toArray, List.set_cons_zero, List.set_cons_succ, i64_w, i32_w]
        rfl
      refine take_ (i := 10) (N := some 48) (v := ?_) (a' := ?_) #[true, true, true, true, true, true, true, true, true, true, true, true, false, false, false, false, false] rfl rfl (take_ofW HT_.out HW_.out (by kernel_rfl)) (fun _ _ _ h => h) (Or.inl ⟨by rfl, ?_⟩) hHeld ?_ ?_
      rotate_left
      · rintro w' ⟨s0, s1, s2, s3⟩
        go_simp
        with_reducible rfl
      rotate_left
      · simp only [Act.put, List.setIfInBounds_toArray, List.set_cons_zero, List.set_cons_succ, i64_w, i32_w]
        rfl
      refine pure_ (i := 12) (N := some 50) (v := ?_) (a' := ?_) #[true, true, true, true, true, true, true, true, true, true, true, true, true, false, false, false, false] rfl rfl (any_of HT_.out (by kernel_rfl)) (fun _ _ _ h => h) (Or.inl ⟨by rfl, ?_⟩) ?_ ?_
      rotate_left
      · intro w'
        go_simp
        with_reducible rfl
      rotate_left
      · simp only [Act.put, List.setIfInBounds_toArray, List.set_cons_zero, List.set_cons_succ, i64_w, i32_w]
        rfl
      refine pure_ (i := 13) (N := some 51) (v := ?_) (a' := ?_) #[true, true, true, true, true, true, true, true, true, true, true, true, true, true, false, false, false] rfl rfl (any_of HT_.out (by kernel_rfl)) (fun _ _ _ h => h) (Or.inl ⟨by rfl, ?_⟩) ?_ ?_
      rotate_left
      · intro w'
        go_simp
        with_reducible rfl
      rotate_left
      · simp only [Act.put, List.setIfInBounds_toArray, List.set_cons_zero, List.set_cons_succ, i64_w, i32_w]
        rfl
      refine one_ (i := 14) (N := some 52) #[true, true, true, true, true, true, true, true, true, true, true, true, true, true, true, false, false] rfl rfl (one_of HT_.out (by kernel_rfl)) (by decide) (fun K hK => ?_)
      refine value_ (w1 := ?_) (v := ?_) (by rfl) rfl ?_ ?_
      rotate_left 2
      · go_simp
        constructor
        · rfl
        · rfl
      refine hK.out _ _ ⟨(World.cell?_alloc_lt _ _ _ (World.block_lt_of_cell? _ _ (((HB.out.cell (World.block_lt_of_cell? w _ hw251_0)).trans hw251_0)))).trans (((HB.out.cell (World.block_lt_of_cell? w _ hw251_0)).trans hw251_0)), (World.cell?_alloc_lt _ _ _ (World.block_lt_of_cell? _ _ (((HB.out.cell (World.block_lt_of_cell? w _ hw251_1)).trans hw251_1)))).trans (((HB.out.cell (World.block_lt_of_cell? w _ hw251_1)).trans hw251_1)), (World.cell?_alloc_lt _ _ _ (World.block_lt_of_cell? _ _ (((HB.out.cell (World.block_lt_of_cell? w _ hw252_0)).trans hw252_0)))).trans (((HB.out.cell (World.block_lt_of_cell? w _ hw252_0)).trans hw252_0)), (World.cell?_alloc_lt _ _ _ (World.block_lt_of_cell? _ _ (((HB.out.cell (World.block_lt_of_cell? w _ hw252_1)).trans hw252_1)))).trans (((HB.out.cell (World.block_lt_of_cell? w _ hw252_1)).trans hw252_1))⟩ (fun hHeld => ?_)
      clear hK K
      refine norm_ (a' := ?_) ?_ ?_
      rotate_left
      · show Act.put _ (some 52) _ = _
        simp only [Act.put, List.setIfInBounds_toArray, List.set_cons_zero, List.set_cons_succ, i64_w, i32_w]
        rfl
      refine one_ (i := 15) (N := some 53) #[true, true, true, true, true, true, true, true, true, true, true, true, true, true, true, true, false] rfl rfl (one_of HT_.out (by kernel_rfl)) (by decide) (fun K hK => ?_)
      refine Kd.R_append_step k36 (w0 := w) w.heap.size (by rfl) (.tmp 38) (.tmp 52) 32 36 (.agg #[(.int .i64 0), (.int .i64 0)]) 16 rfl Try.underlying32 info36 rfl (by decide) (by omega) u7 x7_2 (⟨(rd_T36 l0 x8_2).f0, wrap64 (((rd_T36 l0 x8_2).f1) + a1)⟩ : S36) [.int .i64 ((rd_T36 l0 x8_2).f0), .int .i64 (wrap64 (((rd_T36 l0 x8_2).f1) + a1))] (fun _ => True) (fun _ => False) rfl rfl ?aP (fun _ hk => hk.elim) ?aF ?aO ?aB ?aS ?aL ?_
      (case aP => exact k36_mkM _ _ _ (⟨(rd_T36 l0 x8_2).f0, wrap64 (((rd_T36 l0 x8_2).f1) + a1)⟩ : S36))
      (case aB => exact (by repeat (first | (with_reducible first | exact HB.out | apply below_alloc | apply pw_below_drewN | apply below_drew1 | refine below_set ?_ GE249.out) | exact HB.out)))
      (case aF => exact (fun _ _ => trivial))
      (case aO => exact (by (with_reducible repeat (first | apply Kd.R_alloc | apply Kd.R_drewN | apply Kd.R_drew)); exact HO_7.out))
      (case aS => exact (below_size (by repeat (first | (with_reducible first | exact HB.out | apply below_alloc | apply pw_below_drewN | apply below_drew1 | refine below_set ?_ GE249.out) | exact HB.out))))
      (case aL => have := LMc16.out; omega)
      intro v254 w18 ho hb hg hat
      rw [← Ny253.out] at ho
      have n0_ := Aside0.mk (blk_grown (g := gb249) (o := .cells #[.int .i64 t233, .int .i64 t234, .int .i64 t235, .int .i64 t236, .int .i64 t237, .int .i64 t238, .int .i64 t239, .int .i64 t240, .int .i64 t241, .int .i64 t242, .int .i64 t243, .int .i64 t244, .int .i64 t245, .int .i64 t246, .int .i64 t247] 29 (0, 0)) (by (with_reducible repeat (first | refine blk_drewN ?_ _ | refine blk_drew ?_ | refine blk_alloc ?_ _)); exact BK249.out) hg (Kd.R_ne HO_7.out BK249.out (by decide)))
      have n1_ := Aside0.mk (hb)
      have n2_ := Aside0.mk (ho)
      clear BK249
      clear HB
      clear HO_7
      have BK249 := n0_
      have HB := n1_
      have HO255 := n2_
      clear n0_ n1_ n2_
      clear ho hb hg hat
      refine hK.out _ _ ⟨((HB.out.cell (World.block_lt_of_cell? w _ hw251_0)).trans hw251_0), ((HB.out.cell (World.block_lt_of_cell? w _ hw251_1)).trans hw251_1), ((HB.out.cell (World.block_lt_of_cell? w _ hw252_0)).trans hw252_0), ((HB.out.cell (World.block_lt_of_cell? w _ hw252_1)).trans hw252_1)⟩ (fun hHeld => ?_)
      clear hK K
      refine norm_ (a' := ?_) ?_ ?_
      rotate_left
      · show Act.put _ (some 53) _ = _
        simp only [Act.put, List.setIfInBounds_toArray, List.set_cons_zero, List.set_cons_succ, i64_w, i32_w]
        rfl
      refine pure_ (i := 16) (N := some 7) (v := ?_) (a' := ?_) #[true, true, true, true, true, true, true, true, true, true, true, true, true, true, true, true, true] rfl rfl (any_of HT_.out (by kernel_rfl)) (fun _ _ _ h => h) (Or.inl ⟨by rfl, ?_⟩) ?_ ?_
      rotate_left
      · intro w'
        go_simp
        with_reducible rfl
      rotate_left
      · simp only [Act.put, List.setIfInBounds_toArray, List.set_cons_zero, List.set_cons_succ, i64_w, i32_w]
        rfl
      refine done_ (done_of HT_.out (by kernel_rfl)) ?_
      try go_wp2
      go_roundg k2
      case measure => have := HJ3.out; have := HK2.out; omega
      case rel => exact ⟨(y253), (wrap64 (x8_2 + 1)), (by first | rfl | (simp; done) | (simp [*]; done)), H', ⟨by have := HJ3.out; have := HK2.out; omega⟩, ⟨by (with_reducible repeat (first | apply Kd.R_alloc | apply Kd.R_drewN | apply Kd.R_drew)); exact HO255.out⟩, ⟨by (with_reducible repeat (first | refine blk_drewN ?_ _ | refine blk_drew ?_ | refine blk_alloc ?_ _)); exact BK249.out⟩, ⟨by repeat (first | (with_reducible first | exact HB.out | apply below_alloc | apply pw_below_drewN | apply below_drew1 | refine below_set ?_ GE249.out) | exact HB.out)⟩⟩
    · rw [if_neg c16] at H
      exact absurd H (by simp)
  · rw [if_neg c15] at H
    exact absurd H (by simp)
end Go.Proofs.Ytlokmliannklaaa.Print
end

section
namespace Go.Proofs.Ytlokmliannklaaa.Print
open Go.RowKit Go.Proofs.YtlokmliannklaaaW.PrintWords Go.Proofs.YtlokmliannklaaaW.PrintLast Go.Proofs.YtlokmliannklaaaW.PrintMore
attribute [local go_sem] max2_int min2_int max_two min_two max_three min_three max_four min_four   -- for this text's walks alone
set_option linter.unusedVariables false
set_option linter.unusedSimpArgs false

set_option maxHeartbeats 8000000 in
set_option maxRecDepth 100000 in
theorem pacemakerlaw10_SlopeMoves_calls_p4  : (pacemakerlaw10_SlopeMoves_calls_skel ).2.2.2.2.1 := by
  intro k A0 c0 l0 a1 w hu29 hu36 HR0 HC0 t233 t234 t235 t236 t237 t238 t239 t240 t241 t242 t243 t244 t245 t246 t247 t248 A3 z0_ w5 gb249 w6 z1_ z2_ GW249 GE249 wc u11 u12 u13 u14 u15 u16 u17 u18 u19 u20 u21 u22 u23 u24 u25 u26 u27 u28 u29 u31 z3_ z4_ z5_ z6_ z7_ z8_ z9_ z10_ z11_ z12_ z13_ z14_ z15_ z16_ z17_ z18_ z19_ z20_ z21_ z22_ z23_ z24_ u54 u55 u56 u57 u58 u59 u60 u61 u62 u63 u64 u65 u66 u67 u68 u69 u70 u71 u72 u73 u74 u75 u76 u77 u78 u79 u80 u81 u82 u83 u84 u85 u86 u87 u88 u89 u90 u91 z25_ z26_ kj3 HJ3 z27_ wr u32 u33 u34 u35 u36 u37 u38 u39 u40 u41 u42 u43 u44 u45 u46 u47 u48 u49 u50 u51 u52 u53 z28_ z29_ z30_ x7_2 x8_2 k2 z31_ HK2 c14b0 t256 t257 t258 t259 t260 t261 t262 t263 t264 t265 t266 t267 t268 t269 t270 t271 A19 Ao21 co21 z32_ z33_ w22 gb272 w23 HO_7 BK249 HB BK272 GW272 GE272 NB249_272 NB272_249 hnb24 hnc24 hcz25_0 hcz25_1 hcz25_2 hcz25_3 hcz25_4 hcz25_5 hcz25_6 hcz25_7 hcz25_8 hcz25_9 hcz25_10 hcz25_11 hcz25_12 hcz25_13 hcz25_14 hfz25_0 hfz25_1 hfz25_2 hfz25_3 hfz25_4 hfz25_5 hfz25_6 hfz25_7 hfz25_8 hfz25_9 hfz25_10 hfz25_11 hfz25_12 hfz25_13 hfz25_14 z34_ z35_ z36_ z37_ z38_ z39_ z40_ z41_ H c26
  subst c26
  have H1 : (pacemakerlaw10_SlopeMoves.j2 k2 a1 ((l0.length : Int) == 0) t233 t234 t235 t236 t237 t238 t239 t240 t241 t242 t243 t244 t245 t246 t247 t256 t257 t258 t259 t260 t261 t262 t263 t264 t265 t266 t267 t268 t269 t270) = some true := by rw [if_pos rfl] at H; exact H
  clear H
  have H := H1
  clear H1
  have H' := Aside0.mk H
  clear H
  go_wp2
  go_meet
  case rel => exact ⟨_, (((l0.length : Int) == 0)), (by first | rfl | (simp; done) | (simp [*]; done)), H', ⟨by have := HJ3.out; have := HK2.out; first | omega | exact Nat.le_refl _⟩, ⟨by (with_reducible repeat (first | refine blk_drewN ?_ _ | refine blk_drew ?_ | refine blk_alloc ?_ _)); refine blk_far ?_ NB249_272.out _; (with_reducible repeat (first | refine blk_drewN ?_ _ | refine blk_drew ?_ | refine blk_alloc ?_ _)); refine blk_far ?_ NB249_272.out _; (with_reducible repeat (first | refine blk_drewN ?_ _ | refine blk_drew ?_ | refine blk_alloc ?_ _)); refine blk_far ?_ NB249_272.out _; (with_reducible repeat (first | refine blk_drewN ?_ _ | refine blk_drew ?_ | refine blk_alloc ?_ _)); refine blk_far ?_ NB249_272.out _; (with_reducible repeat (first | refine blk_drewN ?_ _ | refine blk_drew ?_ | refine blk_alloc ?_ _)); refine blk_far ?_ NB249_272.out _; (with_reducible repeat (first | refine blk_drewN ?_ _ | refine blk_drew ?_ | refine blk_alloc ?_ _)); refine blk_far ?_ NB249_272.out _; (with_reducible repeat (first | refine blk_drewN ?_ _ | refine blk_drew ?_ | refine blk_alloc ?_ _)); refine blk_far ?_ NB249_272.out _; (with_reducible repeat (first | refine blk_drewN ?_ _ | refine blk_drew ?_ | refine blk_alloc ?_ _)); refine blk_far ?_ NB249_272.out _; (with_reducible repeat (first | refine blk_drewN ?_ _ | refine blk_drew ?_ | refine blk_alloc ?_ _)); refine blk_far ?_ NB249_272.out _; (with_reducible repeat (first | refine blk_drewN ?_ _ | refine blk_drew ?_ | refine blk_alloc ?_ _)); refine blk_far ?_ NB249_272.out _; (with_reducible repeat (first | refine blk_drewN ?_ _ | refine blk_drew ?_ | refine blk_alloc ?_ _)); refine blk_far ?_ NB249_272.out _; (with_reducible repeat (first | refine blk_drewN ?_ _ | refine blk_drew ?_ | refine blk_alloc ?_ _)); refine blk_far ?_ NB249_272.out _; (with_reducible repeat (first | refine blk_drewN ?_ _ | refine blk_drew ?_ | refine blk_alloc ?_ _)); refine blk_far ?_ NB249_272.out _; (with_reducible repeat (first | refine blk_drewN ?_ _ | refine blk_drew ?_ | refine blk_alloc ?_ _)); refine blk_far ?_ NB249_272.out _; (with_reducible repeat (first | refine blk_drewN ?_ _ | refine blk_drew ?_ | refine blk_alloc ?_ _)); refine blk_far ?_ NB249_272.out _; (with_reducible repeat (first | refine blk_drewN ?_ _ | refine blk_drew ?_ | refine blk_alloc ?_ _)); exact BK249.out⟩, ⟨by (with_reducible repeat (first | refine blk_drewN ?_ _ | refine blk_drew ?_ | refine blk_alloc ?_ _)); refine blk_put (cs := #[.int .i64 t256, .int .i64 t257, .int .i64 t258, .int .i64 t259, .int .i64 t260, .int .i64 t261, .int .i64 t262, .int .i64 t263, .int .i64 t264, .int .i64 t265, .int .i64 t266, .int .i64 t267, .int .i64 t268, .int .i64 t269, .int .i64 0]) ?_ 14 _ rfl; (with_reducible repeat (first | refine blk_drewN ?_ _ | refine blk_drew ?_ | refine blk_alloc ?_ _)); refine blk_put (cs := #[.int .i64 t256, .int .i64 t257, .int .i64 t258, .int .i64 t259, .int .i64 t260, .int .i64 t261, .int .i64 t262, .int .i64 t263, .int .i64 t264, .int .i64 t265, .int .i64 t266, .int .i64 t267, .int .i64 t268, .int .i64 0, .int .i64 0]) ?_ 13 _ rfl; (with_reducible repeat (first | refine blk_drewN ?_ _ | refine blk_drew ?_ | refine blk_alloc ?_ _)); refine blk_put (cs := #[.int .i64 t256, .int .i64 t257, .int .i64 t258, .int .i64 t259, .int .i64 t260, .int .i64 t261, .int .i64 t262, .int .i64 t263, .int .i64 t264, .int .i64 t265, .int .i64 t266, .int .i64 t267, .int .i64 0, .int .i64 0, .int .i64 0]) ?_ 12 _ rfl; (with_reducible repeat (first | refine blk_drewN ?_ _ | refine blk_drew ?_ | refine blk_alloc ?_ _)); refine blk_put (cs := #[.int .i64 t256, .int .i64 t257, .int .i64 t258, .int .i64 t259, .int .i64 t260, .int .i64 t261, .int .i64 t262, .int .i64 t263, .int .i64 t264, .int .i64 t265, .int .i64 t266, .int .i64 0, .int .i64 0, .int .i64 0, .int .i64 0]) ?_ 11 _ rfl; (with_reducible repeat (first | refine blk_drewN ?_ _ | refine blk_drew ?_ | refine blk_alloc ?_ _)); refine blk_put (cs := #[.int .i64 t256, .int .i64 t257, .int .i64 t258, .int .i64 t259, .int .i64 t260, .int .i64 t261, .int .i64 t262, .int .i64 t263, .int .i64 t264, .int .i64 t265, .int .i64 0, .int .i64 0, .int .i64 0, .int .i64 0, .int .i64 0]) ?_ 10 _ rfl; (with_reducible repeat (first | refine blk_drewN ?_ _ | refine blk_drew ?_ | refine blk_alloc ?_ _)); refine blk_put (cs := #[.int .i64 t256, .int .i64 t257, .int .i64 t258, .int .i64 t259, .int .i64 t260, .int .i64 t261, .int .i64 t262, .int .i64 t263, .int .i64 t264, .int .i64 0, .int .i64 0, .int .i64 0, .int .i64 0, .int .i64 0, .int .i64 0]) ?_ 9 _ rfl; (with_reducible repeat (first | refine blk_drewN ?_ _ | refine blk_drew ?_ | refine blk_alloc ?_ _)); refine blk_put (cs := #[.int .i64 t256, .int .i64 t257, .int .i64 t258, .int .i64 t259, .int .i64 t260, .int .i64 t261, .int .i64 t262, .int .i64 t263, .int .i64 0, .int .i64 0, .int .i64 0, .int .i64 0, .int .i64 0, .int .i64 0, .int .i64 0]) ?_ 8 _ rfl; (with_reducible repeat (first | refine blk_drewN ?_ _ | refine blk_drew ?_ | refine blk_alloc ?_ _)); refine blk_put (cs := #[.int .i64 t256, .int .i64 t257, .int .i64 t258, .int .i64 t259, .int .i64 t260, .int .i64 t261, .int .i64 t262, .int .i64 0, .int .i64 0, .int .i64 0, .int .i64 0, .int .i64 0, .int .i64 0, .int .i64 0, .int .i64 0]) ?_ 7 _ rfl; (with_reducible repeat (first | refine blk_drewN ?_ _ | refine blk_drew ?_ | refine blk_alloc ?_ _)); refine blk_put (cs := #[.int .i64 t256, .int .i64 t257, .int .i64 t258, .int .i64 t259, .int .i64 t260, .int .i64 t261, .int .i64 0, .int .i64 0, .int .i64 0, .int .i64 0, .int .i64 0, .int .i64 0, .int .i64 0, .int .i64 0, .int .i64 0]) ?_ 6 _ rfl; (with_reducible repeat (first | refine blk_drewN ?_ _ | refine blk_drew ?_ | refine blk_alloc ?_ _)); refine blk_put (cs := #[.int .i64 t256, .int .i64 t257, .int .i64 t258, .int .i64 t259, .int .i64 t260, .int .i64 0, .int .i64 0, .int .i64 0, .int .i64 0, .int .i64 0, .int .i64 0, .int .i64 0, .int .i64 0, .int .i64 0, .int .i64 0]) ?_ 5 _ rfl; (with_reducible repeat (first | refine blk_drewN ?_ _ | refine blk_drew ?_ | refine blk_alloc ?_ _)); refine blk_put (cs := #[.int .i64 t256, .int .i64 t257, .int .i64 t258, .int .i64 t259, .int .i64 0, .int .i64 0, .int .i64 0, .int .i64 0, .int .i64 0, .int .i64 0, .int .i64 0, .int .i64 0, .int .i64 0, .int .i64 0, .int .i64 0]) ?_ 4 _ rfl; (with_reducible repeat (first | refine blk_drewN ?_ _ | refine blk_drew ?_ | refine blk_alloc ?_ _)); refine blk_put (cs := #[.int .i64 t256, .int .i64 t257, .int .i64 t258, .int .i64 0, .int .i64 0, .int .i64 0, .int .i64 0, .int .i64 0, .int .i64 0, .int .i64 0, .int .i64 0, .int .i64 0, .int .i64 0, .int .i64 0, .int .i64 0]) ?_ 3 _ rfl; (with_reducible repeat (first | refine blk_drewN ?_ _ | refine blk_drew ?_ | refine blk_alloc ?_ _)); refine blk_put (cs := #[.int .i64 t256, .int .i64 t257, .int .i64 0, .int .i64 0, .int .i64 0, .int .i64 0, .int .i64 0, .int .i64 0, .int .i64 0, .int .i64 0, .int .i64 0, .int .i64 0, .int .i64 0, .int .i64 0, .int .i64 0]) ?_ 2 _ rfl; (with_reducible repeat (first | refine blk_drewN ?_ _ | refine blk_drew ?_ | refine blk_alloc ?_ _)); refine blk_put (cs := #[.int .i64 t256, .int .i64 0, .int .i64 0, .int .i64 0, .int .i64 0, .int .i64 0, .int .i64 0, .int .i64 0, .int .i64 0, .int .i64 0, .int .i64 0, .int .i64 0, .int .i64 0, .int .i64 0, .int .i64 0]) ?_ 1 _ rfl; (with_reducible repeat (first | refine blk_drewN ?_ _ | refine blk_drew ?_ | refine blk_alloc ?_ _)); refine blk_put (cs := #[.int .i64 0, .int .i64 0, .int .i64 0, .int .i64 0, .int .i64 0, .int .i64 0, .int .i64 0, .int .i64 0, .int .i64 0, .int .i64 0, .int .i64 0, .int .i64 0, .int .i64 0, .int .i64 0, .int .i64 0]) ?_ 0 _ rfl; (with_reducible repeat (first | refine blk_drewN ?_ _ | refine blk_drew ?_ | refine blk_alloc ?_ _)); exact BK272.out⟩, ⟨by repeat (first | (with_reducible first | exact HB.out | apply below_alloc | apply pw_below_drewN | apply below_drew1 | refine below_set ?_ GE249.out | refine below_set ?_ GE272.out) | exact HB.out)⟩⟩
end Go.Proofs.Ytlokmliannklaaa.Print
end

section
namespace Go.Proofs.Ytlokmliannklaaa.Print
open Go.RowKit Go.Proofs.YtlokmliannklaaaW.PrintWords Go.Proofs.YtlokmliannklaaaW.PrintLast Go.Proofs.YtlokmliannklaaaW.PrintMore
attribute [local go_sem] max2_int min2_int max_two min_two max_three min_three max_four min_four   -- for this text's walks alone
set_option linter.unusedVariables false
set_option linter.unusedSimpArgs false

set_option maxHeartbeats 8000000 in
set_option maxRecDepth 100000 in
theorem pacemakerlaw10_SlopeMoves_calls_p5  : (pacemakerlaw10_SlopeMoves_calls_skel ).2.2.2.2.2.1 := by
  intro k A0 c0 l0 a1 w hu29 hu36 HR0 HC0 t233 t234 t235 t236 t237 t238 t239 t240 t241 t242 t243 t244 t245 t246 t247 t248 A3 z0_ w5 gb249 w6 z1_ z2_ GW249 GE249 wc u11 u12 u13 u14 u15 u16 u17 u18 u19 u20 u21 u22 u23 u24 u25 u26 u27 u28 u29 u31 z3_ z4_ z5_ z6_ z7_ z8_ z9_ z10_ z11_ z12_ z13_ z14_ z15_ z16_ z17_ z18_ z19_ z20_ z21_ z22_ z23_ z24_ u54 u55 u56 u57 u58 u59 u60 u61 u62 u63 u64 u65 u66 u67 u68 u69 u70 u71 u72 u73 u74 u75 u76 u77 u78 u79 u80 u81 u82 u83 u84 u85 u86 u87 u88 u89 u90 u91 z25_ z26_ kj3 HJ3 z27_ wr u32 u33 u34 u35 u36 u37 u38 u39 u40 u41 u42 u43 u44 u45 u46 u47 u48 u49 u50 u51 u52 u53 z28_ z29_ z30_ x7_2 x8_2 k2 z31_ HK2 c14b0 t256 t257 t258 t259 t260 t261 t262 t263 t264 t265 t266 t267 t268 t269 t270 t271 A19 Ao21 co21 z32_ z33_ w22 gb272 w23 HO_7 BK249 HB BK272 GW272 GE272 NB249_272 NB272_249 hnb24 hnc24 hcz25_0 hcz25_1 hcz25_2 hcz25_3 hcz25_4 hcz25_5 hcz25_6 hcz25_7 hcz25_8 hcz25_9 hcz25_10 hcz25_11 hcz25_12 hcz25_13 hcz25_14 hfz25_0 hfz25_1 hfz25_2 hfz25_3 hfz25_4 hfz25_5 hfz25_6 hfz25_7 hfz25_8 hfz25_9 hfz25_10 hfz25_11 hfz25_12 hfz25_13 hfz25_14 z34_ z35_ z36_ z37_ z38_ z39_ z40_ z41_ H c26
  replace c26 := Bool.eq_false_iff.mpr c26
  subst c26
  have H1 : (pacemakerlaw10_SlopeMoves.j2 k2 a1 true t233 t234 t235 t236 t237 t238 t239 t240 t241 t242 t243 t244 t245 t246 t247 t256 t257 t258 t259 t260 t261 t262 t263 t264 t265 t266 t267 t268 t269 t270) = some true := by rw [if_neg (show ¬ (false = true) by decide)] at H; exact H
  clear H
  have H := H1
  clear H1
  have H' := Aside0.mk H
  clear H
  go_wp2
  go_meet
  case rel => exact ⟨_, (true), (by first | rfl | (simp; done) | (simp [*]; done)), H', ⟨by have := HJ3.out; have := HK2.out; first | omega | exact Nat.le_refl _⟩, ⟨by (with_reducible repeat (first | refine blk_drewN ?_ _ | refine blk_drew ?_ | refine blk_alloc ?_ _)); refine blk_far ?_ NB249_272.out _; (with_reducible repeat (first | refine blk_drewN ?_ _ | refine blk_drew ?_ | refine blk_alloc ?_ _)); refine blk_far ?_ NB249_272.out _; (with_reducible repeat (first | refine blk_drewN ?_ _ | refine blk_drew ?_ | refine blk_alloc ?_ _)); refine blk_far ?_ NB249_272.out _; (with_reducible repeat (first | refine blk_drewN ?_ _ | refine blk_drew ?_ | refine blk_alloc ?_ _)); refine blk_far ?_ NB249_272.out _; (with_reducible repeat (first | refine blk_drewN ?_ _ | refine blk_drew ?_ | refine blk_alloc ?_ _)); refine blk_far ?_ NB249_272.out _; (with_reducible repeat (first | refine blk_drewN ?_ _ | refine blk_drew ?_ | refine blk_alloc ?_ _)); refine blk_far ?_ NB249_272.out _; (with_reducible repeat (first | refine blk_drewN ?_ _ | refine blk_drew ?_ | refine blk_alloc ?_ _)); refine blk_far ?_ NB249_272.out _; (with_reducible repeat (first | refine blk_drewN ?_ _ | refine blk_drew ?_ | refine blk_alloc ?_ _)); refine blk_far ?_ NB249_272.out _; (with_reducible repeat (first | refine blk_drewN ?_ _ | refine blk_drew ?_ | refine blk_alloc ?_ _)); refine blk_far ?_ NB249_272.out _; (with_reducible repeat (first | refine blk_drewN ?_ _ | refine blk_drew ?_ | refine blk_alloc ?_ _)); refine blk_far ?_ NB249_272.out _; (with_reducible repeat (first | refine blk_drewN ?_ _ | refine blk_drew ?_ | refine blk_alloc ?_ _)); refine blk_far ?_ NB249_272.out _; (with_reducible repeat (first | refine blk_drewN ?_ _ | refine blk_drew ?_ | refine blk_alloc ?_ _)); refine blk_far ?_ NB249_272.out _; (with_reducible repeat (first | refine blk_drewN ?_ _ | refine blk_drew ?_ | refine blk_alloc ?_ _)); refine blk_far ?_ NB249_272.out _; (with_reducible repeat (first | refine blk_drewN ?_ _ | refine blk_drew ?_ | refine blk_alloc ?_ _)); refine blk_far ?_ NB249_272.out _; (with_reducible repeat (first | refine blk_drewN ?_ _ | refine blk_drew ?_ | refine blk_alloc ?_ _)); refine blk_far ?_ NB249_272.out _; (with_reducible repeat (first | refine blk_drewN ?_ _ | refine blk_drew ?_ | refine blk_alloc ?_ _)); exact BK249.out⟩, ⟨by (with_reducible repeat (first | refine blk_drewN ?_ _ | refine blk_drew ?_ | refine blk_alloc ?_ _)); refine blk_put (cs := #[.int .i64 t256, .int .i64 t257, .int .i64 t258, .int .i64 t259, .int .i64 t260, .int .i64 t261, .int .i64 t262, .int .i64 t263, .int .i64 t264, .int .i64 t265, .int .i64 t266, .int .i64 t267, .int .i64 t268, .int .i64 t269, .int .i64 0]) ?_ 14 _ rfl; (with_reducible repeat (first | refine blk_drewN ?_ _ | refine blk_drew ?_ | refine blk_alloc ?_ _)); refine blk_put (cs := #[.int .i64 t256, .int .i64 t257, .int .i64 t258, .int .i64 t259, .int .i64 t260, .int .i64 t261, .int .i64 t262, .int .i64 t263, .int .i64 t264, .int .i64 t265, .int .i64 t266, .int .i64 t267, .int .i64 t268, .int .i64 0, .int .i64 0]) ?_ 13 _ rfl; (with_reducible repeat (first | refine blk_drewN ?_ _ | refine blk_drew ?_ | refine blk_alloc ?_ _)); refine blk_put (cs := #[.int .i64 t256, .int .i64 t257, .int .i64 t258, .int .i64 t259, .int .i64 t260, .int .i64 t261, .int .i64 t262, .int .i64 t263, .int .i64 t264, .int .i64 t265, .int .i64 t266, .int .i64 t267, .int .i64 0, .int .i64 0, .int .i64 0]) ?_ 12 _ rfl; (with_reducible repeat (first | refine blk_drewN ?_ _ | refine blk_drew ?_ | refine blk_alloc ?_ _)); refine blk_put (cs := #[.int .i64 t256, .int .i64 t257, .int .i64 t258, .int .i64 t259, .int .i64 t260, .int .i64 t261, .int .i64 t262, .int .i64 t263, .int .i64 t264, .int .i64 t265, .int .i64 t266, .int .i64 0, .int .i64 0, .int .i64 0, .int .i64 0]) ?_ 11 _ rfl; (with_reducible repeat (first | refine blk_drewN ?_ _ | refine blk_drew ?_ | refine blk_alloc ?_ _)); refine blk_put (cs := #[.int .i64 t256, .int .i64 t257, .int .i64 t258, .int .i64 t259, .int .i64 t260, .int .i64 t261, .int .i64 t262, .int .i64 t263, .int .i64 t264, .int .i64 t265, .int .i64 0, .int .i64 0, .int .i64 0, .int .i64 0, .int .i64 0]) ?_ 10 _ rfl; (with_reducible repeat (first | refine blk_drewN ?_ _ | refine blk_drew ?_ | refine blk_alloc ?_ _)); refine blk_put (cs := #[.int .i64 t256, .int .i64 t257, .int .i64 t258, .int .i64 t259, .int .i64 t260, .int .i64 t261, .int .i64 t262, .int .i64 t263, .int .i64 t264, .int .i64 0, .int .i64 0, .int .i64 0, .int .i64 0, .int .i64 0, .int .i64 0]) ?_ 9 _ rfl; (with_reducible repeat (first | refine blk_drewN ?_ _ | refine blk_drew ?_ | refine blk_alloc ?_ _)); refine blk_put (cs := #[.int .i64 t256, .int .i64 t257, .int .i64 t258, .int .i64 t259, .int .i64 t260, .int .i64 t261, .int .i64 t262, .int .i64 t263, .int .i64 0, .int .i64 0, .int .i64 0, .int .i64 0, .int .i64 0, .int .i64 0, .int .i64 0]) ?_ 8 _ rfl; (with_reducible repeat (first | refine blk_drewN ?_ _ | refine blk_drew ?_ | refine blk_alloc ?_ _)); refine blk_put (cs := #[.int .i64 t256, .int .i64 t257, .int .i64 t258, .int .i64 t259, .int .i64 t260, .int .i64 t261, .int .i64 t262, .int .i64 0, .int .i64 0, .int .i64 0, .int .i64 0, .int .i64 0, .int .i64 0, .int .i64 0, .int .i64 0]) ?_ 7 _ rfl; (with_reducible repeat (first | refine blk_drewN ?_ _ | refine blk_drew ?_ | refine blk_alloc ?_ _)); refine blk_put (cs := #[.int .i64 t256, .int .i64 t257, .int .i64 t258, .int .i64 t259, .int .i64 t260, .int .i64 t261, .int .i64 0, .int .i64 0, .int .i64 0, .int .i64 0, .int .i64 0, .int .i64 0, .int .i64 0, .int .i64 0, .int .i64 0]) ?_ 6 _ rfl; (with_reducible repeat (first | refine blk_drewN ?_ _ | refine blk_drew ?_ | refine blk_alloc ?_ _)); refine blk_put (cs := #[.int .i64 t256, .int .i64 t257, .int .i64 t258, .int .i64 t259, .int .i64 t260, .int .i64 0, .int .i64 0, .int .i64 0, .int .i64 0, .int .i64 0, .int .i64 0, .int .i64 0, .int .i64 0, .int .i64 0, .int .i64 0]) ?_ 5 _ rfl; (with_reducible repeat (first | refine blk_drewN ?_ _ | refine blk_drew ?_ | refine blk_alloc ?_ _)); refine blk_put (cs := #[.int .i64 t256, .int .i64 t257, .int .i64 t258, .int .i64 t259, .int .i64 0, .int .i64 0, .int .i64 0, .int .i64 0, .int .i64 0, .int .i64 0, .int .i64 0, .int .i64 0, .int .i64 0, .int .i64 0, .int .i64 0]) ?_ 4 _ rfl; (with_reducible repeat (first | refine blk_drewN ?_ _ | refine blk_drew ?_ | refine blk_alloc ?_ _)); refine blk_put (cs := #[.int .i64 t256, .int .i64 t257, .int .i64 t258, .int .i64 0, .int .i64 0, .int .i64 0, .int .i64 0, .int .i64 0, .int .i64 0, .int .i64 0, .int .i64 0, .int .i64 0, .int .i64 0, .int .i64 0, .int .i64 0]) ?_ 3 _ rfl; (with_reducible repeat (first | refine blk_drewN ?_ _ | refine blk_drew ?_ | refine blk_alloc ?_ _)); refine blk_put (cs := #[.int .i64 t256, .int .i64 t257, .int .i64 0, .int .i64 0, .int .i64 0, .int .i64 0, .int .i64 0, .int .i64 0, .int .i64 0, .int .i64 0, .int .i64 0, .int .i64 0, .int .i64 0, .int .i64 0, .int .i64 0]) ?_ 2 _ rfl; (with_reducible repeat (first | refine blk_drewN ?_ _ | refine blk_drew ?_ | refine blk_alloc ?_ _)); refine blk_put (cs := #[.int .i64 t256, .int .i64 0, .int .i64 0, .int .i64 0, .int .i64 0, .int .i64 0, .int .i64 0, .int .i64 0, .int .i64 0, .int .i64 0, .int .i64 0, .int .i64 0, .int .i64 0, .int .i64 0, .int .i64 0]) ?_ 1 _ rfl; (with_reducible repeat (first | refine blk_drewN ?_ _ | refine blk_drew ?_ | refine blk_alloc ?_ _)); refine blk_put (cs := #[.int .i64 0, .int .i64 0, .int .i64 0, .int .i64 0, .int .i64 0, .int .i64 0, .int .i64 0, .int .i64 0, .int .i64 0, .int .i64 0, .int .i64 0, .int .i64 0, .int .i64 0, .int .i64 0, .int .i64 0]) ?_ 0 _ rfl; (with_reducible repeat (first | refine blk_drewN ?_ _ | refine blk_drew ?_ | refine blk_alloc ?_ _)); exact BK272.out⟩, ⟨by repeat (first | (with_reducible first | exact HB.out | apply below_alloc | apply pw_below_drewN | apply below_drew1 | refine below_set ?_ GE249.out | refine below_set ?_ GE272.out) | exact HB.out)⟩⟩
end Go.Proofs.Ytlokmliannklaaa.Print
end

section
namespace Go.Proofs.Ytlokmliannklaaa.Print
open Go.RowKit Go.Proofs.YtlokmliannklaaaW.PrintWords Go.Proofs.YtlokmliannklaaaW.PrintLast Go.Proofs.YtlokmliannklaaaW.PrintMore
attribute [local go_sem] max2_int min2_int max_two min_two max_three min_three max_four min_four   -- for this text's walks alone
set_option linter.unusedVariables false
set_option linter.unusedSimpArgs false

set_option maxHeartbeats 8000000 in
set_option maxRecDepth 100000 in
theorem pacemakerlaw10_SlopeMoves_calls_p6  : (pacemakerlaw10_SlopeMoves_calls_skel ).2.2.2.2.2.2.1 := by
  intro k A0 c0 l0 a1 w hu29 hu36 HR0 HC0 t233 t234 t235 t236 t237 t238 t239 t240 t241 t242 t243 t244 t245 t246 t247 t248 A3 z0_ w5 gb249 w6 z1_ z2_ GW249 GE249 z3_ z4_ z5_ z6_ z7_ z8_ z9_ z10_ z11_ z12_ z13_ z14_ z15_ z16_ z17_ z18_ z19_ z20_ z21_ z22_ z23_ z24_ z25_ z26_ z27_ z28_ z29_ z30_ z31_ z32_ z33_ z34_ z35_ z36_ z37_ z38_ z39_ z40_ z41_ z42_ z43_ z44_ z45_ z46_ z47_ z48_ z49_ z50_ z51_ z52_ z53_ z54_ z55_ z56_ u65 z57_ z58_ z59_ z60_ z61_ z62_ z63_ z64_ z65_ z66_ z67_ z68_ z69_ z70_ z71_ z72_ z73_ z74_ z75_ z76_ z77_ z78_ z79_ z80_ z81_ z82_ z83_ z84_ kj3 HJ3 z85_ wr z86_ z87_ z88_ z89_ z90_ z91_ z92_ z93_ z94_ z95_ z96_ z97_ z98_ z99_ z100_ z101_ z102_ z103_ z104_ z105_ z106_ z107_ z108_ z109_ z110_ x7_2 x8_2 k2 z111_ HK2 t256 t257 t258 t259 t260 t261 t262 t263 t264 t265 t266 t267 t268 t269 t270 t271 A19 Ao21 co21 z112_ z113_ w22 gb272 w23 HO_7 z114_ z115_ z116_ GW272 GE272 NB249_272 NB272_249 hnb24 hnc24 z117_ z118_ z119_ z120_ wc u11 u12 u13 u14 u15 u16 u17 u18 u19 u20 u21 u22 u23 u24 u25 u26 u27 u28 u29 u30 u31 u32 u33 u34 u35 u36 u37 u38 u39 u40 u41 u42 u43 u44 u45 u46 u47 u48 u49 u50 u51 u52 u53 u54 u55 u56 u57 u58 u59 u60 u61 u62 u63 u64 u66 u67 u68 u69 u70 u71 u72 u73 u74 u75 u76 u77 u78 u79 u80 u81 u82 u83 u84 u85 u86 u87 u88 u89 u90 u91 x65_19 BK249 BK272 HB kj19 HJ19 H c27
  subst c27
  have H1 : ((pacemakerlaw10_fitted.f).bind fun t273 => (some t273)) = some true := by rw [if_pos rfl] at H; exact H
  clear H
  have H := H1
  clear H1
  replace H := Option.bind_eq_some_iff.mp H
  obtain ⟨t273, A280, H⟩ := H
  replace H : (some t273) = some true := H
  have A28 := Aside0.mk A280
  clear A280
  first
    | exact absurd (Option.some.inj H) (by decide)
    | have HL_ := Aside0.mk (Option.some.inj H)
      clear H
      go_wp2_with (first | ((with_reducible refine gate_callee (f := 9) rfl ?_); refine goesL_ (some 66) rfl rfl Try.func9 (by kernel_rfl) rfl #[] rfl (by (try simp only [List.map_toArray, List.map_cons, List.map_nil]); first | done | rfl | (simp only [List.length_drop, List.length_take]; rfl)) ?_; (with_reducible refine (pacemakerlaw10_fitted.calls  t273 _ A28.out).mono ?_); rintro e w29 ⟨rfl, hb⟩; refine ⟨_, rfl, ?_⟩; have n0_ := Aside0.mk (blk_below (g := gb249) (o := .cells #[.int .i64 t233, .int .i64 t234, .int .i64 t235, .int .i64 t236, .int .i64 t237, .int .i64 t238, .int .i64 t239, .int .i64 t240, .int .i64 t241, .int .i64 t242, .int .i64 t243, .int .i64 t244, .int .i64 t245, .int .i64 t246, .int .i64 t247] 29 (0, 0)) (by (with_reducible repeat (first | refine blk_drewN ?_ _ | refine blk_drew ?_ | refine blk_alloc ?_ _)); exact BK249.out) hb); have n1_ := Aside0.mk (blk_below (g := gb272) (o := .cells #[.int .i64 t256, .int .i64 t257, .int .i64 t258, .int .i64 t259, .int .i64 t260, .int .i64 t261, .int .i64 t262, .int .i64 t263, .int .i64 t264, .int .i64 t265, .int .i64 t266, .int .i64 t267, .int .i64 t268, .int .i64 t269, .int .i64 t270] 29 (0, 0)) (by (with_reducible repeat (first | refine blk_drewN ?_ _ | refine blk_drew ?_ | refine blk_alloc ?_ _)); exact BK272.out) hb); have n2_ := Aside0.mk (below_step (by repeat (first | (with_reducible first | exact HB.out | apply below_alloc | apply pw_below_drewN | apply below_drew1 | refine below_set ?_ GE249.out | refine below_set ?_ GE272.out) | exact HB.out)) hb); clear BK249; clear BK272; clear HB; have BK249 := n0_; have BK272 := n1_; have HB := n2_; clear n0_ n1_ n2_; (try clear hb); (try clear hb2); (try clear hk); (try clear hi)))
      go_ret
      have hlast := HL_.out
      exact ⟨by first | rfl | (simp [errW_none, errW_some] <;> rfl) | (simp [*, errW_none, errW_some] <;> rfl), by repeat (first | (with_reducible first | exact HB.out | apply below_alloc | apply pw_below_drewN | apply below_drew1 | refine below_set ?_ GE249.out | refine below_set ?_ GE272.out) | exact HB.out)⟩
end Go.Proofs.Ytlokmliannklaaa.Print
end
