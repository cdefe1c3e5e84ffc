/- Printed by a program of this session: functions of the law and their walks. -/
import Derived.Test.YtlokmliannklaaaQP0
import Derived.Test.YtlokmliannklaaaQPrint3
import Derived.Test.YtlokmliannklaaaQPrint4
import Derived.Test.YtlokmliannklaaaQSkd
import Derived.Test.YtlokmliannklaaaQFitted
import Derived.Test.YtlokmliannklaaaQPrint13d
section
namespace Go.Proofs.Ytlokmliannklaaa.Print
open Go.RowKit Go.Proofs.YtlokmliannklaaaW.PrintWords Go.Proofs.YtlokmliannklaaaW.PrintLast Go.Proofs.YtlokmliannklaaaW.PrintMore
attribute [local go_sem] max2_int min2_int max_two min_two max_three min_three max_four min_four   -- for this text's walks alone
set_option linter.unusedVariables false
set_option linter.unusedSimpArgs false

/-- Kept away from the tactics. -/
structure pacemakerlaw10_SlopeLines_calls_Kept (p : Prop) : Prop where mk :: (out : p)
set_option maxHeartbeats 8000000 in
set_option maxRecDepth 100000 in
noncomputable def pacemakerlaw10_SlopeLines_calls_skel  : Σ' (P0 P1 P2 P3 P4 P5 P6 P7 P8 P9 : Prop), pacemakerlaw10_SlopeLines_calls_Kept P0 → pacemakerlaw10_SlopeLines_calls_Kept P1 → pacemakerlaw10_SlopeLines_calls_Kept P2 → pacemakerlaw10_SlopeLines_calls_Kept P3 → pacemakerlaw10_SlopeLines_calls_Kept P4 → pacemakerlaw10_SlopeLines_calls_Kept P5 → pacemakerlaw10_SlopeLines_calls_Kept P6 → pacemakerlaw10_SlopeLines_calls_Kept P7 → pacemakerlaw10_SlopeLines_calls_Kept P8 → pacemakerlaw10_SlopeLines_calls_Kept P9 → (∀ (k : Nat) (A0 : Option Addr) (c0 : Nat) (l0 : List Int) (a1 : Int) (a2 : Int) (w : World) (hr0 : Kd.C (Kd.int .i64) w A0 l0.length l0) (hc0 : l0.length ≤ c0) (h : pacemakerlaw10_SlopeLines.f k l0 a1 a2 = some true), Calls Try.prog 6 #[.slice A0 l0.length c0, .int .i64 a1, .int .i64 a2] w fun e w' => e = .returned (.bool true) ∧ Below w.heap.size w w') := by
  refine ⟨?P0, ?P1, ?P2, ?P3, ?P4, ?P5, ?P6, ?P7, ?P8, ?P9, fun hP0 hP1 hP2 hP3 hP4 hP5 hP6 hP7 hP8 hP9 k A0 c0 l0 a1 a2 w hr0 hc0 h => ?_⟩
  rotate_left 10
  focus
    have hu36 := Try.underlying36
    have hu29 := Try.underlying29
    have HR0 := Aside0.mk hr0
    have HC0 := Aside0.mk hc0
    clear hr0 hc0
    have HB := Aside0.mk (Below.refl w.heap.size w)
    have H : (if (l0.length : Int) > 100 then (pacemakerlaw10_SlopeLines.j0 k l0 a1 a2 true) else (if a1 < 0 then (pacemakerlaw10_SlopeLines.j0 k l0 a1 a2 true) else (if a1 > 1000000 then (pacemakerlaw10_SlopeLines.j0 k l0 a1 a2 true) else (if a2 < 0 then (pacemakerlaw10_SlopeLines.j0 k l0 a1 a2 true) else (pacemakerlaw10_SlopeLines.j0 k l0 a1 a2 (decide (a2 > 50))))))) = some true := h
    clear h
    have HC4 := Aside0.mk H
    clear H
    go_enter Try.func6, Try.ntmps6
    go_upto_region 1 with (fail)
    go_cut [34] (fun v34 wc => ∃ (kq : Nat) (x34_3 : Bool), v34 = .bool x34_3 ∧ Aside0 (pacemakerlaw10_SlopeLines.j0 kq l0 a1 a2 x34_3 = some true) ∧ Aside0 (kq ≤ k) ∧ Aside0 (Below w.heap.size w wc))
    case first =>
      have H := HC4.out
      clear HC4
      by_cases c5 : (l0.length : Int) > 100
      · rename_i z0_ z1_ z2_ z3_ z4_ z5_ z6_ z7_ z8_
        revert k A0 c0 l0 a1 a2 w hu36 hu29 HR0 HC0 HB z0_ z1_ z2_ z3_ z4_ z5_ z6_ z7_ z8_ H c5
        exact hP0.out
      · rename_i z0_ z1_ z2_ z3_ z4_ z5_ z6_ z7_ z8_
        revert k A0 c0 l0 a1 a2 w hu36 hu29 HR0 HC0 HB z0_ z1_ z2_ z3_ z4_ z5_ z6_ z7_ z8_ H c5
        exact hP1.out
    case rest =>
      clear HC4
      try clear p2
      try clear c5
      try clear c5b0
      try clear c5b1
      try clear c6
      try clear c6b0
      try clear c7
      try clear c7b0
      try clear c8
      try clear c8b0
      obtain ⟨kq, x34_3, rfl, HA, HJ3, HB⟩ := hcut
      cases kq with
      | zero => exact absurd HA.out (by simp [pacemakerlaw10_SlopeLines.j0])
      | succ kj3 =>
        have H := HA.out
        clear HA
        simp only [pacemakerlaw10_SlopeLines.j0] at H
        by_cases c9 : x34_3 = true
        · rename_i z0_ z1_ z2_ z3_ z4_ z5_
          revert k A0 c0 l0 a1 a2 w hu36 hu29 HR0 HC0 z0_ z1_ z2_ z3_ z4_ z5_ wc u16 u17 u18 u19 u20 u21 u22 u23 u24 u25 u26 u27 u28 u29 u30 u31 u32 u33 u35 u36 u37 u38 u39 u40 u41 u42 u43 u44 u45 u46 u47 u48 u49 u50 u51 u52 u53 u54 u55 u56 u57 u58 u59 u60 u61 u62 u63 u64 u65 u66 u67 u68 u69 u70 u71 u72 u73 u74 u75 u76 u77 u78 u79 u80 u81 u82 u83 u84 u85 u86 u87 u88 u89 u90 u91 u92 u93 u94 u95 u96 u97 u98 u99 u100 u101 u102 u103 u104 u105 u106 u107 u108 u109 u110 u111 u112 u113 u114 u115 u116 u117 u118 u119 u120 u121 u122 u123 u124 u125 u126 u127 u128 u129 u130 u131 u132 u133 u134 u135 u136 u137 u138 u139 u140 u141 u142 u143 u144 x34_3 HB kj3 HJ3 H c9
          exact hP2.out
        · replace c9 := Bool.eq_false_iff.mpr c9
          subst c9
          have H1 : (pacemakerlaw10_SlopeLines.l0 kj3 l0 a1 a2 ([] : List (S36)) ([] : List (S36)) false 0) = some true := by rw [if_neg (show ¬ (false = true) by decide)] at H; exact H
          clear H
          have H := H1
          clear H1
          have H' := Aside0.mk H
          clear H
          go_wp2
          go_loopg [7, 8, 9, 10] kj3 (fun kq v7 v8 v9 v10 w' => ∃ (x7_2 : List (S36)) (x8_2 : List (S36)) (x9_2 : Bool) (x10_2 : Int), v9 = .bool x9_2 ∧ v10 = .int .i64 x10_2 ∧ Aside0 (pacemakerlaw10_SlopeLines.l0 kq l0 a1 a2 x7_2 x8_2 x9_2 x10_2 = some true) ∧ Aside0 (kq ≤ kj3) ∧ Aside0 (Kd.R k36 36 w' w.heap.size (fun k_ => some k_ ≠ (v8 : Value).ownBlock) v7 x7_2) ∧ Aside0 (Kd.R k36 36 w' w.heap.size (fun k_ => some k_ ≠ (v7 : Value).ownBlock) v8 x8_2) ∧ Aside0 (Below w.heap.size w w'))
          case atStart => exact ⟨(([] : List (S36))), (([] : List (S36))), (false), (0), (by first | rfl | (simp; done) | (simp [*]; done)), (by first | rfl | (simp; done) | (simp [*]; done)), H', ⟨Nat.le_refl _⟩, ⟨by first | exact Kd.R_nil _ _ _ _ _ | exact Kd.N_nil _ _ _ _ _ | exact Kd.V_nil _ _ _ _ _ | exact Kd.Q_nil _ _ _ _ _ | exact Kd.S_nil _ _ _ _ _⟩, ⟨by first | exact Kd.R_nil _ _ _ _ _ | exact Kd.N_nil _ _ _ _ _ | exact Kd.V_nil _ _ _ _ _ | exact Kd.Q_nil _ _ _ _ _ | exact Kd.S_nil _ _ _ _ _⟩, ⟨by repeat (first | (with_reducible first | exact HB.out | apply below_alloc | apply pw_below_drewN | apply below_drew1) | exact HB.out)⟩⟩
          case round =>
            clear H'
            try clear p2
            try clear c5
            try clear c5b0
            try clear c5b1
            try clear c6
            try clear c6b0
            try clear c7
            try clear c7b0
            try clear c8
            try clear c8b0
            try clear c9
            try clear p2
            obtain ⟨x7_2, x8_2, x9_2, x10_2, rfl, rfl, HA, HK2, HO_7, HO_8, HB⟩ := hrel
            cases gk with
            | zero => exact absurd HA.out (by simp [pacemakerlaw10_SlopeLines.l0])
            | succ k2 =>
              have H := HA.out
              clear HA
              simp only [pacemakerlaw10_SlopeLines.l0] at H
              by_cases c12 : x10_2 < (l0.length : Int)
              · rename_i z0_ z1_ z2_ z3_ z4_ z5_ z6_ z7_ z8_ z9_ z10_ z11_ z12_ z13_ z14_ z15_ z16_ z17_ z18_ z19_ z20_ z21_ z22_ z23_ z24_ z25_ z26_ z27_ z28_ z29_ z30_ z31_ z32_ z33_ z34_ z35_ z36_ z37_ z38_ z39_ z40_ z41_ z42_ z43_ z44_ z45_ z46_ z47_ z48_ z49_ z50_ z51_ z52_ z53_ z54_ z55_ z56_ z57_ z58_ z59_ z60_ z61_ z62_ z63_
                revert k A0 c0 l0 a1 a2 w hu36 hu29 HR0 HC0 z0_ z1_ wc u16 u17 u18 u19 u20 u21 u22 u23 u24 u25 u26 u27 u28 u29 u30 u31 u32 u33 u35 z2_ z3_ z4_ z5_ z6_ z7_ z8_ z9_ z10_ z11_ z12_ z13_ z14_ z15_ z16_ z17_ z18_ z19_ z20_ z21_ z22_ z23_ z24_ z25_ z26_ z27_ z28_ z29_ z30_ z31_ z32_ z33_ z34_ z35_ z36_ z37_ z38_ z39_ z40_ z41_ z42_ z43_ z44_ z45_ z46_ z47_ z48_ z49_ z50_ z51_ z52_ z53_ z54_ z55_ z56_ u91 u92 u93 u94 u95 u96 u97 u98 u99 u100 u101 u102 u103 u104 u105 u106 u107 u108 u109 u110 u111 u112 u113 u114 u115 u116 u117 u118 u119 u120 u121 u122 u123 u124 u125 u126 u127 u128 u129 u130 u131 u132 u133 u134 u135 u136 u137 u138 u139 u140 u141 u142 u143 u144 z57_ kj3 HJ3 z58_ z59_ wr u6 u7 u8 u36 u37 u38 u39 u40 u41 u42 u43 u44 u45 u46 u47 u48 u49 u50 u51 u52 u53 u54 u55 u56 u57 u58 u59 u60 u61 u62 u63 u64 u65 u66 u67 u68 u69 u70 u71 u72 u73 u74 u75 u76 u77 u78 u79 u80 u81 u82 u83 u84 u85 u86 u87 u88 u89 u90 z60_ z61_ z62_ x7_2 x8_2 x9_2 x10_2 HO_7 HO_8 HB k2 z63_ HK2 H c12
                exact hP3.out
              · rw [if_neg c12] at H
                have c12b0 : decide (x10_2 < (l0.length : Int)) = false := decide_eq_false c12
                clear c12
                replace H := Option.bind_eq_some_iff.mp H
                obtain ⟨⟨t307, t308, t309, t310, t311, t312, t313, t314, t315, t316, t317, t318, t319, t320, t321, t322⟩, A340, H⟩ := H
                replace H : ((pacemakerlaw10_sampled.f x8_2).bind fun bt324 => (if t322 = true then (if bt324.2.2.2.2.2.2.2.2.2.2.2.2.2.2.2 = true then (pacemakerlaw10_SlopeLines.j2 k2 l0 a1 a2 x9_2 ((l0.length : Int) == 0) t307 t308 t309 t310 t311 t312 t313 t314 t315 t316 t317 t318 t319 t320 t321 bt324.1 bt324.2.1 bt324.2.2.1 bt324.2.2.2.1 bt324.2.2.2.2.1 bt324.2.2.2.2.2.1 bt324.2.2.2.2.2.2.1 bt324.2.2.2.2.2.2.2.1 bt324.2.2.2.2.2.2.2.2.1 bt324.2.2.2.2.2.2.2.2.2.1 bt324.2.2.2.2.2.2.2.2.2.2.1 bt324.2.2.2.2.2.2.2.2.2.2.2.1 bt324.2.2.2.2.2.2.2.2.2.2.2.2.1 bt324.2.2.2.2.2.2.2.2.2.2.2.2.2.1 bt324.2.2.2.2.2.2.2.2.2.2.2.2.2.2.1) else (pacemakerlaw10_SlopeLines.j2 k2 l0 a1 a2 x9_2 true t307 t308 t309 t310 t311 t312 t313 t314 t315 t316 t317 t318 t319 t320 t321 bt324.1 bt324.2.1 bt324.2.2.1 bt324.2.2.2.1 bt324.2.2.2.2.1 bt324.2.2.2.2.2.1 bt324.2.2.2.2.2.2.1 bt324.2.2.2.2.2.2.2.1 bt324.2.2.2.2.2.2.2.2.1 bt324.2.2.2.2.2.2.2.2.2.1 bt324.2.2.2.2.2.2.2.2.2.2.1 bt324.2.2.2.2.2.2.2.2.2.2.2.1 bt324.2.2.2.2.2.2.2.2.2.2.2.2.1 bt324.2.2.2.2.2.2.2.2.2.2.2.2.2.1 bt324.2.2.2.2.2.2.2.2.2.2.2.2.2.2.1)) else (pacemakerlaw10_SlopeLines.j2 k2 l0 a1 a2 x9_2 true t307 t308 t309 t310 t311 t312 t313 t314 t315 t316 t317 t318 t319 t320 t321 bt324.1 bt324.2.1 bt324.2.2.1 bt324.2.2.2.1 bt324.2.2.2.2.1 bt324.2.2.2.2.2.1 bt324.2.2.2.2.2.2.1 bt324.2.2.2.2.2.2.2.1 bt324.2.2.2.2.2.2.2.2.1 bt324.2.2.2.2.2.2.2.2.2.1 bt324.2.2.2.2.2.2.2.2.2.2.1 bt324.2.2.2.2.2.2.2.2.2.2.2.1 bt324.2.2.2.2.2.2.2.2.2.2.2.2.1 bt324.2.2.2.2.2.2.2.2.2.2.2.2.2.1 bt324.2.2.2.2.2.2.2.2.2.2.2.2.2.2.1))) = some true := H
                have A34 := Aside0.mk A340
                clear A340
                replace H := Option.bind_eq_some_iff.mp H
                obtain ⟨⟨t324, t325, t326, t327, t328, t329, t330, t331, t332, t333, t334, t335, t336, t337, t338, t339⟩, A350, H⟩ := H
                replace H : (if t322 = true then (if t339 = true then (pacemakerlaw10_SlopeLines.j2 k2 l0 a1 a2 x9_2 ((l0.length : Int) == 0) t307 t308 t309 t310 t311 t312 t313 t314 t315 t316 t317 t318 t319 t320 t321 t324 t325 t326 t327 t328 t329 t330 t331 t332 t333 t334 t335 t336 t337 t338) else (pacemakerlaw10_SlopeLines.j2 k2 l0 a1 a2 x9_2 true t307 t308 t309 t310 t311 t312 t313 t314 t315 t316 t317 t318 t319 t320 t321 t324 t325 t326 t327 t328 t329 t330 t331 t332 t333 t334 t335 t336 t337 t338)) else (pacemakerlaw10_SlopeLines.j2 k2 l0 a1 a2 x9_2 true t307 t308 t309 t310 t311 t312 t313 t314 t315 t316 t317 t318 t319 t320 t321 t324 t325 t326 t327 t328 t329 t330 t331 t332 t333 t334 t335 t336 t337 t338)) = some true := H
                have A35 := Aside0.mk A350
                clear A350
                have HC36 := Aside0.mk H
                clear H
                obtain ⟨Ao37, co37, eo37⟩ := Kd.R_slice HO_7.out
                subst eo37
                go_upto_region 16 with (first | ((with_reducible refine gate_callee (f := 18) rfl ?_); refine goesL_ (some 93) rfl rfl Try.func18 (by kernel_rfl) rfl #[.slice Ao37 x7_2.length co37] rfl (by (try simp only [List.map_toArray, List.map_cons, List.map_nil]); first | done | rfl | (simp only [List.length_drop, List.length_take]; rfl)) ?_; (with_reducible refine (pacemakerlaw10_sampled.calls _ _ x7_2 t307 t308 t309 t310 t311 t312 t313 t314 t315 t316 t317 t318 t319 t320 t321 t322 _ ?side1 ?side2 A34.out).mono ?_); (case side1 => repeat (first | exact (Kd.R_reads' HO_7.out).2.2 | (with_reducible refine Kd.C_alloc ?_ _) | (with_reducible refine Kd.C_drewN ?_ _) | (with_reducible refine Kd.C_drew ?_))); (case side2 => exact (Kd.R_reads' HO_7.out).2.1); rintro e w38 ⟨rfl, hb⟩; refine ⟨_, rfl, ?_⟩; have n0_ := Aside0.mk (Kd.R_below (by (with_reducible repeat (first | apply Kd.R_alloc | apply Kd.R_drewN | apply Kd.R_drew)); exact HO_7.out) hb); have n1_ := Aside0.mk (Kd.R_below (by (with_reducible repeat (first | apply Kd.R_alloc | apply Kd.R_drewN | apply Kd.R_drew)); exact HO_8.out) hb); have n2_ := Aside0.mk (below_step (by repeat (first | (with_reducible first | exact HB.out | apply below_alloc | apply pw_below_drewN | apply below_drew1) | exact HB.out)) hb); clear HO_7; clear HO_8; clear HB; have HO_7 := n0_; have HO_8 := n1_; have HB := n2_; clear n0_ n1_ n2_; (try clear hb); (try clear hb2); (try clear hk); (try clear hi)) | ((with_reducible refine gate_dst (N := 11) rfl ?_); (try (refine gate_guard (by rfl) ?_; dsimp only)); refine box_event ?hg (N := 11) ?hd (cs := #[.int .i64 0, .int .i64 0, .int .i64 0, .int .i64 0, .int .i64 0, .int .i64 0, .int .i64 0, .int .i64 0, .int .i64 0, .int .i64 0, .int .i64 0, .int .i64 0, .int .i64 0, .int .i64 0, .int .i64 0]) (t := 29) ?hr ?_; (case hd => rfl); (case hg => rfl); (case hr => first | (go_simp; done) | (go_simp; rfl)); intro gb323 hg w39 hbox hb; have n0_ := Aside0.mk (Kd.R_below (by (with_reducible repeat (first | apply Kd.R_alloc | apply Kd.R_drewN | apply Kd.R_drew)); exact HO_7.out) hb); have n1_ := Aside0.mk (Kd.R_below (by (with_reducible repeat (first | apply Kd.R_alloc | apply Kd.R_drewN | apply Kd.R_drew)); exact HO_8.out) hb); have n2_ := Aside0.mk (below_step (by repeat (first | (with_reducible first | exact HB.out | apply below_alloc | apply pw_below_drewN | apply below_drew1) | exact HB.out)) hb); have n3_ := Aside0.mk (hbox); have n4_ := Aside0.mk ((by rw [hg]; exact (below_size (by repeat (first | (with_reducible first | exact HB.out | apply below_alloc | apply pw_below_drewN | apply below_drew1) | exact HB.out))) : w.heap.size ≤ gb323)); have n5_ := Aside0.mk ((by rw [hg]; exact (below_size (by repeat (first | (with_reducible first | exact HB.out | apply below_alloc | apply pw_below_drewN | apply below_drew1) | exact HB.out))) : w.heap.size ≤ gb323)); clear HO_7; clear HO_8; clear HB; have HO_7 := n0_; have HO_8 := n1_; have HB := n2_; have BK323 := n3_; have GW323 := n4_; have GE323 := n5_; clear n0_ n1_ n2_ n3_ n4_ n5_; clear hb hbox hg; have hcz40_0 : w39.cell? ⟨gb323, 0, none⟩ = some (.int .i64 0) := (blk_cell BK323.out 0).trans rfl; have hcz40_1 : w39.cell? ⟨gb323, 1, none⟩ = some (.int .i64 0) := (blk_cell BK323.out 1).trans rfl; have hcz40_2 : w39.cell? ⟨gb323, 2, none⟩ = some (.int .i64 0) := (blk_cell BK323.out 2).trans rfl; have hcz40_3 : w39.cell? ⟨gb323, 3, none⟩ = some (.int .i64 0) := (blk_cell BK323.out 3).trans rfl; have hcz40_4 : w39.cell? ⟨gb323, 4, none⟩ = some (.int .i64 0) := (blk_cell BK323.out 4).trans rfl; have hcz40_5 : w39.cell? ⟨gb323, 5, none⟩ = some (.int .i64 0) := (blk_cell BK323.out 5).trans rfl; have hcz40_6 : w39.cell? ⟨gb323, 6, none⟩ = some (.int .i64 0) := (blk_cell BK323.out 6).trans rfl; have hcz40_7 : w39.cell? ⟨gb323, 7, none⟩ = some (.int .i64 0) := (blk_cell BK323.out 7).trans rfl; have hcz40_8 : w39.cell? ⟨gb323, 8, none⟩ = some (.int .i64 0) := (blk_cell BK323.out 8).trans rfl; have hcz40_9 : w39.cell? ⟨gb323, 9, none⟩ = some (.int .i64 0) := (blk_cell BK323.out 9).trans rfl; have hcz40_10 : w39.cell? ⟨gb323, 10, none⟩ = some (.int .i64 0) := (blk_cell BK323.out 10).trans rfl; have hcz40_11 : w39.cell? ⟨gb323, 11, none⟩ = some (.int .i64 0) := (blk_cell BK323.out 11).trans rfl; have hcz40_12 : w39.cell? ⟨gb323, 12, none⟩ = some (.int .i64 0) := (blk_cell BK323.out 12).trans rfl; have hcz40_13 : w39.cell? ⟨gb323, 13, none⟩ = some (.int .i64 0) := (blk_cell BK323.out 13).trans rfl; have hcz40_14 : w39.cell? ⟨gb323, 14, none⟩ = some (.int .i64 0) := (blk_cell BK323.out 14).trans rfl; have hfz40_0 := blk_frozen BK323.out 0; have hfz40_1 := blk_frozen BK323.out 1; have hfz40_2 := blk_frozen BK323.out 2; have hfz40_3 := blk_frozen BK323.out 3; have hfz40_4 := blk_frozen BK323.out 4; have hfz40_5 := blk_frozen BK323.out 5; have hfz40_6 := blk_frozen BK323.out 6; have hfz40_7 := blk_frozen BK323.out 7; have hfz40_8 := blk_frozen BK323.out 8; have hfz40_9 := blk_frozen BK323.out 9; have hfz40_10 := blk_frozen BK323.out 10; have hfz40_11 := blk_frozen BK323.out 11; have hfz40_12 := blk_frozen BK323.out 12; have hfz40_13 := blk_frozen BK323.out 13; have hfz40_14 := blk_frozen BK323.out 14; obtain ⟨Ao41, co41, eo41⟩ := Kd.R_slice HO_8.out; subst eo41) | ((with_reducible refine gate_callee (f := 18) rfl ?_); refine goesL_ (some 98) rfl rfl Try.func18 (by kernel_rfl) rfl #[.slice Ao41 x8_2.length co41] rfl (by (try simp only [List.map_toArray, List.map_cons, List.map_nil]); first | done | rfl | (simp only [List.length_drop, List.length_take]; rfl)) ?_; (with_reducible refine (pacemakerlaw10_sampled.calls _ _ x8_2 t324 t325 t326 t327 t328 t329 t330 t331 t332 t333 t334 t335 t336 t337 t338 t339 _ ?side1 ?side2 A35.out).mono ?_); (case side1 => refine (Kd.R_reads' (e := 36) (base := w.heap.size) (ok := fun k_ => some k_ ≠ (.slice Ao37 x7_2.length co37 : Value).ownBlock) (n := x8_2.length) (c := co41) ?_).2.2; exact (by (with_reducible repeat (first | apply Kd.R_alloc | apply Kd.R_drewN | apply Kd.R_drew)); exact (Kd.R_mono (Kd.R_far (p := ⟨gb323, 14, none⟩) (Kd.R_far (p := ⟨gb323, 13, none⟩) (Kd.R_far (p := ⟨gb323, 12, none⟩) (Kd.R_far (p := ⟨gb323, 11, none⟩) (Kd.R_far (p := ⟨gb323, 10, none⟩) (Kd.R_far (p := ⟨gb323, 9, none⟩) (Kd.R_far (p := ⟨gb323, 8, none⟩) (Kd.R_far (p := ⟨gb323, 7, none⟩) (Kd.R_far (p := ⟨gb323, 6, none⟩) (Kd.R_far (p := ⟨gb323, 5, none⟩) (Kd.R_far (p := ⟨gb323, 4, none⟩) (Kd.R_far (p := ⟨gb323, 3, none⟩) (Kd.R_far (p := ⟨gb323, 2, none⟩) (Kd.R_far (p := ⟨gb323, 1, none⟩) (Kd.R_far (p := ⟨gb323, 0, none⟩) (Kd.R_types HO_8.out BK323.out (by decide)) (fun _ hk => hk.2) (.int .i64 t307)) (fun _ hk => hk.2) (.int .i64 t308)) (fun _ hk => hk.2) (.int .i64 t309)) (fun _ hk => hk.2) (.int .i64 t310)) (fun _ hk => hk.2) (.int .i64 t311)) (fun _ hk => hk.2) (.int .i64 t312)) (fun _ hk => hk.2) (.int .i64 t313)) (fun _ hk => hk.2) (.int .i64 t314)) (fun _ hk => hk.2) (.int .i64 t315)) (fun _ hk => hk.2) (.int .i64 t316)) (fun _ hk => hk.2) (.int .i64 t317)) (fun _ hk => hk.2) (.int .i64 t318)) (fun _ hk => hk.2) (.int .i64 t319)) (fun _ hk => hk.2) (.int .i64 t320)) (fun _ hk => hk.2) (.int .i64 t321)) (fun _ h_ => h_.1)))); (case side2 => exact (Kd.R_reads' HO_8.out).2.1); rintro e w42 ⟨rfl, hb⟩; refine ⟨_, rfl, ?_⟩; have n0_ := Aside0.mk (Kd.R_below (by (with_reducible repeat (first | apply Kd.R_alloc | apply Kd.R_drewN | apply Kd.R_drew)); exact (Kd.R_mono (Kd.R_far (p := ⟨gb323, 14, none⟩) (Kd.R_far (p := ⟨gb323, 13, none⟩) (Kd.R_far (p := ⟨gb323, 12, none⟩) (Kd.R_far (p := ⟨gb323, 11, none⟩) (Kd.R_far (p := ⟨gb323, 10, none⟩) (Kd.R_far (p := ⟨gb323, 9, none⟩) (Kd.R_far (p := ⟨gb323, 8, none⟩) (Kd.R_far (p := ⟨gb323, 7, none⟩) (Kd.R_far (p := ⟨gb323, 6, none⟩) (Kd.R_far (p := ⟨gb323, 5, none⟩) (Kd.R_far (p := ⟨gb323, 4, none⟩) (Kd.R_far (p := ⟨gb323, 3, none⟩) (Kd.R_far (p := ⟨gb323, 2, none⟩) (Kd.R_far (p := ⟨gb323, 1, none⟩) (Kd.R_far (p := ⟨gb323, 0, none⟩) (Kd.R_types HO_7.out BK323.out (by decide)) (fun _ hk => hk.2) (.int .i64 t307)) (fun _ hk => hk.2) (.int .i64 t308)) (fun _ hk => hk.2) (.int .i64 t309)) (fun _ hk => hk.2) (.int .i64 t310)) (fun _ hk => hk.2) (.int .i64 t311)) (fun _ hk => hk.2) (.int .i64 t312)) (fun _ hk => hk.2) (.int .i64 t313)) (fun _ hk => hk.2) (.int .i64 t314)) (fun _ hk => hk.2) (.int .i64 t315)) (fun _ hk => hk.2) (.int .i64 t316)) (fun _ hk => hk.2) (.int .i64 t317)) (fun _ hk => hk.2) (.int .i64 t318)) (fun _ hk => hk.2) (.int .i64 t319)) (fun _ hk => hk.2) (.int .i64 t320)) (fun _ hk => hk.2) (.int .i64 t321)) (fun _ h_ => h_.1))) hb); have n1_ := Aside0.mk (Kd.R_below (by (with_reducible repeat (first | apply Kd.R_alloc | apply Kd.R_drewN | apply Kd.R_drew)); exact (Kd.R_mono (Kd.R_far (p := ⟨gb323, 14, none⟩) (Kd.R_far (p := ⟨gb323, 13, none⟩) (Kd.R_far (p := ⟨gb323, 12, none⟩) (Kd.R_far (p := ⟨gb323, 11, none⟩) (Kd.R_far (p := ⟨gb323, 10, none⟩) (Kd.R_far (p := ⟨gb323, 9, none⟩) (Kd.R_far (p := ⟨gb323, 8, none⟩) (Kd.R_far (p := ⟨gb323, 7, none⟩) (Kd.R_far (p := ⟨gb323, 6, none⟩) (Kd.R_far (p := ⟨gb323, 5, none⟩) (Kd.R_far (p := ⟨gb323, 4, none⟩) (Kd.R_far (p := ⟨gb323, 3, none⟩) (Kd.R_far (p := ⟨gb323, 2, none⟩) (Kd.R_far (p := ⟨gb323, 1, none⟩) (Kd.R_far (p := ⟨gb323, 0, none⟩) (Kd.R_types HO_8.out BK323.out (by decide)) (fun _ hk => hk.2) (.int .i64 t307)) (fun _ hk => hk.2) (.int .i64 t308)) (fun _ hk => hk.2) (.int .i64 t309)) (fun _ hk => hk.2) (.int .i64 t310)) (fun _ hk => hk.2) (.int .i64 t311)) (fun _ hk => hk.2) (.int .i64 t312)) (fun _ hk => hk.2) (.int .i64 t313)) (fun _ hk => hk.2) (.int .i64 t314)) (fun _ hk => hk.2) (.int .i64 t315)) (fun _ hk => hk.2) (.int .i64 t316)) (fun _ hk => hk.2) (.int .i64 t317)) (fun _ hk => hk.2) (.int .i64 t318)) (fun _ hk => hk.2) (.int .i64 t319)) (fun _ hk => hk.2) (.int .i64 t320)) (fun _ hk => hk.2) (.int .i64 t321)) (fun _ h_ => h_.1))) hb); have n2_ := Aside0.mk (blk_below (g := gb323) (o := .cells #[.int .i64 t307, .int .i64 t308, .int .i64 t309, .int .i64 t310, .int .i64 t311, .int .i64 t312, .int .i64 t313, .int .i64 t314, .int .i64 t315, .int .i64 t316, .int .i64 t317, .int .i64 t318, .int .i64 t319, .int .i64 t320, .int .i64 t321] 29 (0, 0)) (by (with_reducible repeat (first | refine blk_drewN ?_ _ | refine blk_drew ?_ | refine blk_alloc ?_ _)); refine blk_put (cs := #[.int .i64 t307, .int .i64 t308, .int .i64 t309, .int .i64 t310, .int .i64 t311, .int .i64 t312, .int .i64 t313, .int .i64 t314, .int .i64 t315, .int .i64 t316, .int .i64 t317, .int .i64 t318, .int .i64 t319, .int .i64 t320, .int .i64 0]) ?_ 14 _ rfl; (with_reducible repeat (first | refine blk_drewN ?_ _ | refine blk_drew ?_ | refine blk_alloc ?_ _)); refine blk_put (cs := #[.int .i64 t307, .int .i64 t308, .int .i64 t309, .int .i64 t310, .int .i64 t311, .int .i64 t312, .int .i64 t313, .int .i64 t314, .int .i64 t315, .int .i64 t316, .int .i64 t317, .int .i64 t318, .int .i64 t319, .int .i64 0, .int .i64 0]) ?_ 13 _ rfl; (with_reducible repeat (first | refine blk_drewN ?_ _ | refine blk_drew ?_ | refine blk_alloc ?_ _)); refine blk_put (cs := #[.int .i64 t307, .int .i64 t308, .int .i64 t309, .int .i64 t310, .int .i64 t311, .int .i64 t312, .int .i64 t313, .int .i64 t314, .int .i64 t315, .int .i64 t316, .int .i64 t317, .int .i64 t318, .int .i64 0, .int .i64 0, .int .i64 0]) ?_ 12 _ rfl; (with_reducible repeat (first | refine blk_drewN ?_ _ | refine blk_drew ?_ | refine blk_alloc ?_ _)); refine blk_put (cs := #[.int .i64 t307, .int .i64 t308, .int .i64 t309, .int .i64 t310, .int .i64 t311, .int .i64 t312, .int .i64 t313, .int .i64 t314, .int .i64 t315, .int .i64 t316, .int .i64 t317, .int .i64 0, .int .i64 0, .int .i64 0, .int .i64 0]) ?_ 11 _ rfl; (with_reducible repeat (first | refine blk_drewN ?_ _ | refine blk_drew ?_ | refine blk_alloc ?_ _)); refine blk_put (cs := #[.int .i64 t307, .int .i64 t308, .int .i64 t309, .int .i64 t310, .int .i64 t311, .int .i64 t312, .int .i64 t313, .int .i64 t314, .int .i64 t315, .int .i64 t316, .int .i64 0, .int .i64 0, .int .i64 0, .int .i64 0, .int .i64 0]) ?_ 10 _ rfl; (with_reducible repeat (first | refine blk_drewN ?_ _ | refine blk_drew ?_ | refine blk_alloc ?_ _)); refine blk_put (cs := #[.int .i64 t307, .int .i64 t308, .int .i64 t309, .int .i64 t310, .int .i64 t311, .int .i64 t312, .int .i64 t313, .int .i64 t314, .int .i64 t315, .int .i64 0, .int .i64 0, .int .i64 0, .int .i64 0, .int .i64 0, .int .i64 0]) ?_ 9 _ rfl; (with_reducible repeat (first | refine blk_drewN ?_ _ | refine blk_drew ?_ | refine blk_alloc ?_ _)); refine blk_put (cs := #[.int .i64 t307, .int .i64 t308, .int .i64 t309, .int .i64 t310, .int .i64 t311, .int .i64 t312, .int .i64 t313, .int .i64 t314, .int .i64 0, .int .i64 0, .int .i64 0, .int .i64 0, .int .i64 0, .int .i64 0, .int .i64 0]) ?_ 8 _ rfl; (with_reducible repeat (first | refine blk_drewN ?_ _ | refine blk_drew ?_ | refine blk_alloc ?_ _)); refine blk_put (cs := #[.int .i64 t307, .int .i64 t308, .int .i64 t309, .int .i64 t310, .int .i64 t311, .int .i64 t312, .int .i64 t313, .int .i64 0, .int .i64 0, .int .i64 0, .int .i64 0, .int .i64 0, .int .i64 0, .int .i64 0, .int .i64 0]) ?_ 7 _ rfl; (with_reducible repeat (first | refine blk_drewN ?_ _ | refine blk_drew ?_ | refine blk_alloc ?_ _)); refine blk_put (cs := #[.int .i64 t307, .int .i64 t308, .int .i64 t309, .int .i64 t310, .int .i64 t311, .int .i64 t312, .int .i64 0, .int .i64 0, .int .i64 0, .int .i64 0, .int .i64 0, .int .i64 0, .int .i64 0, .int .i64 0, .int .i64 0]) ?_ 6 _ rfl; (with_reducible repeat (first | refine blk_drewN ?_ _ | refine blk_drew ?_ | refine blk_alloc ?_ _)); refine blk_put (cs := #[.int .i64 t307, .int .i64 t308, .int .i64 t309, .int .i64 t310, .int .i64 t311, .int .i64 0, .int .i64 0, .int .i64 0, .int .i64 0, .int .i64 0, .int .i64 0, .int .i64 0, .int .i64 0, .int .i64 0, .int .i64 0]) ?_ 5 _ rfl; (with_reducible repeat (first | refine blk_drewN ?_ _ | refine blk_drew ?_ | refine blk_alloc ?_ _)); refine blk_put (cs := #[.int .i64 t307, .int .i64 t308, .int .i64 t309, .int .i64 t310, .int .i64 0, .int .i64 0, .int .i64 0, .int .i64 0, .int .i64 0, .int .i64 0, .int .i64 0, .int .i64 0, .int .i64 0, .int .i64 0, .int .i64 0]) ?_ 4 _ rfl; (with_reducible repeat (first | refine blk_drewN ?_ _ | refine blk_drew ?_ | refine blk_alloc ?_ _)); refine blk_put (cs := #[.int .i64 t307, .int .i64 t308, .int .i64 t309, .int .i64 0, .int .i64 0, .int .i64 0, .int .i64 0, .int .i64 0, .int .i64 0, .int .i64 0, .int .i64 0, .int .i64 0, .int .i64 0, .int .i64 0, .int .i64 0]) ?_ 3 _ rfl; (with_reducible repeat (first | refine blk_drewN ?_ _ | refine blk_drew ?_ | refine blk_alloc ?_ _)); refine blk_put (cs := #[.int .i64 t307, .int .i64 t308, .int .i64 0, .int .i64 0, .int .i64 0, .int .i64 0, .int .i64 0, .int .i64 0, .int .i64 0, .int .i64 0, .int .i64 0, .int .i64 0, .int .i64 0, .int .i64 0, .int .i64 0]) ?_ 2 _ rfl; (with_reducible repeat (first | refine blk_drewN ?_ _ | refine blk_drew ?_ | refine blk_alloc ?_ _)); refine blk_put (cs := #[.int .i64 t307, .int .i64 0, .int .i64 0, .int .i64 0, .int .i64 0, .int .i64 0, .int .i64 0, .int .i64 0, .int .i64 0, .int .i64 0, .int .i64 0, .int .i64 0, .int .i64 0, .int .i64 0, .int .i64 0]) ?_ 1 _ rfl; (with_reducible repeat (first | refine blk_drewN ?_ _ | refine blk_drew ?_ | refine blk_alloc ?_ _)); refine blk_put (cs := #[.int .i64 0, .int .i64 0, .int .i64 0, .int .i64 0, .int .i64 0, .int .i64 0, .int .i64 0, .int .i64 0, .int .i64 0, .int .i64 0, .int .i64 0, .int .i64 0, .int .i64 0, .int .i64 0, .int .i64 0]) ?_ 0 _ rfl; (with_reducible repeat (first | refine blk_drewN ?_ _ | refine blk_drew ?_ | refine blk_alloc ?_ _)); exact BK323.out) hb); have n3_ := Aside0.mk (below_step (by repeat (first | (with_reducible first | exact HB.out | apply below_alloc | apply pw_below_drewN | apply below_drew1 | refine below_set ?_ GE323.out) | exact HB.out)) hb); clear HO_7; clear HO_8; clear BK323; clear HB; have HO_7 := n0_; have HO_8 := n1_; have BK323 := n2_; have HB := n3_; clear n0_ n1_ n2_ n3_; (try clear hb); (try clear hb2); (try clear hk); (try clear hi)) | ((with_reducible refine gate_dst (N := 13) rfl ?_); (try (refine gate_guard (by rfl) ?_; dsimp only)); refine box_event ?hg (N := 13) ?hd (cs := #[.int .i64 0, .int .i64 0, .int .i64 0, .int .i64 0, .int .i64 0, .int .i64 0, .int .i64 0, .int .i64 0, .int .i64 0, .int .i64 0, .int .i64 0, .int .i64 0, .int .i64 0, .int .i64 0, .int .i64 0]) (t := 29) ?hr ?_; (case hd => rfl); (case hg => rfl); (case hr => first | (go_simp; done) | (go_simp; rfl)); intro gb340 hg w43 hbox hb; have n0_ := Aside0.mk (Kd.R_below (by (with_reducible repeat (first | apply Kd.R_alloc | apply Kd.R_drewN | apply Kd.R_drew)); exact HO_7.out) hb); have n1_ := Aside0.mk (Kd.R_below (by (with_reducible repeat (first | apply Kd.R_alloc | apply Kd.R_drewN | apply Kd.R_drew)); exact HO_8.out) hb); have n2_ := Aside0.mk (blk_below (g := gb323) (o := .cells #[.int .i64 t307, .int .i64 t308, .int .i64 t309, .int .i64 t310, .int .i64 t311, .int .i64 t312, .int .i64 t313, .int .i64 t314, .int .i64 t315, .int .i64 t316, .int .i64 t317, .int .i64 t318, .int .i64 t319, .int .i64 t320, .int .i64 t321] 29 (0, 0)) (by (with_reducible repeat (first | refine blk_drewN ?_ _ | refine blk_drew ?_ | refine blk_alloc ?_ _)); exact BK323.out) hb); have n3_ := Aside0.mk (below_step (by repeat (first | (with_reducible first | exact HB.out | apply below_alloc | apply pw_below_drewN | apply below_drew1 | refine below_set ?_ GE323.out) | exact HB.out)) hb); have n4_ := Aside0.mk (hbox); have n5_ := Aside0.mk ((by rw [hg]; exact (below_size (by repeat (first | (with_reducible first | exact HB.out | apply below_alloc | apply pw_below_drewN | apply below_drew1 | refine below_set ?_ GE323.out) | exact HB.out))) : w.heap.size ≤ gb340)); have n6_ := Aside0.mk ((by rw [hg]; exact (below_size (by repeat (first | (with_reducible first | exact HB.out | apply below_alloc | apply pw_below_drewN | apply below_drew1 | refine below_set ?_ GE323.out) | exact HB.out))) : w.heap.size ≤ gb340)); have n7_ := Aside0.mk ((by rw [hg]; exact Nat.ne_of_lt (blk_lt (g := gb323) (o := .cells #[.int .i64 t307, .int .i64 t308, .int .i64 t309, .int .i64 t310, .int .i64 t311, .int .i64 t312, .int .i64 t313, .int .i64 t314, .int .i64 t315, .int .i64 t316, .int .i64 t317, .int .i64 t318, .int .i64 t319, .int .i64 t320, .int .i64 t321] 29 (0, 0)) (by (with_reducible repeat (first | refine blk_drewN ?_ _ | refine blk_drew ?_ | refine blk_alloc ?_ _)); exact BK323.out)) : gb323 ≠ gb340)); have n8_ := Aside0.mk ((by rw [hg]; exact Nat.ne_of_gt (blk_lt (g := gb323) (o := .cells #[.int .i64 t307, .int .i64 t308, .int .i64 t309, .int .i64 t310, .int .i64 t311, .int .i64 t312, .int .i64 t313, .int .i64 t314, .int .i64 t315, .int .i64 t316, .int .i64 t317, .int .i64 t318, .int .i64 t319, .int .i64 t320, .int .i64 t321] 29 (0, 0)) (by (with_reducible repeat (first | refine blk_drewN ?_ _ | refine blk_drew ?_ | refine blk_alloc ?_ _)); exact BK323.out)) : gb340 ≠ gb323)); clear HO_7; clear HO_8; clear BK323; clear HB; have HO_7 := n0_; have HO_8 := n1_; have BK323 := n2_; have HB := n3_; have BK340 := n4_; have GW340 := n5_; have GE340 := n6_; have NB323_340 := n7_; have NB340_323 := n8_; clear n0_ n1_ n2_ n3_ n4_ n5_ n6_ n7_ n8_; clear hb hbox hg; have hnb44 := NB340_323.out; have hnc44 := NB323_340.out; have hcz45_0 : w43.cell? ⟨gb340, 0, none⟩ = some (.int .i64 0) := (blk_cell BK340.out 0).trans rfl; have hcz45_1 : w43.cell? ⟨gb340, 1, none⟩ = some (.int .i64 0) := (blk_cell BK340.out 1).trans rfl; have hcz45_2 : w43.cell? ⟨gb340, 2, none⟩ = some (.int .i64 0) := (blk_cell BK340.out 2).trans rfl; have hcz45_3 : w43.cell? ⟨gb340, 3, none⟩ = some (.int .i64 0) := (blk_cell BK340.out 3).trans rfl; have hcz45_4 : w43.cell? ⟨gb340, 4, none⟩ = some (.int .i64 0) := (blk_cell BK340.out 4).trans rfl; have hcz45_5 : w43.cell? ⟨gb340, 5, none⟩ = some (.int .i64 0) := (blk_cell BK340.out 5).trans rfl; have hcz45_6 : w43.cell? ⟨gb340, 6, none⟩ = some (.int .i64 0) := (blk_cell BK340.out 6).trans rfl; have hcz45_7 : w43.cell? ⟨gb340, 7, none⟩ = some (.int .i64 0) := (blk_cell BK340.out 7).trans rfl; have hcz45_8 : w43.cell? ⟨gb340, 8, none⟩ = some (.int .i64 0) := (blk_cell BK340.out 8).trans rfl; have hcz45_9 : w43.cell? ⟨gb340, 9, none⟩ = some (.int .i64 0) := (blk_cell BK340.out 9).trans rfl; have hcz45_10 : w43.cell? ⟨gb340, 10, none⟩ = some (.int .i64 0) := (blk_cell BK340.out 10).trans rfl; have hcz45_11 : w43.cell? ⟨gb340, 11, none⟩ = some (.int .i64 0) := (blk_cell BK340.out 11).trans rfl; have hcz45_12 : w43.cell? ⟨gb340, 12, none⟩ = some (.int .i64 0) := (blk_cell BK340.out 12).trans rfl; have hcz45_13 : w43.cell? ⟨gb340, 13, none⟩ = some (.int .i64 0) := (blk_cell BK340.out 13).trans rfl; have hcz45_14 : w43.cell? ⟨gb340, 14, none⟩ = some (.int .i64 0) := (blk_cell BK340.out 14).trans rfl; have hfz45_0 := blk_frozen BK340.out 0; have hfz45_1 := blk_frozen BK340.out 1; have hfz45_2 := blk_frozen BK340.out 2; have hfz45_3 := blk_frozen BK340.out 3; have hfz45_4 := blk_frozen BK340.out 4; have hfz45_5 := blk_frozen BK340.out 5; have hfz45_6 := blk_frozen BK340.out 6; have hfz45_7 := blk_frozen BK340.out 7; have hfz45_8 := blk_frozen BK340.out 8; have hfz45_9 := blk_frozen BK340.out 9; have hfz45_10 := blk_frozen BK340.out 10; have hfz45_11 := blk_frozen BK340.out 11; have hfz45_12 := blk_frozen BK340.out 12; have hfz45_13 := blk_frozen BK340.out 13; have hfz45_14 := blk_frozen BK340.out 14))
                (try simp only [Act.put, List.setIfInBounds_toArray, List.set_cons_zero, List.set_cons_succ])
                go_cut [111] (fun v111 wc => ∃ (kq : Nat) (x111_35 : Bool), v111 = .bool x111_35 ∧ Aside0 (pacemakerlaw10_SlopeLines.j2 kq l0 a1 a2 x9_2 x111_35 t307 t308 t309 t310 t311 t312 t313 t314 t315 t316 t317 t318 t319 t320 t321 t324 t325 t326 t327 t328 t329 t330 t331 t332 t333 t334 t335 t336 t337 t338 = some true) ∧ Aside0 (kq ≤ k2) ∧ Aside0 (wc.heap[gb323]? = some (.cells #[.int .i64 t307, .int .i64 t308, .int .i64 t309, .int .i64 t310, .int .i64 t311, .int .i64 t312, .int .i64 t313, .int .i64 t314, .int .i64 t315, .int .i64 t316, .int .i64 t317, .int .i64 t318, .int .i64 t319, .int .i64 t320, .int .i64 t321] 29 (0, 0))) ∧ Aside0 (wc.heap[gb340]? = some (.cells #[.int .i64 t324, .int .i64 t325, .int .i64 t326, .int .i64 t327, .int .i64 t328, .int .i64 t329, .int .i64 t330, .int .i64 t331, .int .i64 t332, .int .i64 t333, .int .i64 t334, .int .i64 t335, .int .i64 t336, .int .i64 t337, .int .i64 t338] 29 (0, 0))) ∧ Aside0 (Below w.heap.size w wc))
                case first =>
                  have H := HC36.out
                  clear HC36
                  by_cases c46 : t322 = true
                  · rename_i z0_ z1_ z2_ z3_ z4_ z5_ z6_ z7_ z8_ z9_ z10_ z11_ z12_ z13_ z14_ z15_ z16_ z17_ z18_ z19_ z20_ z21_ z22_ z23_ z24_ z25_ z26_ z27_ z28_ z29_ z30_ z31_ z32_ z33_ z34_ z35_ z36_ z37_ z38_ z39_ z40_ z41_ z42_ z43_ z44_ z45_ z46_ z47_ z48_ z49_ z50_ z51_ z52_ z53_ z54_ z55_ z56_ z57_ z58_ z59_ z60_ z61_ z62_ z63_ z64_ z65_ z66_ z67_ z68_ z69_ z70_ z71_ z72_
                    revert k A0 c0 l0 a1 a2 w hu36 hu29 HR0 HC0 z0_ z1_ wc u16 u17 u18 u19 u20 u21 u22 u23 u24 u25 u26 u27 u28 u29 u30 u31 u32 u33 u35 z2_ z3_ z4_ z5_ z6_ z7_ z8_ z9_ z10_ z11_ z12_ z13_ z14_ z15_ z16_ z17_ z18_ z19_ z20_ z21_ z22_ z23_ z24_ z25_ z26_ z27_ z28_ z29_ z30_ z31_ z32_ z33_ z34_ z35_ z36_ z37_ z38_ z39_ z40_ z41_ z42_ z43_ z44_ z45_ z46_ z47_ z48_ z49_ z50_ z51_ z52_ z53_ z54_ z55_ z56_ u91 u92 u93 u94 u95 u96 u97 u98 u99 u100 u101 u102 u103 u104 u105 u106 u107 u108 u109 u110 u111 u112 u113 u114 u115 u116 u117 u118 u119 u120 u121 u122 u123 u124 u125 u126 u127 u128 u129 u130 u131 u132 u133 u134 u135 u136 u137 u138 u139 u140 u141 u142 u143 u144 z57_ kj3 HJ3 z58_ wr u6 u36 u37 u38 u39 u40 u41 u42 u43 u44 u45 u46 u47 u48 u49 u50 u51 u52 u53 u54 u55 u56 u57 u58 u59 u60 u61 u62 u63 u64 u65 u66 u67 u68 u69 u70 u71 u72 u73 u74 u75 u76 u77 u78 u79 u80 u81 u82 u83 u84 u85 u86 u87 u88 u89 u90 z59_ z60_ z61_ x7_2 x8_2 x9_2 x10_2 k2 z62_ HK2 c12b0 t307 t308 t309 t310 t311 t312 t313 t314 t315 t316 t317 t318 t319 t320 t321 t322 A34 t324 t325 t326 t327 t328 t329 t330 t331 t332 t333 t334 t335 t336 t337 t338 t339 A35 Ao37 co37 z63_ z64_ w38 gb323 w39 GW323 GE323 hcz40_0 hcz40_1 hcz40_2 hcz40_3 hcz40_4 hcz40_5 hcz40_6 hcz40_7 hcz40_8 hcz40_9 hcz40_10 hcz40_11 hcz40_12 hcz40_13 hcz40_14 hfz40_0 hfz40_1 hfz40_2 hfz40_3 hfz40_4 hfz40_5 hfz40_6 hfz40_7 hfz40_8 hfz40_9 hfz40_10 hfz40_11 hfz40_12 hfz40_13 hfz40_14 Ao41 co41 w42 gb340 w43 HO_7 HO_8 BK323 HB BK340 GW340 GE340 NB323_340 NB340_323 hnb44 hnc44 hcz45_0 hcz45_1 hcz45_2 hcz45_3 hcz45_4 hcz45_5 hcz45_6 hcz45_7 hcz45_8 hcz45_9 hcz45_10 hcz45_11 hcz45_12 hcz45_13 hcz45_14 hfz45_0 hfz45_1 hfz45_2 hfz45_3 hfz45_4 hfz45_5 hfz45_6 hfz45_7 hfz45_8 hfz45_9 hfz45_10 hfz45_11 hfz45_12 hfz45_13 hfz45_14 z65_ z66_ z67_ z68_ z69_ z70_ z71_ z72_ H c46
                    exact hP4.out
                  · rename_i z0_ z1_ z2_ z3_ z4_ z5_ z6_ z7_ z8_ z9_ z10_ z11_ z12_ z13_ z14_ z15_ z16_ z17_ z18_ z19_ z20_ z21_ z22_ z23_ z24_ z25_ z26_ z27_ z28_ z29_ z30_ z31_ z32_ z33_ z34_ z35_ z36_ z37_ z38_ z39_ z40_ z41_ z42_ z43_ z44_ z45_ z46_ z47_ z48_ z49_ z50_ z51_ z52_ z53_ z54_ z55_ z56_ z57_ z58_ z59_ z60_ z61_ z62_ z63_ z64_ z65_ z66_ z67_ z68_ z69_ z70_ z71_ z72_
                    revert k A0 c0 l0 a1 a2 w hu36 hu29 HR0 HC0 z0_ z1_ wc u16 u17 u18 u19 u20 u21 u22 u23 u24 u25 u26 u27 u28 u29 u30 u31 u32 u33 u35 z2_ z3_ z4_ z5_ z6_ z7_ z8_ z9_ z10_ z11_ z12_ z13_ z14_ z15_ z16_ z17_ z18_ z19_ z20_ z21_ z22_ z23_ z24_ z25_ z26_ z27_ z28_ z29_ z30_ z31_ z32_ z33_ z34_ z35_ z36_ z37_ z38_ z39_ z40_ z41_ z42_ z43_ z44_ z45_ z46_ z47_ z48_ z49_ z50_ z51_ z52_ z53_ z54_ z55_ z56_ u91 u92 u93 u94 u95 u96 u97 u98 u99 u100 u101 u102 u103 u104 u105 u106 u107 u108 u109 u110 u111 u112 u113 u114 u115 u116 u117 u118 u119 u120 u121 u122 u123 u124 u125 u126 u127 u128 u129 u130 u131 u132 u133 u134 u135 u136 u137 u138 u139 u140 u141 u142 u143 u144 z57_ kj3 HJ3 z58_ wr u6 u36 u37 u38 u39 u40 u41 u42 u43 u44 u45 u46 u47 u48 u49 u50 u51 u52 u53 u54 u55 u56 u57 u58 u59 u60 u61 u62 u63 u64 u65 u66 u67 u68 u69 u70 u71 u72 u73 u74 u75 u76 u77 u78 u79 u80 u81 u82 u83 u84 u85 u86 u87 u88 u89 u90 z59_ z60_ z61_ x7_2 x8_2 x9_2 x10_2 k2 z62_ HK2 c12b0 t307 t308 t309 t310 t311 t312 t313 t314 t315 t316 t317 t318 t319 t320 t321 t322 A34 t324 t325 t326 t327 t328 t329 t330 t331 t332 t333 t334 t335 t336 t337 t338 t339 A35 Ao37 co37 z63_ z64_ w38 gb323 w39 GW323 GE323 hcz40_0 hcz40_1 hcz40_2 hcz40_3 hcz40_4 hcz40_5 hcz40_6 hcz40_7 hcz40_8 hcz40_9 hcz40_10 hcz40_11 hcz40_12 hcz40_13 hcz40_14 hfz40_0 hfz40_1 hfz40_2 hfz40_3 hfz40_4 hfz40_5 hfz40_6 hfz40_7 hfz40_8 hfz40_9 hfz40_10 hfz40_11 hfz40_12 hfz40_13 hfz40_14 Ao41 co41 w42 gb340 w43 HO_7 HO_8 BK323 HB BK340 GW340 GE340 NB323_340 NB340_323 hnb44 hnc44 hcz45_0 hcz45_1 hcz45_2 hcz45_3 hcz45_4 hcz45_5 hcz45_6 hcz45_7 hcz45_8 hcz45_9 hcz45_10 hcz45_11 hcz45_12 hcz45_13 hcz45_14 hfz45_0 hfz45_1 hfz45_2 hfz45_3 hfz45_4 hfz45_5 hfz45_6 hfz45_7 hfz45_8 hfz45_9 hfz45_10 hfz45_11 hfz45_12 hfz45_13 hfz45_14 z65_ z66_ z67_ z68_ z69_ z70_ z71_ z72_ H c46
                    exact hP5.out
                case rest =>
                  clear HC36
                  try clear c1
                  try clear c2
                  try clear p2
                  try clear q2
                  try clear hx2
                  try clear qi2
                  try clear p3
                  try clear q3
                  try clear hx3
                  try clear c4
                  try clear p6
                  try clear c12
                  try clear c12b0
                  try clear c13
                  try clear c18
                  try clear c20
                  try clear c21
                  try clear c22
                  try clear c27
                  try clear c27b0
                  try clear c27b1
                  try clear c28
                  try clear p28
                  try clear q28
                  try clear hx28
                  try clear c29
                  try clear p29
                  try clear q29
                  try clear hx29
                  try clear qi29
                  try clear p30
                  try clear q30
                  try clear hx30
                  try clear c44
                  try clear c46
                  try clear c47
                  try clear hcz40_0
                  try clear hcz40_1
                  try clear hcz40_10
                  try clear hcz40_11
                  try clear hcz40_12
                  try clear hcz40_13
                  try clear hcz40_14
                  try clear hcz40_2
                  try clear hcz40_3
                  try clear hcz40_4
                  try clear hcz40_5
                  try clear hcz40_6
                  try clear hcz40_7
                  try clear hcz40_8
                  try clear hcz40_9
                  try clear hcz45_0
                  try clear hcz45_1
                  try clear hcz45_10
                  try clear hcz45_11
                  try clear hcz45_12
                  try clear hcz45_13
                  try clear hcz45_14
                  try clear hcz45_2
                  try clear hcz45_3
                  try clear hcz45_4
                  try clear hcz45_5
                  try clear hcz45_6
                  try clear hcz45_7
                  try clear hcz45_8
                  try clear hcz45_9
                  try clear hfz40_0
                  try clear hfz40_1
                  try clear hfz40_10
                  try clear hfz40_11
                  try clear hfz40_12
                  try clear hfz40_13
                  try clear hfz40_14
                  try clear hfz40_2
                  try clear hfz40_3
                  try clear hfz40_4
                  try clear hfz40_5
                  try clear hfz40_6
                  try clear hfz40_7
                  try clear hfz40_8
                  try clear hfz40_9
                  try clear hfz45_0
                  try clear hfz45_1
                  try clear hfz45_10
                  try clear hfz45_11
                  try clear hfz45_12
                  try clear hfz45_13
                  try clear hfz45_14
                  try clear hfz45_2
                  try clear hfz45_3
                  try clear hfz45_4
                  try clear hfz45_5
                  try clear hfz45_6
                  try clear hfz45_7
                  try clear hfz45_8
                  try clear hfz45_9
                  try clear hx283_0
                  try clear hx285_0
                  try clear hx292_0
                  try clear hx296_0
                  try clear hx297_0
                  try clear hx298_0
                  try clear hx299_0
                  try clear hx303_0
                  try clear p283
                  try clear p285
                  try clear p292
                  try clear p296
                  try clear p297
                  try clear p298
                  try clear p299
                  try clear p303
                  try clear q283
                  try clear q285
                  try clear q292
                  try clear q296
                  try clear q297
                  try clear q298
                  try clear q299
                  try clear q303
                  obtain ⟨kq, x111_35, rfl, HA, HJ35, BK323, BK340, HB⟩ := hcut
                  cases kq with
                  | zero => exact absurd HA.out (by simp [pacemakerlaw10_SlopeLines.j2])
                  | succ kj35 =>
                    have H := HA.out
                    clear HA
                    simp only [pacemakerlaw10_SlopeLines.j2] at H
                    by_cases c48 : x111_35 = true
                    · rename_i z0_ z1_ z2_ z3_ z4_ z5_ z6_ z7_ z8_ z9_ z10_ z11_ z12_ z13_ z14_ z15_ z16_ z17_ z18_ z19_ z20_ z21_ z22_ z23_ z24_ z25_ z26_ z27_ z28_ z29_ z30_ z31_ z32_ z33_ z34_ z35_ z36_ z37_ z38_ z39_ z40_ z41_ z42_ z43_ z44_ z45_ z46_ z47_ z48_ z49_ z50_ z51_ z52_ z53_ z54_ z55_ z56_ z57_ z58_ z59_ z60_ z61_ z62_ z63_ z64_ z65_ z66_ z67_ z68_ z69_ z70_ z71_ z72_ z73_ z74_ z75_ z76_ z77_ z78_ z79_ z80_ z81_ z82_ z83_ z84_ z85_ z86_ z87_ z88_ z89_ z90_ z91_ z92_ z93_ z94_ z95_ z96_ z97_ z98_ z99_ z100_ z101_ z102_ z103_ z104_ z105_ z106_ z107_ z108_ z109_ z110_ z111_ z112_ z113_ z114_ z115_ z116_ z117_ z118_ z119_ z120_ z121_ z122_ z123_ z124_ z125_ z126_ z127_ z128_ z129_ z130_ z131_ z132_ z133_ z134_ z135_ z136_ z137_ z138_ z139_ z140_ z141_ z142_ z143_ z144_ z145_ z146_ z147_ z148_ z149_ z150_ z151_ z152_ z153_ z154_ z155_ z156_ z157_ z158_ z159_ z160_ z161_ z162_ z163_ z164_ z165_ z166_ z167_ z168_ z169_ z170_ z171_ z172_ z173_ z174_ z175_ z176_ z177_ z178_ z179_ z180_ z181_ z182_ z183_ z184_ z185_ z186_ z187_ z188_ z189_ z190_ z191_ z192_ z193_ z194_ z195_ z196_ z197_ z198_ z199_
                      revert k A0 c0 l0 a1 a2 w hu36 hu29 HR0 HC0 z0_ z1_ z2_ z3_ z4_ z5_ z6_ z7_ z8_ z9_ z10_ z11_ z12_ z13_ z14_ z15_ z16_ z17_ z18_ z19_ z20_ z21_ z22_ z23_ z24_ z25_ z26_ z27_ z28_ z29_ z30_ z31_ z32_ z33_ z34_ z35_ z36_ z37_ z38_ z39_ z40_ z41_ z42_ z43_ z44_ z45_ z46_ z47_ z48_ z49_ z50_ z51_ z52_ z53_ z54_ z55_ z56_ z57_ z58_ z59_ z60_ z61_ z62_ z63_ z64_ z65_ z66_ z67_ z68_ z69_ z70_ z71_ z72_ z73_ z74_ z75_ z76_ z77_ z78_ z79_ z80_ z81_ z82_ z83_ z84_ z85_ z86_ z87_ z88_ z89_ z90_ z91_ z92_ z93_ z94_ z95_ z96_ u111 z97_ z98_ z99_ z100_ z101_ z102_ z103_ z104_ z105_ z106_ z107_ z108_ z109_ z110_ z111_ z112_ z113_ z114_ z115_ z116_ z117_ z118_ z119_ z120_ z121_ z122_ z123_ z124_ z125_ z126_ z127_ z128_ z129_ z130_ kj3 HJ3 z131_ wr u6 z132_ z133_ z134_ z135_ z136_ z137_ z138_ z139_ z140_ z141_ z142_ z143_ z144_ z145_ z146_ z147_ z148_ z149_ z150_ z151_ z152_ z153_ z154_ z155_ z156_ z157_ z158_ z159_ z160_ z161_ z162_ z163_ z164_ z165_ z166_ z167_ z168_ z169_ z170_ z171_ z172_ z173_ z174_ z175_ z176_ z177_ z178_ z179_ z180_ z181_ z182_ z183_ z184_ z185_ z186_ z187_ z188_ z189_ x7_2 x8_2 x9_2 x10_2 k2 z190_ HK2 t307 t308 t309 t310 t311 t312 t313 t314 t315 t316 t317 t318 t319 t320 t321 t322 A34 t324 t325 t326 t327 t328 t329 t330 t331 t332 t333 t334 t335 t336 t337 t338 t339 A35 Ao37 co37 z191_ z192_ w38 gb323 w39 GW323 GE323 Ao41 co41 w42 gb340 w43 HO_7 HO_8 z193_ z194_ z195_ GW340 GE340 NB323_340 NB340_323 hnb44 hnc44 z196_ z197_ z198_ z199_ wc u16 u17 u18 u19 u20 u21 u22 u23 u24 u25 u26 u27 u28 u29 u30 u31 u32 u33 u34 u35 u36 u37 u38 u39 u40 u41 u42 u43 u44 u45 u46 u47 u48 u49 u50 u51 u52 u53 u54 u55 u56 u57 u58 u59 u60 u61 u62 u63 u64 u65 u66 u67 u68 u69 u70 u71 u72 u73 u74 u75 u76 u77 u78 u79 u80 u81 u82 u83 u84 u85 u86 u87 u88 u89 u90 u91 u92 u93 u94 u95 u96 u97 u98 u99 u100 u101 u102 u103 u104 u105 u106 u107 u108 u109 u110 u112 u113 u114 u115 u116 u117 u118 u119 u120 u121 u122 u123 u124 u125 u126 u127 u128 u129 u130 u131 u132 u133 u134 u135 u136 u137 u138 u139 u140 u141 u142 u143 u144 x111_35 BK323 BK340 HB kj35 HJ35 H c48
                      exact hP6.out
                    · replace c48 := Bool.eq_false_iff.mpr c48
                      subst c48
                      have H1 : (if x9_2 = true then ((fix_Of.f a2).bind fun t342 => (pacemakerlaw10_SlopeLines.j3 kj35 a1 t342 t307 t308 t309 t310 t311 t312 t313 t314 t315 t316 t317 t318 t319 t320 t321 t324 t325 t326 t327 t328 t329 t330 t331 t332 t333 t334 t335 t336 t337 t338)) else (pacemakerlaw10_SlopeLines.j3 kj35 a1 0 t307 t308 t309 t310 t311 t312 t313 t314 t315 t316 t317 t318 t319 t320 t321 t324 t325 t326 t327 t328 t329 t330 t331 t332 t333 t334 t335 t336 t337 t338)) = some true := by rw [if_neg (show ¬ (false = true) by decide)] at H; exact H
                      clear H
                      have H := H1
                      clear H1
                      have HC53 := Aside0.mk H
                      clear H
                      go_upto_if 118 with (fail)
                      go_cut [15] (fun v15 wc => ∃ (kq : Nat) (x15_52 : Int), v15 = .int .i64 x15_52 ∧ Aside0 (pacemakerlaw10_SlopeLines.j3 kq a1 x15_52 t307 t308 t309 t310 t311 t312 t313 t314 t315 t316 t317 t318 t319 t320 t321 t324 t325 t326 t327 t328 t329 t330 t331 t332 t333 t334 t335 t336 t337 t338 = some true) ∧ Aside0 (kq ≤ kj35) ∧ Aside0 (wc.heap[gb323]? = some (.cells #[.int .i64 t307, .int .i64 t308, .int .i64 t309, .int .i64 t310, .int .i64 t311, .int .i64 t312, .int .i64 t313, .int .i64 t314, .int .i64 t315, .int .i64 t316, .int .i64 t317, .int .i64 t318, .int .i64 t319, .int .i64 t320, .int .i64 t321] 29 (0, 0))) ∧ Aside0 (wc.heap[gb340]? = some (.cells #[.int .i64 t324, .int .i64 t325, .int .i64 t326, .int .i64 t327, .int .i64 t328, .int .i64 t329, .int .i64 t330, .int .i64 t331, .int .i64 t332, .int .i64 t333, .int .i64 t334, .int .i64 t335, .int .i64 t336, .int .i64 t337, .int .i64 t338] 29 (0, 0))) ∧ Aside0 (Below w.heap.size w wc))
                      case first =>
                        have H := HC53.out
                        clear HC53
                        by_cases c54 : x9_2 = true
                        · rename_i z0_ z1_ z2_ z3_ z4_ z5_ z6_ z7_ z8_ z9_ z10_ z11_ z12_ z13_ z14_ z15_ z16_ z17_ z18_ z19_ z20_ z21_ z22_ z23_ z24_ z25_ z26_ z27_ z28_ z29_ z30_ z31_ z32_ z33_ z34_ z35_ z36_ z37_ z38_ z39_ z40_ z41_ z42_ z43_ z44_ z45_ z46_ z47_ z48_ z49_ z50_ z51_ z52_ z53_ z54_ z55_ z56_ z57_ z58_ z59_ z60_ z61_ z62_ z63_ z64_ z65_ z66_ z67_ z68_ z69_ z70_ z71_ z72_ z73_ z74_ z75_ z76_ z77_ z78_ z79_ z80_ z81_ z82_ z83_ z84_ z85_ z86_ z87_ z88_ z89_ z90_ z91_ z92_ z93_ z94_ z95_ z96_ z97_ z98_ z99_ z100_ z101_ z102_ z103_ z104_ z105_ z106_ z107_ z108_ z109_ z110_ z111_ z112_ z113_ z114_ z115_ z116_ z117_ z118_ z119_ z120_ z121_ z122_ z123_ z124_ z125_ z126_ z127_ z128_ z129_ z130_ z131_ z132_ z133_ z134_ z135_ z136_ z137_ z138_ z139_ z140_ z141_ z142_ z143_ z144_ z145_ z146_ z147_ z148_ z149_ z150_ z151_ z152_ z153_ z154_ z155_ z156_ z157_ z158_ z159_ z160_ z161_ z162_ z163_ z164_ z165_ z166_ z167_ z168_ z169_ z170_ z171_ z172_ z173_ z174_ z175_ z176_ z177_ z178_ z179_ z180_ z181_ z182_ z183_ z184_ z185_ z186_ z187_ z188_ z189_ z190_ z191_ z192_ z193_ z194_ z195_ z196_ z197_ z198_ z199_ z200_ z201_
                          revert k A0 c0 l0 a1 a2 w hu36 hu29 HR0 HC0 z0_ z1_ z2_ z3_ z4_ z5_ z6_ z7_ z8_ z9_ z10_ z11_ z12_ z13_ z14_ z15_ z16_ z17_ z18_ z19_ z20_ z21_ z22_ z23_ z24_ z25_ z26_ z27_ z28_ z29_ z30_ z31_ z32_ z33_ z34_ z35_ z36_ z37_ z38_ z39_ z40_ z41_ z42_ z43_ z44_ z45_ z46_ z47_ z48_ z49_ z50_ z51_ z52_ z53_ z54_ z55_ z56_ z57_ z58_ z59_ z60_ z61_ z62_ z63_ z64_ z65_ z66_ z67_ z68_ z69_ z70_ z71_ z72_ z73_ z74_ z75_ z76_ z77_ z78_ z79_ z80_ z81_ z82_ z83_ z84_ z85_ z86_ z87_ z88_ z89_ z90_ z91_ z92_ z93_ z94_ z95_ z96_ u111 z97_ z98_ z99_ z100_ z101_ z102_ z103_ z104_ z105_ z106_ z107_ z108_ z109_ z110_ z111_ z112_ z113_ z114_ z115_ z116_ z117_ z118_ z119_ z120_ z121_ z122_ z123_ z124_ z125_ z126_ z127_ z128_ z129_ z130_ kj3 HJ3 z131_ wr u6 z132_ z133_ z134_ z135_ z136_ z137_ z138_ z139_ z140_ z141_ z142_ z143_ z144_ z145_ z146_ z147_ z148_ z149_ z150_ z151_ z152_ z153_ z154_ z155_ z156_ z157_ z158_ z159_ z160_ z161_ z162_ z163_ z164_ z165_ z166_ z167_ z168_ z169_ z170_ z171_ z172_ z173_ z174_ z175_ z176_ z177_ z178_ z179_ z180_ z181_ z182_ z183_ z184_ z185_ z186_ z187_ z188_ z189_ x7_2 x8_2 x9_2 x10_2 k2 z190_ HK2 t307 t308 t309 t310 t311 t312 t313 t314 t315 t316 t317 t318 t319 t320 t321 t322 A34 t324 t325 t326 t327 t328 t329 t330 t331 t332 t333 t334 t335 t336 t337 t338 t339 A35 Ao37 co37 z191_ z192_ w38 gb323 w39 GW323 GE323 Ao41 co41 w42 gb340 w43 HO_7 HO_8 z193_ z194_ z195_ GW340 GE340 NB323_340 NB340_323 hnb44 hnc44 wc u16 u17 u18 u19 u20 u21 u22 u23 u24 u25 u26 u27 u28 u29 u30 u31 u32 u33 u34 u35 u36 u37 u38 u39 u40 u41 u42 u43 u44 u45 u46 u47 u48 u49 u50 u51 u52 u53 u54 u55 u56 u57 u58 u59 u60 u61 u62 u63 u64 u65 u66 u67 u68 u69 u70 u71 u72 u73 u74 u75 u76 u77 u78 u79 u80 u81 u82 u83 u84 u85 u86 u87 u88 u89 u90 u91 u92 u93 u94 u95 u96 u97 u98 u99 u100 u101 u102 u103 u104 u105 u106 u107 u108 u109 u110 u112 u113 u114 u115 u116 u117 u118 u119 u120 u121 u122 u123 u124 u125 u126 u127 u128 u129 u130 u131 u132 u133 u134 u135 u136 u137 u138 u139 u140 u141 u142 u143 u144 BK323 BK340 HB kj35 HJ35 z196_ z197_ z198_ z199_ z200_ z201_ H c54
                          exact hP7.out
                        · rename_i z0_ z1_ z2_ z3_ z4_ z5_ z6_ z7_ z8_ z9_ z10_ z11_ z12_ z13_ z14_ z15_ z16_ z17_ z18_ z19_ z20_ z21_ z22_ z23_ z24_ z25_ z26_ z27_ z28_ z29_ z30_ z31_ z32_ z33_ z34_ z35_ z36_ z37_ z38_ z39_ z40_ z41_ z42_ z43_ z44_ z45_ z46_ z47_ z48_ z49_ z50_ z51_ z52_ z53_ z54_ z55_ z56_ z57_ z58_ z59_ z60_ z61_ z62_ z63_ z64_ z65_ z66_ z67_ z68_ z69_ z70_ z71_ z72_ z73_ z74_ z75_ z76_ z77_ z78_ z79_ z80_ z81_ z82_ z83_ z84_ z85_ z86_ z87_ z88_ z89_ z90_ z91_ z92_ z93_ z94_ z95_ z96_ z97_ z98_ z99_ z100_ z101_ z102_ z103_ z104_ z105_ z106_ z107_ z108_ z109_ z110_ z111_ z112_ z113_ z114_ z115_ z116_ z117_ z118_ z119_ z120_ z121_ z122_ z123_ z124_ z125_ z126_ z127_ z128_ z129_ z130_ z131_ z132_ z133_ z134_ z135_ z136_ z137_ z138_ z139_ z140_ z141_ z142_ z143_ z144_ z145_ z146_ z147_ z148_ z149_ z150_ z151_ z152_ z153_ z154_ z155_ z156_ z157_ z158_ z159_ z160_ z161_ z162_ z163_ z164_ z165_ z166_ z167_ z168_ z169_ z170_ z171_ z172_ z173_ z174_ z175_ z176_ z177_ z178_ z179_ z180_ z181_ z182_ z183_ z184_ z185_ z186_ z187_ z188_ z189_ z190_ z191_ z192_ z193_ z194_ z195_ z196_ z197_ z198_ z199_ z200_ z201_
                          revert k A0 c0 l0 a1 a2 w hu36 hu29 HR0 HC0 z0_ z1_ z2_ z3_ z4_ z5_ z6_ z7_ z8_ z9_ z10_ z11_ z12_ z13_ z14_ z15_ z16_ z17_ z18_ z19_ z20_ z21_ z22_ z23_ z24_ z25_ z26_ z27_ z28_ z29_ z30_ z31_ z32_ z33_ z34_ z35_ z36_ z37_ z38_ z39_ z40_ z41_ z42_ z43_ z44_ z45_ z46_ z47_ z48_ z49_ z50_ z51_ z52_ z53_ z54_ z55_ z56_ z57_ z58_ z59_ z60_ z61_ z62_ z63_ z64_ z65_ z66_ z67_ z68_ z69_ z70_ z71_ z72_ z73_ z74_ z75_ z76_ z77_ z78_ z79_ z80_ z81_ z82_ z83_ z84_ z85_ z86_ z87_ z88_ z89_ z90_ z91_ z92_ z93_ z94_ z95_ z96_ u111 z97_ z98_ z99_ z100_ z101_ z102_ z103_ z104_ z105_ z106_ z107_ z108_ z109_ z110_ z111_ z112_ z113_ z114_ z115_ z116_ z117_ z118_ z119_ z120_ z121_ z122_ z123_ z124_ z125_ z126_ z127_ z128_ z129_ z130_ kj3 HJ3 z131_ wr u6 z132_ z133_ z134_ z135_ z136_ z137_ z138_ z139_ z140_ z141_ z142_ z143_ z144_ z145_ z146_ z147_ z148_ z149_ z150_ z151_ z152_ z153_ z154_ z155_ z156_ z157_ z158_ z159_ z160_ z161_ z162_ z163_ z164_ z165_ z166_ z167_ z168_ z169_ z170_ z171_ z172_ z173_ z174_ z175_ z176_ z177_ z178_ z179_ z180_ z181_ z182_ z183_ z184_ z185_ z186_ z187_ z188_ z189_ x7_2 x8_2 x9_2 x10_2 k2 z190_ HK2 t307 t308 t309 t310 t311 t312 t313 t314 t315 t316 t317 t318 t319 t320 t321 t322 A34 t324 t325 t326 t327 t328 t329 t330 t331 t332 t333 t334 t335 t336 t337 t338 t339 A35 Ao37 co37 z191_ z192_ w38 gb323 w39 GW323 GE323 Ao41 co41 w42 gb340 w43 HO_7 HO_8 z193_ z194_ z195_ GW340 GE340 NB323_340 NB340_323 hnb44 hnc44 wc u16 u17 u18 u19 u20 u21 u22 u23 u24 u25 u26 u27 u28 u29 u30 u31 u32 u33 u34 u35 u36 u37 u38 u39 u40 u41 u42 u43 u44 u45 u46 u47 u48 u49 u50 u51 u52 u53 u54 u55 u56 u57 u58 u59 u60 u61 u62 u63 u64 u65 u66 u67 u68 u69 u70 u71 u72 u73 u74 u75 u76 u77 u78 u79 u80 u81 u82 u83 u84 u85 u86 u87 u88 u89 u90 u91 u92 u93 u94 u95 u96 u97 u98 u99 u100 u101 u102 u103 u104 u105 u106 u107 u108 u109 u110 u112 u113 u114 u115 u116 u117 u118 u119 u120 u121 u122 u123 u124 u125 u126 u127 u128 u129 u130 u131 u132 u133 u134 u135 u136 u137 u138 u139 u140 u141 u142 u143 u144 BK323 BK340 HB kj35 HJ35 z196_ z197_ z198_ z199_ z200_ z201_ H c54
                          exact hP8.out
                      case rest =>
                        clear HC53
                        try clear c1
                        try clear c2
                        try clear p2
                        try clear q2
                        try clear hx2
                        try clear qi2
                        try clear p3
                        try clear q3
                        try clear hx3
                        try clear c4
                        try clear c5
                        try clear p6
                        try clear c9
                        try clear c12
                        try clear c12b0
                        try clear c13
                        try clear c18
                        try clear c19
                        try clear c20
                        try clear c21
                        try clear c22
                        try clear c27
                        try clear c27b0
                        try clear c27b1
                        try clear c28
                        try clear p28
                        try clear q28
                        try clear hx28
                        try clear c29
                        try clear p29
                        try clear q29
                        try clear hx29
                        try clear qi29
                        try clear p30
                        try clear q30
                        try clear hx30
                        try clear c44
                        try clear c46
                        try clear c47
                        try clear c48
                        try clear c50
                        try clear c54
                        try clear hcz40_0
                        try clear hcz40_1
                        try clear hcz40_10
                        try clear hcz40_11
                        try clear hcz40_12
                        try clear hcz40_13
                        try clear hcz40_14
                        try clear hcz40_2
                        try clear hcz40_3
                        try clear hcz40_4
                        try clear hcz40_5
                        try clear hcz40_6
                        try clear hcz40_7
                        try clear hcz40_8
                        try clear hcz40_9
                        try clear hcz45_0
                        try clear hcz45_1
                        try clear hcz45_10
                        try clear hcz45_11
                        try clear hcz45_12
                        try clear hcz45_13
                        try clear hcz45_14
                        try clear hcz45_2
                        try clear hcz45_3
                        try clear hcz45_4
                        try clear hcz45_5
                        try clear hcz45_6
                        try clear hcz45_7
                        try clear hcz45_8
                        try clear hcz45_9
                        try clear hfz40_0
                        try clear hfz40_1
                        try clear hfz40_10
                        try clear hfz40_11
                        try clear hfz40_12
                        try clear hfz40_13
                        try clear hfz40_14
                        try clear hfz40_2
                        try clear hfz40_3
                        try clear hfz40_4
                        try clear hfz40_5
                        try clear hfz40_6
                        try clear hfz40_7
                        try clear hfz40_8
                        try clear hfz40_9
                        try clear hfz45_0
                        try clear hfz45_1
                        try clear hfz45_10
                        try clear hfz45_11
                        try clear hfz45_12
                        try clear hfz45_13
                        try clear hfz45_14
                        try clear hfz45_2
                        try clear hfz45_3
                        try clear hfz45_4
                        try clear hfz45_5
                        try clear hfz45_6
                        try clear hfz45_7
                        try clear hfz45_8
                        try clear hfz45_9
                        try clear hx283_0
                        try clear hx285_0
                        try clear hx292_0
                        try clear hx296_0
                        try clear hx297_0
                        try clear hx298_0
                        try clear hx299_0
                        try clear hx303_0
                        try clear p2
                        try clear p28
                        try clear p283
                        try clear p285
                        try clear p29
                        try clear p292
                        try clear p296
                        try clear p297
                        try clear p298
                        try clear p299
                        try clear p3
                        try clear p30
                        try clear p303
                        try clear p6
                        try clear q2
                        try clear q28
                        try clear q283
                        try clear q285
                        try clear q29
                        try clear q292
                        try clear q296
                        try clear q297
                        try clear q298
                        try clear q299
                        try clear q3
                        try clear q30
                        try clear q303
                        obtain ⟨kq, x15_52, rfl, HA, HJ52, BK323, BK340, HB⟩ := hcut
                        cases kq with
                        | zero => exact absurd HA.out (by simp [pacemakerlaw10_SlopeLines.j3])
                        | succ kj52 =>
                          have H := HA.out
                          clear HA
                          simp only [pacemakerlaw10_SlopeLines.j3] at H
                          replace H := Option.bind_eq_some_iff.mp H
                          obtain ⟨t343, A570, H⟩ := H
                          replace H : (if t343 = true then ((slope_Grade.f kj52 t307 t308 t309 t310 t311 t312 t313 t314 t315 t316 t317 t318 t319 t320 t321).bind fun t344 => (if t344 = x15_52 then ((slope_Grade.f kj52 t324 t325 t326 t327 t328 t329 t330 t331 t332 t333 t334 t335 t336 t337 t338).bind fun t345 => (if t345 = 0 then ((slope_Dev.f kj52 t324 t325 t326 t327 t328 t329 t330 t331 t332 t333 t334 t335 t336 t337 t338).bind fun t346 => (if t346 = 0 then ((slope_Mean.f kj52 t324 t325 t326 t327 t328 t329 t330 t331 t332 t333 t334 t335 t336 t337 t338).bind fun t347 => ((fix_Of.f a1).bind fun t348 => (some (t347 == t348)))) else (some false))) else (some false))) else (some false))) else (some false)) = some true := H
                          have A57 := Aside0.mk A570
                          clear A570
                          by_cases c58 : t343 = true
                          · rename_i z0_ z1_ z2_ z3_ z4_ z5_ z6_ z7_ z8_ z9_ z10_ z11_ z12_ z13_ z14_ z15_ z16_ z17_ z18_ z19_ z20_ z21_ z22_ z23_ z24_ z25_ z26_ z27_ z28_ z29_ z30_ z31_ z32_ z33_ z34_ z35_ z36_ z37_ z38_ z39_ z40_ z41_ z42_ z43_ z44_ z45_ z46_ z47_ z48_ z49_ z50_ z51_ z52_ z53_ z54_ z55_ z56_ z57_ z58_ z59_ z60_ z61_ z62_ z63_ z64_ z65_ z66_ z67_ z68_ z69_ z70_ z71_ z72_ z73_ z74_ z75_ z76_ z77_ z78_ z79_ z80_ z81_ z82_ z83_ z84_ z85_ z86_ z87_ z88_ z89_ z90_ z91_ z92_ z93_ z94_ z95_ z96_ z97_ z98_ z99_ z100_ z101_ z102_ z103_ z104_ z105_ z106_ z107_ z108_ z109_ z110_ z111_ z112_ z113_ z114_ z115_ z116_ z117_ z118_ z119_ z120_ z121_ z122_ z123_ z124_ z125_ z126_ z127_ z128_ z129_ z130_ z131_ z132_ z133_ z134_ z135_ z136_ z137_ z138_ z139_ z140_ z141_ z142_ z143_ z144_ z145_ z146_ z147_ z148_ z149_ z150_ z151_ z152_ z153_ z154_ z155_ z156_ z157_ z158_ z159_ z160_ z161_ z162_ z163_ z164_ z165_ z166_ z167_ z168_ z169_ z170_ z171_ z172_ z173_ z174_ z175_ z176_ z177_ z178_ z179_ z180_ z181_ z182_ z183_ z184_ z185_ z186_ z187_ z188_ z189_ z190_ z191_ z192_ z193_ z194_ z195_ z196_ z197_ z198_ z199_ z200_ z201_ z202_ z203_ z204_ z205_ z206_ z207_ z208_ z209_ z210_ z211_ z212_ z213_ z214_ z215_ z216_ z217_ z218_ z219_ z220_ z221_ z222_ z223_ z224_ z225_ z226_ z227_ z228_ z229_ z230_ z231_ z232_ z233_ z234_ z235_ z236_ z237_ z238_ z239_ z240_ z241_ z242_ z243_ z244_ z245_ z246_ z247_ z248_ z249_ z250_ z251_ z252_ z253_ z254_ z255_ z256_ z257_ z258_ z259_ z260_ z261_ z262_ z263_ z264_ z265_ z266_ z267_ z268_ z269_ z270_ z271_ z272_ z273_ z274_ z275_ z276_ z277_ z278_ z279_ z280_ z281_ z282_ z283_ z284_ z285_ z286_ z287_ z288_ z289_ z290_ z291_ z292_ z293_ z294_ z295_ z296_ z297_ z298_ z299_ z300_ z301_ z302_ z303_ z304_ z305_ z306_ z307_ z308_ z309_ z310_ z311_ z312_ z313_ z314_ z315_ z316_ z317_ z318_ z319_ z320_ z321_ z322_ z323_ z324_ z325_ z326_ z327_ z328_ z329_ z330_
                            revert k A0 c0 l0 a1 a2 w hu36 hu29 HR0 HC0 z0_ z1_ z2_ z3_ z4_ z5_ z6_ z7_ z8_ z9_ z10_ z11_ z12_ z13_ z14_ z15_ z16_ z17_ z18_ z19_ z20_ z21_ z22_ z23_ z24_ z25_ z26_ z27_ z28_ z29_ z30_ z31_ z32_ z33_ z34_ z35_ z36_ z37_ z38_ z39_ z40_ z41_ z42_ z43_ z44_ z45_ z46_ z47_ z48_ z49_ z50_ z51_ z52_ z53_ z54_ z55_ z56_ z57_ z58_ z59_ z60_ z61_ z62_ z63_ z64_ z65_ z66_ z67_ z68_ z69_ z70_ z71_ z72_ z73_ z74_ z75_ z76_ z77_ z78_ z79_ z80_ z81_ z82_ z83_ z84_ z85_ z86_ z87_ z88_ z89_ z90_ z91_ z92_ z93_ z94_ z95_ z96_ z97_ z98_ z99_ z100_ z101_ z102_ z103_ z104_ z105_ z106_ z107_ z108_ z109_ z110_ z111_ z112_ z113_ z114_ z115_ z116_ z117_ z118_ z119_ z120_ z121_ z122_ z123_ z124_ z125_ z126_ z127_ z128_ z129_ z130_ z131_ kj3 HJ3 z132_ wr u6 z133_ z134_ z135_ z136_ z137_ z138_ z139_ z140_ z141_ z142_ z143_ z144_ z145_ z146_ z147_ z148_ z149_ z150_ z151_ z152_ z153_ z154_ z155_ z156_ z157_ z158_ z159_ z160_ z161_ z162_ z163_ z164_ z165_ z166_ z167_ z168_ z169_ z170_ z171_ z172_ z173_ z174_ z175_ z176_ z177_ z178_ z179_ z180_ z181_ z182_ z183_ z184_ z185_ z186_ z187_ z188_ z189_ z190_ x7_2 x8_2 x9_2 x10_2 k2 z191_ HK2 t307 t308 t309 t310 t311 t312 t313 t314 t315 t316 t317 t318 t319 t320 t321 t322 A34 t324 t325 t326 t327 t328 t329 t330 t331 t332 t333 t334 t335 t336 t337 t338 t339 A35 Ao37 co37 z192_ z193_ w38 gb323 w39 GW323 GE323 Ao41 co41 w42 gb340 w43 HO_7 HO_8 z194_ z195_ z196_ GW340 GE340 NB323_340 NB340_323 hnb44 hnc44 z197_ z198_ z199_ z200_ z201_ z202_ z203_ z204_ z205_ z206_ z207_ z208_ z209_ z210_ z211_ z212_ z213_ z214_ z215_ z216_ z217_ z218_ z219_ z220_ z221_ z222_ z223_ z224_ z225_ z226_ z227_ z228_ z229_ z230_ z231_ z232_ z233_ z234_ z235_ z236_ z237_ z238_ z239_ z240_ z241_ z242_ z243_ z244_ z245_ z246_ z247_ z248_ z249_ z250_ z251_ z252_ z253_ z254_ z255_ z256_ z257_ z258_ z259_ z260_ z261_ z262_ z263_ z264_ z265_ z266_ z267_ z268_ z269_ z270_ z271_ z272_ z273_ z274_ z275_ z276_ z277_ z278_ z279_ z280_ z281_ z282_ z283_ z284_ z285_ z286_ z287_ z288_ z289_ z290_ z291_ z292_ z293_ z294_ z295_ z296_ z297_ z298_ z299_ z300_ z301_ z302_ z303_ z304_ z305_ z306_ z307_ z308_ z309_ z310_ z311_ z312_ z313_ z314_ z315_ z316_ z317_ z318_ z319_ z320_ z321_ z322_ z323_ z324_ z325_ z326_ z327_ z328_ kj35 HJ35 z329_ z330_ wc u16 u17 u18 u19 u20 u21 u22 u23 u24 u25 u26 u27 u28 u29 u30 u31 u32 u33 u34 u35 u36 u37 u38 u39 u40 u41 u42 u43 u44 u45 u46 u47 u48 u49 u50 u51 u52 u53 u54 u55 u56 u57 u58 u59 u60 u61 u62 u63 u64 u65 u66 u67 u68 u69 u70 u71 u72 u73 u74 u75 u76 u77 u78 u79 u80 u81 u82 u83 u84 u85 u86 u87 u88 u89 u90 u91 u92 u93 u94 u95 u96 u97 u98 u99 u100 u101 u102 u103 u104 u105 u106 u107 u108 u109 u110 u111 u112 u113 u114 u115 u116 u117 u118 u119 u120 u121 u122 u123 u124 u125 u126 u127 u128 u129 u130 u131 u132 u133 u134 u135 u136 u137 u138 u139 u140 u141 u142 u143 u144 x15_52 BK323 BK340 HB kj52 HJ52 t343 H A57 c58
                            exact hP9.out
                          · replace c58 := Bool.eq_false_iff.mpr c58
                            subst c58
                            have H1 : (some false) = some true := by rw [if_neg (show ¬ (false = true) by decide)] at H; exact H
                            clear H
                            have H := H1
                            clear H1
                            exact absurd (Option.some.inj H) (by decide)
end Go.Proofs.Ytlokmliannklaaa.Print
end

section
namespace Go.Proofs.Ytlokmliannklaaa.Print
open Go.RowKit Go.Proofs.YtlokmliannklaaaW.PrintWords Go.Proofs.YtlokmliannklaaaW.PrintLast Go.Proofs.YtlokmliannklaaaW.PrintMore
attribute [local go_sem] max2_int min2_int max_two min_two max_three min_three max_four min_four   -- for this text's walks alone
set_option linter.unusedVariables false
set_option linter.unusedSimpArgs false

set_option maxHeartbeats 8000000 in
set_option maxRecDepth 100000 in
theorem pacemakerlaw10_SlopeLines_calls_p0  : (pacemakerlaw10_SlopeLines_calls_skel ).1 := by
  intro k A0 c0 l0 a1 a2 w hu36 hu29 HR0 HC0 HB z0_ z1_ z2_ z3_ z4_ z5_ z6_ z7_ z8_ H c5
  rw [if_pos c5] at H
  have c5b0 : decide (100 < (l0.length : Int)) = true := decide_eq_true c5
  have c5b1 : decide (100 < l0.length) = true := decide_eq_true (by omega)
  clear c5
  (first | rw [c5b0] | (simp only [i64_w, i32_w]; rw [c5b0]) | skip)
  have H' := Aside0.mk H
  clear H
  go_wp2
  go_meet
  case rel => exact ⟨_, (true), (by first | rfl | (simp; done) | (simp [*]; done)), H', ⟨by first | omega | exact Nat.le_refl _⟩, ⟨by repeat (first | (with_reducible first | exact HB.out | apply below_alloc | apply pw_below_drewN | apply below_drew1) | exact HB.out)⟩⟩
end Go.Proofs.Ytlokmliannklaaa.Print
end

section
namespace Go.Proofs.Ytlokmliannklaaa.Print
open Go.RowKit Go.Proofs.YtlokmliannklaaaW.PrintWords Go.Proofs.YtlokmliannklaaaW.PrintLast Go.Proofs.YtlokmliannklaaaW.PrintMore
attribute [local go_sem] max2_int min2_int max_two min_two max_three min_three max_four min_four   -- for this text's walks alone
set_option linter.unusedVariables false
set_option linter.unusedSimpArgs false

set_option maxHeartbeats 8000000 in
set_option maxRecDepth 100000 in
theorem pacemakerlaw10_SlopeLines_calls_p1  : (pacemakerlaw10_SlopeLines_calls_skel ).2.1 := by
  intro k A0 c0 l0 a1 a2 w hu36 hu29 HR0 HC0 HB z0_ z1_ z2_ z3_ z4_ z5_ z6_ z7_ z8_ H c5
  rw [if_neg c5] at H
  have c5b0 : decide (100 < (l0.length : Int)) = false := decide_eq_false c5
  have c5b1 : decide (100 < l0.length) = false := decide_eq_false (by omega)
  clear c5
  (first | rw [c5b0] | (simp only [i64_w, i32_w]; rw [c5b0]) | skip)
  by_cases c6 : a1 < 0
  · rw [if_pos c6] at H
    have c6b0 : decide (a1 < 0) = true := decide_eq_true c6
    clear c6
    have H' := Aside0.mk H
    clear H
    go_wp2
    go_meet
    case rel => exact ⟨_, (true), (by first | rfl | (simp; done) | (simp [*]; done)), H', ⟨by first | omega | exact Nat.le_refl _⟩, ⟨by repeat (first | (with_reducible first | exact HB.out | apply below_alloc | apply pw_below_drewN | apply below_drew1) | exact HB.out)⟩⟩
  · rw [if_neg c6] at H
    have c6b0 : decide (a1 < 0) = false := decide_eq_false c6
    clear c6
    by_cases c7 : a1 > 1000000
    · rw [if_pos c7] at H
      have c7b0 : decide (1000000 < a1) = true := decide_eq_true c7
      clear c7
      have H' := Aside0.mk H
      clear H
      go_wp2
      go_meet
      case rel => exact ⟨_, (true), (by first | rfl | (simp; done) | (simp [*]; done)), H', ⟨by first | omega | exact Nat.le_refl _⟩, ⟨by repeat (first | (with_reducible first | exact HB.out | apply below_alloc | apply pw_below_drewN | apply below_drew1) | exact HB.out)⟩⟩
    · rw [if_neg c7] at H
      have c7b0 : decide (1000000 < a1) = false := decide_eq_false c7
      clear c7
      by_cases c8 : a2 < 0
      · rw [if_pos c8] at H
        have c8b0 : decide (a2 < 0) = true := decide_eq_true c8
        clear c8
        have H' := Aside0.mk H
        clear H
        go_wp2
        go_meet
        case rel => exact ⟨_, (true), (by first | rfl | (simp; done) | (simp [*]; done)), H', ⟨by first | omega | exact Nat.le_refl _⟩, ⟨by repeat (first | (with_reducible first | exact HB.out | apply below_alloc | apply pw_below_drewN | apply below_drew1) | exact HB.out)⟩⟩
      · rw [if_neg c8] at H
        have c8b0 : decide (a2 < 0) = false := decide_eq_false c8
        clear c8
        have H' := Aside0.mk H
        clear H
        go_wp2
        go_meet
        case rel => exact ⟨_, (decide (a2 > 50)), (by first | rfl | (simp; done) | (simp [*]; done)), H', ⟨by first | omega | exact Nat.le_refl _⟩, ⟨by repeat (first | (with_reducible first | exact HB.out | apply below_alloc | apply pw_below_drewN | apply below_drew1) | exact HB.out)⟩⟩
end Go.Proofs.Ytlokmliannklaaa.Print
end

section
namespace Go.Proofs.Ytlokmliannklaaa.Print
open Go.RowKit Go.Proofs.YtlokmliannklaaaW.PrintWords Go.Proofs.YtlokmliannklaaaW.PrintLast Go.Proofs.YtlokmliannklaaaW.PrintMore
attribute [local go_sem] max2_int min2_int max_two min_two max_three min_three max_four min_four   -- for this text's walks alone
set_option linter.unusedVariables false
set_option linter.unusedSimpArgs false

set_option maxHeartbeats 8000000 in
set_option maxRecDepth 100000 in
theorem pacemakerlaw10_SlopeLines_calls_p2  : (pacemakerlaw10_SlopeLines_calls_skel ).2.2.1 := by
  intro k A0 c0 l0 a1 a2 w hu36 hu29 HR0 HC0 z0_ z1_ z2_ z3_ z4_ z5_ wc u16 u17 u18 u19 u20 u21 u22 u23 u24 u25 u26 u27 u28 u29 u30 u31 u32 u33 u35 u36 u37 u38 u39 u40 u41 u42 u43 u44 u45 u46 u47 u48 u49 u50 u51 u52 u53 u54 u55 u56 u57 u58 u59 u60 u61 u62 u63 u64 u65 u66 u67 u68 u69 u70 u71 u72 u73 u74 u75 u76 u77 u78 u79 u80 u81 u82 u83 u84 u85 u86 u87 u88 u89 u90 u91 u92 u93 u94 u95 u96 u97 u98 u99 u100 u101 u102 u103 u104 u105 u106 u107 u108 u109 u110 u111 u112 u113 u114 u115 u116 u117 u118 u119 u120 u121 u122 u123 u124 u125 u126 u127 u128 u129 u130 u131 u132 u133 u134 u135 u136 u137 u138 u139 u140 u141 u142 u143 u144 x34_3 HB kj3 HJ3 H c9
  subst c9
  have H1 : ((pacemakerlaw10_fitted.f).bind fun t282 => (some t282)) = some true := by rw [if_pos rfl] at H; exact H
  clear H
  have H := H1
  clear H1
  replace H := Option.bind_eq_some_iff.mp H
  obtain ⟨t282, A100, H⟩ := H
  replace H : (some t282) = some true := H
  have A10 := Aside0.mk A100
  clear A100
  first
    | exact absurd (Option.some.inj H) (by decide)
    | have HL_ := Aside0.mk (Option.some.inj H)
      clear H
      go_wp2_with (first | ((with_reducible refine gate_callee (f := 9) rfl ?_); refine goesL_ (some 35) rfl rfl Try.func9 (by kernel_rfl) rfl #[] rfl (by (try simp only [List.map_toArray, List.map_cons, List.map_nil]); first | done | rfl | (simp only [List.length_drop, List.length_take]; rfl)) ?_; (with_reducible refine (pacemakerlaw10_fitted.calls  t282 _ A10.out).mono ?_); rintro e w11 ⟨rfl, hb⟩; refine ⟨_, rfl, ?_⟩; have n0_ := Aside0.mk (below_step (by repeat (first | (with_reducible first | exact HB.out | apply below_alloc | apply pw_below_drewN | apply below_drew1) | exact HB.out)) hb); clear HB; have HB := n0_; clear n0_; (try clear hb); (try clear hb2); (try clear hk); (try clear hi)))
      go_ret
      have hlast := HL_.out
      exact ⟨by first | rfl | (simp [errW_none, errW_some] <;> rfl) | (simp [*, errW_none, errW_some] <;> rfl), by repeat (first | (with_reducible first | exact HB.out | apply below_alloc | apply pw_below_drewN | apply below_drew1) | exact HB.out)⟩
end Go.Proofs.Ytlokmliannklaaa.Print
end

section
namespace Go.Proofs.Ytlokmliannklaaa.Print
open Go.RowKit Go.Proofs.YtlokmliannklaaaW.PrintWords Go.Proofs.YtlokmliannklaaaW.PrintLast Go.Proofs.YtlokmliannklaaaW.PrintMore
attribute [local go_sem] max2_int min2_int max_two min_two max_three min_three max_four min_four   -- for this text's walks alone
set_option linter.unusedVariables false
set_option linter.unusedSimpArgs false

set_option maxHeartbeats 8000000 in
set_option maxRecDepth 100000 in
theorem pacemakerlaw10_SlopeLines_calls_p4  : (pacemakerlaw10_SlopeLines_calls_skel ).2.2.2.2.1 := by
  intro k A0 c0 l0 a1 a2 w hu36 hu29 HR0 HC0 z0_ z1_ wc u16 u17 u18 u19 u20 u21 u22 u23 u24 u25 u26 u27 u28 u29 u30 u31 u32 u33 u35 z2_ z3_ z4_ z5_ z6_ z7_ z8_ z9_ z10_ z11_ z12_ z13_ z14_ z15_ z16_ z17_ z18_ z19_ z20_ z21_ z22_ z23_ z24_ z25_ z26_ z27_ z28_ z29_ z30_ z31_ z32_ z33_ z34_ z35_ z36_ z37_ z38_ z39_ z40_ z41_ z42_ z43_ z44_ z45_ z46_ z47_ z48_ z49_ z50_ z51_ z52_ z53_ z54_ z55_ z56_ u91 u92 u93 u94 u95 u96 u97 u98 u99 u100 u101 u102 u103 u104 u105 u106 u107 u108 u109 u110 u111 u112 u113 u114 u115 u116 u117 u118 u119 u120 u121 u122 u123 u124 u125 u126 u127 u128 u129 u130 u131 u132 u133 u134 u135 u136 u137 u138 u139 u140 u141 u142 u143 u144 z57_ kj3 HJ3 z58_ wr u6 u36 u37 u38 u39 u40 u41 u42 u43 u44 u45 u46 u47 u48 u49 u50 u51 u52 u53 u54 u55 u56 u57 u58 u59 u60 u61 u62 u63 u64 u65 u66 u67 u68 u69 u70 u71 u72 u73 u74 u75 u76 u77 u78 u79 u80 u81 u82 u83 u84 u85 u86 u87 u88 u89 u90 z59_ z60_ z61_ x7_2 x8_2 x9_2 x10_2 k2 z62_ HK2 c12b0 t307 t308 t309 t310 t311 t312 t313 t314 t315 t316 t317 t318 t319 t320 t321 t322 A34 t324 t325 t326 t327 t328 t329 t330 t331 t332 t333 t334 t335 t336 t337 t338 t339 A35 Ao37 co37 z63_ z64_ w38 gb323 w39 GW323 GE323 hcz40_0 hcz40_1 hcz40_2 hcz40_3 hcz40_4 hcz40_5 hcz40_6 hcz40_7 hcz40_8 hcz40_9 hcz40_10 hcz40_11 hcz40_12 hcz40_13 hcz40_14 hfz40_0 hfz40_1 hfz40_2 hfz40_3 hfz40_4 hfz40_5 hfz40_6 hfz40_7 hfz40_8 hfz40_9 hfz40_10 hfz40_11 hfz40_12 hfz40_13 hfz40_14 Ao41 co41 w42 gb340 w43 HO_7 HO_8 BK323 HB BK340 GW340 GE340 NB323_340 NB340_323 hnb44 hnc44 hcz45_0 hcz45_1 hcz45_2 hcz45_3 hcz45_4 hcz45_5 hcz45_6 hcz45_7 hcz45_8 hcz45_9 hcz45_10 hcz45_11 hcz45_12 hcz45_13 hcz45_14 hfz45_0 hfz45_1 hfz45_2 hfz45_3 hfz45_4 hfz45_5 hfz45_6 hfz45_7 hfz45_8 hfz45_9 hfz45_10 hfz45_11 hfz45_12 hfz45_13 hfz45_14 z65_ z66_ z67_ z68_ z69_ z70_ z71_ z72_ H c46
  subst c46
  have H1 : (if t339 = true then (pacemakerlaw10_SlopeLines.j2 k2 l0 a1 a2 x9_2 ((l0.length : Int) == 0) t307 t308 t309 t310 t311 t312 t313 t314 t315 t316 t317 t318 t319 t320 t321 t324 t325 t326 t327 t328 t329 t330 t331 t332 t333 t334 t335 t336 t337 t338) else (pacemakerlaw10_SlopeLines.j2 k2 l0 a1 a2 x9_2 true t307 t308 t309 t310 t311 t312 t313 t314 t315 t316 t317 t318 t319 t320 t321 t324 t325 t326 t327 t328 t329 t330 t331 t332 t333 t334 t335 t336 t337 t338)) = some true := by rw [if_pos rfl] at H; exact H
  clear H
  have H := H1
  clear H1
  by_cases c47 : t339 = true
  · subst c47
    have H1 : (pacemakerlaw10_SlopeLines.j2 k2 l0 a1 a2 x9_2 ((l0.length : Int) == 0) t307 t308 t309 t310 t311 t312 t313 t314 t315 t316 t317 t318 t319 t320 t321 t324 t325 t326 t327 t328 t329 t330 t331 t332 t333 t334 t335 t336 t337 t338) = some true := by rw [if_pos rfl] at H; exact H
    clear H
    have H := H1
    clear H1
    have H' := Aside0.mk H
    clear H
    go_wp2
    go_meet
    case rel => exact ⟨_, (((l0.length : Int) == 0)), (by first | rfl | (simp; done) | (simp [*]; done)), H', ⟨by have := HJ3.out; have := HK2.out; first | omega | exact Nat.le_refl _⟩, ⟨by (with_reducible repeat (first | refine blk_drewN ?_ _ | refine blk_drew ?_ | refine blk_alloc ?_ _)); refine blk_far ?_ NB323_340.out _; (with_reducible repeat (first | refine blk_drewN ?_ _ | refine blk_drew ?_ | refine blk_alloc ?_ _)); refine blk_far ?_ NB323_340.out _; (with_reducible repeat (first | refine blk_drewN ?_ _ | refine blk_drew ?_ | refine blk_alloc ?_ _)); refine blk_far ?_ NB323_340.out _; (with_reducible repeat (first | refine blk_drewN ?_ _ | refine blk_drew ?_ | refine blk_alloc ?_ _)); refine blk_far ?_ NB323_340.out _; (with_reducible repeat (first | refine blk_drewN ?_ _ | refine blk_drew ?_ | refine blk_alloc ?_ _)); refine blk_far ?_ NB323_340.out _; (with_reducible repeat (first | refine blk_drewN ?_ _ | refine blk_drew ?_ | refine blk_alloc ?_ _)); refine blk_far ?_ NB323_340.out _; (with_reducible repeat (first | refine blk_drewN ?_ _ | refine blk_drew ?_ | refine blk_alloc ?_ _)); refine blk_far ?_ NB323_340.out _; (with_reducible repeat (first | refine blk_drewN ?_ _ | refine blk_drew ?_ | refine blk_alloc ?_ _)); refine blk_far ?_ NB323_340.out _; (with_reducible repeat (first | refine blk_drewN ?_ _ | refine blk_drew ?_ | refine blk_alloc ?_ _)); refine blk_far ?_ NB323_340.out _; (with_reducible repeat (first | refine blk_drewN ?_ _ | refine blk_drew ?_ | refine blk_alloc ?_ _)); refine blk_far ?_ NB323_340.out _; (with_reducible repeat (first | refine blk_drewN ?_ _ | refine blk_drew ?_ | refine blk_alloc ?_ _)); refine blk_far ?_ NB323_340.out _; (with_reducible repeat (first | refine blk_drewN ?_ _ | refine blk_drew ?_ | refine blk_alloc ?_ _)); refine blk_far ?_ NB323_340.out _; (with_reducible repeat (first | refine blk_drewN ?_ _ | refine blk_drew ?_ | refine blk_alloc ?_ _)); refine blk_far ?_ NB323_340.out _; (with_reducible repeat (first | refine blk_drewN ?_ _ | refine blk_drew ?_ | refine blk_alloc ?_ _)); refine blk_far ?_ NB323_340.out _; (with_reducible repeat (first | refine blk_drewN ?_ _ | refine blk_drew ?_ | refine blk_alloc ?_ _)); refine blk_far ?_ NB323_340.out _; (with_reducible repeat (first | refine blk_drewN ?_ _ | refine blk_drew ?_ | refine blk_alloc ?_ _)); exact BK323.out⟩, ⟨by (with_reducible repeat (first | refine blk_drewN ?_ _ | refine blk_drew ?_ | refine blk_alloc ?_ _)); refine blk_put (cs := #[.int .i64 t324, .int .i64 t325, .int .i64 t326, .int .i64 t327, .int .i64 t328, .int .i64 t329, .int .i64 t330, .int .i64 t331, .int .i64 t332, .int .i64 t333, .int .i64 t334, .int .i64 t335, .int .i64 t336, .int .i64 t337, .int .i64 0]) ?_ 14 _ rfl; (with_reducible repeat (first | refine blk_drewN ?_ _ | refine blk_drew ?_ | refine blk_alloc ?_ _)); refine blk_put (cs := #[.int .i64 t324, .int .i64 t325, .int .i64 t326, .int .i64 t327, .int .i64 t328, .int .i64 t329, .int .i64 t330, .int .i64 t331, .int .i64 t332, .int .i64 t333, .int .i64 t334, .int .i64 t335, .int .i64 t336, .int .i64 0, .int .i64 0]) ?_ 13 _ rfl; (with_reducible repeat (first | refine blk_drewN ?_ _ | refine blk_drew ?_ | refine blk_alloc ?_ _)); refine blk_put (cs := #[.int .i64 t324, .int .i64 t325, .int .i64 t326, .int .i64 t327, .int .i64 t328, .int .i64 t329, .int .i64 t330, .int .i64 t331, .int .i64 t332, .int .i64 t333, .int .i64 t334, .int .i64 t335, .int .i64 0, .int .i64 0, .int .i64 0]) ?_ 12 _ rfl; (with_reducible repeat (first | refine blk_drewN ?_ _ | refine blk_drew ?_ | refine blk_alloc ?_ _)); refine blk_put (cs := #[.int .i64 t324, .int .i64 t325, .int .i64 t326, .int .i64 t327, .int .i64 t328, .int .i64 t329, .int .i64 t330, .int .i64 t331, .int .i64 t332, .int .i64 t333, .int .i64 t334, .int .i64 0, .int .i64 0, .int .i64 0, .int .i64 0]) ?_ 11 _ rfl; (with_reducible repeat (first | refine blk_drewN ?_ _ | refine blk_drew ?_ | refine blk_alloc ?_ _)); refine blk_put (cs := #[.int .i64 t324, .int .i64 t325, .int .i64 t326, .int .i64 t327, .int .i64 t328, .int .i64 t329, .int .i64 t330, .int .i64 t331, .int .i64 t332, .int .i64 t333, .int .i64 0, .int .i64 0, .int .i64 0, .int .i64 0, .int .i64 0]) ?_ 10 _ rfl; (with_reducible repeat (first | refine blk_drewN ?_ _ | refine blk_drew ?_ | refine blk_alloc ?_ _)); refine blk_put (cs := #[.int .i64 t324, .int .i64 t325, .int .i64 t326, .int .i64 t327, .int .i64 t328, .int .i64 t329, .int .i64 t330, .int .i64 t331, .int .i64 t332, .int .i64 0, .int .i64 0, .int .i64 0, .int .i64 0, .int .i64 0, .int .i64 0]) ?_ 9 _ rfl; (with_reducible repeat (first | refine blk_drewN ?_ _ | refine blk_drew ?_ | refine blk_alloc ?_ _)); refine blk_put (cs := #[.int .i64 t324, .int .i64 t325, .int .i64 t326, .int .i64 t327, .int .i64 t328, .int .i64 t329, .int .i64 t330, .int .i64 t331, .int .i64 0, .int .i64 0, .int .i64 0, .int .i64 0, .int .i64 0, .int .i64 0, .int .i64 0]) ?_ 8 _ rfl; (with_reducible repeat (first | refine blk_drewN ?_ _ | refine blk_drew ?_ | refine blk_alloc ?_ _)); refine blk_put (cs := #[.int .i64 t324, .int .i64 t325, .int .i64 t326, .int .i64 t327, .int .i64 t328, .int .i64 t329, .int .i64 t330, .int .i64 0, .int .i64 0, .int .i64 0, .int .i64 0, .int .i64 0, .int .i64 0, .int .i64 0, .int .i64 0]) ?_ 7 _ rfl; (with_reducible repeat (first | refine blk_drewN ?_ _ | refine blk_drew ?_ | refine blk_alloc ?_ _)); refine blk_put (cs := #[.int .i64 t324, .int .i64 t325, .int .i64 t326, .int .i64 t327, .int .i64 t328, .int .i64 t329, .int .i64 0, .int .i64 0, .int .i64 0, .int .i64 0, .int .i64 0, .int .i64 0, .int .i64 0, .int .i64 0, .int .i64 0]) ?_ 6 _ rfl; (with_reducible repeat (first | refine blk_drewN ?_ _ | refine blk_drew ?_ | refine blk_alloc ?_ _)); refine blk_put (cs := #[.int .i64 t324, .int .i64 t325, .int .i64 t326, .int .i64 t327, .int .i64 t328, .int .i64 0, .int .i64 0, .int .i64 0, .int .i64 0, .int .i64 0, .int .i64 0, .int .i64 0, .int .i64 0, .int .i64 0, .int .i64 0]) ?_ 5 _ rfl; (with_reducible repeat (first | refine blk_drewN ?_ _ | refine blk_drew ?_ | refine blk_alloc ?_ _)); refine blk_put (cs := #[.int .i64 t324, .int .i64 t325, .int .i64 t326, .int .i64 t327, .int .i64 0, .int .i64 0, .int .i64 0, .int .i64 0, .int .i64 0, .int .i64 0, .int .i64 0, .int .i64 0, .int .i64 0, .int .i64 0, .int .i64 0]) ?_ 4 _ rfl; (with_reducible repeat (first | refine blk_drewN ?_ _ | refine blk_drew ?_ | refine blk_alloc ?_ _)); refine blk_put (cs := #[.int .i64 t324, .int .i64 t325, .int .i64 t326, .int .i64 0, .int .i64 0, .int .i64 0, .int .i64 0, .int .i64 0, .int .i64 0, .int .i64 0, .int .i64 0, .int .i64 0, .int .i64 0, .int .i64 0, .int .i64 0]) ?_ 3 _ rfl; (with_reducible repeat (first | refine blk_drewN ?_ _ | refine blk_drew ?_ | refine blk_alloc ?_ _)); refine blk_put (cs := #[.int .i64 t324, .int .i64 t325, .int .i64 0, .int .i64 0, .int .i64 0, .int .i64 0, .int .i64 0, .int .i64 0, .int .i64 0, .int .i64 0, .int .i64 0, .int .i64 0, .int .i64 0, .int .i64 0, .int .i64 0]) ?_ 2 _ rfl; (with_reducible repeat (first | refine blk_drewN ?_ _ | refine blk_drew ?_ | refine blk_alloc ?_ _)); refine blk_put (cs := #[.int .i64 t324, .int .i64 0, .int .i64 0, .int .i64 0, .int .i64 0, .int .i64 0, .int .i64 0, .int .i64 0, .int .i64 0, .int .i64 0, .int .i64 0, .int .i64 0, .int .i64 0, .int .i64 0, .int .i64 0]) ?_ 1 _ rfl; (with_reducible repeat (first | refine blk_drewN ?_ _ | refine blk_drew ?_ | refine blk_alloc ?_ _)); refine blk_put (cs := #[.int .i64 0, .int .i64 0, .int .i64 0, .int .i64 0, .int .i64 0, .int .i64 0, .int .i64 0, .int .i64 0, .int .i64 0, .int .i64 0, .int .i64 0, .int .i64 0, .int .i64 0, .int .i64 0, .int .i64 0]) ?_ 0 _ rfl; (with_reducible repeat (first | refine blk_drewN ?_ _ | refine blk_drew ?_ | refine blk_alloc ?_ _)); exact BK340.out⟩, ⟨by repeat (first | (with_reducible first | exact HB.out | apply below_alloc | apply pw_below_drewN | apply below_drew1 | refine below_set ?_ GE323.out | refine below_set ?_ GE340.out) | exact HB.out)⟩⟩
  · replace c47 := Bool.eq_false_iff.mpr c47
    subst c47
    have H1 : (pacemakerlaw10_SlopeLines.j2 k2 l0 a1 a2 x9_2 true t307 t308 t309 t310 t311 t312 t313 t314 t315 t316 t317 t318 t319 t320 t321 t324 t325 t326 t327 t328 t329 t330 t331 t332 t333 t334 t335 t336 t337 t338) = some true := by rw [if_neg (show ¬ (false = true) by decide)] at H; exact H
    clear H
    have H := H1
    clear H1
    have H' := Aside0.mk H
    clear H
    go_wp2
    go_meet
    case rel => exact ⟨_, (true), (by first | rfl | (simp; done) | (simp [*]; done)), H', ⟨by have := HJ3.out; have := HK2.out; first | omega | exact Nat.le_refl _⟩, ⟨by (with_reducible repeat (first | refine blk_drewN ?_ _ | refine blk_drew ?_ | refine blk_alloc ?_ _)); refine blk_far ?_ NB323_340.out _; (with_reducible repeat (first | refine blk_drewN ?_ _ | refine blk_drew ?_ | refine blk_alloc ?_ _)); refine blk_far ?_ NB323_340.out _; (with_reducible repeat (first | refine blk_drewN ?_ _ | refine blk_drew ?_ | refine blk_alloc ?_ _)); refine blk_far ?_ NB323_340.out _; (with_reducible repeat (first | refine blk_drewN ?_ _ | refine blk_drew ?_ | refine blk_alloc ?_ _)); refine blk_far ?_ NB323_340.out _; (with_reducible repeat (first | refine blk_drewN ?_ _ | refine blk_drew ?_ | refine blk_alloc ?_ _)); refine blk_far ?_ NB323_340.out _; (with_reducible repeat (first | refine blk_drewN ?_ _ | refine blk_drew ?_ | refine blk_alloc ?_ _)); refine blk_far ?_ NB323_340.out _; (with_reducible repeat (first | refine blk_drewN ?_ _ | refine blk_drew ?_ | refine blk_alloc ?_ _)); refine blk_far ?_ NB323_340.out _; (with_reducible repeat (first | refine blk_drewN ?_ _ | refine blk_drew ?_ | refine blk_alloc ?_ _)); refine blk_far ?_ NB323_340.out _; (with_reducible repeat (first | refine blk_drewN ?_ _ | refine blk_drew ?_ | refine blk_alloc ?_ _)); refine blk_far ?_ NB323_340.out _; (with_reducible repeat (first | refine blk_drewN ?_ _ | refine blk_drew ?_ | refine blk_alloc ?_ _)); refine blk_far ?_ NB323_340.out _; (with_reducible repeat (first | refine blk_drewN ?_ _ | refine blk_drew ?_ | refine blk_alloc ?_ _)); refine blk_far ?_ NB323_340.out _; (with_reducible repeat (first | refine blk_drewN ?_ _ | refine blk_drew ?_ | refine blk_alloc ?_ _)); refine blk_far ?_ NB323_340.out _; (with_reducible repeat (first | refine blk_drewN ?_ _ | refine blk_drew ?_ | refine blk_alloc ?_ _)); refine blk_far ?_ NB323_340.out _; (with_reducible repeat (first | refine blk_drewN ?_ _ | refine blk_drew ?_ | refine blk_alloc ?_ _)); refine blk_far ?_ NB323_340.out _; (with_reducible repeat (first | refine blk_drewN ?_ _ | refine blk_drew ?_ | refine blk_alloc ?_ _)); refine blk_far ?_ NB323_340.out _; (with_reducible repeat (first | refine blk_drewN ?_ _ | refine blk_drew ?_ | refine blk_alloc ?_ _)); exact BK323.out⟩, ⟨by (with_reducible repeat (first | refine blk_drewN ?_ _ | refine blk_drew ?_ | refine blk_alloc ?_ _)); refine blk_put (cs := #[.int .i64 t324, .int .i64 t325, .int .i64 t326, .int .i64 t327, .int .i64 t328, .int .i64 t329, .int .i64 t330, .int .i64 t331, .int .i64 t332, .int .i64 t333, .int .i64 t334, .int .i64 t335, .int .i64 t336, .int .i64 t337, .int .i64 0]) ?_ 14 _ rfl; (with_reducible repeat (first | refine blk_drewN ?_ _ | refine blk_drew ?_ | refine blk_alloc ?_ _)); refine blk_put (cs := #[.int .i64 t324, .int .i64 t325, .int .i64 t326, .int .i64 t327, .int .i64 t328, .int .i64 t329, .int .i64 t330, .int .i64 t331, .int .i64 t332, .int .i64 t333, .int .i64 t334, .int .i64 t335, .int .i64 t336, .int .i64 0, .int .i64 0]) ?_ 13 _ rfl; (with_reducible repeat (first | refine blk_drewN ?_ _ | refine blk_drew ?_ | refine blk_alloc ?_ _)); refine blk_put (cs := #[.int .i64 t324, .int .i64 t325, .int .i64 t326, .int .i64 t327, .int .i64 t328, .int .i64 t329, .int .i64 t330, .int .i64 t331, .int .i64 t332, .int .i64 t333, .int .i64 t334, .int .i64 t335, .int .i64 0, .int .i64 0, .int .i64 0]) ?_ 12 _ rfl; (with_reducible repeat (first | refine blk_drewN ?_ _ | refine blk_drew ?_ | refine blk_alloc ?_ _)); refine blk_put (cs := #[.int .i64 t324, .int .i64 t325, .int .i64 t326, .int .i64 t327, .int .i64 t328, .int .i64 t329, .int .i64 t330, .int .i64 t331, .int .i64 t332, .int .i64 t333, .int .i64 t334, .int .i64 0, .int .i64 0, .int .i64 0, .int .i64 0]) ?_ 11 _ rfl; (with_reducible repeat (first | refine blk_drewN ?_ _ | refine blk_drew ?_ | refine blk_alloc ?_ _)); refine blk_put (cs := #[.int .i64 t324, .int .i64 t325, .int .i64 t326, .int .i64 t327, .int .i64 t328, .int .i64 t329, .int .i64 t330, .int .i64 t331, .int .i64 t332, .int .i64 t333, .int .i64 0, .int .i64 0, .int .i64 0, .int .i64 0, .int .i64 0]) ?_ 10 _ rfl; (with_reducible repeat (first | refine blk_drewN ?_ _ | refine blk_drew ?_ | refine blk_alloc ?_ _)); refine blk_put (cs := #[.int .i64 t324, .int .i64 t325, .int .i64 t326, .int .i64 t327, .int .i64 t328, .int .i64 t329, .int .i64 t330, .int .i64 t331, .int .i64 t332, .int .i64 0, .int .i64 0, .int .i64 0, .int .i64 0, .int .i64 0, .int .i64 0]) ?_ 9 _ rfl; (with_reducible repeat (first | refine blk_drewN ?_ _ | refine blk_drew ?_ | refine blk_alloc ?_ _)); refine blk_put (cs := #[.int .i64 t324, .int .i64 t325, .int .i64 t326, .int .i64 t327, .int .i64 t328, .int .i64 t329, .int .i64 t330, .int .i64 t331, .int .i64 0, .int .i64 0, .int .i64 0, .int .i64 0, .int .i64 0, .int .i64 0, .int .i64 0]) ?_ 8 _ rfl; (with_reducible repeat (first | refine blk_drewN ?_ _ | refine blk_drew ?_ | refine blk_alloc ?_ _)); refine blk_put (cs := #[.int .i64 t324, .int .i64 t325, .int .i64 t326, .int .i64 t327, .int .i64 t328, .int .i64 t329, .int .i64 t330, .int .i64 0, .int .i64 0, .int .i64 0, .int .i64 0, .int .i64 0, .int .i64 0, .int .i64 0, .int .i64 0]) ?_ 7 _ rfl; (with_reducible repeat (first | refine blk_drewN ?_ _ | refine blk_drew ?_ | refine blk_alloc ?_ _)); refine blk_put (cs := #[.int .i64 t324, .int .i64 t325, .int .i64 t326, .int .i64 t327, .int .i64 t328, .int .i64 t329, .int .i64 0, .int .i64 0, .int .i64 0, .int .i64 0, .int .i64 0, .int .i64 0, .int .i64 0, .int .i64 0, .int .i64 0]) ?_ 6 _ rfl; (with_reducible repeat (first | refine blk_drewN ?_ _ | refine blk_drew ?_ | refine blk_alloc ?_ _)); refine blk_put (cs := #[.int .i64 t324, .int .i64 t325, .int .i64 t326, .int .i64 t327, .int .i64 t328, .int .i64 0, .int .i64 0, .int .i64 0, .int .i64 0, .int .i64 0, .int .i64 0, .int .i64 0, .int .i64 0, .int .i64 0, .int .i64 0]) ?_ 5 _ rfl; (with_reducible repeat (first | refine blk_drewN ?_ _ | refine blk_drew ?_ | refine blk_alloc ?_ _)); refine blk_put (cs := #[.int .i64 t324, .int .i64 t325, .int .i64 t326, .int .i64 t327, .int .i64 0, .int .i64 0, .int .i64 0, .int .i64 0, .int .i64 0, .int .i64 0, .int .i64 0, .int .i64 0, .int .i64 0, .int .i64 0, .int .i64 0]) ?_ 4 _ rfl; (with_reducible repeat (first | refine blk_drewN ?_ _ | refine blk_drew ?_ | refine blk_alloc ?_ _)); refine blk_put (cs := #[.int .i64 t324, .int .i64 t325, .int .i64 t326, .int .i64 0, .int .i64 0, .int .i64 0, .int .i64 0, .int .i64 0, .int .i64 0, .int .i64 0, .int .i64 0, .int .i64 0, .int .i64 0, .int .i64 0, .int .i64 0]) ?_ 3 _ rfl; (with_reducible repeat (first | refine blk_drewN ?_ _ | refine blk_drew ?_ | refine blk_alloc ?_ _)); refine blk_put (cs := #[.int .i64 t324, .int .i64 t325, .int .i64 0, .int .i64 0, .int .i64 0, .int .i64 0, .int .i64 0, .int .i64 0, .int .i64 0, .int .i64 0, .int .i64 0, .int .i64 0, .int .i64 0, .int .i64 0, .int .i64 0]) ?_ 2 _ rfl; (with_reducible repeat (first | refine blk_drewN ?_ _ | refine blk_drew ?_ | refine blk_alloc ?_ _)); refine blk_put (cs := #[.int .i64 t324, .int .i64 0, .int .i64 0, .int .i64 0, .int .i64 0, .int .i64 0, .int .i64 0, .int .i64 0, .int .i64 0, .int .i64 0, .int .i64 0, .int .i64 0, .int .i64 0, .int .i64 0, .int .i64 0]) ?_ 1 _ rfl; (with_reducible repeat (first | refine blk_drewN ?_ _ | refine blk_drew ?_ | refine blk_alloc ?_ _)); refine blk_put (cs := #[.int .i64 0, .int .i64 0, .int .i64 0, .int .i64 0, .int .i64 0, .int .i64 0, .int .i64 0, .int .i64 0, .int .i64 0, .int .i64 0, .int .i64 0, .int .i64 0, .int .i64 0, .int .i64 0, .int .i64 0]) ?_ 0 _ rfl; (with_reducible repeat (first | refine blk_drewN ?_ _ | refine blk_drew ?_ | refine blk_alloc ?_ _)); exact BK340.out⟩, ⟨by repeat (first | (with_reducible first | exact HB.out | apply below_alloc | apply pw_below_drewN | apply below_drew1 | refine below_set ?_ GE323.out | refine below_set ?_ GE340.out) | exact HB.out)⟩⟩
end Go.Proofs.Ytlokmliannklaaa.Print
end

section
namespace Go.Proofs.Ytlokmliannklaaa.Print
open Go.RowKit Go.Proofs.YtlokmliannklaaaW.PrintWords Go.Proofs.YtlokmliannklaaaW.PrintLast Go.Proofs.YtlokmliannklaaaW.PrintMore
attribute [local go_sem] max2_int min2_int max_two min_two max_three min_three max_four min_four   -- for this text's walks alone
set_option linter.unusedVariables false
set_option linter.unusedSimpArgs false

set_option maxHeartbeats 8000000 in
set_option maxRecDepth 100000 in
theorem pacemakerlaw10_SlopeLines_calls_p5  : (pacemakerlaw10_SlopeLines_calls_skel ).2.2.2.2.2.1 := by
  intro k A0 c0 l0 a1 a2 w hu36 hu29 HR0 HC0 z0_ z1_ wc u16 u17 u18 u19 u20 u21 u22 u23 u24 u25 u26 u27 u28 u29 u30 u31 u32 u33 u35 z2_ z3_ z4_ z5_ z6_ z7_ z8_ z9_ z10_ z11_ z12_ z13_ z14_ z15_ z16_ z17_ z18_ z19_ z20_ z21_ z22_ z23_ z24_ z25_ z26_ z27_ z28_ z29_ z30_ z31_ z32_ z33_ z34_ z35_ z36_ z37_ z38_ z39_ z40_ z41_ z42_ z43_ z44_ z45_ z46_ z47_ z48_ z49_ z50_ z51_ z52_ z53_ z54_ z55_ z56_ u91 u92 u93 u94 u95 u96 u97 u98 u99 u100 u101 u102 u103 u104 u105 u106 u107 u108 u109 u110 u111 u112 u113 u114 u115 u116 u117 u118 u119 u120 u121 u122 u123 u124 u125 u126 u127 u128 u129 u130 u131 u132 u133 u134 u135 u136 u137 u138 u139 u140 u141 u142 u143 u144 z57_ kj3 HJ3 z58_ wr u6 u36 u37 u38 u39 u40 u41 u42 u43 u44 u45 u46 u47 u48 u49 u50 u51 u52 u53 u54 u55 u56 u57 u58 u59 u60 u61 u62 u63 u64 u65 u66 u67 u68 u69 u70 u71 u72 u73 u74 u75 u76 u77 u78 u79 u80 u81 u82 u83 u84 u85 u86 u87 u88 u89 u90 z59_ z60_ z61_ x7_2 x8_2 x9_2 x10_2 k2 z62_ HK2 c12b0 t307 t308 t309 t310 t311 t312 t313 t314 t315 t316 t317 t318 t319 t320 t321 t322 A34 t324 t325 t326 t327 t328 t329 t330 t331 t332 t333 t334 t335 t336 t337 t338 t339 A35 Ao37 co37 z63_ z64_ w38 gb323 w39 GW323 GE323 hcz40_0 hcz40_1 hcz40_2 hcz40_3 hcz40_4 hcz40_5 hcz40_6 hcz40_7 hcz40_8 hcz40_9 hcz40_10 hcz40_11 hcz40_12 hcz40_13 hcz40_14 hfz40_0 hfz40_1 hfz40_2 hfz40_3 hfz40_4 hfz40_5 hfz40_6 hfz40_7 hfz40_8 hfz40_9 hfz40_10 hfz40_11 hfz40_12 hfz40_13 hfz40_14 Ao41 co41 w42 gb340 w43 HO_7 HO_8 BK323 HB BK340 GW340 GE340 NB323_340 NB340_323 hnb44 hnc44 hcz45_0 hcz45_1 hcz45_2 hcz45_3 hcz45_4 hcz45_5 hcz45_6 hcz45_7 hcz45_8 hcz45_9 hcz45_10 hcz45_11 hcz45_12 hcz45_13 hcz45_14 hfz45_0 hfz45_1 hfz45_2 hfz45_3 hfz45_4 hfz45_5 hfz45_6 hfz45_7 hfz45_8 hfz45_9 hfz45_10 hfz45_11 hfz45_12 hfz45_13 hfz45_14 z65_ z66_ z67_ z68_ z69_ z70_ z71_ z72_ H c46
  replace c46 := Bool.eq_false_iff.mpr c46
  subst c46
  have H1 : (pacemakerlaw10_SlopeLines.j2 k2 l0 a1 a2 x9_2 true t307 t308 t309 t310 t311 t312 t313 t314 t315 t316 t317 t318 t319 t320 t321 t324 t325 t326 t327 t328 t329 t330 t331 t332 t333 t334 t335 t336 t337 t338) = some true := by rw [if_neg (show ¬ (false = true) by decide)] at H; exact H
  clear H
  have H := H1
  clear H1
  have H' := Aside0.mk H
  clear H
  go_wp2
  go_meet
  case rel => exact ⟨_, (true), (by first | rfl | (simp; done) | (simp [*]; done)), H', ⟨by have := HJ3.out; have := HK2.out; first | omega | exact Nat.le_refl _⟩, ⟨by (with_reducible repeat (first | refine blk_drewN ?_ _ | refine blk_drew ?_ | refine blk_alloc ?_ _)); refine blk_far ?_ NB323_340.out _; (with_reducible repeat (first | refine blk_drewN ?_ _ | refine blk_drew ?_ | refine blk_alloc ?_ _)); refine blk_far ?_ NB323_340.out _; (with_reducible repeat (first | refine blk_drewN ?_ _ | refine blk_drew ?_ | refine blk_alloc ?_ _)); refine blk_far ?_ NB323_340.out _; (with_reducible repeat (first | refine blk_drewN ?_ _ | refine blk_drew ?_ | refine blk_alloc ?_ _)); refine blk_far ?_ NB323_340.out _; (with_reducible repeat (first | refine blk_drewN ?_ _ | refine blk_drew ?_ | refine blk_alloc ?_ _)); refine blk_far ?_ NB323_340.out _; (with_reducible repeat (first | refine blk_drewN ?_ _ | refine blk_drew ?_ | refine blk_alloc ?_ _)); refine blk_far ?_ NB323_340.out _; (with_reducible repeat (first | refine blk_drewN ?_ _ | refine blk_drew ?_ | refine blk_alloc ?_ _)); refine blk_far ?_ NB323_340.out _; (with_reducible repeat (first | refine blk_drewN ?_ _ | refine blk_drew ?_ | refine blk_alloc ?_ _)); refine blk_far ?_ NB323_340.out _; (with_reducible repeat (first | refine blk_drewN ?_ _ | refine blk_drew ?_ | refine blk_alloc ?_ _)); refine blk_far ?_ NB323_340.out _; (with_reducible repeat (first | refine blk_drewN ?_ _ | refine blk_drew ?_ | refine blk_alloc ?_ _)); refine blk_far ?_ NB323_340.out _; (with_reducible repeat (first | refine blk_drewN ?_ _ | refine blk_drew ?_ | refine blk_alloc ?_ _)); refine blk_far ?_ NB323_340.out _; (with_reducible repeat (first | refine blk_drewN ?_ _ | refine blk_drew ?_ | refine blk_alloc ?_ _)); refine blk_far ?_ NB323_340.out _; (with_reducible repeat (first | refine blk_drewN ?_ _ | refine blk_drew ?_ | refine blk_alloc ?_ _)); refine blk_far ?_ NB323_340.out _; (with_reducible repeat (first | refine blk_drewN ?_ _ | refine blk_drew ?_ | refine blk_alloc ?_ _)); refine blk_far ?_ NB323_340.out _; (with_reducible repeat (first | refine blk_drewN ?_ _ | refine blk_drew ?_ | refine blk_alloc ?_ _)); refine blk_far ?_ NB323_340.out _; (with_reducible repeat (first | refine blk_drewN ?_ _ | refine blk_drew ?_ | refine blk_alloc ?_ _)); exact BK323.out⟩, ⟨by (with_reducible repeat (first | refine blk_drewN ?_ _ | refine blk_drew ?_ | refine blk_alloc ?_ _)); refine blk_put (cs := #[.int .i64 t324, .int .i64 t325, .int .i64 t326, .int .i64 t327, .int .i64 t328, .int .i64 t329, .int .i64 t330, .int .i64 t331, .int .i64 t332, .int .i64 t333, .int .i64 t334, .int .i64 t335, .int .i64 t336, .int .i64 t337, .int .i64 0]) ?_ 14 _ rfl; (with_reducible repeat (first | refine blk_drewN ?_ _ | refine blk_drew ?_ | refine blk_alloc ?_ _)); refine blk_put (cs := #[.int .i64 t324, .int .i64 t325, .int .i64 t326, .int .i64 t327, .int .i64 t328, .int .i64 t329, .int .i64 t330, .int .i64 t331, .int .i64 t332, .int .i64 t333, .int .i64 t334, .int .i64 t335, .int .i64 t336, .int .i64 0, .int .i64 0]) ?_ 13 _ rfl; (with_reducible repeat (first | refine blk_drewN ?_ _ | refine blk_drew ?_ | refine blk_alloc ?_ _)); refine blk_put (cs := #[.int .i64 t324, .int .i64 t325, .int .i64 t326, .int .i64 t327, .int .i64 t328, .int .i64 t329, .int .i64 t330, .int .i64 t331, .int .i64 t332, .int .i64 t333, .int .i64 t334, .int .i64 t335, .int .i64 0, .int .i64 0, .int .i64 0]) ?_ 12 _ rfl; (with_reducible repeat (first | refine blk_drewN ?_ _ | refine blk_drew ?_ | refine blk_alloc ?_ _)); refine blk_put (cs := #[.int .i64 t324, .int .i64 t325, .int .i64 t326, .int .i64 t327, .int .i64 t328, .int .i64 t329, .int .i64 t330, .int .i64 t331, .int .i64 t332, .int .i64 t333, .int .i64 t334, .int .i64 0, .int .i64 0, .int .i64 0, .int .i64 0]) ?_ 11 _ rfl; (with_reducible repeat (first | refine blk_drewN ?_ _ | refine blk_drew ?_ | refine blk_alloc ?_ _)); refine blk_put (cs := #[.int .i64 t324, .int .i64 t325, .int .i64 t326, .int .i64 t327, .int .i64 t328, .int .i64 t329, .int .i64 t330, .int .i64 t331, .int .i64 t332, .int .i64 t333, .int .i64 0, .int .i64 0, .int .i64 0, .int .i64 0, .int .i64 0]) ?_ 10 _ rfl; (with_reducible repeat (first | refine blk_drewN ?_ _ | refine blk_drew ?_ | refine blk_alloc ?_ _)); refine blk_put (cs := #[.int .i64 t324, .int .i64 t325, .int .i64 t326, .int .i64 t327, .int .i64 t328, .int .i64 t329, .int .i64 t330, .int .i64 t331, .int .i64 t332, .int .i64 0, .int .i64 0, .int .i64 0, .int .i64 0, .int .i64 0, .int .i64 0]) ?_ 9 _ rfl; (with_reducible repeat (first | refine blk_drewN ?_ _ | refine blk_drew ?_ | refine blk_alloc ?_ _)); refine blk_put (cs := #[.int .i64 t324, .int .i64 t325, .int .i64 t326, .int .i64 t327, .int .i64 t328, .int .i64 t329, .int .i64 t330, .int .i64 t331, .int .i64 0, .int .i64 0, .int .i64 0, .int .i64 0, .int .i64 0, .int .i64 0, .int .i64 0]) ?_ 8 _ rfl; (with_reducible repeat (first | refine blk_drewN ?_ _ | refine blk_drew ?_ | refine blk_alloc ?_ _)); refine blk_put (cs := #[.int .i64 t324, .int .i64 t325, .int .i64 t326, .int .i64 t327, .int .i64 t328, .int .i64 t329, .int .i64 t330, .int .i64 0, .int .i64 0, .int .i64 0, .int .i64 0, .int .i64 0, .int .i64 0, .int .i64 0, .int .i64 0]) ?_ 7 _ rfl; (with_reducible repeat (first | refine blk_drewN ?_ _ | refine blk_drew ?_ | refine blk_alloc ?_ _)); refine blk_put (cs := #[.int .i64 t324, .int .i64 t325, .int .i64 t326, .int .i64 t327, .int .i64 t328, .int .i64 t329, .int .i64 0, .int .i64 0, .int .i64 0, .int .i64 0, .int .i64 0, .int .i64 0, .int .i64 0, .int .i64 0, .int .i64 0]) ?_ 6 _ rfl; (with_reducible repeat (first | refine blk_drewN ?_ _ | refine blk_drew ?_ | refine blk_alloc ?_ _)); refine blk_put (cs := #[.int .i64 t324, .int .i64 t325, .int .i64 t326, .int .i64 t327, .int .i64 t328, .int .i64 0, .int .i64 0, .int .i64 0, .int .i64 0, .int .i64 0, .int .i64 0, .int .i64 0, .int .i64 0, .int .i64 0, .int .i64 0]) ?_ 5 _ rfl; (with_reducible repeat (first | refine blk_drewN ?_ _ | refine blk_drew ?_ | refine blk_alloc ?_ _)); refine blk_put (cs := #[.int .i64 t324, .int .i64 t325, .int .i64 t326, .int .i64 t327, .int .i64 0, .int .i64 0, .int .i64 0, .int .i64 0, .int .i64 0, .int .i64 0, .int .i64 0, .int .i64 0, .int .i64 0, .int .i64 0, .int .i64 0]) ?_ 4 _ rfl; (with_reducible repeat (first | refine blk_drewN ?_ _ | refine blk_drew ?_ | refine blk_alloc ?_ _)); refine blk_put (cs := #[.int .i64 t324, .int .i64 t325, .int .i64 t326, .int .i64 0, .int .i64 0, .int .i64 0, .int .i64 0, .int .i64 0, .int .i64 0, .int .i64 0, .int .i64 0, .int .i64 0, .int .i64 0, .int .i64 0, .int .i64 0]) ?_ 3 _ rfl; (with_reducible repeat (first | refine blk_drewN ?_ _ | refine blk_drew ?_ | refine blk_alloc ?_ _)); refine blk_put (cs := #[.int .i64 t324, .int .i64 t325, .int .i64 0, .int .i64 0, .int .i64 0, .int .i64 0, .int .i64 0, .int .i64 0, .int .i64 0, .int .i64 0, .int .i64 0, .int .i64 0, .int .i64 0, .int .i64 0, .int .i64 0]) ?_ 2 _ rfl; (with_reducible repeat (first | refine blk_drewN ?_ _ | refine blk_drew ?_ | refine blk_alloc ?_ _)); refine blk_put (cs := #[.int .i64 t324, .int .i64 0, .int .i64 0, .int .i64 0, .int .i64 0, .int .i64 0, .int .i64 0, .int .i64 0, .int .i64 0, .int .i64 0, .int .i64 0, .int .i64 0, .int .i64 0, .int .i64 0, .int .i64 0]) ?_ 1 _ rfl; (with_reducible repeat (first | refine blk_drewN ?_ _ | refine blk_drew ?_ | refine blk_alloc ?_ _)); refine blk_put (cs := #[.int .i64 0, .int .i64 0, .int .i64 0, .int .i64 0, .int .i64 0, .int .i64 0, .int .i64 0, .int .i64 0, .int .i64 0, .int .i64 0, .int .i64 0, .int .i64 0, .int .i64 0, .int .i64 0, .int .i64 0]) ?_ 0 _ rfl; (with_reducible repeat (first | refine blk_drewN ?_ _ | refine blk_drew ?_ | refine blk_alloc ?_ _)); exact BK340.out⟩, ⟨by repeat (first | (with_reducible first | exact HB.out | apply below_alloc | apply pw_below_drewN | apply below_drew1 | refine below_set ?_ GE323.out | refine below_set ?_ GE340.out) | exact HB.out)⟩⟩
end Go.Proofs.Ytlokmliannklaaa.Print
end

section
namespace Go.Proofs.Ytlokmliannklaaa.Print
open Go.RowKit Go.Proofs.YtlokmliannklaaaW.PrintWords Go.Proofs.YtlokmliannklaaaW.PrintLast Go.Proofs.YtlokmliannklaaaW.PrintMore
attribute [local go_sem] max2_int min2_int max_two min_two max_three min_three max_four min_four   -- for this text's walks alone
set_option linter.unusedVariables false
set_option linter.unusedSimpArgs false

set_option maxHeartbeats 8000000 in
set_option maxRecDepth 100000 in
theorem pacemakerlaw10_SlopeLines_calls_p6  : (pacemakerlaw10_SlopeLines_calls_skel ).2.2.2.2.2.2.1 := by
  intro k A0 c0 l0 a1 a2 w hu36 hu29 HR0 HC0 z0_ z1_ z2_ z3_ z4_ z5_ z6_ z7_ z8_ z9_ z10_ z11_ z12_ z13_ z14_ z15_ z16_ z17_ z18_ z19_ z20_ z21_ z22_ z23_ z24_ z25_ z26_ z27_ z28_ z29_ z30_ z31_ z32_ z33_ z34_ z35_ z36_ z37_ z38_ z39_ z40_ z41_ z42_ z43_ z44_ z45_ z46_ z47_ z48_ z49_ z50_ z51_ z52_ z53_ z54_ z55_ z56_ z57_ z58_ z59_ z60_ z61_ z62_ z63_ z64_ z65_ z66_ z67_ z68_ z69_ z70_ z71_ z72_ z73_ z74_ z75_ z76_ z77_ z78_ z79_ z80_ z81_ z82_ z83_ z84_ z85_ z86_ z87_ z88_ z89_ z90_ z91_ z92_ z93_ z94_ z95_ z96_ u111 z97_ z98_ z99_ z100_ z101_ z102_ z103_ z104_ z105_ z106_ z107_ z108_ z109_ z110_ z111_ z112_ z113_ z114_ z115_ z116_ z117_ z118_ z119_ z120_ z121_ z122_ z123_ z124_ z125_ z126_ z127_ z128_ z129_ z130_ kj3 HJ3 z131_ wr u6 z132_ z133_ z134_ z135_ z136_ z137_ z138_ z139_ z140_ z141_ z142_ z143_ z144_ z145_ z146_ z147_ z148_ z149_ z150_ z151_ z152_ z153_ z154_ z155_ z156_ z157_ z158_ z159_ z160_ z161_ z162_ z163_ z164_ z165_ z166_ z167_ z168_ z169_ z170_ z171_ z172_ z173_ z174_ z175_ z176_ z177_ z178_ z179_ z180_ z181_ z182_ z183_ z184_ z185_ z186_ z187_ z188_ z189_ x7_2 x8_2 x9_2 x10_2 k2 z190_ HK2 t307 t308 t309 t310 t311 t312 t313 t314 t315 t316 t317 t318 t319 t320 t321 t322 A34 t324 t325 t326 t327 t328 t329 t330 t331 t332 t333 t334 t335 t336 t337 t338 t339 A35 Ao37 co37 z191_ z192_ w38 gb323 w39 GW323 GE323 Ao41 co41 w42 gb340 w43 HO_7 HO_8 z193_ z194_ z195_ GW340 GE340 NB323_340 NB340_323 hnb44 hnc44 z196_ z197_ z198_ z199_ wc u16 u17 u18 u19 u20 u21 u22 u23 u24 u25 u26 u27 u28 u29 u30 u31 u32 u33 u34 u35 u36 u37 u38 u39 u40 u41 u42 u43 u44 u45 u46 u47 u48 u49 u50 u51 u52 u53 u54 u55 u56 u57 u58 u59 u60 u61 u62 u63 u64 u65 u66 u67 u68 u69 u70 u71 u72 u73 u74 u75 u76 u77 u78 u79 u80 u81 u82 u83 u84 u85 u86 u87 u88 u89 u90 u91 u92 u93 u94 u95 u96 u97 u98 u99 u100 u101 u102 u103 u104 u105 u106 u107 u108 u109 u110 u112 u113 u114 u115 u116 u117 u118 u119 u120 u121 u122 u123 u124 u125 u126 u127 u128 u129 u130 u131 u132 u133 u134 u135 u136 u137 u138 u139 u140 u141 u142 u143 u144 x111_35 BK323 BK340 HB kj35 HJ35 H c48
  subst c48
  have H1 : ((pacemakerlaw10_fitted.f).bind fun t341 => (if t341 = true then (some ((l0.length : Int) == 0)) else (some false))) = some true := by rw [if_pos rfl] at H; exact H
  clear H
  have H := H1
  clear H1
  replace H := Option.bind_eq_some_iff.mp H
  obtain ⟨t341, A490, H⟩ := H
  replace H : (if t341 = true then (some ((l0.length : Int) == 0)) else (some false)) = some true := H
  have A49 := Aside0.mk A490
  clear A490
  by_cases c50 : t341 = true
  · subst c50
    have H1 : (some ((l0.length : Int) == 0)) = some true := by rw [if_pos rfl] at H; exact H
    clear H
    have H := H1
    clear H1
    first
      | exact absurd (Option.some.inj H) (by decide)
      | have HL_ := Aside0.mk (Option.some.inj H)
        clear H
        go_wp2_with (first | ((with_reducible refine gate_callee (f := 9) rfl ?_); refine goesL_ (some 112) rfl rfl Try.func9 (by kernel_rfl) rfl #[] rfl (by (try simp only [List.map_toArray, List.map_cons, List.map_nil]); first | done | rfl | (simp only [List.length_drop, List.length_take]; rfl)) ?_; (with_reducible refine (pacemakerlaw10_fitted.calls  true _ A49.out).mono ?_); rintro e w51 ⟨rfl, hb⟩; refine ⟨_, rfl, ?_⟩; have n0_ := Aside0.mk (blk_below (g := gb323) (o := .cells #[.int .i64 t307, .int .i64 t308, .int .i64 t309, .int .i64 t310, .int .i64 t311, .int .i64 t312, .int .i64 t313, .int .i64 t314, .int .i64 t315, .int .i64 t316, .int .i64 t317, .int .i64 t318, .int .i64 t319, .int .i64 t320, .int .i64 t321] 29 (0, 0)) (by (with_reducible repeat (first | refine blk_drewN ?_ _ | refine blk_drew ?_ | refine blk_alloc ?_ _)); exact BK323.out) hb); have n1_ := Aside0.mk (blk_below (g := gb340) (o := .cells #[.int .i64 t324, .int .i64 t325, .int .i64 t326, .int .i64 t327, .int .i64 t328, .int .i64 t329, .int .i64 t330, .int .i64 t331, .int .i64 t332, .int .i64 t333, .int .i64 t334, .int .i64 t335, .int .i64 t336, .int .i64 t337, .int .i64 t338] 29 (0, 0)) (by (with_reducible repeat (first | refine blk_drewN ?_ _ | refine blk_drew ?_ | refine blk_alloc ?_ _)); exact BK340.out) hb); have n2_ := Aside0.mk (below_step (by repeat (first | (with_reducible first | exact HB.out | apply below_alloc | apply pw_below_drewN | apply below_drew1 | refine below_set ?_ GE323.out | refine below_set ?_ GE340.out) | exact HB.out)) hb); clear BK323; clear BK340; clear HB; have BK323 := n0_; have BK340 := n1_; have HB := n2_; clear n0_ n1_ n2_; (try clear hb); (try clear hb2); (try clear hk); (try clear hi)))
        go_ret
        have hlast := HL_.out
        exact ⟨by first | rfl | (simp [errW_none, errW_some] <;> rfl) | (simp [*, errW_none, errW_some] <;> rfl), by repeat (first | (with_reducible first | exact HB.out | apply below_alloc | apply pw_below_drewN | apply below_drew1 | refine below_set ?_ GE323.out | refine below_set ?_ GE340.out) | exact HB.out)⟩
  · replace c50 := Bool.eq_false_iff.mpr c50
    subst c50
    have H1 : (some false) = some true := by rw [if_neg (show ¬ (false = true) by decide)] at H; exact H
    clear H
    have H := H1
    clear H1
    exact absurd (Option.some.inj H) (by decide)
end Go.Proofs.Ytlokmliannklaaa.Print
end

section
namespace Go.Proofs.Ytlokmliannklaaa.Print
open Go.RowKit Go.Proofs.YtlokmliannklaaaW.PrintWords Go.Proofs.YtlokmliannklaaaW.PrintLast Go.Proofs.YtlokmliannklaaaW.PrintMore
attribute [local go_sem] max2_int min2_int max_two min_two max_three min_three max_four min_four   -- for this text's walks alone
set_option linter.unusedVariables false
set_option linter.unusedSimpArgs false

set_option maxHeartbeats 8000000 in
set_option maxRecDepth 100000 in
theorem pacemakerlaw10_SlopeLines_calls_p7  : (pacemakerlaw10_SlopeLines_calls_skel ).2.2.2.2.2.2.2.1 := by
  intro k A0 c0 l0 a1 a2 w hu36 hu29 HR0 HC0 z0_ z1_ z2_ z3_ z4_ z5_ z6_ z7_ z8_ z9_ z10_ z11_ z12_ z13_ z14_ z15_ z16_ z17_ z18_ z19_ z20_ z21_ z22_ z23_ z24_ z25_ z26_ z27_ z28_ z29_ z30_ z31_ z32_ z33_ z34_ z35_ z36_ z37_ z38_ z39_ z40_ z41_ z42_ z43_ z44_ z45_ z46_ z47_ z48_ z49_ z50_ z51_ z52_ z53_ z54_ z55_ z56_ z57_ z58_ z59_ z60_ z61_ z62_ z63_ z64_ z65_ z66_ z67_ z68_ z69_ z70_ z71_ z72_ z73_ z74_ z75_ z76_ z77_ z78_ z79_ z80_ z81_ z82_ z83_ z84_ z85_ z86_ z87_ z88_ z89_ z90_ z91_ z92_ z93_ z94_ z95_ z96_ u111 z97_ z98_ z99_ z100_ z101_ z102_ z103_ z104_ z105_ z106_ z107_ z108_ z109_ z110_ z111_ z112_ z113_ z114_ z115_ z116_ z117_ z118_ z119_ z120_ z121_ z122_ z123_ z124_ z125_ z126_ z127_ z128_ z129_ z130_ kj3 HJ3 z131_ wr u6 z132_ z133_ z134_ z135_ z136_ z137_ z138_ z139_ z140_ z141_ z142_ z143_ z144_ z145_ z146_ z147_ z148_ z149_ z150_ z151_ z152_ z153_ z154_ z155_ z156_ z157_ z158_ z159_ z160_ z161_ z162_ z163_ z164_ z165_ z166_ z167_ z168_ z169_ z170_ z171_ z172_ z173_ z174_ z175_ z176_ z177_ z178_ z179_ z180_ z181_ z182_ z183_ z184_ z185_ z186_ z187_ z188_ z189_ x7_2 x8_2 x9_2 x10_2 k2 z190_ HK2 t307 t308 t309 t310 t311 t312 t313 t314 t315 t316 t317 t318 t319 t320 t321 t322 A34 t324 t325 t326 t327 t328 t329 t330 t331 t332 t333 t334 t335 t336 t337 t338 t339 A35 Ao37 co37 z191_ z192_ w38 gb323 w39 GW323 GE323 Ao41 co41 w42 gb340 w43 HO_7 HO_8 z193_ z194_ z195_ GW340 GE340 NB323_340 NB340_323 hnb44 hnc44 wc u16 u17 u18 u19 u20 u21 u22 u23 u24 u25 u26 u27 u28 u29 u30 u31 u32 u33 u34 u35 u36 u37 u38 u39 u40 u41 u42 u43 u44 u45 u46 u47 u48 u49 u50 u51 u52 u53 u54 u55 u56 u57 u58 u59 u60 u61 u62 u63 u64 u65 u66 u67 u68 u69 u70 u71 u72 u73 u74 u75 u76 u77 u78 u79 u80 u81 u82 u83 u84 u85 u86 u87 u88 u89 u90 u91 u92 u93 u94 u95 u96 u97 u98 u99 u100 u101 u102 u103 u104 u105 u106 u107 u108 u109 u110 u112 u113 u114 u115 u116 u117 u118 u119 u120 u121 u122 u123 u124 u125 u126 u127 u128 u129 u130 u131 u132 u133 u134 u135 u136 u137 u138 u139 u140 u141 u142 u143 u144 BK323 BK340 HB kj35 HJ35 z196_ z197_ z198_ z199_ z200_ z201_ H c54
  subst c54
  have H1 : ((fix_Of.f a2).bind fun t342 => (pacemakerlaw10_SlopeLines.j3 kj35 a1 t342 t307 t308 t309 t310 t311 t312 t313 t314 t315 t316 t317 t318 t319 t320 t321 t324 t325 t326 t327 t328 t329 t330 t331 t332 t333 t334 t335 t336 t337 t338)) = some true := by rw [if_pos rfl] at H; exact H
  clear H
  have H := H1
  clear H1
  replace H := Option.bind_eq_some_iff.mp H
  obtain ⟨t342, A550, H⟩ := H
  replace H : (pacemakerlaw10_SlopeLines.j3 kj35 a1 t342 t307 t308 t309 t310 t311 t312 t313 t314 t315 t316 t317 t318 t319 t320 t321 t324 t325 t326 t327 t328 t329 t330 t331 t332 t333 t334 t335 t336 t337 t338) = some true := H
  have A55 := Aside0.mk A550
  clear A550
  have H' := Aside0.mk H
  clear H
  go_wp2_with (first | ((with_reducible refine gate_callee (f := 19) rfl ?_); refine goesL_ (some 120) rfl rfl Try.func19 (by kernel_rfl) rfl #[.int .i64 a2] rfl (by (try simp only [List.map_toArray, List.map_cons, List.map_nil]); first | done | rfl | (simp only [List.length_drop, List.length_take]; rfl)) ?_; (with_reducible refine (fix_Of.calls a2 t342 _ A55.out).mono ?_); rintro e w56 ⟨rfl, hb⟩; refine ⟨_, rfl, ?_⟩; have n0_ := Aside0.mk (blk_below (g := gb323) (o := .cells #[.int .i64 t307, .int .i64 t308, .int .i64 t309, .int .i64 t310, .int .i64 t311, .int .i64 t312, .int .i64 t313, .int .i64 t314, .int .i64 t315, .int .i64 t316, .int .i64 t317, .int .i64 t318, .int .i64 t319, .int .i64 t320, .int .i64 t321] 29 (0, 0)) (by (with_reducible repeat (first | refine blk_drewN ?_ _ | refine blk_drew ?_ | refine blk_alloc ?_ _)); exact BK323.out) hb); have n1_ := Aside0.mk (blk_below (g := gb340) (o := .cells #[.int .i64 t324, .int .i64 t325, .int .i64 t326, .int .i64 t327, .int .i64 t328, .int .i64 t329, .int .i64 t330, .int .i64 t331, .int .i64 t332, .int .i64 t333, .int .i64 t334, .int .i64 t335, .int .i64 t336, .int .i64 t337, .int .i64 t338] 29 (0, 0)) (by (with_reducible repeat (first | refine blk_drewN ?_ _ | refine blk_drew ?_ | refine blk_alloc ?_ _)); exact BK340.out) hb); have n2_ := Aside0.mk (below_step (by repeat (first | (with_reducible first | exact HB.out | apply below_alloc | apply pw_below_drewN | apply below_drew1 | refine below_set ?_ GE323.out | refine below_set ?_ GE340.out) | exact HB.out)) hb); clear BK323; clear BK340; clear HB; have BK323 := n0_; have BK340 := n1_; have HB := n2_; clear n0_ n1_ n2_; (try clear hb); (try clear hb2); (try clear hk); (try clear hi)))
  go_meet
  case rel => exact ⟨_, (t342), (by first | rfl | (simp; done) | (simp [*]; done)), H', ⟨by have := HJ3.out; have := HK2.out; have := HJ35.out; first | omega | exact Nat.le_refl _⟩, ⟨by (with_reducible repeat (first | refine blk_drewN ?_ _ | refine blk_drew ?_ | refine blk_alloc ?_ _)); exact BK323.out⟩, ⟨by (with_reducible repeat (first | refine blk_drewN ?_ _ | refine blk_drew ?_ | refine blk_alloc ?_ _)); exact BK340.out⟩, ⟨by repeat (first | (with_reducible first | exact HB.out | apply below_alloc | apply pw_below_drewN | apply below_drew1 | refine below_set ?_ GE323.out | refine below_set ?_ GE340.out) | exact HB.out)⟩⟩
end Go.Proofs.Ytlokmliannklaaa.Print
end

section
namespace Go.Proofs.Ytlokmliannklaaa.Print
open Go.RowKit Go.Proofs.YtlokmliannklaaaW.PrintWords Go.Proofs.YtlokmliannklaaaW.PrintLast Go.Proofs.YtlokmliannklaaaW.PrintMore
attribute [local go_sem] max2_int min2_int max_two min_two max_three min_three max_four min_four   -- for this text's walks alone
set_option linter.unusedVariables false
set_option linter.unusedSimpArgs false

set_option maxHeartbeats 8000000 in
set_option maxRecDepth 100000 in
theorem pacemakerlaw10_SlopeLines_calls_p8  : (pacemakerlaw10_SlopeLines_calls_skel ).2.2.2.2.2.2.2.2.1 := by
  intro k A0 c0 l0 a1 a2 w hu36 hu29 HR0 HC0 z0_ z1_ z2_ z3_ z4_ z5_ z6_ z7_ z8_ z9_ z10_ z11_ z12_ z13_ z14_ z15_ z16_ z17_ z18_ z19_ z20_ z21_ z22_ z23_ z24_ z25_ z26_ z27_ z28_ z29_ z30_ z31_ z32_ z33_ z34_ z35_ z36_ z37_ z38_ z39_ z40_ z41_ z42_ z43_ z44_ z45_ z46_ z47_ z48_ z49_ z50_ z51_ z52_ z53_ z54_ z55_ z56_ z57_ z58_ z59_ z60_ z61_ z62_ z63_ z64_ z65_ z66_ z67_ z68_ z69_ z70_ z71_ z72_ z73_ z74_ z75_ z76_ z77_ z78_ z79_ z80_ z81_ z82_ z83_ z84_ z85_ z86_ z87_ z88_ z89_ z90_ z91_ z92_ z93_ z94_ z95_ z96_ u111 z97_ z98_ z99_ z100_ z101_ z102_ z103_ z104_ z105_ z106_ z107_ z108_ z109_ z110_ z111_ z112_ z113_ z114_ z115_ z116_ z117_ z118_ z119_ z120_ z121_ z122_ z123_ z124_ z125_ z126_ z127_ z128_ z129_ z130_ kj3 HJ3 z131_ wr u6 z132_ z133_ z134_ z135_ z136_ z137_ z138_ z139_ z140_ z141_ z142_ z143_ z144_ z145_ z146_ z147_ z148_ z149_ z150_ z151_ z152_ z153_ z154_ z155_ z156_ z157_ z158_ z159_ z160_ z161_ z162_ z163_ z164_ z165_ z166_ z167_ z168_ z169_ z170_ z171_ z172_ z173_ z174_ z175_ z176_ z177_ z178_ z179_ z180_ z181_ z182_ z183_ z184_ z185_ z186_ z187_ z188_ z189_ x7_2 x8_2 x9_2 x10_2 k2 z190_ HK2 t307 t308 t309 t310 t311 t312 t313 t314 t315 t316 t317 t318 t319 t320 t321 t322 A34 t324 t325 t326 t327 t328 t329 t330 t331 t332 t333 t334 t335 t336 t337 t338 t339 A35 Ao37 co37 z191_ z192_ w38 gb323 w39 GW323 GE323 Ao41 co41 w42 gb340 w43 HO_7 HO_8 z193_ z194_ z195_ GW340 GE340 NB323_340 NB340_323 hnb44 hnc44 wc u16 u17 u18 u19 u20 u21 u22 u23 u24 u25 u26 u27 u28 u29 u30 u31 u32 u33 u34 u35 u36 u37 u38 u39 u40 u41 u42 u43 u44 u45 u46 u47 u48 u49 u50 u51 u52 u53 u54 u55 u56 u57 u58 u59 u60 u61 u62 u63 u64 u65 u66 u67 u68 u69 u70 u71 u72 u73 u74 u75 u76 u77 u78 u79 u80 u81 u82 u83 u84 u85 u86 u87 u88 u89 u90 u91 u92 u93 u94 u95 u96 u97 u98 u99 u100 u101 u102 u103 u104 u105 u106 u107 u108 u109 u110 u112 u113 u114 u115 u116 u117 u118 u119 u120 u121 u122 u123 u124 u125 u126 u127 u128 u129 u130 u131 u132 u133 u134 u135 u136 u137 u138 u139 u140 u141 u142 u143 u144 BK323 BK340 HB kj35 HJ35 z196_ z197_ z198_ z199_ z200_ z201_ H c54
  replace c54 := Bool.eq_false_iff.mpr c54
  subst c54
  have H1 : (pacemakerlaw10_SlopeLines.j3 kj35 a1 0 t307 t308 t309 t310 t311 t312 t313 t314 t315 t316 t317 t318 t319 t320 t321 t324 t325 t326 t327 t328 t329 t330 t331 t332 t333 t334 t335 t336 t337 t338) = some true := by rw [if_neg (show ¬ (false = true) by decide)] at H; exact H
  clear H
  have H := H1
  clear H1
  have H' := Aside0.mk H
  clear H
  go_wp2
  go_meet
  case rel => exact ⟨_, (0), (by first | rfl | (simp; done) | (simp [*]; done)), H', ⟨by have := HJ3.out; have := HK2.out; have := HJ35.out; first | omega | exact Nat.le_refl _⟩, ⟨by (with_reducible repeat (first | refine blk_drewN ?_ _ | refine blk_drew ?_ | refine blk_alloc ?_ _)); exact BK323.out⟩, ⟨by (with_reducible repeat (first | refine blk_drewN ?_ _ | refine blk_drew ?_ | refine blk_alloc ?_ _)); exact BK340.out⟩, ⟨by repeat (first | (with_reducible first | exact HB.out | apply below_alloc | apply pw_below_drewN | apply below_drew1 | refine below_set ?_ GE323.out | refine below_set ?_ GE340.out) | exact HB.out)⟩⟩
end Go.Proofs.Ytlokmliannklaaa.Print
end

section
namespace Go.Proofs.Ytlokmliannklaaa.Print
open Go.RowKit Go.Proofs.YtlokmliannklaaaW.PrintWords Go.Proofs.YtlokmliannklaaaW.PrintLast Go.Proofs.YtlokmliannklaaaW.PrintMore
attribute [local go_sem] max2_int min2_int max_two min_two max_three min_three max_four min_four   -- for this text's walks alone
set_option linter.unusedVariables false
set_option linter.unusedSimpArgs false

set_option maxHeartbeats 8000000 in
set_option maxRecDepth 100000 in
theorem pacemakerlaw10_SlopeLines_calls_p9  : (pacemakerlaw10_SlopeLines_calls_skel ).2.2.2.2.2.2.2.2.2.1 := by
  intro k A0 c0 l0 a1 a2 w hu36 hu29 HR0 HC0 z0_ z1_ z2_ z3_ z4_ z5_ z6_ z7_ z8_ z9_ z10_ z11_ z12_ z13_ z14_ z15_ z16_ z17_ z18_ z19_ z20_ z21_ z22_ z23_ z24_ z25_ z26_ z27_ z28_ z29_ z30_ z31_ z32_ z33_ z34_ z35_ z36_ z37_ z38_ z39_ z40_ z41_ z42_ z43_ z44_ z45_ z46_ z47_ z48_ z49_ z50_ z51_ z52_ z53_ z54_ z55_ z56_ z57_ z58_ z59_ z60_ z61_ z62_ z63_ z64_ z65_ z66_ z67_ z68_ z69_ z70_ z71_ z72_ z73_ z74_ z75_ z76_ z77_ z78_ z79_ z80_ z81_ z82_ z83_ z84_ z85_ z86_ z87_ z88_ z89_ z90_ z91_ z92_ z93_ z94_ z95_ z96_ z97_ z98_ z99_ z100_ z101_ z102_ z103_ z104_ z105_ z106_ z107_ z108_ z109_ z110_ z111_ z112_ z113_ z114_ z115_ z116_ z117_ z118_ z119_ z120_ z121_ z122_ z123_ z124_ z125_ z126_ z127_ z128_ z129_ z130_ z131_ kj3 HJ3 z132_ wr u6 z133_ z134_ z135_ z136_ z137_ z138_ z139_ z140_ z141_ z142_ z143_ z144_ z145_ z146_ z147_ z148_ z149_ z150_ z151_ z152_ z153_ z154_ z155_ z156_ z157_ z158_ z159_ z160_ z161_ z162_ z163_ z164_ z165_ z166_ z167_ z168_ z169_ z170_ z171_ z172_ z173_ z174_ z175_ z176_ z177_ z178_ z179_ z180_ z181_ z182_ z183_ z184_ z185_ z186_ z187_ z188_ z189_ z190_ x7_2 x8_2 x9_2 x10_2 k2 z191_ HK2 t307 t308 t309 t310 t311 t312 t313 t314 t315 t316 t317 t318 t319 t320 t321 t322 A34 t324 t325 t326 t327 t328 t329 t330 t331 t332 t333 t334 t335 t336 t337 t338 t339 A35 Ao37 co37 z192_ z193_ w38 gb323 w39 GW323 GE323 Ao41 co41 w42 gb340 w43 HO_7 HO_8 z194_ z195_ z196_ GW340 GE340 NB323_340 NB340_323 hnb44 hnc44 z197_ z198_ z199_ z200_ z201_ z202_ z203_ z204_ z205_ z206_ z207_ z208_ z209_ z210_ z211_ z212_ z213_ z214_ z215_ z216_ z217_ z218_ z219_ z220_ z221_ z222_ z223_ z224_ z225_ z226_ z227_ z228_ z229_ z230_ z231_ z232_ z233_ z234_ z235_ z236_ z237_ z238_ z239_ z240_ z241_ z242_ z243_ z244_ z245_ z246_ z247_ z248_ z249_ z250_ z251_ z252_ z253_ z254_ z255_ z256_ z257_ z258_ z259_ z260_ z261_ z262_ z263_ z264_ z265_ z266_ z267_ z268_ z269_ z270_ z271_ z272_ z273_ z274_ z275_ z276_ z277_ z278_ z279_ z280_ z281_ z282_ z283_ z284_ z285_ z286_ z287_ z288_ z289_ z290_ z291_ z292_ z293_ z294_ z295_ z296_ z297_ z298_ z299_ z300_ z301_ z302_ z303_ z304_ z305_ z306_ z307_ z308_ z309_ z310_ z311_ z312_ z313_ z314_ z315_ z316_ z317_ z318_ z319_ z320_ z321_ z322_ z323_ z324_ z325_ z326_ z327_ z328_ kj35 HJ35 z329_ z330_ wc u16 u17 u18 u19 u20 u21 u22 u23 u24 u25 u26 u27 u28 u29 u30 u31 u32 u33 u34 u35 u36 u37 u38 u39 u40 u41 u42 u43 u44 u45 u46 u47 u48 u49 u50 u51 u52 u53 u54 u55 u56 u57 u58 u59 u60 u61 u62 u63 u64 u65 u66 u67 u68 u69 u70 u71 u72 u73 u74 u75 u76 u77 u78 u79 u80 u81 u82 u83 u84 u85 u86 u87 u88 u89 u90 u91 u92 u93 u94 u95 u96 u97 u98 u99 u100 u101 u102 u103 u104 u105 u106 u107 u108 u109 u110 u111 u112 u113 u114 u115 u116 u117 u118 u119 u120 u121 u122 u123 u124 u125 u126 u127 u128 u129 u130 u131 u132 u133 u134 u135 u136 u137 u138 u139 u140 u141 u142 u143 u144 x15_52 BK323 BK340 HB kj52 HJ52 t343 H A57 c58
  subst c58
  have H1 : ((slope_Grade.f kj52 t307 t308 t309 t310 t311 t312 t313 t314 t315 t316 t317 t318 t319 t320 t321).bind fun t344 => (if t344 = x15_52 then ((slope_Grade.f kj52 t324 t325 t326 t327 t328 t329 t330 t331 t332 t333 t334 t335 t336 t337 t338).bind fun t345 => (if t345 = 0 then ((slope_Dev.f kj52 t324 t325 t326 t327 t328 t329 t330 t331 t332 t333 t334 t335 t336 t337 t338).bind fun t346 => (if t346 = 0 then ((slope_Mean.f kj52 t324 t325 t326 t327 t328 t329 t330 t331 t332 t333 t334 t335 t336 t337 t338).bind fun t347 => ((fix_Of.f a1).bind fun t348 => (some (t347 == t348)))) else (some false))) else (some false))) else (some false))) = some true := by rw [if_pos rfl] at H; exact H
  clear H
  have H := H1
  clear H1
  replace H := Option.bind_eq_some_iff.mp H
  obtain ⟨t344, A590, H⟩ := H
  replace H : (if t344 = x15_52 then ((slope_Grade.f kj52 t324 t325 t326 t327 t328 t329 t330 t331 t332 t333 t334 t335 t336 t337 t338).bind fun t345 => (if t345 = 0 then ((slope_Dev.f kj52 t324 t325 t326 t327 t328 t329 t330 t331 t332 t333 t334 t335 t336 t337 t338).bind fun t346 => (if t346 = 0 then ((slope_Mean.f kj52 t324 t325 t326 t327 t328 t329 t330 t331 t332 t333 t334 t335 t336 t337 t338).bind fun t347 => ((fix_Of.f a1).bind fun t348 => (some (t347 == t348)))) else (some false))) else (some false))) else (some false)) = some true := H
  have A59 := Aside0.mk A590
  clear A590
  by_cases c60 : t344 = x15_52
  · rw [if_pos c60] at H
    have c60b0 : (t344 == x15_52) = true := beq_iff_eq.mpr c60
    have c60b1 : (t344 != x15_52) = false := bne_eq_false_iff_eq.mpr c60
    clear c60
    replace H := Option.bind_eq_some_iff.mp H
    obtain ⟨t345, A610, H⟩ := H
    replace H : (if t345 = 0 then ((slope_Dev.f kj52 t324 t325 t326 t327 t328 t329 t330 t331 t332 t333 t334 t335 t336 t337 t338).bind fun t346 => (if t346 = 0 then ((slope_Mean.f kj52 t324 t325 t326 t327 t328 t329 t330 t331 t332 t333 t334 t335 t336 t337 t338).bind fun t347 => ((fix_Of.f a1).bind fun t348 => (some (t347 == t348)))) else (some false))) else (some false)) = some true := H
    have A61 := Aside0.mk A610
    clear A610
    by_cases c62 : t345 = 0
    · rw [if_pos c62] at H
      have c62b0 : (t345 == 0) = true := beq_iff_eq.mpr c62
      have c62b1 : (t345 != 0) = false := bne_eq_false_iff_eq.mpr c62
      clear c62
      replace H := Option.bind_eq_some_iff.mp H
      obtain ⟨t346, A630, H⟩ := H
      replace H : (if t346 = 0 then ((slope_Mean.f kj52 t324 t325 t326 t327 t328 t329 t330 t331 t332 t333 t334 t335 t336 t337 t338).bind fun t347 => ((fix_Of.f a1).bind fun t348 => (some (t347 == t348)))) else (some false)) = some true := H
      have A63 := Aside0.mk A630
      clear A630
      by_cases c64 : t346 = 0
      · rw [if_pos c64] at H
        have c64b0 : (t346 == 0) = true := beq_iff_eq.mpr c64
        have c64b1 : (t346 != 0) = false := bne_eq_false_iff_eq.mpr c64
        clear c64
        replace H := Option.bind_eq_some_iff.mp H
        obtain ⟨t347, A650, H⟩ := H
        replace H : ((fix_Of.f a1).bind fun t348 => (some (t347 == t348))) = some true := H
        have A65 := Aside0.mk A650
        clear A650
        replace H := Option.bind_eq_some_iff.mp H
        obtain ⟨t348, A660, H⟩ := H
        replace H : (some (t347 == t348)) = some true := H
        have A66 := Aside0.mk A660
        clear A660
        first
          | exact absurd (Option.some.inj H) (by decide)
          | have HL_ := Aside0.mk (Option.some.inj H)
            clear H
            go_wp2_with (first | ((with_reducible refine gate_callee (f := 9) rfl ?_); refine goesL_ (some 121) rfl rfl Try.func9 (by kernel_rfl) rfl #[] rfl (by (try simp only [List.map_toArray, List.map_cons, List.map_nil]); first | done | rfl | (simp only [List.length_drop, List.length_take]; rfl)) ?_; (with_reducible refine (pacemakerlaw10_fitted.calls  true _ A57.out).mono ?_); rintro e w67 ⟨rfl, hb⟩; refine ⟨_, rfl, ?_⟩; have n0_ := Aside0.mk (blk_below (g := gb323) (o := .cells #[.int .i64 t307, .int .i64 t308, .int .i64 t309, .int .i64 t310, .int .i64 t311, .int .i64 t312, .int .i64 t313, .int .i64 t314, .int .i64 t315, .int .i64 t316, .int .i64 t317, .int .i64 t318, .int .i64 t319, .int .i64 t320, .int .i64 t321] 29 (0, 0)) (by (with_reducible repeat (first | refine blk_drewN ?_ _ | refine blk_drew ?_ | refine blk_alloc ?_ _)); exact BK323.out) hb); have n1_ := Aside0.mk (blk_below (g := gb340) (o := .cells #[.int .i64 t324, .int .i64 t325, .int .i64 t326, .int .i64 t327, .int .i64 t328, .int .i64 t329, .int .i64 t330, .int .i64 t331, .int .i64 t332, .int .i64 t333, .int .i64 t334, .int .i64 t335, .int .i64 t336, .int .i64 t337, .int .i64 t338] 29 (0, 0)) (by (with_reducible repeat (first | refine blk_drewN ?_ _ | refine blk_drew ?_ | refine blk_alloc ?_ _)); exact BK340.out) hb); have n2_ := Aside0.mk (below_step (by repeat (first | (with_reducible first | exact HB.out | apply below_alloc | apply pw_below_drewN | apply below_drew1 | refine below_set ?_ GE323.out | refine below_set ?_ GE340.out) | exact HB.out)) hb); clear BK323; clear BK340; clear HB; have BK323 := n0_; have BK340 := n1_; have HB := n2_; clear n0_ n1_ n2_; (try clear hb); (try clear hb2); (try clear hk); (try clear hi); have hnb68 := NB323_340.out; have hnc68 := NB340_323.out; have hcz69_0 : w67.cell? ⟨gb323, 0, none⟩ = some (.int .i64 t307) := (blk_cell BK323.out 0).trans rfl; have hcz69_1 : w67.cell? ⟨gb323, 1, none⟩ = some (.int .i64 t308) := (blk_cell BK323.out 1).trans rfl; have hcz69_2 : w67.cell? ⟨gb323, 2, none⟩ = some (.int .i64 t309) := (blk_cell BK323.out 2).trans rfl; have hcz69_3 : w67.cell? ⟨gb323, 3, none⟩ = some (.int .i64 t310) := (blk_cell BK323.out 3).trans rfl; have hcz69_4 : w67.cell? ⟨gb323, 4, none⟩ = some (.int .i64 t311) := (blk_cell BK323.out 4).trans rfl; have hcz69_5 : w67.cell? ⟨gb323, 5, none⟩ = some (.int .i64 t312) := (blk_cell BK323.out 5).trans rfl; have hcz69_6 : w67.cell? ⟨gb323, 6, none⟩ = some (.int .i64 t313) := (blk_cell BK323.out 6).trans rfl; have hcz69_7 : w67.cell? ⟨gb323, 7, none⟩ = some (.int .i64 t314) := (blk_cell BK323.out 7).trans rfl; have hcz69_8 : w67.cell? ⟨gb323, 8, none⟩ = some (.int .i64 t315) := (blk_cell BK323.out 8).trans rfl; have hcz69_9 : w67.cell? ⟨gb323, 9, none⟩ = some (.int .i64 t316) := (blk_cell BK323.out 9).trans rfl; have hcz69_10 : w67.cell? ⟨gb323, 10, none⟩ = some (.int .i64 t317) := (blk_cell BK323.out 10).trans rfl; have hcz69_11 : w67.cell? ⟨gb323, 11, none⟩ = some (.int .i64 t318) := (blk_cell BK323.out 11).trans rfl; have hcz69_12 : w67.cell? ⟨gb323, 12, none⟩ = some (.int .i64 t319) := (blk_cell BK323.out 12).trans rfl; have hcz69_13 : w67.cell? ⟨gb323, 13, none⟩ = some (.int .i64 t320) := (blk_cell BK323.out 13).trans rfl; have hcz69_14 : w67.cell? ⟨gb323, 14, none⟩ = some (.int .i64 t321) := (blk_cell BK323.out 14).trans rfl; have hfz69_0 := blk_frozen BK323.out 0; have hfz69_1 := blk_frozen BK323.out 1; have hfz69_2 := blk_frozen BK323.out 2; have hfz69_3 := blk_frozen BK323.out 3; have hfz69_4 := blk_frozen BK323.out 4; have hfz69_5 := blk_frozen BK323.out 5; have hfz69_6 := blk_frozen BK323.out 6; have hfz69_7 := blk_frozen BK323.out 7; have hfz69_8 := blk_frozen BK323.out 8; have hfz69_9 := blk_frozen BK323.out 9; have hfz69_10 := blk_frozen BK323.out 10; have hfz69_11 := blk_frozen BK323.out 11; have hfz69_12 := blk_frozen BK323.out 12; have hfz69_13 := blk_frozen BK323.out 13; have hfz69_14 := blk_frozen BK323.out 14) | (go_at_call 16; (with_reducible refine (slope_Grade.calls kj52 t307 t308 t309 t310 t311 t312 t313 t314 t315 t316 t317 t318 t319 t320 t321 t344 _ A59.out).mono ?_); rintro e w70 ⟨rfl, hb⟩; have n0_ := Aside0.mk (blk_below (g := gb323) (o := .cells #[.int .i64 t307, .int .i64 t308, .int .i64 t309, .int .i64 t310, .int .i64 t311, .int .i64 t312, .int .i64 t313, .int .i64 t314, .int .i64 t315, .int .i64 t316, .int .i64 t317, .int .i64 t318, .int .i64 t319, .int .i64 t320, .int .i64 t321] 29 (0, 0)) (by (with_reducible repeat (first | refine blk_drewN ?_ _ | refine blk_drew ?_ | refine blk_alloc ?_ _)); exact BK323.out) hb); have n1_ := Aside0.mk (blk_below (g := gb340) (o := .cells #[.int .i64 t324, .int .i64 t325, .int .i64 t326, .int .i64 t327, .int .i64 t328, .int .i64 t329, .int .i64 t330, .int .i64 t331, .int .i64 t332, .int .i64 t333, .int .i64 t334, .int .i64 t335, .int .i64 t336, .int .i64 t337, .int .i64 t338] 29 (0, 0)) (by (with_reducible repeat (first | refine blk_drewN ?_ _ | refine blk_drew ?_ | refine blk_alloc ?_ _)); exact BK340.out) hb); have n2_ := Aside0.mk (below_step (by repeat (first | (with_reducible first | exact HB.out | apply below_alloc | apply pw_below_drewN | apply below_drew1 | refine below_set ?_ GE323.out | refine below_set ?_ GE340.out) | exact HB.out)) hb); clear BK323; clear BK340; clear HB; have BK323 := n0_; have BK340 := n1_; have HB := n2_; clear n0_ n1_ n2_; (try clear hb); (try clear hb2); (try clear hk); (try clear hi); have hcz71_0 : w70.cell? ⟨gb340, 0, none⟩ = some (.int .i64 t324) := (blk_cell BK340.out 0).trans rfl; have hcz71_1 : w70.cell? ⟨gb340, 1, none⟩ = some (.int .i64 t325) := (blk_cell BK340.out 1).trans rfl; have hcz71_2 : w70.cell? ⟨gb340, 2, none⟩ = some (.int .i64 t326) := (blk_cell BK340.out 2).trans rfl; have hcz71_3 : w70.cell? ⟨gb340, 3, none⟩ = some (.int .i64 t327) := (blk_cell BK340.out 3).trans rfl; have hcz71_4 : w70.cell? ⟨gb340, 4, none⟩ = some (.int .i64 t328) := (blk_cell BK340.out 4).trans rfl; have hcz71_5 : w70.cell? ⟨gb340, 5, none⟩ = some (.int .i64 t329) := (blk_cell BK340.out 5).trans rfl; have hcz71_6 : w70.cell? ⟨gb340, 6, none⟩ = some (.int .i64 t330) := (blk_cell BK340.out 6).trans rfl; have hcz71_7 : w70.cell? ⟨gb340, 7, none⟩ = some (.int .i64 t331) := (blk_cell BK340.out 7).trans rfl; have hcz71_8 : w70.cell? ⟨gb340, 8, none⟩ = some (.int .i64 t332) := (blk_cell BK340.out 8).trans rfl; have hcz71_9 : w70.cell? ⟨gb340, 9, none⟩ = some (.int .i64 t333) := (blk_cell BK340.out 9).trans rfl; have hcz71_10 : w70.cell? ⟨gb340, 10, none⟩ = some (.int .i64 t334) := (blk_cell BK340.out 10).trans rfl; have hcz71_11 : w70.cell? ⟨gb340, 11, none⟩ = some (.int .i64 t335) := (blk_cell BK340.out 11).trans rfl; have hcz71_12 : w70.cell? ⟨gb340, 12, none⟩ = some (.int .i64 t336) := (blk_cell BK340.out 12).trans rfl; have hcz71_13 : w70.cell? ⟨gb340, 13, none⟩ = some (.int .i64 t337) := (blk_cell BK340.out 13).trans rfl; have hcz71_14 : w70.cell? ⟨gb340, 14, none⟩ = some (.int .i64 t338) := (blk_cell BK340.out 14).trans rfl; have hfz71_0 := blk_frozen BK340.out 0; have hfz71_1 := blk_frozen BK340.out 1; have hfz71_2 := blk_frozen BK340.out 2; have hfz71_3 := blk_frozen BK340.out 3; have hfz71_4 := blk_frozen BK340.out 4; have hfz71_5 := blk_frozen BK340.out 5; have hfz71_6 := blk_frozen BK340.out 6; have hfz71_7 := blk_frozen BK340.out 7; have hfz71_8 := blk_frozen BK340.out 8; have hfz71_9 := blk_frozen BK340.out 9; have hfz71_10 := blk_frozen BK340.out 10; have hfz71_11 := blk_frozen BK340.out 11; have hfz71_12 := blk_frozen BK340.out 12; have hfz71_13 := blk_frozen BK340.out 13; have hfz71_14 := blk_frozen BK340.out 14) | (go_at_call 16; (with_reducible refine (slope_Grade.calls kj52 t324 t325 t326 t327 t328 t329 t330 t331 t332 t333 t334 t335 t336 t337 t338 t345 _ A61.out).mono ?_); rintro e w72 ⟨rfl, hb⟩; have n0_ := Aside0.mk (blk_below (g := gb323) (o := .cells #[.int .i64 t307, .int .i64 t308, .int .i64 t309, .int .i64 t310, .int .i64 t311, .int .i64 t312, .int .i64 t313, .int .i64 t314, .int .i64 t315, .int .i64 t316, .int .i64 t317, .int .i64 t318, .int .i64 t319, .int .i64 t320, .int .i64 t321] 29 (0, 0)) (by (with_reducible repeat (first | refine blk_drewN ?_ _ | refine blk_drew ?_ | refine blk_alloc ?_ _)); exact BK323.out) hb); have n1_ := Aside0.mk (blk_below (g := gb340) (o := .cells #[.int .i64 t324, .int .i64 t325, .int .i64 t326, .int .i64 t327, .int .i64 t328, .int .i64 t329, .int .i64 t330, .int .i64 t331, .int .i64 t332, .int .i64 t333, .int .i64 t334, .int .i64 t335, .int .i64 t336, .int .i64 t337, .int .i64 t338] 29 (0, 0)) (by (with_reducible repeat (first | refine blk_drewN ?_ _ | refine blk_drew ?_ | refine blk_alloc ?_ _)); exact BK340.out) hb); have n2_ := Aside0.mk (below_step (by repeat (first | (with_reducible first | exact HB.out | apply below_alloc | apply pw_below_drewN | apply below_drew1 | refine below_set ?_ GE323.out | refine below_set ?_ GE340.out) | exact HB.out)) hb); clear BK323; clear BK340; clear HB; have BK323 := n0_; have BK340 := n1_; have HB := n2_; clear n0_ n1_ n2_; (try clear hb); (try clear hb2); (try clear hk); (try clear hi); have hcz73_0 : w72.cell? ⟨gb340, 0, none⟩ = some (.int .i64 t324) := (blk_cell BK340.out 0).trans rfl; have hcz73_1 : w72.cell? ⟨gb340, 1, none⟩ = some (.int .i64 t325) := (blk_cell BK340.out 1).trans rfl; have hcz73_2 : w72.cell? ⟨gb340, 2, none⟩ = some (.int .i64 t326) := (blk_cell BK340.out 2).trans rfl; have hcz73_3 : w72.cell? ⟨gb340, 3, none⟩ = some (.int .i64 t327) := (blk_cell BK340.out 3).trans rfl; have hcz73_4 : w72.cell? ⟨gb340, 4, none⟩ = some (.int .i64 t328) := (blk_cell BK340.out 4).trans rfl; have hcz73_5 : w72.cell? ⟨gb340, 5, none⟩ = some (.int .i64 t329) := (blk_cell BK340.out 5).trans rfl; have hcz73_6 : w72.cell? ⟨gb340, 6, none⟩ = some (.int .i64 t330) := (blk_cell BK340.out 6).trans rfl; have hcz73_7 : w72.cell? ⟨gb340, 7, none⟩ = some (.int .i64 t331) := (blk_cell BK340.out 7).trans rfl; have hcz73_8 : w72.cell? ⟨gb340, 8, none⟩ = some (.int .i64 t332) := (blk_cell BK340.out 8).trans rfl; have hcz73_9 : w72.cell? ⟨gb340, 9, none⟩ = some (.int .i64 t333) := (blk_cell BK340.out 9).trans rfl; have hcz73_10 : w72.cell? ⟨gb340, 10, none⟩ = some (.int .i64 t334) := (blk_cell BK340.out 10).trans rfl; have hcz73_11 : w72.cell? ⟨gb340, 11, none⟩ = some (.int .i64 t335) := (blk_cell BK340.out 11).trans rfl; have hcz73_12 : w72.cell? ⟨gb340, 12, none⟩ = some (.int .i64 t336) := (blk_cell BK340.out 12).trans rfl; have hcz73_13 : w72.cell? ⟨gb340, 13, none⟩ = some (.int .i64 t337) := (blk_cell BK340.out 13).trans rfl; have hcz73_14 : w72.cell? ⟨gb340, 14, none⟩ = some (.int .i64 t338) := (blk_cell BK340.out 14).trans rfl; have hfz73_0 := blk_frozen BK340.out 0; have hfz73_1 := blk_frozen BK340.out 1; have hfz73_2 := blk_frozen BK340.out 2; have hfz73_3 := blk_frozen BK340.out 3; have hfz73_4 := blk_frozen BK340.out 4; have hfz73_5 := blk_frozen BK340.out 5; have hfz73_6 := blk_frozen BK340.out 6; have hfz73_7 := blk_frozen BK340.out 7; have hfz73_8 := blk_frozen BK340.out 8; have hfz73_9 := blk_frozen BK340.out 9; have hfz73_10 := blk_frozen BK340.out 10; have hfz73_11 := blk_frozen BK340.out 11; have hfz73_12 := blk_frozen BK340.out 12; have hfz73_13 := blk_frozen BK340.out 13; have hfz73_14 := blk_frozen BK340.out 14) | (go_at_call 14; (with_reducible refine (slope_Dev.calls kj52 t324 t325 t326 t327 t328 t329 t330 t331 t332 t333 t334 t335 t336 t337 t338 t346 _ A63.out).mono ?_); rintro e w74 ⟨rfl, hb⟩; have n0_ := Aside0.mk (blk_below (g := gb323) (o := .cells #[.int .i64 t307, .int .i64 t308, .int .i64 t309, .int .i64 t310, .int .i64 t311, .int .i64 t312, .int .i64 t313, .int .i64 t314, .int .i64 t315, .int .i64 t316, .int .i64 t317, .int .i64 t318, .int .i64 t319, .int .i64 t320, .int .i64 t321] 29 (0, 0)) (by (with_reducible repeat (first | refine blk_drewN ?_ _ | refine blk_drew ?_ | refine blk_alloc ?_ _)); exact BK323.out) hb); have n1_ := Aside0.mk (blk_below (g := gb340) (o := .cells #[.int .i64 t324, .int .i64 t325, .int .i64 t326, .int .i64 t327, .int .i64 t328, .int .i64 t329, .int .i64 t330, .int .i64 t331, .int .i64 t332, .int .i64 t333, .int .i64 t334, .int .i64 t335, .int .i64 t336, .int .i64 t337, .int .i64 t338] 29 (0, 0)) (by (with_reducible repeat (first | refine blk_drewN ?_ _ | refine blk_drew ?_ | refine blk_alloc ?_ _)); exact BK340.out) hb); have n2_ := Aside0.mk (below_step (by repeat (first | (with_reducible first | exact HB.out | apply below_alloc | apply pw_below_drewN | apply below_drew1 | refine below_set ?_ GE323.out | refine below_set ?_ GE340.out) | exact HB.out)) hb); clear BK323; clear BK340; clear HB; have BK323 := n0_; have BK340 := n1_; have HB := n2_; clear n0_ n1_ n2_; (try clear hb); (try clear hb2); (try clear hk); (try clear hi); have hcz75_0 : w74.cell? ⟨gb340, 0, none⟩ = some (.int .i64 t324) := (blk_cell BK340.out 0).trans rfl; have hcz75_1 : w74.cell? ⟨gb340, 1, none⟩ = some (.int .i64 t325) := (blk_cell BK340.out 1).trans rfl; have hcz75_2 : w74.cell? ⟨gb340, 2, none⟩ = some (.int .i64 t326) := (blk_cell BK340.out 2).trans rfl; have hcz75_3 : w74.cell? ⟨gb340, 3, none⟩ = some (.int .i64 t327) := (blk_cell BK340.out 3).trans rfl; have hcz75_4 : w74.cell? ⟨gb340, 4, none⟩ = some (.int .i64 t328) := (blk_cell BK340.out 4).trans rfl; have hcz75_5 : w74.cell? ⟨gb340, 5, none⟩ = some (.int .i64 t329) := (blk_cell BK340.out 5).trans rfl; have hcz75_6 : w74.cell? ⟨gb340, 6, none⟩ = some (.int .i64 t330) := (blk_cell BK340.out 6).trans rfl; have hcz75_7 : w74.cell? ⟨gb340, 7, none⟩ = some (.int .i64 t331) := (blk_cell BK340.out 7).trans rfl; have hcz75_8 : w74.cell? ⟨gb340, 8, none⟩ = some (.int .i64 t332) := (blk_cell BK340.out 8).trans rfl; have hcz75_9 : w74.cell? ⟨gb340, 9, none⟩ = some (.int .i64 t333) := (blk_cell BK340.out 9).trans rfl; have hcz75_10 : w74.cell? ⟨gb340, 10, none⟩ = some (.int .i64 t334) := (blk_cell BK340.out 10).trans rfl; have hcz75_11 : w74.cell? ⟨gb340, 11, none⟩ = some (.int .i64 t335) := (blk_cell BK340.out 11).trans rfl; have hcz75_12 : w74.cell? ⟨gb340, 12, none⟩ = some (.int .i64 t336) := (blk_cell BK340.out 12).trans rfl; have hcz75_13 : w74.cell? ⟨gb340, 13, none⟩ = some (.int .i64 t337) := (blk_cell BK340.out 13).trans rfl; have hcz75_14 : w74.cell? ⟨gb340, 14, none⟩ = some (.int .i64 t338) := (blk_cell BK340.out 14).trans rfl; have hfz75_0 := blk_frozen BK340.out 0; have hfz75_1 := blk_frozen BK340.out 1; have hfz75_2 := blk_frozen BK340.out 2; have hfz75_3 := blk_frozen BK340.out 3; have hfz75_4 := blk_frozen BK340.out 4; have hfz75_5 := blk_frozen BK340.out 5; have hfz75_6 := blk_frozen BK340.out 6; have hfz75_7 := blk_frozen BK340.out 7; have hfz75_8 := blk_frozen BK340.out 8; have hfz75_9 := blk_frozen BK340.out 9; have hfz75_10 := blk_frozen BK340.out 10; have hfz75_11 := blk_frozen BK340.out 11; have hfz75_12 := blk_frozen BK340.out 12; have hfz75_13 := blk_frozen BK340.out 13; have hfz75_14 := blk_frozen BK340.out 14) | (go_at_call 12; (with_reducible refine (slope_Mean.calls kj52 t324 t325 t326 t327 t328 t329 t330 t331 t332 t333 t334 t335 t336 t337 t338 t347 _ A65.out).mono ?_); rintro e w76 ⟨rfl, hb⟩; have n0_ := Aside0.mk (blk_below (g := gb323) (o := .cells #[.int .i64 t307, .int .i64 t308, .int .i64 t309, .int .i64 t310, .int .i64 t311, .int .i64 t312, .int .i64 t313, .int .i64 t314, .int .i64 t315, .int .i64 t316, .int .i64 t317, .int .i64 t318, .int .i64 t319, .int .i64 t320, .int .i64 t321] 29 (0, 0)) (by (with_reducible repeat (first | refine blk_drewN ?_ _ | refine blk_drew ?_ | refine blk_alloc ?_ _)); exact BK323.out) hb); have n1_ := Aside0.mk (blk_below (g := gb340) (o := .cells #[.int .i64 t324, .int .i64 t325, .int .i64 t326, .int .i64 t327, .int .i64 t328, .int .i64 t329, .int .i64 t330, .int .i64 t331, .int .i64 t332, .int .i64 t333, .int .i64 t334, .int .i64 t335, .int .i64 t336, .int .i64 t337, .int .i64 t338] 29 (0, 0)) (by (with_reducible repeat (first | refine blk_drewN ?_ _ | refine blk_drew ?_ | refine blk_alloc ?_ _)); exact BK340.out) hb); have n2_ := Aside0.mk (below_step (by repeat (first | (with_reducible first | exact HB.out | apply below_alloc | apply pw_below_drewN | apply below_drew1 | refine below_set ?_ GE323.out | refine below_set ?_ GE340.out) | exact HB.out)) hb); clear BK323; clear BK340; clear HB; have BK323 := n0_; have BK340 := n1_; have HB := n2_; clear n0_ n1_ n2_; (try clear hb); (try clear hb2); (try clear hk); (try clear hi)) | (go_at_call 19; (with_reducible refine (fix_Of.calls a1 t348 _ A66.out).mono ?_); rintro e w77 ⟨rfl, hb⟩; have n0_ := Aside0.mk (blk_below (g := gb323) (o := .cells #[.int .i64 t307, .int .i64 t308, .int .i64 t309, .int .i64 t310, .int .i64 t311, .int .i64 t312, .int .i64 t313, .int .i64 t314, .int .i64 t315, .int .i64 t316, .int .i64 t317, .int .i64 t318, .int .i64 t319, .int .i64 t320, .int .i64 t321] 29 (0, 0)) (by (with_reducible repeat (first | refine blk_drewN ?_ _ | refine blk_drew ?_ | refine blk_alloc ?_ _)); exact BK323.out) hb); have n1_ := Aside0.mk (blk_below (g := gb340) (o := .cells #[.int .i64 t324, .int .i64 t325, .int .i64 t326, .int .i64 t327, .int .i64 t328, .int .i64 t329, .int .i64 t330, .int .i64 t331, .int .i64 t332, .int .i64 t333, .int .i64 t334, .int .i64 t335, .int .i64 t336, .int .i64 t337, .int .i64 t338] 29 (0, 0)) (by (with_reducible repeat (first | refine blk_drewN ?_ _ | refine blk_drew ?_ | refine blk_alloc ?_ _)); exact BK340.out) hb); have n2_ := Aside0.mk (below_step (by repeat (first | (with_reducible first | exact HB.out | apply below_alloc | apply pw_below_drewN | apply below_drew1 | refine below_set ?_ GE323.out | refine below_set ?_ GE340.out) | exact HB.out)) hb); clear BK323; clear BK340; clear HB; have BK323 := n0_; have BK340 := n1_; have HB := n2_; clear n0_ n1_ n2_; (try clear hb); (try clear hb2); (try clear hk); (try clear hi)))
            go_ret
            have hlast := HL_.out
            exact ⟨by first | rfl | (simp [errW_none, errW_some] <;> rfl) | (simp [*, errW_none, errW_some] <;> rfl), by repeat (first | (with_reducible first | exact HB.out | apply below_alloc | apply pw_below_drewN | apply below_drew1 | refine below_set ?_ GE323.out | refine below_set ?_ GE340.out) | exact HB.out)⟩
      · rw [if_neg c64] at H
        have c64b0 : (t346 == 0) = false := beq_eq_false_iff_ne.mpr c64
        have c64b1 : (t346 != 0) = true := bne_iff_ne.mpr c64
        exact absurd (Option.some.inj H) (by decide)
    · rw [if_neg c62] at H
      have c62b0 : (t345 == 0) = false := beq_eq_false_iff_ne.mpr c62
      have c62b1 : (t345 != 0) = true := bne_iff_ne.mpr c62
      exact absurd (Option.some.inj H) (by decide)
  · rw [if_neg c60] at H
    have c60b0 : (t344 == x15_52) = false := beq_eq_false_iff_ne.mpr c60
    have c60b1 : (t344 != x15_52) = true := bne_iff_ne.mpr c60
    exact absurd (Option.some.inj H) (by decide)
end Go.Proofs.Ytlokmliannklaaa.Print
end
