/- Printed by a program of this session: functions of the law and their walks. -/
import Derived.Test.YtlokmliannklaaaQP0
import Derived.Test.YtlokmliannklaaaQPrint2
import Derived.Test.YtlokmliannklaaaQPrint4
import Derived.Test.YtlokmliannklaaaQPrint5
import Derived.Test.YtlokmliannklaaaQFitted
section
namespace Go.Proofs.Ytlokmliannklaaa.Print
open Go.RowKit Go.Proofs.YtlokmliannklaaaW.PrintWords Go.Proofs.YtlokmliannklaaaW.PrintLast Go.Proofs.YtlokmliannklaaaW.PrintMore
attribute [local go_sem] max2_int min2_int max_two min_two max_three min_three max_four min_four   -- for this text's walks alone
set_option linter.unusedVariables false
set_option linter.unusedSimpArgs false

/-! ### pacemakerlaw10_SlopeRatios: function 3 -/
def pacemakerlaw10_SlopeRatios.f (k : Nat) (D0 : Int) (D1 : Int) (a1_0 : Int) (a1_1 : Int) : Option (Bool) := (pacemakerlaw10_fitted.f).bind fun t166 => (if t166 = true then ((slope_Ratio.f D0 D1 a1_0 a1_1).bind fun t167 => ((pacemakerref10_Ratio.f k D0 D1 a1_0 a1_1).bind fun t168 => (some (t167 == t168)))) else (some false))
def pacemakerlaw10_SlopeRatios.T1 : Bool × List (List Nat × List Nat) := (true, [([], []), ([0, 0], [0]), ([1], [1]), ([1], [1]), ([2, 3, 1, 1], [1, 2, 3]), ([1], [1]), ([1], [1]), ([5, 6, 4, 1], [1, 5, 6]), ([4, 7, 1], [1, 4, 7]), ([1, 8], [1, 8]), ([9, 7, 0, 1, 2, 3, 4, 5, 6, 7, 8, 9], [9])])
def pacemakerlaw10_SlopeRatios.B1 : List Nat := [0, 1, 3, 3, 15, 3, 3, 127, 255, 511, 1023]
theorem pacemakerlaw10_SlopeRatios.tab1 : rtab .any (opsOf Try.f3 1) = pacemakerlaw10_SlopeRatios.T1 := by kernel_rfl
theorem pacemakerlaw10_SlopeRatios.bits1 : waitsOk pacemakerlaw10_SlopeRatios.T1.2 pacemakerlaw10_SlopeRatios.B1 = true := by kernel_rfl
set_option maxHeartbeats 8000000 in
set_option maxRecDepth 100000 in
theorem pacemakerlaw10_SlopeRatios.calls (k : Nat) (D0 : Int) (D1 : Int) (a1_0 : Int) (a1_1 : Int) (w : World) (h : pacemakerlaw10_SlopeRatios.f k D0 D1 a1_0 a1_1 = some true) :
    Calls Try.prog 3 #[.agg #[.int .u64 D0, .int .u64 D1], .agg #[.int .u64 a1_0, .int .u64 a1_1]] w fun e w' => e = .returned (.bool true) ∧ Below w.heap.size w w' := by
  have hu24 := Try.underlying24
  have HB := Aside0.mk (Below.refl w.heap.size w)
  have H : ((pacemakerlaw10_fitted.f).bind fun t166 => (if t166 = true then ((slope_Ratio.f D0 D1 a1_0 a1_1).bind fun t167 => ((pacemakerref10_Ratio.f k D0 D1 a1_0 a1_1).bind fun t168 => (some (t167 == t168)))) else (some false))) = some true := h
  clear h
  replace H := Option.bind_eq_some_iff.mp H
  obtain ⟨t166, A30, H⟩ := H
  try dsimp only at H
  have A3 := Aside0.mk A30
  clear A30
  by_cases c4 : t166 = true
  · subst c4
    rw [if_pos rfl] at H
    replace H := Option.bind_eq_some_iff.mp H
    obtain ⟨t167, A50, H⟩ := H
    try dsimp only at H
    have A5 := Aside0.mk A50
    clear A50
    replace H := Option.bind_eq_some_iff.mp H
    obtain ⟨t168, A60, H⟩ := H
    try dsimp only at H
    have A6 := Aside0.mk A60
    clear A60
    first
      | exact absurd (Option.some.inj H) (by decide)
      | have HL_ := Aside0.mk (Option.some.inj H)
        clear H
        go_enter Try.func3, Try.ntmps3
        try go_wp2_with (first | ((with_reducible refine gate_dst (N := 2) rfl ?_); refine box_event ?hg (N := 2) ?hd (cs := #[.int .u64 D0, .int .u64 D1]) (t := 24) ?hr ?_; (case hd => rfl); (case hg => rfl); (case hr => first | (go_simp; done) | (go_simp; rfl)); intro gb164 hg w7 hbox hb; have n0_ := Aside0.mk (below_step (by repeat (first | (with_reducible first | exact HB.out | apply below_alloc | apply pw_below_drewN | apply below_drew1) | exact HB.out)) hb); have n1_ := Aside0.mk (hbox); have n2_ := Aside0.mk ((by rw [hg]; exact (below_size (by repeat (first | (with_reducible first | exact HB.out | apply below_alloc | apply pw_below_drewN | apply below_drew1) | exact HB.out))) : w.heap.size ≤ gb164)); have n3_ := Aside0.mk ((by rw [hg]; exact (below_size (by repeat (first | (with_reducible first | exact HB.out | apply below_alloc | apply pw_below_drewN | apply below_drew1) | exact HB.out))) : w.heap.size ≤ gb164)); clear HB; have HB := n0_; have BK164 := n1_; have GW164 := n2_; have GE164 := n3_; clear n0_ n1_ n2_ n3_; clear hb hbox hg) | ((with_reducible refine gate_dst (N := 3) rfl ?_); refine box_event ?hg (N := 3) ?hd (cs := #[.int .u64 a1_0, .int .u64 a1_1]) (t := 24) ?hr ?_; (case hd => rfl); (case hg => rfl); (case hr => first | (go_simp; done) | (go_simp; rfl)); intro gb165 hg w8 hbox hb; have n0_ := Aside0.mk (blk_below (g := gb164) (o := .cells #[.int .u64 D0, .int .u64 D1] 24 (0, 0)) (by (with_reducible repeat (first | refine blk_drewN ?_ _ | refine blk_drew ?_ | refine blk_alloc ?_ _)); exact BK164.out) hb); have n1_ := Aside0.mk (below_step (by repeat (first | (with_reducible first | exact HB.out | apply below_alloc | apply pw_below_drewN | apply below_drew1 | refine below_set ?_ GE164.out) | exact HB.out)) hb); have n2_ := Aside0.mk (hbox); have n3_ := Aside0.mk ((by rw [hg]; exact (below_size (by repeat (first | (with_reducible first | exact HB.out | apply below_alloc | apply pw_below_drewN | apply below_drew1 | refine below_set ?_ GE164.out) | exact HB.out))) : w.heap.size ≤ gb165)); have n4_ := Aside0.mk ((by rw [hg]; exact (below_size (by repeat (first | (with_reducible first | exact HB.out | apply below_alloc | apply pw_below_drewN | apply below_drew1 | refine below_set ?_ GE164.out) | exact HB.out))) : w.heap.size ≤ gb165)); have n5_ := Aside0.mk ((by rw [hg]; exact Nat.ne_of_lt (blk_lt (g := gb164) (o := .cells #[.int .u64 D0, .int .u64 D1] 24 (0, 0)) (by (with_reducible repeat (first | refine blk_drewN ?_ _ | refine blk_drew ?_ | refine blk_alloc ?_ _)); exact BK164.out)) : gb164 ≠ gb165)); have n6_ := Aside0.mk ((by rw [hg]; exact Nat.ne_of_gt (blk_lt (g := gb164) (o := .cells #[.int .u64 D0, .int .u64 D1] 24 (0, 0)) (by (with_reducible repeat (first | refine blk_drewN ?_ _ | refine blk_drew ?_ | refine blk_alloc ?_ _)); exact BK164.out)) : gb165 ≠ gb164)); clear BK164; clear HB; have BK164 := n0_; have HB := n1_; have BK165 := n2_; have GW165 := n3_; have GE165 := n4_; have NB164_165 := n5_; have NB165_164 := n6_; clear n0_ n1_ n2_ n3_ n4_ n5_ n6_; clear hb hbox hg))
        have n0_ := Aside0.mk (blk_drew BK164.out)
        have n1_ := Aside0.mk (blk_drew BK165.out)
        have n2_ := Aside0.mk (below_drew1 HB.out)
        clear BK164
        clear BK165
        clear HB
        have BK164 := n0_
        have BK165 := n1_
        have HB := n2_
        clear n0_ n1_ n2_
        refine start_ (n := 11) (S := fun w' => w'.cell? ⟨gb164, 0, none⟩ = some (.int .u64 D0) ∧ w'.cell? ⟨gb164, 1, none⟩ = some (.int .u64 D1) ∧ w'.cell? ⟨gb165, 0, none⟩ = some (.int .u64 a1_0) ∧ w'.cell? ⟨gb165, 1, none⟩ = some (.int .u64 a1_1)) (ds := []) #[false, false, false, false, false, false, false, false, false, false, false] (by kernel_rfl) rfl rfl ⟨(blk_cell BK164.out 0).trans rfl, (blk_cell BK164.out 1).trans rfl, (blk_cell BK165.out 0).trans rfl, (blk_cell BK165.out 1).trans rfl⟩ (fun hHeld => ?_); refine with_tabW pacemakerlaw10_SlopeRatios.tab1 pacemakerlaw10_SlopeRatios.bits1 (fun HT_ HW_ => ?_)
        generalize w8.drew = w9 at BK164 BK165 HB hHeld ⊢
        refine one_ (i := 0) (N := some 5) #[true, false, false, false, false, false, false, false, false, false, false] rfl rfl (one_of HT_.out (by kernel_rfl)) (by decide) (fun K hK => ?_)
        refine goes_ Try.func9 (by kernel_rfl) rfl #[] (by rfl) rfl rfl (by (try simp only [List.map_toArray, List.map_cons, List.map_nil]); first | done | rfl | (simp only [List.length_drop, List.length_take]; rfl)) ?_
        with_reducible refine (pacemakerlaw10_fitted.calls  true _ A3.out).mono ?_
        rintro e w10 ⟨rfl, hb⟩
        refine ⟨_, rfl, ?_⟩
        have n0_ := Aside0.mk (blk_below (g := gb164) (o := .cells #[.int .u64 D0, .int .u64 D1] 24 (0, 0)) (by (with_reducible repeat (first | refine blk_drewN ?_ _ | refine blk_drew ?_ | refine blk_alloc ?_ _)); exact BK164.out) hb)
        have n1_ := Aside0.mk (blk_below (g := gb165) (o := .cells #[.int .u64 a1_0, .int .u64 a1_1] 24 (0, 0)) (by (with_reducible repeat (first | refine blk_drewN ?_ _ | refine blk_drew ?_ | refine blk_alloc ?_ _)); exact BK165.out) hb)
        have n2_ := Aside0.mk (below_step (by repeat (first | (with_reducible first | exact HB.out | apply below_alloc | apply pw_below_drewN | apply below_drew1 | refine below_set ?_ GE164.out | refine below_set ?_ GE165.out) | exact HB.out)) hb)
        clear BK164
        clear BK165
        clear HB
        have BK164 := n0_
        have BK165 := n1_
        have HB := n2_
        clear n0_ n1_ n2_
        (try clear hb)
        (try clear hb2)
        (try clear hk)
        (try clear hi)
        refine hK.out _ _ ⟨(blk_cell BK164.out 0).trans rfl, (blk_cell BK164.out 1).trans rfl, (blk_cell BK165.out 0).trans rfl, (blk_cell BK165.out 1).trans rfl⟩ (fun hHeld => ?_)
        clear hK K
        refine norm_ (a' := ?_) ?_ ?_
        rotate_left
        · show Act.put _ (some 5) _ = _
          simp only [Act.put, List.setIfInBounds_toArray, List.set_cons_zero, List.set_cons_succ, i64_w, i32_w]
          rfl
        refine pure_ (i := 1) (N := some 6) (v := ?_) (a' := ?_) #[true, true, false, false, false, false, false, false, false, false, false] rfl rfl (any_of HT_.out (by kernel_rfl)) (fun _ _ _ h => h) (Or.inl ⟨by rfl, ?_⟩) ?_ ?_
        rotate_left
        · intro w'
          go_simp
          with_reducible rfl
        rotate_left
        · simp only [Act.put, List.setIfInBounds_toArray, List.set_cons_zero, List.set_cons_succ, i64_w, i32_w]
          rfl
        refine take_ (i := 2) (N := some 7) (v := ?_) (a' := ?_) #[true, true, true, false, false, false, false, false, false, false, false] rfl rfl (take_ofW HT_.out HW_.out (by kernel_rfl)) (fun _ _ _ h => h) (Or.inl ⟨by rfl, ?_⟩) hHeld ?_ ?_
        rotate_left
        · rintro w' ⟨s0, s1, s2, s3⟩
          go_simp
          with_reducible rfl
        rotate_left
        · simp only [Act.put, List.setIfInBounds_toArray, List.set_cons_zero, List.set_cons_succ, i64_w, i32_w]
          rfl
        refine take_ (i := 3) (N := some 8) (v := ?_) (a' := ?_) #[true, true, true, true, false, false, false, false, false, false, false] rfl rfl (take_ofW HT_.out HW_.out (by kernel_rfl)) (fun _ _ _ h => h) (Or.inl ⟨by rfl, ?_⟩) hHeld ?_ ?_
        rotate_left
        · rintro w' ⟨s0, s1, s2, s3⟩
          go_simp
          with_reducible rfl
        rotate_left
        · simp only [Act.put, List.setIfInBounds_toArray, List.set_cons_zero, List.set_cons_succ, i64_w, i32_w]
          rfl
        refine take_ (i := 5) (N := some 10) (v := ?_) (a' := ?_) #[true, true, true, true, false, true, false, false, false, false, false] rfl rfl (take_ofW HT_.out HW_.out (by kernel_rfl)) (fun _ _ _ h => h) (Or.inl ⟨by rfl, ?_⟩) hHeld ?_ ?_
        rotate_left
        · rintro w' ⟨s0, s1, s2, s3⟩
          go_simp
          with_reducible rfl
        rotate_left
        · simp only [Act.put, List.setIfInBounds_toArray, List.set_cons_zero, List.set_cons_succ, i64_w, i32_w]
          rfl
        refine take_ (i := 6) (N := some 11) (v := ?_) (a' := ?_) #[true, true, true, true, false, true, true, false, false, false, false] rfl rfl (take_ofW HT_.out HW_.out (by kernel_rfl)) (fun _ _ _ h => h) (Or.inl ⟨by rfl, ?_⟩) hHeld ?_ ?_
        rotate_left
        · rintro w' ⟨s0, s1, s2, s3⟩
          go_simp
          with_reducible rfl
        rotate_left
        · simp only [Act.put, List.setIfInBounds_toArray, List.set_cons_zero, List.set_cons_succ, i64_w, i32_w]
          rfl
        refine one_ (i := 4) (N := some 9) #[true, true, true, true, true, true, true, false, false, false, false] rfl rfl (one_of HT_.out (by kernel_rfl)) (by decide) (fun K hK => ?_)
        refine goes_ Try.func10 (by kernel_rfl) rfl #[.agg #[.int .u64 D0, .int .u64 D1], .agg #[.int .u64 a1_0, .int .u64 a1_1]] (by rfl) rfl rfl (by (try simp only [List.map_toArray, List.map_cons, List.map_nil]); first | done | rfl | (simp only [List.length_drop, List.length_take]; rfl)) ?_
        with_reducible refine (slope_Ratio.calls D0 D1 a1_0 a1_1 t167 _ A5.out).mono ?_
        rintro e w11 ⟨rfl, hb⟩
        refine ⟨_, rfl, ?_⟩
        have n0_ := Aside0.mk (blk_below (g := gb164) (o := .cells #[.int .u64 D0, .int .u64 D1] 24 (0, 0)) (by (with_reducible repeat (first | refine blk_drewN ?_ _ | refine blk_drew ?_ | refine blk_alloc ?_ _)); exact BK164.out) hb)
        have n1_ := Aside0.mk (blk_below (g := gb165) (o := .cells #[.int .u64 a1_0, .int .u64 a1_1] 24 (0, 0)) (by (with_reducible repeat (first | refine blk_drewN ?_ _ | refine blk_drew ?_ | refine blk_alloc ?_ _)); exact BK165.out) hb)
        have n2_ := Aside0.mk (below_step (by repeat (first | (with_reducible first | exact HB.out | apply below_alloc | apply pw_below_drewN | apply below_drew1 | refine below_set ?_ GE164.out | refine below_set ?_ GE165.out) | exact HB.out)) hb)
        clear BK164
        clear BK165
        clear HB
        have BK164 := n0_
        have BK165 := n1_
        have HB := n2_
        clear n0_ n1_ n2_
        (try clear hb)
        (try clear hb2)
        (try clear hk)
        (try clear hi)
        refine hK.out _ _ ⟨(blk_cell BK164.out 0).trans rfl, (blk_cell BK164.out 1).trans rfl, (blk_cell BK165.out 0).trans rfl, (blk_cell BK165.out 1).trans rfl⟩ (fun hHeld => ?_)
        clear hK K
        refine norm_ (a' := ?_) ?_ ?_
        rotate_left
        · show Act.put _ (some 9) _ = _
          simp only [Act.put, List.setIfInBounds_toArray, List.set_cons_zero, List.set_cons_succ, i64_w, i32_w]
          rfl
        refine one_ (i := 7) (N := some 12) #[true, true, true, true, true, true, true, true, false, false, false] rfl rfl (one_of HT_.out (by kernel_rfl)) (by decide) (fun K hK => ?_)
        refine goes_ Try.func11 (by kernel_rfl) rfl #[.agg #[.int .u64 D0, .int .u64 D1], .agg #[.int .u64 a1_0, .int .u64 a1_1]] (by rfl) rfl rfl (by (try simp only [List.map_toArray, List.map_cons, List.map_nil]); first | done | rfl | (simp only [List.length_drop, List.length_take]; rfl)) ?_
        with_reducible refine (pacemakerref10_Ratio.calls k D0 D1 a1_0 a1_1 t168 _ A6.out).mono ?_
        rintro e w12 ⟨rfl, hb⟩
        refine ⟨_, rfl, ?_⟩
        have n0_ := Aside0.mk (blk_below (g := gb164) (o := .cells #[.int .u64 D0, .int .u64 D1] 24 (0, 0)) (by (with_reducible repeat (first | refine blk_drewN ?_ _ | refine blk_drew ?_ | refine blk_alloc ?_ _)); exact BK164.out) hb)
        have n1_ := Aside0.mk (blk_below (g := gb165) (o := .cells #[.int .u64 a1_0, .int .u64 a1_1] 24 (0, 0)) (by (with_reducible repeat (first | refine blk_drewN ?_ _ | refine blk_drew ?_ | refine blk_alloc ?_ _)); exact BK165.out) hb)
        have n2_ := Aside0.mk (below_step (by repeat (first | (with_reducible first | exact HB.out | apply below_alloc | apply pw_below_drewN | apply below_drew1 | refine below_set ?_ GE164.out | refine below_set ?_ GE165.out) | exact HB.out)) hb)
        clear BK164
        clear BK165
        clear HB
        have BK164 := n0_
        have BK165 := n1_
        have HB := n2_
        clear n0_ n1_ n2_
        (try clear hb)
        (try clear hb2)
        (try clear hk)
        (try clear hi)
        refine hK.out _ _ ⟨(blk_cell BK164.out 0).trans rfl, (blk_cell BK164.out 1).trans rfl, (blk_cell BK165.out 0).trans rfl, (blk_cell BK165.out 1).trans rfl⟩ (fun hHeld => ?_)
        clear hK K
        refine norm_ (a' := ?_) ?_ ?_
        rotate_left
        · show Act.put _ (some 12) _ = _
          simp only [Act.put, List.setIfInBounds_toArray, List.set_cons_zero, List.set_cons_succ, i64_w, i32_w]
          rfl
        refine pure_ (i := 8) (N := some 13) (v := ?_) (a' := ?_) #[true, true, true, true, true, true, true, true, true, false, false] rfl rfl (any_of HT_.out (by kernel_rfl)) (fun _ _ _ h => h) (Or.inl ⟨by rfl, ?_⟩) ?_ ?_
        rotate_left
        · intro w'
          go_simp
          with_reducible rfl
        rotate_left
        · simp only [Act.put, List.setIfInBounds_toArray, List.set_cons_zero, List.set_cons_succ, i64_w, i32_w]
          rfl
        refine pure_ (i := 9) (N := some 14) (v := ?_) (a' := ?_) #[true, true, true, true, true, true, true, true, true, true, false] rfl rfl (any_of HT_.out (by kernel_rfl)) (fun _ _ _ h => h) (Or.inl ⟨by rfl, ?_⟩) ?_ ?_
        rotate_left
        · intro w'
          go_simp
          with_reducible rfl
        rotate_left
        · simp only [Act.put, List.setIfInBounds_toArray, List.set_cons_zero, List.set_cons_succ, i64_w, i32_w]
          rfl
        refine pure_ (i := 10) (N := some 4) (v := ?_) (a' := ?_) #[true, true, true, true, true, true, true, true, true, true, true] rfl rfl (any_of HT_.out (by kernel_rfl)) (fun _ _ _ h => h) (Or.inl ⟨by rfl, ?_⟩) ?_ ?_
        rotate_left
        · intro w'
          go_simp
          with_reducible rfl
        rotate_left
        · simp only [Act.put, List.setIfInBounds_toArray, List.set_cons_zero, List.set_cons_succ, i64_w, i32_w]
          rfl
        refine done_ (done_of HT_.out (by kernel_rfl)) ?_
        try go_wp2
        go_ret
        have hlast := HL_.out
        exact ⟨by first | rfl | (simp [errW_none, errW_some] <;> rfl) | (simp [*, errW_none, errW_some] <;> rfl), by repeat (first | (with_reducible first | exact HB.out | apply below_alloc | apply pw_below_drewN | apply below_drew1 | refine below_set ?_ GE164.out | refine below_set ?_ GE165.out) | exact HB.out)⟩
  · replace c4 := Bool.eq_false_iff.mpr c4
    subst c4
    rw [if_neg (show ¬ (false = true) by decide)] at H
    exact absurd (Option.some.inj H) (by decide)

/-! ### pacemakerref09_Time: function 41 -/
def pacemakerref09_Time.f (a0 : Int) : Option (Bool) := if a0 ≥ 0 then (some (decide (a0 ≤ 1099511627776))) else (some false)
set_option maxHeartbeats 8000000 in
set_option maxRecDepth 100000 in
theorem pacemakerref09_Time.calls (a0 : Int) (r : Bool) (w : World) (h : pacemakerref09_Time.f a0 = some r) :
    Calls Try.prog 41 #[.int .i64 a0] w fun e w' => e = .returned (.bool r) ∧ Drawn0 w w' := by
  have H : (if a0 ≥ 0 then (some (decide (a0 ≤ 1099511627776))) else (some false)) = some r := h
  clear h
  by_cases c2 : a0 ≥ 0
  · rw [if_pos c2] at H
    have c2b0 : decide (0 ≤ a0) = true := decide_eq_true c2
    clear c2
    obtain rfl := Option.some.inj H
    go_enter Try.func41, Try.ntmps41
    go_wp2
    go_ret
    exact ⟨by first | rfl | (simp; done) | (simp [*]; done), by repeat (first | exact Drawn0.refl _ | apply Drawn0.step)⟩
  · rw [if_neg c2] at H
    have c2b0 : decide (0 ≤ a0) = false := decide_eq_false c2
    clear c2
    obtain rfl := Option.some.inj H
    go_enter Try.func41, Try.ntmps41
    go_wp2
    go_ret
    exact ⟨by first | rfl | (simp; done) | (simp [*]; done), by repeat (first | exact Drawn0.refl _ | apply Drawn0.step)⟩

/-! ### pacemakerref09_sized: function 42 -/
def pacemakerref09_sized.f (a0 : Int) (a1 : Int) : Option (Bool) := if a0 ≥ a1 then (some (decide (a0 ≤ (wrap64 (9000 * a1))))) else (some false)
set_option maxHeartbeats 8000000 in
set_option maxRecDepth 100000 in
theorem pacemakerref09_sized.calls (a0 : Int) (a1 : Int) (r : Bool) (w : World) (h : pacemakerref09_sized.f a0 a1 = some r) :
    Calls Try.prog 42 #[.int .i64 a0, .int .i64 a1] w fun e w' => e = .returned (.bool r) ∧ Drawn0 w w' := by
  have H : (if a0 ≥ a1 then (some (decide (a0 ≤ (wrap64 (9000 * a1))))) else (some false)) = some r := h
  clear h
  by_cases c3 : a0 ≥ a1
  · rw [if_pos c3] at H
    have c3b0 : decide (a1 ≤ a0) = true := decide_eq_true c3
    clear c3
    obtain rfl := Option.some.inj H
    go_enter Try.func42, Try.ntmps42
    go_wp2
    go_ret
    exact ⟨by first | rfl | (simp; done) | (simp [*]; done), by repeat (first | exact Drawn0.refl _ | apply Drawn0.step)⟩
  · rw [if_neg c3] at H
    have c3b0 : decide (a1 ≤ a0) = false := decide_eq_false c3
    clear c3
    obtain rfl := Option.some.inj H
    go_enter Try.func42, Try.ntmps42
    go_wp2
    go_ret
    exact ⟨by first | rfl | (simp; done) | (simp [*]; done), by repeat (first | exact Drawn0.refl _ | apply Drawn0.step)⟩

/-! ### pacemakerref09_sums: function 43 -/
def pacemakerref09_sums.f (D0 : Int) (D1 : Int) (D2 : Int) (D3 : Int) (D4 : Int) (D5 : Int) (D6 : Int) (D7 : Int) (D8 : Int) (D9 : Int) (D10 : Int) (D11 : Int) (D12 : Int) (D13 : Int) (D14 : Int) : Option (Bool) := if D10 < 0 then (some false) else (if D10 > (wrap64 (D9 * 60000000)) then (some false) else (if D11 < 0 then (some false) else (if D11 > (wrap64 (D9 * 60000000)) then (some false) else (if D12 ≥ 0 then (if D12 ≤ (wrap64 ((wrap64 (D9 * 60000000)) * 60000000)) then (if D13 ≥ 0 then (if D13 ≤ (wrap64 ((wrap64 (D9 * 60000000)) * 60000000)) then (if D14 ≥ 0 then (some (decide (D14 ≤ (wrap64 ((wrap64 (D9 * 60000000)) * 60000000))))) else (some false)) else (some false)) else (some false)) else (some false)) else (some false)))))
set_option maxHeartbeats 8000000 in
set_option maxRecDepth 100000 in
theorem pacemakerref09_sums.calls (D0 : Int) (D1 : Int) (D2 : Int) (D3 : Int) (D4 : Int) (D5 : Int) (D6 : Int) (D7 : Int) (D8 : Int) (D9 : Int) (D10 : Int) (D11 : Int) (D12 : Int) (D13 : Int) (D14 : Int) (r : Bool) (w : World) (h : pacemakerref09_sums.f D0 D1 D2 D3 D4 D5 D6 D7 D8 D9 D10 D11 D12 D13 D14 = some r) :
    Calls Try.prog 43 #[.agg #[.int .i64 D0, .int .i64 D1, .int .i64 D2, .int .i64 D3, .int .i64 D4, .int .i64 D5, .int .i64 D6, .int .i64 D7, .int .i64 D8, .int .i64 D9, .int .i64 D10, .int .i64 D11, .int .i64 D12, .int .i64 D13, .int .i64 D14]] w fun e w' => e = .returned (.bool r) ∧ Below w.heap.size w w' := by
  have hu29 := Try.underlying29
  have HB := Aside0.mk (Below.refl w.heap.size w)
  have H : (if D10 < 0 then (some false) else (if D10 > (wrap64 (D9 * 60000000)) then (some false) else (if D11 < 0 then (some false) else (if D11 > (wrap64 (D9 * 60000000)) then (some false) else (if D12 ≥ 0 then (if D12 ≤ (wrap64 ((wrap64 (D9 * 60000000)) * 60000000)) then (if D13 ≥ 0 then (if D13 ≤ (wrap64 ((wrap64 (D9 * 60000000)) * 60000000)) then (if D14 ≥ 0 then (some (decide (D14 ≤ (wrap64 ((wrap64 (D9 * 60000000)) * 60000000))))) else (some false)) else (some false)) else (some false)) else (some false)) else (some false)))))) = some r := h
  clear h
  by_cases c2 : D10 < 0
  · rw [if_pos c2] at H
    have c2b0 : decide (D10 < 0) = true := decide_eq_true c2
    clear c2
    obtain rfl := Option.some.inj H
    go_enter Try.func43, Try.ntmps43
    go_wp2_with (first | ((with_reducible refine gate_dst (N := 1) rfl ?_); refine box_event ?hg (N := 1) ?hd (cs := #[.int .i64 D0, .int .i64 D1, .int .i64 D2, .int .i64 D3, .int .i64 D4, .int .i64 D5, .int .i64 D6, .int .i64 D7, .int .i64 D8, .int .i64 D9, .int .i64 D10, .int .i64 D11, .int .i64 D12, .int .i64 D13, .int .i64 D14]) (t := 29) ?hr ?_; (case hd => rfl); (case hg => rfl); (case hr => first | (go_simp; done) | (go_simp; rfl)); intro gb169 hg w3 hbox hb; have n0_ := Aside0.mk (below_step (by repeat (first | (with_reducible first | exact HB.out | apply below_alloc | apply pw_below_drewN | apply below_drew1) | exact HB.out)) hb); have n1_ := Aside0.mk (hbox); have n2_ := Aside0.mk ((by rw [hg]; exact (below_size (by repeat (first | (with_reducible first | exact HB.out | apply below_alloc | apply pw_below_drewN | apply below_drew1) | exact HB.out))) : w.heap.size ≤ gb169)); have n3_ := Aside0.mk ((by rw [hg]; exact (below_size (by repeat (first | (with_reducible first | exact HB.out | apply below_alloc | apply pw_below_drewN | apply below_drew1) | exact HB.out))) : w.heap.size ≤ gb169)); clear HB; have HB := n0_; have BK169 := n1_; have GW169 := n2_; have GE169 := n3_; clear n0_ n1_ n2_ n3_; clear hb hbox hg; have hcz4_0 : w3.cell? ⟨gb169, 0, none⟩ = some (.int .i64 D0) := (blk_cell BK169.out 0).trans rfl; have hcz4_1 : w3.cell? ⟨gb169, 1, none⟩ = some (.int .i64 D1) := (blk_cell BK169.out 1).trans rfl; have hcz4_2 : w3.cell? ⟨gb169, 2, none⟩ = some (.int .i64 D2) := (blk_cell BK169.out 2).trans rfl; have hcz4_3 : w3.cell? ⟨gb169, 3, none⟩ = some (.int .i64 D3) := (blk_cell BK169.out 3).trans rfl; have hcz4_4 : w3.cell? ⟨gb169, 4, none⟩ = some (.int .i64 D4) := (blk_cell BK169.out 4).trans rfl; have hcz4_5 : w3.cell? ⟨gb169, 5, none⟩ = some (.int .i64 D5) := (blk_cell BK169.out 5).trans rfl; have hcz4_6 : w3.cell? ⟨gb169, 6, none⟩ = some (.int .i64 D6) := (blk_cell BK169.out 6).trans rfl; have hcz4_7 : w3.cell? ⟨gb169, 7, none⟩ = some (.int .i64 D7) := (blk_cell BK169.out 7).trans rfl; have hcz4_8 : w3.cell? ⟨gb169, 8, none⟩ = some (.int .i64 D8) := (blk_cell BK169.out 8).trans rfl; have hcz4_9 : w3.cell? ⟨gb169, 9, none⟩ = some (.int .i64 D9) := (blk_cell BK169.out 9).trans rfl; have hcz4_10 : w3.cell? ⟨gb169, 10, none⟩ = some (.int .i64 D10) := (blk_cell BK169.out 10).trans rfl; have hcz4_11 : w3.cell? ⟨gb169, 11, none⟩ = some (.int .i64 D11) := (blk_cell BK169.out 11).trans rfl; have hcz4_12 : w3.cell? ⟨gb169, 12, none⟩ = some (.int .i64 D12) := (blk_cell BK169.out 12).trans rfl; have hcz4_13 : w3.cell? ⟨gb169, 13, none⟩ = some (.int .i64 D13) := (blk_cell BK169.out 13).trans rfl; have hcz4_14 : w3.cell? ⟨gb169, 14, none⟩ = some (.int .i64 D14) := (blk_cell BK169.out 14).trans rfl; have hfz4_0 := blk_frozen BK169.out 0; have hfz4_1 := blk_frozen BK169.out 1; have hfz4_2 := blk_frozen BK169.out 2; have hfz4_3 := blk_frozen BK169.out 3; have hfz4_4 := blk_frozen BK169.out 4; have hfz4_5 := blk_frozen BK169.out 5; have hfz4_6 := blk_frozen BK169.out 6; have hfz4_7 := blk_frozen BK169.out 7; have hfz4_8 := blk_frozen BK169.out 8; have hfz4_9 := blk_frozen BK169.out 9; have hfz4_10 := blk_frozen BK169.out 10; have hfz4_11 := blk_frozen BK169.out 11; have hfz4_12 := blk_frozen BK169.out 12; have hfz4_13 := blk_frozen BK169.out 13; have hfz4_14 := blk_frozen BK169.out 14))
    go_ret
    exact ⟨by first | rfl | (simp [errW_none, errW_some] <;> rfl) | (simp [*, errW_none, errW_some] <;> rfl), by repeat (first | (with_reducible first | exact HB.out | apply below_alloc | apply pw_below_drewN | apply below_drew1 | refine below_set ?_ GE169.out) | exact HB.out)⟩
  · rw [if_neg c2] at H
    have c2b0 : decide (D10 < 0) = false := decide_eq_false c2
    clear c2
    by_cases c5 : D10 > (wrap64 (D9 * 60000000))
    · rw [if_pos c5] at H
      have c5b0 : decide ((wrap64 (D9 * 60000000)) < D10) = true := decide_eq_true c5
      clear c5
      obtain rfl := Option.some.inj H
      go_enter Try.func43, Try.ntmps43
      go_wp2_with (first | ((with_reducible refine gate_dst (N := 1) rfl ?_); refine box_event ?hg (N := 1) ?hd (cs := #[.int .i64 D0, .int .i64 D1, .int .i64 D2, .int .i64 D3, .int .i64 D4, .int .i64 D5, .int .i64 D6, .int .i64 D7, .int .i64 D8, .int .i64 D9, .int .i64 D10, .int .i64 D11, .int .i64 D12, .int .i64 D13, .int .i64 D14]) (t := 29) ?hr ?_; (case hd => rfl); (case hg => rfl); (case hr => first | (go_simp; done) | (go_simp; rfl)); intro gb169 hg w6 hbox hb; have n0_ := Aside0.mk (below_step (by repeat (first | (with_reducible first | exact HB.out | apply below_alloc | apply pw_below_drewN | apply below_drew1) | exact HB.out)) hb); have n1_ := Aside0.mk (hbox); have n2_ := Aside0.mk ((by rw [hg]; exact (below_size (by repeat (first | (with_reducible first | exact HB.out | apply below_alloc | apply pw_below_drewN | apply below_drew1) | exact HB.out))) : w.heap.size ≤ gb169)); have n3_ := Aside0.mk ((by rw [hg]; exact (below_size (by repeat (first | (with_reducible first | exact HB.out | apply below_alloc | apply pw_below_drewN | apply below_drew1) | exact HB.out))) : w.heap.size ≤ gb169)); clear HB; have HB := n0_; have BK169 := n1_; have GW169 := n2_; have GE169 := n3_; clear n0_ n1_ n2_ n3_; clear hb hbox hg; have hcz7_0 : w6.cell? ⟨gb169, 0, none⟩ = some (.int .i64 D0) := (blk_cell BK169.out 0).trans rfl; have hcz7_1 : w6.cell? ⟨gb169, 1, none⟩ = some (.int .i64 D1) := (blk_cell BK169.out 1).trans rfl; have hcz7_2 : w6.cell? ⟨gb169, 2, none⟩ = some (.int .i64 D2) := (blk_cell BK169.out 2).trans rfl; have hcz7_3 : w6.cell? ⟨gb169, 3, none⟩ = some (.int .i64 D3) := (blk_cell BK169.out 3).trans rfl; have hcz7_4 : w6.cell? ⟨gb169, 4, none⟩ = some (.int .i64 D4) := (blk_cell BK169.out 4).trans rfl; have hcz7_5 : w6.cell? ⟨gb169, 5, none⟩ = some (.int .i64 D5) := (blk_cell BK169.out 5).trans rfl; have hcz7_6 : w6.cell? ⟨gb169, 6, none⟩ = some (.int .i64 D6) := (blk_cell BK169.out 6).trans rfl; have hcz7_7 : w6.cell? ⟨gb169, 7, none⟩ = some (.int .i64 D7) := (blk_cell BK169.out 7).trans rfl; have hcz7_8 : w6.cell? ⟨gb169, 8, none⟩ = some (.int .i64 D8) := (blk_cell BK169.out 8).trans rfl; have hcz7_9 : w6.cell? ⟨gb169, 9, none⟩ = some (.int .i64 D9) := (blk_cell BK169.out 9).trans rfl; have hcz7_10 : w6.cell? ⟨gb169, 10, none⟩ = some (.int .i64 D10) := (blk_cell BK169.out 10).trans rfl; have hcz7_11 : w6.cell? ⟨gb169, 11, none⟩ = some (.int .i64 D11) := (blk_cell BK169.out 11).trans rfl; have hcz7_12 : w6.cell? ⟨gb169, 12, none⟩ = some (.int .i64 D12) := (blk_cell BK169.out 12).trans rfl; have hcz7_13 : w6.cell? ⟨gb169, 13, none⟩ = some (.int .i64 D13) := (blk_cell BK169.out 13).trans rfl; have hcz7_14 : w6.cell? ⟨gb169, 14, none⟩ = some (.int .i64 D14) := (blk_cell BK169.out 14).trans rfl; have hfz7_0 := blk_frozen BK169.out 0; have hfz7_1 := blk_frozen BK169.out 1; have hfz7_2 := blk_frozen BK169.out 2; have hfz7_3 := blk_frozen BK169.out 3; have hfz7_4 := blk_frozen BK169.out 4; have hfz7_5 := blk_frozen BK169.out 5; have hfz7_6 := blk_frozen BK169.out 6; have hfz7_7 := blk_frozen BK169.out 7; have hfz7_8 := blk_frozen BK169.out 8; have hfz7_9 := blk_frozen BK169.out 9; have hfz7_10 := blk_frozen BK169.out 10; have hfz7_11 := blk_frozen BK169.out 11; have hfz7_12 := blk_frozen BK169.out 12; have hfz7_13 := blk_frozen BK169.out 13; have hfz7_14 := blk_frozen BK169.out 14))
      go_ret
      exact ⟨by first | rfl | (simp [errW_none, errW_some] <;> rfl) | (simp [*, errW_none, errW_some] <;> rfl), by repeat (first | (with_reducible first | exact HB.out | apply below_alloc | apply pw_below_drewN | apply below_drew1 | refine below_set ?_ GE169.out) | exact HB.out)⟩
    · rw [if_neg c5] at H
      have c5b0 : decide ((wrap64 (D9 * 60000000)) < D10) = false := decide_eq_false c5
      clear c5
      by_cases c8 : D11 < 0
      · rw [if_pos c8] at H
        have c8b0 : decide (D11 < 0) = true := decide_eq_true c8
        clear c8
        obtain rfl := Option.some.inj H
        go_enter Try.func43, Try.ntmps43
        go_wp2_with (first | ((with_reducible refine gate_dst (N := 1) rfl ?_); refine box_event ?hg (N := 1) ?hd (cs := #[.int .i64 D0, .int .i64 D1, .int .i64 D2, .int .i64 D3, .int .i64 D4, .int .i64 D5, .int .i64 D6, .int .i64 D7, .int .i64 D8, .int .i64 D9, .int .i64 D10, .int .i64 D11, .int .i64 D12, .int .i64 D13, .int .i64 D14]) (t := 29) ?hr ?_; (case hd => rfl); (case hg => rfl); (case hr => first | (go_simp; done) | (go_simp; rfl)); intro gb169 hg w9 hbox hb; have n0_ := Aside0.mk (below_step (by repeat (first | (with_reducible first | exact HB.out | apply below_alloc | apply pw_below_drewN | apply below_drew1) | exact HB.out)) hb); have n1_ := Aside0.mk (hbox); have n2_ := Aside0.mk ((by rw [hg]; exact (below_size (by repeat (first | (with_reducible first | exact HB.out | apply below_alloc | apply pw_below_drewN | apply below_drew1) | exact HB.out))) : w.heap.size ≤ gb169)); have n3_ := Aside0.mk ((by rw [hg]; exact (below_size (by repeat (first | (with_reducible first | exact HB.out | apply below_alloc | apply pw_below_drewN | apply below_drew1) | exact HB.out))) : w.heap.size ≤ gb169)); clear HB; have HB := n0_; have BK169 := n1_; have GW169 := n2_; have GE169 := n3_; clear n0_ n1_ n2_ n3_; clear hb hbox hg; have hcz10_0 : w9.cell? ⟨gb169, 0, none⟩ = some (.int .i64 D0) := (blk_cell BK169.out 0).trans rfl; have hcz10_1 : w9.cell? ⟨gb169, 1, none⟩ = some (.int .i64 D1) := (blk_cell BK169.out 1).trans rfl; have hcz10_2 : w9.cell? ⟨gb169, 2, none⟩ = some (.int .i64 D2) := (blk_cell BK169.out 2).trans rfl; have hcz10_3 : w9.cell? ⟨gb169, 3, none⟩ = some (.int .i64 D3) := (blk_cell BK169.out 3).trans rfl; have hcz10_4 : w9.cell? ⟨gb169, 4, none⟩ = some (.int .i64 D4) := (blk_cell BK169.out 4).trans rfl; have hcz10_5 : w9.cell? ⟨gb169, 5, none⟩ = some (.int .i64 D5) := (blk_cell BK169.out 5).trans rfl; have hcz10_6 : w9.cell? ⟨gb169, 6, none⟩ = some (.int .i64 D6) := (blk_cell BK169.out 6).trans rfl; have hcz10_7 : w9.cell? ⟨gb169, 7, none⟩ = some (.int .i64 D7) := (blk_cell BK169.out 7).trans rfl; have hcz10_8 : w9.cell? ⟨gb169, 8, none⟩ = some (.int .i64 D8) := (blk_cell BK169.out 8).trans rfl; have hcz10_9 : w9.cell? ⟨gb169, 9, none⟩ = some (.int .i64 D9) := (blk_cell BK169.out 9).trans rfl; have hcz10_10 : w9.cell? ⟨gb169, 10, none⟩ = some (.int .i64 D10) := (blk_cell BK169.out 10).trans rfl; have hcz10_11 : w9.cell? ⟨gb169, 11, none⟩ = some (.int .i64 D11) := (blk_cell BK169.out 11).trans rfl; have hcz10_12 : w9.cell? ⟨gb169, 12, none⟩ = some (.int .i64 D12) := (blk_cell BK169.out 12).trans rfl; have hcz10_13 : w9.cell? ⟨gb169, 13, none⟩ = some (.int .i64 D13) := (blk_cell BK169.out 13).trans rfl; have hcz10_14 : w9.cell? ⟨gb169, 14, none⟩ = some (.int .i64 D14) := (blk_cell BK169.out 14).trans rfl; have hfz10_0 := blk_frozen BK169.out 0; have hfz10_1 := blk_frozen BK169.out 1; have hfz10_2 := blk_frozen BK169.out 2; have hfz10_3 := blk_frozen BK169.out 3; have hfz10_4 := blk_frozen BK169.out 4; have hfz10_5 := blk_frozen BK169.out 5; have hfz10_6 := blk_frozen BK169.out 6; have hfz10_7 := blk_frozen BK169.out 7; have hfz10_8 := blk_frozen BK169.out 8; have hfz10_9 := blk_frozen BK169.out 9; have hfz10_10 := blk_frozen BK169.out 10; have hfz10_11 := blk_frozen BK169.out 11; have hfz10_12 := blk_frozen BK169.out 12; have hfz10_13 := blk_frozen BK169.out 13; have hfz10_14 := blk_frozen BK169.out 14))
        go_ret
        exact ⟨by first | rfl | (simp [errW_none, errW_some] <;> rfl) | (simp [*, errW_none, errW_some] <;> rfl), by repeat (first | (with_reducible first | exact HB.out | apply below_alloc | apply pw_below_drewN | apply below_drew1 | refine below_set ?_ GE169.out) | exact HB.out)⟩
      · rw [if_neg c8] at H
        have c8b0 : decide (D11 < 0) = false := decide_eq_false c8
        clear c8
        by_cases c11 : D11 > (wrap64 (D9 * 60000000))
        · rw [if_pos c11] at H
          have c11b0 : decide ((wrap64 (D9 * 60000000)) < D11) = true := decide_eq_true c11
          clear c11
          obtain rfl := Option.some.inj H
          go_enter Try.func43, Try.ntmps43
          go_wp2_with (first | ((with_reducible refine gate_dst (N := 1) rfl ?_); refine box_event ?hg (N := 1) ?hd (cs := #[.int .i64 D0, .int .i64 D1, .int .i64 D2, .int .i64 D3, .int .i64 D4, .int .i64 D5, .int .i64 D6, .int .i64 D7, .int .i64 D8, .int .i64 D9, .int .i64 D10, .int .i64 D11, .int .i64 D12, .int .i64 D13, .int .i64 D14]) (t := 29) ?hr ?_; (case hd => rfl); (case hg => rfl); (case hr => first | (go_simp; done) | (go_simp; rfl)); intro gb169 hg w12 hbox hb; have n0_ := Aside0.mk (below_step (by repeat (first | (with_reducible first | exact HB.out | apply below_alloc | apply pw_below_drewN | apply below_drew1) | exact HB.out)) hb); have n1_ := Aside0.mk (hbox); have n2_ := Aside0.mk ((by rw [hg]; exact (below_size (by repeat (first | (with_reducible first | exact HB.out | apply below_alloc | apply pw_below_drewN | apply below_drew1) | exact HB.out))) : w.heap.size ≤ gb169)); have n3_ := Aside0.mk ((by rw [hg]; exact (below_size (by repeat (first | (with_reducible first | exact HB.out | apply below_alloc | apply pw_below_drewN | apply below_drew1) | exact HB.out))) : w.heap.size ≤ gb169)); clear HB; have HB := n0_; have BK169 := n1_; have GW169 := n2_; have GE169 := n3_; clear n0_ n1_ n2_ n3_; clear hb hbox hg; have hcz13_0 : w12.cell? ⟨gb169, 0, none⟩ = some (.int .i64 D0) := (blk_cell BK169.out 0).trans rfl; have hcz13_1 : w12.cell? ⟨gb169, 1, none⟩ = some (.int .i64 D1) := (blk_cell BK169.out 1).trans rfl; have hcz13_2 : w12.cell? ⟨gb169, 2, none⟩ = some (.int .i64 D2) := (blk_cell BK169.out 2).trans rfl; have hcz13_3 : w12.cell? ⟨gb169, 3, none⟩ = some (.int .i64 D3) := (blk_cell BK169.out 3).trans rfl; have hcz13_4 : w12.cell? ⟨gb169, 4, none⟩ = some (.int .i64 D4) := (blk_cell BK169.out 4).trans rfl; have hcz13_5 : w12.cell? ⟨gb169, 5, none⟩ = some (.int .i64 D5) := (blk_cell BK169.out 5).trans rfl; have hcz13_6 : w12.cell? ⟨gb169, 6, none⟩ = some (.int .i64 D6) := (blk_cell BK169.out 6).trans rfl; have hcz13_7 : w12.cell? ⟨gb169, 7, none⟩ = some (.int .i64 D7) := (blk_cell BK169.out 7).trans rfl; have hcz13_8 : w12.cell? ⟨gb169, 8, none⟩ = some (.int .i64 D8) := (blk_cell BK169.out 8).trans rfl; have hcz13_9 : w12.cell? ⟨gb169, 9, none⟩ = some (.int .i64 D9) := (blk_cell BK169.out 9).trans rfl; have hcz13_10 : w12.cell? ⟨gb169, 10, none⟩ = some (.int .i64 D10) := (blk_cell BK169.out 10).trans rfl; have hcz13_11 : w12.cell? ⟨gb169, 11, none⟩ = some (.int .i64 D11) := (blk_cell BK169.out 11).trans rfl; have hcz13_12 : w12.cell? ⟨gb169, 12, none⟩ = some (.int .i64 D12) := (blk_cell BK169.out 12).trans rfl; have hcz13_13 : w12.cell? ⟨gb169, 13, none⟩ = some (.int .i64 D13) := (blk_cell BK169.out 13).trans rfl; have hcz13_14 : w12.cell? ⟨gb169, 14, none⟩ = some (.int .i64 D14) := (blk_cell BK169.out 14).trans rfl; have hfz13_0 := blk_frozen BK169.out 0; have hfz13_1 := blk_frozen BK169.out 1; have hfz13_2 := blk_frozen BK169.out 2; have hfz13_3 := blk_frozen BK169.out 3; have hfz13_4 := blk_frozen BK169.out 4; have hfz13_5 := blk_frozen BK169.out 5; have hfz13_6 := blk_frozen BK169.out 6; have hfz13_7 := blk_frozen BK169.out 7; have hfz13_8 := blk_frozen BK169.out 8; have hfz13_9 := blk_frozen BK169.out 9; have hfz13_10 := blk_frozen BK169.out 10; have hfz13_11 := blk_frozen BK169.out 11; have hfz13_12 := blk_frozen BK169.out 12; have hfz13_13 := blk_frozen BK169.out 13; have hfz13_14 := blk_frozen BK169.out 14))
          go_ret
          exact ⟨by first | rfl | (simp [errW_none, errW_some] <;> rfl) | (simp [*, errW_none, errW_some] <;> rfl), by repeat (first | (with_reducible first | exact HB.out | apply below_alloc | apply pw_below_drewN | apply below_drew1 | refine below_set ?_ GE169.out) | exact HB.out)⟩
        · rw [if_neg c11] at H
          have c11b0 : decide ((wrap64 (D9 * 60000000)) < D11) = false := decide_eq_false c11
          clear c11
          by_cases c14 : D12 ≥ 0
          · rw [if_pos c14] at H
            have c14b0 : decide (0 ≤ D12) = true := decide_eq_true c14
            clear c14
            by_cases c15 : D12 ≤ (wrap64 ((wrap64 (D9 * 60000000)) * 60000000))
            · rw [if_pos c15] at H
              have c15b0 : decide (D12 ≤ (wrap64 ((wrap64 (D9 * 60000000)) * 60000000))) = true := decide_eq_true c15
              clear c15
              by_cases c16 : D13 ≥ 0
              · rw [if_pos c16] at H
                have c16b0 : decide (0 ≤ D13) = true := decide_eq_true c16
                clear c16
                by_cases c17 : D13 ≤ (wrap64 ((wrap64 (D9 * 60000000)) * 60000000))
                · rw [if_pos c17] at H
                  have c17b0 : decide (D13 ≤ (wrap64 ((wrap64 (D9 * 60000000)) * 60000000))) = true := decide_eq_true c17
                  clear c17
                  by_cases c18 : D14 ≥ 0
                  · rw [if_pos c18] at H
                    have c18b0 : decide (0 ≤ D14) = true := decide_eq_true c18
                    clear c18
                    obtain rfl := Option.some.inj H
                    go_enter Try.func43, Try.ntmps43
                    go_wp2_with (first | ((with_reducible refine gate_dst (N := 1) rfl ?_); refine box_event ?hg (N := 1) ?hd (cs := #[.int .i64 D0, .int .i64 D1, .int .i64 D2, .int .i64 D3, .int .i64 D4, .int .i64 D5, .int .i64 D6, .int .i64 D7, .int .i64 D8, .int .i64 D9, .int .i64 D10, .int .i64 D11, .int .i64 D12, .int .i64 D13, .int .i64 D14]) (t := 29) ?hr ?_; (case hd => rfl); (case hg => rfl); (case hr => first | (go_simp; done) | (go_simp; rfl)); intro gb169 hg w19 hbox hb; have n0_ := Aside0.mk (below_step (by repeat (first | (with_reducible first | exact HB.out | apply below_alloc | apply pw_below_drewN | apply below_drew1) | exact HB.out)) hb); have n1_ := Aside0.mk (hbox); have n2_ := Aside0.mk ((by rw [hg]; exact (below_size (by repeat (first | (with_reducible first | exact HB.out | apply below_alloc | apply pw_below_drewN | apply below_drew1) | exact HB.out))) : w.heap.size ≤ gb169)); have n3_ := Aside0.mk ((by rw [hg]; exact (below_size (by repeat (first | (with_reducible first | exact HB.out | apply below_alloc | apply pw_below_drewN | apply below_drew1) | exact HB.out))) : w.heap.size ≤ gb169)); clear HB; have HB := n0_; have BK169 := n1_; have GW169 := n2_; have GE169 := n3_; clear n0_ n1_ n2_ n3_; clear hb hbox hg; have hcz20_0 : w19.cell? ⟨gb169, 0, none⟩ = some (.int .i64 D0) := (blk_cell BK169.out 0).trans rfl; have hcz20_1 : w19.cell? ⟨gb169, 1, none⟩ = some (.int .i64 D1) := (blk_cell BK169.out 1).trans rfl; have hcz20_2 : w19.cell? ⟨gb169, 2, none⟩ = some (.int .i64 D2) := (blk_cell BK169.out 2).trans rfl; have hcz20_3 : w19.cell? ⟨gb169, 3, none⟩ = some (.int .i64 D3) := (blk_cell BK169.out 3).trans rfl; have hcz20_4 : w19.cell? ⟨gb169, 4, none⟩ = some (.int .i64 D4) := (blk_cell BK169.out 4).trans rfl; have hcz20_5 : w19.cell? ⟨gb169, 5, none⟩ = some (.int .i64 D5) := (blk_cell BK169.out 5).trans rfl; have hcz20_6 : w19.cell? ⟨gb169, 6, none⟩ = some (.int .i64 D6) := (blk_cell BK169.out 6).trans rfl; have hcz20_7 : w19.cell? ⟨gb169, 7, none⟩ = some (.int .i64 D7) := (blk_cell BK169.out 7).trans rfl; have hcz20_8 : w19.cell? ⟨gb169, 8, none⟩ = some (.int .i64 D8) := (blk_cell BK169.out 8).trans rfl; have hcz20_9 : w19.cell? ⟨gb169, 9, none⟩ = some (.int .i64 D9) := (blk_cell BK169.out 9).trans rfl; have hcz20_10 : w19.cell? ⟨gb169, 10, none⟩ = some (.int .i64 D10) := (blk_cell BK169.out 10).trans rfl; have hcz20_11 : w19.cell? ⟨gb169, 11, none⟩ = some (.int .i64 D11) := (blk_cell BK169.out 11).trans rfl; have hcz20_12 : w19.cell? ⟨gb169, 12, none⟩ = some (.int .i64 D12) := (blk_cell BK169.out 12).trans rfl; have hcz20_13 : w19.cell? ⟨gb169, 13, none⟩ = some (.int .i64 D13) := (blk_cell BK169.out 13).trans rfl; have hcz20_14 : w19.cell? ⟨gb169, 14, none⟩ = some (.int .i64 D14) := (blk_cell BK169.out 14).trans rfl; have hfz20_0 := blk_frozen BK169.out 0; have hfz20_1 := blk_frozen BK169.out 1; have hfz20_2 := blk_frozen BK169.out 2; have hfz20_3 := blk_frozen BK169.out 3; have hfz20_4 := blk_frozen BK169.out 4; have hfz20_5 := blk_frozen BK169.out 5; have hfz20_6 := blk_frozen BK169.out 6; have hfz20_7 := blk_frozen BK169.out 7; have hfz20_8 := blk_frozen BK169.out 8; have hfz20_9 := blk_frozen BK169.out 9; have hfz20_10 := blk_frozen BK169.out 10; have hfz20_11 := blk_frozen BK169.out 11; have hfz20_12 := blk_frozen BK169.out 12; have hfz20_13 := blk_frozen BK169.out 13; have hfz20_14 := blk_frozen BK169.out 14))
                    go_ret
                    exact ⟨by first | rfl | (simp [errW_none, errW_some] <;> rfl) | (simp [*, errW_none, errW_some] <;> rfl), by repeat (first | (with_reducible first | exact HB.out | apply below_alloc | apply pw_below_drewN | apply below_drew1 | refine below_set ?_ GE169.out) | exact HB.out)⟩
                  · rw [if_neg c18] at H
                    have c18b0 : decide (0 ≤ D14) = false := decide_eq_false c18
                    clear c18
                    obtain rfl := Option.some.inj H
                    go_enter Try.func43, Try.ntmps43
                    go_wp2_with (first | ((with_reducible refine gate_dst (N := 1) rfl ?_); refine box_event ?hg (N := 1) ?hd (cs := #[.int .i64 D0, .int .i64 D1, .int .i64 D2, .int .i64 D3, .int .i64 D4, .int .i64 D5, .int .i64 D6, .int .i64 D7, .int .i64 D8, .int .i64 D9, .int .i64 D10, .int .i64 D11, .int .i64 D12, .int .i64 D13, .int .i64 D14]) (t := 29) ?hr ?_; (case hd => rfl); (case hg => rfl); (case hr => first | (go_simp; done) | (go_simp; rfl)); intro gb169 hg w21 hbox hb; have n0_ := Aside0.mk (below_step (by repeat (first | (with_reducible first | exact HB.out | apply below_alloc | apply pw_below_drewN | apply below_drew1) | exact HB.out)) hb); have n1_ := Aside0.mk (hbox); have n2_ := Aside0.mk ((by rw [hg]; exact (below_size (by repeat (first | (with_reducible first | exact HB.out | apply below_alloc | apply pw_below_drewN | apply below_drew1) | exact HB.out))) : w.heap.size ≤ gb169)); have n3_ := Aside0.mk ((by rw [hg]; exact (below_size (by repeat (first | (with_reducible first | exact HB.out | apply below_alloc | apply pw_below_drewN | apply below_drew1) | exact HB.out))) : w.heap.size ≤ gb169)); clear HB; have HB := n0_; have BK169 := n1_; have GW169 := n2_; have GE169 := n3_; clear n0_ n1_ n2_ n3_; clear hb hbox hg; have hcz22_0 : w21.cell? ⟨gb169, 0, none⟩ = some (.int .i64 D0) := (blk_cell BK169.out 0).trans rfl; have hcz22_1 : w21.cell? ⟨gb169, 1, none⟩ = some (.int .i64 D1) := (blk_cell BK169.out 1).trans rfl; have hcz22_2 : w21.cell? ⟨gb169, 2, none⟩ = some (.int .i64 D2) := (blk_cell BK169.out 2).trans rfl; have hcz22_3 : w21.cell? ⟨gb169, 3, none⟩ = some (.int .i64 D3) := (blk_cell BK169.out 3).trans rfl; have hcz22_4 : w21.cell? ⟨gb169, 4, none⟩ = some (.int .i64 D4) := (blk_cell BK169.out 4).trans rfl; have hcz22_5 : w21.cell? ⟨gb169, 5, none⟩ = some (.int .i64 D5) := (blk_cell BK169.out 5).trans rfl; have hcz22_6 : w21.cell? ⟨gb169, 6, none⟩ = some (.int .i64 D6) := (blk_cell BK169.out 6).trans rfl; have hcz22_7 : w21.cell? ⟨gb169, 7, none⟩ = some (.int .i64 D7) := (blk_cell BK169.out 7).trans rfl; have hcz22_8 : w21.cell? ⟨gb169, 8, none⟩ = some (.int .i64 D8) := (blk_cell BK169.out 8).trans rfl; have hcz22_9 : w21.cell? ⟨gb169, 9, none⟩ = some (.int .i64 D9) := (blk_cell BK169.out 9).trans rfl; have hcz22_10 : w21.cell? ⟨gb169, 10, none⟩ = some (.int .i64 D10) := (blk_cell BK169.out 10).trans rfl; have hcz22_11 : w21.cell? ⟨gb169, 11, none⟩ = some (.int .i64 D11) := (blk_cell BK169.out 11).trans rfl; have hcz22_12 : w21.cell? ⟨gb169, 12, none⟩ = some (.int .i64 D12) := (blk_cell BK169.out 12).trans rfl; have hcz22_13 : w21.cell? ⟨gb169, 13, none⟩ = some (.int .i64 D13) := (blk_cell BK169.out 13).trans rfl; have hcz22_14 : w21.cell? ⟨gb169, 14, none⟩ = some (.int .i64 D14) := (blk_cell BK169.out 14).trans rfl; have hfz22_0 := blk_frozen BK169.out 0; have hfz22_1 := blk_frozen BK169.out 1; have hfz22_2 := blk_frozen BK169.out 2; have hfz22_3 := blk_frozen BK169.out 3; have hfz22_4 := blk_frozen BK169.out 4; have hfz22_5 := blk_frozen BK169.out 5; have hfz22_6 := blk_frozen BK169.out 6; have hfz22_7 := blk_frozen BK169.out 7; have hfz22_8 := blk_frozen BK169.out 8; have hfz22_9 := blk_frozen BK169.out 9; have hfz22_10 := blk_frozen BK169.out 10; have hfz22_11 := blk_frozen BK169.out 11; have hfz22_12 := blk_frozen BK169.out 12; have hfz22_13 := blk_frozen BK169.out 13; have hfz22_14 := blk_frozen BK169.out 14))
                    go_ret
                    exact ⟨by first | rfl | (simp [errW_none, errW_some] <;> rfl) | (simp [*, errW_none, errW_some] <;> rfl), by repeat (first | (with_reducible first | exact HB.out | apply below_alloc | apply pw_below_drewN | apply below_drew1 | refine below_set ?_ GE169.out) | exact HB.out)⟩
                · rw [if_neg c17] at H
                  have c17b0 : decide (D13 ≤ (wrap64 ((wrap64 (D9 * 60000000)) * 60000000))) = false := decide_eq_false c17
                  clear c17
                  obtain rfl := Option.some.inj H
                  go_enter Try.func43, Try.ntmps43
                  go_wp2_with (first | ((with_reducible refine gate_dst (N := 1) rfl ?_); refine box_event ?hg (N := 1) ?hd (cs := #[.int .i64 D0, .int .i64 D1, .int .i64 D2, .int .i64 D3, .int .i64 D4, .int .i64 D5, .int .i64 D6, .int .i64 D7, .int .i64 D8, .int .i64 D9, .int .i64 D10, .int .i64 D11, .int .i64 D12, .int .i64 D13, .int .i64 D14]) (t := 29) ?hr ?_; (case hd => rfl); (case hg => rfl); (case hr => first | (go_simp; done) | (go_simp; rfl)); intro gb169 hg w23 hbox hb; have n0_ := Aside0.mk (below_step (by repeat (first | (with_reducible first | exact HB.out | apply below_alloc | apply pw_below_drewN | apply below_drew1) | exact HB.out)) hb); have n1_ := Aside0.mk (hbox); have n2_ := Aside0.mk ((by rw [hg]; exact (below_size (by repeat (first | (with_reducible first | exact HB.out | apply below_alloc | apply pw_below_drewN | apply below_drew1) | exact HB.out))) : w.heap.size ≤ gb169)); have n3_ := Aside0.mk ((by rw [hg]; exact (below_size (by repeat (first | (with_reducible first | exact HB.out | apply below_alloc | apply pw_below_drewN | apply below_drew1) | exact HB.out))) : w.heap.size ≤ gb169)); clear HB; have HB := n0_; have BK169 := n1_; have GW169 := n2_; have GE169 := n3_; clear n0_ n1_ n2_ n3_; clear hb hbox hg; have hcz24_0 : w23.cell? ⟨gb169, 0, none⟩ = some (.int .i64 D0) := (blk_cell BK169.out 0).trans rfl; have hcz24_1 : w23.cell? ⟨gb169, 1, none⟩ = some (.int .i64 D1) := (blk_cell BK169.out 1).trans rfl; have hcz24_2 : w23.cell? ⟨gb169, 2, none⟩ = some (.int .i64 D2) := (blk_cell BK169.out 2).trans rfl; have hcz24_3 : w23.cell? ⟨gb169, 3, none⟩ = some (.int .i64 D3) := (blk_cell BK169.out 3).trans rfl; have hcz24_4 : w23.cell? ⟨gb169, 4, none⟩ = some (.int .i64 D4) := (blk_cell BK169.out 4).trans rfl; have hcz24_5 : w23.cell? ⟨gb169, 5, none⟩ = some (.int .i64 D5) := (blk_cell BK169.out 5).trans rfl; have hcz24_6 : w23.cell? ⟨gb169, 6, none⟩ = some (.int .i64 D6) := (blk_cell BK169.out 6).trans rfl; have hcz24_7 : w23.cell? ⟨gb169, 7, none⟩ = some (.int .i64 D7) := (blk_cell BK169.out 7).trans rfl; have hcz24_8 : w23.cell? ⟨gb169, 8, none⟩ = some (.int .i64 D8) := (blk_cell BK169.out 8).trans rfl; have hcz24_9 : w23.cell? ⟨gb169, 9, none⟩ = some (.int .i64 D9) := (blk_cell BK169.out 9).trans rfl; have hcz24_10 : w23.cell? ⟨gb169, 10, none⟩ = some (.int .i64 D10) := (blk_cell BK169.out 10).trans rfl; have hcz24_11 : w23.cell? ⟨gb169, 11, none⟩ = some (.int .i64 D11) := (blk_cell BK169.out 11).trans rfl; have hcz24_12 : w23.cell? ⟨gb169, 12, none⟩ = some (.int .i64 D12) := (blk_cell BK169.out 12).trans rfl; have hcz24_13 : w23.cell? ⟨gb169, 13, none⟩ = some (.int .i64 D13) := (blk_cell BK169.out 13).trans rfl; have hcz24_14 : w23.cell? ⟨gb169, 14, none⟩ = some (.int .i64 D14) := (blk_cell BK169.out 14).trans rfl; have hfz24_0 := blk_frozen BK169.out 0; have hfz24_1 := blk_frozen BK169.out 1; have hfz24_2 := blk_frozen BK169.out 2; have hfz24_3 := blk_frozen BK169.out 3; have hfz24_4 := blk_frozen BK169.out 4; have hfz24_5 := blk_frozen BK169.out 5; have hfz24_6 := blk_frozen BK169.out 6; have hfz24_7 := blk_frozen BK169.out 7; have hfz24_8 := blk_frozen BK169.out 8; have hfz24_9 := blk_frozen BK169.out 9; have hfz24_10 := blk_frozen BK169.out 10; have hfz24_11 := blk_frozen BK169.out 11; have hfz24_12 := blk_frozen BK169.out 12; have hfz24_13 := blk_frozen BK169.out 13; have hfz24_14 := blk_frozen BK169.out 14))
                  go_ret
                  exact ⟨by first | rfl | (simp [errW_none, errW_some] <;> rfl) | (simp [*, errW_none, errW_some] <;> rfl), by repeat (first | (with_reducible first | exact HB.out | apply below_alloc | apply pw_below_drewN | apply below_drew1 | refine below_set ?_ GE169.out) | exact HB.out)⟩
              · rw [if_neg c16] at H
                have c16b0 : decide (0 ≤ D13) = false := decide_eq_false c16
                clear c16
                obtain rfl := Option.some.inj H
                go_enter Try.func43, Try.ntmps43
                go_wp2_with (first | ((with_reducible refine gate_dst (N := 1) rfl ?_); refine box_event ?hg (N := 1) ?hd (cs := #[.int .i64 D0, .int .i64 D1, .int .i64 D2, .int .i64 D3, .int .i64 D4, .int .i64 D5, .int .i64 D6, .int .i64 D7, .int .i64 D8, .int .i64 D9, .int .i64 D10, .int .i64 D11, .int .i64 D12, .int .i64 D13, .int .i64 D14]) (t := 29) ?hr ?_; (case hd => rfl); (case hg => rfl); (case hr => first | (go_simp; done) | (go_simp; rfl)); intro gb169 hg w25 hbox hb; have n0_ := Aside0.mk (below_step (by repeat (first | (with_reducible first | exact HB.out | apply below_alloc | apply pw_below_drewN | apply below_drew1) | exact HB.out)) hb); have n1_ := Aside0.mk (hbox); have n2_ := Aside0.mk ((by rw [hg]; exact (below_size (by repeat (first | (with_reducible first | exact HB.out | apply below_alloc | apply pw_below_drewN | apply below_drew1) | exact HB.out))) : w.heap.size ≤ gb169)); have n3_ := Aside0.mk ((by rw [hg]; exact (below_size (by repeat (first | (with_reducible first | exact HB.out | apply below_alloc | apply pw_below_drewN | apply below_drew1) | exact HB.out))) : w.heap.size ≤ gb169)); clear HB; have HB := n0_; have BK169 := n1_; have GW169 := n2_; have GE169 := n3_; clear n0_ n1_ n2_ n3_; clear hb hbox hg; have hcz26_0 : w25.cell? ⟨gb169, 0, none⟩ = some (.int .i64 D0) := (blk_cell BK169.out 0).trans rfl; have hcz26_1 : w25.cell? ⟨gb169, 1, none⟩ = some (.int .i64 D1) := (blk_cell BK169.out 1).trans rfl; have hcz26_2 : w25.cell? ⟨gb169, 2, none⟩ = some (.int .i64 D2) := (blk_cell BK169.out 2).trans rfl; have hcz26_3 : w25.cell? ⟨gb169, 3, none⟩ = some (.int .i64 D3) := (blk_cell BK169.out 3).trans rfl; have hcz26_4 : w25.cell? ⟨gb169, 4, none⟩ = some (.int .i64 D4) := (blk_cell BK169.out 4).trans rfl; have hcz26_5 : w25.cell? ⟨gb169, 5, none⟩ = some (.int .i64 D5) := (blk_cell BK169.out 5).trans rfl; have hcz26_6 : w25.cell? ⟨gb169, 6, none⟩ = some (.int .i64 D6) := (blk_cell BK169.out 6).trans rfl; have hcz26_7 : w25.cell? ⟨gb169, 7, none⟩ = some (.int .i64 D7) := (blk_cell BK169.out 7).trans rfl; have hcz26_8 : w25.cell? ⟨gb169, 8, none⟩ = some (.int .i64 D8) := (blk_cell BK169.out 8).trans rfl; have hcz26_9 : w25.cell? ⟨gb169, 9, none⟩ = some (.int .i64 D9) := (blk_cell BK169.out 9).trans rfl; have hcz26_10 : w25.cell? ⟨gb169, 10, none⟩ = some (.int .i64 D10) := (blk_cell BK169.out 10).trans rfl; have hcz26_11 : w25.cell? ⟨gb169, 11, none⟩ = some (.int .i64 D11) := (blk_cell BK169.out 11).trans rfl; have hcz26_12 : w25.cell? ⟨gb169, 12, none⟩ = some (.int .i64 D12) := (blk_cell BK169.out 12).trans rfl; have hcz26_13 : w25.cell? ⟨gb169, 13, none⟩ = some (.int .i64 D13) := (blk_cell BK169.out 13).trans rfl; have hcz26_14 : w25.cell? ⟨gb169, 14, none⟩ = some (.int .i64 D14) := (blk_cell BK169.out 14).trans rfl; have hfz26_0 := blk_frozen BK169.out 0; have hfz26_1 := blk_frozen BK169.out 1; have hfz26_2 := blk_frozen BK169.out 2; have hfz26_3 := blk_frozen BK169.out 3; have hfz26_4 := blk_frozen BK169.out 4; have hfz26_5 := blk_frozen BK169.out 5; have hfz26_6 := blk_frozen BK169.out 6; have hfz26_7 := blk_frozen BK169.out 7; have hfz26_8 := blk_frozen BK169.out 8; have hfz26_9 := blk_frozen BK169.out 9; have hfz26_10 := blk_frozen BK169.out 10; have hfz26_11 := blk_frozen BK169.out 11; have hfz26_12 := blk_frozen BK169.out 12; have hfz26_13 := blk_frozen BK169.out 13; have hfz26_14 := blk_frozen BK169.out 14))
                go_ret
                exact ⟨by first | rfl | (simp [errW_none, errW_some] <;> rfl) | (simp [*, errW_none, errW_some] <;> rfl), by repeat (first | (with_reducible first | exact HB.out | apply below_alloc | apply pw_below_drewN | apply below_drew1 | refine below_set ?_ GE169.out) | exact HB.out)⟩
            · rw [if_neg c15] at H
              have c15b0 : decide (D12 ≤ (wrap64 ((wrap64 (D9 * 60000000)) * 60000000))) = false := decide_eq_false c15
              clear c15
              obtain rfl := Option.some.inj H
              go_enter Try.func43, Try.ntmps43
              go_wp2_with (first | ((with_reducible refine gate_dst (N := 1) rfl ?_); refine box_event ?hg (N := 1) ?hd (cs := #[.int .i64 D0, .int .i64 D1, .int .i64 D2, .int .i64 D3, .int .i64 D4, .int .i64 D5, .int .i64 D6, .int .i64 D7, .int .i64 D8, .int .i64 D9, .int .i64 D10, .int .i64 D11, .int .i64 D12, .int .i64 D13, .int .i64 D14]) (t := 29) ?hr ?_; (case hd => rfl); (case hg => rfl); (case hr => first | (go_simp; done) | (go_simp; rfl)); intro gb169 hg w27 hbox hb; have n0_ := Aside0.mk (below_step (by repeat (first | (with_reducible first | exact HB.out | apply below_alloc | apply pw_below_drewN | apply below_drew1) | exact HB.out)) hb); have n1_ := Aside0.mk (hbox); have n2_ := Aside0.mk ((by rw [hg]; exact (below_size (by repeat (first | (with_reducible first | exact HB.out | apply below_alloc | apply pw_below_drewN | apply below_drew1) | exact HB.out))) : w.heap.size ≤ gb169)); have n3_ := Aside0.mk ((by rw [hg]; exact (below_size (by repeat (first | (with_reducible first | exact HB.out | apply below_alloc | apply pw_below_drewN | apply below_drew1) | exact HB.out))) : w.heap.size ≤ gb169)); clear HB; have HB := n0_; have BK169 := n1_; have GW169 := n2_; have GE169 := n3_; clear n0_ n1_ n2_ n3_; clear hb hbox hg; have hcz28_0 : w27.cell? ⟨gb169, 0, none⟩ = some (.int .i64 D0) := (blk_cell BK169.out 0).trans rfl; have hcz28_1 : w27.cell? ⟨gb169, 1, none⟩ = some (.int .i64 D1) := (blk_cell BK169.out 1).trans rfl; have hcz28_2 : w27.cell? ⟨gb169, 2, none⟩ = some (.int .i64 D2) := (blk_cell BK169.out 2).trans rfl; have hcz28_3 : w27.cell? ⟨gb169, 3, none⟩ = some (.int .i64 D3) := (blk_cell BK169.out 3).trans rfl; have hcz28_4 : w27.cell? ⟨gb169, 4, none⟩ = some (.int .i64 D4) := (blk_cell BK169.out 4).trans rfl; have hcz28_5 : w27.cell? ⟨gb169, 5, none⟩ = some (.int .i64 D5) := (blk_cell BK169.out 5).trans rfl; have hcz28_6 : w27.cell? ⟨gb169, 6, none⟩ = some (.int .i64 D6) := (blk_cell BK169.out 6).trans rfl; have hcz28_7 : w27.cell? ⟨gb169, 7, none⟩ = some (.int .i64 D7) := (blk_cell BK169.out 7).trans rfl; have hcz28_8 : w27.cell? ⟨gb169, 8, none⟩ = some (.int .i64 D8) := (blk_cell BK169.out 8).trans rfl; have hcz28_9 : w27.cell? ⟨gb169, 9, none⟩ = some (.int .i64 D9) := (blk_cell BK169.out 9).trans rfl; have hcz28_10 : w27.cell? ⟨gb169, 10, none⟩ = some (.int .i64 D10) := (blk_cell BK169.out 10).trans rfl; have hcz28_11 : w27.cell? ⟨gb169, 11, none⟩ = some (.int .i64 D11) := (blk_cell BK169.out 11).trans rfl; have hcz28_12 : w27.cell? ⟨gb169, 12, none⟩ = some (.int .i64 D12) := (blk_cell BK169.out 12).trans rfl; have hcz28_13 : w27.cell? ⟨gb169, 13, none⟩ = some (.int .i64 D13) := (blk_cell BK169.out 13).trans rfl; have hcz28_14 : w27.cell? ⟨gb169, 14, none⟩ = some (.int .i64 D14) := (blk_cell BK169.out 14).trans rfl; have hfz28_0 := blk_frozen BK169.out 0; have hfz28_1 := blk_frozen BK169.out 1; have hfz28_2 := blk_frozen BK169.out 2; have hfz28_3 := blk_frozen BK169.out 3; have hfz28_4 := blk_frozen BK169.out 4; have hfz28_5 := blk_frozen BK169.out 5; have hfz28_6 := blk_frozen BK169.out 6; have hfz28_7 := blk_frozen BK169.out 7; have hfz28_8 := blk_frozen BK169.out 8; have hfz28_9 := blk_frozen BK169.out 9; have hfz28_10 := blk_frozen BK169.out 10; have hfz28_11 := blk_frozen BK169.out 11; have hfz28_12 := blk_frozen BK169.out 12; have hfz28_13 := blk_frozen BK169.out 13; have hfz28_14 := blk_frozen BK169.out 14))
              go_ret
              exact ⟨by first | rfl | (simp [errW_none, errW_some] <;> rfl) | (simp [*, errW_none, errW_some] <;> rfl), by repeat (first | (with_reducible first | exact HB.out | apply below_alloc | apply pw_below_drewN | apply below_drew1 | refine below_set ?_ GE169.out) | exact HB.out)⟩
          · rw [if_neg c14] at H
            have c14b0 : decide (0 ≤ D12) = false := decide_eq_false c14
            clear c14
            obtain rfl := Option.some.inj H
            go_enter Try.func43, Try.ntmps43
            go_wp2_with (first | ((with_reducible refine gate_dst (N := 1) rfl ?_); refine box_event ?hg (N := 1) ?hd (cs := #[.int .i64 D0, .int .i64 D1, .int .i64 D2, .int .i64 D3, .int .i64 D4, .int .i64 D5, .int .i64 D6, .int .i64 D7, .int .i64 D8, .int .i64 D9, .int .i64 D10, .int .i64 D11, .int .i64 D12, .int .i64 D13, .int .i64 D14]) (t := 29) ?hr ?_; (case hd => rfl); (case hg => rfl); (case hr => first | (go_simp; done) | (go_simp; rfl)); intro gb169 hg w29 hbox hb; have n0_ := Aside0.mk (below_step (by repeat (first | (with_reducible first | exact HB.out | apply below_alloc | apply pw_below_drewN | apply below_drew1) | exact HB.out)) hb); have n1_ := Aside0.mk (hbox); have n2_ := Aside0.mk ((by rw [hg]; exact (below_size (by repeat (first | (with_reducible first | exact HB.out | apply below_alloc | apply pw_below_drewN | apply below_drew1) | exact HB.out))) : w.heap.size ≤ gb169)); have n3_ := Aside0.mk ((by rw [hg]; exact (below_size (by repeat (first | (with_reducible first | exact HB.out | apply below_alloc | apply pw_below_drewN | apply below_drew1) | exact HB.out))) : w.heap.size ≤ gb169)); clear HB; have HB := n0_; have BK169 := n1_; have GW169 := n2_; have GE169 := n3_; clear n0_ n1_ n2_ n3_; clear hb hbox hg; have hcz30_0 : w29.cell? ⟨gb169, 0, none⟩ = some (.int .i64 D0) := (blk_cell BK169.out 0).trans rfl; have hcz30_1 : w29.cell? ⟨gb169, 1, none⟩ = some (.int .i64 D1) := (blk_cell BK169.out 1).trans rfl; have hcz30_2 : w29.cell? ⟨gb169, 2, none⟩ = some (.int .i64 D2) := (blk_cell BK169.out 2).trans rfl; have hcz30_3 : w29.cell? ⟨gb169, 3, none⟩ = some (.int .i64 D3) := (blk_cell BK169.out 3).trans rfl; have hcz30_4 : w29.cell? ⟨gb169, 4, none⟩ = some (.int .i64 D4) := (blk_cell BK169.out 4).trans rfl; have hcz30_5 : w29.cell? ⟨gb169, 5, none⟩ = some (.int .i64 D5) := (blk_cell BK169.out 5).trans rfl; have hcz30_6 : w29.cell? ⟨gb169, 6, none⟩ = some (.int .i64 D6) := (blk_cell BK169.out 6).trans rfl; have hcz30_7 : w29.cell? ⟨gb169, 7, none⟩ = some (.int .i64 D7) := (blk_cell BK169.out 7).trans rfl; have hcz30_8 : w29.cell? ⟨gb169, 8, none⟩ = some (.int .i64 D8) := (blk_cell BK169.out 8).trans rfl; have hcz30_9 : w29.cell? ⟨gb169, 9, none⟩ = some (.int .i64 D9) := (blk_cell BK169.out 9).trans rfl; have hcz30_10 : w29.cell? ⟨gb169, 10, none⟩ = some (.int .i64 D10) := (blk_cell BK169.out 10).trans rfl; have hcz30_11 : w29.cell? ⟨gb169, 11, none⟩ = some (.int .i64 D11) := (blk_cell BK169.out 11).trans rfl; have hcz30_12 : w29.cell? ⟨gb169, 12, none⟩ = some (.int .i64 D12) := (blk_cell BK169.out 12).trans rfl; have hcz30_13 : w29.cell? ⟨gb169, 13, none⟩ = some (.int .i64 D13) := (blk_cell BK169.out 13).trans rfl; have hcz30_14 : w29.cell? ⟨gb169, 14, none⟩ = some (.int .i64 D14) := (blk_cell BK169.out 14).trans rfl; have hfz30_0 := blk_frozen BK169.out 0; have hfz30_1 := blk_frozen BK169.out 1; have hfz30_2 := blk_frozen BK169.out 2; have hfz30_3 := blk_frozen BK169.out 3; have hfz30_4 := blk_frozen BK169.out 4; have hfz30_5 := blk_frozen BK169.out 5; have hfz30_6 := blk_frozen BK169.out 6; have hfz30_7 := blk_frozen BK169.out 7; have hfz30_8 := blk_frozen BK169.out 8; have hfz30_9 := blk_frozen BK169.out 9; have hfz30_10 := blk_frozen BK169.out 10; have hfz30_11 := blk_frozen BK169.out 11; have hfz30_12 := blk_frozen BK169.out 12; have hfz30_13 := blk_frozen BK169.out 13; have hfz30_14 := blk_frozen BK169.out 14))
            go_ret
            exact ⟨by first | rfl | (simp [errW_none, errW_some] <;> rfl) | (simp [*, errW_none, errW_some] <;> rfl), by repeat (first | (with_reducible first | exact HB.out | apply below_alloc | apply pw_below_drewN | apply below_drew1 | refine below_set ?_ GE169.out) | exact HB.out)⟩

end Go.Proofs.Ytlokmliannklaaa.Print
end
