/- wide.Right: after the kit's print; Plain facts on bits; The ratio's numbers, without a program: one more bit keeps what holds; where it ends. -/
import Derived.Test.YtlokmliannklaaaProg
import Derived.Below
import Derived.Deep.Draws
import Derived.Deep.AppendLies
import Derived.Maps.AppendAt
import Derived.OwnWalk
import Derived.Laws.BytesArg
import Derived.Laws.MakeOwn
import Derived.Laws.OwnMore
import Derived.Deep.OwnRows
import Derived.Tactics
import Derived.Lib.ConvBytes
import Derived.Laws.Slices
import Derived.WalkKit
import Derived.KernelRfl
import Derived.RowKit3
import Derived.Deep.LoopGhost
import Derived.Deep.QuietTactic
import Derived.BigQuiet
import Derived.WideLaws
import Derived.Deep.DeepCutAuto
import Derived.Deep.CutBlock
import Derived.Deep.RegionHeld3
import Derived.Laws.Rows
import Derived.Lib.AppendStr
import Derived.ArgAppend
import Derived.Laws.IdiomCopy
import Derived.OrdersHeld
import Derived.Laws.BitsLemmas
import Derived.RowKit
import Derived.Test.YtlokmliannklaaaQBase
import Derived.Test.YtlokmliannklaaaWords
import Derived.Outline
import Derived.Handy
import Derived.LoopN
import Derived.ScopeJumps
import Derived.Lib.Hide
import Derived.Laws.BitsAllLaws
import Derived.Test.YtlokmliannklaaaQWide
import Derived.Lib.ItoaNum
section
namespace Go.Proofs.Ytlokmliannklaaa.Print
open Go.RowKit Go.Proofs.YtlokmliannklaaaW.PrintWords Go.Proofs.YtlokmliannklaaaW.PrintLast Go.Proofs.YtlokmliannklaaaW.PrintMore
attribute [local go_sem] max2_int min2_int max_two min_two max_three min_three max_four min_four   -- for this text's walks alone
set_option linter.unusedVariables false
set_option linter.unusedSimpArgs false

def errH : Option Int → Value
  | none => .nilIface
  | some c => .iface 0 (.int .i64 c)
theorem errH_none : errH none = .nilIface := rfl
theorem errH_some (c : Int) : errH (some c) = .iface 0 (.int .i64 c) := rfl


/-! ### wide_Right: function 21 -/
def wide_Right.f (a0_0 : Int) (a0_1 : Int) (a1 : Int) : Option (Int × Int) := if a1 < 0 then (some (a0_0, a0_1)) else (if a1 ≥ 64 then (if 0 ≤ (wrap64 (a1 - 64)) then (some (0, shr .u64 a0_0 (wrap64 (a1 - 64)))) else (none)) else (if 0 ≤ a1 then (if 0 ≤ (wrap64 (64 - a1)) then (some (shr .u64 a0_0 a1, Go.bits .or .u64 (shr .u64 a0_1 a1) (shl .u64 a0_0 (wrap64 (64 - a1))))) else (none)) else (none)))
def wide_Right.T5 : Bool × List (List Nat × List Nat) := (true, [([], []), ([0], [0]), ([], []), ([1, 2], [1, 2]), ([], []), ([4], [4]), ([], []), ([5, 6], [5, 6]), ([], []), ([8], [8]), ([], []), ([10], [10]), ([9, 11], [9, 11]), ([7, 12], [7, 12]), ([3, 13], [3, 13]), ([14, 0, 1, 2, 3, 4, 5, 6, 7, 8, 9, 10, 11, 12, 13, 14], [14])])
def wide_Right.B5 : List Nat := [0, 1, 0, 7, 0, 16, 0, 112, 0, 256, 0, 1024, 3840, 8176, 16383, 32767]
theorem wide_Right.tab5 : rtab .any (opsOf Try.f21 5) = wide_Right.T5 := by kernel_rfl
theorem wide_Right.bits5 : waitsOk wide_Right.T5.2 wide_Right.B5 = true := by kernel_rfl
set_option maxHeartbeats 8000000 in
set_option maxRecDepth 100000 in
theorem wide_Right.calls (a0_0 : Int) (a0_1 : Int) (a1 : Int) (r1 : Int) (r2 : Int) (w : World) (h : wide_Right.f a0_0 a0_1 a1 = some (r1, r2)) :
    Calls Try.prog 21 #[.agg #[.int .u64 a0_0, .int .u64 a0_1], .int .i64 a1] w fun e w' => e = .returned (.agg #[.int .u64 r1, .int .u64 r2]) ∧ Below w.heap.size w w' := by
  have hu24 := Try.underlying24
  have HB := Aside0.mk (Below.refl w.heap.size w)
  have H : (if a1 < 0 then (some (a0_0, a0_1)) else (if a1 ≥ 64 then (if 0 ≤ (wrap64 (a1 - 64)) then (some (0, shr .u64 a0_0 (wrap64 (a1 - 64)))) else (none)) else (if 0 ≤ a1 then (if 0 ≤ (wrap64 (64 - a1)) then (some (shr .u64 a0_0 a1, Go.bits .or .u64 (shr .u64 a0_1 a1) (shl .u64 a0_0 (wrap64 (64 - a1))))) else (none)) else (none)))) = some (r1, r2) := h
  clear h
  by_cases c3 : a1 < 0
  · rw [if_pos c3] at H
    have c3b0 : decide (a1 < 0) = true := decide_eq_true c3
    clear c3
    simp only [Option.some.injEq, Prod.mk.injEq] at H
    obtain ⟨rfl, rfl⟩ := H
    go_enter Try.func21, Try.ntmps21
    go_wp2_with (first | ((with_reducible refine gate_dst (N := 2) rfl ?_); refine box_event ?hg (N := 2) ?hd (cs := #[.int .u64 a0_0, .int .u64 a0_1]) (t := 24) ?hr ?_; (case hd => rfl); (case hg => rfl); (case hr => first | (go_simp; done) | (go_simp; rfl)); intro gb104 hg w4 hbox hb; have n0_ := Aside0.mk (below_step (by repeat (first | (with_reducible first | exact HB.out | apply below_alloc | apply pw_below_drewN | apply below_drew1) | exact HB.out)) hb); have n1_ := Aside0.mk (hbox); have n2_ := Aside0.mk ((by rw [hg]; exact (below_size (by repeat (first | (with_reducible first | exact HB.out | apply below_alloc | apply pw_below_drewN | apply below_drew1) | exact HB.out))) : w.heap.size ≤ gb104)); have n3_ := Aside0.mk ((by rw [hg]; exact (below_size (by repeat (first | (with_reducible first | exact HB.out | apply below_alloc | apply pw_below_drewN | apply below_drew1) | exact HB.out))) : w.heap.size ≤ gb104)); clear HB; have HB := n0_; have BK104 := n1_; have GW104 := n2_; have GE104 := n3_; clear n0_ n1_ n2_ n3_; clear hb hbox hg) | ((with_reducible refine gate_dst (N := 4) rfl ?_); refine box_event ?hg (N := 4) ?hd (cs := #[.int .u64 0, .int .u64 0]) (t := 24) ?hr ?_; (case hd => rfl); (case hg => rfl); (case hr => first | (go_simp; done) | (go_simp; rfl)); intro gb105 hg w5 hbox hb; have n0_ := Aside0.mk (blk_below (g := gb104) (o := .cells #[.int .u64 a0_0, .int .u64 a0_1] 24 (0, 0)) (by (with_reducible repeat (first | refine blk_drewN ?_ _ | refine blk_drew ?_ | refine blk_alloc ?_ _)); exact BK104.out) hb); have n1_ := Aside0.mk (below_step (by repeat (first | (with_reducible first | exact HB.out | apply below_alloc | apply pw_below_drewN | apply below_drew1 | refine below_set ?_ GE104.out) | exact HB.out)) hb); have n2_ := Aside0.mk (hbox); have n3_ := Aside0.mk ((by rw [hg]; exact (below_size (by repeat (first | (with_reducible first | exact HB.out | apply below_alloc | apply pw_below_drewN | apply below_drew1 | refine below_set ?_ GE104.out) | exact HB.out))) : w.heap.size ≤ gb105)); have n4_ := Aside0.mk ((by rw [hg]; exact (below_size (by repeat (first | (with_reducible first | exact HB.out | apply below_alloc | apply pw_below_drewN | apply below_drew1 | refine below_set ?_ GE104.out) | exact HB.out))) : w.heap.size ≤ gb105)); have n5_ := Aside0.mk ((by rw [hg]; exact Nat.ne_of_lt (blk_lt (g := gb104) (o := .cells #[.int .u64 a0_0, .int .u64 a0_1] 24 (0, 0)) (by (with_reducible repeat (first | refine blk_drewN ?_ _ | refine blk_drew ?_ | refine blk_alloc ?_ _)); exact BK104.out)) : gb104 ≠ gb105)); have n6_ := Aside0.mk ((by rw [hg]; exact Nat.ne_of_gt (blk_lt (g := gb104) (o := .cells #[.int .u64 a0_0, .int .u64 a0_1] 24 (0, 0)) (by (with_reducible repeat (first | refine blk_drewN ?_ _ | refine blk_drew ?_ | refine blk_alloc ?_ _)); exact BK104.out)) : gb105 ≠ gb104)); clear BK104; clear HB; have BK104 := n0_; have HB := n1_; have BK105 := n2_; have GW105 := n3_; have GE105 := n4_; have NB104_105 := n5_; have NB105_104 := n6_; clear n0_ n1_ n2_ n3_ n4_ n5_ n6_; clear hb hbox hg; have hnb6 := NB104_105.out; have hnc6 := NB105_104.out; have hcz7_0 : w5.cell? ⟨gb104, 0, none⟩ = some (.int .u64 a0_0) := (blk_cell BK104.out 0).trans rfl; have hcz7_1 : w5.cell? ⟨gb104, 1, none⟩ = some (.int .u64 a0_1) := (blk_cell BK104.out 1).trans rfl; have hfz7_0 := blk_frozen BK104.out 0; have hfz7_1 := blk_frozen BK104.out 1; have hcz8_0 : w5.cell? ⟨gb105, 0, none⟩ = some (.int .u64 0) := (blk_cell BK105.out 0).trans rfl; have hcz8_1 : w5.cell? ⟨gb105, 1, none⟩ = some (.int .u64 0) := (blk_cell BK105.out 1).trans rfl; have hfz8_0 := blk_frozen BK105.out 0; have hfz8_1 := blk_frozen BK105.out 1))
    refine bodyPost_ret (results_cell_row rfl _ _ gb105 24 #[.int .u64 a0_0, .int .u64 a0_1] (0, 0) _ rfl (by (with_reducible repeat (first | refine blk_drewN ?_ _ | refine blk_drew ?_ | refine blk_alloc ?_ _)); refine blk_put (cs := #[.int .u64 a0_0, .int .u64 0]) ?_ 1 _ rfl; (with_reducible repeat (first | refine blk_drewN ?_ _ | refine blk_drew ?_ | refine blk_alloc ?_ _)); refine blk_put (cs := #[.int .u64 0, .int .u64 0]) ?_ 0 _ rfl; (with_reducible repeat (first | refine blk_drewN ?_ _ | refine blk_drew ?_ | refine blk_alloc ?_ _)); exact BK105.out) Try.underlying24 rfl (by kernel_rfl)) rfl ?_
    exact ⟨by first | rfl | (simp [errH_none, errH_some] <;> rfl) | (simp [*, errH_none, errH_some] <;> rfl), by repeat (first | (with_reducible first | exact HB.out | apply below_alloc | apply pw_below_drewN | apply below_drew1 | refine below_set ?_ GE104.out | refine below_set ?_ GE105.out) | exact HB.out)⟩
  · rw [if_neg c3] at H
    have c3b0 : decide (a1 < 0) = false := decide_eq_false c3
    clear c3
    by_cases c9 : a1 ≥ 64
    · rw [if_pos c9] at H
      have c9b0 : decide (64 ≤ a1) = true := decide_eq_true c9
      clear c9
      obtain ⟨ji10, hji10⟩ : ∃ j_ : Int, (wrap64 (a1 - 64)) = j_ := ⟨_, rfl⟩
      replace H : (if 0 ≤ (ji10) then (some (0, shr .u64 a0_0 (ji10))) else (none)) = some (r1, r2) := by first | (rw [hji10] at H; exact H) | (simp only [hji10] at H ⊢; exact H)
      have hji10w : (IntKind.i64.wrap (a1 - 64)) = ji10 := (i64_w _).trans hji10
      by_cases c11 : 0 ≤ (ji10)
      · rw [if_pos c11] at H
        have c11b0 := eq_true c11
        have c11b1 : decide (0 ≤ (ji10)) = true := decide_eq_true c11
        clear c11
        obtain ⟨ji12, hji12⟩ : ∃ j_ : Int, (shr .u64 a0_0 (ji10)) = j_ := ⟨_, rfl⟩
        replace H : (some (0, ji12)) = some (r1, r2) := by first | (rw [hji12] at H; exact H) | (simp only [hji12] at H ⊢; exact H)
        have hji12_ : (a0_0 / 2 ^ min (ji10).toNat 64) = ji12 := hji12
        have hji12z : (ji10) ≤ 64 → (a0_0 / 2 ^ (ji10).toNat) = ji12 := shr_small hji12
        simp only [Option.some.injEq, Prod.mk.injEq] at H
        obtain ⟨rfl, rfl⟩ := H
        go_enter Try.func21, Try.ntmps21
        go_wp2_with (first | ((with_reducible refine gate_dst (N := 2) rfl ?_); refine box_event ?hg (N := 2) ?hd (cs := #[.int .u64 a0_0, .int .u64 a0_1]) (t := 24) ?hr ?_; (case hd => rfl); (case hg => rfl); (case hr => first | (go_simp; done) | (go_simp; rfl)); intro gb104 hg w13 hbox hb; have n0_ := Aside0.mk (below_step (by repeat (first | (with_reducible first | exact HB.out | apply below_alloc | apply pw_below_drewN | apply below_drew1) | exact HB.out)) hb); have n1_ := Aside0.mk (hbox); have n2_ := Aside0.mk ((by rw [hg]; exact (below_size (by repeat (first | (with_reducible first | exact HB.out | apply below_alloc | apply pw_below_drewN | apply below_drew1) | exact HB.out))) : w.heap.size ≤ gb104)); have n3_ := Aside0.mk ((by rw [hg]; exact (below_size (by repeat (first | (with_reducible first | exact HB.out | apply below_alloc | apply pw_below_drewN | apply below_drew1) | exact HB.out))) : w.heap.size ≤ gb104)); clear HB; have HB := n0_; have BK104 := n1_; have GW104 := n2_; have GE104 := n3_; clear n0_ n1_ n2_ n3_; clear hb hbox hg) | ((with_reducible refine gate_dst (N := 4) rfl ?_); refine box_event ?hg (N := 4) ?hd (cs := #[.int .u64 0, .int .u64 0]) (t := 24) ?hr ?_; (case hd => rfl); (case hg => rfl); (case hr => first | (go_simp; done) | (go_simp; rfl)); intro gb105 hg w14 hbox hb; have n0_ := Aside0.mk (blk_below (g := gb104) (o := .cells #[.int .u64 a0_0, .int .u64 a0_1] 24 (0, 0)) (by (with_reducible repeat (first | refine blk_drewN ?_ _ | refine blk_drew ?_ | refine blk_alloc ?_ _)); exact BK104.out) hb); have n1_ := Aside0.mk (below_step (by repeat (first | (with_reducible first | exact HB.out | apply below_alloc | apply pw_below_drewN | apply below_drew1 | refine below_set ?_ GE104.out) | exact HB.out)) hb); have n2_ := Aside0.mk (hbox); have n3_ := Aside0.mk ((by rw [hg]; exact (below_size (by repeat (first | (with_reducible first | exact HB.out | apply below_alloc | apply pw_below_drewN | apply below_drew1 | refine below_set ?_ GE104.out) | exact HB.out))) : w.heap.size ≤ gb105)); have n4_ := Aside0.mk ((by rw [hg]; exact (below_size (by repeat (first | (with_reducible first | exact HB.out | apply below_alloc | apply pw_below_drewN | apply below_drew1 | refine below_set ?_ GE104.out) | exact HB.out))) : w.heap.size ≤ gb105)); have n5_ := Aside0.mk ((by rw [hg]; exact Nat.ne_of_lt (blk_lt (g := gb104) (o := .cells #[.int .u64 a0_0, .int .u64 a0_1] 24 (0, 0)) (by (with_reducible repeat (first | refine blk_drewN ?_ _ | refine blk_drew ?_ | refine blk_alloc ?_ _)); exact BK104.out)) : gb104 ≠ gb105)); have n6_ := Aside0.mk ((by rw [hg]; exact Nat.ne_of_gt (blk_lt (g := gb104) (o := .cells #[.int .u64 a0_0, .int .u64 a0_1] 24 (0, 0)) (by (with_reducible repeat (first | refine blk_drewN ?_ _ | refine blk_drew ?_ | refine blk_alloc ?_ _)); exact BK104.out)) : gb105 ≠ gb104)); clear BK104; clear HB; have BK104 := n0_; have HB := n1_; have BK105 := n2_; have GW105 := n3_; have GE105 := n4_; have NB104_105 := n5_; have NB105_104 := n6_; clear n0_ n1_ n2_ n3_ n4_ n5_ n6_; clear hb hbox hg; have hnb15 := NB104_105.out; have hnc15 := NB105_104.out; have hcz16_0 : w14.cell? ⟨gb104, 0, none⟩ = some (.int .u64 a0_0) := (blk_cell BK104.out 0).trans rfl; have hcz16_1 : w14.cell? ⟨gb104, 1, none⟩ = some (.int .u64 a0_1) := (blk_cell BK104.out 1).trans rfl; have hfz16_0 := blk_frozen BK104.out 0; have hfz16_1 := blk_frozen BK104.out 1; have hcz17_0 : w14.cell? ⟨gb105, 0, none⟩ = some (.int .u64 0) := (blk_cell BK105.out 0).trans rfl; have hcz17_1 : w14.cell? ⟨gb105, 1, none⟩ = some (.int .u64 0) := (blk_cell BK105.out 1).trans rfl; have hfz17_0 := blk_frozen BK105.out 0; have hfz17_1 := blk_frozen BK105.out 1))
        refine bodyPost_ret (results_cell_row rfl _ _ gb105 24 #[.int .u64 0, .int .u64 ji12] (0, 0) _ rfl (by (with_reducible repeat (first | refine blk_drewN ?_ _ | refine blk_drew ?_ | refine blk_alloc ?_ _)); refine blk_put (cs := #[.int .u64 0, .int .u64 0]) ?_ 1 _ rfl; (with_reducible repeat (first | refine blk_drewN ?_ _ | refine blk_drew ?_ | refine blk_alloc ?_ _)); refine blk_put (cs := #[.int .u64 0, .int .u64 0]) ?_ 0 _ rfl; (with_reducible repeat (first | refine blk_drewN ?_ _ | refine blk_drew ?_ | refine blk_alloc ?_ _)); exact BK105.out) Try.underlying24 rfl (by kernel_rfl)) rfl ?_
        exact ⟨by first | rfl | (simp [errH_none, errH_some] <;> rfl) | (simp only [← hji10, ← hji12]; first | rfl | (simp [errH_none, errH_some] <;> rfl)) | (simp [*, errH_none, errH_some] <;> rfl), by repeat (first | (with_reducible first | exact HB.out | apply below_alloc | apply pw_below_drewN | apply below_drew1 | refine below_set ?_ GE104.out | refine below_set ?_ GE105.out) | exact HB.out)⟩
      · rw [if_neg c11] at H
        exact absurd H (by simp)
    · rw [if_neg c9] at H
      have c9b0 : decide (64 ≤ a1) = false := decide_eq_false c9
      clear c9
      by_cases c18 : 0 ≤ a1
      · rw [if_pos c18] at H
        have c18b0 := eq_true c18
        have c18b1 : decide (0 ≤ a1) = true := decide_eq_true c18
        clear c18
        obtain ⟨ji19, hji19⟩ : ∃ j_ : Int, (shr .u64 a0_0 a1) = j_ := ⟨_, rfl⟩
        replace H : (if 0 ≤ (wrap64 (64 - a1)) then (some (ji19, Go.bits .or .u64 (shr .u64 a0_1 a1) (shl .u64 a0_0 (wrap64 (64 - a1))))) else (none)) = some (r1, r2) := by first | (rw [hji19] at H; exact H) | (simp only [hji19] at H ⊢; exact H)
        have hji19_ : (a0_0 / 2 ^ min a1.toNat 64) = ji19 := hji19
        have hji19z : a1 ≤ 64 → (a0_0 / 2 ^ a1.toNat) = ji19 := shr_small hji19
        have c20b0 := eq_true (of_decide_eq_true (by first | (with_reducible assumption) | assumption) : 0 ≤ a1)
        obtain ⟨ji21, hji21⟩ : ∃ j_ : Int, (shr .u64 a0_1 a1) = j_ := ⟨_, rfl⟩
        replace H : (if 0 ≤ (wrap64 (64 - a1)) then (some (ji19, Go.bits .or .u64 (ji21) (shl .u64 a0_0 (wrap64 (64 - a1))))) else (none)) = some (r1, r2) := by first | (rw [hji21] at H; exact H) | (simp only [hji21] at H ⊢; exact H)
        have hji21_ : (a0_1 / 2 ^ min a1.toNat 64) = ji21 := hji21
        have hji21z : a1 ≤ 64 → (a0_1 / 2 ^ a1.toNat) = ji21 := shr_small hji21
        obtain ⟨ji22, hji22⟩ : ∃ j_ : Int, (wrap64 (64 - a1)) = j_ := ⟨_, rfl⟩
        replace H : (if 0 ≤ (ji22) then (some (ji19, Go.bits .or .u64 (ji21) (shl .u64 a0_0 (ji22)))) else (none)) = some (r1, r2) := by first | (rw [hji22] at H; exact H) | (simp only [hji22] at H ⊢; exact H)
        have hji22w : (IntKind.i64.wrap (64 - a1)) = ji22 := (i64_w _).trans hji22
        by_cases c23 : 0 ≤ (ji22)
        · rw [if_pos c23] at H
          have c23b0 := eq_true c23
          have c23b1 : decide (0 ≤ (ji22)) = true := decide_eq_true c23
          clear c23
          obtain ⟨ji24, hji24⟩ : ∃ j_ : Int, (shl .u64 a0_0 (ji22)) = j_ := ⟨_, rfl⟩
          replace H : (some (ji19, Go.bits .or .u64 (ji21) (ji24))) = some (r1, r2) := by first | (rw [hji24] at H; exact H) | (simp only [hji24] at H ⊢; exact H)
          have hji24_ : (IntKind.u64.wrap (a0_0 * 2 ^ min (ji22).toNat 64)) = ji24 := hji24
          have hji24z : (ji22) ≤ 64 → (IntKind.u64.wrap (a0_0 * 2 ^ (ji22).toNat)) = ji24 := shl_small hji24
          simp only [Option.some.injEq, Prod.mk.injEq] at H
          obtain ⟨rfl, rfl⟩ := H
          go_enter Try.func21, Try.ntmps21
          try go_wp2_with (first | ((with_reducible refine gate_dst (N := 2) rfl ?_); refine box_event ?hg (N := 2) ?hd (cs := #[.int .u64 a0_0, .int .u64 a0_1]) (t := 24) ?hr ?_; (case hd => rfl); (case hg => rfl); (case hr => first | (go_simp; done) | (go_simp; rfl)); intro gb104 hg w25 hbox hb; have n0_ := Aside0.mk (below_step (by repeat (first | (with_reducible first | exact HB.out | apply below_alloc | apply pw_below_drewN | apply below_drew1) | exact HB.out)) hb); have n1_ := Aside0.mk (hbox); have n2_ := Aside0.mk ((by rw [hg]; exact (below_size (by repeat (first | (with_reducible first | exact HB.out | apply below_alloc | apply pw_below_drewN | apply below_drew1) | exact HB.out))) : w.heap.size ≤ gb104)); have n3_ := Aside0.mk ((by rw [hg]; exact (below_size (by repeat (first | (with_reducible first | exact HB.out | apply below_alloc | apply pw_below_drewN | apply below_drew1) | exact HB.out))) : w.heap.size ≤ gb104)); clear HB; have HB := n0_; have BK104 := n1_; have GW104 := n2_; have GE104 := n3_; clear n0_ n1_ n2_ n3_; clear hb hbox hg) | ((with_reducible refine gate_dst (N := 4) rfl ?_); refine box_event ?hg (N := 4) ?hd (cs := #[.int .u64 0, .int .u64 0]) (t := 24) ?hr ?_; (case hd => rfl); (case hg => rfl); (case hr => first | (go_simp; done) | (go_simp; rfl)); intro gb105 hg w26 hbox hb; have n0_ := Aside0.mk (blk_below (g := gb104) (o := .cells #[.int .u64 a0_0, .int .u64 a0_1] 24 (0, 0)) (by (with_reducible repeat (first | refine blk_drewN ?_ _ | refine blk_drew ?_ | refine blk_alloc ?_ _)); exact BK104.out) hb); have n1_ := Aside0.mk (below_step (by repeat (first | (with_reducible first | exact HB.out | apply below_alloc | apply pw_below_drewN | apply below_drew1 | refine below_set ?_ GE104.out) | exact HB.out)) hb); have n2_ := Aside0.mk (hbox); have n3_ := Aside0.mk ((by rw [hg]; exact (below_size (by repeat (first | (with_reducible first | exact HB.out | apply below_alloc | apply pw_below_drewN | apply below_drew1 | refine below_set ?_ GE104.out) | exact HB.out))) : w.heap.size ≤ gb105)); have n4_ := Aside0.mk ((by rw [hg]; exact (below_size (by repeat (first | (with_reducible first | exact HB.out | apply below_alloc | apply pw_below_drewN | apply below_drew1 | refine below_set ?_ GE104.out) | exact HB.out))) : w.heap.size ≤ gb105)); have n5_ := Aside0.mk ((by rw [hg]; exact Nat.ne_of_lt (blk_lt (g := gb104) (o := .cells #[.int .u64 a0_0, .int .u64 a0_1] 24 (0, 0)) (by (with_reducible repeat (first | refine blk_drewN ?_ _ | refine blk_drew ?_ | refine blk_alloc ?_ _)); exact BK104.out)) : gb104 ≠ gb105)); have n6_ := Aside0.mk ((by rw [hg]; exact Nat.ne_of_gt (blk_lt (g := gb104) (o := .cells #[.int .u64 a0_0, .int .u64 a0_1] 24 (0, 0)) (by (with_reducible repeat (first | refine blk_drewN ?_ _ | refine blk_drew ?_ | refine blk_alloc ?_ _)); exact BK104.out)) : gb105 ≠ gb104)); clear BK104; clear HB; have BK104 := n0_; have HB := n1_; have BK105 := n2_; have GW105 := n3_; have GE105 := n4_; have NB104_105 := n5_; have NB105_104 := n6_; clear n0_ n1_ n2_ n3_ n4_ n5_ n6_; clear hb hbox hg))
          have n0_ := Aside0.mk (blk_drew BK104.out)
          have n1_ := Aside0.mk (blk_drew BK105.out)
          have n2_ := Aside0.mk (below_drew1 HB.out)
          clear BK104
          clear BK105
          clear HB
          have BK104 := n0_
          have BK105 := n1_
          have HB := n2_
          clear n0_ n1_ n2_
          refine start_ (n := 16) (S := fun w' => w'.cell? ⟨gb104, 0, none⟩ = some (.int .u64 a0_0) ∧ w'.cell? ⟨gb104, 1, none⟩ = some (.int .u64 a0_1)) (ds := []) #[false, false, false, false, false, false, false, false, false, false, false, false, false, false, false, false] (by kernel_rfl) rfl rfl ⟨(blk_cell BK104.out 0).trans rfl, (blk_cell BK104.out 1).trans rfl⟩ (fun hHeld => ?_); refine with_tabW wide_Right.tab5 wide_Right.bits5 (fun HT_ HW_ => ?_)
          generalize w26.drew = w27 at BK104 BK105 HB hHeld ⊢
          refine pure_ (i := 0) (N := some 18) (v := ?_) (a' := ?_) #[true, false, false, false, false, false, false, false, false, false, false, false, false, false, false, false] rfl rfl (any_of HT_.out (by kernel_rfl)) (fun _ _ _ h => h) (Or.inl ⟨by rfl, ?_⟩) ?_ ?_
          rotate_left
          · intro w'
            go_simp
            with_reducible rfl
          rotate_left
          · simp only [Act.put, List.setIfInBounds_toArray, List.set_cons_zero, List.set_cons_succ, i64_w, i32_w]
            rfl
          refine pure_ (i := 2) (N := some 20) (v := ?_) (a' := ?_) #[true, false, true, false, false, false, false, false, false, false, false, false, false, false, false, false] rfl rfl (any_of HT_.out (by kernel_rfl)) (fun _ _ _ h => h) (Or.inl ⟨by rfl, ?_⟩) ?_ ?_
          rotate_left
          · intro w'
            go_simp
            with_reducible rfl
          rotate_left
          · simp only [Act.put, List.setIfInBounds_toArray, List.set_cons_zero, List.set_cons_succ, i64_w, i32_w]
            rfl
          refine pure_ (i := 4) (N := some 22) (v := ?_) (a' := ?_) #[true, false, true, false, true, false, false, false, false, false, false, false, false, false, false, false] rfl rfl (any_of HT_.out (by kernel_rfl)) (fun _ _ _ h => h) (Or.inl ⟨by rfl, ?_⟩) ?_ ?_
          rotate_left
          · intro w'
            go_simp
            with_reducible rfl
          rotate_left
          · simp only [Act.put, List.setIfInBounds_toArray, List.set_cons_zero, List.set_cons_succ, i64_w, i32_w]
            rfl
          refine pure_ (i := 6) (N := some 24) (v := ?_) (a' := ?_) #[true, false, true, false, true, false, true, false, false, false, false, false, false, false, false, false] rfl rfl (any_of HT_.out (by kernel_rfl)) (fun _ _ _ h => h) (Or.inl ⟨by rfl, ?_⟩) ?_ ?_
          rotate_left
          · intro w'
            go_simp
            with_reducible rfl
          rotate_left
          · simp only [Act.put, List.setIfInBounds_toArray, List.set_cons_zero, List.set_cons_succ, i64_w, i32_w]
            rfl
          refine pure_ (i := 8) (N := some 26) (v := ?_) (a' := ?_) #[true, false, true, false, true, false, true, false, true, false, false, false, false, false, false, false] rfl rfl (any_of HT_.out (by kernel_rfl)) (fun _ _ _ h => h) (Or.inl ⟨by rfl, ?_⟩) ?_ ?_
          rotate_left
          · intro w'
            go_simp
            with_reducible rfl
          rotate_left
          · simp only [Act.put, List.setIfInBounds_toArray, List.set_cons_zero, List.set_cons_succ, i64_w, i32_w]
            rfl
          refine pure_ (i := 10) (N := some 28) (v := ?_) (a' := ?_) #[true, false, true, false, true, false, true, false, true, false, true, false, false, false, false, false] rfl rfl (any_of HT_.out (by kernel_rfl)) (fun _ _ _ h => h) (Or.inl ⟨by rfl, ?_⟩) ?_ ?_
          rotate_left
          · intro w'
            go_simp
            with_reducible rfl
          rotate_left
          · simp only [Act.put, List.setIfInBounds_toArray, List.set_cons_zero, List.set_cons_succ, i64_w, i32_w]
            rfl
          refine pure_ (i := 11) (N := some 29) (v := ?_) (a' := ?_) #[true, false, true, false, true, false, true, false, true, false, true, true, false, false, false, false] rfl rfl (any_of HT_.out (by kernel_rfl)) (fun _ _ _ h => h) (Or.inl ⟨by rfl, ?_⟩) ?_ ?_
          rotate_left
          · intro w'
            go_simp
            with_reducible rfl
          rotate_left
          · simp only [Act.put, List.setIfInBounds_toArray, List.set_cons_zero, List.set_cons_succ, i64_w, i32_w]
            rfl
          refine take_ (i := 1) (N := some 19) (v := ?_) (a' := ?_) #[true, true, true, false, true, false, true, false, true, false, true, true, false, false, false, false] rfl rfl (take_ofW HT_.out HW_.out (by kernel_rfl)) (fun _ _ _ h => h) (Or.inl ⟨by rfl, ?_⟩) hHeld ?_ ?_
          rotate_left
          · rintro w' ⟨s0, s1⟩
            go_simp
            with_reducible rfl
          rotate_left
          · simp only [Act.put, List.setIfInBounds_toArray, List.set_cons_zero, List.set_cons_succ, i64_w, i32_w]
            rfl
          refine pure_ (i := 3) (N := some 21) (v := ?_) (a' := ?_) #[true, true, true, true, true, false, true, false, true, false, true, true, false, false, false, false] rfl rfl (any_of HT_.out (by kernel_rfl)) (fun _ _ _ h => h) (Or.inl ⟨by rfl, ?_⟩) ?_ ?_
          rotate_left
          · intro w'
            go_simp
            with_reducible rfl
          rotate_left
          · simp only [Act.put, List.setIfInBounds_toArray, List.set_cons_zero, List.set_cons_succ, i64_w, i32_w]
            rfl
          refine take_ (i := 5) (N := some 23) (v := ?_) (a' := ?_) #[true, true, true, true, true, true, true, false, true, false, true, true, false, false, false, false] rfl rfl (take_ofW HT_.out HW_.out (by kernel_rfl)) (fun _ _ _ h => h) (Or.inl ⟨by rfl, ?_⟩) hHeld ?_ ?_
          rotate_left
          · rintro w' ⟨s0, s1⟩
            go_simp
            with_reducible rfl
          rotate_left
          · simp only [Act.put, List.setIfInBounds_toArray, List.set_cons_zero, List.set_cons_succ, i64_w, i32_w]
            rfl
          refine pure_ (i := 7) (N := some 25) (v := ?_) (a' := ?_) #[true, true, true, true, true, true, true, true, true, false, true, true, false, false, false, false] rfl rfl (any_of HT_.out (by kernel_rfl)) (fun _ _ _ h => h) (Or.inl ⟨by rfl, ?_⟩) ?_ ?_
          rotate_left
          · intro w'
            go_simp
            with_reducible rfl
          rotate_left
          · simp only [Act.put, List.setIfInBounds_toArray, List.set_cons_zero, List.set_cons_succ, i64_w, i32_w]
            rfl
          refine take_ (i := 9) (N := some 27) (v := ?_) (a' := ?_) #[true, true, true, true, true, true, true, true, true, true, true, true, false, false, false, false] rfl rfl (take_ofW HT_.out HW_.out (by kernel_rfl)) (fun _ _ _ h => h) (Or.inl ⟨by rfl, ?_⟩) hHeld ?_ ?_
          rotate_left
          · rintro w' ⟨s0, s1⟩
            go_simp
            with_reducible rfl
          rotate_left
          · simp only [Act.put, List.setIfInBounds_toArray, List.set_cons_zero, List.set_cons_succ, i64_w, i32_w]
            rfl
          refine pure_ (i := 12) (N := some 30) (v := ?_) (a' := ?_) #[true, true, true, true, true, true, true, true, true, true, true, true, true, false, false, false] rfl rfl (any_of HT_.out (by kernel_rfl)) (fun _ _ _ h => h) (Or.inl ⟨by rfl, ?_⟩) ?_ ?_
          rotate_left
          · intro w'
            go_simp
            with_reducible rfl
          rotate_left
          · simp only [Act.put, List.setIfInBounds_toArray, List.set_cons_zero, List.set_cons_succ, i64_w, i32_w]
            rfl
          refine pure_ (i := 13) (N := some 31) (v := ?_) (a' := ?_) #[true, true, true, true, true, true, true, true, true, true, true, true, true, true, false, false] rfl rfl (any_of HT_.out (by kernel_rfl)) (fun _ _ _ h => h) (Or.inl ⟨by rfl, ?_⟩) ?_ ?_
          rotate_left
          · intro w'
            go_simp
            with_reducible rfl
          rotate_left
          · simp only [Act.put, List.setIfInBounds_toArray, List.set_cons_zero, List.set_cons_succ, i64_w, i32_w]
            rfl
          refine pure_ (i := 14) (N := some 32) (v := ?_) (a' := ?_) #[true, true, true, true, true, true, true, true, true, true, true, true, true, true, true, false] rfl rfl (any_of HT_.out (by kernel_rfl)) (fun _ _ _ h => h) (Or.inl ⟨by rfl, ?_⟩) ?_ ?_
          rotate_left
          · intro w'
            go_simp
            with_reducible rfl
          rotate_left
          · simp only [Act.put, List.setIfInBounds_toArray, List.set_cons_zero, List.set_cons_succ, i64_w, i32_w]
            rfl
          refine one_ (i := 15) (N := none) #[true, true, true, true, true, true, true, true, true, true, true, true, true, true, true, true] rfl rfl (one_of HT_.out (by kernel_rfl)) (by decide) (fun K hK => ?_)
          have hs28 : w27.cell? ⟨gb105, 0, none⟩ = some (.int .u64 0) := (blk_cell BK105.out 0).trans rfl
          have hfs28 := blk_frozen BK105.out 0
          have hns28_0 := NB104_105.out
          have hms28_0 := NB105_104.out
          have hs29 : w27.cell? ⟨gb105, 1, none⟩ = some (.int .u64 0) := (blk_cell BK105.out 1).trans rfl
          have hfs29 := blk_frozen BK105.out 1
          have hns29_0 := NB104_105.out
          have hms29_0 := NB105_104.out
          refine skip_ (w1 := ?_) (by rfl) rfl ?_ ?_
          rotate_left
          · go_simp
            rfl
          refine hK.out _ _ ⟨((cell_far (p := ⟨gb105, _, none⟩) NB104_105.out _).trans (((cell_far (p := ⟨gb105, _, none⟩) NB104_105.out _).trans (hHeld.1)))), ((cell_far (p := ⟨gb105, _, none⟩) NB104_105.out _).trans (((cell_far (p := ⟨gb105, _, none⟩) NB104_105.out _).trans (hHeld.2))))⟩ (fun hHeld => ?_)
          clear hK K
          refine done_ (done_of HT_.out (by kernel_rfl)) ?_
          try go_wp2
          refine bodyPost_ret (results_cell_row rfl _ _ gb105 24 #[.int .u64 ji19, .int .u64 (Go.bits .or .u64 (ji21) (ji24))] (0, 0) _ rfl (by (with_reducible repeat (first | refine blk_drewN ?_ _ | refine blk_drew ?_ | refine blk_alloc ?_ _)); refine blk_put (cs := #[.int .u64 ji19, .int .u64 0]) ?_ 1 _ rfl; (with_reducible repeat (first | refine blk_drewN ?_ _ | refine blk_drew ?_ | refine blk_alloc ?_ _)); refine blk_put (cs := #[.int .u64 0, .int .u64 0]) ?_ 0 _ rfl; (with_reducible repeat (first | refine blk_drewN ?_ _ | refine blk_drew ?_ | refine blk_alloc ?_ _)); exact BK105.out) Try.underlying24 rfl (by kernel_rfl)) rfl ?_
          exact ⟨by first | rfl | (simp [errH_none, errH_some] <;> rfl) | (simp only [← hji19, ← hji21, ← hji22, ← hji24]; first | rfl | (simp [errH_none, errH_some] <;> rfl)) | (simp [*, errH_none, errH_some] <;> rfl), by repeat (first | (with_reducible first | exact HB.out | apply below_alloc | apply pw_below_drewN | apply below_drew1 | refine below_set ?_ GE104.out | refine below_set ?_ GE105.out) | exact HB.out)⟩
        · rw [if_neg c23] at H
          exact absurd H (by simp)
      · rw [if_neg c18] at H
        exact absurd H (by simp)

end Go.Proofs.Ytlokmliannklaaa.Print
end

section
namespace Go.Proofs.Ytlokmliannklaaa.Print
open Go.RowKit Go.Proofs.YtlokmliannklaaaW.PrintWords Go.Proofs.YtlokmliannklaaaW.PrintMore

theorem or_even (x y : Int) (h0 : 0 ≤ x) (h1 : x < 18446744073709551616) (h2 : x % 2 = 0) (h3 : 0 ≤ y) (h4 : y ≤ 1) : Go.bits .or .u64 x y = x + y := by
  rw [u64_or x y h0 h1 h3 (by omega), nat_join 1 x.toNat y.toNat (by omega) (by omega)]
  omega
theorem and_one (x : Int) (h0 : 0 ≤ x) (h1 : x < 18446744073709551616) : Go.bits .and .u64 x 1 = x % 2 := by
  rw [u64_and x 1 h0 h1 (by omega) (by omega)]
  show ((x.toNat &&& 1 : Nat) : Int) = _
  rw [nat_mask1]
  omega

theorem pow_pos_int (n : Nat) : (0 : Int) < 2 ^ n := by
  have := Nat.two_pow_pos n
  have h : ((2 ^ n : Nat) : Int) = 2 ^ n := by norm_cast
  omega

theorem div_cast (X m : Nat) : (X : Int) / 2 ^ m = ((X / 2 ^ m : Nat) : Int) := by norm_cast

/-- The low bit of a wide number that is turned right. -/
theorem right_bit (ah al : Int) (m : Nat) (h0 : isU64 ah = true) (h1 : isU64 al = true) (hm : m ≤ 127) :
    ∃ r1 r2, wide_Right.f ah al m = some (r1, r2) ∧ Go.bits .and .u64 r2 1 = wideOf ah al / 2 ^ m % 2 ∧ isU64 r2 = true := by
  simp only [isU64, Bool.and_eq_true, decide_eq_true_eq] at h0 h1 ⊢
  obtain ⟨a, rfl⟩ := Int.eq_ofNat_of_zero_le h0.1
  obtain ⟨b, rfl⟩ := Int.eq_ofNat_of_zero_le h1.1
  have ha : a < 18446744073709551616 := by omega
  have hb : b < 18446744073709551616 := by omega
  unfold wide_Right.f
  rw [if_neg (by omega)]
  by_cases hc : 64 ≤ m
  · rw [if_pos (by omega)]
    have e : wrap64 ((m : Int) - 64) = ((m - 64 : Nat) : Int) := by unfold wrap64; omega
    rw [e, if_pos (by omega)]
    refine ⟨_, _, rfl, ?_⟩
    have e2 : shr .u64 (a : Int) ((m - 64 : Nat) : Int) = ((a / 2 ^ (m - 64) : Nat) : Int) := by
      unfold shr
      have : min ((m - 64 : Nat) : Int).toNat IntKind.u64.bits = m - 64 := by simp [IntKind.bits]; omega
      rw [this]
      norm_cast
    have hlt : a / 2 ^ (m - 64) < 18446744073709551616 := Nat.lt_of_le_of_lt (Nat.div_le_self _ _) ha
    have hge : (0 : Int) ≤ ((a / 2 ^ (m - 64) : Nat) : Int) := Int.natCast_nonneg _
    have hlt' : ((a / 2 ^ (m - 64) : Nat) : Int) < 18446744073709551616 := Int.ofNat_lt.2 hlt
    rw [e2]
    refine ⟨?_, hge, hlt'⟩
    rw [and_one _ hge hlt']
    unfold wideOf
    have e3 : ((a : Int) * 18446744073709551616 + b) = ((a * 18446744073709551616 + b : Nat) : Int) := by omega
    rw [e3]
    have e4 : (a * 18446744073709551616 + b) / 2 ^ m = a / 2 ^ (m - 64) := by
      have : (2 : Nat) ^ m = 18446744073709551616 * 2 ^ (m - 64) := by
        have : m = 64 + (m - 64) := by omega
        rw [this, Nat.pow_add]
        simp
      rw [this, ← Nat.div_div_eq_div_mul]
      congr 1
      omega
    rw [div_cast, e4]
  · rw [if_neg (by omega), if_pos (by omega)]
    have e : wrap64 (64 - (m : Int)) = ((64 - m : Nat) : Int) := by unfold wrap64; omega
    rw [e, if_pos (by omega)]
    refine ⟨_, _, rfl, ?_⟩
    have e2 : shr .u64 (b : Int) (m : Int) = ((b / 2 ^ m : Nat) : Int) := by
      unfold shr
      have : min ((m : Nat) : Int).toNat IntKind.u64.bits = m := by simp [IntKind.bits]; omega
      rw [this]
      norm_cast
    have e3 : shl .u64 (a : Int) ((64 - m : Nat) : Int) = ((a * 2 ^ (64 - m) % 18446744073709551616 : Nat) : Int) := by
      unfold shl
      have : min ((64 - m : Nat) : Int).toNat IntKind.u64.bits = 64 - m := by simp [IntKind.bits]
      rw [this]
      have : (a : Int) * 2 ^ (64 - m) = ((a * 2 ^ (64 - m) : Nat) : Int) := by norm_cast
      rw [this]
      simp [IntKind.wrap, IntKind.bits, IntKind.signed]
    have hlt : b / 2 ^ m < 18446744073709551616 := Nat.lt_of_le_of_lt (Nat.div_le_self _ _) hb
    have hdv : b / 2 ^ m < 2 ^ (64 - m) := by
      rw [Nat.div_lt_iff_lt_mul (Nat.two_pow_pos m), ← Nat.pow_add]
      have : 64 - m + m = 64 := by omega
      rw [this]
      simpa using hb
    have hmul : a * 2 ^ (64 - m) % 18446744073709551616 % 2 ^ (64 - m) = 0 := by
      have h64 : (18446744073709551616 : Nat) = 2 ^ m * 2 ^ (64 - m) := by
        rw [← Nat.pow_add]
        have : m + (64 - m) = 64 := by omega
        rw [this]
      rw [h64, Nat.mod_mul_left_mod]
      simp
    have hj : (b / 2 ^ m) ||| (a * 2 ^ (64 - m) % 18446744073709551616) = a * 2 ^ (64 - m) % 18446744073709551616 + b / 2 ^ m := by
      rw [Nat.or_comm]
      exact nat_join (64 - m) _ _ hmul hdv
    rw [e2, e3]
    have hor : Go.bits .or .u64 ((b / 2 ^ m : Nat) : Int) ((a * 2 ^ (64 - m) % 18446744073709551616 : Nat) : Int) = ((a * 2 ^ (64 - m) % 18446744073709551616 + b / 2 ^ m : Nat) : Int) := by
      rw [u64_or_nat _ _ hlt (Nat.mod_lt _ (by omega)), hj]
    have hsum : a * 2 ^ (64 - m) % 18446744073709551616 + b / 2 ^ m < 18446744073709551616 := by
      rw [← hj]
      exact Nat.or_lt_two_pow (n := 64) (by simpa using hlt) (by simpa using Nat.mod_lt _ (by omega))
    rw [hor]
    refine ⟨?_, by omega, by omega⟩
    rw [and_one _ (by omega) (by omega)]
    unfold wideOf
    have e5 : ((a : Int) * 18446744073709551616 + b) = ((a * 18446744073709551616 + b : Nat) : Int) := by omega
    rw [e5, div_cast]
    have hev : a * 2 ^ (64 - m) % 18446744073709551616 % 2 = 0 := by
      have : (2 : Nat) ^ (64 - m) = 2 * 2 ^ (63 - m) := by
        have : 64 - m = (63 - m) + 1 := by omega
        rw [this, Nat.pow_succ, Nat.mul_comm]
      have h2 : a * 2 ^ (64 - m) = 2 * (a * 2 ^ (63 - m)) := by rw [this]; ac_rfl
      omega
    have e6 : (a * 18446744073709551616 + b) / 2 ^ m = a * 2 ^ (64 - m) + b / 2 ^ m := by
      have h64 : (18446744073709551616 : Nat) = 2 ^ (64 - m) * 2 ^ m := by
        rw [← Nat.pow_add]
        have : 64 - m + m = 64 := by omega
        rw [this]
      rw [h64, ← Nat.mul_assoc, Nat.add_comm, Nat.add_mul_div_right _ _ (Nat.two_pow_pos m)]
      omega
    rw [e6]
    have hev2 : a * 2 ^ (64 - m) % 2 = 0 := by omega
    omega
end Go.Proofs.Ytlokmliannklaaa.Print
end

section
namespace Go.Proofs.Ytlokmliannklaaa.Print
open Go.RowKit
set_option linter.unusedVariables false

/-- What holds of the ratio's numbers with `n` bits to go. -/
def RInv (A B : Int) (n : Nat) (q rh rl : Int) : Prop :=
  A * 1048576 / 2 ^ n = q * B + wideOf rh rl ∧ wideOf rh rl < B

theorem isU64_mk {x : Int} (h0 : 0 ≤ x) (h1 : x < 18446744073709551616) : isU64 x = true := by simp [isU64, h0, h1]
theorem isU64_out {x : Int} (h : isU64 x = true) : 0 ≤ x ∧ x < 18446744073709551616 := by simpa [isU64] using h
theorem addLo_u64 (x y c : Int) : isU64 (addLo x y c) = true := by
  unfold addLo
  exact isU64_mk (by omega) (by omega)
theorem subLo_u64 (x y c : Int) : isU64 (subLo x y c) = true := by
  unfold subLo
  exact isU64_mk (by omega) (by omega)

theorem cmpW_le {ah al bh bl : Int} (h1 : isU64 al = true) (h3 : isU64 bl = true) : 0 ≤ cmpW ah al bh bl ↔ wideOf bh bl ≤ wideOf ah al := by
  have := isU64_out h1
  have := isU64_out h3
  unfold cmpW wideOf
  constructor
  · intro h
    split at h
    · omega
    · split at h
      · omega
      · split at h
        · omega
        · split at h <;> omega
  · intro h
    split
    · omega
    · split
      · omega
      · split
        · omega
        · split <;> omega

theorem double_eq (rh rl : Int) (hh : isU64 rh = true) (hl : isU64 rl = true) :
    2 * wideOf rh rl = addC rh rh (addC rl rl 0) * 340282366920938463463374607431768211456 + wideOf (addLo rh rh (addC rl rl 0)) (addLo rl rl 0) ∧ addLo rl rl 0 % 2 = 0 ∧ addLo rl rl 0 ≤ 18446744073709551614 ∧ (addC rh rh (addC rl rl 0) = 0 ∨ addC rh rh (addC rl rl 0) = 1) := by
  have := isU64_out hh
  have := isU64_out hl
  unfold wideOf addC addLo
  omega

theorem sub_eq (H L bh bl : Int) (hH : isU64 H = true) (hL : isU64 L = true) (hbh : isU64 bh = true) (hbl : isU64 bl = true) :
    wideOf (subLo H bh (subB L bl 0)) (subLo L bl 0) = (wideOf H L - wideOf bh bl) % 340282366920938463463374607431768211456 := by
  have := isU64_out hH
  have := isU64_out hL
  have := isU64_out hbh
  have := isU64_out hbl
  unfold wideOf subLo subB
  split <;> omega

theorem wide_range {h l : Int} (hh : isU64 h = true) (hl : isU64 l = true) : 0 ≤ wideOf h l ∧ wideOf h l < 340282366920938463463374607431768211456 := by
  have := isU64_out hh
  have := isU64_out hl
  unfold wideOf
  omega

theorem next_bit (N : Int) (n : Nat) (hn : 1 ≤ n) : N / 2 ^ (n - 1) = 2 * (N / 2 ^ n) + N / 2 ^ (n - 1) % 2 := by
  have e : (2 : Int) ^ n = 2 ^ (n - 1) * 2 := by
    have : n = (n - 1) + 1 := by omega
    rw [this, Int.pow_succ]
    simp
  rw [e, ← Int.ediv_ediv_of_nonneg (Int.le_of_lt (pow_pos_int _))]
  omega

/-- One more bit. -/
theorem RInv.yes {A : Int} {n : Nat} {q rh rl bh bl bit : Int} (h : RInv A (wideOf bh bl) n q rh rl) (hn : 1 ≤ n) (hrh : isU64 rh = true) (hrl : isU64 rl = true) (hbh : isU64 bh = true) (hbl : isU64 bl = true)
    (hbit : bit = A * 1048576 / 2 ^ (n - 1) % 2)
    (hc : addC rh rh (addC rl rl 0) = 1 ∨ 0 ≤ cmpW (addLo rh rh (addC rl rl 0)) (addLo rl rl 0 + bit) bh bl) :
    RInv A (wideOf bh bl) (n - 1) (q * 2 + 1) (subLo (addLo rh rh (addC rl rl 0)) bh (subB (addLo rl rl 0 + bit) bl 0)) (subLo (addLo rl rl 0 + bit) bl 0) := by
  obtain ⟨he, hlt⟩ := h
  obtain ⟨d1, d2, d3, d4⟩ := double_eq rh rl hrh hrl
  have hb0 : 0 ≤ bit ∧ bit ≤ 1 := by omega
  have hLo := isU64_out (addLo_u64 rl rl 0)
  have hL : isU64 (addLo rl rl 0 + bit) = true := isU64_mk (by omega) (by omega)
  have hH := addLo_u64 rh rh (addC rl rl 0)
  have hs := sub_eq _ _ bh bl hH hL hbh hbl
  have hwB := wide_range hbh hbl
  have hwX := wide_range hH hL
  have hwR := wide_range hrh hrl
  have hw : wideOf (addLo rh rh (addC rl rl 0)) (addLo rl rl 0 + bit) = wideOf (addLo rh rh (addC rl rl 0)) (addLo rl rl 0) + bit := by unfold wideOf; omega
  rw [cmpW_le hL hbl] at hc
  have hnb := next_bit (A * 1048576) n hn
  rw [← hbit, he] at hnb
  unfold RInv
  rw [hnb, hs]
  generalize wideOf (addLo rh rh (addC rl rl 0)) (addLo rl rl 0 + bit) = X at *
  generalize wideOf (addLo rh rh (addC rl rl 0)) (addLo rl rl 0) = Y at *
  generalize wideOf bh bl = B at *
  generalize wideOf rh rl = R at *
  generalize addC rh rh (addC rl rl 0) = c at *
  have hx : (X - B) % 340282366920938463463374607431768211456 = 2 * R + bit - B := by omega
  rw [hx]
  constructor
  · rw [Int.add_mul, Int.mul_assoc, Int.mul_comm 2 B, ← Int.mul_assoc]
    omega
  · omega

theorem RInv.no {A : Int} {n : Nat} {q rh rl bh bl bit : Int} (h : RInv A (wideOf bh bl) n q rh rl) (hn : 1 ≤ n) (hrh : isU64 rh = true) (hrl : isU64 rl = true) (hbh : isU64 bh = true) (hbl : isU64 bl = true)
    (hbit : bit = A * 1048576 / 2 ^ (n - 1) % 2)
    (h1 : ¬ addC rh rh (addC rl rl 0) = 1) (h2 : ¬ 0 ≤ cmpW (addLo rh rh (addC rl rl 0)) (addLo rl rl 0 + bit) bh bl) :
    RInv A (wideOf bh bl) (n - 1) (q * 2) (addLo rh rh (addC rl rl 0)) (addLo rl rl 0 + bit) := by
  obtain ⟨he, hlt⟩ := h
  obtain ⟨d1, d2, d3, d4⟩ := double_eq rh rl hrh hrl
  have hb0 : 0 ≤ bit ∧ bit ≤ 1 := by omega
  have hLo := isU64_out (addLo_u64 rl rl 0)
  have hL : isU64 (addLo rl rl 0 + bit) = true := isU64_mk (by omega) (by omega)
  have hw : wideOf (addLo rh rh (addC rl rl 0)) (addLo rl rl 0 + bit) = wideOf (addLo rh rh (addC rl rl 0)) (addLo rl rl 0) + bit := by unfold wideOf; omega
  rw [cmpW_le hL hbl] at h2
  have hnb := next_bit (A * 1048576) n hn
  rw [← hbit, he] at hnb
  unfold RInv
  rw [hnb]
  generalize wideOf (addLo rh rh (addC rl rl 0)) (addLo rl rl 0 + bit) = X at *
  generalize wideOf (addLo rh rh (addC rl rl 0)) (addLo rl rl 0) = Y at *
  generalize wideOf bh bl = B at *
  generalize wideOf rh rl = R at *
  generalize addC rh rh (addC rl rl 0) = c at *
  constructor
  · rw [Int.mul_assoc, Int.mul_comm 2 B, ← Int.mul_assoc]
    omega
  · omega

theorem div_ge {N B q r : Int} {m : Nat} (hB : 0 < B) (h : N / 2 ^ m = q * B + r) (hr : 0 ≤ r) (hq : 4611686018427387904 ≤ q) : 4611686018427387904 ≤ N / B := by
  have h1 : q * B ≤ N / 2 ^ m := by omega
  have h2 : 4611686018427387904 * B ≤ q * B := Int.mul_le_mul_of_nonneg_right hq (by omega)
  have h3 : N / 2 ^ m ≤ N := by
    rcases Int.lt_or_le N 0 with hN | hN
    · have : N / 2 ^ m < 0 := Int.ediv_neg_of_neg_of_pos hN (pow_pos_int m)
      have : 0 ≤ 4611686018427387904 * B := by omega
      omega
    · exact Int.ediv_le_self _ hN
  rw [Int.le_ediv_iff_mul_le hB]
  omega

theorem ratio_top {A B : Int} {m : Nat} {q rh rl : Int} (h : RInv A B m q rh rl) (hA : A ≠ 0) (hB : 0 < B) (hrh : isU64 rh = true) (hrl : isU64 rl = true) (hq : 4611686018427387904 ≤ q) : ratioOf A B = 4611686018427387904 := by
  have := div_ge hB h.1 (wide_range hrh hrl).1 hq
  unfold ratioOf
  rw [if_neg hA, if_neg (by omega), if_pos this]

theorem ratio_end {A B : Int} {q rh rl : Int} (h : RInv A B 0 q rh rl) (hA : A ≠ 0) (hB : 0 < B) (hrh : isU64 rh = true) (hrl : isU64 rl = true) (hq : q < 4611686018427387904) :
    ratioOf A B = if B ≤ 2 * wideOf rh rl then q + 1 else q := by
  obtain ⟨h1, h2⟩ := h
  have h0 := (wide_range hrh hrl).1
  simp only [Int.pow_zero, Int.ediv_one] at h1
  have hd : A * 1048576 / B = q := by
    rw [h1, Int.add_comm, Int.add_mul_ediv_right _ _ (by omega), Int.ediv_eq_zero_of_lt h0 h2]
    omega
  have hm : A * 1048576 % B = wideOf rh rl := by
    rw [h1, Int.add_comm, Int.add_mul_emod_self_right, Int.emod_eq_of_lt h0 h2]
  unfold ratioOf
  rw [if_neg hA, if_neg (by omega), hd, hm, if_neg (by omega)]
/-- What is left, held against what is left of the other. -/
theorem rest_cmp {bh bl rh rl : Int} (hbh : isU64 bh = true) (hbl : isU64 bl = true) (hrh : isU64 rh = true) (hrl : isU64 rl = true) (h : wideOf rh rl < wideOf bh bl) :
    0 ≤ cmpW rh rl (subLo bh rh (subB bl rl 0)) (subLo bl rl 0) ↔ wideOf bh bl ≤ 2 * wideOf rh rl := by
  rw [cmpW_le hrl (subLo_u64 _ _ _), sub_eq _ _ _ _ hbh hbl hrh hrl]
  have := wide_range hbh hbl
  have := wide_range hrh hrl
  omega
theorem wide_pos {bh bl : Int} (hbh : isU64 bh = true) (hbl : isU64 bl = true) (hb : (bh == 0 && (bl == 0)) = false) : 0 < wideOf bh bl ∧ wideOf bh bl ≠ 0 := by
  have := isU64_out hbh
  have := isU64_out hbl
  simp at hb
  unfold wideOf
  constructor <;> (by_cases h : bh = 0 <;> simp_all <;> omega)

/-- The bits below the number's own are 0. -/
theorem low_bits (A : Int) (n : Nat) (h1 : 1 ≤ n) (hn : n ≤ 20) : A * 1048576 / 2 ^ (n - 1) % 2 = 0 := by
  have e : (1048576 : Int) = 2 ^ (20 - n) * 2 * 2 ^ (n - 1) := by
    have h : (2 : Nat) ^ (20 - n) * 2 * 2 ^ (n - 1) = 2 ^ 20 := by
      rw [← Nat.pow_succ, ← Nat.pow_add]
      congr 1
      omega
    have h' : ((2 ^ (20 - n) * 2 * 2 ^ (n - 1) : Nat) : Int) = ((2 ^ 20 : Nat) : Int) := by rw [h]
    simp only [Int.natCast_mul, Int.natCast_pow] at h'
    simpa using h'.symm
  rw [e, ← Int.mul_assoc, Int.mul_ediv_cancel _ (by have := pow_pos_int (n - 1); omega)]
  rw [← Int.mul_assoc]
  omega
theorem high_bits (A : Int) (n : Nat) (hn : 21 ≤ n) : A * 1048576 / 2 ^ (n - 1) % 2 = A / 2 ^ (n - 21) % 2 := by
  have e : (2 : Int) ^ (n - 1) = 1048576 * 2 ^ (n - 21) := by
    have : n - 1 = 20 + (n - 21) := by omega
    rw [this, Int.pow_add]
    simp
  rw [e, ← Int.ediv_ediv_of_nonneg (by omega), Int.mul_ediv_cancel _ (by omega)]
theorem bitLen_lt (x : Nat) (h : x < 2 ^ 64) : x < 2 ^ Lib.bitLen x := by
  by_cases h0 : x = 0
  · subst h0
    exact Nat.two_pow_pos _
  · exact (Lib.bitLenAux_bounds 64 x h h0).2.2
theorem len_spec {ah al : Int} (h0 : isU64 ah = true) (h1 : isU64 al = true) : 0 ≤ lenW ah al ∧ lenW ah al ≤ 128 ∧ wideOf ah al < 2 ^ (lenW ah al).toNat := by
  have r0 := isU64_out h0
  have r1 := isU64_out h1
  have b0 := bitLen64 ah h0
  have b1 := bitLen64 al h1
  unfold lenW
  by_cases h : ah = 0
  · subst h
    rw [if_pos rfl]
    refine ⟨by omega, by omega, ?_⟩
    have hb := bitLen_lt al.toNat (by simp; omega)
    have e : ((Lib.bitLen al.toNat : Nat) : Int).toNat = Lib.bitLen al.toNat := by omega
    rw [e]
    have hb' : ((al.toNat : Nat) : Int) < ((2 ^ Lib.bitLen al.toNat : Nat) : Int) := Int.ofNat_lt.2 hb
    simp only [Int.natCast_pow] at hb'
    unfold wideOf
    have : ((al.toNat : Nat) : Int) = al := by omega
    rw [this] at hb'
    simpa using hb'
  · rw [if_neg h]
    refine ⟨by omega, by omega, ?_⟩
    have hb := bitLen_lt ah.toNat (by simp; omega)
    have e : (64 + ((Lib.bitLen ah.toNat : Nat) : Int)).toNat = 64 + Lib.bitLen ah.toNat := by omega
    rw [e]
    have hb' : ((ah.toNat : Nat) : Int) < ((2 ^ Lib.bitLen ah.toNat : Nat) : Int) := Int.ofNat_lt.2 hb
    simp only [Int.natCast_pow] at hb'
    have : ((ah.toNat : Nat) : Int) = ah := by omega
    rw [this] at hb'
    have hb2 : ah < (2 : Int) ^ Lib.bitLen ah.toNat := by simpa using hb'
    unfold wideOf
    rw [Int.pow_add]
    have e64 : (2 : Int) ^ 64 = 18446744073709551616 := by decide
    rw [e64]
    omega
theorem RInv_start {ah al B : Int} (h0 : isU64 ah = true) (h1 : isU64 al = true) (hB : 0 < B) : RInv (wideOf ah al) B ((lenW ah al).toNat + 20) 0 0 0 := by
  obtain ⟨l0, l1, hl⟩ := len_spec h0 h1
  have hw := wide_range h0 h1
  refine ⟨?_, by unfold wideOf; omega⟩
  have : wideOf ah al * 1048576 < 2 ^ ((lenW ah al).toNat + 20) := by
    rw [Int.pow_add]
    have e20 : (2 : Int) ^ 20 = 1048576 := by decide
    rw [e20]
    omega
  rw [Int.ediv_eq_zero_of_lt (by omega) this]
  unfold wideOf
  omega
end Go.Proofs.Ytlokmliannklaaa.Print
end
