/- Printed by a program of this session: functions of the law and their walks. -/
import Derived.Test.YtlokmliannklaaaQP0
import Derived.Test.YtlokmliannklaaaQPrint4
import Derived.Test.YtlokmliannklaaaQPrint5
import Derived.Test.YtlokmliannklaaaQPrint7
import Derived.Test.YtlokmliannklaaaQPrint8
section
namespace Go.Proofs.Ytlokmliannklaaa.Print
open Go.RowKit Go.Proofs.YtlokmliannklaaaW.PrintWords Go.Proofs.YtlokmliannklaaaW.PrintLast Go.Proofs.YtlokmliannklaaaW.PrintMore
attribute [local go_sem] max2_int min2_int max_two min_two max_three min_three max_four min_four   -- for this text's walks alone
set_option linter.unusedVariables false
set_option linter.unusedSimpArgs false

/-! ### pacemakerref10_Dev: function 15 -/
def pacemakerref10_Dev.j0 : Nat → Bool → Int → Int → Int → Int → Int → Int → Int → Int → Int → Int → Int → Int → Int → Int → Int → Option (Int)
  | 0, _, _, _, _, _, _, _, _, _, _, _, _, _, _, _, _ => none
  | k + 1, x12, x187000, x187001, x187002, x187003, x187004, x187005, x187006, x187007, x187008, x187009, x187010, x187011, x187012, x187013, x187014 => if x12 = true then (some 0) else ((pacemakerref10_product.f x187009 x187014).bind fun bt188 => ((pacemakerref10_product.f x187011 x187011).bind fun bt191 => ((pacemakerref10_less.f bt188.1 bt188.2 bt191.1 bt191.2).bind fun t194 => (if t194 = true then (some 0) else ((pacemakerref10_minus.f bt188.1 bt188.2 bt191.1 bt191.2).bind fun bt195 => ((pacemakerref03_SqrtWide.f k bt195.1 bt195.2).bind fun t197 => ((pacemakerref10_Ratio.f k 0 t197 0 (IntKind.u64.wrap (x187009))).bind fun t198 => (some t198))))))))
def pacemakerref10_Dev.f (k : Nat) (D0 : Int) (D1 : Int) (D2 : Int) (D3 : Int) (D4 : Int) (D5 : Int) (D6 : Int) (D7 : Int) (D8 : Int) (D9 : Int) (D10 : Int) (D11 : Int) (D12 : Int) (D13 : Int) (D14 : Int) : Option (Int) := (pacemakerref09_Is.f k D0 D1 D2 D3 D4 D5 D6 D7 D8 D9 D10 D11 D12 D13 D14).bind fun t187 => (if t187 = true then (pacemakerref10_Dev.j0 k (D9 == 0) D0 D1 D2 D3 D4 D5 D6 D7 D8 D9 D10 D11 D12 D13 D14) else (pacemakerref10_Dev.j0 k true D0 D1 D2 D3 D4 D5 D6 D7 D8 D9 D10 D11 D12 D13 D14))
def pacemakerref10_Dev.T7 : Bool × List (List Nat × List Nat) := (true, [([], []), ([], []), ([0, 1], [0, 1]), ([2, 2], [2]), ([3], [3]), ([], []), ([5], [5]), ([6], [6]), ([7], [7]), ([4, 8, 3], [4, 8]), ([9, 9, 0, 1, 2, 3, 4, 5, 6, 7, 8, 9], [9])])
def pacemakerref10_Dev.B7 : List Nat := [0, 0, 3, 7, 15, 0, 32, 96, 224, 511, 1023]
theorem pacemakerref10_Dev.tab7 : rtab .any (opsOf Try.f15 7) = pacemakerref10_Dev.T7 := by kernel_rfl
theorem pacemakerref10_Dev.bits7 : waitsOk pacemakerref10_Dev.T7.2 pacemakerref10_Dev.B7 = true := by kernel_rfl
set_option maxHeartbeats 8000000 in
set_option maxRecDepth 100000 in
theorem pacemakerref10_Dev.calls (k : Nat) (D0 : Int) (D1 : Int) (D2 : Int) (D3 : Int) (D4 : Int) (D5 : Int) (D6 : Int) (D7 : Int) (D8 : Int) (D9 : Int) (D10 : Int) (D11 : Int) (D12 : Int) (D13 : Int) (D14 : Int) (r : Int) (w : World) (h : pacemakerref10_Dev.f k D0 D1 D2 D3 D4 D5 D6 D7 D8 D9 D10 D11 D12 D13 D14 = some r) :
    Calls Try.prog 15 #[.agg #[.int .i64 D0, .int .i64 D1, .int .i64 D2, .int .i64 D3, .int .i64 D4, .int .i64 D5, .int .i64 D6, .int .i64 D7, .int .i64 D8, .int .i64 D9, .int .i64 D10, .int .i64 D11, .int .i64 D12, .int .i64 D13, .int .i64 D14]] w fun e w' => e = .returned (.int .i64 r) ∧ Below w.heap.size w w' := by
  have hu29 := Try.underlying29
  have hu24 := Try.underlying24
  have HB := Aside0.mk (Below.refl w.heap.size w)
  have H : ((pacemakerref09_Is.f k D0 D1 D2 D3 D4 D5 D6 D7 D8 D9 D10 D11 D12 D13 D14).bind fun t187 => (if t187 = true then (pacemakerref10_Dev.j0 k (D9 == 0) D0 D1 D2 D3 D4 D5 D6 D7 D8 D9 D10 D11 D12 D13 D14) else (pacemakerref10_Dev.j0 k true D0 D1 D2 D3 D4 D5 D6 D7 D8 D9 D10 D11 D12 D13 D14))) = some r := h
  clear h
  have HC2 := Aside0.mk H
  clear H
  go_enter Try.func15, Try.ntmps15
  go_upto_region 1 with (first | ((with_reducible refine gate_dst (N := 1) rfl ?_); refine box_event ?hg (N := 1) ?hd (cs := #[.int .i64 D0, .int .i64 D1, .int .i64 D2, .int .i64 D3, .int .i64 D4, .int .i64 D5, .int .i64 D6, .int .i64 D7, .int .i64 D8, .int .i64 D9, .int .i64 D10, .int .i64 D11, .int .i64 D12, .int .i64 D13, .int .i64 D14]) (t := 29) ?hr ?_; (case hd => rfl); (case hg => rfl); (case hr => first | (go_simp; done) | (go_simp; rfl)); intro gb186 hg w3 hbox hb; have n0_ := Aside0.mk (below_step (by repeat (first | (with_reducible first | exact HB.out | apply below_alloc | apply pw_below_drewN | apply below_drew1) | exact HB.out)) hb); have n1_ := Aside0.mk (hbox); have n2_ := Aside0.mk ((by rw [hg]; exact (below_size (by repeat (first | (with_reducible first | exact HB.out | apply below_alloc | apply pw_below_drewN | apply below_drew1) | exact HB.out))) : w.heap.size ≤ gb186)); have n3_ := Aside0.mk ((by rw [hg]; exact (below_size (by repeat (first | (with_reducible first | exact HB.out | apply below_alloc | apply pw_below_drewN | apply below_drew1) | exact HB.out))) : w.heap.size ≤ gb186)); clear HB; have HB := n0_; have BK186 := n1_; have GW186 := n2_; have GE186 := n3_; clear n0_ n1_ n2_ n3_; clear hb hbox hg))
  (try simp only [Act.put, List.setIfInBounds_toArray, List.set_cons_zero, List.set_cons_succ])
  go_cut [12] (fun v12 wc => ∃ (kq : Nat) (x12_1 : Bool), v12 = .bool x12_1 ∧ Aside0 (pacemakerref10_Dev.j0 kq x12_1 D0 D1 D2 D3 D4 D5 D6 D7 D8 D9 D10 D11 D12 D13 D14 = some r) ∧ Aside0 (kq ≤ k) ∧ Aside0 (wc.heap[gb186]? = some (.cells #[.int .i64 D0, .int .i64 D1, .int .i64 D2, .int .i64 D3, .int .i64 D4, .int .i64 D5, .int .i64 D6, .int .i64 D7, .int .i64 D8, .int .i64 D9, .int .i64 D10, .int .i64 D11, .int .i64 D12, .int .i64 D13, .int .i64 D14] 29 (0, 0))) ∧ Aside0 (Below w.heap.size w wc))
  case first =>
    have H := HC2.out
    clear HC2
    replace H := Option.bind_eq_some_iff.mp H
    obtain ⟨t187, A40, H⟩ := H
    try dsimp only at H
    have A4 := Aside0.mk A40
    clear A40
    by_cases c5 : t187 = true
    · subst c5
      rw [if_pos rfl] at H
      have H' := Aside0.mk H
      clear H
      have hcz6_0 : w3.cell? ⟨gb186, 0, none⟩ = some (.int .i64 D0) := (blk_cell BK186.out 0).trans rfl
      have hcz6_1 : w3.cell? ⟨gb186, 1, none⟩ = some (.int .i64 D1) := (blk_cell BK186.out 1).trans rfl
      have hcz6_2 : w3.cell? ⟨gb186, 2, none⟩ = some (.int .i64 D2) := (blk_cell BK186.out 2).trans rfl
      have hcz6_3 : w3.cell? ⟨gb186, 3, none⟩ = some (.int .i64 D3) := (blk_cell BK186.out 3).trans rfl
      have hcz6_4 : w3.cell? ⟨gb186, 4, none⟩ = some (.int .i64 D4) := (blk_cell BK186.out 4).trans rfl
      have hcz6_5 : w3.cell? ⟨gb186, 5, none⟩ = some (.int .i64 D5) := (blk_cell BK186.out 5).trans rfl
      have hcz6_6 : w3.cell? ⟨gb186, 6, none⟩ = some (.int .i64 D6) := (blk_cell BK186.out 6).trans rfl
      have hcz6_7 : w3.cell? ⟨gb186, 7, none⟩ = some (.int .i64 D7) := (blk_cell BK186.out 7).trans rfl
      have hcz6_8 : w3.cell? ⟨gb186, 8, none⟩ = some (.int .i64 D8) := (blk_cell BK186.out 8).trans rfl
      have hcz6_9 : w3.cell? ⟨gb186, 9, none⟩ = some (.int .i64 D9) := (blk_cell BK186.out 9).trans rfl
      have hcz6_10 : w3.cell? ⟨gb186, 10, none⟩ = some (.int .i64 D10) := (blk_cell BK186.out 10).trans rfl
      have hcz6_11 : w3.cell? ⟨gb186, 11, none⟩ = some (.int .i64 D11) := (blk_cell BK186.out 11).trans rfl
      have hcz6_12 : w3.cell? ⟨gb186, 12, none⟩ = some (.int .i64 D12) := (blk_cell BK186.out 12).trans rfl
      have hcz6_13 : w3.cell? ⟨gb186, 13, none⟩ = some (.int .i64 D13) := (blk_cell BK186.out 13).trans rfl
      have hcz6_14 : w3.cell? ⟨gb186, 14, none⟩ = some (.int .i64 D14) := (blk_cell BK186.out 14).trans rfl
      have hfz6_0 := blk_frozen BK186.out 0
      have hfz6_1 := blk_frozen BK186.out 1
      have hfz6_2 := blk_frozen BK186.out 2
      have hfz6_3 := blk_frozen BK186.out 3
      have hfz6_4 := blk_frozen BK186.out 4
      have hfz6_5 := blk_frozen BK186.out 5
      have hfz6_6 := blk_frozen BK186.out 6
      have hfz6_7 := blk_frozen BK186.out 7
      have hfz6_8 := blk_frozen BK186.out 8
      have hfz6_9 := blk_frozen BK186.out 9
      have hfz6_10 := blk_frozen BK186.out 10
      have hfz6_11 := blk_frozen BK186.out 11
      have hfz6_12 := blk_frozen BK186.out 12
      have hfz6_13 := blk_frozen BK186.out 13
      have hfz6_14 := blk_frozen BK186.out 14
      go_wp2_with (first | ((with_reducible refine gate_callee (f := 29) rfl ?_); refine goesL_ (some 6) rfl rfl Try.func29 (by kernel_rfl) rfl #[.agg #[.int .i64 D0, .int .i64 D1, .int .i64 D2, .int .i64 D3, .int .i64 D4, .int .i64 D5, .int .i64 D6, .int .i64 D7, .int .i64 D8, .int .i64 D9, .int .i64 D10, .int .i64 D11, .int .i64 D12, .int .i64 D13, .int .i64 D14]] rfl (by (try simp only [List.map_toArray, List.map_cons, List.map_nil]); first | done | rfl | (simp only [List.length_drop, List.length_take]; rfl)) ?_; (with_reducible refine (pacemakerref09_Is.calls k D0 D1 D2 D3 D4 D5 D6 D7 D8 D9 D10 D11 D12 D13 D14 true _ A4.out).mono ?_); rintro e w7 ⟨rfl, hb⟩; refine ⟨_, rfl, ?_⟩; have n0_ := Aside0.mk (blk_below (g := gb186) (o := .cells #[.int .i64 D0, .int .i64 D1, .int .i64 D2, .int .i64 D3, .int .i64 D4, .int .i64 D5, .int .i64 D6, .int .i64 D7, .int .i64 D8, .int .i64 D9, .int .i64 D10, .int .i64 D11, .int .i64 D12, .int .i64 D13, .int .i64 D14] 29 (0, 0)) (by (with_reducible repeat (first | refine blk_drewN ?_ _ | refine blk_drew ?_ | refine blk_alloc ?_ _)); exact BK186.out) hb); have n1_ := Aside0.mk (below_step (by repeat (first | (with_reducible first | exact HB.out | apply below_alloc | apply pw_below_drewN | apply below_drew1 | refine below_set ?_ GE186.out) | exact HB.out)) hb); clear BK186; clear HB; have BK186 := n0_; have HB := n1_; clear n0_ n1_; (try clear hb); (try clear hb2); (try clear hk); (try clear hi); have hcz8_0 : w7.cell? ⟨gb186, 0, none⟩ = some (.int .i64 D0) := (blk_cell BK186.out 0).trans rfl; have hcz8_1 : w7.cell? ⟨gb186, 1, none⟩ = some (.int .i64 D1) := (blk_cell BK186.out 1).trans rfl; have hcz8_2 : w7.cell? ⟨gb186, 2, none⟩ = some (.int .i64 D2) := (blk_cell BK186.out 2).trans rfl; have hcz8_3 : w7.cell? ⟨gb186, 3, none⟩ = some (.int .i64 D3) := (blk_cell BK186.out 3).trans rfl; have hcz8_4 : w7.cell? ⟨gb186, 4, none⟩ = some (.int .i64 D4) := (blk_cell BK186.out 4).trans rfl; have hcz8_5 : w7.cell? ⟨gb186, 5, none⟩ = some (.int .i64 D5) := (blk_cell BK186.out 5).trans rfl; have hcz8_6 : w7.cell? ⟨gb186, 6, none⟩ = some (.int .i64 D6) := (blk_cell BK186.out 6).trans rfl; have hcz8_7 : w7.cell? ⟨gb186, 7, none⟩ = some (.int .i64 D7) := (blk_cell BK186.out 7).trans rfl; have hcz8_8 : w7.cell? ⟨gb186, 8, none⟩ = some (.int .i64 D8) := (blk_cell BK186.out 8).trans rfl; have hcz8_9 : w7.cell? ⟨gb186, 9, none⟩ = some (.int .i64 D9) := (blk_cell BK186.out 9).trans rfl; have hcz8_10 : w7.cell? ⟨gb186, 10, none⟩ = some (.int .i64 D10) := (blk_cell BK186.out 10).trans rfl; have hcz8_11 : w7.cell? ⟨gb186, 11, none⟩ = some (.int .i64 D11) := (blk_cell BK186.out 11).trans rfl; have hcz8_12 : w7.cell? ⟨gb186, 12, none⟩ = some (.int .i64 D12) := (blk_cell BK186.out 12).trans rfl; have hcz8_13 : w7.cell? ⟨gb186, 13, none⟩ = some (.int .i64 D13) := (blk_cell BK186.out 13).trans rfl; have hcz8_14 : w7.cell? ⟨gb186, 14, none⟩ = some (.int .i64 D14) := (blk_cell BK186.out 14).trans rfl; have hfz8_0 := blk_frozen BK186.out 0; have hfz8_1 := blk_frozen BK186.out 1; have hfz8_2 := blk_frozen BK186.out 2; have hfz8_3 := blk_frozen BK186.out 3; have hfz8_4 := blk_frozen BK186.out 4; have hfz8_5 := blk_frozen BK186.out 5; have hfz8_6 := blk_frozen BK186.out 6; have hfz8_7 := blk_frozen BK186.out 7; have hfz8_8 := blk_frozen BK186.out 8; have hfz8_9 := blk_frozen BK186.out 9; have hfz8_10 := blk_frozen BK186.out 10; have hfz8_11 := blk_frozen BK186.out 11; have hfz8_12 := blk_frozen BK186.out 12; have hfz8_13 := blk_frozen BK186.out 13; have hfz8_14 := blk_frozen BK186.out 14))
      go_meet
      case rel => exact ⟨_, ((D9 == 0)), (by first | rfl | (simp; done) | (simp [*]; done)), H', ⟨by first | omega | exact Nat.le_refl _⟩, ⟨by (with_reducible repeat (first | refine blk_drewN ?_ _ | refine blk_drew ?_ | refine blk_alloc ?_ _)); exact BK186.out⟩, ⟨by repeat (first | (with_reducible first | exact HB.out | apply below_alloc | apply pw_below_drewN | apply below_drew1 | refine below_set ?_ GE186.out) | exact HB.out)⟩⟩
    · replace c5 := Bool.eq_false_iff.mpr c5
      subst c5
      rw [if_neg (show ¬ (false = true) by decide)] at H
      have H' := Aside0.mk H
      clear H
      have hcz9_0 : w3.cell? ⟨gb186, 0, none⟩ = some (.int .i64 D0) := (blk_cell BK186.out 0).trans rfl
      have hcz9_1 : w3.cell? ⟨gb186, 1, none⟩ = some (.int .i64 D1) := (blk_cell BK186.out 1).trans rfl
      have hcz9_2 : w3.cell? ⟨gb186, 2, none⟩ = some (.int .i64 D2) := (blk_cell BK186.out 2).trans rfl
      have hcz9_3 : w3.cell? ⟨gb186, 3, none⟩ = some (.int .i64 D3) := (blk_cell BK186.out 3).trans rfl
      have hcz9_4 : w3.cell? ⟨gb186, 4, none⟩ = some (.int .i64 D4) := (blk_cell BK186.out 4).trans rfl
      have hcz9_5 : w3.cell? ⟨gb186, 5, none⟩ = some (.int .i64 D5) := (blk_cell BK186.out 5).trans rfl
      have hcz9_6 : w3.cell? ⟨gb186, 6, none⟩ = some (.int .i64 D6) := (blk_cell BK186.out 6).trans rfl
      have hcz9_7 : w3.cell? ⟨gb186, 7, none⟩ = some (.int .i64 D7) := (blk_cell BK186.out 7).trans rfl
      have hcz9_8 : w3.cell? ⟨gb186, 8, none⟩ = some (.int .i64 D8) := (blk_cell BK186.out 8).trans rfl
      have hcz9_9 : w3.cell? ⟨gb186, 9, none⟩ = some (.int .i64 D9) := (blk_cell BK186.out 9).trans rfl
      have hcz9_10 : w3.cell? ⟨gb186, 10, none⟩ = some (.int .i64 D10) := (blk_cell BK186.out 10).trans rfl
      have hcz9_11 : w3.cell? ⟨gb186, 11, none⟩ = some (.int .i64 D11) := (blk_cell BK186.out 11).trans rfl
      have hcz9_12 : w3.cell? ⟨gb186, 12, none⟩ = some (.int .i64 D12) := (blk_cell BK186.out 12).trans rfl
      have hcz9_13 : w3.cell? ⟨gb186, 13, none⟩ = some (.int .i64 D13) := (blk_cell BK186.out 13).trans rfl
      have hcz9_14 : w3.cell? ⟨gb186, 14, none⟩ = some (.int .i64 D14) := (blk_cell BK186.out 14).trans rfl
      have hfz9_0 := blk_frozen BK186.out 0
      have hfz9_1 := blk_frozen BK186.out 1
      have hfz9_2 := blk_frozen BK186.out 2
      have hfz9_3 := blk_frozen BK186.out 3
      have hfz9_4 := blk_frozen BK186.out 4
      have hfz9_5 := blk_frozen BK186.out 5
      have hfz9_6 := blk_frozen BK186.out 6
      have hfz9_7 := blk_frozen BK186.out 7
      have hfz9_8 := blk_frozen BK186.out 8
      have hfz9_9 := blk_frozen BK186.out 9
      have hfz9_10 := blk_frozen BK186.out 10
      have hfz9_11 := blk_frozen BK186.out 11
      have hfz9_12 := blk_frozen BK186.out 12
      have hfz9_13 := blk_frozen BK186.out 13
      have hfz9_14 := blk_frozen BK186.out 14
      go_wp2_with (first | ((with_reducible refine gate_callee (f := 29) rfl ?_); refine goesL_ (some 6) rfl rfl Try.func29 (by kernel_rfl) rfl #[.agg #[.int .i64 D0, .int .i64 D1, .int .i64 D2, .int .i64 D3, .int .i64 D4, .int .i64 D5, .int .i64 D6, .int .i64 D7, .int .i64 D8, .int .i64 D9, .int .i64 D10, .int .i64 D11, .int .i64 D12, .int .i64 D13, .int .i64 D14]] rfl (by (try simp only [List.map_toArray, List.map_cons, List.map_nil]); first | done | rfl | (simp only [List.length_drop, List.length_take]; rfl)) ?_; (with_reducible refine (pacemakerref09_Is.calls k D0 D1 D2 D3 D4 D5 D6 D7 D8 D9 D10 D11 D12 D13 D14 false _ A4.out).mono ?_); rintro e w10 ⟨rfl, hb⟩; refine ⟨_, rfl, ?_⟩; have n0_ := Aside0.mk (blk_below (g := gb186) (o := .cells #[.int .i64 D0, .int .i64 D1, .int .i64 D2, .int .i64 D3, .int .i64 D4, .int .i64 D5, .int .i64 D6, .int .i64 D7, .int .i64 D8, .int .i64 D9, .int .i64 D10, .int .i64 D11, .int .i64 D12, .int .i64 D13, .int .i64 D14] 29 (0, 0)) (by (with_reducible repeat (first | refine blk_drewN ?_ _ | refine blk_drew ?_ | refine blk_alloc ?_ _)); exact BK186.out) hb); have n1_ := Aside0.mk (below_step (by repeat (first | (with_reducible first | exact HB.out | apply below_alloc | apply pw_below_drewN | apply below_drew1 | refine below_set ?_ GE186.out) | exact HB.out)) hb); clear BK186; clear HB; have BK186 := n0_; have HB := n1_; clear n0_ n1_; (try clear hb); (try clear hb2); (try clear hk); (try clear hi)))
      go_meet
      case rel => exact ⟨_, (true), (by first | rfl | (simp; done) | (simp [*]; done)), H', ⟨by first | omega | exact Nat.le_refl _⟩, ⟨by (with_reducible repeat (first | refine blk_drewN ?_ _ | refine blk_drew ?_ | refine blk_alloc ?_ _)); exact BK186.out⟩, ⟨by repeat (first | (with_reducible first | exact HB.out | apply below_alloc | apply pw_below_drewN | apply below_drew1 | refine below_set ?_ GE186.out) | exact HB.out)⟩⟩
  case rest =>
    clear HC2
    repeat first | clear c1 | clear c2 | clear p2 | clear c5 | clear hcz6_0 | clear hcz6_1 | clear hcz6_10 | clear hcz6_11 | clear hcz6_12 | clear hcz6_13 | clear hcz6_14 | clear hcz6_2 | clear hcz6_3 | clear hcz6_4 | clear hcz6_5 | clear hcz6_6 | clear hcz6_7 | clear hcz6_8 | clear hcz6_9 | clear hcz8_0 | clear hcz8_1 | clear hcz8_10 | clear hcz8_11 | clear hcz8_12 | clear hcz8_13 | clear hcz8_14 | clear hcz8_2 | clear hcz8_3 | clear hcz8_4 | clear hcz8_5 | clear hcz8_6 | clear hcz8_7 | clear hcz8_8 | clear hcz8_9 | clear hcz9_0 | clear hcz9_1 | clear hcz9_10 | clear hcz9_11 | clear hcz9_12 | clear hcz9_13 | clear hcz9_14 | clear hcz9_2 | clear hcz9_3 | clear hcz9_4 | clear hcz9_5 | clear hcz9_6 | clear hcz9_7 | clear hcz9_8 | clear hcz9_9 | clear hfz6_0 | clear hfz6_1 | clear hfz6_10 | clear hfz6_11 | clear hfz6_12 | clear hfz6_13 | clear hfz6_14 | clear hfz6_2 | clear hfz6_3 | clear hfz6_4 | clear hfz6_5 | clear hfz6_6 | clear hfz6_7 | clear hfz6_8 | clear hfz6_9 | clear hfz8_0 | clear hfz8_1 | clear hfz8_10 | clear hfz8_11 | clear hfz8_12 | clear hfz8_13 | clear hfz8_14 | clear hfz8_2 | clear hfz8_3 | clear hfz8_4 | clear hfz8_5 | clear hfz8_6 | clear hfz8_7 | clear hfz8_8 | clear hfz8_9 | clear hfz9_0 | clear hfz9_1 | clear hfz9_10 | clear hfz9_11 | clear hfz9_12 | clear hfz9_13 | clear hfz9_14 | clear hfz9_2 | clear hfz9_3 | clear hfz9_4 | clear hfz9_5 | clear hfz9_6 | clear hfz9_7 | clear hfz9_8 | clear hfz9_9
    obtain ⟨kq, x12_1, rfl, HA, HJ1, BK186, HB⟩ := hcut
    cases kq with
    | zero => exact absurd HA.out (by simp [pacemakerref10_Dev.j0])
    | succ kj1 =>
      have H := HA.out
      clear HA
      simp only [pacemakerref10_Dev.j0] at H
      by_cases c11 : x12_1 = true
      · subst c11
        rw [if_pos rfl] at H
        obtain rfl := Option.some.inj H
        go_wp2
        go_ret
        exact ⟨by first | rfl | (simp [errW_none, errW_some] <;> rfl) | (simp [*, errW_none, errW_some] <;> rfl), by repeat (first | (with_reducible first | exact HB.out | apply below_alloc | apply pw_below_drewN | apply below_drew1 | refine below_set ?_ GE186.out) | exact HB.out)⟩
      · replace c11 := Bool.eq_false_iff.mpr c11
        subst c11
        rw [if_neg (show ¬ (false = true) by decide)] at H
        replace H := Option.bind_eq_some_iff.mp H
        obtain ⟨⟨t188, t189⟩, A120, H⟩ := H
        try dsimp only at H
        have A12 := Aside0.mk A120
        clear A120
        replace H := Option.bind_eq_some_iff.mp H
        obtain ⟨⟨t191, t192⟩, A130, H⟩ := H
        try dsimp only at H
        have A13 := Aside0.mk A130
        clear A130
        replace H := Option.bind_eq_some_iff.mp H
        obtain ⟨t194, A140, H⟩ := H
        try dsimp only at H
        have A14 := Aside0.mk A140
        clear A140
        by_cases c15 : t194 = true
        · subst c15
          rw [if_pos rfl] at H
          obtain rfl := Option.some.inj H
          have hcz16_0 : wc.cell? ⟨gb186, 0, none⟩ = some (.int .i64 D0) := (blk_cell BK186.out 0).trans rfl
          have hcz16_1 : wc.cell? ⟨gb186, 1, none⟩ = some (.int .i64 D1) := (blk_cell BK186.out 1).trans rfl
          have hcz16_2 : wc.cell? ⟨gb186, 2, none⟩ = some (.int .i64 D2) := (blk_cell BK186.out 2).trans rfl
          have hcz16_3 : wc.cell? ⟨gb186, 3, none⟩ = some (.int .i64 D3) := (blk_cell BK186.out 3).trans rfl
          have hcz16_4 : wc.cell? ⟨gb186, 4, none⟩ = some (.int .i64 D4) := (blk_cell BK186.out 4).trans rfl
          have hcz16_5 : wc.cell? ⟨gb186, 5, none⟩ = some (.int .i64 D5) := (blk_cell BK186.out 5).trans rfl
          have hcz16_6 : wc.cell? ⟨gb186, 6, none⟩ = some (.int .i64 D6) := (blk_cell BK186.out 6).trans rfl
          have hcz16_7 : wc.cell? ⟨gb186, 7, none⟩ = some (.int .i64 D7) := (blk_cell BK186.out 7).trans rfl
          have hcz16_8 : wc.cell? ⟨gb186, 8, none⟩ = some (.int .i64 D8) := (blk_cell BK186.out 8).trans rfl
          have hcz16_9 : wc.cell? ⟨gb186, 9, none⟩ = some (.int .i64 D9) := (blk_cell BK186.out 9).trans rfl
          have hcz16_10 : wc.cell? ⟨gb186, 10, none⟩ = some (.int .i64 D10) := (blk_cell BK186.out 10).trans rfl
          have hcz16_11 : wc.cell? ⟨gb186, 11, none⟩ = some (.int .i64 D11) := (blk_cell BK186.out 11).trans rfl
          have hcz16_12 : wc.cell? ⟨gb186, 12, none⟩ = some (.int .i64 D12) := (blk_cell BK186.out 12).trans rfl
          have hcz16_13 : wc.cell? ⟨gb186, 13, none⟩ = some (.int .i64 D13) := (blk_cell BK186.out 13).trans rfl
          have hcz16_14 : wc.cell? ⟨gb186, 14, none⟩ = some (.int .i64 D14) := (blk_cell BK186.out 14).trans rfl
          have hfz16_0 := blk_frozen BK186.out 0
          have hfz16_1 := blk_frozen BK186.out 1
          have hfz16_2 := blk_frozen BK186.out 2
          have hfz16_3 := blk_frozen BK186.out 3
          have hfz16_4 := blk_frozen BK186.out 4
          have hfz16_5 := blk_frozen BK186.out 5
          have hfz16_6 := blk_frozen BK186.out 6
          have hfz16_7 := blk_frozen BK186.out 7
          have hfz16_8 := blk_frozen BK186.out 8
          have hfz16_9 := blk_frozen BK186.out 9
          have hfz16_10 := blk_frozen BK186.out 10
          have hfz16_11 := blk_frozen BK186.out 11
          have hfz16_12 := blk_frozen BK186.out 12
          have hfz16_13 := blk_frozen BK186.out 13
          have hfz16_14 := blk_frozen BK186.out 14
          go_wp2_with (first | ((with_reducible refine gate_callee (f := 32) rfl ?_); refine goesL_ (some 17) rfl rfl Try.func32 (by kernel_rfl) rfl #[.int .i64 D9, .int .i64 D14] rfl (by (try simp only [List.map_toArray, List.map_cons, List.map_nil]); first | done | rfl | (simp only [List.length_drop, List.length_take]; rfl)) ?_; (with_reducible refine (pacemakerref10_product.calls D9 D14 t188 t189 _ A12.out).mono ?_); rintro e w17 ⟨rfl, hb⟩; refine ⟨_, rfl, ?_⟩; have n0_ := Aside0.mk (blk_below (g := gb186) (o := .cells #[.int .i64 D0, .int .i64 D1, .int .i64 D2, .int .i64 D3, .int .i64 D4, .int .i64 D5, .int .i64 D6, .int .i64 D7, .int .i64 D8, .int .i64 D9, .int .i64 D10, .int .i64 D11, .int .i64 D12, .int .i64 D13, .int .i64 D14] 29 (0, 0)) (by (with_reducible repeat (first | refine blk_drewN ?_ _ | refine blk_drew ?_ | refine blk_alloc ?_ _)); exact BK186.out) hb); have n1_ := Aside0.mk (below_step (by repeat (first | (with_reducible first | exact HB.out | apply below_alloc | apply pw_below_drewN | apply below_drew1 | refine below_set ?_ GE186.out) | exact HB.out)) hb); clear BK186; clear HB; have BK186 := n0_; have HB := n1_; clear n0_ n1_; (try clear hb); (try clear hb2); (try clear hk); (try clear hi)) | ((with_reducible refine gate_dst (N := 3) rfl ?_); refine box_event ?hg (N := 3) ?hd (cs := #[.int .u64 0, .int .u64 0]) (t := 24) ?hr ?_; (case hd => rfl); (case hg => rfl); (case hr => first | (go_simp; done) | (go_simp; rfl)); intro gb190 hg w18 hbox hb; have n0_ := Aside0.mk (blk_below (g := gb186) (o := .cells #[.int .i64 D0, .int .i64 D1, .int .i64 D2, .int .i64 D3, .int .i64 D4, .int .i64 D5, .int .i64 D6, .int .i64 D7, .int .i64 D8, .int .i64 D9, .int .i64 D10, .int .i64 D11, .int .i64 D12, .int .i64 D13, .int .i64 D14] 29 (0, 0)) (by (with_reducible repeat (first | refine blk_drewN ?_ _ | refine blk_drew ?_ | refine blk_alloc ?_ _)); exact BK186.out) hb); have n1_ := Aside0.mk (below_step (by repeat (first | (with_reducible first | exact HB.out | apply below_alloc | apply pw_below_drewN | apply below_drew1 | refine below_set ?_ GE186.out) | exact HB.out)) hb); have n2_ := Aside0.mk (hbox); have n3_ := Aside0.mk ((by rw [hg]; exact (below_size (by repeat (first | (with_reducible first | exact HB.out | apply below_alloc | apply pw_below_drewN | apply below_drew1 | refine below_set ?_ GE186.out) | exact HB.out))) : w.heap.size ≤ gb190)); have n4_ := Aside0.mk ((by rw [hg]; exact (below_size (by repeat (first | (with_reducible first | exact HB.out | apply below_alloc | apply pw_below_drewN | apply below_drew1 | refine below_set ?_ GE186.out) | exact HB.out))) : w.heap.size ≤ gb190)); have n5_ := Aside0.mk ((by rw [hg]; exact Nat.ne_of_lt (blk_lt (g := gb186) (o := .cells #[.int .i64 D0, .int .i64 D1, .int .i64 D2, .int .i64 D3, .int .i64 D4, .int .i64 D5, .int .i64 D6, .int .i64 D7, .int .i64 D8, .int .i64 D9, .int .i64 D10, .int .i64 D11, .int .i64 D12, .int .i64 D13, .int .i64 D14] 29 (0, 0)) (by (with_reducible repeat (first | refine blk_drewN ?_ _ | refine blk_drew ?_ | refine blk_alloc ?_ _)); exact BK186.out)) : gb186 ≠ gb190)); have n6_ := Aside0.mk ((by rw [hg]; exact Nat.ne_of_gt (blk_lt (g := gb186) (o := .cells #[.int .i64 D0, .int .i64 D1, .int .i64 D2, .int .i64 D3, .int .i64 D4, .int .i64 D5, .int .i64 D6, .int .i64 D7, .int .i64 D8, .int .i64 D9, .int .i64 D10, .int .i64 D11, .int .i64 D12, .int .i64 D13, .int .i64 D14] 29 (0, 0)) (by (with_reducible repeat (first | refine blk_drewN ?_ _ | refine blk_drew ?_ | refine blk_alloc ?_ _)); exact BK186.out)) : gb190 ≠ gb186)); clear BK186; clear HB; have BK186 := n0_; have HB := n1_; have BK190 := n2_; have GW190 := n3_; have GE190 := n4_; have NB186_190 := n5_; have NB190_186 := n6_; clear n0_ n1_ n2_ n3_ n4_ n5_ n6_; clear hb hbox hg; have hnb19 := NB190_186.out; have hnc19 := NB186_190.out; have hcz20_0 : w18.cell? ⟨gb190, 0, none⟩ = some (.int .u64 0) := (blk_cell BK190.out 0).trans rfl; have hcz20_1 : w18.cell? ⟨gb190, 1, none⟩ = some (.int .u64 0) := (blk_cell BK190.out 1).trans rfl; have hfz20_0 := blk_frozen BK190.out 0; have hfz20_1 := blk_frozen BK190.out 1; have hcz21_0 : w18.cell? ⟨gb186, 0, none⟩ = some (.int .i64 D0) := (blk_cell BK186.out 0).trans rfl; have hcz21_1 : w18.cell? ⟨gb186, 1, none⟩ = some (.int .i64 D1) := (blk_cell BK186.out 1).trans rfl; have hcz21_2 : w18.cell? ⟨gb186, 2, none⟩ = some (.int .i64 D2) := (blk_cell BK186.out 2).trans rfl; have hcz21_3 : w18.cell? ⟨gb186, 3, none⟩ = some (.int .i64 D3) := (blk_cell BK186.out 3).trans rfl; have hcz21_4 : w18.cell? ⟨gb186, 4, none⟩ = some (.int .i64 D4) := (blk_cell BK186.out 4).trans rfl; have hcz21_5 : w18.cell? ⟨gb186, 5, none⟩ = some (.int .i64 D5) := (blk_cell BK186.out 5).trans rfl; have hcz21_6 : w18.cell? ⟨gb186, 6, none⟩ = some (.int .i64 D6) := (blk_cell BK186.out 6).trans rfl; have hcz21_7 : w18.cell? ⟨gb186, 7, none⟩ = some (.int .i64 D7) := (blk_cell BK186.out 7).trans rfl; have hcz21_8 : w18.cell? ⟨gb186, 8, none⟩ = some (.int .i64 D8) := (blk_cell BK186.out 8).trans rfl; have hcz21_9 : w18.cell? ⟨gb186, 9, none⟩ = some (.int .i64 D9) := (blk_cell BK186.out 9).trans rfl; have hcz21_10 : w18.cell? ⟨gb186, 10, none⟩ = some (.int .i64 D10) := (blk_cell BK186.out 10).trans rfl; have hcz21_11 : w18.cell? ⟨gb186, 11, none⟩ = some (.int .i64 D11) := (blk_cell BK186.out 11).trans rfl; have hcz21_12 : w18.cell? ⟨gb186, 12, none⟩ = some (.int .i64 D12) := (blk_cell BK186.out 12).trans rfl; have hcz21_13 : w18.cell? ⟨gb186, 13, none⟩ = some (.int .i64 D13) := (blk_cell BK186.out 13).trans rfl; have hcz21_14 : w18.cell? ⟨gb186, 14, none⟩ = some (.int .i64 D14) := (blk_cell BK186.out 14).trans rfl; have hfz21_0 := blk_frozen BK186.out 0; have hfz21_1 := blk_frozen BK186.out 1; have hfz21_2 := blk_frozen BK186.out 2; have hfz21_3 := blk_frozen BK186.out 3; have hfz21_4 := blk_frozen BK186.out 4; have hfz21_5 := blk_frozen BK186.out 5; have hfz21_6 := blk_frozen BK186.out 6; have hfz21_7 := blk_frozen BK186.out 7; have hfz21_8 := blk_frozen BK186.out 8; have hfz21_9 := blk_frozen BK186.out 9; have hfz21_10 := blk_frozen BK186.out 10; have hfz21_11 := blk_frozen BK186.out 11; have hfz21_12 := blk_frozen BK186.out 12; have hfz21_13 := blk_frozen BK186.out 13; have hfz21_14 := blk_frozen BK186.out 14) | ((with_reducible refine gate_callee (f := 32) rfl ?_); refine goesL_ (some 22) rfl rfl Try.func32 (by kernel_rfl) rfl #[.int .i64 D11, .int .i64 D11] rfl (by (try simp only [List.map_toArray, List.map_cons, List.map_nil]); first | done | rfl | (simp only [List.length_drop, List.length_take]; rfl)) ?_; (with_reducible refine (pacemakerref10_product.calls D11 D11 t191 t192 _ A13.out).mono ?_); rintro e w22 ⟨rfl, hb⟩; refine ⟨_, rfl, ?_⟩; have n0_ := Aside0.mk (blk_below (g := gb186) (o := .cells #[.int .i64 D0, .int .i64 D1, .int .i64 D2, .int .i64 D3, .int .i64 D4, .int .i64 D5, .int .i64 D6, .int .i64 D7, .int .i64 D8, .int .i64 D9, .int .i64 D10, .int .i64 D11, .int .i64 D12, .int .i64 D13, .int .i64 D14] 29 (0, 0)) (by (with_reducible repeat (first | refine blk_drewN ?_ _ | refine blk_drew ?_ | refine blk_alloc ?_ _)); refine blk_far ?_ NB186_190.out _; (with_reducible repeat (first | refine blk_drewN ?_ _ | refine blk_drew ?_ | refine blk_alloc ?_ _)); refine blk_far ?_ NB186_190.out _; (with_reducible repeat (first | refine blk_drewN ?_ _ | refine blk_drew ?_ | refine blk_alloc ?_ _)); exact BK186.out) hb); have n1_ := Aside0.mk (blk_below (g := gb190) (o := .cells #[.int .u64 t188, .int .u64 t189] 24 (0, 0)) (by (with_reducible repeat (first | refine blk_drewN ?_ _ | refine blk_drew ?_ | refine blk_alloc ?_ _)); refine blk_put (cs := #[.int .u64 t188, .int .u64 0]) ?_ 1 _ rfl; (with_reducible repeat (first | refine blk_drewN ?_ _ | refine blk_drew ?_ | refine blk_alloc ?_ _)); refine blk_put (cs := #[.int .u64 0, .int .u64 0]) ?_ 0 _ rfl; (with_reducible repeat (first | refine blk_drewN ?_ _ | refine blk_drew ?_ | refine blk_alloc ?_ _)); exact BK190.out) hb); have n2_ := Aside0.mk (below_step (by repeat (first | (with_reducible first | exact HB.out | apply below_alloc | apply pw_below_drewN | apply below_drew1 | refine below_set ?_ GE186.out | refine below_set ?_ GE190.out) | exact HB.out)) hb); clear BK186; clear BK190; clear HB; have BK186 := n0_; have BK190 := n1_; have HB := n2_; clear n0_ n1_ n2_; (try clear hb); (try clear hb2); (try clear hk); (try clear hi)) | ((with_reducible refine gate_dst (N := 4) rfl ?_); refine box_event ?hg (N := 4) ?hd (cs := #[.int .u64 0, .int .u64 0]) (t := 24) ?hr ?_; (case hd => rfl); (case hg => rfl); (case hr => first | (go_simp; done) | (go_simp; rfl)); intro gb193 hg w23 hbox hb; have n0_ := Aside0.mk (blk_below (g := gb186) (o := .cells #[.int .i64 D0, .int .i64 D1, .int .i64 D2, .int .i64 D3, .int .i64 D4, .int .i64 D5, .int .i64 D6, .int .i64 D7, .int .i64 D8, .int .i64 D9, .int .i64 D10, .int .i64 D11, .int .i64 D12, .int .i64 D13, .int .i64 D14] 29 (0, 0)) (by (with_reducible repeat (first | refine blk_drewN ?_ _ | refine blk_drew ?_ | refine blk_alloc ?_ _)); exact BK186.out) hb); have n1_ := Aside0.mk (blk_below (g := gb190) (o := .cells #[.int .u64 t188, .int .u64 t189] 24 (0, 0)) (by (with_reducible repeat (first | refine blk_drewN ?_ _ | refine blk_drew ?_ | refine blk_alloc ?_ _)); exact BK190.out) hb); have n2_ := Aside0.mk (below_step (by repeat (first | (with_reducible first | exact HB.out | apply below_alloc | apply pw_below_drewN | apply below_drew1 | refine below_set ?_ GE186.out | refine below_set ?_ GE190.out) | exact HB.out)) hb); have n3_ := Aside0.mk (hbox); have n4_ := Aside0.mk ((by rw [hg]; exact (below_size (by repeat (first | (with_reducible first | exact HB.out | apply below_alloc | apply pw_below_drewN | apply below_drew1 | refine below_set ?_ GE186.out | refine below_set ?_ GE190.out) | exact HB.out))) : w.heap.size ≤ gb193)); have n5_ := Aside0.mk ((by rw [hg]; exact (below_size (by repeat (first | (with_reducible first | exact HB.out | apply below_alloc | apply pw_below_drewN | apply below_drew1 | refine below_set ?_ GE186.out | refine below_set ?_ GE190.out) | exact HB.out))) : w.heap.size ≤ gb193)); have n6_ := Aside0.mk ((by rw [hg]; exact Nat.ne_of_lt (blk_lt (g := gb186) (o := .cells #[.int .i64 D0, .int .i64 D1, .int .i64 D2, .int .i64 D3, .int .i64 D4, .int .i64 D5, .int .i64 D6, .int .i64 D7, .int .i64 D8, .int .i64 D9, .int .i64 D10, .int .i64 D11, .int .i64 D12, .int .i64 D13, .int .i64 D14] 29 (0, 0)) (by (with_reducible repeat (first | refine blk_drewN ?_ _ | refine blk_drew ?_ | refine blk_alloc ?_ _)); exact BK186.out)) : gb186 ≠ gb193)); have n7_ := Aside0.mk ((by rw [hg]; exact Nat.ne_of_gt (blk_lt (g := gb186) (o := .cells #[.int .i64 D0, .int .i64 D1, .int .i64 D2, .int .i64 D3, .int .i64 D4, .int .i64 D5, .int .i64 D6, .int .i64 D7, .int .i64 D8, .int .i64 D9, .int .i64 D10, .int .i64 D11, .int .i64 D12, .int .i64 D13, .int .i64 D14] 29 (0, 0)) (by (with_reducible repeat (first | refine blk_drewN ?_ _ | refine blk_drew ?_ | refine blk_alloc ?_ _)); exact BK186.out)) : gb193 ≠ gb186)); have n8_ := Aside0.mk ((by rw [hg]; exact Nat.ne_of_lt (blk_lt (g := gb190) (o := .cells #[.int .u64 t188, .int .u64 t189] 24 (0, 0)) (by (with_reducible repeat (first | refine blk_drewN ?_ _ | refine blk_drew ?_ | refine blk_alloc ?_ _)); exact BK190.out)) : gb190 ≠ gb193)); have n9_ := Aside0.mk ((by rw [hg]; exact Nat.ne_of_gt (blk_lt (g := gb190) (o := .cells #[.int .u64 t188, .int .u64 t189] 24 (0, 0)) (by (with_reducible repeat (first | refine blk_drewN ?_ _ | refine blk_drew ?_ | refine blk_alloc ?_ _)); exact BK190.out)) : gb193 ≠ gb190)); clear BK186; clear BK190; clear HB; have BK186 := n0_; have BK190 := n1_; have HB := n2_; have BK193 := n3_; have GW193 := n4_; have GE193 := n5_; have NB186_193 := n6_; have NB193_186 := n7_; have NB190_193 := n8_; have NB193_190 := n9_; clear n0_ n1_ n2_ n3_ n4_ n5_ n6_ n7_ n8_ n9_; clear hb hbox hg; have hnb24 := NB193_186.out; have hnc24 := NB186_193.out; have hnb25 := NB193_190.out; have hnc25 := NB190_193.out; have hcz26_0 : w23.cell? ⟨gb193, 0, none⟩ = some (.int .u64 0) := (blk_cell BK193.out 0).trans rfl; have hcz26_1 : w23.cell? ⟨gb193, 1, none⟩ = some (.int .u64 0) := (blk_cell BK193.out 1).trans rfl; have hfz26_0 := blk_frozen BK193.out 0; have hfz26_1 := blk_frozen BK193.out 1; have hcz27_0 : w23.cell? ⟨gb190, 0, none⟩ = some (.int .u64 t188) := (blk_cell BK190.out 0).trans rfl; have hcz27_1 : w23.cell? ⟨gb190, 1, none⟩ = some (.int .u64 t189) := (blk_cell BK190.out 1).trans rfl; have hfz27_0 := blk_frozen BK190.out 0; have hfz27_1 := blk_frozen BK190.out 1) | ((with_reducible refine gate_callee (f := 25) rfl ?_); refine goesL_ (some 25) rfl rfl Try.func25 (by kernel_rfl) rfl #[.agg #[.int .u64 t188, .int .u64 t189], .agg #[.int .u64 t191, .int .u64 t192]] rfl (by (try simp only [List.map_toArray, List.map_cons, List.map_nil]); first | done | rfl | (simp only [List.length_drop, List.length_take]; rfl)) ?_; (with_reducible refine (pacemakerref10_less.calls t188 t189 t191 t192 true _ A14.out).mono ?_); rintro e w28 ⟨rfl, hb⟩; refine ⟨_, rfl, ?_⟩; have n0_ := Aside0.mk (blk_below (g := gb186) (o := .cells #[.int .i64 D0, .int .i64 D1, .int .i64 D2, .int .i64 D3, .int .i64 D4, .int .i64 D5, .int .i64 D6, .int .i64 D7, .int .i64 D8, .int .i64 D9, .int .i64 D10, .int .i64 D11, .int .i64 D12, .int .i64 D13, .int .i64 D14] 29 (0, 0)) (by (with_reducible repeat (first | refine blk_drewN ?_ _ | refine blk_drew ?_ | refine blk_alloc ?_ _)); refine blk_far ?_ NB186_193.out _; (with_reducible repeat (first | refine blk_drewN ?_ _ | refine blk_drew ?_ | refine blk_alloc ?_ _)); refine blk_far ?_ NB186_193.out _; (with_reducible repeat (first | refine blk_drewN ?_ _ | refine blk_drew ?_ | refine blk_alloc ?_ _)); exact BK186.out) hb); have n1_ := Aside0.mk (blk_below (g := gb190) (o := .cells #[.int .u64 t188, .int .u64 t189] 24 (0, 0)) (by (with_reducible repeat (first | refine blk_drewN ?_ _ | refine blk_drew ?_ | refine blk_alloc ?_ _)); refine blk_far ?_ NB190_193.out _; (with_reducible repeat (first | refine blk_drewN ?_ _ | refine blk_drew ?_ | refine blk_alloc ?_ _)); refine blk_far ?_ NB190_193.out _; (with_reducible repeat (first | refine blk_drewN ?_ _ | refine blk_drew ?_ | refine blk_alloc ?_ _)); exact BK190.out) hb); have n2_ := Aside0.mk (blk_below (g := gb193) (o := .cells #[.int .u64 t191, .int .u64 t192] 24 (0, 0)) (by (with_reducible repeat (first | refine blk_drewN ?_ _ | refine blk_drew ?_ | refine blk_alloc ?_ _)); refine blk_put (cs := #[.int .u64 t191, .int .u64 0]) ?_ 1 _ rfl; (with_reducible repeat (first | refine blk_drewN ?_ _ | refine blk_drew ?_ | refine blk_alloc ?_ _)); refine blk_put (cs := #[.int .u64 0, .int .u64 0]) ?_ 0 _ rfl; (with_reducible repeat (first | refine blk_drewN ?_ _ | refine blk_drew ?_ | refine blk_alloc ?_ _)); exact BK193.out) hb); have n3_ := Aside0.mk (below_step (by repeat (first | (with_reducible first | exact HB.out | apply below_alloc | apply pw_below_drewN | apply below_drew1 | refine below_set ?_ GE186.out | refine below_set ?_ GE190.out | refine below_set ?_ GE193.out) | exact HB.out)) hb); clear BK186; clear BK190; clear BK193; clear HB; have BK186 := n0_; have BK190 := n1_; have BK193 := n2_; have HB := n3_; clear n0_ n1_ n2_ n3_; (try clear hb); (try clear hb2); (try clear hk); (try clear hi)))
          go_ret
          exact ⟨by first | rfl | (simp [errW_none, errW_some] <;> rfl) | (simp [*, errW_none, errW_some] <;> rfl), by repeat (first | (with_reducible first | exact HB.out | apply below_alloc | apply pw_below_drewN | apply below_drew1 | refine below_set ?_ GE186.out | refine below_set ?_ GE190.out | refine below_set ?_ GE193.out) | exact HB.out)⟩
        · replace c15 := Bool.eq_false_iff.mpr c15
          subst c15
          rw [if_neg (show ¬ (false = true) by decide)] at H
          replace H := Option.bind_eq_some_iff.mp H
          obtain ⟨⟨t195, t196⟩, A290, H⟩ := H
          try dsimp only at H
          have A29 := Aside0.mk A290
          clear A290
          replace H := Option.bind_eq_some_iff.mp H
          obtain ⟨t197, A300, H⟩ := H
          try dsimp only at H
          have A30 := Aside0.mk A300
          clear A300
          replace H := Option.bind_eq_some_iff.mp H
          obtain ⟨t198, A310, H⟩ := H
          try dsimp only at H
          have A31 := Aside0.mk A310
          clear A310
          obtain rfl := Option.some.inj H
          have hcz32_0 : wc.cell? ⟨gb186, 0, none⟩ = some (.int .i64 D0) := (blk_cell BK186.out 0).trans rfl
          have hcz32_1 : wc.cell? ⟨gb186, 1, none⟩ = some (.int .i64 D1) := (blk_cell BK186.out 1).trans rfl
          have hcz32_2 : wc.cell? ⟨gb186, 2, none⟩ = some (.int .i64 D2) := (blk_cell BK186.out 2).trans rfl
          have hcz32_3 : wc.cell? ⟨gb186, 3, none⟩ = some (.int .i64 D3) := (blk_cell BK186.out 3).trans rfl
          have hcz32_4 : wc.cell? ⟨gb186, 4, none⟩ = some (.int .i64 D4) := (blk_cell BK186.out 4).trans rfl
          have hcz32_5 : wc.cell? ⟨gb186, 5, none⟩ = some (.int .i64 D5) := (blk_cell BK186.out 5).trans rfl
          have hcz32_6 : wc.cell? ⟨gb186, 6, none⟩ = some (.int .i64 D6) := (blk_cell BK186.out 6).trans rfl
          have hcz32_7 : wc.cell? ⟨gb186, 7, none⟩ = some (.int .i64 D7) := (blk_cell BK186.out 7).trans rfl
          have hcz32_8 : wc.cell? ⟨gb186, 8, none⟩ = some (.int .i64 D8) := (blk_cell BK186.out 8).trans rfl
          have hcz32_9 : wc.cell? ⟨gb186, 9, none⟩ = some (.int .i64 D9) := (blk_cell BK186.out 9).trans rfl
          have hcz32_10 : wc.cell? ⟨gb186, 10, none⟩ = some (.int .i64 D10) := (blk_cell BK186.out 10).trans rfl
          have hcz32_11 : wc.cell? ⟨gb186, 11, none⟩ = some (.int .i64 D11) := (blk_cell BK186.out 11).trans rfl
          have hcz32_12 : wc.cell? ⟨gb186, 12, none⟩ = some (.int .i64 D12) := (blk_cell BK186.out 12).trans rfl
          have hcz32_13 : wc.cell? ⟨gb186, 13, none⟩ = some (.int .i64 D13) := (blk_cell BK186.out 13).trans rfl
          have hcz32_14 : wc.cell? ⟨gb186, 14, none⟩ = some (.int .i64 D14) := (blk_cell BK186.out 14).trans rfl
          have hfz32_0 := blk_frozen BK186.out 0
          have hfz32_1 := blk_frozen BK186.out 1
          have hfz32_2 := blk_frozen BK186.out 2
          have hfz32_3 := blk_frozen BK186.out 3
          have hfz32_4 := blk_frozen BK186.out 4
          have hfz32_5 := blk_frozen BK186.out 5
          have hfz32_6 := blk_frozen BK186.out 6
          have hfz32_7 := blk_frozen BK186.out 7
          have hfz32_8 := blk_frozen BK186.out 8
          have hfz32_9 := blk_frozen BK186.out 9
          have hfz32_10 := blk_frozen BK186.out 10
          have hfz32_11 := blk_frozen BK186.out 11
          have hfz32_12 := blk_frozen BK186.out 12
          have hfz32_13 := blk_frozen BK186.out 13
          have hfz32_14 := blk_frozen BK186.out 14
          try go_wp2_with (first | ((with_reducible refine gate_callee (f := 32) rfl ?_); refine goesL_ (some 17) rfl rfl Try.func32 (by kernel_rfl) rfl #[.int .i64 D9, .int .i64 D14] rfl (by (try simp only [List.map_toArray, List.map_cons, List.map_nil]); first | done | rfl | (simp only [List.length_drop, List.length_take]; rfl)) ?_; (with_reducible refine (pacemakerref10_product.calls D9 D14 t188 t189 _ A12.out).mono ?_); rintro e w33 ⟨rfl, hb⟩; refine ⟨_, rfl, ?_⟩; have n0_ := Aside0.mk (blk_below (g := gb186) (o := .cells #[.int .i64 D0, .int .i64 D1, .int .i64 D2, .int .i64 D3, .int .i64 D4, .int .i64 D5, .int .i64 D6, .int .i64 D7, .int .i64 D8, .int .i64 D9, .int .i64 D10, .int .i64 D11, .int .i64 D12, .int .i64 D13, .int .i64 D14] 29 (0, 0)) (by (with_reducible repeat (first | refine blk_drewN ?_ _ | refine blk_drew ?_ | refine blk_alloc ?_ _)); exact BK186.out) hb); have n1_ := Aside0.mk (below_step (by repeat (first | (with_reducible first | exact HB.out | apply below_alloc | apply pw_below_drewN | apply below_drew1 | refine below_set ?_ GE186.out) | exact HB.out)) hb); clear BK186; clear HB; have BK186 := n0_; have HB := n1_; clear n0_ n1_; (try clear hb); (try clear hb2); (try clear hk); (try clear hi)) | ((with_reducible refine gate_dst (N := 3) rfl ?_); refine box_event ?hg (N := 3) ?hd (cs := #[.int .u64 0, .int .u64 0]) (t := 24) ?hr ?_; (case hd => rfl); (case hg => rfl); (case hr => first | (go_simp; done) | (go_simp; rfl)); intro gb190 hg w34 hbox hb; have n0_ := Aside0.mk (blk_below (g := gb186) (o := .cells #[.int .i64 D0, .int .i64 D1, .int .i64 D2, .int .i64 D3, .int .i64 D4, .int .i64 D5, .int .i64 D6, .int .i64 D7, .int .i64 D8, .int .i64 D9, .int .i64 D10, .int .i64 D11, .int .i64 D12, .int .i64 D13, .int .i64 D14] 29 (0, 0)) (by (with_reducible repeat (first | refine blk_drewN ?_ _ | refine blk_drew ?_ | refine blk_alloc ?_ _)); exact BK186.out) hb); have n1_ := Aside0.mk (below_step (by repeat (first | (with_reducible first | exact HB.out | apply below_alloc | apply pw_below_drewN | apply below_drew1 | refine below_set ?_ GE186.out) | exact HB.out)) hb); have n2_ := Aside0.mk (hbox); have n3_ := Aside0.mk ((by rw [hg]; exact (below_size (by repeat (first | (with_reducible first | exact HB.out | apply below_alloc | apply pw_below_drewN | apply below_drew1 | refine below_set ?_ GE186.out) | exact HB.out))) : w.heap.size ≤ gb190)); have n4_ := Aside0.mk ((by rw [hg]; exact (below_size (by repeat (first | (with_reducible first | exact HB.out | apply below_alloc | apply pw_below_drewN | apply below_drew1 | refine below_set ?_ GE186.out) | exact HB.out))) : w.heap.size ≤ gb190)); have n5_ := Aside0.mk ((by rw [hg]; exact Nat.ne_of_lt (blk_lt (g := gb186) (o := .cells #[.int .i64 D0, .int .i64 D1, .int .i64 D2, .int .i64 D3, .int .i64 D4, .int .i64 D5, .int .i64 D6, .int .i64 D7, .int .i64 D8, .int .i64 D9, .int .i64 D10, .int .i64 D11, .int .i64 D12, .int .i64 D13, .int .i64 D14] 29 (0, 0)) (by (with_reducible repeat (first | refine blk_drewN ?_ _ | refine blk_drew ?_ | refine blk_alloc ?_ _)); exact BK186.out)) : gb186 ≠ gb190)); have n6_ := Aside0.mk ((by rw [hg]; exact Nat.ne_of_gt (blk_lt (g := gb186) (o := .cells #[.int .i64 D0, .int .i64 D1, .int .i64 D2, .int .i64 D3, .int .i64 D4, .int .i64 D5, .int .i64 D6, .int .i64 D7, .int .i64 D8, .int .i64 D9, .int .i64 D10, .int .i64 D11, .int .i64 D12, .int .i64 D13, .int .i64 D14] 29 (0, 0)) (by (with_reducible repeat (first | refine blk_drewN ?_ _ | refine blk_drew ?_ | refine blk_alloc ?_ _)); exact BK186.out)) : gb190 ≠ gb186)); clear BK186; clear HB; have BK186 := n0_; have HB := n1_; have BK190 := n2_; have GW190 := n3_; have GE190 := n4_; have NB186_190 := n5_; have NB190_186 := n6_; clear n0_ n1_ n2_ n3_ n4_ n5_ n6_; clear hb hbox hg; have hnb35 := NB190_186.out; have hnc35 := NB186_190.out; have hcz36_0 : w34.cell? ⟨gb190, 0, none⟩ = some (.int .u64 0) := (blk_cell BK190.out 0).trans rfl; have hcz36_1 : w34.cell? ⟨gb190, 1, none⟩ = some (.int .u64 0) := (blk_cell BK190.out 1).trans rfl; have hfz36_0 := blk_frozen BK190.out 0; have hfz36_1 := blk_frozen BK190.out 1; have hcz37_0 : w34.cell? ⟨gb186, 0, none⟩ = some (.int .i64 D0) := (blk_cell BK186.out 0).trans rfl; have hcz37_1 : w34.cell? ⟨gb186, 1, none⟩ = some (.int .i64 D1) := (blk_cell BK186.out 1).trans rfl; have hcz37_2 : w34.cell? ⟨gb186, 2, none⟩ = some (.int .i64 D2) := (blk_cell BK186.out 2).trans rfl; have hcz37_3 : w34.cell? ⟨gb186, 3, none⟩ = some (.int .i64 D3) := (blk_cell BK186.out 3).trans rfl; have hcz37_4 : w34.cell? ⟨gb186, 4, none⟩ = some (.int .i64 D4) := (blk_cell BK186.out 4).trans rfl; have hcz37_5 : w34.cell? ⟨gb186, 5, none⟩ = some (.int .i64 D5) := (blk_cell BK186.out 5).trans rfl; have hcz37_6 : w34.cell? ⟨gb186, 6, none⟩ = some (.int .i64 D6) := (blk_cell BK186.out 6).trans rfl; have hcz37_7 : w34.cell? ⟨gb186, 7, none⟩ = some (.int .i64 D7) := (blk_cell BK186.out 7).trans rfl; have hcz37_8 : w34.cell? ⟨gb186, 8, none⟩ = some (.int .i64 D8) := (blk_cell BK186.out 8).trans rfl; have hcz37_9 : w34.cell? ⟨gb186, 9, none⟩ = some (.int .i64 D9) := (blk_cell BK186.out 9).trans rfl; have hcz37_10 : w34.cell? ⟨gb186, 10, none⟩ = some (.int .i64 D10) := (blk_cell BK186.out 10).trans rfl; have hcz37_11 : w34.cell? ⟨gb186, 11, none⟩ = some (.int .i64 D11) := (blk_cell BK186.out 11).trans rfl; have hcz37_12 : w34.cell? ⟨gb186, 12, none⟩ = some (.int .i64 D12) := (blk_cell BK186.out 12).trans rfl; have hcz37_13 : w34.cell? ⟨gb186, 13, none⟩ = some (.int .i64 D13) := (blk_cell BK186.out 13).trans rfl; have hcz37_14 : w34.cell? ⟨gb186, 14, none⟩ = some (.int .i64 D14) := (blk_cell BK186.out 14).trans rfl; have hfz37_0 := blk_frozen BK186.out 0; have hfz37_1 := blk_frozen BK186.out 1; have hfz37_2 := blk_frozen BK186.out 2; have hfz37_3 := blk_frozen BK186.out 3; have hfz37_4 := blk_frozen BK186.out 4; have hfz37_5 := blk_frozen BK186.out 5; have hfz37_6 := blk_frozen BK186.out 6; have hfz37_7 := blk_frozen BK186.out 7; have hfz37_8 := blk_frozen BK186.out 8; have hfz37_9 := blk_frozen BK186.out 9; have hfz37_10 := blk_frozen BK186.out 10; have hfz37_11 := blk_frozen BK186.out 11; have hfz37_12 := blk_frozen BK186.out 12; have hfz37_13 := blk_frozen BK186.out 13; have hfz37_14 := blk_frozen BK186.out 14) | ((with_reducible refine gate_callee (f := 32) rfl ?_); refine goesL_ (some 22) rfl rfl Try.func32 (by kernel_rfl) rfl #[.int .i64 D11, .int .i64 D11] rfl (by (try simp only [List.map_toArray, List.map_cons, List.map_nil]); first | done | rfl | (simp only [List.length_drop, List.length_take]; rfl)) ?_; (with_reducible refine (pacemakerref10_product.calls D11 D11 t191 t192 _ A13.out).mono ?_); rintro e w38 ⟨rfl, hb⟩; refine ⟨_, rfl, ?_⟩; have n0_ := Aside0.mk (blk_below (g := gb186) (o := .cells #[.int .i64 D0, .int .i64 D1, .int .i64 D2, .int .i64 D3, .int .i64 D4, .int .i64 D5, .int .i64 D6, .int .i64 D7, .int .i64 D8, .int .i64 D9, .int .i64 D10, .int .i64 D11, .int .i64 D12, .int .i64 D13, .int .i64 D14] 29 (0, 0)) (by (with_reducible repeat (first | refine blk_drewN ?_ _ | refine blk_drew ?_ | refine blk_alloc ?_ _)); refine blk_far ?_ NB186_190.out _; (with_reducible repeat (first | refine blk_drewN ?_ _ | refine blk_drew ?_ | refine blk_alloc ?_ _)); refine blk_far ?_ NB186_190.out _; (with_reducible repeat (first | refine blk_drewN ?_ _ | refine blk_drew ?_ | refine blk_alloc ?_ _)); exact BK186.out) hb); have n1_ := Aside0.mk (blk_below (g := gb190) (o := .cells #[.int .u64 t188, .int .u64 t189] 24 (0, 0)) (by (with_reducible repeat (first | refine blk_drewN ?_ _ | refine blk_drew ?_ | refine blk_alloc ?_ _)); refine blk_put (cs := #[.int .u64 t188, .int .u64 0]) ?_ 1 _ rfl; (with_reducible repeat (first | refine blk_drewN ?_ _ | refine blk_drew ?_ | refine blk_alloc ?_ _)); refine blk_put (cs := #[.int .u64 0, .int .u64 0]) ?_ 0 _ rfl; (with_reducible repeat (first | refine blk_drewN ?_ _ | refine blk_drew ?_ | refine blk_alloc ?_ _)); exact BK190.out) hb); have n2_ := Aside0.mk (below_step (by repeat (first | (with_reducible first | exact HB.out | apply below_alloc | apply pw_below_drewN | apply below_drew1 | refine below_set ?_ GE186.out | refine below_set ?_ GE190.out) | exact HB.out)) hb); clear BK186; clear BK190; clear HB; have BK186 := n0_; have BK190 := n1_; have HB := n2_; clear n0_ n1_ n2_; (try clear hb); (try clear hb2); (try clear hk); (try clear hi)) | ((with_reducible refine gate_dst (N := 4) rfl ?_); refine box_event ?hg (N := 4) ?hd (cs := #[.int .u64 0, .int .u64 0]) (t := 24) ?hr ?_; (case hd => rfl); (case hg => rfl); (case hr => first | (go_simp; done) | (go_simp; rfl)); intro gb193 hg w39 hbox hb; have n0_ := Aside0.mk (blk_below (g := gb186) (o := .cells #[.int .i64 D0, .int .i64 D1, .int .i64 D2, .int .i64 D3, .int .i64 D4, .int .i64 D5, .int .i64 D6, .int .i64 D7, .int .i64 D8, .int .i64 D9, .int .i64 D10, .int .i64 D11, .int .i64 D12, .int .i64 D13, .int .i64 D14] 29 (0, 0)) (by (with_reducible repeat (first | refine blk_drewN ?_ _ | refine blk_drew ?_ | refine blk_alloc ?_ _)); exact BK186.out) hb); have n1_ := Aside0.mk (blk_below (g := gb190) (o := .cells #[.int .u64 t188, .int .u64 t189] 24 (0, 0)) (by (with_reducible repeat (first | refine blk_drewN ?_ _ | refine blk_drew ?_ | refine blk_alloc ?_ _)); exact BK190.out) hb); have n2_ := Aside0.mk (below_step (by repeat (first | (with_reducible first | exact HB.out | apply below_alloc | apply pw_below_drewN | apply below_drew1 | refine below_set ?_ GE186.out | refine below_set ?_ GE190.out) | exact HB.out)) hb); have n3_ := Aside0.mk (hbox); have n4_ := Aside0.mk ((by rw [hg]; exact (below_size (by repeat (first | (with_reducible first | exact HB.out | apply below_alloc | apply pw_below_drewN | apply below_drew1 | refine below_set ?_ GE186.out | refine below_set ?_ GE190.out) | exact HB.out))) : w.heap.size ≤ gb193)); have n5_ := Aside0.mk ((by rw [hg]; exact (below_size (by repeat (first | (with_reducible first | exact HB.out | apply below_alloc | apply pw_below_drewN | apply below_drew1 | refine below_set ?_ GE186.out | refine below_set ?_ GE190.out) | exact HB.out))) : w.heap.size ≤ gb193)); have n6_ := Aside0.mk ((by rw [hg]; exact Nat.ne_of_lt (blk_lt (g := gb186) (o := .cells #[.int .i64 D0, .int .i64 D1, .int .i64 D2, .int .i64 D3, .int .i64 D4, .int .i64 D5, .int .i64 D6, .int .i64 D7, .int .i64 D8, .int .i64 D9, .int .i64 D10, .int .i64 D11, .int .i64 D12, .int .i64 D13, .int .i64 D14] 29 (0, 0)) (by (with_reducible repeat (first | refine blk_drewN ?_ _ | refine blk_drew ?_ | refine blk_alloc ?_ _)); exact BK186.out)) : gb186 ≠ gb193)); have n7_ := Aside0.mk ((by rw [hg]; exact Nat.ne_of_gt (blk_lt (g := gb186) (o := .cells #[.int .i64 D0, .int .i64 D1, .int .i64 D2, .int .i64 D3, .int .i64 D4, .int .i64 D5, .int .i64 D6, .int .i64 D7, .int .i64 D8, .int .i64 D9, .int .i64 D10, .int .i64 D11, .int .i64 D12, .int .i64 D13, .int .i64 D14] 29 (0, 0)) (by (with_reducible repeat (first | refine blk_drewN ?_ _ | refine blk_drew ?_ | refine blk_alloc ?_ _)); exact BK186.out)) : gb193 ≠ gb186)); have n8_ := Aside0.mk ((by rw [hg]; exact Nat.ne_of_lt (blk_lt (g := gb190) (o := .cells #[.int .u64 t188, .int .u64 t189] 24 (0, 0)) (by (with_reducible repeat (first | refine blk_drewN ?_ _ | refine blk_drew ?_ | refine blk_alloc ?_ _)); exact BK190.out)) : gb190 ≠ gb193)); have n9_ := Aside0.mk ((by rw [hg]; exact Nat.ne_of_gt (blk_lt (g := gb190) (o := .cells #[.int .u64 t188, .int .u64 t189] 24 (0, 0)) (by (with_reducible repeat (first | refine blk_drewN ?_ _ | refine blk_drew ?_ | refine blk_alloc ?_ _)); exact BK190.out)) : gb193 ≠ gb190)); clear BK186; clear BK190; clear HB; have BK186 := n0_; have BK190 := n1_; have HB := n2_; have BK193 := n3_; have GW193 := n4_; have GE193 := n5_; have NB186_193 := n6_; have NB193_186 := n7_; have NB190_193 := n8_; have NB193_190 := n9_; clear n0_ n1_ n2_ n3_ n4_ n5_ n6_ n7_ n8_ n9_; clear hb hbox hg; have hnb40 := NB193_186.out; have hnc40 := NB186_193.out; have hnb41 := NB193_190.out; have hnc41 := NB190_193.out; have hcz42_0 : w39.cell? ⟨gb193, 0, none⟩ = some (.int .u64 0) := (blk_cell BK193.out 0).trans rfl; have hcz42_1 : w39.cell? ⟨gb193, 1, none⟩ = some (.int .u64 0) := (blk_cell BK193.out 1).trans rfl; have hfz42_0 := blk_frozen BK193.out 0; have hfz42_1 := blk_frozen BK193.out 1; have hcz43_0 : w39.cell? ⟨gb190, 0, none⟩ = some (.int .u64 t188) := (blk_cell BK190.out 0).trans rfl; have hcz43_1 : w39.cell? ⟨gb190, 1, none⟩ = some (.int .u64 t189) := (blk_cell BK190.out 1).trans rfl; have hfz43_0 := blk_frozen BK190.out 0; have hfz43_1 := blk_frozen BK190.out 1) | ((with_reducible refine gate_callee (f := 25) rfl ?_); refine goesL_ (some 25) rfl rfl Try.func25 (by kernel_rfl) rfl #[.agg #[.int .u64 t188, .int .u64 t189], .agg #[.int .u64 t191, .int .u64 t192]] rfl (by (try simp only [List.map_toArray, List.map_cons, List.map_nil]); first | done | rfl | (simp only [List.length_drop, List.length_take]; rfl)) ?_; (with_reducible refine (pacemakerref10_less.calls t188 t189 t191 t192 false _ A14.out).mono ?_); rintro e w44 ⟨rfl, hb⟩; refine ⟨_, rfl, ?_⟩; have n0_ := Aside0.mk (blk_below (g := gb186) (o := .cells #[.int .i64 D0, .int .i64 D1, .int .i64 D2, .int .i64 D3, .int .i64 D4, .int .i64 D5, .int .i64 D6, .int .i64 D7, .int .i64 D8, .int .i64 D9, .int .i64 D10, .int .i64 D11, .int .i64 D12, .int .i64 D13, .int .i64 D14] 29 (0, 0)) (by (with_reducible repeat (first | refine blk_drewN ?_ _ | refine blk_drew ?_ | refine blk_alloc ?_ _)); refine blk_far ?_ NB186_193.out _; (with_reducible repeat (first | refine blk_drewN ?_ _ | refine blk_drew ?_ | refine blk_alloc ?_ _)); refine blk_far ?_ NB186_193.out _; (with_reducible repeat (first | refine blk_drewN ?_ _ | refine blk_drew ?_ | refine blk_alloc ?_ _)); exact BK186.out) hb); have n1_ := Aside0.mk (blk_below (g := gb190) (o := .cells #[.int .u64 t188, .int .u64 t189] 24 (0, 0)) (by (with_reducible repeat (first | refine blk_drewN ?_ _ | refine blk_drew ?_ | refine blk_alloc ?_ _)); refine blk_far ?_ NB190_193.out _; (with_reducible repeat (first | refine blk_drewN ?_ _ | refine blk_drew ?_ | refine blk_alloc ?_ _)); refine blk_far ?_ NB190_193.out _; (with_reducible repeat (first | refine blk_drewN ?_ _ | refine blk_drew ?_ | refine blk_alloc ?_ _)); exact BK190.out) hb); have n2_ := Aside0.mk (blk_below (g := gb193) (o := .cells #[.int .u64 t191, .int .u64 t192] 24 (0, 0)) (by (with_reducible repeat (first | refine blk_drewN ?_ _ | refine blk_drew ?_ | refine blk_alloc ?_ _)); refine blk_put (cs := #[.int .u64 t191, .int .u64 0]) ?_ 1 _ rfl; (with_reducible repeat (first | refine blk_drewN ?_ _ | refine blk_drew ?_ | refine blk_alloc ?_ _)); refine blk_put (cs := #[.int .u64 0, .int .u64 0]) ?_ 0 _ rfl; (with_reducible repeat (first | refine blk_drewN ?_ _ | refine blk_drew ?_ | refine blk_alloc ?_ _)); exact BK193.out) hb); have n3_ := Aside0.mk (below_step (by repeat (first | (with_reducible first | exact HB.out | apply below_alloc | apply pw_below_drewN | apply below_drew1 | refine below_set ?_ GE186.out | refine below_set ?_ GE190.out | refine below_set ?_ GE193.out) | exact HB.out)) hb); clear BK186; clear BK190; clear BK193; clear HB; have BK186 := n0_; have BK190 := n1_; have BK193 := n2_; have HB := n3_; clear n0_ n1_ n2_ n3_; (try clear hb); (try clear hb2); (try clear hk); (try clear hi)))
          have n0_ := Aside0.mk (blk_drew BK186.out)
          have n1_ := Aside0.mk (blk_drew BK190.out)
          have n2_ := Aside0.mk (blk_drew BK193.out)
          have n3_ := Aside0.mk (below_drew1 HB.out)
          clear BK186
          clear BK190
          clear BK193
          clear HB
          have BK186 := n0_
          have BK190 := n1_
          have BK193 := n2_
          have HB := n3_
          clear n0_ n1_ n2_ n3_
          refine start_ (n := 11) (S := fun w' => w'.cell? ⟨gb190, 0, none⟩ = some (.int .u64 t188) ∧ w'.cell? ⟨gb190, 1, none⟩ = some (.int .u64 t189) ∧ w'.cell? ⟨gb193, 0, none⟩ = some (.int .u64 t191) ∧ w'.cell? ⟨gb193, 1, none⟩ = some (.int .u64 t192) ∧ w'.cell? ⟨gb186, 0, none⟩ = some (.int .i64 D0) ∧ w'.cell? ⟨gb186, 1, none⟩ = some (.int .i64 D1) ∧ w'.cell? ⟨gb186, 2, none⟩ = some (.int .i64 D2) ∧ w'.cell? ⟨gb186, 3, none⟩ = some (.int .i64 D3) ∧ w'.cell? ⟨gb186, 4, none⟩ = some (.int .i64 D4) ∧ w'.cell? ⟨gb186, 5, none⟩ = some (.int .i64 D5) ∧ w'.cell? ⟨gb186, 6, none⟩ = some (.int .i64 D6) ∧ w'.cell? ⟨gb186, 7, none⟩ = some (.int .i64 D7) ∧ w'.cell? ⟨gb186, 8, none⟩ = some (.int .i64 D8) ∧ w'.cell? ⟨gb186, 9, none⟩ = some (.int .i64 D9) ∧ w'.cell? ⟨gb186, 10, none⟩ = some (.int .i64 D10) ∧ w'.cell? ⟨gb186, 11, none⟩ = some (.int .i64 D11) ∧ w'.cell? ⟨gb186, 12, none⟩ = some (.int .i64 D12) ∧ w'.cell? ⟨gb186, 13, none⟩ = some (.int .i64 D13) ∧ w'.cell? ⟨gb186, 14, none⟩ = some (.int .i64 D14)) (ds := []) #[false, false, false, false, false, false, false, false, false, false, false] (by kernel_rfl) rfl rfl ⟨(blk_cell BK190.out 0).trans rfl, (blk_cell BK190.out 1).trans rfl, (blk_cell BK193.out 0).trans rfl, (blk_cell BK193.out 1).trans rfl, (blk_cell BK186.out 0).trans rfl, (blk_cell BK186.out 1).trans rfl, (blk_cell BK186.out 2).trans rfl, (blk_cell BK186.out 3).trans rfl, (blk_cell BK186.out 4).trans rfl, (blk_cell BK186.out 5).trans rfl, (blk_cell BK186.out 6).trans rfl, (blk_cell BK186.out 7).trans rfl, (blk_cell BK186.out 8).trans rfl, (blk_cell BK186.out 9).trans rfl, (blk_cell BK186.out 10).trans rfl, (blk_cell BK186.out 11).trans rfl, (blk_cell BK186.out 12).trans rfl, (blk_cell BK186.out 13).trans rfl, (blk_cell BK186.out 14).trans rfl⟩ (fun hHeld => ?_); refine with_tabW pacemakerref10_Dev.tab7 pacemakerref10_Dev.bits7 (fun HT_ HW_ => ?_)
          generalize w44.drew = w45 at BK186 BK190 BK193 HB hHeld ⊢
          refine pure_ (i := 5) (N := some 31) (v := ?_) (a' := ?_) #[false, false, false, false, false, true, false, false, false, false, false] rfl rfl (any_of HT_.out (by kernel_rfl)) (fun _ _ _ h => h) (Or.inl ⟨by rfl, ?_⟩) ?_ ?_
          rotate_left
          · intro w'
            go_simp
            with_reducible rfl
          rotate_left
          · simp only [Act.put, List.setIfInBounds_toArray, List.set_cons_zero, List.set_cons_succ, i64_w, i32_w]
            rfl
          refine take_ (i := 0) (N := some 26) (v := ?_) (a' := ?_) #[true, false, false, false, false, true, false, false, false, false, false] rfl rfl (take_ofW HT_.out HW_.out (by kernel_rfl)) (fun _ _ _ h => h) (Or.inl ⟨by rfl, ?_⟩) hHeld ?_ ?_
          rotate_left
          · rintro w' ⟨s0, s1, s2, s3, s4, s5, s6, s7, s8, s9, s10, s11, s12, s13, s14, s15, s16, s17, s18⟩
            go_simp
            with_reducible rfl
          rotate_left
          · simp only [Act.put, List.setIfInBounds_toArray, List.set_cons_zero, List.set_cons_succ, i64_w, i32_w]
            rfl
          refine take_ (i := 1) (N := some 27) (v := ?_) (a' := ?_) #[true, true, false, false, false, true, false, false, false, false, false] rfl rfl (take_ofW HT_.out HW_.out (by kernel_rfl)) (fun _ _ _ h => h) (Or.inl ⟨by rfl, ?_⟩) hHeld ?_ ?_
          rotate_left
          · rintro w' ⟨s0, s1, s2, s3, s4, s5, s6, s7, s8, s9, s10, s11, s12, s13, s14, s15, s16, s17, s18⟩
            go_simp
            with_reducible rfl
          rotate_left
          · simp only [Act.put, List.setIfInBounds_toArray, List.set_cons_zero, List.set_cons_succ, i64_w, i32_w]
            rfl
          refine take_ (i := 6) (N := some 32) (v := ?_) (a' := ?_) #[true, true, false, false, false, true, true, false, false, false, false] rfl rfl (take_ofW HT_.out HW_.out (by kernel_rfl)) (fun _ _ _ h => h) (Or.inl ⟨by rfl, ?_⟩) hHeld ?_ ?_
          rotate_left
          · rintro w' ⟨s0, s1, s2, s3, s4, s5, s6, s7, s8, s9, s10, s11, s12, s13, s14, s15, s16, s17, s18⟩
            go_simp
            with_reducible rfl
          rotate_left
          · simp only [Act.put, List.setIfInBounds_toArray, List.set_cons_zero, List.set_cons_succ, i64_w, i32_w]
            rfl
          refine pure_ (i := 7) (N := some 33) (v := ?_) (a' := ?_) #[true, true, false, false, false, true, true, true, false, false, false] rfl rfl (any_of HT_.out (by kernel_rfl)) (fun _ _ _ h => h) (Or.inl ⟨by rfl, ?_⟩) ?_ ?_
          rotate_left
          · intro w'
            go_simp
            with_reducible rfl
          rotate_left
          · simp only [Act.put, List.setIfInBounds_toArray, List.set_cons_zero, List.set_cons_succ, i64_w, i32_w]
            rfl
          refine pure_ (i := 8) (N := some 34) (v := ?_) (a' := ?_) #[true, true, false, false, false, true, true, true, true, false, false] rfl rfl (any_of HT_.out (by kernel_rfl)) (fun _ _ _ h => h) (Or.inl ⟨by rfl, ?_⟩) ?_ ?_
          rotate_left
          · intro w'
            go_simp
            with_reducible rfl
          rotate_left
          · simp only [Act.put, List.setIfInBounds_toArray, List.set_cons_zero, List.set_cons_succ, i64_w, i32_w]
            rfl
          refine one_ (i := 2) (N := some 28) #[true, true, true, false, false, true, true, true, true, false, false] rfl rfl (one_of HT_.out (by kernel_rfl)) (by decide) (fun K hK => ?_)
          refine goes_ Try.func26 (by kernel_rfl) rfl #[.agg #[.int .u64 t188, .int .u64 t189], .agg #[.int .u64 t191, .int .u64 t192]] (by rfl) rfl rfl (by (try simp only [List.map_toArray, List.map_cons, List.map_nil]); first | done | rfl | (simp only [List.length_drop, List.length_take]; rfl)) ?_
          with_reducible refine (pacemakerref10_minus.calls t188 t189 t191 t192 t195 t196 _ A29.out).mono ?_
          rintro e w46 ⟨rfl, hb⟩
          refine ⟨_, rfl, ?_⟩
          have n0_ := Aside0.mk (blk_below (g := gb186) (o := .cells #[.int .i64 D0, .int .i64 D1, .int .i64 D2, .int .i64 D3, .int .i64 D4, .int .i64 D5, .int .i64 D6, .int .i64 D7, .int .i64 D8, .int .i64 D9, .int .i64 D10, .int .i64 D11, .int .i64 D12, .int .i64 D13, .int .i64 D14] 29 (0, 0)) (by (with_reducible repeat (first | refine blk_drewN ?_ _ | refine blk_drew ?_ | refine blk_alloc ?_ _)); exact BK186.out) hb)
          have n1_ := Aside0.mk (blk_below (g := gb190) (o := .cells #[.int .u64 t188, .int .u64 t189] 24 (0, 0)) (by (with_reducible repeat (first | refine blk_drewN ?_ _ | refine blk_drew ?_ | refine blk_alloc ?_ _)); exact BK190.out) hb)
          have n2_ := Aside0.mk (blk_below (g := gb193) (o := .cells #[.int .u64 t191, .int .u64 t192] 24 (0, 0)) (by (with_reducible repeat (first | refine blk_drewN ?_ _ | refine blk_drew ?_ | refine blk_alloc ?_ _)); exact BK193.out) hb)
          have n3_ := Aside0.mk (below_step (by repeat (first | (with_reducible first | exact HB.out | apply below_alloc | apply pw_below_drewN | apply below_drew1 | refine below_set ?_ GE186.out | refine below_set ?_ GE190.out | refine below_set ?_ GE193.out) | exact HB.out)) hb)
          clear BK186
          clear BK190
          clear BK193
          clear HB
          have BK186 := n0_
          have BK190 := n1_
          have BK193 := n2_
          have HB := n3_
          clear n0_ n1_ n2_ n3_
          (try clear hb)
          (try clear hb2)
          (try clear hk)
          (try clear hi)
          refine hK.out _ _ ⟨(blk_cell BK190.out 0).trans rfl, (blk_cell BK190.out 1).trans rfl, (blk_cell BK193.out 0).trans rfl, (blk_cell BK193.out 1).trans rfl, (blk_cell BK186.out 0).trans rfl, (blk_cell BK186.out 1).trans rfl, (blk_cell BK186.out 2).trans rfl, (blk_cell BK186.out 3).trans rfl, (blk_cell BK186.out 4).trans rfl, (blk_cell BK186.out 5).trans rfl, (blk_cell BK186.out 6).trans rfl, (blk_cell BK186.out 7).trans rfl, (blk_cell BK186.out 8).trans rfl, (blk_cell BK186.out 9).trans rfl, (blk_cell BK186.out 10).trans rfl, (blk_cell BK186.out 11).trans rfl, (blk_cell BK186.out 12).trans rfl, (blk_cell BK186.out 13).trans rfl, (blk_cell BK186.out 14).trans rfl⟩ (fun hHeld => ?_)
          clear hK K
          refine norm_ (a' := ?_) ?_ ?_
          rotate_left
          · show Act.put _ (some 28) _ = _
            simp only [Act.put, List.setIfInBounds_toArray, List.set_cons_zero, List.set_cons_succ, i64_w, i32_w]
            rfl
          refine one_ (i := 3) (N := some 29) #[true, true, true, true, false, true, true, true, true, false, false] rfl rfl (one_of HT_.out (by kernel_rfl)) (by decide) (fun K hK => ?_)
          refine goes_ Try.func33 (by kernel_rfl) rfl #[.agg #[.int .u64 t195, .int .u64 t196]] (by rfl) rfl rfl (by (try simp only [List.map_toArray, List.map_cons, List.map_nil]); first | done | rfl | (simp only [List.length_drop, List.length_take]; rfl)) ?_
          with_reducible refine (pacemakerref03_SqrtWide.calls kj1 t195 t196 t197 _ A30.out).mono ?_
          rintro e w47 ⟨rfl, hb⟩
          refine ⟨_, rfl, ?_⟩
          have n0_ := Aside0.mk (blk_below (g := gb186) (o := .cells #[.int .i64 D0, .int .i64 D1, .int .i64 D2, .int .i64 D3, .int .i64 D4, .int .i64 D5, .int .i64 D6, .int .i64 D7, .int .i64 D8, .int .i64 D9, .int .i64 D10, .int .i64 D11, .int .i64 D12, .int .i64 D13, .int .i64 D14] 29 (0, 0)) (by (with_reducible repeat (first | refine blk_drewN ?_ _ | refine blk_drew ?_ | refine blk_alloc ?_ _)); exact BK186.out) hb)
          have n1_ := Aside0.mk (blk_below (g := gb190) (o := .cells #[.int .u64 t188, .int .u64 t189] 24 (0, 0)) (by (with_reducible repeat (first | refine blk_drewN ?_ _ | refine blk_drew ?_ | refine blk_alloc ?_ _)); exact BK190.out) hb)
          have n2_ := Aside0.mk (blk_below (g := gb193) (o := .cells #[.int .u64 t191, .int .u64 t192] 24 (0, 0)) (by (with_reducible repeat (first | refine blk_drewN ?_ _ | refine blk_drew ?_ | refine blk_alloc ?_ _)); exact BK193.out) hb)
          have n3_ := Aside0.mk (below_step (by repeat (first | (with_reducible first | exact HB.out | apply below_alloc | apply pw_below_drewN | apply below_drew1 | refine below_set ?_ GE186.out | refine below_set ?_ GE190.out | refine below_set ?_ GE193.out) | exact HB.out)) hb)
          clear BK186
          clear BK190
          clear BK193
          clear HB
          have BK186 := n0_
          have BK190 := n1_
          have BK193 := n2_
          have HB := n3_
          clear n0_ n1_ n2_ n3_
          (try clear hb)
          (try clear hb2)
          (try clear hk)
          (try clear hi)
          refine hK.out _ _ ⟨(blk_cell BK190.out 0).trans rfl, (blk_cell BK190.out 1).trans rfl, (blk_cell BK193.out 0).trans rfl, (blk_cell BK193.out 1).trans rfl, (blk_cell BK186.out 0).trans rfl, (blk_cell BK186.out 1).trans rfl, (blk_cell BK186.out 2).trans rfl, (blk_cell BK186.out 3).trans rfl, (blk_cell BK186.out 4).trans rfl, (blk_cell BK186.out 5).trans rfl, (blk_cell BK186.out 6).trans rfl, (blk_cell BK186.out 7).trans rfl, (blk_cell BK186.out 8).trans rfl, (blk_cell BK186.out 9).trans rfl, (blk_cell BK186.out 10).trans rfl, (blk_cell BK186.out 11).trans rfl, (blk_cell BK186.out 12).trans rfl, (blk_cell BK186.out 13).trans rfl, (blk_cell BK186.out 14).trans rfl⟩ (fun hHeld => ?_)
          clear hK K
          refine norm_ (a' := ?_) ?_ ?_
          rotate_left
          · show Act.put _ (some 29) _ = _
            simp only [Act.put, List.setIfInBounds_toArray, List.set_cons_zero, List.set_cons_succ, i64_w, i32_w]
            rfl
          refine pure_ (i := 4) (N := some 30) (v := ?_) (a' := ?_) #[true, true, true, true, true, true, true, true, true, false, false] rfl rfl (any_of HT_.out (by kernel_rfl)) (fun _ _ _ h => h) (Or.inl ⟨by rfl, ?_⟩) ?_ ?_
          rotate_left
          · intro w'
            go_simp
            with_reducible rfl
          rotate_left
          · simp only [Act.put, List.setIfInBounds_toArray, List.set_cons_zero, List.set_cons_succ, i64_w, i32_w]
            rfl
          refine one_ (i := 9) (N := some 35) #[true, true, true, true, true, true, true, true, true, true, false] rfl rfl (one_of HT_.out (by kernel_rfl)) (by decide) (fun K hK => ?_)
          refine goes_ Try.func11 (by kernel_rfl) rfl #[.agg #[.int .u64 0, .int .u64 t197], .agg #[.int .u64 0, .int .u64 (IntKind.u64.wrap (D9))]] (by rfl) rfl rfl (by (try simp only [List.map_toArray, List.map_cons, List.map_nil]); first | done | rfl | (simp only [List.length_drop, List.length_take]; rfl)) ?_
          with_reducible refine (pacemakerref10_Ratio.calls kj1 0 t197 0 (IntKind.u64.wrap (D9)) t198 _ A31.out).mono ?_
          rintro e w48 ⟨rfl, hb⟩
          refine ⟨_, rfl, ?_⟩
          have n0_ := Aside0.mk (blk_below (g := gb186) (o := .cells #[.int .i64 D0, .int .i64 D1, .int .i64 D2, .int .i64 D3, .int .i64 D4, .int .i64 D5, .int .i64 D6, .int .i64 D7, .int .i64 D8, .int .i64 D9, .int .i64 D10, .int .i64 D11, .int .i64 D12, .int .i64 D13, .int .i64 D14] 29 (0, 0)) (by (with_reducible repeat (first | refine blk_drewN ?_ _ | refine blk_drew ?_ | refine blk_alloc ?_ _)); exact BK186.out) hb)
          have n1_ := Aside0.mk (blk_below (g := gb190) (o := .cells #[.int .u64 t188, .int .u64 t189] 24 (0, 0)) (by (with_reducible repeat (first | refine blk_drewN ?_ _ | refine blk_drew ?_ | refine blk_alloc ?_ _)); exact BK190.out) hb)
          have n2_ := Aside0.mk (blk_below (g := gb193) (o := .cells #[.int .u64 t191, .int .u64 t192] 24 (0, 0)) (by (with_reducible repeat (first | refine blk_drewN ?_ _ | refine blk_drew ?_ | refine blk_alloc ?_ _)); exact BK193.out) hb)
          have n3_ := Aside0.mk (below_step (by repeat (first | (with_reducible first | exact HB.out | apply below_alloc | apply pw_below_drewN | apply below_drew1 | refine below_set ?_ GE186.out | refine below_set ?_ GE190.out | refine below_set ?_ GE193.out) | exact HB.out)) hb)
          clear BK186
          clear BK190
          clear BK193
          clear HB
          have BK186 := n0_
          have BK190 := n1_
          have BK193 := n2_
          have HB := n3_
          clear n0_ n1_ n2_ n3_
          (try clear hb)
          (try clear hb2)
          (try clear hk)
          (try clear hi)
          refine hK.out _ _ ⟨(blk_cell BK190.out 0).trans rfl, (blk_cell BK190.out 1).trans rfl, (blk_cell BK193.out 0).trans rfl, (blk_cell BK193.out 1).trans rfl, (blk_cell BK186.out 0).trans rfl, (blk_cell BK186.out 1).trans rfl, (blk_cell BK186.out 2).trans rfl, (blk_cell BK186.out 3).trans rfl, (blk_cell BK186.out 4).trans rfl, (blk_cell BK186.out 5).trans rfl, (blk_cell BK186.out 6).trans rfl, (blk_cell BK186.out 7).trans rfl, (blk_cell BK186.out 8).trans rfl, (blk_cell BK186.out 9).trans rfl, (blk_cell BK186.out 10).trans rfl, (blk_cell BK186.out 11).trans rfl, (blk_cell BK186.out 12).trans rfl, (blk_cell BK186.out 13).trans rfl, (blk_cell BK186.out 14).trans rfl⟩ (fun hHeld => ?_)
          clear hK K
          refine norm_ (a' := ?_) ?_ ?_
          rotate_left
          · show Act.put _ (some 35) _ = _
            simp only [Act.put, List.setIfInBounds_toArray, List.set_cons_zero, List.set_cons_succ, i64_w, i32_w]
            rfl
          refine pure_ (i := 10) (N := some 2) (v := ?_) (a' := ?_) #[true, true, true, true, true, true, true, true, true, true, true] rfl rfl (any_of HT_.out (by kernel_rfl)) (fun _ _ _ h => h) (Or.inl ⟨by rfl, ?_⟩) ?_ ?_
          rotate_left
          · intro w'
            go_simp
            with_reducible rfl
          rotate_left
          · simp only [Act.put, List.setIfInBounds_toArray, List.set_cons_zero, List.set_cons_succ, i64_w, i32_w]
            rfl
          refine done_ (done_of HT_.out (by kernel_rfl)) ?_
          try go_wp2
          go_ret
          exact ⟨by first | rfl | (simp [errW_none, errW_some] <;> rfl) | (simp [*, errW_none, errW_some] <;> rfl), by repeat (first | (with_reducible first | exact HB.out | apply below_alloc | apply pw_below_drewN | apply below_drew1 | refine below_set ?_ GE186.out | refine below_set ?_ GE190.out | refine below_set ?_ GE193.out) | exact HB.out)⟩

end Go.Proofs.Ytlokmliannklaaa.Print
end
