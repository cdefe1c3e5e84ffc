/- Printed by a program of this session: functions of the law and their walks. -/
import Derived.Test.YtlokmliannklaaaQP0
import Derived.Test.YtlokmliannklaaaQPrint6
section
namespace Go.Proofs.Ytlokmliannklaaa.Print
open Go.RowKit Go.Proofs.YtlokmliannklaaaW.PrintWords Go.Proofs.YtlokmliannklaaaW.PrintLast Go.Proofs.YtlokmliannklaaaW.PrintMore
attribute [local go_sem] max2_int min2_int max_two min_two max_three min_three max_four min_four   -- for this text's walks alone
set_option linter.unusedVariables false
set_option linter.unusedSimpArgs false

/-! ### pacemakerref09_Is: function 29 -/
mutual
def pacemakerref09_Is.j0 : Nat → Bool → Int → Int → Int → Int → Int → Int → Int → Int → Int → Int → Int → Int → Int → Int → Int → Option (Bool)
  | 0, _, _, _, _, _, _, _, _, _, _, _, _, _, _, _, _ => none
  | k + 1, x29, x171000, x171001, x171002, x171003, x171004, x171005, x171006, x171007, x171008, x171009, x171010, x171011, x171012, x171013, x171014 => if x29 = true then (some false) else (if x171006 < 0 then (pacemakerref09_Is.j1 k true x171000 x171001 x171002 x171003 x171004 x171005 x171006 x171007 x171008 x171009 x171010 x171011 x171012 x171013 x171014) else (if x171006 > 1048576 then (pacemakerref09_Is.j1 k true x171000 x171001 x171002 x171003 x171004 x171005 x171006 x171007 x171008 x171009 x171010 x171011 x171012 x171013 x171014) else (if x171007 < 0 then (pacemakerref09_Is.j1 k true x171000 x171001 x171002 x171003 x171004 x171005 x171006 x171007 x171008 x171009 x171010 x171011 x171012 x171013 x171014) else (if x171007 > x171006 then (pacemakerref09_Is.j1 k true x171000 x171001 x171002 x171003 x171004 x171005 x171006 x171007 x171008 x171009 x171010 x171011 x171012 x171013 x171014) else (if x171008 < 0 then (pacemakerref09_Is.j1 k true x171000 x171001 x171002 x171003 x171004 x171005 x171006 x171007 x171008 x171009 x171010 x171011 x171012 x171013 x171014) else (pacemakerref09_Is.j1 k (decide (x171008 > (wrap64 (x171006 - x171007)))) x171000 x171001 x171002 x171003 x171004 x171005 x171006 x171007 x171008 x171009 x171010 x171011 x171012 x171013 x171014))))))
def pacemakerref09_Is.j1 : Nat → Bool → Int → Int → Int → Int → Int → Int → Int → Int → Int → Int → Int → Int → Int → Int → Int → Option (Bool)
  | 0, _, _, _, _, _, _, _, _, _, _, _, _, _, _, _, _ => none
  | k + 1, x64, x171000, x171001, x171002, x171003, x171004, x171005, x171006, x171007, x171008, x171009, x171010, x171011, x171012, x171013, x171014 => if x64 = true then (some false) else ((pacemakerref09_sized.f x171003 x171006).bind fun t173 => (if t173 = true then ((pacemakerref09_sized.f x171004 x171007).bind fun t174 => (if t174 = true then ((pacemakerref09_sized.f x171005 x171008).bind fun t175 => (if t175 = true then (pacemakerref09_Is.j2 k (decide ((wrap64 (x171004 + x171005)) > x171003)) x171000 x171001 x171002 x171003 x171004 x171005 x171006 x171007 x171008 x171009 x171010 x171011 x171012 x171013 x171014) else (pacemakerref09_Is.j2 k true x171000 x171001 x171002 x171003 x171004 x171005 x171006 x171007 x171008 x171009 x171010 x171011 x171012 x171013 x171014))) else (pacemakerref09_Is.j2 k true x171000 x171001 x171002 x171003 x171004 x171005 x171006 x171007 x171008 x171009 x171010 x171011 x171012 x171013 x171014))) else (pacemakerref09_Is.j2 k true x171000 x171001 x171002 x171003 x171004 x171005 x171006 x171007 x171008 x171009 x171010 x171011 x171012 x171013 x171014)))
def pacemakerref09_Is.j2 : Nat → Bool → Int → Int → Int → Int → Int → Int → Int → Int → Int → Int → Int → Int → Int → Int → Int → Option (Bool)
  | 0, _, _, _, _, _, _, _, _, _, _, _, _, _, _, _, _ => none
  | k + 1, x96, x171000, x171001, x171002, x171003, x171004, x171005, x171006, x171007, x171008, x171009, x171010, x171011, x171012, x171013, x171014 => if x96 = true then (some false) else (if (((wrap64 (x171004 + x171005)) == x171003) != ((wrap64 (x171007 + x171008)) == x171006)) = true then (some false) else (if x171009 ≥ 0 then (if x171009 ≤ 1024 then (if x171009 ≤ x171007 then ((pacemakerref09_sums.f x171000 x171001 x171002 x171003 x171004 x171005 x171006 x171007 x171008 x171009 x171010 x171011 x171012 x171013 x171014).bind fun t176 => (some t176)) else (some false)) else (some false)) else (some false)))
end
def pacemakerref09_Is.f (k : Nat) (D0 : Int) (D1 : Int) (D2 : Int) (D3 : Int) (D4 : Int) (D5 : Int) (D6 : Int) (D7 : Int) (D8 : Int) (D9 : Int) (D10 : Int) (D11 : Int) (D12 : Int) (D13 : Int) (D14 : Int) : Option (Bool) := if D0 < 0 then (pacemakerref09_Is.j0 k true D0 D1 D2 D3 D4 D5 D6 D7 D8 D9 D10 D11 D12 D13 D14) else ((pacemakerref09_Time.f D1).bind fun t171 => (if t171 = true then (if D2 = (-1) then (pacemakerref09_Is.j0 k false D0 D1 D2 D3 D4 D5 D6 D7 D8 D9 D10 D11 D12 D13 D14) else ((pacemakerref09_Time.f D2).bind fun t172 => (if t172 = true then (pacemakerref09_Is.j0 k (decide (D2 < D1)) D0 D1 D2 D3 D4 D5 D6 D7 D8 D9 D10 D11 D12 D13 D14) else (pacemakerref09_Is.j0 k true D0 D1 D2 D3 D4 D5 D6 D7 D8 D9 D10 D11 D12 D13 D14)))) else (pacemakerref09_Is.j0 k true D0 D1 D2 D3 D4 D5 D6 D7 D8 D9 D10 D11 D12 D13 D14)))
set_option maxHeartbeats 8000000 in
set_option maxRecDepth 100000 in
theorem pacemakerref09_Is.calls (k : Nat) (D0 : Int) (D1 : Int) (D2 : Int) (D3 : Int) (D4 : Int) (D5 : Int) (D6 : Int) (D7 : Int) (D8 : Int) (D9 : Int) (D10 : Int) (D11 : Int) (D12 : Int) (D13 : Int) (D14 : Int) (r : Bool) (w : World) (h : pacemakerref09_Is.f k D0 D1 D2 D3 D4 D5 D6 D7 D8 D9 D10 D11 D12 D13 D14 = some r) :
    Calls Try.prog 29 #[.agg #[.int .i64 D0, .int .i64 D1, .int .i64 D2, .int .i64 D3, .int .i64 D4, .int .i64 D5, .int .i64 D6, .int .i64 D7, .int .i64 D8, .int .i64 D9, .int .i64 D10, .int .i64 D11, .int .i64 D12, .int .i64 D13, .int .i64 D14]] w fun e w' => e = .returned (.bool r) ∧ Below w.heap.size w w' := by
  have hu29 := Try.underlying29
  have HB := Aside0.mk (Below.refl w.heap.size w)
  have H : (if D0 < 0 then (pacemakerref09_Is.j0 k true D0 D1 D2 D3 D4 D5 D6 D7 D8 D9 D10 D11 D12 D13 D14) else ((pacemakerref09_Time.f D1).bind fun t171 => (if t171 = true then (if D2 = (-1) then (pacemakerref09_Is.j0 k false D0 D1 D2 D3 D4 D5 D6 D7 D8 D9 D10 D11 D12 D13 D14) else ((pacemakerref09_Time.f D2).bind fun t172 => (if t172 = true then (pacemakerref09_Is.j0 k (decide (D2 < D1)) D0 D1 D2 D3 D4 D5 D6 D7 D8 D9 D10 D11 D12 D13 D14) else (pacemakerref09_Is.j0 k true D0 D1 D2 D3 D4 D5 D6 D7 D8 D9 D10 D11 D12 D13 D14)))) else (pacemakerref09_Is.j0 k true D0 D1 D2 D3 D4 D5 D6 D7 D8 D9 D10 D11 D12 D13 D14)))) = some r := h
  clear h
  have HC2 := Aside0.mk H
  clear H
  go_enter Try.func29, Try.ntmps29
  go_upto_region 1 with (first | ((with_reducible refine gate_dst (N := 1) rfl ?_); refine box_event ?hg (N := 1) ?hd (cs := #[.int .i64 D0, .int .i64 D1, .int .i64 D2, .int .i64 D3, .int .i64 D4, .int .i64 D5, .int .i64 D6, .int .i64 D7, .int .i64 D8, .int .i64 D9, .int .i64 D10, .int .i64 D11, .int .i64 D12, .int .i64 D13, .int .i64 D14]) (t := 29) ?hr ?_; (case hd => rfl); (case hg => rfl); (case hr => first | (go_simp; done) | (go_simp; rfl)); intro gb170 hg w3 hbox hb; have n0_ := Aside0.mk (below_step (by repeat (first | (with_reducible first | exact HB.out | apply below_alloc | apply pw_below_drewN | apply below_drew1) | exact HB.out)) hb); have n1_ := Aside0.mk (hbox); have n2_ := Aside0.mk ((by rw [hg]; exact (below_size (by repeat (first | (with_reducible first | exact HB.out | apply below_alloc | apply pw_below_drewN | apply below_drew1) | exact HB.out))) : w.heap.size ≤ gb170)); have n3_ := Aside0.mk ((by rw [hg]; exact (below_size (by repeat (first | (with_reducible first | exact HB.out | apply below_alloc | apply pw_below_drewN | apply below_drew1) | exact HB.out))) : w.heap.size ≤ gb170)); clear HB; have HB := n0_; have BK170 := n1_; have GW170 := n2_; have GE170 := n3_; clear n0_ n1_ n2_ n3_; clear hb hbox hg))
  (try simp only [Act.put, List.setIfInBounds_toArray, List.set_cons_zero, List.set_cons_succ])
  go_cut [29] (fun v29 wc => ∃ (kq : Nat) (x29_1 : Bool), v29 = .bool x29_1 ∧ Aside0 (pacemakerref09_Is.j0 kq x29_1 D0 D1 D2 D3 D4 D5 D6 D7 D8 D9 D10 D11 D12 D13 D14 = some r) ∧ Aside0 (kq ≤ k) ∧ Aside0 (wc.heap[gb170]? = some (.cells #[.int .i64 D0, .int .i64 D1, .int .i64 D2, .int .i64 D3, .int .i64 D4, .int .i64 D5, .int .i64 D6, .int .i64 D7, .int .i64 D8, .int .i64 D9, .int .i64 D10, .int .i64 D11, .int .i64 D12, .int .i64 D13, .int .i64 D14] 29 (0, 0))) ∧ Aside0 (Below w.heap.size w wc))
  case first =>
    have H := HC2.out
    clear HC2
    by_cases c4 : D0 < 0
    · rw [if_pos c4] at H
      have c4b0 : decide (D0 < 0) = true := decide_eq_true c4
      clear c4
      (first | rw [c4b0] | (simp only [i64_w, i32_w]; rw [c4b0]) | skip)
      have H' := Aside0.mk H
      clear H
      have hcz5_0 : w3.cell? ⟨gb170, 0, none⟩ = some (.int .i64 D0) := (blk_cell BK170.out 0).trans rfl
      have hcz5_1 : w3.cell? ⟨gb170, 1, none⟩ = some (.int .i64 D1) := (blk_cell BK170.out 1).trans rfl
      have hcz5_2 : w3.cell? ⟨gb170, 2, none⟩ = some (.int .i64 D2) := (blk_cell BK170.out 2).trans rfl
      have hcz5_3 : w3.cell? ⟨gb170, 3, none⟩ = some (.int .i64 D3) := (blk_cell BK170.out 3).trans rfl
      have hcz5_4 : w3.cell? ⟨gb170, 4, none⟩ = some (.int .i64 D4) := (blk_cell BK170.out 4).trans rfl
      have hcz5_5 : w3.cell? ⟨gb170, 5, none⟩ = some (.int .i64 D5) := (blk_cell BK170.out 5).trans rfl
      have hcz5_6 : w3.cell? ⟨gb170, 6, none⟩ = some (.int .i64 D6) := (blk_cell BK170.out 6).trans rfl
      have hcz5_7 : w3.cell? ⟨gb170, 7, none⟩ = some (.int .i64 D7) := (blk_cell BK170.out 7).trans rfl
      have hcz5_8 : w3.cell? ⟨gb170, 8, none⟩ = some (.int .i64 D8) := (blk_cell BK170.out 8).trans rfl
      have hcz5_9 : w3.cell? ⟨gb170, 9, none⟩ = some (.int .i64 D9) := (blk_cell BK170.out 9).trans rfl
      have hcz5_10 : w3.cell? ⟨gb170, 10, none⟩ = some (.int .i64 D10) := (blk_cell BK170.out 10).trans rfl
      have hcz5_11 : w3.cell? ⟨gb170, 11, none⟩ = some (.int .i64 D11) := (blk_cell BK170.out 11).trans rfl
      have hcz5_12 : w3.cell? ⟨gb170, 12, none⟩ = some (.int .i64 D12) := (blk_cell BK170.out 12).trans rfl
      have hcz5_13 : w3.cell? ⟨gb170, 13, none⟩ = some (.int .i64 D13) := (blk_cell BK170.out 13).trans rfl
      have hcz5_14 : w3.cell? ⟨gb170, 14, none⟩ = some (.int .i64 D14) := (blk_cell BK170.out 14).trans rfl
      have hfz5_0 := blk_frozen BK170.out 0
      have hfz5_1 := blk_frozen BK170.out 1
      have hfz5_2 := blk_frozen BK170.out 2
      have hfz5_3 := blk_frozen BK170.out 3
      have hfz5_4 := blk_frozen BK170.out 4
      have hfz5_5 := blk_frozen BK170.out 5
      have hfz5_6 := blk_frozen BK170.out 6
      have hfz5_7 := blk_frozen BK170.out 7
      have hfz5_8 := blk_frozen BK170.out 8
      have hfz5_9 := blk_frozen BK170.out 9
      have hfz5_10 := blk_frozen BK170.out 10
      have hfz5_11 := blk_frozen BK170.out 11
      have hfz5_12 := blk_frozen BK170.out 12
      have hfz5_13 := blk_frozen BK170.out 13
      have hfz5_14 := blk_frozen BK170.out 14
      go_wp2
      go_meet
      case rel => exact ⟨_, (true), (by first | rfl | (simp; done) | (simp [*]; done)), H', ⟨by first | omega | exact Nat.le_refl _⟩, ⟨by (with_reducible repeat (first | refine blk_drewN ?_ _ | refine blk_drew ?_ | refine blk_alloc ?_ _)); exact BK170.out⟩, ⟨by repeat (first | (with_reducible first | exact HB.out | apply below_alloc | apply pw_below_drewN | apply below_drew1 | refine below_set ?_ GE170.out) | exact HB.out)⟩⟩
    · rw [if_neg c4] at H
      have c4b0 : decide (D0 < 0) = false := decide_eq_false c4
      clear c4
      (first | rw [c4b0] | (simp only [i64_w, i32_w]; rw [c4b0]) | skip)
      replace H := Option.bind_eq_some_iff.mp H
      obtain ⟨t171, A60, H⟩ := H
      try dsimp only at H
      have A6 := Aside0.mk A60
      clear A60
      by_cases c7 : t171 = true
      · subst c7
        rw [if_pos rfl] at H
        by_cases c8 : D2 = (-1)
        · rw [if_pos c8] at H
          have c8b0 : (D2 == (-1)) = true := beq_iff_eq.mpr c8
          have c8b1 : (D2 != (-1)) = false := bne_eq_false_iff_eq.mpr c8
          clear c8
          have H' := Aside0.mk H
          clear H
          have hcz9_0 : w3.cell? ⟨gb170, 0, none⟩ = some (.int .i64 D0) := (blk_cell BK170.out 0).trans rfl
          have hcz9_1 : w3.cell? ⟨gb170, 1, none⟩ = some (.int .i64 D1) := (blk_cell BK170.out 1).trans rfl
          have hcz9_2 : w3.cell? ⟨gb170, 2, none⟩ = some (.int .i64 D2) := (blk_cell BK170.out 2).trans rfl
          have hcz9_3 : w3.cell? ⟨gb170, 3, none⟩ = some (.int .i64 D3) := (blk_cell BK170.out 3).trans rfl
          have hcz9_4 : w3.cell? ⟨gb170, 4, none⟩ = some (.int .i64 D4) := (blk_cell BK170.out 4).trans rfl
          have hcz9_5 : w3.cell? ⟨gb170, 5, none⟩ = some (.int .i64 D5) := (blk_cell BK170.out 5).trans rfl
          have hcz9_6 : w3.cell? ⟨gb170, 6, none⟩ = some (.int .i64 D6) := (blk_cell BK170.out 6).trans rfl
          have hcz9_7 : w3.cell? ⟨gb170, 7, none⟩ = some (.int .i64 D7) := (blk_cell BK170.out 7).trans rfl
          have hcz9_8 : w3.cell? ⟨gb170, 8, none⟩ = some (.int .i64 D8) := (blk_cell BK170.out 8).trans rfl
          have hcz9_9 : w3.cell? ⟨gb170, 9, none⟩ = some (.int .i64 D9) := (blk_cell BK170.out 9).trans rfl
          have hcz9_10 : w3.cell? ⟨gb170, 10, none⟩ = some (.int .i64 D10) := (blk_cell BK170.out 10).trans rfl
          have hcz9_11 : w3.cell? ⟨gb170, 11, none⟩ = some (.int .i64 D11) := (blk_cell BK170.out 11).trans rfl
          have hcz9_12 : w3.cell? ⟨gb170, 12, none⟩ = some (.int .i64 D12) := (blk_cell BK170.out 12).trans rfl
          have hcz9_13 : w3.cell? ⟨gb170, 13, none⟩ = some (.int .i64 D13) := (blk_cell BK170.out 13).trans rfl
          have hcz9_14 : w3.cell? ⟨gb170, 14, none⟩ = some (.int .i64 D14) := (blk_cell BK170.out 14).trans rfl
          have hfz9_0 := blk_frozen BK170.out 0
          have hfz9_1 := blk_frozen BK170.out 1
          have hfz9_2 := blk_frozen BK170.out 2
          have hfz9_3 := blk_frozen BK170.out 3
          have hfz9_4 := blk_frozen BK170.out 4
          have hfz9_5 := blk_frozen BK170.out 5
          have hfz9_6 := blk_frozen BK170.out 6
          have hfz9_7 := blk_frozen BK170.out 7
          have hfz9_8 := blk_frozen BK170.out 8
          have hfz9_9 := blk_frozen BK170.out 9
          have hfz9_10 := blk_frozen BK170.out 10
          have hfz9_11 := blk_frozen BK170.out 11
          have hfz9_12 := blk_frozen BK170.out 12
          have hfz9_13 := blk_frozen BK170.out 13
          have hfz9_14 := blk_frozen BK170.out 14
          go_wp2_with (first | (go_at_call 41; (with_reducible refine (pacemakerref09_Time.calls D1 true _ A6.out).mono ?_); rintro e w' ⟨rfl, ⟨nd, rfl⟩⟩))
          go_meet
          case rel => exact ⟨_, (false), (by first | rfl | (simp; done) | (simp [*]; done)), H', ⟨by first | omega | exact Nat.le_refl _⟩, ⟨by (with_reducible repeat (first | refine blk_drewN ?_ _ | refine blk_drew ?_ | refine blk_alloc ?_ _)); exact BK170.out⟩, ⟨by repeat (first | (with_reducible first | exact HB.out | apply below_alloc | apply pw_below_drewN | apply below_drew1 | refine below_set ?_ GE170.out) | exact HB.out)⟩⟩
        · rw [if_neg c8] at H
          have c8b0 : (D2 == (-1)) = false := beq_eq_false_iff_ne.mpr c8
          have c8b1 : (D2 != (-1)) = true := bne_iff_ne.mpr c8
          replace H := Option.bind_eq_some_iff.mp H
          obtain ⟨t172, A100, H⟩ := H
          try dsimp only at H
          have A10 := Aside0.mk A100
          clear A100
          by_cases c11 : t172 = true
          · subst c11
            rw [if_pos rfl] at H
            have H' := Aside0.mk H
            clear H
            have hcz12_0 : w3.cell? ⟨gb170, 0, none⟩ = some (.int .i64 D0) := (blk_cell BK170.out 0).trans rfl
            have hcz12_1 : w3.cell? ⟨gb170, 1, none⟩ = some (.int .i64 D1) := (blk_cell BK170.out 1).trans rfl
            have hcz12_2 : w3.cell? ⟨gb170, 2, none⟩ = some (.int .i64 D2) := (blk_cell BK170.out 2).trans rfl
            have hcz12_3 : w3.cell? ⟨gb170, 3, none⟩ = some (.int .i64 D3) := (blk_cell BK170.out 3).trans rfl
            have hcz12_4 : w3.cell? ⟨gb170, 4, none⟩ = some (.int .i64 D4) := (blk_cell BK170.out 4).trans rfl
            have hcz12_5 : w3.cell? ⟨gb170, 5, none⟩ = some (.int .i64 D5) := (blk_cell BK170.out 5).trans rfl
            have hcz12_6 : w3.cell? ⟨gb170, 6, none⟩ = some (.int .i64 D6) := (blk_cell BK170.out 6).trans rfl
            have hcz12_7 : w3.cell? ⟨gb170, 7, none⟩ = some (.int .i64 D7) := (blk_cell BK170.out 7).trans rfl
            have hcz12_8 : w3.cell? ⟨gb170, 8, none⟩ = some (.int .i64 D8) := (blk_cell BK170.out 8).trans rfl
            have hcz12_9 : w3.cell? ⟨gb170, 9, none⟩ = some (.int .i64 D9) := (blk_cell BK170.out 9).trans rfl
            have hcz12_10 : w3.cell? ⟨gb170, 10, none⟩ = some (.int .i64 D10) := (blk_cell BK170.out 10).trans rfl
            have hcz12_11 : w3.cell? ⟨gb170, 11, none⟩ = some (.int .i64 D11) := (blk_cell BK170.out 11).trans rfl
            have hcz12_12 : w3.cell? ⟨gb170, 12, none⟩ = some (.int .i64 D12) := (blk_cell BK170.out 12).trans rfl
            have hcz12_13 : w3.cell? ⟨gb170, 13, none⟩ = some (.int .i64 D13) := (blk_cell BK170.out 13).trans rfl
            have hcz12_14 : w3.cell? ⟨gb170, 14, none⟩ = some (.int .i64 D14) := (blk_cell BK170.out 14).trans rfl
            have hfz12_0 := blk_frozen BK170.out 0
            have hfz12_1 := blk_frozen BK170.out 1
            have hfz12_2 := blk_frozen BK170.out 2
            have hfz12_3 := blk_frozen BK170.out 3
            have hfz12_4 := blk_frozen BK170.out 4
            have hfz12_5 := blk_frozen BK170.out 5
            have hfz12_6 := blk_frozen BK170.out 6
            have hfz12_7 := blk_frozen BK170.out 7
            have hfz12_8 := blk_frozen BK170.out 8
            have hfz12_9 := blk_frozen BK170.out 9
            have hfz12_10 := blk_frozen BK170.out 10
            have hfz12_11 := blk_frozen BK170.out 11
            have hfz12_12 := blk_frozen BK170.out 12
            have hfz12_13 := blk_frozen BK170.out 13
            have hfz12_14 := blk_frozen BK170.out 14
            go_wp2_with (first | (go_at_call 41; (with_reducible refine (pacemakerref09_Time.calls D1 true _ A6.out).mono ?_); rintro e w' ⟨rfl, ⟨nd, rfl⟩⟩) | (go_at_call 41; (with_reducible refine (pacemakerref09_Time.calls D2 true _ A10.out).mono ?_); rintro e w' ⟨rfl, ⟨nd, rfl⟩⟩))
            go_meet
            case rel => exact ⟨_, (decide (D2 < D1)), (by first | rfl | (simp; done) | (simp [*]; done)), H', ⟨by first | omega | exact Nat.le_refl _⟩, ⟨by (with_reducible repeat (first | refine blk_drewN ?_ _ | refine blk_drew ?_ | refine blk_alloc ?_ _)); exact BK170.out⟩, ⟨by repeat (first | (with_reducible first | exact HB.out | apply below_alloc | apply pw_below_drewN | apply below_drew1 | refine below_set ?_ GE170.out) | exact HB.out)⟩⟩
          · replace c11 := Bool.eq_false_iff.mpr c11
            subst c11
            rw [if_neg (show ¬ (false = true) by decide)] at H
            have H' := Aside0.mk H
            clear H
            have hcz13_0 : w3.cell? ⟨gb170, 0, none⟩ = some (.int .i64 D0) := (blk_cell BK170.out 0).trans rfl
            have hcz13_1 : w3.cell? ⟨gb170, 1, none⟩ = some (.int .i64 D1) := (blk_cell BK170.out 1).trans rfl
            have hcz13_2 : w3.cell? ⟨gb170, 2, none⟩ = some (.int .i64 D2) := (blk_cell BK170.out 2).trans rfl
            have hcz13_3 : w3.cell? ⟨gb170, 3, none⟩ = some (.int .i64 D3) := (blk_cell BK170.out 3).trans rfl
            have hcz13_4 : w3.cell? ⟨gb170, 4, none⟩ = some (.int .i64 D4) := (blk_cell BK170.out 4).trans rfl
            have hcz13_5 : w3.cell? ⟨gb170, 5, none⟩ = some (.int .i64 D5) := (blk_cell BK170.out 5).trans rfl
            have hcz13_6 : w3.cell? ⟨gb170, 6, none⟩ = some (.int .i64 D6) := (blk_cell BK170.out 6).trans rfl
            have hcz13_7 : w3.cell? ⟨gb170, 7, none⟩ = some (.int .i64 D7) := (blk_cell BK170.out 7).trans rfl
            have hcz13_8 : w3.cell? ⟨gb170, 8, none⟩ = some (.int .i64 D8) := (blk_cell BK170.out 8).trans rfl
            have hcz13_9 : w3.cell? ⟨gb170, 9, none⟩ = some (.int .i64 D9) := (blk_cell BK170.out 9).trans rfl
            have hcz13_10 : w3.cell? ⟨gb170, 10, none⟩ = some (.int .i64 D10) := (blk_cell BK170.out 10).trans rfl
            have hcz13_11 : w3.cell? ⟨gb170, 11, none⟩ = some (.int .i64 D11) := (blk_cell BK170.out 11).trans rfl
            have hcz13_12 : w3.cell? ⟨gb170, 12, none⟩ = some (.int .i64 D12) := (blk_cell BK170.out 12).trans rfl
            have hcz13_13 : w3.cell? ⟨gb170, 13, none⟩ = some (.int .i64 D13) := (blk_cell BK170.out 13).trans rfl
            have hcz13_14 : w3.cell? ⟨gb170, 14, none⟩ = some (.int .i64 D14) := (blk_cell BK170.out 14).trans rfl
            have hfz13_0 := blk_frozen BK170.out 0
            have hfz13_1 := blk_frozen BK170.out 1
            have hfz13_2 := blk_frozen BK170.out 2
            have hfz13_3 := blk_frozen BK170.out 3
            have hfz13_4 := blk_frozen BK170.out 4
            have hfz13_5 := blk_frozen BK170.out 5
            have hfz13_6 := blk_frozen BK170.out 6
            have hfz13_7 := blk_frozen BK170.out 7
            have hfz13_8 := blk_frozen BK170.out 8
            have hfz13_9 := blk_frozen BK170.out 9
            have hfz13_10 := blk_frozen BK170.out 10
            have hfz13_11 := blk_frozen BK170.out 11
            have hfz13_12 := blk_frozen BK170.out 12
            have hfz13_13 := blk_frozen BK170.out 13
            have hfz13_14 := blk_frozen BK170.out 14
            go_wp2_with (first | (go_at_call 41; (with_reducible refine (pacemakerref09_Time.calls D1 true _ A6.out).mono ?_); rintro e w' ⟨rfl, ⟨nd, rfl⟩⟩) | (go_at_call 41; (with_reducible refine (pacemakerref09_Time.calls D2 false _ A10.out).mono ?_); rintro e w' ⟨rfl, ⟨nd, rfl⟩⟩))
            go_meet
            case rel => exact ⟨_, (true), (by first | rfl | (simp; done) | (simp [*]; done)), H', ⟨by first | omega | exact Nat.le_refl _⟩, ⟨by (with_reducible repeat (first | refine blk_drewN ?_ _ | refine blk_drew ?_ | refine blk_alloc ?_ _)); exact BK170.out⟩, ⟨by repeat (first | (with_reducible first | exact HB.out | apply below_alloc | apply pw_below_drewN | apply below_drew1 | refine below_set ?_ GE170.out) | exact HB.out)⟩⟩
      · replace c7 := Bool.eq_false_iff.mpr c7
        subst c7
        rw [if_neg (show ¬ (false = true) by decide)] at H
        have H' := Aside0.mk H
        clear H
        have hcz14_0 : w3.cell? ⟨gb170, 0, none⟩ = some (.int .i64 D0) := (blk_cell BK170.out 0).trans rfl
        have hcz14_1 : w3.cell? ⟨gb170, 1, none⟩ = some (.int .i64 D1) := (blk_cell BK170.out 1).trans rfl
        have hcz14_2 : w3.cell? ⟨gb170, 2, none⟩ = some (.int .i64 D2) := (blk_cell BK170.out 2).trans rfl
        have hcz14_3 : w3.cell? ⟨gb170, 3, none⟩ = some (.int .i64 D3) := (blk_cell BK170.out 3).trans rfl
        have hcz14_4 : w3.cell? ⟨gb170, 4, none⟩ = some (.int .i64 D4) := (blk_cell BK170.out 4).trans rfl
        have hcz14_5 : w3.cell? ⟨gb170, 5, none⟩ = some (.int .i64 D5) := (blk_cell BK170.out 5).trans rfl
        have hcz14_6 : w3.cell? ⟨gb170, 6, none⟩ = some (.int .i64 D6) := (blk_cell BK170.out 6).trans rfl
        have hcz14_7 : w3.cell? ⟨gb170, 7, none⟩ = some (.int .i64 D7) := (blk_cell BK170.out 7).trans rfl
        have hcz14_8 : w3.cell? ⟨gb170, 8, none⟩ = some (.int .i64 D8) := (blk_cell BK170.out 8).trans rfl
        have hcz14_9 : w3.cell? ⟨gb170, 9, none⟩ = some (.int .i64 D9) := (blk_cell BK170.out 9).trans rfl
        have hcz14_10 : w3.cell? ⟨gb170, 10, none⟩ = some (.int .i64 D10) := (blk_cell BK170.out 10).trans rfl
        have hcz14_11 : w3.cell? ⟨gb170, 11, none⟩ = some (.int .i64 D11) := (blk_cell BK170.out 11).trans rfl
        have hcz14_12 : w3.cell? ⟨gb170, 12, none⟩ = some (.int .i64 D12) := (blk_cell BK170.out 12).trans rfl
        have hcz14_13 : w3.cell? ⟨gb170, 13, none⟩ = some (.int .i64 D13) := (blk_cell BK170.out 13).trans rfl
        have hcz14_14 : w3.cell? ⟨gb170, 14, none⟩ = some (.int .i64 D14) := (blk_cell BK170.out 14).trans rfl
        have hfz14_0 := blk_frozen BK170.out 0
        have hfz14_1 := blk_frozen BK170.out 1
        have hfz14_2 := blk_frozen BK170.out 2
        have hfz14_3 := blk_frozen BK170.out 3
        have hfz14_4 := blk_frozen BK170.out 4
        have hfz14_5 := blk_frozen BK170.out 5
        have hfz14_6 := blk_frozen BK170.out 6
        have hfz14_7 := blk_frozen BK170.out 7
        have hfz14_8 := blk_frozen BK170.out 8
        have hfz14_9 := blk_frozen BK170.out 9
        have hfz14_10 := blk_frozen BK170.out 10
        have hfz14_11 := blk_frozen BK170.out 11
        have hfz14_12 := blk_frozen BK170.out 12
        have hfz14_13 := blk_frozen BK170.out 13
        have hfz14_14 := blk_frozen BK170.out 14
        go_wp2_with (first | (go_at_call 41; (with_reducible refine (pacemakerref09_Time.calls D1 false _ A6.out).mono ?_); rintro e w' ⟨rfl, ⟨nd, rfl⟩⟩))
        go_meet
        case rel => exact ⟨_, (true), (by first | rfl | (simp; done) | (simp [*]; done)), H', ⟨by first | omega | exact Nat.le_refl _⟩, ⟨by (with_reducible repeat (first | refine blk_drewN ?_ _ | refine blk_drew ?_ | refine blk_alloc ?_ _)); exact BK170.out⟩, ⟨by repeat (first | (with_reducible first | exact HB.out | apply below_alloc | apply pw_below_drewN | apply below_drew1 | refine below_set ?_ GE170.out) | exact HB.out)⟩⟩
  case rest =>
    clear HC2
    repeat first | clear c1 | clear c2 | clear p2 | clear c4 | clear c4b0 | clear c7 | clear c8 | clear c8b0 | clear c8b1 | clear c11 | clear hcz12_0 | clear hcz12_1 | clear hcz12_10 | clear hcz12_11 | clear hcz12_12 | clear hcz12_13 | clear hcz12_14 | clear hcz12_2 | clear hcz12_3 | clear hcz12_4 | clear hcz12_5 | clear hcz12_6 | clear hcz12_7 | clear hcz12_8 | clear hcz12_9 | clear hcz13_0 | clear hcz13_1 | clear hcz13_10 | clear hcz13_11 | clear hcz13_12 | clear hcz13_13 | clear hcz13_14 | clear hcz13_2 | clear hcz13_3 | clear hcz13_4 | clear hcz13_5 | clear hcz13_6 | clear hcz13_7 | clear hcz13_8 | clear hcz13_9 | clear hcz14_0 | clear hcz14_1 | clear hcz14_10 | clear hcz14_11 | clear hcz14_12 | clear hcz14_13 | clear hcz14_14 | clear hcz14_2 | clear hcz14_3 | clear hcz14_4 | clear hcz14_5 | clear hcz14_6 | clear hcz14_7 | clear hcz14_8 | clear hcz14_9 | clear hcz5_0 | clear hcz5_1 | clear hcz5_10 | clear hcz5_11 | clear hcz5_12 | clear hcz5_13 | clear hcz5_14 | clear hcz5_2 | clear hcz5_3 | clear hcz5_4 | clear hcz5_5 | clear hcz5_6 | clear hcz5_7 | clear hcz5_8 | clear hcz5_9 | clear hcz9_0 | clear hcz9_1 | clear hcz9_10 | clear hcz9_11 | clear hcz9_12 | clear hcz9_13 | clear hcz9_14 | clear hcz9_2 | clear hcz9_3 | clear hcz9_4 | clear hcz9_5 | clear hcz9_6 | clear hcz9_7 | clear hcz9_8 | clear hcz9_9 | clear hfz12_0 | clear hfz12_1 | clear hfz12_10 | clear hfz12_11 | clear hfz12_12 | clear hfz12_13 | clear hfz12_14 | clear hfz12_2 | clear hfz12_3 | clear hfz12_4 | clear hfz12_5 | clear hfz12_6 | clear hfz12_7 | clear hfz12_8 | clear hfz12_9 | clear hfz13_0 | clear hfz13_1 | clear hfz13_10 | clear hfz13_11 | clear hfz13_12 | clear hfz13_13 | clear hfz13_14 | clear hfz13_2 | clear hfz13_3 | clear hfz13_4 | clear hfz13_5 | clear hfz13_6 | clear hfz13_7 | clear hfz13_8 | clear hfz13_9 | clear hfz14_0 | clear hfz14_1 | clear hfz14_10 | clear hfz14_11 | clear hfz14_12 | clear hfz14_13 | clear hfz14_14 | clear hfz14_2 | clear hfz14_3 | clear hfz14_4 | clear hfz14_5 | clear hfz14_6 | clear hfz14_7 | clear hfz14_8 | clear hfz14_9 | clear hfz5_0 | clear hfz5_1 | clear hfz5_10 | clear hfz5_11 | clear hfz5_12 | clear hfz5_13 | clear hfz5_14 | clear hfz5_2 | clear hfz5_3 | clear hfz5_4 | clear hfz5_5 | clear hfz5_6 | clear hfz5_7 | clear hfz5_8 | clear hfz5_9 | clear hfz9_0 | clear hfz9_1 | clear hfz9_10 | clear hfz9_11 | clear hfz9_12 | clear hfz9_13 | clear hfz9_14 | clear hfz9_2 | clear hfz9_3 | clear hfz9_4 | clear hfz9_5 | clear hfz9_6 | clear hfz9_7 | clear hfz9_8 | clear hfz9_9
    obtain ⟨kq, x29_1, rfl, HA, HJ1, BK170, HB⟩ := hcut
    cases kq with
    | zero => exact absurd HA.out (by simp [pacemakerref09_Is.j0])
    | succ kj1 =>
      have H := HA.out
      clear HA
      simp only [pacemakerref09_Is.j0] at H
      by_cases c15 : x29_1 = true
      · subst c15
        rw [if_pos rfl] at H
        obtain rfl := Option.some.inj H
        go_wp2
        go_ret
        exact ⟨by first | rfl | (simp [errW_none, errW_some] <;> rfl) | (simp [*, errW_none, errW_some] <;> rfl), by repeat (first | (with_reducible first | exact HB.out | apply below_alloc | apply pw_below_drewN | apply below_drew1 | refine below_set ?_ GE170.out) | exact HB.out)⟩
      · replace c15 := Bool.eq_false_iff.mpr c15
        subst c15
        rw [if_neg (show ¬ (false = true) by decide)] at H
        have HC16 := Aside0.mk H
        clear H
        go_upto_region 3 with (fail)
        go_cut [64] (fun v64 wc => ∃ (kq : Nat) (x64_15 : Bool), v64 = .bool x64_15 ∧ Aside0 (pacemakerref09_Is.j1 kq x64_15 D0 D1 D2 D3 D4 D5 D6 D7 D8 D9 D10 D11 D12 D13 D14 = some r) ∧ Aside0 (kq ≤ kj1) ∧ Aside0 (wc.heap[gb170]? = some (.cells #[.int .i64 D0, .int .i64 D1, .int .i64 D2, .int .i64 D3, .int .i64 D4, .int .i64 D5, .int .i64 D6, .int .i64 D7, .int .i64 D8, .int .i64 D9, .int .i64 D10, .int .i64 D11, .int .i64 D12, .int .i64 D13, .int .i64 D14] 29 (0, 0))) ∧ Aside0 (Below w.heap.size w wc))
        case first =>
          have H := HC16.out
          clear HC16
          by_cases c17 : D6 < 0
          · rw [if_pos c17] at H
            have c17b0 : decide (D6 < 0) = true := decide_eq_true c17
            clear c17
            (first | rw [c17b0] | (simp only [i64_w, i32_w]; rw [c17b0]) | skip)
            have H' := Aside0.mk H
            clear H
            have hcz18_0 : wc.cell? ⟨gb170, 0, none⟩ = some (.int .i64 D0) := (blk_cell BK170.out 0).trans rfl
            have hcz18_1 : wc.cell? ⟨gb170, 1, none⟩ = some (.int .i64 D1) := (blk_cell BK170.out 1).trans rfl
            have hcz18_2 : wc.cell? ⟨gb170, 2, none⟩ = some (.int .i64 D2) := (blk_cell BK170.out 2).trans rfl
            have hcz18_3 : wc.cell? ⟨gb170, 3, none⟩ = some (.int .i64 D3) := (blk_cell BK170.out 3).trans rfl
            have hcz18_4 : wc.cell? ⟨gb170, 4, none⟩ = some (.int .i64 D4) := (blk_cell BK170.out 4).trans rfl
            have hcz18_5 : wc.cell? ⟨gb170, 5, none⟩ = some (.int .i64 D5) := (blk_cell BK170.out 5).trans rfl
            have hcz18_6 : wc.cell? ⟨gb170, 6, none⟩ = some (.int .i64 D6) := (blk_cell BK170.out 6).trans rfl
            have hcz18_7 : wc.cell? ⟨gb170, 7, none⟩ = some (.int .i64 D7) := (blk_cell BK170.out 7).trans rfl
            have hcz18_8 : wc.cell? ⟨gb170, 8, none⟩ = some (.int .i64 D8) := (blk_cell BK170.out 8).trans rfl
            have hcz18_9 : wc.cell? ⟨gb170, 9, none⟩ = some (.int .i64 D9) := (blk_cell BK170.out 9).trans rfl
            have hcz18_10 : wc.cell? ⟨gb170, 10, none⟩ = some (.int .i64 D10) := (blk_cell BK170.out 10).trans rfl
            have hcz18_11 : wc.cell? ⟨gb170, 11, none⟩ = some (.int .i64 D11) := (blk_cell BK170.out 11).trans rfl
            have hcz18_12 : wc.cell? ⟨gb170, 12, none⟩ = some (.int .i64 D12) := (blk_cell BK170.out 12).trans rfl
            have hcz18_13 : wc.cell? ⟨gb170, 13, none⟩ = some (.int .i64 D13) := (blk_cell BK170.out 13).trans rfl
            have hcz18_14 : wc.cell? ⟨gb170, 14, none⟩ = some (.int .i64 D14) := (blk_cell BK170.out 14).trans rfl
            have hfz18_0 := blk_frozen BK170.out 0
            have hfz18_1 := blk_frozen BK170.out 1
            have hfz18_2 := blk_frozen BK170.out 2
            have hfz18_3 := blk_frozen BK170.out 3
            have hfz18_4 := blk_frozen BK170.out 4
            have hfz18_5 := blk_frozen BK170.out 5
            have hfz18_6 := blk_frozen BK170.out 6
            have hfz18_7 := blk_frozen BK170.out 7
            have hfz18_8 := blk_frozen BK170.out 8
            have hfz18_9 := blk_frozen BK170.out 9
            have hfz18_10 := blk_frozen BK170.out 10
            have hfz18_11 := blk_frozen BK170.out 11
            have hfz18_12 := blk_frozen BK170.out 12
            have hfz18_13 := blk_frozen BK170.out 13
            have hfz18_14 := blk_frozen BK170.out 14
            go_wp2
            go_meet
            case rel => exact ⟨_, (true), (by first | rfl | (simp; done) | (simp [*]; done)), H', ⟨by have := HJ1.out; first | omega | exact Nat.le_refl _⟩, ⟨by (with_reducible repeat (first | refine blk_drewN ?_ _ | refine blk_drew ?_ | refine blk_alloc ?_ _)); exact BK170.out⟩, ⟨by repeat (first | (with_reducible first | exact HB.out | apply below_alloc | apply pw_below_drewN | apply below_drew1 | refine below_set ?_ GE170.out) | exact HB.out)⟩⟩
          · rw [if_neg c17] at H
            have c17b0 : decide (D6 < 0) = false := decide_eq_false c17
            clear c17
            (first | rw [c17b0] | (simp only [i64_w, i32_w]; rw [c17b0]) | skip)
            by_cases c19 : D6 > 1048576
            · rw [if_pos c19] at H
              have c19b0 : decide (1048576 < D6) = true := decide_eq_true c19
              clear c19
              have H' := Aside0.mk H
              clear H
              have hcz20_0 : wc.cell? ⟨gb170, 0, none⟩ = some (.int .i64 D0) := (blk_cell BK170.out 0).trans rfl
              have hcz20_1 : wc.cell? ⟨gb170, 1, none⟩ = some (.int .i64 D1) := (blk_cell BK170.out 1).trans rfl
              have hcz20_2 : wc.cell? ⟨gb170, 2, none⟩ = some (.int .i64 D2) := (blk_cell BK170.out 2).trans rfl
              have hcz20_3 : wc.cell? ⟨gb170, 3, none⟩ = some (.int .i64 D3) := (blk_cell BK170.out 3).trans rfl
              have hcz20_4 : wc.cell? ⟨gb170, 4, none⟩ = some (.int .i64 D4) := (blk_cell BK170.out 4).trans rfl
              have hcz20_5 : wc.cell? ⟨gb170, 5, none⟩ = some (.int .i64 D5) := (blk_cell BK170.out 5).trans rfl
              have hcz20_6 : wc.cell? ⟨gb170, 6, none⟩ = some (.int .i64 D6) := (blk_cell BK170.out 6).trans rfl
              have hcz20_7 : wc.cell? ⟨gb170, 7, none⟩ = some (.int .i64 D7) := (blk_cell BK170.out 7).trans rfl
              have hcz20_8 : wc.cell? ⟨gb170, 8, none⟩ = some (.int .i64 D8) := (blk_cell BK170.out 8).trans rfl
              have hcz20_9 : wc.cell? ⟨gb170, 9, none⟩ = some (.int .i64 D9) := (blk_cell BK170.out 9).trans rfl
              have hcz20_10 : wc.cell? ⟨gb170, 10, none⟩ = some (.int .i64 D10) := (blk_cell BK170.out 10).trans rfl
              have hcz20_11 : wc.cell? ⟨gb170, 11, none⟩ = some (.int .i64 D11) := (blk_cell BK170.out 11).trans rfl
              have hcz20_12 : wc.cell? ⟨gb170, 12, none⟩ = some (.int .i64 D12) := (blk_cell BK170.out 12).trans rfl
              have hcz20_13 : wc.cell? ⟨gb170, 13, none⟩ = some (.int .i64 D13) := (blk_cell BK170.out 13).trans rfl
              have hcz20_14 : wc.cell? ⟨gb170, 14, none⟩ = some (.int .i64 D14) := (blk_cell BK170.out 14).trans rfl
              have hfz20_0 := blk_frozen BK170.out 0
              have hfz20_1 := blk_frozen BK170.out 1
              have hfz20_2 := blk_frozen BK170.out 2
              have hfz20_3 := blk_frozen BK170.out 3
              have hfz20_4 := blk_frozen BK170.out 4
              have hfz20_5 := blk_frozen BK170.out 5
              have hfz20_6 := blk_frozen BK170.out 6
              have hfz20_7 := blk_frozen BK170.out 7
              have hfz20_8 := blk_frozen BK170.out 8
              have hfz20_9 := blk_frozen BK170.out 9
              have hfz20_10 := blk_frozen BK170.out 10
              have hfz20_11 := blk_frozen BK170.out 11
              have hfz20_12 := blk_frozen BK170.out 12
              have hfz20_13 := blk_frozen BK170.out 13
              have hfz20_14 := blk_frozen BK170.out 14
              go_wp2
              go_meet
              case rel => exact ⟨_, (true), (by first | rfl | (simp; done) | (simp [*]; done)), H', ⟨by have := HJ1.out; first | omega | exact Nat.le_refl _⟩, ⟨by (with_reducible repeat (first | refine blk_drewN ?_ _ | refine blk_drew ?_ | refine blk_alloc ?_ _)); exact BK170.out⟩, ⟨by repeat (first | (with_reducible first | exact HB.out | apply below_alloc | apply pw_below_drewN | apply below_drew1 | refine below_set ?_ GE170.out) | exact HB.out)⟩⟩
            · rw [if_neg c19] at H
              have c19b0 : decide (1048576 < D6) = false := decide_eq_false c19
              clear c19
              by_cases c21 : D7 < 0
              · rw [if_pos c21] at H
                have c21b0 : decide (D7 < 0) = true := decide_eq_true c21
                clear c21
                have H' := Aside0.mk H
                clear H
                have hcz22_0 : wc.cell? ⟨gb170, 0, none⟩ = some (.int .i64 D0) := (blk_cell BK170.out 0).trans rfl
                have hcz22_1 : wc.cell? ⟨gb170, 1, none⟩ = some (.int .i64 D1) := (blk_cell BK170.out 1).trans rfl
                have hcz22_2 : wc.cell? ⟨gb170, 2, none⟩ = some (.int .i64 D2) := (blk_cell BK170.out 2).trans rfl
                have hcz22_3 : wc.cell? ⟨gb170, 3, none⟩ = some (.int .i64 D3) := (blk_cell BK170.out 3).trans rfl
                have hcz22_4 : wc.cell? ⟨gb170, 4, none⟩ = some (.int .i64 D4) := (blk_cell BK170.out 4).trans rfl
                have hcz22_5 : wc.cell? ⟨gb170, 5, none⟩ = some (.int .i64 D5) := (blk_cell BK170.out 5).trans rfl
                have hcz22_6 : wc.cell? ⟨gb170, 6, none⟩ = some (.int .i64 D6) := (blk_cell BK170.out 6).trans rfl
                have hcz22_7 : wc.cell? ⟨gb170, 7, none⟩ = some (.int .i64 D7) := (blk_cell BK170.out 7).trans rfl
                have hcz22_8 : wc.cell? ⟨gb170, 8, none⟩ = some (.int .i64 D8) := (blk_cell BK170.out 8).trans rfl
                have hcz22_9 : wc.cell? ⟨gb170, 9, none⟩ = some (.int .i64 D9) := (blk_cell BK170.out 9).trans rfl
                have hcz22_10 : wc.cell? ⟨gb170, 10, none⟩ = some (.int .i64 D10) := (blk_cell BK170.out 10).trans rfl
                have hcz22_11 : wc.cell? ⟨gb170, 11, none⟩ = some (.int .i64 D11) := (blk_cell BK170.out 11).trans rfl
                have hcz22_12 : wc.cell? ⟨gb170, 12, none⟩ = some (.int .i64 D12) := (blk_cell BK170.out 12).trans rfl
                have hcz22_13 : wc.cell? ⟨gb170, 13, none⟩ = some (.int .i64 D13) := (blk_cell BK170.out 13).trans rfl
                have hcz22_14 : wc.cell? ⟨gb170, 14, none⟩ = some (.int .i64 D14) := (blk_cell BK170.out 14).trans rfl
                have hfz22_0 := blk_frozen BK170.out 0
                have hfz22_1 := blk_frozen BK170.out 1
                have hfz22_2 := blk_frozen BK170.out 2
                have hfz22_3 := blk_frozen BK170.out 3
                have hfz22_4 := blk_frozen BK170.out 4
                have hfz22_5 := blk_frozen BK170.out 5
                have hfz22_6 := blk_frozen BK170.out 6
                have hfz22_7 := blk_frozen BK170.out 7
                have hfz22_8 := blk_frozen BK170.out 8
                have hfz22_9 := blk_frozen BK170.out 9
                have hfz22_10 := blk_frozen BK170.out 10
                have hfz22_11 := blk_frozen BK170.out 11
                have hfz22_12 := blk_frozen BK170.out 12
                have hfz22_13 := blk_frozen BK170.out 13
                have hfz22_14 := blk_frozen BK170.out 14
                go_wp2
                go_meet
                case rel => exact ⟨_, (true), (by first | rfl | (simp; done) | (simp [*]; done)), H', ⟨by have := HJ1.out; first | omega | exact Nat.le_refl _⟩, ⟨by (with_reducible repeat (first | refine blk_drewN ?_ _ | refine blk_drew ?_ | refine blk_alloc ?_ _)); exact BK170.out⟩, ⟨by repeat (first | (with_reducible first | exact HB.out | apply below_alloc | apply pw_below_drewN | apply below_drew1 | refine below_set ?_ GE170.out) | exact HB.out)⟩⟩
              · rw [if_neg c21] at H
                have c21b0 : decide (D7 < 0) = false := decide_eq_false c21
                clear c21
                by_cases c23 : D7 > D6
                · rw [if_pos c23] at H
                  have c23b0 : decide (D6 < D7) = true := decide_eq_true c23
                  clear c23
                  have H' := Aside0.mk H
                  clear H
                  have hcz24_0 : wc.cell? ⟨gb170, 0, none⟩ = some (.int .i64 D0) := (blk_cell BK170.out 0).trans rfl
                  have hcz24_1 : wc.cell? ⟨gb170, 1, none⟩ = some (.int .i64 D1) := (blk_cell BK170.out 1).trans rfl
                  have hcz24_2 : wc.cell? ⟨gb170, 2, none⟩ = some (.int .i64 D2) := (blk_cell BK170.out 2).trans rfl
                  have hcz24_3 : wc.cell? ⟨gb170, 3, none⟩ = some (.int .i64 D3) := (blk_cell BK170.out 3).trans rfl
                  have hcz24_4 : wc.cell? ⟨gb170, 4, none⟩ = some (.int .i64 D4) := (blk_cell BK170.out 4).trans rfl
                  have hcz24_5 : wc.cell? ⟨gb170, 5, none⟩ = some (.int .i64 D5) := (blk_cell BK170.out 5).trans rfl
                  have hcz24_6 : wc.cell? ⟨gb170, 6, none⟩ = some (.int .i64 D6) := (blk_cell BK170.out 6).trans rfl
                  have hcz24_7 : wc.cell? ⟨gb170, 7, none⟩ = some (.int .i64 D7) := (blk_cell BK170.out 7).trans rfl
                  have hcz24_8 : wc.cell? ⟨gb170, 8, none⟩ = some (.int .i64 D8) := (blk_cell BK170.out 8).trans rfl
                  have hcz24_9 : wc.cell? ⟨gb170, 9, none⟩ = some (.int .i64 D9) := (blk_cell BK170.out 9).trans rfl
                  have hcz24_10 : wc.cell? ⟨gb170, 10, none⟩ = some (.int .i64 D10) := (blk_cell BK170.out 10).trans rfl
                  have hcz24_11 : wc.cell? ⟨gb170, 11, none⟩ = some (.int .i64 D11) := (blk_cell BK170.out 11).trans rfl
                  have hcz24_12 : wc.cell? ⟨gb170, 12, none⟩ = some (.int .i64 D12) := (blk_cell BK170.out 12).trans rfl
                  have hcz24_13 : wc.cell? ⟨gb170, 13, none⟩ = some (.int .i64 D13) := (blk_cell BK170.out 13).trans rfl
                  have hcz24_14 : wc.cell? ⟨gb170, 14, none⟩ = some (.int .i64 D14) := (blk_cell BK170.out 14).trans rfl
                  have hfz24_0 := blk_frozen BK170.out 0
                  have hfz24_1 := blk_frozen BK170.out 1
                  have hfz24_2 := blk_frozen BK170.out 2
                  have hfz24_3 := blk_frozen BK170.out 3
                  have hfz24_4 := blk_frozen BK170.out 4
                  have hfz24_5 := blk_frozen BK170.out 5
                  have hfz24_6 := blk_frozen BK170.out 6
                  have hfz24_7 := blk_frozen BK170.out 7
                  have hfz24_8 := blk_frozen BK170.out 8
                  have hfz24_9 := blk_frozen BK170.out 9
                  have hfz24_10 := blk_frozen BK170.out 10
                  have hfz24_11 := blk_frozen BK170.out 11
                  have hfz24_12 := blk_frozen BK170.out 12
                  have hfz24_13 := blk_frozen BK170.out 13
                  have hfz24_14 := blk_frozen BK170.out 14
                  go_wp2
                  go_meet
                  case rel => exact ⟨_, (true), (by first | rfl | (simp; done) | (simp [*]; done)), H', ⟨by have := HJ1.out; first | omega | exact Nat.le_refl _⟩, ⟨by (with_reducible repeat (first | refine blk_drewN ?_ _ | refine blk_drew ?_ | refine blk_alloc ?_ _)); exact BK170.out⟩, ⟨by repeat (first | (with_reducible first | exact HB.out | apply below_alloc | apply pw_below_drewN | apply below_drew1 | refine below_set ?_ GE170.out) | exact HB.out)⟩⟩
                · rw [if_neg c23] at H
                  have c23b0 : decide (D6 < D7) = false := decide_eq_false c23
                  clear c23
                  by_cases c25 : D8 < 0
                  · rw [if_pos c25] at H
                    have c25b0 : decide (D8 < 0) = true := decide_eq_true c25
                    clear c25
                    have H' := Aside0.mk H
                    clear H
                    have hcz26_0 : wc.cell? ⟨gb170, 0, none⟩ = some (.int .i64 D0) := (blk_cell BK170.out 0).trans rfl
                    have hcz26_1 : wc.cell? ⟨gb170, 1, none⟩ = some (.int .i64 D1) := (blk_cell BK170.out 1).trans rfl
                    have hcz26_2 : wc.cell? ⟨gb170, 2, none⟩ = some (.int .i64 D2) := (blk_cell BK170.out 2).trans rfl
                    have hcz26_3 : wc.cell? ⟨gb170, 3, none⟩ = some (.int .i64 D3) := (blk_cell BK170.out 3).trans rfl
                    have hcz26_4 : wc.cell? ⟨gb170, 4, none⟩ = some (.int .i64 D4) := (blk_cell BK170.out 4).trans rfl
                    have hcz26_5 : wc.cell? ⟨gb170, 5, none⟩ = some (.int .i64 D5) := (blk_cell BK170.out 5).trans rfl
                    have hcz26_6 : wc.cell? ⟨gb170, 6, none⟩ = some (.int .i64 D6) := (blk_cell BK170.out 6).trans rfl
                    have hcz26_7 : wc.cell? ⟨gb170, 7, none⟩ = some (.int .i64 D7) := (blk_cell BK170.out 7).trans rfl
                    have hcz26_8 : wc.cell? ⟨gb170, 8, none⟩ = some (.int .i64 D8) := (blk_cell BK170.out 8).trans rfl
                    have hcz26_9 : wc.cell? ⟨gb170, 9, none⟩ = some (.int .i64 D9) := (blk_cell BK170.out 9).trans rfl
                    have hcz26_10 : wc.cell? ⟨gb170, 10, none⟩ = some (.int .i64 D10) := (blk_cell BK170.out 10).trans rfl
                    have hcz26_11 : wc.cell? ⟨gb170, 11, none⟩ = some (.int .i64 D11) := (blk_cell BK170.out 11).trans rfl
                    have hcz26_12 : wc.cell? ⟨gb170, 12, none⟩ = some (.int .i64 D12) := (blk_cell BK170.out 12).trans rfl
                    have hcz26_13 : wc.cell? ⟨gb170, 13, none⟩ = some (.int .i64 D13) := (blk_cell BK170.out 13).trans rfl
                    have hcz26_14 : wc.cell? ⟨gb170, 14, none⟩ = some (.int .i64 D14) := (blk_cell BK170.out 14).trans rfl
                    have hfz26_0 := blk_frozen BK170.out 0
                    have hfz26_1 := blk_frozen BK170.out 1
                    have hfz26_2 := blk_frozen BK170.out 2
                    have hfz26_3 := blk_frozen BK170.out 3
                    have hfz26_4 := blk_frozen BK170.out 4
                    have hfz26_5 := blk_frozen BK170.out 5
                    have hfz26_6 := blk_frozen BK170.out 6
                    have hfz26_7 := blk_frozen BK170.out 7
                    have hfz26_8 := blk_frozen BK170.out 8
                    have hfz26_9 := blk_frozen BK170.out 9
                    have hfz26_10 := blk_frozen BK170.out 10
                    have hfz26_11 := blk_frozen BK170.out 11
                    have hfz26_12 := blk_frozen BK170.out 12
                    have hfz26_13 := blk_frozen BK170.out 13
                    have hfz26_14 := blk_frozen BK170.out 14
                    go_wp2
                    go_meet
                    case rel => exact ⟨_, (true), (by first | rfl | (simp; done) | (simp [*]; done)), H', ⟨by have := HJ1.out; first | omega | exact Nat.le_refl _⟩, ⟨by (with_reducible repeat (first | refine blk_drewN ?_ _ | refine blk_drew ?_ | refine blk_alloc ?_ _)); exact BK170.out⟩, ⟨by repeat (first | (with_reducible first | exact HB.out | apply below_alloc | apply pw_below_drewN | apply below_drew1 | refine below_set ?_ GE170.out) | exact HB.out)⟩⟩
                  · rw [if_neg c25] at H
                    have c25b0 : decide (D8 < 0) = false := decide_eq_false c25
                    clear c25
                    have H' := Aside0.mk H
                    clear H
                    have hcz27_0 : wc.cell? ⟨gb170, 0, none⟩ = some (.int .i64 D0) := (blk_cell BK170.out 0).trans rfl
                    have hcz27_1 : wc.cell? ⟨gb170, 1, none⟩ = some (.int .i64 D1) := (blk_cell BK170.out 1).trans rfl
                    have hcz27_2 : wc.cell? ⟨gb170, 2, none⟩ = some (.int .i64 D2) := (blk_cell BK170.out 2).trans rfl
                    have hcz27_3 : wc.cell? ⟨gb170, 3, none⟩ = some (.int .i64 D3) := (blk_cell BK170.out 3).trans rfl
                    have hcz27_4 : wc.cell? ⟨gb170, 4, none⟩ = some (.int .i64 D4) := (blk_cell BK170.out 4).trans rfl
                    have hcz27_5 : wc.cell? ⟨gb170, 5, none⟩ = some (.int .i64 D5) := (blk_cell BK170.out 5).trans rfl
                    have hcz27_6 : wc.cell? ⟨gb170, 6, none⟩ = some (.int .i64 D6) := (blk_cell BK170.out 6).trans rfl
                    have hcz27_7 : wc.cell? ⟨gb170, 7, none⟩ = some (.int .i64 D7) := (blk_cell BK170.out 7).trans rfl
                    have hcz27_8 : wc.cell? ⟨gb170, 8, none⟩ = some (.int .i64 D8) := (blk_cell BK170.out 8).trans rfl
                    have hcz27_9 : wc.cell? ⟨gb170, 9, none⟩ = some (.int .i64 D9) := (blk_cell BK170.out 9).trans rfl
                    have hcz27_10 : wc.cell? ⟨gb170, 10, none⟩ = some (.int .i64 D10) := (blk_cell BK170.out 10).trans rfl
                    have hcz27_11 : wc.cell? ⟨gb170, 11, none⟩ = some (.int .i64 D11) := (blk_cell BK170.out 11).trans rfl
                    have hcz27_12 : wc.cell? ⟨gb170, 12, none⟩ = some (.int .i64 D12) := (blk_cell BK170.out 12).trans rfl
                    have hcz27_13 : wc.cell? ⟨gb170, 13, none⟩ = some (.int .i64 D13) := (blk_cell BK170.out 13).trans rfl
                    have hcz27_14 : wc.cell? ⟨gb170, 14, none⟩ = some (.int .i64 D14) := (blk_cell BK170.out 14).trans rfl
                    have hfz27_0 := blk_frozen BK170.out 0
                    have hfz27_1 := blk_frozen BK170.out 1
                    have hfz27_2 := blk_frozen BK170.out 2
                    have hfz27_3 := blk_frozen BK170.out 3
                    have hfz27_4 := blk_frozen BK170.out 4
                    have hfz27_5 := blk_frozen BK170.out 5
                    have hfz27_6 := blk_frozen BK170.out 6
                    have hfz27_7 := blk_frozen BK170.out 7
                    have hfz27_8 := blk_frozen BK170.out 8
                    have hfz27_9 := blk_frozen BK170.out 9
                    have hfz27_10 := blk_frozen BK170.out 10
                    have hfz27_11 := blk_frozen BK170.out 11
                    have hfz27_12 := blk_frozen BK170.out 12
                    have hfz27_13 := blk_frozen BK170.out 13
                    have hfz27_14 := blk_frozen BK170.out 14
                    go_wp2
                    go_meet
                    case rel => exact ⟨_, (decide (D8 > (wrap64 (D6 - D7)))), (by first | rfl | (simp; done) | (simp [*]; done)), H', ⟨by have := HJ1.out; first | omega | exact Nat.le_refl _⟩, ⟨by (with_reducible repeat (first | refine blk_drewN ?_ _ | refine blk_drew ?_ | refine blk_alloc ?_ _)); exact BK170.out⟩, ⟨by repeat (first | (with_reducible first | exact HB.out | apply below_alloc | apply pw_below_drewN | apply below_drew1 | refine below_set ?_ GE170.out) | exact HB.out)⟩⟩
        case rest =>
          clear HC16
          repeat first | clear c1 | clear c2 | clear p2 | clear c4 | clear c4b0 | clear p6 | clear c7 | clear c8 | clear c8b0 | clear c8b1 | clear c11 | clear c15 | clear c17 | clear c17b0 | clear c19 | clear c19b0 | clear c21 | clear c21b0 | clear c23 | clear c23b0 | clear c25 | clear c25b0 | clear hcz12_0 | clear hcz12_1 | clear hcz12_10 | clear hcz12_11 | clear hcz12_12 | clear hcz12_13 | clear hcz12_14 | clear hcz12_2 | clear hcz12_3 | clear hcz12_4 | clear hcz12_5 | clear hcz12_6 | clear hcz12_7 | clear hcz12_8 | clear hcz12_9 | clear hcz13_0 | clear hcz13_1 | clear hcz13_10 | clear hcz13_11 | clear hcz13_12 | clear hcz13_13 | clear hcz13_14 | clear hcz13_2 | clear hcz13_3 | clear hcz13_4 | clear hcz13_5 | clear hcz13_6 | clear hcz13_7 | clear hcz13_8 | clear hcz13_9 | clear hcz14_0 | clear hcz14_1 | clear hcz14_10 | clear hcz14_11 | clear hcz14_12 | clear hcz14_13 | clear hcz14_14 | clear hcz14_2 | clear hcz14_3 | clear hcz14_4 | clear hcz14_5 | clear hcz14_6 | clear hcz14_7 | clear hcz14_8 | clear hcz14_9 | clear hcz18_0 | clear hcz18_1 | clear hcz18_10 | clear hcz18_11 | clear hcz18_12 | clear hcz18_13 | clear hcz18_14 | clear hcz18_2 | clear hcz18_3 | clear hcz18_4 | clear hcz18_5 | clear hcz18_6 | clear hcz18_7 | clear hcz18_8 | clear hcz18_9 | clear hcz20_0 | clear hcz20_1 | clear hcz20_10 | clear hcz20_11 | clear hcz20_12 | clear hcz20_13 | clear hcz20_14 | clear hcz20_2 | clear hcz20_3 | clear hcz20_4 | clear hcz20_5 | clear hcz20_6 | clear hcz20_7 | clear hcz20_8 | clear hcz20_9 | clear hcz22_0 | clear hcz22_1 | clear hcz22_10 | clear hcz22_11 | clear hcz22_12 | clear hcz22_13 | clear hcz22_14 | clear hcz22_2 | clear hcz22_3 | clear hcz22_4 | clear hcz22_5 | clear hcz22_6 | clear hcz22_7 | clear hcz22_8 | clear hcz22_9 | clear hcz24_0 | clear hcz24_1 | clear hcz24_10 | clear hcz24_11 | clear hcz24_12 | clear hcz24_13 | clear hcz24_14 | clear hcz24_2 | clear hcz24_3 | clear hcz24_4 | clear hcz24_5 | clear hcz24_6 | clear hcz24_7 | clear hcz24_8 | clear hcz24_9 | clear hcz26_0 | clear hcz26_1 | clear hcz26_10 | clear hcz26_11 | clear hcz26_12 | clear hcz26_13 | clear hcz26_14 | clear hcz26_2 | clear hcz26_3 | clear hcz26_4 | clear hcz26_5 | clear hcz26_6 | clear hcz26_7 | clear hcz26_8 | clear hcz26_9 | clear hcz27_0 | clear hcz27_1 | clear hcz27_10 | clear hcz27_11 | clear hcz27_12 | clear hcz27_13 | clear hcz27_14 | clear hcz27_2 | clear hcz27_3 | clear hcz27_4 | clear hcz27_5 | clear hcz27_6 | clear hcz27_7 | clear hcz27_8 | clear hcz27_9 | clear hcz5_0 | clear hcz5_1 | clear hcz5_10 | clear hcz5_11 | clear hcz5_12 | clear hcz5_13 | clear hcz5_14 | clear hcz5_2 | clear hcz5_3 | clear hcz5_4 | clear hcz5_5 | clear hcz5_6 | clear hcz5_7 | clear hcz5_8 | clear hcz5_9 | clear hcz9_0 | clear hcz9_1 | clear hcz9_10 | clear hcz9_11 | clear hcz9_12 | clear hcz9_13 | clear hcz9_14 | clear hcz9_2 | clear hcz9_3 | clear hcz9_4 | clear hcz9_5 | clear hcz9_6 | clear hcz9_7 | clear hcz9_8 | clear hcz9_9 | clear hfz12_0 | clear hfz12_1 | clear hfz12_10 | clear hfz12_11 | clear hfz12_12 | clear hfz12_13 | clear hfz12_14 | clear hfz12_2 | clear hfz12_3 | clear hfz12_4 | clear hfz12_5 | clear hfz12_6 | clear hfz12_7 | clear hfz12_8 | clear hfz12_9 | clear hfz13_0 | clear hfz13_1 | clear hfz13_10 | clear hfz13_11 | clear hfz13_12 | clear hfz13_13 | clear hfz13_14 | clear hfz13_2 | clear hfz13_3 | clear hfz13_4 | clear hfz13_5 | clear hfz13_6 | clear hfz13_7 | clear hfz13_8 | clear hfz13_9 | clear hfz14_0 | clear hfz14_1 | clear hfz14_10 | clear hfz14_11 | clear hfz14_12 | clear hfz14_13 | clear hfz14_14 | clear hfz14_2 | clear hfz14_3 | clear hfz14_4 | clear hfz14_5 | clear hfz14_6 | clear hfz14_7 | clear hfz14_8 | clear hfz14_9 | clear hfz18_0 | clear hfz18_1 | clear hfz18_10 | clear hfz18_11 | clear hfz18_12 | clear hfz18_13 | clear hfz18_14 | clear hfz18_2 | clear hfz18_3 | clear hfz18_4 | clear hfz18_5 | clear hfz18_6 | clear hfz18_7 | clear hfz18_8 | clear hfz18_9 | clear hfz20_0 | clear hfz20_1 | clear hfz20_10 | clear hfz20_11 | clear hfz20_12 | clear hfz20_13 | clear hfz20_14 | clear hfz20_2 | clear hfz20_3 | clear hfz20_4 | clear hfz20_5 | clear hfz20_6 | clear hfz20_7 | clear hfz20_8 | clear hfz20_9 | clear hfz22_0 | clear hfz22_1 | clear hfz22_10 | clear hfz22_11 | clear hfz22_12 | clear hfz22_13 | clear hfz22_14 | clear hfz22_2 | clear hfz22_3 | clear hfz22_4 | clear hfz22_5 | clear hfz22_6 | clear hfz22_7 | clear hfz22_8 | clear hfz22_9 | clear hfz24_0 | clear hfz24_1 | clear hfz24_10 | clear hfz24_11 | clear hfz24_12 | clear hfz24_13 | clear hfz24_14 | clear hfz24_2 | clear hfz24_3 | clear hfz24_4 | clear hfz24_5 | clear hfz24_6 | clear hfz24_7 | clear hfz24_8 | clear hfz24_9 | clear hfz26_0 | clear hfz26_1 | clear hfz26_10 | clear hfz26_11 | clear hfz26_12 | clear hfz26_13 | clear hfz26_14 | clear hfz26_2 | clear hfz26_3 | clear hfz26_4 | clear hfz26_5 | clear hfz26_6 | clear hfz26_7 | clear hfz26_8 | clear hfz26_9 | clear hfz27_0 | clear hfz27_1 | clear hfz27_10 | clear hfz27_11 | clear hfz27_12 | clear hfz27_13 | clear hfz27_14 | clear hfz27_2 | clear hfz27_3 | clear hfz27_4 | clear hfz27_5 | clear hfz27_6 | clear hfz27_7 | clear hfz27_8 | clear hfz27_9 | clear hfz5_0 | clear hfz5_1 | clear hfz5_10 | clear hfz5_11 | clear hfz5_12 | clear hfz5_13 | clear hfz5_14 | clear hfz5_2 | clear hfz5_3 | clear hfz5_4 | clear hfz5_5 | clear hfz5_6 | clear hfz5_7 | clear hfz5_8 | clear hfz5_9 | clear hfz9_0 | clear hfz9_1 | clear hfz9_10 | clear hfz9_11 | clear hfz9_12 | clear hfz9_13 | clear hfz9_14 | clear hfz9_2 | clear hfz9_3 | clear hfz9_4 | clear hfz9_5 | clear hfz9_6 | clear hfz9_7 | clear hfz9_8 | clear hfz9_9 | clear p2
          obtain ⟨kq, x64_15, rfl, HA, HJ15, BK170, HB⟩ := hcut
          cases kq with
          | zero => exact absurd HA.out (by simp [pacemakerref09_Is.j1])
          | succ kj15 =>
            have H := HA.out
            clear HA
            simp only [pacemakerref09_Is.j1] at H
            by_cases c28 : x64_15 = true
            · subst c28
              rw [if_pos rfl] at H
              obtain rfl := Option.some.inj H
              go_wp2
              go_ret
              exact ⟨by first | rfl | (simp [errW_none, errW_some] <;> rfl) | (simp [*, errW_none, errW_some] <;> rfl), by repeat (first | (with_reducible first | exact HB.out | apply below_alloc | apply pw_below_drewN | apply below_drew1 | refine below_set ?_ GE170.out) | exact HB.out)⟩
            · replace c28 := Bool.eq_false_iff.mpr c28
              subst c28
              rw [if_neg (show ¬ (false = true) by decide)] at H
              have HC29 := Aside0.mk H
              clear H
              go_upto_region 5 with (fail)
              go_cut [96] (fun v96 wc => ∃ (kq : Nat) (x96_28 : Bool), v96 = .bool x96_28 ∧ Aside0 (pacemakerref09_Is.j2 kq x96_28 D0 D1 D2 D3 D4 D5 D6 D7 D8 D9 D10 D11 D12 D13 D14 = some r) ∧ Aside0 (kq ≤ kj15) ∧ Aside0 (wc.heap[gb170]? = some (.cells #[.int .i64 D0, .int .i64 D1, .int .i64 D2, .int .i64 D3, .int .i64 D4, .int .i64 D5, .int .i64 D6, .int .i64 D7, .int .i64 D8, .int .i64 D9, .int .i64 D10, .int .i64 D11, .int .i64 D12, .int .i64 D13, .int .i64 D14] 29 (0, 0))) ∧ Aside0 (Below w.heap.size w wc))
              case first =>
                have H := HC29.out
                clear HC29
                replace H := Option.bind_eq_some_iff.mp H
                obtain ⟨t173, A300, H⟩ := H
                try dsimp only at H
                have A30 := Aside0.mk A300
                clear A300
                by_cases c31 : t173 = true
                · subst c31
                  rw [if_pos rfl] at H
                  replace H := Option.bind_eq_some_iff.mp H
                  obtain ⟨t174, A320, H⟩ := H
                  try dsimp only at H
                  have A32 := Aside0.mk A320
                  clear A320
                  by_cases c33 : t174 = true
                  · subst c33
                    rw [if_pos rfl] at H
                    replace H := Option.bind_eq_some_iff.mp H
                    obtain ⟨t175, A340, H⟩ := H
                    try dsimp only at H
                    have A34 := Aside0.mk A340
                    clear A340
                    by_cases c35 : t175 = true
                    · subst c35
                      rw [if_pos rfl] at H
                      have H' := Aside0.mk H
                      clear H
                      have hcz36_0 : wc.cell? ⟨gb170, 0, none⟩ = some (.int .i64 D0) := (blk_cell BK170.out 0).trans rfl
                      have hcz36_1 : wc.cell? ⟨gb170, 1, none⟩ = some (.int .i64 D1) := (blk_cell BK170.out 1).trans rfl
                      have hcz36_2 : wc.cell? ⟨gb170, 2, none⟩ = some (.int .i64 D2) := (blk_cell BK170.out 2).trans rfl
                      have hcz36_3 : wc.cell? ⟨gb170, 3, none⟩ = some (.int .i64 D3) := (blk_cell BK170.out 3).trans rfl
                      have hcz36_4 : wc.cell? ⟨gb170, 4, none⟩ = some (.int .i64 D4) := (blk_cell BK170.out 4).trans rfl
                      have hcz36_5 : wc.cell? ⟨gb170, 5, none⟩ = some (.int .i64 D5) := (blk_cell BK170.out 5).trans rfl
                      have hcz36_6 : wc.cell? ⟨gb170, 6, none⟩ = some (.int .i64 D6) := (blk_cell BK170.out 6).trans rfl
                      have hcz36_7 : wc.cell? ⟨gb170, 7, none⟩ = some (.int .i64 D7) := (blk_cell BK170.out 7).trans rfl
                      have hcz36_8 : wc.cell? ⟨gb170, 8, none⟩ = some (.int .i64 D8) := (blk_cell BK170.out 8).trans rfl
                      have hcz36_9 : wc.cell? ⟨gb170, 9, none⟩ = some (.int .i64 D9) := (blk_cell BK170.out 9).trans rfl
                      have hcz36_10 : wc.cell? ⟨gb170, 10, none⟩ = some (.int .i64 D10) := (blk_cell BK170.out 10).trans rfl
                      have hcz36_11 : wc.cell? ⟨gb170, 11, none⟩ = some (.int .i64 D11) := (blk_cell BK170.out 11).trans rfl
                      have hcz36_12 : wc.cell? ⟨gb170, 12, none⟩ = some (.int .i64 D12) := (blk_cell BK170.out 12).trans rfl
                      have hcz36_13 : wc.cell? ⟨gb170, 13, none⟩ = some (.int .i64 D13) := (blk_cell BK170.out 13).trans rfl
                      have hcz36_14 : wc.cell? ⟨gb170, 14, none⟩ = some (.int .i64 D14) := (blk_cell BK170.out 14).trans rfl
                      have hfz36_0 := blk_frozen BK170.out 0
                      have hfz36_1 := blk_frozen BK170.out 1
                      have hfz36_2 := blk_frozen BK170.out 2
                      have hfz36_3 := blk_frozen BK170.out 3
                      have hfz36_4 := blk_frozen BK170.out 4
                      have hfz36_5 := blk_frozen BK170.out 5
                      have hfz36_6 := blk_frozen BK170.out 6
                      have hfz36_7 := blk_frozen BK170.out 7
                      have hfz36_8 := blk_frozen BK170.out 8
                      have hfz36_9 := blk_frozen BK170.out 9
                      have hfz36_10 := blk_frozen BK170.out 10
                      have hfz36_11 := blk_frozen BK170.out 11
                      have hfz36_12 := blk_frozen BK170.out 12
                      have hfz36_13 := blk_frozen BK170.out 13
                      have hfz36_14 := blk_frozen BK170.out 14
                      go_wp2_with (first | ((with_reducible refine gate_callee (f := 42) rfl ?_); refine goesL_ (some 69) rfl rfl Try.func42 (by kernel_rfl) rfl #[.int .i64 D3, .int .i64 D6] rfl (by (try simp only [List.map_toArray, List.map_cons, List.map_nil]); first | done | rfl | (simp only [List.length_drop, List.length_take]; rfl)) ?_; (with_reducible refine (pacemakerref09_sized.calls D3 D6 true _ A30.out).mono ?_); rintro e w' ⟨rfl, ⟨nd, rfl⟩⟩; refine ⟨_, rfl, ?_⟩) | (go_at_call 42; (with_reducible refine (pacemakerref09_sized.calls D4 D7 true _ A32.out).mono ?_); rintro e w' ⟨rfl, ⟨nd, rfl⟩⟩) | (go_at_call 42; (with_reducible refine (pacemakerref09_sized.calls D5 D8 true _ A34.out).mono ?_); rintro e w' ⟨rfl, ⟨nd, rfl⟩⟩))
                      go_meet
                      case rel => exact ⟨_, (decide ((wrap64 (D4 + D5)) > D3)), (by first | rfl | (simp; done) | (simp [*]; done)), H', ⟨by have := HJ1.out; have := HJ15.out; first | omega | exact Nat.le_refl _⟩, ⟨by (with_reducible repeat (first | refine blk_drewN ?_ _ | refine blk_drew ?_ | refine blk_alloc ?_ _)); exact BK170.out⟩, ⟨by repeat (first | (with_reducible first | exact HB.out | apply below_alloc | apply pw_below_drewN | apply below_drew1 | refine below_set ?_ GE170.out) | exact HB.out)⟩⟩
                    · replace c35 := Bool.eq_false_iff.mpr c35
                      subst c35
                      rw [if_neg (show ¬ (false = true) by decide)] at H
                      have H' := Aside0.mk H
                      clear H
                      have hcz37_0 : wc.cell? ⟨gb170, 0, none⟩ = some (.int .i64 D0) := (blk_cell BK170.out 0).trans rfl
                      have hcz37_1 : wc.cell? ⟨gb170, 1, none⟩ = some (.int .i64 D1) := (blk_cell BK170.out 1).trans rfl
                      have hcz37_2 : wc.cell? ⟨gb170, 2, none⟩ = some (.int .i64 D2) := (blk_cell BK170.out 2).trans rfl
                      have hcz37_3 : wc.cell? ⟨gb170, 3, none⟩ = some (.int .i64 D3) := (blk_cell BK170.out 3).trans rfl
                      have hcz37_4 : wc.cell? ⟨gb170, 4, none⟩ = some (.int .i64 D4) := (blk_cell BK170.out 4).trans rfl
                      have hcz37_5 : wc.cell? ⟨gb170, 5, none⟩ = some (.int .i64 D5) := (blk_cell BK170.out 5).trans rfl
                      have hcz37_6 : wc.cell? ⟨gb170, 6, none⟩ = some (.int .i64 D6) := (blk_cell BK170.out 6).trans rfl
                      have hcz37_7 : wc.cell? ⟨gb170, 7, none⟩ = some (.int .i64 D7) := (blk_cell BK170.out 7).trans rfl
                      have hcz37_8 : wc.cell? ⟨gb170, 8, none⟩ = some (.int .i64 D8) := (blk_cell BK170.out 8).trans rfl
                      have hcz37_9 : wc.cell? ⟨gb170, 9, none⟩ = some (.int .i64 D9) := (blk_cell BK170.out 9).trans rfl
                      have hcz37_10 : wc.cell? ⟨gb170, 10, none⟩ = some (.int .i64 D10) := (blk_cell BK170.out 10).trans rfl
                      have hcz37_11 : wc.cell? ⟨gb170, 11, none⟩ = some (.int .i64 D11) := (blk_cell BK170.out 11).trans rfl
                      have hcz37_12 : wc.cell? ⟨gb170, 12, none⟩ = some (.int .i64 D12) := (blk_cell BK170.out 12).trans rfl
                      have hcz37_13 : wc.cell? ⟨gb170, 13, none⟩ = some (.int .i64 D13) := (blk_cell BK170.out 13).trans rfl
                      have hcz37_14 : wc.cell? ⟨gb170, 14, none⟩ = some (.int .i64 D14) := (blk_cell BK170.out 14).trans rfl
                      have hfz37_0 := blk_frozen BK170.out 0
                      have hfz37_1 := blk_frozen BK170.out 1
                      have hfz37_2 := blk_frozen BK170.out 2
                      have hfz37_3 := blk_frozen BK170.out 3
                      have hfz37_4 := blk_frozen BK170.out 4
                      have hfz37_5 := blk_frozen BK170.out 5
                      have hfz37_6 := blk_frozen BK170.out 6
                      have hfz37_7 := blk_frozen BK170.out 7
                      have hfz37_8 := blk_frozen BK170.out 8
                      have hfz37_9 := blk_frozen BK170.out 9
                      have hfz37_10 := blk_frozen BK170.out 10
                      have hfz37_11 := blk_frozen BK170.out 11
                      have hfz37_12 := blk_frozen BK170.out 12
                      have hfz37_13 := blk_frozen BK170.out 13
                      have hfz37_14 := blk_frozen BK170.out 14
                      go_wp2_with (first | ((with_reducible refine gate_callee (f := 42) rfl ?_); refine goesL_ (some 69) rfl rfl Try.func42 (by kernel_rfl) rfl #[.int .i64 D3, .int .i64 D6] rfl (by (try simp only [List.map_toArray, List.map_cons, List.map_nil]); first | done | rfl | (simp only [List.length_drop, List.length_take]; rfl)) ?_; (with_reducible refine (pacemakerref09_sized.calls D3 D6 true _ A30.out).mono ?_); rintro e w' ⟨rfl, ⟨nd, rfl⟩⟩; refine ⟨_, rfl, ?_⟩) | (go_at_call 42; (with_reducible refine (pacemakerref09_sized.calls D4 D7 true _ A32.out).mono ?_); rintro e w' ⟨rfl, ⟨nd, rfl⟩⟩) | (go_at_call 42; (with_reducible refine (pacemakerref09_sized.calls D5 D8 false _ A34.out).mono ?_); rintro e w' ⟨rfl, ⟨nd, rfl⟩⟩))
                      go_meet
                      case rel => exact ⟨_, (true), (by first | rfl | (simp; done) | (simp [*]; done)), H', ⟨by have := HJ1.out; have := HJ15.out; first | omega | exact Nat.le_refl _⟩, ⟨by (with_reducible repeat (first | refine blk_drewN ?_ _ | refine blk_drew ?_ | refine blk_alloc ?_ _)); exact BK170.out⟩, ⟨by repeat (first | (with_reducible first | exact HB.out | apply below_alloc | apply pw_below_drewN | apply below_drew1 | refine below_set ?_ GE170.out) | exact HB.out)⟩⟩
                  · replace c33 := Bool.eq_false_iff.mpr c33
                    subst c33
                    rw [if_neg (show ¬ (false = true) by decide)] at H
                    have H' := Aside0.mk H
                    clear H
                    have hcz38_0 : wc.cell? ⟨gb170, 0, none⟩ = some (.int .i64 D0) := (blk_cell BK170.out 0).trans rfl
                    have hcz38_1 : wc.cell? ⟨gb170, 1, none⟩ = some (.int .i64 D1) := (blk_cell BK170.out 1).trans rfl
                    have hcz38_2 : wc.cell? ⟨gb170, 2, none⟩ = some (.int .i64 D2) := (blk_cell BK170.out 2).trans rfl
                    have hcz38_3 : wc.cell? ⟨gb170, 3, none⟩ = some (.int .i64 D3) := (blk_cell BK170.out 3).trans rfl
                    have hcz38_4 : wc.cell? ⟨gb170, 4, none⟩ = some (.int .i64 D4) := (blk_cell BK170.out 4).trans rfl
                    have hcz38_5 : wc.cell? ⟨gb170, 5, none⟩ = some (.int .i64 D5) := (blk_cell BK170.out 5).trans rfl
                    have hcz38_6 : wc.cell? ⟨gb170, 6, none⟩ = some (.int .i64 D6) := (blk_cell BK170.out 6).trans rfl
                    have hcz38_7 : wc.cell? ⟨gb170, 7, none⟩ = some (.int .i64 D7) := (blk_cell BK170.out 7).trans rfl
                    have hcz38_8 : wc.cell? ⟨gb170, 8, none⟩ = some (.int .i64 D8) := (blk_cell BK170.out 8).trans rfl
                    have hcz38_9 : wc.cell? ⟨gb170, 9, none⟩ = some (.int .i64 D9) := (blk_cell BK170.out 9).trans rfl
                    have hcz38_10 : wc.cell? ⟨gb170, 10, none⟩ = some (.int .i64 D10) := (blk_cell BK170.out 10).trans rfl
                    have hcz38_11 : wc.cell? ⟨gb170, 11, none⟩ = some (.int .i64 D11) := (blk_cell BK170.out 11).trans rfl
                    have hcz38_12 : wc.cell? ⟨gb170, 12, none⟩ = some (.int .i64 D12) := (blk_cell BK170.out 12).trans rfl
                    have hcz38_13 : wc.cell? ⟨gb170, 13, none⟩ = some (.int .i64 D13) := (blk_cell BK170.out 13).trans rfl
                    have hcz38_14 : wc.cell? ⟨gb170, 14, none⟩ = some (.int .i64 D14) := (blk_cell BK170.out 14).trans rfl
                    have hfz38_0 := blk_frozen BK170.out 0
                    have hfz38_1 := blk_frozen BK170.out 1
                    have hfz38_2 := blk_frozen BK170.out 2
                    have hfz38_3 := blk_frozen BK170.out 3
                    have hfz38_4 := blk_frozen BK170.out 4
                    have hfz38_5 := blk_frozen BK170.out 5
                    have hfz38_6 := blk_frozen BK170.out 6
                    have hfz38_7 := blk_frozen BK170.out 7
                    have hfz38_8 := blk_frozen BK170.out 8
                    have hfz38_9 := blk_frozen BK170.out 9
                    have hfz38_10 := blk_frozen BK170.out 10
                    have hfz38_11 := blk_frozen BK170.out 11
                    have hfz38_12 := blk_frozen BK170.out 12
                    have hfz38_13 := blk_frozen BK170.out 13
                    have hfz38_14 := blk_frozen BK170.out 14
                    go_wp2_with (first | ((with_reducible refine gate_callee (f := 42) rfl ?_); refine goesL_ (some 69) rfl rfl Try.func42 (by kernel_rfl) rfl #[.int .i64 D3, .int .i64 D6] rfl (by (try simp only [List.map_toArray, List.map_cons, List.map_nil]); first | done | rfl | (simp only [List.length_drop, List.length_take]; rfl)) ?_; (with_reducible refine (pacemakerref09_sized.calls D3 D6 true _ A30.out).mono ?_); rintro e w' ⟨rfl, ⟨nd, rfl⟩⟩; refine ⟨_, rfl, ?_⟩) | (go_at_call 42; (with_reducible refine (pacemakerref09_sized.calls D4 D7 false _ A32.out).mono ?_); rintro e w' ⟨rfl, ⟨nd, rfl⟩⟩))
                    go_meet
                    case rel => exact ⟨_, (true), (by first | rfl | (simp; done) | (simp [*]; done)), H', ⟨by have := HJ1.out; have := HJ15.out; first | omega | exact Nat.le_refl _⟩, ⟨by (with_reducible repeat (first | refine blk_drewN ?_ _ | refine blk_drew ?_ | refine blk_alloc ?_ _)); exact BK170.out⟩, ⟨by repeat (first | (with_reducible first | exact HB.out | apply below_alloc | apply pw_below_drewN | apply below_drew1 | refine below_set ?_ GE170.out) | exact HB.out)⟩⟩
                · replace c31 := Bool.eq_false_iff.mpr c31
                  subst c31
                  rw [if_neg (show ¬ (false = true) by decide)] at H
                  have H' := Aside0.mk H
                  clear H
                  have hcz39_0 : wc.cell? ⟨gb170, 0, none⟩ = some (.int .i64 D0) := (blk_cell BK170.out 0).trans rfl
                  have hcz39_1 : wc.cell? ⟨gb170, 1, none⟩ = some (.int .i64 D1) := (blk_cell BK170.out 1).trans rfl
                  have hcz39_2 : wc.cell? ⟨gb170, 2, none⟩ = some (.int .i64 D2) := (blk_cell BK170.out 2).trans rfl
                  have hcz39_3 : wc.cell? ⟨gb170, 3, none⟩ = some (.int .i64 D3) := (blk_cell BK170.out 3).trans rfl
                  have hcz39_4 : wc.cell? ⟨gb170, 4, none⟩ = some (.int .i64 D4) := (blk_cell BK170.out 4).trans rfl
                  have hcz39_5 : wc.cell? ⟨gb170, 5, none⟩ = some (.int .i64 D5) := (blk_cell BK170.out 5).trans rfl
                  have hcz39_6 : wc.cell? ⟨gb170, 6, none⟩ = some (.int .i64 D6) := (blk_cell BK170.out 6).trans rfl
                  have hcz39_7 : wc.cell? ⟨gb170, 7, none⟩ = some (.int .i64 D7) := (blk_cell BK170.out 7).trans rfl
                  have hcz39_8 : wc.cell? ⟨gb170, 8, none⟩ = some (.int .i64 D8) := (blk_cell BK170.out 8).trans rfl
                  have hcz39_9 : wc.cell? ⟨gb170, 9, none⟩ = some (.int .i64 D9) := (blk_cell BK170.out 9).trans rfl
                  have hcz39_10 : wc.cell? ⟨gb170, 10, none⟩ = some (.int .i64 D10) := (blk_cell BK170.out 10).trans rfl
                  have hcz39_11 : wc.cell? ⟨gb170, 11, none⟩ = some (.int .i64 D11) := (blk_cell BK170.out 11).trans rfl
                  have hcz39_12 : wc.cell? ⟨gb170, 12, none⟩ = some (.int .i64 D12) := (blk_cell BK170.out 12).trans rfl
                  have hcz39_13 : wc.cell? ⟨gb170, 13, none⟩ = some (.int .i64 D13) := (blk_cell BK170.out 13).trans rfl
                  have hcz39_14 : wc.cell? ⟨gb170, 14, none⟩ = some (.int .i64 D14) := (blk_cell BK170.out 14).trans rfl
                  have hfz39_0 := blk_frozen BK170.out 0
                  have hfz39_1 := blk_frozen BK170.out 1
                  have hfz39_2 := blk_frozen BK170.out 2
                  have hfz39_3 := blk_frozen BK170.out 3
                  have hfz39_4 := blk_frozen BK170.out 4
                  have hfz39_5 := blk_frozen BK170.out 5
                  have hfz39_6 := blk_frozen BK170.out 6
                  have hfz39_7 := blk_frozen BK170.out 7
                  have hfz39_8 := blk_frozen BK170.out 8
                  have hfz39_9 := blk_frozen BK170.out 9
                  have hfz39_10 := blk_frozen BK170.out 10
                  have hfz39_11 := blk_frozen BK170.out 11
                  have hfz39_12 := blk_frozen BK170.out 12
                  have hfz39_13 := blk_frozen BK170.out 13
                  have hfz39_14 := blk_frozen BK170.out 14
                  go_wp2_with (first | ((with_reducible refine gate_callee (f := 42) rfl ?_); refine goesL_ (some 69) rfl rfl Try.func42 (by kernel_rfl) rfl #[.int .i64 D3, .int .i64 D6] rfl (by (try simp only [List.map_toArray, List.map_cons, List.map_nil]); first | done | rfl | (simp only [List.length_drop, List.length_take]; rfl)) ?_; (with_reducible refine (pacemakerref09_sized.calls D3 D6 false _ A30.out).mono ?_); rintro e w' ⟨rfl, ⟨nd, rfl⟩⟩; refine ⟨_, rfl, ?_⟩))
                  go_meet
                  case rel => exact ⟨_, (true), (by first | rfl | (simp; done) | (simp [*]; done)), H', ⟨by have := HJ1.out; have := HJ15.out; first | omega | exact Nat.le_refl _⟩, ⟨by (with_reducible repeat (first | refine blk_drewN ?_ _ | refine blk_drew ?_ | refine blk_alloc ?_ _)); exact BK170.out⟩, ⟨by repeat (first | (with_reducible first | exact HB.out | apply below_alloc | apply pw_below_drewN | apply below_drew1 | refine below_set ?_ GE170.out) | exact HB.out)⟩⟩
              case rest =>
                clear HC29
                repeat first | clear c1 | clear c2 | clear p2 | clear c3 | clear c4 | clear c4b0 | clear p6 | clear c7 | clear c8 | clear c8b0 | clear c8b1 | clear c11 | clear c15 | clear c17 | clear c17b0 | clear c19 | clear c19b0 | clear c21 | clear c21b0 | clear c23 | clear c23b0 | clear c25 | clear c25b0 | clear c28 | clear c31 | clear c33 | clear c35 | clear hcz12_0 | clear hcz12_1 | clear hcz12_10 | clear hcz12_11 | clear hcz12_12 | clear hcz12_13 | clear hcz12_14 | clear hcz12_2 | clear hcz12_3 | clear hcz12_4 | clear hcz12_5 | clear hcz12_6 | clear hcz12_7 | clear hcz12_8 | clear hcz12_9 | clear hcz13_0 | clear hcz13_1 | clear hcz13_10 | clear hcz13_11 | clear hcz13_12 | clear hcz13_13 | clear hcz13_14 | clear hcz13_2 | clear hcz13_3 | clear hcz13_4 | clear hcz13_5 | clear hcz13_6 | clear hcz13_7 | clear hcz13_8 | clear hcz13_9 | clear hcz14_0 | clear hcz14_1 | clear hcz14_10 | clear hcz14_11 | clear hcz14_12 | clear hcz14_13 | clear hcz14_14 | clear hcz14_2 | clear hcz14_3 | clear hcz14_4 | clear hcz14_5 | clear hcz14_6 | clear hcz14_7 | clear hcz14_8 | clear hcz14_9 | clear hcz18_0 | clear hcz18_1 | clear hcz18_10 | clear hcz18_11 | clear hcz18_12 | clear hcz18_13 | clear hcz18_14 | clear hcz18_2 | clear hcz18_3 | clear hcz18_4 | clear hcz18_5 | clear hcz18_6 | clear hcz18_7 | clear hcz18_8 | clear hcz18_9 | clear hcz20_0 | clear hcz20_1 | clear hcz20_10 | clear hcz20_11 | clear hcz20_12 | clear hcz20_13 | clear hcz20_14 | clear hcz20_2 | clear hcz20_3 | clear hcz20_4 | clear hcz20_5 | clear hcz20_6 | clear hcz20_7 | clear hcz20_8 | clear hcz20_9 | clear hcz22_0 | clear hcz22_1 | clear hcz22_10 | clear hcz22_11 | clear hcz22_12 | clear hcz22_13 | clear hcz22_14 | clear hcz22_2 | clear hcz22_3 | clear hcz22_4 | clear hcz22_5 | clear hcz22_6 | clear hcz22_7 | clear hcz22_8 | clear hcz22_9 | clear hcz24_0 | clear hcz24_1 | clear hcz24_10 | clear hcz24_11 | clear hcz24_12 | clear hcz24_13 | clear hcz24_14 | clear hcz24_2 | clear hcz24_3 | clear hcz24_4 | clear hcz24_5 | clear hcz24_6 | clear hcz24_7 | clear hcz24_8 | clear hcz24_9 | clear hcz26_0 | clear hcz26_1 | clear hcz26_10 | clear hcz26_11 | clear hcz26_12 | clear hcz26_13 | clear hcz26_14 | clear hcz26_2 | clear hcz26_3 | clear hcz26_4 | clear hcz26_5 | clear hcz26_6 | clear hcz26_7 | clear hcz26_8 | clear hcz26_9 | clear hcz27_0 | clear hcz27_1 | clear hcz27_10 | clear hcz27_11 | clear hcz27_12 | clear hcz27_13 | clear hcz27_14 | clear hcz27_2 | clear hcz27_3 | clear hcz27_4 | clear hcz27_5 | clear hcz27_6 | clear hcz27_7 | clear hcz27_8 | clear hcz27_9 | clear hcz36_0 | clear hcz36_1 | clear hcz36_10 | clear hcz36_11 | clear hcz36_12 | clear hcz36_13 | clear hcz36_14 | clear hcz36_2 | clear hcz36_3 | clear hcz36_4 | clear hcz36_5 | clear hcz36_6 | clear hcz36_7 | clear hcz36_8 | clear hcz36_9 | clear hcz37_0 | clear hcz37_1 | clear hcz37_10 | clear hcz37_11 | clear hcz37_12 | clear hcz37_13 | clear hcz37_14 | clear hcz37_2 | clear hcz37_3 | clear hcz37_4 | clear hcz37_5 | clear hcz37_6 | clear hcz37_7 | clear hcz37_8 | clear hcz37_9 | clear hcz38_0 | clear hcz38_1 | clear hcz38_10 | clear hcz38_11 | clear hcz38_12 | clear hcz38_13 | clear hcz38_14 | clear hcz38_2 | clear hcz38_3 | clear hcz38_4 | clear hcz38_5 | clear hcz38_6 | clear hcz38_7 | clear hcz38_8 | clear hcz38_9 | clear hcz39_0 | clear hcz39_1 | clear hcz39_10 | clear hcz39_11 | clear hcz39_12 | clear hcz39_13 | clear hcz39_14 | clear hcz39_2 | clear hcz39_3 | clear hcz39_4 | clear hcz39_5 | clear hcz39_6 | clear hcz39_7 | clear hcz39_8 | clear hcz39_9 | clear hcz5_0 | clear hcz5_1 | clear hcz5_10 | clear hcz5_11 | clear hcz5_12 | clear hcz5_13 | clear hcz5_14 | clear hcz5_2 | clear hcz5_3 | clear hcz5_4 | clear hcz5_5 | clear hcz5_6 | clear hcz5_7 | clear hcz5_8 | clear hcz5_9 | clear hcz9_0 | clear hcz9_1 | clear hcz9_10 | clear hcz9_11 | clear hcz9_12 | clear hcz9_13 | clear hcz9_14 | clear hcz9_2 | clear hcz9_3 | clear hcz9_4 | clear hcz9_5 | clear hcz9_6 | clear hcz9_7 | clear hcz9_8 | clear hcz9_9 | clear hfz12_0 | clear hfz12_1 | clear hfz12_10 | clear hfz12_11 | clear hfz12_12 | clear hfz12_13 | clear hfz12_14 | clear hfz12_2 | clear hfz12_3 | clear hfz12_4 | clear hfz12_5 | clear hfz12_6 | clear hfz12_7 | clear hfz12_8 | clear hfz12_9 | clear hfz13_0 | clear hfz13_1 | clear hfz13_10 | clear hfz13_11 | clear hfz13_12 | clear hfz13_13 | clear hfz13_14 | clear hfz13_2 | clear hfz13_3 | clear hfz13_4 | clear hfz13_5 | clear hfz13_6 | clear hfz13_7 | clear hfz13_8 | clear hfz13_9 | clear hfz14_0 | clear hfz14_1 | clear hfz14_10 | clear hfz14_11 | clear hfz14_12 | clear hfz14_13 | clear hfz14_14 | clear hfz14_2 | clear hfz14_3 | clear hfz14_4 | clear hfz14_5 | clear hfz14_6 | clear hfz14_7 | clear hfz14_8 | clear hfz14_9 | clear hfz18_0 | clear hfz18_1 | clear hfz18_10 | clear hfz18_11 | clear hfz18_12 | clear hfz18_13 | clear hfz18_14 | clear hfz18_2 | clear hfz18_3 | clear hfz18_4 | clear hfz18_5 | clear hfz18_6 | clear hfz18_7 | clear hfz18_8 | clear hfz18_9 | clear hfz20_0 | clear hfz20_1 | clear hfz20_10 | clear hfz20_11 | clear hfz20_12 | clear hfz20_13 | clear hfz20_14 | clear hfz20_2 | clear hfz20_3 | clear hfz20_4 | clear hfz20_5 | clear hfz20_6 | clear hfz20_7 | clear hfz20_8 | clear hfz20_9 | clear hfz22_0 | clear hfz22_1 | clear hfz22_10 | clear hfz22_11 | clear hfz22_12 | clear hfz22_13 | clear hfz22_14 | clear hfz22_2 | clear hfz22_3 | clear hfz22_4 | clear hfz22_5 | clear hfz22_6 | clear hfz22_7 | clear hfz22_8 | clear hfz22_9 | clear hfz24_0 | clear hfz24_1 | clear hfz24_10 | clear hfz24_11 | clear hfz24_12 | clear hfz24_13 | clear hfz24_14 | clear hfz24_2 | clear hfz24_3 | clear hfz24_4 | clear hfz24_5 | clear hfz24_6 | clear hfz24_7 | clear hfz24_8 | clear hfz24_9 | clear hfz26_0 | clear hfz26_1 | clear hfz26_10 | clear hfz26_11 | clear hfz26_12 | clear hfz26_13 | clear hfz26_14 | clear hfz26_2 | clear hfz26_3 | clear hfz26_4 | clear hfz26_5 | clear hfz26_6 | clear hfz26_7 | clear hfz26_8 | clear hfz26_9 | clear hfz27_0 | clear hfz27_1 | clear hfz27_10 | clear hfz27_11 | clear hfz27_12 | clear hfz27_13 | clear hfz27_14 | clear hfz27_2 | clear hfz27_3 | clear hfz27_4 | clear hfz27_5 | clear hfz27_6 | clear hfz27_7 | clear hfz27_8 | clear hfz27_9 | clear hfz36_0 | clear hfz36_1 | clear hfz36_10 | clear hfz36_11 | clear hfz36_12 | clear hfz36_13 | clear hfz36_14 | clear hfz36_2 | clear hfz36_3 | clear hfz36_4 | clear hfz36_5 | clear hfz36_6 | clear hfz36_7 | clear hfz36_8 | clear hfz36_9 | clear hfz37_0 | clear hfz37_1 | clear hfz37_10 | clear hfz37_11 | clear hfz37_12 | clear hfz37_13 | clear hfz37_14 | clear hfz37_2 | clear hfz37_3 | clear hfz37_4 | clear hfz37_5 | clear hfz37_6 | clear hfz37_7 | clear hfz37_8 | clear hfz37_9 | clear hfz38_0 | clear hfz38_1 | clear hfz38_10 | clear hfz38_11 | clear hfz38_12 | clear hfz38_13 | clear hfz38_14 | clear hfz38_2 | clear hfz38_3 | clear hfz38_4 | clear hfz38_5 | clear hfz38_6 | clear hfz38_7 | clear hfz38_8 | clear hfz38_9 | clear hfz39_0 | clear hfz39_1 | clear hfz39_10 | clear hfz39_11 | clear hfz39_12 | clear hfz39_13 | clear hfz39_14 | clear hfz39_2 | clear hfz39_3 | clear hfz39_4 | clear hfz39_5 | clear hfz39_6 | clear hfz39_7 | clear hfz39_8 | clear hfz39_9 | clear hfz5_0 | clear hfz5_1 | clear hfz5_10 | clear hfz5_11 | clear hfz5_12 | clear hfz5_13 | clear hfz5_14 | clear hfz5_2 | clear hfz5_3 | clear hfz5_4 | clear hfz5_5 | clear hfz5_6 | clear hfz5_7 | clear hfz5_8 | clear hfz5_9 | clear hfz9_0 | clear hfz9_1 | clear hfz9_10 | clear hfz9_11 | clear hfz9_12 | clear hfz9_13 | clear hfz9_14 | clear hfz9_2 | clear hfz9_3 | clear hfz9_4 | clear hfz9_5 | clear hfz9_6 | clear hfz9_7 | clear hfz9_8 | clear hfz9_9 | clear p2 | clear p6
                obtain ⟨kq, x96_28, rfl, HA, HJ28, BK170, HB⟩ := hcut
                cases kq with
                | zero => exact absurd HA.out (by simp [pacemakerref09_Is.j2])
                | succ kj28 =>
                  have H := HA.out
                  clear HA
                  simp only [pacemakerref09_Is.j2] at H
                  by_cases c40 : x96_28 = true
                  · subst c40
                    rw [if_pos rfl] at H
                    obtain rfl := Option.some.inj H
                    go_wp2
                    go_ret
                    exact ⟨by first | rfl | (simp [errW_none, errW_some] <;> rfl) | (simp [*, errW_none, errW_some] <;> rfl), by repeat (first | (with_reducible first | exact HB.out | apply below_alloc | apply pw_below_drewN | apply below_drew1 | refine below_set ?_ GE170.out) | exact HB.out)⟩
                  · replace c40 := Bool.eq_false_iff.mpr c40
                    subst c40
                    rw [if_neg (show ¬ (false = true) by decide)] at H
                    by_cases c41 : (((wrap64 (D4 + D5)) == D3) != ((wrap64 (D7 + D8)) == D6)) = true
                    · rw [if_pos c41] at H
                      have c41b0 : (((wrap64 (D4 + D5)) == D3) != ((wrap64 (D7 + D8)) == D6)) = true := c41
                      (try (have c41b1 : decide (((wrap64 (D4 + D5)) == D3) = ((wrap64 (D7 + D8)) == D6)) = false := by simpa using c41))
                      (try (have c41b2 : (((wrap64 (D4 + D5)) == D3) == ((wrap64 (D7 + D8)) == D6)) = false := by simpa using c41))
                      (try (have c41b3 : ¬ (((wrap64 (D4 + D5)) == D3) = ((wrap64 (D7 + D8)) == D6)) := by simpa using c41))
                      clear c41
                      obtain rfl := Option.some.inj H
                      have hcz42_0 : wc.cell? ⟨gb170, 0, none⟩ = some (.int .i64 D0) := (blk_cell BK170.out 0).trans rfl
                      have hcz42_1 : wc.cell? ⟨gb170, 1, none⟩ = some (.int .i64 D1) := (blk_cell BK170.out 1).trans rfl
                      have hcz42_2 : wc.cell? ⟨gb170, 2, none⟩ = some (.int .i64 D2) := (blk_cell BK170.out 2).trans rfl
                      have hcz42_3 : wc.cell? ⟨gb170, 3, none⟩ = some (.int .i64 D3) := (blk_cell BK170.out 3).trans rfl
                      have hcz42_4 : wc.cell? ⟨gb170, 4, none⟩ = some (.int .i64 D4) := (blk_cell BK170.out 4).trans rfl
                      have hcz42_5 : wc.cell? ⟨gb170, 5, none⟩ = some (.int .i64 D5) := (blk_cell BK170.out 5).trans rfl
                      have hcz42_6 : wc.cell? ⟨gb170, 6, none⟩ = some (.int .i64 D6) := (blk_cell BK170.out 6).trans rfl
                      have hcz42_7 : wc.cell? ⟨gb170, 7, none⟩ = some (.int .i64 D7) := (blk_cell BK170.out 7).trans rfl
                      have hcz42_8 : wc.cell? ⟨gb170, 8, none⟩ = some (.int .i64 D8) := (blk_cell BK170.out 8).trans rfl
                      have hcz42_9 : wc.cell? ⟨gb170, 9, none⟩ = some (.int .i64 D9) := (blk_cell BK170.out 9).trans rfl
                      have hcz42_10 : wc.cell? ⟨gb170, 10, none⟩ = some (.int .i64 D10) := (blk_cell BK170.out 10).trans rfl
                      have hcz42_11 : wc.cell? ⟨gb170, 11, none⟩ = some (.int .i64 D11) := (blk_cell BK170.out 11).trans rfl
                      have hcz42_12 : wc.cell? ⟨gb170, 12, none⟩ = some (.int .i64 D12) := (blk_cell BK170.out 12).trans rfl
                      have hcz42_13 : wc.cell? ⟨gb170, 13, none⟩ = some (.int .i64 D13) := (blk_cell BK170.out 13).trans rfl
                      have hcz42_14 : wc.cell? ⟨gb170, 14, none⟩ = some (.int .i64 D14) := (blk_cell BK170.out 14).trans rfl
                      have hfz42_0 := blk_frozen BK170.out 0
                      have hfz42_1 := blk_frozen BK170.out 1
                      have hfz42_2 := blk_frozen BK170.out 2
                      have hfz42_3 := blk_frozen BK170.out 3
                      have hfz42_4 := blk_frozen BK170.out 4
                      have hfz42_5 := blk_frozen BK170.out 5
                      have hfz42_6 := blk_frozen BK170.out 6
                      have hfz42_7 := blk_frozen BK170.out 7
                      have hfz42_8 := blk_frozen BK170.out 8
                      have hfz42_9 := blk_frozen BK170.out 9
                      have hfz42_10 := blk_frozen BK170.out 10
                      have hfz42_11 := blk_frozen BK170.out 11
                      have hfz42_12 := blk_frozen BK170.out 12
                      have hfz42_13 := blk_frozen BK170.out 13
                      have hfz42_14 := blk_frozen BK170.out 14
                      go_wp2
                      go_ret
                      exact ⟨by first | rfl | (simp [errW_none, errW_some] <;> rfl) | (simp [*, errW_none, errW_some] <;> rfl), by repeat (first | (with_reducible first | exact HB.out | apply below_alloc | apply pw_below_drewN | apply below_drew1 | refine below_set ?_ GE170.out) | exact HB.out)⟩
                    · rw [if_neg c41] at H
                      have c41b0 : (((wrap64 (D4 + D5)) == D3) != ((wrap64 (D7 + D8)) == D6)) = false := by simpa using c41
                      (try (have c41b1 : decide (((wrap64 (D4 + D5)) == D3) = ((wrap64 (D7 + D8)) == D6)) = true := by simpa using c41))
                      (try (have c41b2 : (((wrap64 (D4 + D5)) == D3) == ((wrap64 (D7 + D8)) == D6)) = true := by simpa using c41))
                      clear c41
                      by_cases c43 : D9 ≥ 0
                      · rw [if_pos c43] at H
                        have c43b0 : decide (0 ≤ D9) = true := decide_eq_true c43
                        clear c43
                        by_cases c44 : D9 ≤ 1024
                        · rw [if_pos c44] at H
                          have c44b0 : decide (D9 ≤ 1024) = true := decide_eq_true c44
                          clear c44
                          by_cases c45 : D9 ≤ D7
                          · rw [if_pos c45] at H
                            have c45b0 : decide (D9 ≤ D7) = true := decide_eq_true c45
                            clear c45
                            replace H := Option.bind_eq_some_iff.mp H
                            obtain ⟨t176, A460, H⟩ := H
                            try dsimp only at H
                            have A46 := Aside0.mk A460
                            clear A460
                            obtain rfl := Option.some.inj H
                            have hcz47_0 : wc.cell? ⟨gb170, 0, none⟩ = some (.int .i64 D0) := (blk_cell BK170.out 0).trans rfl
                            have hcz47_1 : wc.cell? ⟨gb170, 1, none⟩ = some (.int .i64 D1) := (blk_cell BK170.out 1).trans rfl
                            have hcz47_2 : wc.cell? ⟨gb170, 2, none⟩ = some (.int .i64 D2) := (blk_cell BK170.out 2).trans rfl
                            have hcz47_3 : wc.cell? ⟨gb170, 3, none⟩ = some (.int .i64 D3) := (blk_cell BK170.out 3).trans rfl
                            have hcz47_4 : wc.cell? ⟨gb170, 4, none⟩ = some (.int .i64 D4) := (blk_cell BK170.out 4).trans rfl
                            have hcz47_5 : wc.cell? ⟨gb170, 5, none⟩ = some (.int .i64 D5) := (blk_cell BK170.out 5).trans rfl
                            have hcz47_6 : wc.cell? ⟨gb170, 6, none⟩ = some (.int .i64 D6) := (blk_cell BK170.out 6).trans rfl
                            have hcz47_7 : wc.cell? ⟨gb170, 7, none⟩ = some (.int .i64 D7) := (blk_cell BK170.out 7).trans rfl
                            have hcz47_8 : wc.cell? ⟨gb170, 8, none⟩ = some (.int .i64 D8) := (blk_cell BK170.out 8).trans rfl
                            have hcz47_9 : wc.cell? ⟨gb170, 9, none⟩ = some (.int .i64 D9) := (blk_cell BK170.out 9).trans rfl
                            have hcz47_10 : wc.cell? ⟨gb170, 10, none⟩ = some (.int .i64 D10) := (blk_cell BK170.out 10).trans rfl
                            have hcz47_11 : wc.cell? ⟨gb170, 11, none⟩ = some (.int .i64 D11) := (blk_cell BK170.out 11).trans rfl
                            have hcz47_12 : wc.cell? ⟨gb170, 12, none⟩ = some (.int .i64 D12) := (blk_cell BK170.out 12).trans rfl
                            have hcz47_13 : wc.cell? ⟨gb170, 13, none⟩ = some (.int .i64 D13) := (blk_cell BK170.out 13).trans rfl
                            have hcz47_14 : wc.cell? ⟨gb170, 14, none⟩ = some (.int .i64 D14) := (blk_cell BK170.out 14).trans rfl
                            have hfz47_0 := blk_frozen BK170.out 0
                            have hfz47_1 := blk_frozen BK170.out 1
                            have hfz47_2 := blk_frozen BK170.out 2
                            have hfz47_3 := blk_frozen BK170.out 3
                            have hfz47_4 := blk_frozen BK170.out 4
                            have hfz47_5 := blk_frozen BK170.out 5
                            have hfz47_6 := blk_frozen BK170.out 6
                            have hfz47_7 := blk_frozen BK170.out 7
                            have hfz47_8 := blk_frozen BK170.out 8
                            have hfz47_9 := blk_frozen BK170.out 9
                            have hfz47_10 := blk_frozen BK170.out 10
                            have hfz47_11 := blk_frozen BK170.out 11
                            have hfz47_12 := blk_frozen BK170.out 12
                            have hfz47_13 := blk_frozen BK170.out 13
                            have hfz47_14 := blk_frozen BK170.out 14
                            go_wp2_with (first | (go_at_call 43; (with_reducible refine (pacemakerref09_sums.calls D0 D1 D2 D3 D4 D5 D6 D7 D8 D9 D10 D11 D12 D13 D14 t176 _ A46.out).mono ?_); rintro e w48 ⟨rfl, hb⟩; have n0_ := Aside0.mk (blk_below (g := gb170) (by (with_reducible repeat (first | refine blk_drewN ?_ _ | refine blk_drew ?_ | refine blk_alloc ?_ _)); exact BK170.out) hb); have n1_ := Aside0.mk (below_step (by repeat (first | (with_reducible first | exact HB.out | apply below_alloc | apply pw_below_drewN | apply below_drew1 | refine below_set ?_ GE170.out) | exact HB.out)) hb); clear BK170; clear HB; have BK170 := n0_; have HB := n1_; clear n0_ n1_; (try clear hb); (try clear hb2); (try clear hk); (try clear hi)))
                            go_ret
                            exact ⟨by first | rfl | (simp [errW_none, errW_some] <;> rfl) | (simp [*, errW_none, errW_some] <;> rfl), by repeat (first | (with_reducible first | exact HB.out | apply below_alloc | apply pw_below_drewN | apply below_drew1 | refine below_set ?_ GE170.out) | exact HB.out)⟩
                          · rw [if_neg c45] at H
                            have c45b0 : decide (D9 ≤ D7) = false := decide_eq_false c45
                            clear c45
                            obtain rfl := Option.some.inj H
                            have hcz49_0 : wc.cell? ⟨gb170, 0, none⟩ = some (.int .i64 D0) := (blk_cell BK170.out 0).trans rfl
                            have hcz49_1 : wc.cell? ⟨gb170, 1, none⟩ = some (.int .i64 D1) := (blk_cell BK170.out 1).trans rfl
                            have hcz49_2 : wc.cell? ⟨gb170, 2, none⟩ = some (.int .i64 D2) := (blk_cell BK170.out 2).trans rfl
                            have hcz49_3 : wc.cell? ⟨gb170, 3, none⟩ = some (.int .i64 D3) := (blk_cell BK170.out 3).trans rfl
                            have hcz49_4 : wc.cell? ⟨gb170, 4, none⟩ = some (.int .i64 D4) := (blk_cell BK170.out 4).trans rfl
                            have hcz49_5 : wc.cell? ⟨gb170, 5, none⟩ = some (.int .i64 D5) := (blk_cell BK170.out 5).trans rfl
                            have hcz49_6 : wc.cell? ⟨gb170, 6, none⟩ = some (.int .i64 D6) := (blk_cell BK170.out 6).trans rfl
                            have hcz49_7 : wc.cell? ⟨gb170, 7, none⟩ = some (.int .i64 D7) := (blk_cell BK170.out 7).trans rfl
                            have hcz49_8 : wc.cell? ⟨gb170, 8, none⟩ = some (.int .i64 D8) := (blk_cell BK170.out 8).trans rfl
                            have hcz49_9 : wc.cell? ⟨gb170, 9, none⟩ = some (.int .i64 D9) := (blk_cell BK170.out 9).trans rfl
                            have hcz49_10 : wc.cell? ⟨gb170, 10, none⟩ = some (.int .i64 D10) := (blk_cell BK170.out 10).trans rfl
                            have hcz49_11 : wc.cell? ⟨gb170, 11, none⟩ = some (.int .i64 D11) := (blk_cell BK170.out 11).trans rfl
                            have hcz49_12 : wc.cell? ⟨gb170, 12, none⟩ = some (.int .i64 D12) := (blk_cell BK170.out 12).trans rfl
                            have hcz49_13 : wc.cell? ⟨gb170, 13, none⟩ = some (.int .i64 D13) := (blk_cell BK170.out 13).trans rfl
                            have hcz49_14 : wc.cell? ⟨gb170, 14, none⟩ = some (.int .i64 D14) := (blk_cell BK170.out 14).trans rfl
                            have hfz49_0 := blk_frozen BK170.out 0
                            have hfz49_1 := blk_frozen BK170.out 1
                            have hfz49_2 := blk_frozen BK170.out 2
                            have hfz49_3 := blk_frozen BK170.out 3
                            have hfz49_4 := blk_frozen BK170.out 4
                            have hfz49_5 := blk_frozen BK170.out 5
                            have hfz49_6 := blk_frozen BK170.out 6
                            have hfz49_7 := blk_frozen BK170.out 7
                            have hfz49_8 := blk_frozen BK170.out 8
                            have hfz49_9 := blk_frozen BK170.out 9
                            have hfz49_10 := blk_frozen BK170.out 10
                            have hfz49_11 := blk_frozen BK170.out 11
                            have hfz49_12 := blk_frozen BK170.out 12
                            have hfz49_13 := blk_frozen BK170.out 13
                            have hfz49_14 := blk_frozen BK170.out 14
                            go_wp2
                            go_ret
                            exact ⟨by first | rfl | (simp [errW_none, errW_some] <;> rfl) | (simp [*, errW_none, errW_some] <;> rfl), by repeat (first | (with_reducible first | exact HB.out | apply below_alloc | apply pw_below_drewN | apply below_drew1 | refine below_set ?_ GE170.out) | exact HB.out)⟩
                        · rw [if_neg c44] at H
                          have c44b0 : decide (D9 ≤ 1024) = false := decide_eq_false c44
                          clear c44
                          obtain rfl := Option.some.inj H
                          have hcz50_0 : wc.cell? ⟨gb170, 0, none⟩ = some (.int .i64 D0) := (blk_cell BK170.out 0).trans rfl
                          have hcz50_1 : wc.cell? ⟨gb170, 1, none⟩ = some (.int .i64 D1) := (blk_cell BK170.out 1).trans rfl
                          have hcz50_2 : wc.cell? ⟨gb170, 2, none⟩ = some (.int .i64 D2) := (blk_cell BK170.out 2).trans rfl
                          have hcz50_3 : wc.cell? ⟨gb170, 3, none⟩ = some (.int .i64 D3) := (blk_cell BK170.out 3).trans rfl
                          have hcz50_4 : wc.cell? ⟨gb170, 4, none⟩ = some (.int .i64 D4) := (blk_cell BK170.out 4).trans rfl
                          have hcz50_5 : wc.cell? ⟨gb170, 5, none⟩ = some (.int .i64 D5) := (blk_cell BK170.out 5).trans rfl
                          have hcz50_6 : wc.cell? ⟨gb170, 6, none⟩ = some (.int .i64 D6) := (blk_cell BK170.out 6).trans rfl
                          have hcz50_7 : wc.cell? ⟨gb170, 7, none⟩ = some (.int .i64 D7) := (blk_cell BK170.out 7).trans rfl
                          have hcz50_8 : wc.cell? ⟨gb170, 8, none⟩ = some (.int .i64 D8) := (blk_cell BK170.out 8).trans rfl
                          have hcz50_9 : wc.cell? ⟨gb170, 9, none⟩ = some (.int .i64 D9) := (blk_cell BK170.out 9).trans rfl
                          have hcz50_10 : wc.cell? ⟨gb170, 10, none⟩ = some (.int .i64 D10) := (blk_cell BK170.out 10).trans rfl
                          have hcz50_11 : wc.cell? ⟨gb170, 11, none⟩ = some (.int .i64 D11) := (blk_cell BK170.out 11).trans rfl
                          have hcz50_12 : wc.cell? ⟨gb170, 12, none⟩ = some (.int .i64 D12) := (blk_cell BK170.out 12).trans rfl
                          have hcz50_13 : wc.cell? ⟨gb170, 13, none⟩ = some (.int .i64 D13) := (blk_cell BK170.out 13).trans rfl
                          have hcz50_14 : wc.cell? ⟨gb170, 14, none⟩ = some (.int .i64 D14) := (blk_cell BK170.out 14).trans rfl
                          have hfz50_0 := blk_frozen BK170.out 0
                          have hfz50_1 := blk_frozen BK170.out 1
                          have hfz50_2 := blk_frozen BK170.out 2
                          have hfz50_3 := blk_frozen BK170.out 3
                          have hfz50_4 := blk_frozen BK170.out 4
                          have hfz50_5 := blk_frozen BK170.out 5
                          have hfz50_6 := blk_frozen BK170.out 6
                          have hfz50_7 := blk_frozen BK170.out 7
                          have hfz50_8 := blk_frozen BK170.out 8
                          have hfz50_9 := blk_frozen BK170.out 9
                          have hfz50_10 := blk_frozen BK170.out 10
                          have hfz50_11 := blk_frozen BK170.out 11
                          have hfz50_12 := blk_frozen BK170.out 12
                          have hfz50_13 := blk_frozen BK170.out 13
                          have hfz50_14 := blk_frozen BK170.out 14
                          go_wp2
                          go_ret
                          exact ⟨by first | rfl | (simp [errW_none, errW_some] <;> rfl) | (simp [*, errW_none, errW_some] <;> rfl), by repeat (first | (with_reducible first | exact HB.out | apply below_alloc | apply pw_below_drewN | apply below_drew1 | refine below_set ?_ GE170.out) | exact HB.out)⟩
                      · rw [if_neg c43] at H
                        have c43b0 : decide (0 ≤ D9) = false := decide_eq_false c43
                        clear c43
                        obtain rfl := Option.some.inj H
                        have hcz51_0 : wc.cell? ⟨gb170, 0, none⟩ = some (.int .i64 D0) := (blk_cell BK170.out 0).trans rfl
                        have hcz51_1 : wc.cell? ⟨gb170, 1, none⟩ = some (.int .i64 D1) := (blk_cell BK170.out 1).trans rfl
                        have hcz51_2 : wc.cell? ⟨gb170, 2, none⟩ = some (.int .i64 D2) := (blk_cell BK170.out 2).trans rfl
                        have hcz51_3 : wc.cell? ⟨gb170, 3, none⟩ = some (.int .i64 D3) := (blk_cell BK170.out 3).trans rfl
                        have hcz51_4 : wc.cell? ⟨gb170, 4, none⟩ = some (.int .i64 D4) := (blk_cell BK170.out 4).trans rfl
                        have hcz51_5 : wc.cell? ⟨gb170, 5, none⟩ = some (.int .i64 D5) := (blk_cell BK170.out 5).trans rfl
                        have hcz51_6 : wc.cell? ⟨gb170, 6, none⟩ = some (.int .i64 D6) := (blk_cell BK170.out 6).trans rfl
                        have hcz51_7 : wc.cell? ⟨gb170, 7, none⟩ = some (.int .i64 D7) := (blk_cell BK170.out 7).trans rfl
                        have hcz51_8 : wc.cell? ⟨gb170, 8, none⟩ = some (.int .i64 D8) := (blk_cell BK170.out 8).trans rfl
                        have hcz51_9 : wc.cell? ⟨gb170, 9, none⟩ = some (.int .i64 D9) := (blk_cell BK170.out 9).trans rfl
                        have hcz51_10 : wc.cell? ⟨gb170, 10, none⟩ = some (.int .i64 D10) := (blk_cell BK170.out 10).trans rfl
                        have hcz51_11 : wc.cell? ⟨gb170, 11, none⟩ = some (.int .i64 D11) := (blk_cell BK170.out 11).trans rfl
                        have hcz51_12 : wc.cell? ⟨gb170, 12, none⟩ = some (.int .i64 D12) := (blk_cell BK170.out 12).trans rfl
                        have hcz51_13 : wc.cell? ⟨gb170, 13, none⟩ = some (.int .i64 D13) := (blk_cell BK170.out 13).trans rfl
                        have hcz51_14 : wc.cell? ⟨gb170, 14, none⟩ = some (.int .i64 D14) := (blk_cell BK170.out 14).trans rfl
                        have hfz51_0 := blk_frozen BK170.out 0
                        have hfz51_1 := blk_frozen BK170.out 1
                        have hfz51_2 := blk_frozen BK170.out 2
                        have hfz51_3 := blk_frozen BK170.out 3
                        have hfz51_4 := blk_frozen BK170.out 4
                        have hfz51_5 := blk_frozen BK170.out 5
                        have hfz51_6 := blk_frozen BK170.out 6
                        have hfz51_7 := blk_frozen BK170.out 7
                        have hfz51_8 := blk_frozen BK170.out 8
                        have hfz51_9 := blk_frozen BK170.out 9
                        have hfz51_10 := blk_frozen BK170.out 10
                        have hfz51_11 := blk_frozen BK170.out 11
                        have hfz51_12 := blk_frozen BK170.out 12
                        have hfz51_13 := blk_frozen BK170.out 13
                        have hfz51_14 := blk_frozen BK170.out 14
                        go_wp2
                        go_ret
                        exact ⟨by first | rfl | (simp [errW_none, errW_some] <;> rfl) | (simp [*, errW_none, errW_some] <;> rfl), by repeat (first | (with_reducible first | exact HB.out | apply below_alloc | apply pw_below_drewN | apply below_drew1 | refine below_set ?_ GE170.out) | exact HB.out)⟩

end Go.Proofs.Ytlokmliannklaaa.Print
end
