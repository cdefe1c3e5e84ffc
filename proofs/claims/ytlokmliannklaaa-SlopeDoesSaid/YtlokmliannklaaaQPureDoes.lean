/- SlopeDoes without memory: whatever the account is, the law's function tells true. -/
import Derived.Test.YtlokmliannklaaaQPrint11d
import Derived.Test.YtlokmliannklaaaQPureRoot
import Derived.Test.YtlokmliannklaaaQPureS
section
namespace Go.Proofs.Ytlokmliannklaaa.Print
open Go.RowKit Go.Proofs.YtlokmliannklaaaW.PrintWords Go.Proofs.YtlokmliannklaaaW.PrintLast Go.Proofs.YtlokmliannklaaaW.PrintMore
set_option linter.unusedVariables false
set_option linter.unusedSimpArgs false

def tB (x : Int) : Bool := decide (0 ≤ x) && decide (x ≤ 1099511627776)
theorem atime_eq (x : Int) : account_time.f x = some (tB x) := by
  unfold account_time.f tB
  by_cases c : x ≥ 0
  · rw [if_pos c, decide_eq_true (show 0 ≤ x by omega), Bool.true_and]
  · rw [if_neg c, decide_eq_false (show ¬ 0 ≤ x by omega), Bool.false_and]
theorem rtime_eq (x : Int) : pacemakerref09_Time.f x = some (tB x) := by
  unfold pacemakerref09_Time.f tB
  by_cases c : x ≥ 0
  · rw [if_pos c, decide_eq_true (show 0 ≤ x by omega), Bool.true_and]
  · rw [if_neg c, decide_eq_false (show ¬ 0 ≤ x by omega), Bool.false_and]
def cB (p6 p7 p8 : Int) : Bool := decide (0 ≤ p6) && decide (p6 ≤ 1048576) && decide (0 ≤ p7) && decide (p7 ≤ p6) && decide (0 ≤ p8) && decide (p8 ≤ wrap64 (p6 - p7))
def bB (p3 p4 p5 p6 p7 p8 : Int) : Bool := fitB p3 p6 && fitB p4 p7 && fitB p5 p8 && decide (wrap64 (p4 + p5) ≤ p3)
def eB (p3 p4 p5 p6 p7 p8 : Int) : Bool := (wrap64 (p4 + p5) == p3) == (wrap64 (p7 + p8) == p6)
def sB (p7 p9 p10 p11 p12 p13 p14 : Int) : Bool := decide (0 ≤ p9) && decide (p9 ≤ 1024) && decide (p9 ≤ p7) && withinB p9 60000000 p10 && withinB p9 60000000 p11 && withinB p9 3600000000000000 p12 && withinB p9 3600000000000000 p13 && withinB p9 3600000000000000 p14
def rB (p0 p1 p2 p3 p4 p5 p6 p7 p8 p9 p10 p11 p12 p13 p14 : Int) : Bool := cB p6 p7 p8 && bB p3 p4 p5 p6 p7 p8 && eB p3 p4 p5 p6 p7 p8 && sB p7 p9 p10 p11 p12 p13 p14
theorem counts_eq (p0 p1 p2 p3 p4 p5 p6 p7 p8 p9 p10 p11 p12 p13 p14 : Int) : account_book_counts.f p0 p1 p2 p3 p4 p5 p6 p7 p8 p9 p10 p11 p12 p13 p14 = some (cB p6 p7 p8) := by
  unfold account_book_counts.f cB
  repeat' split
  all_goals
    congr 1
    rw [Bool.eq_iff_iff]
    simp only [Bool.and_eq_true, decide_eq_true_eq, Bool.false_eq_true, false_iff]
    omega
theorem acc_any (x : Bool) (k : Nat) (p0 p1 p2 p3 p4 p5 p6 p7 p8 p9 p10 p11 p12 p13 p14 : Int) : account_shut_right.j0 (k + 1) x p0 p1 p2 p3 p4 p5 p6 p7 p8 p9 p10 p11 p12 p13 p14 = some (!x && rB p0 p1 p2 p3 p4 p5 p6 p7 p8 p9 p10 p11 p12 p13 p14) := by
  simp only [account_shut_right.j0]
  cases x with
  | true => simp
  | false =>
    rw [if_neg (by decide), counts_eq]
    unfold account_book_bytes.f account_book_samples.f rB
    simp only [Option.bind_some, Bool.not_false, Bool.true_and]
    cases cB p6 p7 p8 with
    | false => simp
    | true =>
      have eb : (fitB p3 p6 && fitB p4 p7 && fitB p5 p8 && decide (wrap64 (p4 + p5) ≤ p3) && ((wrap64 (p4 + p5) == p3) == (wrap64 (p7 + p8) == p6))) = (bB p3 p4 p5 p6 p7 p8 && eB p3 p4 p5 p6 p7 p8) := rfl
      rw [eb]
      simp only [Bool.true_and, if_true]
      generalize (bB p3 p4 p5 p6 p7 p8 && eB p3 p4 p5 p6 p7 p8) = y
      cases y with
      | false => simp
      | true =>
        simp only [if_true, Bool.true_and]
        rfl
theorem sized_eq (b p : Int) : pacemakerref09_sized.f b p = some (fitB b p) := by
  unfold pacemakerref09_sized.f fitB
  rw [Int.mul_comm 9000 p]
  by_cases c : b ≥ p
  · rw [if_pos c, decide_eq_true (show p ≤ b by omega), Bool.true_and]
  · rw [if_neg c, decide_eq_false (show ¬ p ≤ b by omega), Bool.false_and]
theorem sums_eq (p0 p1 p2 p3 p4 p5 p6 p7 p8 p9 p10 p11 p12 p13 p14 : Int) (h0 : 0 ≤ p9) (h1 : p9 ≤ 1024) : pacemakerref09_sums.f p0 p1 p2 p3 p4 p5 p6 p7 p8 p9 p10 p11 p12 p13 p14 = some (withinB p9 60000000 p10 && withinB p9 60000000 p11 && withinB p9 3600000000000000 p12 && withinB p9 3600000000000000 p13 && withinB p9 3600000000000000 p14) := by
  unfold pacemakerref09_sums.f withinB
  rw [wrap_id (x := p9 * 60000000) (by omega) (by omega), wrap_id (x := p9 * 60000000 * 60000000) (by omega) (by omega), wrap_id (x := p9 * 3600000000000000) (by omega) (by omega)]
  repeat' split
  all_goals
    congr 1
    rw [Bool.eq_iff_iff]
    simp only [Bool.and_eq_true, decide_eq_true_eq, Bool.false_eq_true, false_iff]
    omega
theorem ref_j2 (k : Nat) (p0 p1 p2 p3 p4 p5 p6 p7 p8 p9 p10 p11 p12 p13 p14 : Int) : pacemakerref09_Is.j2 (k + 1) false p0 p1 p2 p3 p4 p5 p6 p7 p8 p9 p10 p11 p12 p13 p14 = some (eB p3 p4 p5 p6 p7 p8 && sB p7 p9 p10 p11 p12 p13 p14) := by
  simp only [pacemakerref09_Is.j2]
  rw [if_neg (by decide)]
  have en : ((wrap64 (p4 + p5) == p3) != (wrap64 (p7 + p8) == p6)) = !(eB p3 p4 p5 p6 p7 p8) := rfl
  rw [en]
  cases eB p3 p4 p5 p6 p7 p8 with
  | false => simp
  | true =>
    rw [if_neg (by decide)]
    unfold sB
    by_cases c1 : p9 ≥ 0
    · rw [if_pos c1]
      by_cases c2 : p9 ≤ 1024
      · rw [if_pos c2]
        by_cases c3 : p9 ≤ p7
        · rw [if_pos c3, sums_eq p0 p1 p2 p3 p4 p5 p6 p7 p8 p9 p10 p11 p12 p13 p14 c1 c2]
          simp only [Option.bind_some]
          rw [decide_eq_true (show 0 ≤ p9 from c1), decide_eq_true c2, decide_eq_true c3]
          simp
        · rw [if_neg c3, decide_eq_false c3]
          simp
      · rw [if_neg c2, decide_eq_false c2]
        simp
    · rw [if_neg c1, decide_eq_false (show ¬ 0 ≤ p9 from c1)]
      simp
theorem ref_j2t (k : Nat) (p0 p1 p2 p3 p4 p5 p6 p7 p8 p9 p10 p11 p12 p13 p14 : Int) : pacemakerref09_Is.j2 (k + 1) true p0 p1 p2 p3 p4 p5 p6 p7 p8 p9 p10 p11 p12 p13 p14 = some false := by
  simp only [pacemakerref09_Is.j2]
  simp
theorem ref_j1 (k : Nat) (p0 p1 p2 p3 p4 p5 p6 p7 p8 p9 p10 p11 p12 p13 p14 : Int) : pacemakerref09_Is.j1 (k + 1) false p0 p1 p2 p3 p4 p5 p6 p7 p8 p9 p10 p11 p12 p13 p14 = pacemakerref09_Is.j2 k (!(bB p3 p4 p5 p6 p7 p8)) p0 p1 p2 p3 p4 p5 p6 p7 p8 p9 p10 p11 p12 p13 p14 := by
  simp only [pacemakerref09_Is.j1]
  rw [if_neg (by decide), sized_eq, sized_eq, sized_eq]
  simp only [Option.bind_some]
  unfold bB
  cases fitB p3 p6 with
  | false => simp
  | true =>
    cases fitB p4 p7 with
    | false => simp
    | true =>
      cases fitB p5 p8 with
      | false => simp
      | true =>
        simp only [if_true, Bool.true_and]
        congr 1
        by_cases c : wrap64 (p4 + p5) ≤ p3
        · rw [decide_eq_true c, decide_eq_false (by omega)]
          rfl
        · rw [decide_eq_false c, decide_eq_true (by omega)]
          rfl
theorem ref_j0 (k : Nat) (p0 p1 p2 p3 p4 p5 p6 p7 p8 p9 p10 p11 p12 p13 p14 : Int) : pacemakerref09_Is.j0 (k + 1) false p0 p1 p2 p3 p4 p5 p6 p7 p8 p9 p10 p11 p12 p13 p14 = pacemakerref09_Is.j1 k (!(cB p6 p7 p8)) p0 p1 p2 p3 p4 p5 p6 p7 p8 p9 p10 p11 p12 p13 p14 := by
  simp only [pacemakerref09_Is.j0]
  rw [if_neg (by decide)]
  unfold cB
  by_cases c1 : p6 < 0
  · rw [if_pos c1, decide_eq_false (show ¬ 0 ≤ p6 by omega)]; simp
  rw [if_neg c1, decide_eq_true (show 0 ≤ p6 by omega)]
  by_cases c2 : p6 > 1048576
  · rw [if_pos c2, decide_eq_false (show ¬ p6 ≤ 1048576 by omega)]; simp
  rw [if_neg c2, decide_eq_true (show p6 ≤ 1048576 by omega)]
  by_cases c3 : p7 < 0
  · rw [if_pos c3, decide_eq_false (show ¬ 0 ≤ p7 by omega)]; simp
  rw [if_neg c3, decide_eq_true (show 0 ≤ p7 by omega)]
  by_cases c4 : p7 > p6
  · rw [if_pos c4, decide_eq_false (show ¬ p7 ≤ p6 by omega)]; simp
  rw [if_neg c4, decide_eq_true (show p7 ≤ p6 by omega)]
  by_cases c5 : p8 < 0
  · rw [if_pos c5, decide_eq_false (show ¬ 0 ≤ p8 by omega)]; simp
  rw [if_neg c5, decide_eq_true (show 0 ≤ p8 by omega)]
  congr 1
  by_cases c : p8 ≤ wrap64 (p6 - p7)
  · rw [decide_eq_true c, decide_eq_false (by omega)]
    rfl
  · rw [decide_eq_false c, decide_eq_true (by omega)]
    rfl
theorem ref_any (x : Bool) (k : Nat) (p0 p1 p2 p3 p4 p5 p6 p7 p8 p9 p10 p11 p12 p13 p14 : Int) : pacemakerref09_Is.j0 (k + 3) x p0 p1 p2 p3 p4 p5 p6 p7 p8 p9 p10 p11 p12 p13 p14 = some (!x && rB p0 p1 p2 p3 p4 p5 p6 p7 p8 p9 p10 p11 p12 p13 p14) := by
  cases x with
  | true =>
    simp only [pacemakerref09_Is.j0]
    simp
  | false =>
    rw [ref_j0]
    unfold rB
    cases cB p6 p7 p8 with
    | false =>
      simp only [Bool.not_false, pacemakerref09_Is.j1]
      simp
    | true =>
      rw [Bool.not_true, ref_j1]
      cases bB p3 p4 p5 p6 p7 p8 with
      | false =>
        rw [Bool.not_false, ref_j2t]
        simp
      | true =>
        rw [Bool.not_true, ref_j2]
        simp
theorem is_both (k : Nat) (p0 p1 p2 p3 p4 p5 p6 p7 p8 p9 p10 p11 p12 p13 p14 : Int) : ∃ x : Bool, account_Is.f (k + 3) p0 p1 p2 p3 p4 p5 p6 p7 p8 p9 p10 p11 p12 p13 p14 = some (!x && rB p0 p1 p2 p3 p4 p5 p6 p7 p8 p9 p10 p11 p12 p13 p14) ∧ pacemakerref09_Is.f (k + 3) p0 p1 p2 p3 p4 p5 p6 p7 p8 p9 p10 p11 p12 p13 p14 = some (!x && rB p0 p1 p2 p3 p4 p5 p6 p7 p8 p9 p10 p11 p12 p13 p14) := by
  unfold account_Is.f account_shut_right.f pacemakerref09_Is.f
  rw [atime_eq, atime_eq, rtime_eq, rtime_eq]
  simp only [Option.bind_some]
  by_cases c0 : p0 < 0
  · rw [if_pos c0, if_pos c0, acc_any, ref_any]
    exact ⟨true, rfl, rfl⟩
  · rw [if_neg c0, if_neg c0]
    cases tB p1 with
    | false =>
      rw [if_neg (by decide), if_neg (by decide), acc_any, ref_any]
      exact ⟨true, rfl, rfl⟩
    | true =>
      simp only [if_true]
      by_cases c2 : p2 = -1
      · rw [if_pos c2, if_pos c2, acc_any, ref_any]
        exact ⟨false, rfl, rfl⟩
      · rw [if_neg c2, if_neg c2]
        cases tB p2 with
        | false =>
          rw [if_neg (by decide), if_neg (by decide), acc_any, ref_any]
          exact ⟨true, rfl, rfl⟩
        | true =>
          simp only [if_true]
          rw [acc_any, ref_any]
          exact ⟨_, rfl, rfl⟩
theorem r_range (p0 p1 p2 p3 p4 p5 p6 p7 p8 p9 p10 p11 p12 p13 p14 : Int) (h : rB p0 p1 p2 p3 p4 p5 p6 p7 p8 p9 p10 p11 p12 p13 p14 = true) : 0 ≤ p9 ∧ p9 ≤ 1024 ∧ 0 ≤ p10 ∧ p10 ≤ p9 * 60000000 ∧ 0 ≤ p11 ∧ p11 ≤ p9 * 60000000 ∧ 0 ≤ p12 ∧ p12 ≤ p9 * 3600000000000000 ∧ 0 ≤ p13 ∧ p13 ≤ p9 * 3600000000000000 ∧ 0 ≤ p14 ∧ p14 ≤ p9 * 3600000000000000 := by
  unfold rB sB withinB at h
  simp only [Bool.and_eq_true, decide_eq_true_eq] at h
  obtain ⟨_, ⟨⟨⟨⟨⟨⟨⟨h0, h1⟩, _⟩, h2⟩, h3⟩, h4⟩, h5⟩, h6⟩⟩ := h
  rw [wrap_id (x := p9 * 60000000) (by omega) (by omega)] at h2 h3
  rw [wrap_id (x := p9 * 3600000000000000) (by omega) (by omega)] at h4 h5 h6
  exact ⟨h0, h1, h2.1, h2.2, h3.1, h3.2, h4.1, h4.2, h5.1, h5.2, h6.1, h6.2⟩
theorem gmean {k : Nat} {p0 p1 p2 p3 p4 p5 p6 p7 p8 p9 p10 p11 p12 p13 p14 : Int} (ht : slope_told.f k p0 p1 p2 p3 p4 p5 p6 p7 p8 p9 p10 p11 p12 p13 p14 = some true) (h9 : 0 ≤ p9 ∧ p9 < 18446744073709551616) (h11 : 0 ≤ p11 ∧ p11 < 18446744073709551616) : slope_Mean.f k p0 p1 p2 p3 p4 p5 p6 p7 p8 p9 p10 p11 p12 p13 p14 = some (ratioOf p11 p9) := by
  unfold slope_Mean.f slope_low.f
  rw [ht]
  simp only [Option.bind_some, if_true]
  rw [u64_id h11.1 h11.2, u64_id h9.1 h9.2, ratio_low h11.1 h11.2 h9.1 h9.2]
  rfl
theorem gdev_else {k : Nat} {p0 p1 p2 p3 p4 p5 p6 p7 p8 p9 p10 p11 p12 p13 p14 hi lo q : Int} (ht : slope_told.f k p0 p1 p2 p3 p4 p5 p6 p7 p8 p9 p10 p11 p12 p13 p14 = some true) (h9 : 0 ≤ p9 ∧ p9 < 18446744073709551616) (e : slope_apart.f p9 p14 p11 p11 = some (hi, lo, false)) (hs : root_SqrtWide.f hi lo = some q) (q0 : 0 ≤ q) (q1 : q < 18446744073709551616) :
    slope_Dev.f k p0 p1 p2 p3 p4 p5 p6 p7 p8 p9 p10 p11 p12 p13 p14 = some (ratioOf q p9) := by
  unfold slope_Dev.f slope_low.f
  rw [ht]
  simp only [Option.bind_some, if_true]
  rw [e]
  simp only [Option.bind_some]
  rw [if_neg (by decide), hs]
  simp only [Option.bind_some]
  rw [u64_id h9.1 h9.2, ratio_low q0 q1 h9.1 h9.2]
  simp only [Option.bind_some]
theorem gdev_then {k : Nat} {p0 p1 p2 p3 p4 p5 p6 p7 p8 p9 p10 p11 p12 p13 p14 hi lo : Int} (ht : slope_told.f k p0 p1 p2 p3 p4 p5 p6 p7 p8 p9 p10 p11 p12 p13 p14 = some true) (e : slope_apart.f p9 p14 p11 p11 = some (hi, lo, true)) :
    slope_Dev.f k p0 p1 p2 p3 p4 p5 p6 p7 p8 p9 p10 p11 p12 p13 p14 = some 0 := by
  unfold slope_Dev.f
  rw [ht]
  simp only [Option.bind_some, if_true]
  rw [e]
  simp
theorem gdev {k : Nat} {p0 p1 p2 p3 p4 p5 p6 p7 p8 p9 p10 p11 p12 p13 p14 : Int} (ht : slope_told.f k p0 p1 p2 p3 p4 p5 p6 p7 p8 p9 p10 p11 p12 p13 p14 = some true) (h9 : 0 ≤ p9 ∧ p9 < 18446744073709551616) (h11 : 0 ≤ p11 ∧ p11 < 18446744073709551616) (h14 : 0 ≤ p14 ∧ p14 < 18446744073709551616) : slope_Dev.f k p0 p1 p2 p3 p4 p5 p6 p7 p8 p9 p10 p11 p12 p13 p14 = some (devOf p9 p11 p14) := by
  obtain ⟨hi, lo, e, ew, u1, u2⟩ := apart_eq (a := p9) (b := p14) (c := p11) (d := p11) h9 h14 h11 h11
  have wr := wide_range u1 u2
  by_cases c : p9 * p14 < p11 * p11
  · rw [decide_eq_true c] at e
    rw [gdev_then ht e, devOf, if_pos c]
  · rw [decide_eq_false c] at e
    have ea : wideOf hi lo = p9 * p14 - p11 * p11 := by rw [ew]; unfold apartOf; rw [if_neg c]
    rw [gdev_else ht h9 e (sqrt_of u1 u2) (root_sq wr.1).1 (root_lt wr.1 wr.2), devOf, if_neg c, ea]
theorem ggrade {k : Nat} {p0 p1 p2 p3 p4 p5 p6 p7 p8 p9 p10 p11 p12 p13 p14 : Int} (ht : slope_told.f (k + 1) p0 p1 p2 p3 p4 p5 p6 p7 p8 p9 p10 p11 p12 p13 p14 = some true) (h9 : 0 ≤ p9 ∧ p9 < 18446744073709551616) (h10 : 0 ≤ p10 ∧ p10 < 18446744073709551616) (h11 : 0 ≤ p11 ∧ p11 < 18446744073709551616) (h12 : 0 ≤ p12 ∧ p12 < 18446744073709551616) (h13 : 0 ≤ p13 ∧ p13 < 18446744073709551616) : slope_Grade.f (k + 1) p0 p1 p2 p3 p4 p5 p6 p7 p8 p9 p10 p11 p12 p13 p14 = some (gradeOf p9 p10 p11 p12 p13) := by
  obtain ⟨hi, lo, e, ew, u1, u2⟩ := apart_eq (a := p9) (b := p12) (c := p10) (d := p10) h9 h12 h10 h10
  obtain ⟨hi2, lo2, e2, ew2, v1, v2⟩ := apart_eq (a := p9) (b := p13) (c := p10) (d := p11) h9 h13 h10 h11
  unfold slope_Grade.f slope_low.f gradeOf
  rw [ht]
  simp only [Option.bind_some, if_true]
  rw [e]
  simp only [Option.bind_some]
  by_cases c : p9 * p12 < p10 * p10
  · rw [decide_eq_true c, if_pos rfl, if_pos (show p9 * p12 ≤ p10 * p10 by omega)]
    simp only [slope_Grade.j0]
    rfl
  · rw [decide_eq_false c, if_neg (by decide)]
    have ea : apartOf (p9 * p12) (p10 * p10) = p9 * p12 - p10 * p10 := by unfold apartOf; rw [if_neg c]
    rw [ea] at ew
    simp only [slope_Grade.j0]
    have r1 := isU64_out u1
    have r2 := isU64_out u2
    by_cases z : hi == 0 && (lo == 0)
    · rw [if_pos z]
      simp at z
      rw [if_pos (show p9 * p12 ≤ p10 * p10 by unfold wideOf at ew; omega)]
    · rw [if_neg z]
      simp at z
      have zz : ¬ p9 * p12 ≤ p10 * p10 := by
        intro hc
        unfold wideOf at ew
        by_cases z0 : hi = 0
        · have := z z0
          omega
        · omega
      have er : slope_Ratio.f hi2 lo2 hi lo = some (ratioOf (apartOf (p9 * p13) (p10 * p11)) (p9 * p12 - p10 * p10)) := by
        unfold slope_Ratio.f
        rw [if_pos (by simp [v1, v2, u1, u2]), ew, ew2]
      rw [if_neg zz, e2]
      simp only [Option.bind_some]
      rw [er]
      simp only [Option.bind_some]
      by_cases c2 : p9 * p13 < p10 * p11
      · have ea2 : apartOf (p9 * p13) (p10 * p11) = p10 * p11 - p9 * p13 := by unfold apartOf; rw [if_pos c2]
        have rg := ratio_range (p10 * p11 - p9 * p13) (p9 * p12 - p10 * p10) (by omega) (by omega)
        rw [decide_eq_true c2, if_pos rfl, if_pos c2, ea2, wrap_id (by omega) (by omega)]
      · have ea2 : apartOf (p9 * p13) (p10 * p11) = p9 * p13 - p10 * p11 := by unfold apartOf; rw [if_neg c2]
        rw [decide_eq_false c2, if_neg (by decide), if_neg c2, ea2]
theorem minus_id {ah al bh bl P Q : Int} (h0 : isU64 ah = true) (h1 : isU64 al = true) (h2 : isU64 bh = true) (h3 : isU64 bl = true) (ha : wideOf ah al = P) (hb : wideOf bh bl = Q) (hle : Q ≤ P) :
    ∃ h l, pacemakerref10_minus.f ah al bh bl = some (h, l) ∧ isU64 h = true ∧ isU64 l = true ∧ wideOf h l = P - Q := by
  obtain ⟨h, l, e, u1, u2, w⟩ := minus_eq ah al bh bl h0 h1 h2 h3
  have wa := wide_range h0 h1
  have wb := wide_range h2 h3
  rw [ha] at wa
  rw [hb] at wb
  refine ⟨h, l, e, u1, u2, ?_⟩
  rw [w, ha, hb]
  omega
theorem rmean {k : Nat} {p0 p1 p2 p3 p4 p5 p6 p7 p8 p9 p10 p11 p12 p13 p14 : Int} (hk : 400 ≤ k) (hi : pacemakerref09_Is.f k p0 p1 p2 p3 p4 p5 p6 p7 p8 p9 p10 p11 p12 p13 p14 = some true) (h0 : p9 ≠ 0) (h9 : 0 ≤ p9 ∧ p9 < 18446744073709551616) (h11 : 0 ≤ p11 ∧ p11 < 18446744073709551616) : pacemakerref10_Mean.f k p0 p1 p2 p3 p4 p5 p6 p7 p8 p9 p10 p11 p12 p13 p14 = some (ratioOf p11 p9) := by
  unfold pacemakerref10_Mean.f
  rw [hi]
  simp only [Option.bind_some, if_true]
  rw [if_neg h0, u64_id h11.1 h11.2, u64_id h9.1 h9.2, ref_ratio (by decide) (isU64_mk h11.1 h11.2) (by decide) (isU64_mk h9.1 h9.2) k hk, wide_low, wide_low]
  rfl
theorem rdev {k : Nat} {p0 p1 p2 p3 p4 p5 p6 p7 p8 p9 p10 p11 p12 p13 p14 : Int} (hk : 400 ≤ k) (hi : pacemakerref09_Is.f (k + 1) p0 p1 p2 p3 p4 p5 p6 p7 p8 p9 p10 p11 p12 p13 p14 = some true) (h0 : p9 ≠ 0) (h9 : 0 ≤ p9 ∧ p9 < 18446744073709551616) (h11 : 0 ≤ p11 ∧ p11 < 18446744073709551616) (h14 : 0 ≤ p14 ∧ p14 < 18446744073709551616) : pacemakerref10_Dev.f (k + 1) p0 p1 p2 p3 p4 p5 p6 p7 p8 p9 p10 p11 p12 p13 p14 = some (devOf p9 p11 p14) := by
  obtain ⟨ah, al, ea, a1, a2, wa⟩ := product_eq h9 h14
  obtain ⟨bh, bl, eb, b1, b2, wb⟩ := product_eq h11 h11
  unfold pacemakerref10_Dev.f
  rw [hi]
  simp only [Option.bind_some, if_true]
  rw [show (p9 == 0) = false from beq_eq_false_iff_ne.mpr h0]
  simp only [pacemakerref10_Dev.j0]
  rw [if_neg (by decide), ea, eb]
  simp only [Option.bind_some]
  rw [less_eq ah al bh bl a2 b2, wa, wb]
  simp only [Option.bind_some]
  by_cases c : p9 * p14 < p11 * p11
  · rw [decide_eq_true c, if_pos rfl, devOf, if_pos c]
  · rw [decide_eq_false c, if_neg (by decide)]
    obtain ⟨h, l, e, u1, u2, w⟩ := minus_id a1 a2 b1 b2 wa wb (by omega)
    have wr := wide_range u1 u2
    have q0 := (root_sq wr.1).1
    have q1 := root_lt wr.1 wr.2
    have hs := ref_root u1 u2 k (by omega)
    rw [devOf, if_neg c, ← w]
    generalize rootOf (wideOf h l) = q at *
    rw [e]
    simp only [Option.bind_some]
    rw [hs]
    simp only [Option.bind_some]
    rw [u64_id h9.1 h9.2, ref_ratio (by decide) (isU64_mk q0 q1) (by decide) (isU64_mk h9.1 h9.2) k hk, wide_low, wide_low]
    simp only [Option.bind_some]
theorem rgrade {k : Nat} {p0 p1 p2 p3 p4 p5 p6 p7 p8 p9 p10 p11 p12 p13 p14 : Int} (hk : 400 ≤ k) (hi : pacemakerref09_Is.f (k + 1) p0 p1 p2 p3 p4 p5 p6 p7 p8 p9 p10 p11 p12 p13 p14 = some true) (h0 : p9 ≠ 0) (h9 : 0 ≤ p9 ∧ p9 < 18446744073709551616) (h10 : 0 ≤ p10 ∧ p10 < 18446744073709551616) (h11 : 0 ≤ p11 ∧ p11 < 18446744073709551616) (h12 : 0 ≤ p12 ∧ p12 < 18446744073709551616) (h13 : 0 ≤ p13 ∧ p13 < 18446744073709551616) : pacemakerref10_Grade.f (k + 1) p0 p1 p2 p3 p4 p5 p6 p7 p8 p9 p10 p11 p12 p13 p14 = some (gradeOf p9 p10 p11 p12 p13) := by
  obtain ⟨dh, dl, ed, d1, d2, wd⟩ := product_eq h9 h12
  obtain ⟨eh, el, ee, e1, e2, we⟩ := product_eq h10 h10
  obtain ⟨ah, al, ea, a1, a2, wa⟩ := product_eq h9 h13
  obtain ⟨bh, bl, eb, b1, b2, wb⟩ := product_eq h10 h11
  unfold pacemakerref10_Grade.f gradeOf
  rw [hi]
  simp only [Option.bind_some, if_true]
  rw [show (p9 == 0) = false from beq_eq_false_iff_ne.mpr h0]
  simp only [pacemakerref10_Grade.j0]
  rw [if_neg (by decide), ed, ee]
  simp only [Option.bind_some]
  rw [less_eq eh el dh dl e2 d2, wd, we]
  simp only [Option.bind_some]
  by_cases c : p10 * p10 < p9 * p12
  · rw [decide_eq_true c, if_neg (show ¬ p9 * p12 ≤ p10 * p10 by omega)]
    simp only [if_true]
    rw [ea, eb]
    simp only [Option.bind_some]
    rw [less_eq ah al bh bl a2 b2, wa, wb]
    simp only [Option.bind_some]
    obtain ⟨h, l, e, u1, u2, w⟩ := minus_id d1 d2 e1 e2 wd we (by omega)
    by_cases c2 : p9 * p13 < p10 * p11
    · obtain ⟨h', l', e', u1', u2', w'⟩ := minus_id b1 b2 a1 a2 wb wa (by omega)
      have rg := ratio_range (p10 * p11 - p9 * p13) (p9 * p12 - p10 * p10) (by omega) (by omega)
      rw [decide_eq_true c2, if_pos c2]
      simp only [if_true]
      rw [e', e]
      simp only [Option.bind_some]
      rw [ref_ratio u1' u2' u1 u2 k hk, w, w']
      simp only [Option.bind_some]
      rw [wrap_id (by omega) (by omega)]
    · obtain ⟨h', l', e', u1', u2', w'⟩ := minus_id a1 a2 b1 b2 wa wb (by omega)
      rw [decide_eq_false c2, if_neg (by decide), if_neg c2, e', e]
      simp only [Option.bind_some]
      rw [ref_ratio u1' u2' u1 u2 k hk, w, w']
      simp only [Option.bind_some]
  · rw [decide_eq_false c, if_neg (by decide), if_pos (show p9 * p12 ≤ p10 * p10 by omega)]
theorem does_true (p0 p1 p2 p3 p4 p5 p6 p7 p8 p9 p10 p11 p12 p13 p14 : Int) : pacemakerlaw10_SlopeDoes.f 1000 p0 p1 p2 p3 p4 p5 p6 p7 p8 p9 p10 p11 p12 p13 p14 = some true := by
  obtain ⟨x, ha, hr⟩ := is_both 997 p0 p1 p2 p3 p4 p5 p6 p7 p8 p9 p10 p11 p12 p13 p14
  have ha' : account_Is.f 1000 p0 p1 p2 p3 p4 p5 p6 p7 p8 p9 p10 p11 p12 p13 p14 = some (!x && rB p0 p1 p2 p3 p4 p5 p6 p7 p8 p9 p10 p11 p12 p13 p14) := ha
  have hr' : pacemakerref09_Is.f 1000 p0 p1 p2 p3 p4 p5 p6 p7 p8 p9 p10 p11 p12 p13 p14 = some (!x && rB p0 p1 p2 p3 p4 p5 p6 p7 p8 p9 p10 p11 p12 p13 p14) := hr
  clear ha hr
  unfold pacemakerlaw10_SlopeDoes.f
  simp only [pacemakerlaw10_fitted.f, Option.bind_some, if_true]
  cases hx : (!x && rB p0 p1 p2 p3 p4 p5 p6 p7 p8 p9 p10 p11 p12 p13 p14) with
  | false =>
    rw [hx] at ha' hr'
    have ht : slope_told.f 1000 p0 p1 p2 p3 p4 p5 p6 p7 p8 p9 p10 p11 p12 p13 p14 = some false := by
      unfold slope_told.f
      rw [ha']
      simp
    have m1 : slope_Mean.f 1000 p0 p1 p2 p3 p4 p5 p6 p7 p8 p9 p10 p11 p12 p13 p14 = some 0 := by unfold slope_Mean.f; rw [ht]; simp
    have m2 : slope_Dev.f 1000 p0 p1 p2 p3 p4 p5 p6 p7 p8 p9 p10 p11 p12 p13 p14 = some 0 := by unfold slope_Dev.f; rw [ht]; simp
    have m3 : slope_Grade.f 1000 p0 p1 p2 p3 p4 p5 p6 p7 p8 p9 p10 p11 p12 p13 p14 = some 0 := by unfold slope_Grade.f; rw [ht]; simp
    have n1 : pacemakerref10_Mean.f 1000 p0 p1 p2 p3 p4 p5 p6 p7 p8 p9 p10 p11 p12 p13 p14 = some 0 := by unfold pacemakerref10_Mean.f; rw [hr']; simp
    have n2 : pacemakerref10_Dev.f 1000 p0 p1 p2 p3 p4 p5 p6 p7 p8 p9 p10 p11 p12 p13 p14 = some 0 := by unfold pacemakerref10_Dev.f; rw [hr']; simp [pacemakerref10_Dev.j0]
    have n3 : pacemakerref10_Grade.f 1000 p0 p1 p2 p3 p4 p5 p6 p7 p8 p9 p10 p11 p12 p13 p14 = some 0 := by unfold pacemakerref10_Grade.f; rw [hr']; simp [pacemakerref10_Grade.j0]
    rw [m1, m2, m3, n1, n2, n3]
    simp
  | true =>
    rw [hx] at ha' hr'
    have hb : rB p0 p1 p2 p3 p4 p5 p6 p7 p8 p9 p10 p11 p12 p13 p14 = true := by simp only [Bool.and_eq_true] at hx; exact hx.2
    obtain ⟨r0, r1, r2, r3, r4, r5, r6, r7, r8, r9, r10, r11⟩ := r_range p0 p1 p2 p3 p4 p5 p6 p7 p8 p9 p10 p11 p12 p13 p14 hb
    by_cases z : p9 = 0
    · have ht : slope_told.f 1000 p0 p1 p2 p3 p4 p5 p6 p7 p8 p9 p10 p11 p12 p13 p14 = some false := by
        unfold slope_told.f
        rw [ha']
        simp [z]
      have m1 : slope_Mean.f 1000 p0 p1 p2 p3 p4 p5 p6 p7 p8 p9 p10 p11 p12 p13 p14 = some 0 := by unfold slope_Mean.f; rw [ht]; simp
      have m2 : slope_Dev.f 1000 p0 p1 p2 p3 p4 p5 p6 p7 p8 p9 p10 p11 p12 p13 p14 = some 0 := by unfold slope_Dev.f; rw [ht]; simp
      have m3 : slope_Grade.f 1000 p0 p1 p2 p3 p4 p5 p6 p7 p8 p9 p10 p11 p12 p13 p14 = some 0 := by unfold slope_Grade.f; rw [ht]; simp
      have n1 : pacemakerref10_Mean.f 1000 p0 p1 p2 p3 p4 p5 p6 p7 p8 p9 p10 p11 p12 p13 p14 = some 0 := by unfold pacemakerref10_Mean.f; rw [hr']; simp [z]
      have n2 : pacemakerref10_Dev.f 1000 p0 p1 p2 p3 p4 p5 p6 p7 p8 p9 p10 p11 p12 p13 p14 = some 0 := by unfold pacemakerref10_Dev.f; rw [hr']; simp [z, pacemakerref10_Dev.j0]
      have n3 : pacemakerref10_Grade.f 1000 p0 p1 p2 p3 p4 p5 p6 p7 p8 p9 p10 p11 p12 p13 p14 = some 0 := by unfold pacemakerref10_Grade.f; rw [hr']; simp [z, pacemakerref10_Grade.j0]
      rw [m1, m2, m3, n1, n2, n3]
      simp
    · have ht : slope_told.f 1000 p0 p1 p2 p3 p4 p5 p6 p7 p8 p9 p10 p11 p12 p13 p14 = some true := by
        unfold slope_told.f
        rw [ha']
        simp only [Option.bind_some, if_true]
        rw [decide_eq_true (by omega)]
      rw [gmean ht (by omega) (by omega), gdev ht (by omega) (by omega) (by omega), ggrade (k := 999) ht (by omega) (by omega) (by omega) (by omega) (by omega)]
      rw [rmean (by omega) hr' z (by omega) (by omega), rdev (k := 999) (by omega) hr' z (by omega) (by omega) (by omega), rgrade (k := 999) (by omega) hr' z (by omega) (by omega) (by omega) (by omega) (by omega)]
      simp
end Go.Proofs.Ytlokmliannklaaa.Print
end
