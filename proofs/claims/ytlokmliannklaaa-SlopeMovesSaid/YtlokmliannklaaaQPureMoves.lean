/- SlopeMoves without memory: whatever the samples and the number are, the law's function tells true. -/
import Derived.Test.YtlokmliannklaaaQPrint12d
import Derived.Test.YtlokmliannklaaaQPure
section
namespace Go.Proofs.Ytlokmliannklaaa.Print
open Go.RowKit Go.Proofs.YtlokmliannklaaaW.PrintWords Go.Proofs.YtlokmliannklaaaW.PrintLast Go.Proofs.YtlokmliannklaaaW.PrintMore
set_option linter.unusedVariables false
set_option linter.unusedSimpArgs false

theorem moves_early (k : Nat) (l : List S36) (b p0 p1 p2 p3 p4 p5 p6 p7 p8 p9 p10 p11 p12 p13 p14 : Int) : pacemakerlaw10_SlopeMoves.j0 (k + 1) l b true p0 p1 p2 p3 p4 p5 p6 p7 p8 p9 p10 p11 p12 p13 p14 = some true := by
  simp [pacemakerlaw10_SlopeMoves.j0, pacemakerlaw10_fitted.f]
theorem moves_loop (l : List S36) (b : Int) (h : l.all sampleOk = true) (hl : l.length ≤ 100) (b0 : 0 ≤ b) (b1 : b ≤ 60000000) (p0 p1 p2 p3 p4 p5 p6 p7 p8 p9 p10 p11 p12 p13 p14 : Int) (d : Nat) :
    ∀ (i k : Nat), i + d = l.length → pacemakerlaw10_SlopeMoves.l0 (k + d) l b ((l.take i).map (moved b)) i p0 p1 p2 p3 p4 p5 p6 p7 p8 p9 p10 p11 p12 p13 p14 = pacemakerlaw10_SlopeMoves.l0 k l b (l.map (moved b)) l.length p0 p1 p2 p3 p4 p5 p6 p7 p8 p9 p10 p11 p12 p13 p14 := by
  induction d with
  | zero =>
    intro i k hi
    obtain rfl : i = l.length := by omega
    rw [List.take_length]
    rfl
  | succ d ih =>
    intro i k hi
    have hlt : i < l.length := by omega
    have r := rd_ok h hlt
    have e : pacemakerlaw10_SlopeMoves.l0 (k + (d + 1)) l b ((l.take i).map (moved b)) i p0 p1 p2 p3 p4 p5 p6 p7 p8 p9 p10 p11 p12 p13 p14 = pacemakerlaw10_SlopeMoves.l0 (k + d) l b ((l.take (i + 1)).map (moved b)) ((i + 1 : Nat) : Int) p0 p1 p2 p3 p4 p5 p6 p7 p8 p9 p10 p11 p12 p13 p14 := by
      rw [show k + (d + 1) = (k + d) + 1 by omega]
      simp only [pacemakerlaw10_SlopeMoves.l0]
      rw [if_pos (by omega), if_pos (by omega), if_pos (by simp; omega), wrap_id (x := (rd_T36 l (i : Int)).f1 + b) (by omega) (by omega), wrap_id (x := (i : Int) + 1) (by omega) (by omega)]
      have e2 : (⟨(rd_T36 l (i : Int)).f0, (rd_T36 l (i : Int)).f1 + b⟩ : S36) = moved b l[i] := by rw [rd_get hlt]; rfl
      rw [e2, take_map_one _ _ _ hlt]
      rfl
    rw [e]
    exact ih (i + 1) k (by omega)
theorem moves_end (l : List S36) (b : Int) (h : l.all sampleOk = true) (hl : l.length ≤ 100) (b0 : 0 ≤ b) (b1 : b ≤ 60000000) (k : Nat) :
    pacemakerlaw10_SlopeMoves.l0 (k + 3) l b (l.map (moved b)) l.length 0 0 (-1) (l.length : Int) (l.length : Int) 0 (l.length : Int) (l.length : Int) 0 (l.length : Int) (sT l) (sR l) (sTT l) (sTR l) (sRR l) = some true := by
  simp only [pacemakerlaw10_SlopeMoves.l0]
  rw [if_neg (by omega)]
  by_cases g : (l.map (moved b)).length ≤ 100 ∧ (l.map (moved b)).all sampleOk = true
  · have lm : (l.map (moved b)).length = l.length := by simp
    rw [sampled_ok g.1 g.2]
    simp only [Option.bind_some, if_true]
    by_cases z : l.length = 0
    · simp only [pacemakerlaw10_SlopeMoves.j2]
      rw [if_pos (by simp [z])]
      simp [pacemakerlaw10_fitted.f]
    · have o := mi_ok h hl
      have o2 := mi_ok g.2 g.1
      rw [lm] at o2 ⊢
      have n1 : (1 : Int) ≤ l.length := by omega
      simp only [pacemakerlaw10_SlopeMoves.j2]
      rw [if_neg (by rw [beq_iff_eq]; omega)]
      simp only [pacemakerlaw10_fitted.f, Option.bind_some, if_true]
      rw [dev_of o2 n1 k, dev_of o n1 k, grade_of o2 n1 k, grade_of o n1 k, mean_of o2 n1 k, mean_of o n1 k, of_some b (by omega) (by omega)]
      simp only [Option.bind_some]
      have m1 := mean_small h hl (by omega)
      rw [moved_R, moved_RR, moved_T, moved_TT, moved_TR]
      rw [devOf_congr (r' := sR l) (rr' := sRR l) (by grind), gradeOf_congr (r' := sR l) (tr' := sTR l) (by grind), if_pos rfl, if_pos rfl, ratio_shift o.r0 (by omega) b0 b1 (by have := o.r1; omega), wrap_id (by omega) (by omega)]
      simp
  · rw [sampled_no g]
    simp [pacemakerlaw10_SlopeMoves.j2, pacemakerlaw10_fitted.f]
theorem moves_true (l : List S36) (b : Int) : pacemakerlaw10_SlopeMoves.f 400 l b = some true := by
  unfold pacemakerlaw10_SlopeMoves.f
  by_cases g : l.length ≤ 100 ∧ l.all sampleOk = true
  · rw [sampled_ok g.1 g.2]
    simp only [Option.bind_some, if_true]
    rw [if_neg (by omega)]
    by_cases c1 : b < 0
    · rw [if_pos c1]
      exact moves_early 399 _ _ _ _ _ _ _ _ _ _ _ _ _ _ _ _ _ 
    · rw [if_neg c1]
      by_cases c2 : b > 60000000
      · rw [decide_eq_true c2]
        exact moves_early 399 _ _ _ _ _ _ _ _ _ _ _ _ _ _ _ _ _ 
      · rw [decide_eq_false c2]
        simp only [pacemakerlaw10_SlopeMoves.j0]
        rw [if_neg (by decide)]
        have e := moves_loop l b g.2 g.1 (by omega) (by omega) 0 0 (-1) (l.length : Int) (l.length : Int) 0 (l.length : Int) (l.length : Int) 0 (l.length : Int) (sT l) (sR l) (sTT l) (sTR l) (sRR l) l.length 0 (399 - l.length) (by omega)
        rw [Nat.sub_add_cancel (by omega)] at e
        refine Eq.trans e ?_
        rw [show 399 - l.length = (396 - l.length) + 3 by omega]
        exact moves_end l b g.2 g.1 (by omega) (by omega) _
  · rw [sampled_no g]
    simp only [Option.bind_some]
    by_cases c : (l.length : Int) > 100
    · rw [if_pos c]
      exact moves_early 399 _ _ _ _ _ _ _ _ _ _ _ _ _ _ _ _ _ 
    · rw [if_neg c, if_neg (by decide)]
      exact moves_early 399 _ _ _ _ _ _ _ _ _ _ _ _ _ _ _ _ _ 
end Go.Proofs.Ytlokmliannklaaa.Print
end
