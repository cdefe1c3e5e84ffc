/- SlopeTurns without memory: whatever the samples are, the law's function tells true. -/
import Derived.Test.YtlokmliannklaaaQPrint14d
import Derived.Test.YtlokmliannklaaaQPure
section
namespace Go.Proofs.Ytlokmliannklaaa.Print
open Go.RowKit Go.Proofs.YtlokmliannklaaaW.PrintWords Go.Proofs.YtlokmliannklaaaW.PrintLast Go.Proofs.YtlokmliannklaaaW.PrintMore
set_option linter.unusedVariables false
set_option linter.unusedSimpArgs false

theorem turns_early (k : Nat) (l : List S36) (p0 p1 p2 p3 p4 p5 p6 p7 p8 p9 p10 p11 p12 p13 p14 : Int) : pacemakerlaw10_SlopeTurns.j0 (k + 1) l true p0 p1 p2 p3 p4 p5 p6 p7 p8 p9 p10 p11 p12 p13 p14 = some true := by
  simp [pacemakerlaw10_SlopeTurns.j0, pacemakerlaw10_fitted.f]
theorem turns_loop (l : List S36) (h : l.all sampleOk = true) (hl : l.length ≤ 100) (p0 p1 p2 p3 p4 p5 p6 p7 p8 p9 p10 p11 p12 p13 p14 : Int) (d : Nat) :
    ∀ (i k : Nat), i + d = l.length → pacemakerlaw10_SlopeTurns.l0 (k + d) l ((l.take i).map turned) i p0 p1 p2 p3 p4 p5 p6 p7 p8 p9 p10 p11 p12 p13 p14 = pacemakerlaw10_SlopeTurns.l0 k l (l.map turned) l.length p0 p1 p2 p3 p4 p5 p6 p7 p8 p9 p10 p11 p12 p13 p14 := by
  induction d with
  | zero =>
    intro i k hi
    obtain rfl : i = l.length := by omega
    rw [List.take_length]
    rfl
  | succ d ih =>
    intro i k hi
    have hlt : i < l.length := by omega
    have r := rd_ok h hlt
    have e : pacemakerlaw10_SlopeTurns.l0 (k + (d + 1)) l ((l.take i).map turned) i p0 p1 p2 p3 p4 p5 p6 p7 p8 p9 p10 p11 p12 p13 p14 = pacemakerlaw10_SlopeTurns.l0 (k + d) l ((l.take (i + 1)).map turned) ((i + 1 : Nat) : Int) p0 p1 p2 p3 p4 p5 p6 p7 p8 p9 p10 p11 p12 p13 p14 := by
      rw [show k + (d + 1) = (k + d) + 1 by omega]
      simp only [pacemakerlaw10_SlopeTurns.l0]
      rw [if_pos (by omega), if_pos (by omega), if_pos (by simp; omega), wrap_id (x := 60000000 - (rd_T36 l (i : Int)).f0) (by omega) (by omega), wrap_id (x := (i : Int) + 1) (by omega) (by omega)]
      have e2 : (⟨60000000 - (rd_T36 l (i : Int)).f0, (rd_T36 l (i : Int)).f1⟩ : S36) = turned l[i] := by rw [rd_get hlt]; rfl
      rw [e2, take_map_one _ _ _ hlt]
      rfl
    rw [e]
    exact ih (i + 1) k (by omega)
theorem turned_ok {l : List S36} (h : l.all sampleOk = true) : (l.map turned).all sampleOk = true := by
  rw [List.all_map]
  rw [List.all_eq_true] at h ⊢
  intro x hx
  have := ok_range (h x hx)
  show sampleOk (turned x) = true
  unfold sampleOk turned
  simp only [Bool.and_eq_true, decide_eq_true_eq]
  omega
theorem grade_none {k : Nat} {t r tt tr rr : Int} (o : MiOK 0 0 t r tt tr rr) : slope_Grade.f (k + 1) 0 0 (-1) 0 0 0 0 0 0 0 t r tt tr rr = some 0 := by
  unfold slope_Grade.f
  rw [told_none o k]
  simp
theorem mean_none {k : Nat} {t r tt tr rr : Int} (o : MiOK 0 0 t r tt tr rr) : slope_Mean.f (k + 1) 0 0 (-1) 0 0 0 0 0 0 0 t r tt tr rr = some 0 := by
  unfold slope_Mean.f
  rw [told_none o k]
  simp
theorem dev_none {k : Nat} {t r tt tr rr : Int} (o : MiOK 0 0 t r tt tr rr) : slope_Dev.f (k + 1) 0 0 (-1) 0 0 0 0 0 0 0 t r tt tr rr = some 0 := by
  unfold slope_Dev.f
  rw [told_none o k]
  simp
theorem gradeOf_range (n t r tt tr : Int) : -4611686018427387904 ≤ gradeOf n t r tt tr ∧ gradeOf n t r tt tr ≤ 4611686018427387904 := by
  unfold gradeOf
  by_cases c : n * tt ≤ t * t
  · rw [if_pos c]; omega
  · rw [if_neg c]
    by_cases d : n * tr < t * r
    · have := ratio_range (t * r - n * tr) (n * tt - t * t) (by omega) (by omega)
      rw [if_pos d]; omega
    · have := ratio_range (n * tr - t * r) (n * tt - t * t) (by omega) (by omega)
      rw [if_neg d]; omega
theorem turns_end (l : List S36) (h : l.all sampleOk = true) (hl : l.length ≤ 100) (k : Nat) :
    pacemakerlaw10_SlopeTurns.l0 (k + 2) l (l.map turned) l.length 0 0 (-1) (l.length : Int) (l.length : Int) 0 (l.length : Int) (l.length : Int) 0 (l.length : Int) (sT l) (sR l) (sTT l) (sTR l) (sRR l) = some true := by
  simp only [pacemakerlaw10_SlopeTurns.l0]
  rw [if_neg (by omega)]
  have g2 := turned_ok h
  have lm : (l.map turned).length = l.length := by simp
  have o := mi_ok h hl
  have o2 := mi_ok g2 (by omega)
  rw [sampled_ok (by omega) g2]
  simp only [Option.bind_some, if_true, pacemakerlaw10_fitted.f]
  rw [lm] at o2 ⊢
  by_cases z : l.length = 0
  · have z2 : (l.length : Int) = 0 := by omega
    rw [z2] at o o2 ⊢
    rw [grade_none o2, grade_none o, mean_none o2, mean_none o, dev_none o2, dev_none o]
    simp only [Option.bind_some]
    rw [if_pos (by unfold wrap64; omega)]
    simp
  · have n1 : (1 : Int) ≤ l.length := by omega
    rw [dev_of o2 n1 (k + 0), dev_of o n1 (k + 0), grade_of o2 n1 (k + 0), grade_of o n1 (k + 0), mean_of o2 n1 (k + 0), mean_of o n1 (k + 0)]
    simp only [Option.bind_some]
    have gr := gradeOf_range l.length (sT l) (sR l) (sTT l) (sTR l)
    rw [turned_R, turned_RR, turned_T, turned_TT, turned_TR]
    rw [gradeOf_turn (t := sT l) (tt := sTT l) (tr := sTR l) (by grind) (by grind), wrap_id (by omega) (by omega), if_pos rfl, if_pos rfl]
    simp
theorem turns_true (l : List S36) : pacemakerlaw10_SlopeTurns.f 400 l = some true := by
  unfold pacemakerlaw10_SlopeTurns.f
  by_cases g : l.length ≤ 100 ∧ l.all sampleOk = true
  · rw [sampled_ok g.1 g.2]
    simp only [Option.bind_some]
    rw [if_neg (by omega)]
    simp only [pacemakerlaw10_SlopeTurns.j0]
    rw [if_neg (by decide)]
    have e := turns_loop l g.2 g.1 0 0 (-1) (l.length : Int) (l.length : Int) 0 (l.length : Int) (l.length : Int) 0 (l.length : Int) (sT l) (sR l) (sTT l) (sTR l) (sRR l) l.length 0 (399 - l.length) (by omega)
    rw [Nat.sub_add_cancel (by omega)] at e
    refine Eq.trans e ?_
    rw [show 399 - l.length = (397 - l.length) + 2 by omega]
    exact turns_end l g.2 g.1 _
  · rw [sampled_no g]
    simp only [Option.bind_some]
    by_cases c : (l.length : Int) > 100
    · rw [if_pos c]
      exact turns_early 399 _ _ _ _ _ _ _ _ _ _ _ _ _ _ _ _ 
    · rw [if_neg c]
      exact turns_early 399 _ _ _ _ _ _ _ _ _ _ _ _ _ _ _ _ 
end Go.Proofs.Ytlokmliannklaaa.Print
end
