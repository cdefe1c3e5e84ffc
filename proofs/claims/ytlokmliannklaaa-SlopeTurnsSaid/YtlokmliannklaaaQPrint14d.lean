/- Printed by a program of this session: functions of the law and their walks. -/
import Derived.Test.YtlokmliannklaaaQP0
import Derived.Test.YtlokmliannklaaaQPrint3
import Derived.Test.YtlokmliannklaaaQPrint4
import Derived.Test.YtlokmliannklaaaQSkd
import Derived.Test.YtlokmliannklaaaQFitted
section
namespace Go.Proofs.Ytlokmliannklaaa.Print
open Go.RowKit Go.Proofs.YtlokmliannklaaaW.PrintWords Go.Proofs.YtlokmliannklaaaW.PrintLast Go.Proofs.YtlokmliannklaaaW.PrintMore
attribute [local go_sem] max2_int min2_int max_two min_two max_three min_three max_four min_four   -- for this text's walks alone
set_option linter.unusedVariables false
set_option linter.unusedSimpArgs false

/-! ### pacemakerlaw10_SlopeTurns: function 7 -/
mutual
def pacemakerlaw10_SlopeTurns.j0 : Nat → List (S36) → Bool → Int → Int → Int → Int → Int → Int → Int → Int → Int → Int → Int → Int → Int → Int → Int → Option (Bool)
  | 0, _, _, _, _, _, _, _, _, _, _, _, _, _, _, _, _, _ => none
  | k + 1, x0, x20, x366000, x366001, x366002, x366003, x366004, x366005, x366006, x366007, x366008, x366009, x366010, x366011, x366012, x366013, x366014 => if x20 = true then ((pacemakerlaw10_fitted.f).bind fun t366 => (some t366)) else (pacemakerlaw10_SlopeTurns.l0 k x0 ([] : List (S36)) 0 x366000 x366001 x366002 x366003 x366004 x366005 x366006 x366007 x366008 x366009 x366010 x366011 x366012 x366013 x366014)
def pacemakerlaw10_SlopeTurns.l0 : Nat → List (S36) → List (S36) → Int → Int → Int → Int → Int → Int → Int → Int → Int → Int → Int → Int → Int → Int → Int → Int → Option (Bool)
  | 0, _, _, _, _, _, _, _, _, _, _, _, _, _, _, _, _, _, _ => none
  | k + 1, x0, x5, x6, x366000, x366001, x366002, x366003, x366004, x366005, x366006, x366007, x366008, x366009, x366010, x366011, x366012, x366013, x366014 => if x6 < (x0.length : Int) then (if 0 ≤ x6 then (if x5.length < 8796093022208 then (pacemakerlaw10_SlopeTurns.l0 k x0 (x5 ++ [(⟨wrap64 (60000000 - ((rd_T36 x0 x6).f0)), (rd_T36 x0 x6).f1⟩ : S36)]) (wrap64 (x6 + 1)) x366000 x366001 x366002 x366003 x366004 x366005 x366006 x366007 x366008 x366009 x366010 x366011 x366012 x366013 x366014) else (none)) else (none)) else ((pacemakerlaw10_sampled.f x5).bind fun bt372 => ((pacemakerlaw10_fitted.f).bind fun t389 => (if t389 = true then (if bt372.2.2.2.2.2.2.2.2.2.2.2.2.2.2.2 = true then ((slope_Grade.f k bt372.1 bt372.2.1 bt372.2.2.1 bt372.2.2.2.1 bt372.2.2.2.2.1 bt372.2.2.2.2.2.1 bt372.2.2.2.2.2.2.1 bt372.2.2.2.2.2.2.2.1 bt372.2.2.2.2.2.2.2.2.1 bt372.2.2.2.2.2.2.2.2.2.1 bt372.2.2.2.2.2.2.2.2.2.2.1 bt372.2.2.2.2.2.2.2.2.2.2.2.1 bt372.2.2.2.2.2.2.2.2.2.2.2.2.1 bt372.2.2.2.2.2.2.2.2.2.2.2.2.2.1 bt372.2.2.2.2.2.2.2.2.2.2.2.2.2.2.1).bind fun t390 => ((slope_Grade.f k x366000 x366001 x366002 x366003 x366004 x366005 x366006 x366007 x366008 x366009 x366010 x366011 x366012 x366013 x366014).bind fun t391 => (if t390 = (wrap64 (-t391)) then ((slope_Mean.f k bt372.1 bt372.2.1 bt372.2.2.1 bt372.2.2.2.1 bt372.2.2.2.2.1 bt372.2.2.2.2.2.1 bt372.2.2.2.2.2.2.1 bt372.2.2.2.2.2.2.2.1 bt372.2.2.2.2.2.2.2.2.1 bt372.2.2.2.2.2.2.2.2.2.1 bt372.2.2.2.2.2.2.2.2.2.2.1 bt372.2.2.2.2.2.2.2.2.2.2.2.1 bt372.2.2.2.2.2.2.2.2.2.2.2.2.1 bt372.2.2.2.2.2.2.2.2.2.2.2.2.2.1 bt372.2.2.2.2.2.2.2.2.2.2.2.2.2.2.1).bind fun t392 => ((slope_Mean.f k x366000 x366001 x366002 x366003 x366004 x366005 x366006 x366007 x366008 x366009 x366010 x366011 x366012 x366013 x366014).bind fun t393 => (if t392 = t393 then ((slope_Dev.f k bt372.1 bt372.2.1 bt372.2.2.1 bt372.2.2.2.1 bt372.2.2.2.2.1 bt372.2.2.2.2.2.1 bt372.2.2.2.2.2.2.1 bt372.2.2.2.2.2.2.2.1 bt372.2.2.2.2.2.2.2.2.1 bt372.2.2.2.2.2.2.2.2.2.1 bt372.2.2.2.2.2.2.2.2.2.2.1 bt372.2.2.2.2.2.2.2.2.2.2.2.1 bt372.2.2.2.2.2.2.2.2.2.2.2.2.1 bt372.2.2.2.2.2.2.2.2.2.2.2.2.2.1 bt372.2.2.2.2.2.2.2.2.2.2.2.2.2.2.1).bind fun t394 => ((slope_Dev.f k x366000 x366001 x366002 x366003 x366004 x366005 x366006 x366007 x366008 x366009 x366010 x366011 x366012 x366013 x366014).bind fun t395 => (some (t394 == t395)))) else (some false)))) else (some false)))) else (some false)) else (some false))))
end
def pacemakerlaw10_SlopeTurns.f (k : Nat) (l0 : List (S36)) : Option (Bool) := (pacemakerlaw10_sampled.f l0).bind fun bt349 => (if (l0.length : Int) > 100 then (pacemakerlaw10_SlopeTurns.j0 k l0 true bt349.1 bt349.2.1 bt349.2.2.1 bt349.2.2.2.1 bt349.2.2.2.2.1 bt349.2.2.2.2.2.1 bt349.2.2.2.2.2.2.1 bt349.2.2.2.2.2.2.2.1 bt349.2.2.2.2.2.2.2.2.1 bt349.2.2.2.2.2.2.2.2.2.1 bt349.2.2.2.2.2.2.2.2.2.2.1 bt349.2.2.2.2.2.2.2.2.2.2.2.1 bt349.2.2.2.2.2.2.2.2.2.2.2.2.1 bt349.2.2.2.2.2.2.2.2.2.2.2.2.2.1 bt349.2.2.2.2.2.2.2.2.2.2.2.2.2.2.1) else (pacemakerlaw10_SlopeTurns.j0 k l0 (!bt349.2.2.2.2.2.2.2.2.2.2.2.2.2.2.2) bt349.1 bt349.2.1 bt349.2.2.1 bt349.2.2.2.1 bt349.2.2.2.2.1 bt349.2.2.2.2.2.1 bt349.2.2.2.2.2.2.1 bt349.2.2.2.2.2.2.2.1 bt349.2.2.2.2.2.2.2.2.1 bt349.2.2.2.2.2.2.2.2.2.1 bt349.2.2.2.2.2.2.2.2.2.2.1 bt349.2.2.2.2.2.2.2.2.2.2.2.1 bt349.2.2.2.2.2.2.2.2.2.2.2.2.1 bt349.2.2.2.2.2.2.2.2.2.2.2.2.2.1 bt349.2.2.2.2.2.2.2.2.2.2.2.2.2.2.1))
theorem pacemakerlaw10_SlopeTurns.mono_l : ∀ k, (∀ y0 y1 y2 y3 y4 y5 y6 y7 y8 y9 y10 y11 y12 y13 y14 y15 y16, LeO (pacemakerlaw10_SlopeTurns.j0 k y0 y1 y2 y3 y4 y5 y6 y7 y8 y9 y10 y11 y12 y13 y14 y15 y16) (pacemakerlaw10_SlopeTurns.j0 (k + 1) y0 y1 y2 y3 y4 y5 y6 y7 y8 y9 y10 y11 y12 y13 y14 y15 y16)) ∧ (∀ y0 y1 y2 y3 y4 y5 y6 y7 y8 y9 y10 y11 y12 y13 y14 y15 y16 y17, LeO (pacemakerlaw10_SlopeTurns.l0 k y0 y1 y2 y3 y4 y5 y6 y7 y8 y9 y10 y11 y12 y13 y14 y15 y16 y17) (pacemakerlaw10_SlopeTurns.l0 (k + 1) y0 y1 y2 y3 y4 y5 y6 y7 y8 y9 y10 y11 y12 y13 y14 y15 y16 y17))
  | 0 => ⟨fun _ _ _ _ _ _ _ _ _ _ _ _ _ _ _ _ _ r h => by simp [pacemakerlaw10_SlopeTurns.j0] at h, fun _ _ _ _ _ _ _ _ _ _ _ _ _ _ _ _ _ _ r h => by simp [pacemakerlaw10_SlopeTurns.l0] at h⟩
  | k + 1 => by
    obtain ⟨ih0, ih1⟩ := pacemakerlaw10_SlopeTurns.mono_l k
    refine ⟨?_, ?_⟩
    · intro y0 y1 y2 y3 y4 y5 y6 y7 y8 y9 y10 y11 y12 y13 y14 y15 y16
      unfold pacemakerlaw10_SlopeTurns.j0
      repeat' first
      | (with_reducible exact ih0 _ _ _ _ _ _ _ _ _ _ _ _ _ _ _ _ _)
      | (with_reducible exact ih1 _ _ _ _ _ _ _ _ _ _ _ _ _ _ _ _ _ _)
      | (with_reducible exact slope_Dev.mono _ _ _ _ _ _ _ _ _ _ _ _ _ _ _ _)
      | (with_reducible exact slope_Grade.mono _ _ _ _ _ _ _ _ _ _ _ _ _ _ _ _)
      | (with_reducible exact slope_Mean.mono _ _ _ _ _ _ _ _ _ _ _ _ _ _ _ _)
      | (with_reducible exact LeO.refl _)
      | (with_reducible exact LeO.none _)
      | (with_reducible refine LeO.ite ?_ ?_)
      | (with_reducible refine LeO.bind ?_ (fun _ => ?_))
      | exact ih0 _ _ _ _ _ _ _ _ _ _ _ _ _ _ _ _ _
      | exact ih1 _ _ _ _ _ _ _ _ _ _ _ _ _ _ _ _ _ _
      | exact slope_Dev.mono _ _ _ _ _ _ _ _ _ _ _ _ _ _ _ _
      | exact slope_Grade.mono _ _ _ _ _ _ _ _ _ _ _ _ _ _ _ _
      | exact slope_Mean.mono _ _ _ _ _ _ _ _ _ _ _ _ _ _ _ _
      | exact LeO.none _
      | refine LeO.ite ?_ ?_
      | refine LeO.bind ?_ (fun _ => ?_)
    · intro y0 y1 y2 y3 y4 y5 y6 y7 y8 y9 y10 y11 y12 y13 y14 y15 y16 y17
      unfold pacemakerlaw10_SlopeTurns.l0
      repeat' first
      | (with_reducible exact ih0 _ _ _ _ _ _ _ _ _ _ _ _ _ _ _ _ _)
      | (with_reducible exact ih1 _ _ _ _ _ _ _ _ _ _ _ _ _ _ _ _ _ _)
      | (with_reducible exact slope_Dev.mono _ _ _ _ _ _ _ _ _ _ _ _ _ _ _ _)
      | (with_reducible exact slope_Grade.mono _ _ _ _ _ _ _ _ _ _ _ _ _ _ _ _)
      | (with_reducible exact slope_Mean.mono _ _ _ _ _ _ _ _ _ _ _ _ _ _ _ _)
      | (with_reducible exact LeO.refl _)
      | (with_reducible exact LeO.none _)
      | (with_reducible refine LeO.ite ?_ ?_)
      | (with_reducible refine LeO.bind ?_ (fun _ => ?_))
      | exact ih0 _ _ _ _ _ _ _ _ _ _ _ _ _ _ _ _ _
      | exact ih1 _ _ _ _ _ _ _ _ _ _ _ _ _ _ _ _ _ _
      | exact slope_Dev.mono _ _ _ _ _ _ _ _ _ _ _ _ _ _ _ _
      | exact slope_Grade.mono _ _ _ _ _ _ _ _ _ _ _ _ _ _ _ _
      | exact slope_Mean.mono _ _ _ _ _ _ _ _ _ _ _ _ _ _ _ _
      | exact LeO.none _
      | refine LeO.ite ?_ ?_
      | refine LeO.bind ?_ (fun _ => ?_)
theorem pacemakerlaw10_SlopeTurns.mono : ∀ a0 k, LeO (pacemakerlaw10_SlopeTurns.f k a0) (pacemakerlaw10_SlopeTurns.f (k + 1) a0) := by
  intro a0 k
  obtain ⟨ih0, ih1⟩ := pacemakerlaw10_SlopeTurns.mono_l k
  unfold pacemakerlaw10_SlopeTurns.f
  repeat' first
      | (with_reducible exact ih0 _ _ _ _ _ _ _ _ _ _ _ _ _ _ _ _ _)
      | (with_reducible exact ih1 _ _ _ _ _ _ _ _ _ _ _ _ _ _ _ _ _ _)
      | (with_reducible exact slope_Dev.mono _ _ _ _ _ _ _ _ _ _ _ _ _ _ _ _)
      | (with_reducible exact slope_Grade.mono _ _ _ _ _ _ _ _ _ _ _ _ _ _ _ _)
      | (with_reducible exact slope_Mean.mono _ _ _ _ _ _ _ _ _ _ _ _ _ _ _ _)
      | (with_reducible exact LeO.refl _)
      | (with_reducible exact LeO.none _)
      | (with_reducible refine LeO.ite ?_ ?_)
      | (with_reducible refine LeO.bind ?_ (fun _ => ?_))
      | exact ih0 _ _ _ _ _ _ _ _ _ _ _ _ _ _ _ _ _
      | exact ih1 _ _ _ _ _ _ _ _ _ _ _ _ _ _ _ _ _ _
      | exact slope_Dev.mono _ _ _ _ _ _ _ _ _ _ _ _ _ _ _ _
      | exact slope_Grade.mono _ _ _ _ _ _ _ _ _ _ _ _ _ _ _ _
      | exact slope_Mean.mono _ _ _ _ _ _ _ _ _ _ _ _ _ _ _ _
      | exact LeO.none _
      | refine LeO.ite ?_ ?_
      | refine LeO.bind ?_ (fun _ => ?_)
def pacemakerlaw10_SlopeTurns.T8 : Bool × List (List Nat × List Nat) := (true, [([], []), ([], []), ([], []), ([1, 2], [1, 2]), ([3], [3]), ([4], [4]), ([5], [5]), ([], []), ([], []), ([7, 8], [7, 8]), ([9], [9]), ([10], [10]), ([6, 11], [6, 11]), ([12], [12]), ([0, 13], [0, 13]), ([14, 14, 0, 1, 2, 3, 4, 5, 6, 7, 8, 9, 10, 11, 12, 13, 14], [0, 14])])
def pacemakerlaw10_SlopeTurns.B8 : List Nat := [0, 0, 0, 6, 14, 30, 62, 0, 0, 384, 896, 1920, 4094, 8190, 16383, 32767]
theorem pacemakerlaw10_SlopeTurns.tab8 : rtab .any (opsOf Try.f7 8) = pacemakerlaw10_SlopeTurns.T8 := by kernel_rfl
theorem pacemakerlaw10_SlopeTurns.bits8 : waitsOk pacemakerlaw10_SlopeTurns.T8.2 pacemakerlaw10_SlopeTurns.B8 = true := by kernel_rfl
def pacemakerlaw10_SlopeTurns.T10 : Bool × List (List Nat × List Nat) := (true, [([], []), ([0, 0], [0]), ([1], [1]), ([1, 2], [1, 2]), ([3, 1], [3]), ([4], [4]), ([5, 4, 4], [4, 5]), ([4], [4]), ([7, 6, 4], [4, 7]), ([8, 4], [4, 8]), ([6, 9, 4], [4, 6, 9]), ([4, 10], [4, 10]), ([11, 8], [11]), ([12], [12]), ([13, 12, 12], [12, 13]), ([12], [12]), ([15, 14, 12], [12, 15]), ([14, 16, 12], [12, 14, 16]), ([12, 17], [12, 17]), ([18, 16], [18]), ([19], [19]), ([20, 19, 19], [19, 20]), ([19], [19]), ([22, 21, 19], [19, 22]), ([21, 23, 19], [19, 21, 23]), ([19, 24], [19, 24]), ([25, 23, 0, 1, 2, 3, 4, 5, 6, 7, 8, 9, 10, 11, 12, 13, 14, 15, 16, 17, 18, 19, 20, 21, 22, 23, 24, 25], [25])])
def pacemakerlaw10_SlopeTurns.B10 : List Nat := [0, 1, 3, 7, 15, 31, 63, 31, 255, 511, 1023, 2047, 4095, 8191, 16383, 8191, 65535, 131071, 262143, 524287, 1048575, 2097151, 1048575, 8388607, 16777215, 33554431, 67108863]
theorem pacemakerlaw10_SlopeTurns.tab10 : rtab .any (opsOf Try.f7 10) = pacemakerlaw10_SlopeTurns.T10 := by kernel_rfl
theorem pacemakerlaw10_SlopeTurns.bits10 : waitsOk pacemakerlaw10_SlopeTurns.T10.2 pacemakerlaw10_SlopeTurns.B10 = true := by kernel_rfl
end Go.Proofs.Ytlokmliannklaaa.Print
end
