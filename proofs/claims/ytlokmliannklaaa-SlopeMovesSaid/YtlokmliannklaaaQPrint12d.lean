/- Printed by a program of this session: functions of the law and their walks. -/
import Derived.Test.YtlokmliannklaaaQP0
import Derived.Test.YtlokmliannklaaaQPrint3
import Derived.Test.YtlokmliannklaaaQPrint4
import Derived.Test.YtlokmliannklaaaQSkd
import Derived.Test.YtlokmliannklaaaQFitted
section
namespace Go.Proofs.Ytlokmliannklaaa.Print
open Go.RowKit Go.Proofs.YtlokmliannklaaaW.PrintWords Go.Proofs.YtlokmliannklaaaW.PrintLast Go.Proofs.YtlokmliannklaaaW.PrintMore
attribute [local go_sem] max2_int min2_int max_two min_two max_three min_three max_four min_four   -- for this text's walks alone
set_option linter.unusedVariables false
set_option linter.unusedSimpArgs false

/-! ### pacemakerlaw10_SlopeMoves: function 5 -/
mutual
def pacemakerlaw10_SlopeMoves.j0 : Nat → List (S36) → Int → Bool → Int → Int → Int → Int → Int → Int → Int → Int → Int → Int → Int → Int → Int → Int → Int → Option (Bool)
  | 0, _, _, _, _, _, _, _, _, _, _, _, _, _, _, _, _, _, _ => none
  | k + 1, x0, x1, x30, x250000, x250001, x250002, x250003, x250004, x250005, x250006, x250007, x250008, x250009, x250010, x250011, x250012, x250013, x250014 => if x30 = true then ((pacemakerlaw10_fitted.f).bind fun t250 => (some t250)) else (pacemakerlaw10_SlopeMoves.l0 k x0 x1 ([] : List (S36)) 0 x250000 x250001 x250002 x250003 x250004 x250005 x250006 x250007 x250008 x250009 x250010 x250011 x250012 x250013 x250014)
def pacemakerlaw10_SlopeMoves.l0 : Nat → List (S36) → Int → List (S36) → Int → Int → Int → Int → Int → Int → Int → Int → Int → Int → Int → Int → Int → Int → Int → Int → Option (Bool)
  | 0, _, _, _, _, _, _, _, _, _, _, _, _, _, _, _, _, _, _, _ => none
  | k + 1, x0, x1, x7, x8, x250000, x250001, x250002, x250003, x250004, x250005, x250006, x250007, x250008, x250009, x250010, x250011, x250012, x250013, x250014 => if x8 < (x0.length : Int) then (if 0 ≤ x8 then (if x7.length < 8796093022208 then (pacemakerlaw10_SlopeMoves.l0 k x0 x1 (x7 ++ [(⟨(rd_T36 x0 x8).f0, wrap64 (((rd_T36 x0 x8).f1) + x1)⟩ : S36)]) (wrap64 (x8 + 1)) x250000 x250001 x250002 x250003 x250004 x250005 x250006 x250007 x250008 x250009 x250010 x250011 x250012 x250013 x250014) else (none)) else (none)) else ((pacemakerlaw10_sampled.f x7).bind fun bt256 => (if bt256.2.2.2.2.2.2.2.2.2.2.2.2.2.2.2 = true then (pacemakerlaw10_SlopeMoves.j2 k x1 ((x0.length : Int) == 0) x250000 x250001 x250002 x250003 x250004 x250005 x250006 x250007 x250008 x250009 x250010 x250011 x250012 x250013 x250014 bt256.1 bt256.2.1 bt256.2.2.1 bt256.2.2.2.1 bt256.2.2.2.2.1 bt256.2.2.2.2.2.1 bt256.2.2.2.2.2.2.1 bt256.2.2.2.2.2.2.2.1 bt256.2.2.2.2.2.2.2.2.1 bt256.2.2.2.2.2.2.2.2.2.1 bt256.2.2.2.2.2.2.2.2.2.2.1 bt256.2.2.2.2.2.2.2.2.2.2.2.1 bt256.2.2.2.2.2.2.2.2.2.2.2.2.1 bt256.2.2.2.2.2.2.2.2.2.2.2.2.2.1 bt256.2.2.2.2.2.2.2.2.2.2.2.2.2.2.1) else (pacemakerlaw10_SlopeMoves.j2 k x1 true x250000 x250001 x250002 x250003 x250004 x250005 x250006 x250007 x250008 x250009 x250010 x250011 x250012 x250013 x250014 bt256.1 bt256.2.1 bt256.2.2.1 bt256.2.2.2.1 bt256.2.2.2.2.1 bt256.2.2.2.2.2.1 bt256.2.2.2.2.2.2.1 bt256.2.2.2.2.2.2.2.1 bt256.2.2.2.2.2.2.2.2.1 bt256.2.2.2.2.2.2.2.2.2.1 bt256.2.2.2.2.2.2.2.2.2.2.1 bt256.2.2.2.2.2.2.2.2.2.2.2.1 bt256.2.2.2.2.2.2.2.2.2.2.2.2.1 bt256.2.2.2.2.2.2.2.2.2.2.2.2.2.1 bt256.2.2.2.2.2.2.2.2.2.2.2.2.2.2.1)))
def pacemakerlaw10_SlopeMoves.j2 : Nat → Int → Bool → Int → Int → Int → Int → Int → Int → Int → Int → Int → Int → Int → Int → Int → Int → Int → Int → Int → Int → Int → Int → Int → Int → Int → Int → Int → Int → Int → Int → Int → Int → Option (Bool)
  | 0, _, _, _, _, _, _, _, _, _, _, _, _, _, _, _, _, _, _, _, _, _, _, _, _, _, _, _, _, _, _, _, _ => none
  | k + 1, x1, x65, x250000, x250001, x250002, x250003, x250004, x250005, x250006, x250007, x250008, x250009, x250010, x250011, x250012, x250013, x250014, x273000, x273001, x273002, x273003, x273004, x273005, x273006, x273007, x273008, x273009, x273010, x273011, x273012, x273013, x273014 => if x65 = true then ((pacemakerlaw10_fitted.f).bind fun t273 => (some t273)) else ((pacemakerlaw10_fitted.f).bind fun t274 => (if t274 = true then ((slope_Dev.f k x273000 x273001 x273002 x273003 x273004 x273005 x273006 x273007 x273008 x273009 x273010 x273011 x273012 x273013 x273014).bind fun t275 => ((slope_Dev.f k x250000 x250001 x250002 x250003 x250004 x250005 x250006 x250007 x250008 x250009 x250010 x250011 x250012 x250013 x250014).bind fun t276 => (if t275 = t276 then ((slope_Grade.f k x273000 x273001 x273002 x273003 x273004 x273005 x273006 x273007 x273008 x273009 x273010 x273011 x273012 x273013 x273014).bind fun t277 => ((slope_Grade.f k x250000 x250001 x250002 x250003 x250004 x250005 x250006 x250007 x250008 x250009 x250010 x250011 x250012 x250013 x250014).bind fun t278 => (if t277 = t278 then ((slope_Mean.f k x273000 x273001 x273002 x273003 x273004 x273005 x273006 x273007 x273008 x273009 x273010 x273011 x273012 x273013 x273014).bind fun t279 => ((slope_Mean.f k x250000 x250001 x250002 x250003 x250004 x250005 x250006 x250007 x250008 x250009 x250010 x250011 x250012 x250013 x250014).bind fun t280 => ((fix_Of.f x1).bind fun t281 => (some (t279 == (wrap64 (t280 + t281))))))) else (some false)))) else (some false)))) else (some false)))
end
def pacemakerlaw10_SlopeMoves.f (k : Nat) (l0 : List (S36)) (a1 : Int) : Option (Bool) := (pacemakerlaw10_sampled.f l0).bind fun bt233 => (if (l0.length : Int) > 100 then (pacemakerlaw10_SlopeMoves.j0 k l0 a1 true bt233.1 bt233.2.1 bt233.2.2.1 bt233.2.2.2.1 bt233.2.2.2.2.1 bt233.2.2.2.2.2.1 bt233.2.2.2.2.2.2.1 bt233.2.2.2.2.2.2.2.1 bt233.2.2.2.2.2.2.2.2.1 bt233.2.2.2.2.2.2.2.2.2.1 bt233.2.2.2.2.2.2.2.2.2.2.1 bt233.2.2.2.2.2.2.2.2.2.2.2.1 bt233.2.2.2.2.2.2.2.2.2.2.2.2.1 bt233.2.2.2.2.2.2.2.2.2.2.2.2.2.1 bt233.2.2.2.2.2.2.2.2.2.2.2.2.2.2.1) else (if bt233.2.2.2.2.2.2.2.2.2.2.2.2.2.2.2 = true then (if a1 < 0 then (pacemakerlaw10_SlopeMoves.j0 k l0 a1 true bt233.1 bt233.2.1 bt233.2.2.1 bt233.2.2.2.1 bt233.2.2.2.2.1 bt233.2.2.2.2.2.1 bt233.2.2.2.2.2.2.1 bt233.2.2.2.2.2.2.2.1 bt233.2.2.2.2.2.2.2.2.1 bt233.2.2.2.2.2.2.2.2.2.1 bt233.2.2.2.2.2.2.2.2.2.2.1 bt233.2.2.2.2.2.2.2.2.2.2.2.1 bt233.2.2.2.2.2.2.2.2.2.2.2.2.1 bt233.2.2.2.2.2.2.2.2.2.2.2.2.2.1 bt233.2.2.2.2.2.2.2.2.2.2.2.2.2.2.1) else (pacemakerlaw10_SlopeMoves.j0 k l0 a1 (decide (a1 > 60000000)) bt233.1 bt233.2.1 bt233.2.2.1 bt233.2.2.2.1 bt233.2.2.2.2.1 bt233.2.2.2.2.2.1 bt233.2.2.2.2.2.2.1 bt233.2.2.2.2.2.2.2.1 bt233.2.2.2.2.2.2.2.2.1 bt233.2.2.2.2.2.2.2.2.2.1 bt233.2.2.2.2.2.2.2.2.2.2.1 bt233.2.2.2.2.2.2.2.2.2.2.2.1 bt233.2.2.2.2.2.2.2.2.2.2.2.2.1 bt233.2.2.2.2.2.2.2.2.2.2.2.2.2.1 bt233.2.2.2.2.2.2.2.2.2.2.2.2.2.2.1)) else (pacemakerlaw10_SlopeMoves.j0 k l0 a1 true bt233.1 bt233.2.1 bt233.2.2.1 bt233.2.2.2.1 bt233.2.2.2.2.1 bt233.2.2.2.2.2.1 bt233.2.2.2.2.2.2.1 bt233.2.2.2.2.2.2.2.1 bt233.2.2.2.2.2.2.2.2.1 bt233.2.2.2.2.2.2.2.2.2.1 bt233.2.2.2.2.2.2.2.2.2.2.1 bt233.2.2.2.2.2.2.2.2.2.2.2.1 bt233.2.2.2.2.2.2.2.2.2.2.2.2.1 bt233.2.2.2.2.2.2.2.2.2.2.2.2.2.1 bt233.2.2.2.2.2.2.2.2.2.2.2.2.2.2.1)))
theorem pacemakerlaw10_SlopeMoves.mono_l : ∀ k, (∀ y0 y1 y2 y3 y4 y5 y6 y7 y8 y9 y10 y11 y12 y13 y14 y15 y16 y17, LeO (pacemakerlaw10_SlopeMoves.j0 k y0 y1 y2 y3 y4 y5 y6 y7 y8 y9 y10 y11 y12 y13 y14 y15 y16 y17) (pacemakerlaw10_SlopeMoves.j0 (k + 1) y0 y1 y2 y3 y4 y5 y6 y7 y8 y9 y10 y11 y12 y13 y14 y15 y16 y17)) ∧ (∀ y0 y1 y2 y3 y4 y5 y6 y7 y8 y9 y10 y11 y12 y13 y14 y15 y16 y17 y18, LeO (pacemakerlaw10_SlopeMoves.l0 k y0 y1 y2 y3 y4 y5 y6 y7 y8 y9 y10 y11 y12 y13 y14 y15 y16 y17 y18) (pacemakerlaw10_SlopeMoves.l0 (k + 1) y0 y1 y2 y3 y4 y5 y6 y7 y8 y9 y10 y11 y12 y13 y14 y15 y16 y17 y18)) ∧ (∀ y0 y1 y2 y3 y4 y5 y6 y7 y8 y9 y10 y11 y12 y13 y14 y15 y16 y17 y18 y19 y20 y21 y22 y23 y24 y25 y26 y27 y28 y29 y30 y31, LeO (pacemakerlaw10_SlopeMoves.j2 k y0 y1 y2 y3 y4 y5 y6 y7 y8 y9 y10 y11 y12 y13 y14 y15 y16 y17 y18 y19 y20 y21 y22 y23 y24 y25 y26 y27 y28 y29 y30 y31) (pacemakerlaw10_SlopeMoves.j2 (k + 1) y0 y1 y2 y3 y4 y5 y6 y7 y8 y9 y10 y11 y12 y13 y14 y15 y16 y17 y18 y19 y20 y21 y22 y23 y24 y25 y26 y27 y28 y29 y30 y31))
  | 0 => ⟨fun _ _ _ _ _ _ _ _ _ _ _ _ _ _ _ _ _ _ r h => by simp [pacemakerlaw10_SlopeMoves.j0] at h, fun _ _ _ _ _ _ _ _ _ _ _ _ _ _ _ _ _ _ _ r h => by simp [pacemakerlaw10_SlopeMoves.l0] at h, fun _ _ _ _ _ _ _ _ _ _ _ _ _ _ _ _ _ _ _ _ _ _ _ _ _ _ _ _ _ _ _ _ r h => by simp [pacemakerlaw10_SlopeMoves.j2] at h⟩
  | k + 1 => by
    obtain ⟨ih0, ih1, ih2⟩ := pacemakerlaw10_SlopeMoves.mono_l k
    refine ⟨?_, ?_, ?_⟩
    · intro y0 y1 y2 y3 y4 y5 y6 y7 y8 y9 y10 y11 y12 y13 y14 y15 y16 y17
      unfold pacemakerlaw10_SlopeMoves.j0
      repeat' first
      | (with_reducible exact ih0 _ _ _ _ _ _ _ _ _ _ _ _ _ _ _ _ _ _)
      | (with_reducible exact ih1 _ _ _ _ _ _ _ _ _ _ _ _ _ _ _ _ _ _ _)
      | (with_reducible exact ih2 _ _ _ _ _ _ _ _ _ _ _ _ _ _ _ _ _ _ _ _ _ _ _ _ _ _ _ _ _ _ _ _)
      | (with_reducible exact slope_Dev.mono _ _ _ _ _ _ _ _ _ _ _ _ _ _ _ _)
      | (with_reducible exact slope_Grade.mono _ _ _ _ _ _ _ _ _ _ _ _ _ _ _ _)
      | (with_reducible exact slope_Mean.mono _ _ _ _ _ _ _ _ _ _ _ _ _ _ _ _)
      | (with_reducible exact LeO.refl _)
      | (with_reducible exact LeO.none _)
      | (with_reducible refine LeO.ite ?_ ?_)
      | (with_reducible refine LeO.bind ?_ (fun _ => ?_))
      | exact ih0 _ _ _ _ _ _ _ _ _ _ _ _ _ _ _ _ _ _
      | exact ih1 _ _ _ _ _ _ _ _ _ _ _ _ _ _ _ _ _ _ _
      | exact ih2 _ _ _ _ _ _ _ _ _ _ _ _ _ _ _ _ _ _ _ _ _ _ _ _ _ _ _ _ _ _ _ _
      | exact slope_Dev.mono _ _ _ _ _ _ _ _ _ _ _ _ _ _ _ _
      | exact slope_Grade.mono _ _ _ _ _ _ _ _ _ _ _ _ _ _ _ _
      | exact slope_Mean.mono _ _ _ _ _ _ _ _ _ _ _ _ _ _ _ _
      | exact LeO.none _
      | refine LeO.ite ?_ ?_
      | refine LeO.bind ?_ (fun _ => ?_)
    · intro y0 y1 y2 y3 y4 y5 y6 y7 y8 y9 y10 y11 y12 y13 y14 y15 y16 y17 y18
      unfold pacemakerlaw10_SlopeMoves.l0
      repeat' first
      | (with_reducible exact ih0 _ _ _ _ _ _ _ _ _ _ _ _ _ _ _ _ _ _)
      | (with_reducible exact ih1 _ _ _ _ _ _ _ _ _ _ _ _ _ _ _ _ _ _ _)
      | (with_reducible exact ih2 _ _ _ _ _ _ _ _ _ _ _ _ _ _ _ _ _ _ _ _ _ _ _ _ _ _ _ _ _ _ _ _)
      | (with_reducible exact slope_Dev.mono _ _ _ _ _ _ _ _ _ _ _ _ _ _ _ _)
      | (with_reducible exact slope_Grade.mono _ _ _ _ _ _ _ _ _ _ _ _ _ _ _ _)
      | (with_reducible exact slope_Mean.mono _ _ _ _ _ _ _ _ _ _ _ _ _ _ _ _)
      | (with_reducible exact LeO.refl _)
      | (with_reducible exact LeO.none _)
      | (with_reducible refine LeO.ite ?_ ?_)
      | (with_reducible refine LeO.bind ?_ (fun _ => ?_))
      | exact ih0 _ _ _ _ _ _ _ _ _ _ _ _ _ _ _ _ _ _
      | exact ih1 _ _ _ _ _ _ _ _ _ _ _ _ _ _ _ _ _ _ _
      | exact ih2 _ _ _ _ _ _ _ _ _ _ _ _ _ _ _ _ _ _ _ _ _ _ _ _ _ _ _ _ _ _ _ _
      | exact slope_Dev.mono _ _ _ _ _ _ _ _ _ _ _ _ _ _ _ _
      | exact slope_Grade.mono _ _ _ _ _ _ _ _ _ _ _ _ _ _ _ _
      | exact slope_Mean.mono _ _ _ _ _ _ _ _ _ _ _ _ _ _ _ _
      | exact LeO.none _
      | refine LeO.ite ?_ ?_
      | refine LeO.bind ?_ (fun _ => ?_)
    · intro y0 y1 y2 y3 y4 y5 y6 y7 y8 y9 y10 y11 y12 y13 y14 y15 y16 y17 y18 y19 y20 y21 y22 y23 y24 y25 y26 y27 y28 y29 y30 y31
      unfold pacemakerlaw10_SlopeMoves.j2
      repeat' first
      | (with_reducible exact ih0 _ _ _ _ _ _ _ _ _ _ _ _ _ _ _ _ _ _)
      | (with_reducible exact ih1 _ _ _ _ _ _ _ _ _ _ _ _ _ _ _ _ _ _ _)
      | (with_reducible exact ih2 _ _ _ _ _ _ _ _ _ _ _ _ _ _ _ _ _ _ _ _ _ _ _ _ _ _ _ _ _ _ _ _)
      | (with_reducible exact slope_Dev.mono _ _ _ _ _ _ _ _ _ _ _ _ _ _ _ _)
      | (with_reducible exact slope_Grade.mono _ _ _ _ _ _ _ _ _ _ _ _ _ _ _ _)
      | (with_reducible exact slope_Mean.mono _ _ _ _ _ _ _ _ _ _ _ _ _ _ _ _)
      | (with_reducible exact LeO.refl _)
      | (with_reducible exact LeO.none _)
      | (with_reducible refine LeO.ite ?_ ?_)
      | (with_reducible refine LeO.bind ?_ (fun _ => ?_))
      | exact ih0 _ _ _ _ _ _ _ _ _ _ _ _ _ _ _ _ _ _
      | exact ih1 _ _ _ _ _ _ _ _ _ _ _ _ _ _ _ _ _ _ _
      | exact ih2 _ _ _ _ _ _ _ _ _ _ _ _ _ _ _ _ _ _ _ _ _ _ _ _ _ _ _ _ _ _ _ _
      | exact slope_Dev.mono _ _ _ _ _ _ _ _ _ _ _ _ _ _ _ _
      | exact slope_Grade.mono _ _ _ _ _ _ _ _ _ _ _ _ _ _ _ _
      | exact slope_Mean.mono _ _ _ _ _ _ _ _ _ _ _ _ _ _ _ _
      | exact LeO.none _
      | refine LeO.ite ?_ ?_
      | refine LeO.bind ?_ (fun _ => ?_)
theorem pacemakerlaw10_SlopeMoves.mono : ∀ a0 a1 k, LeO (pacemakerlaw10_SlopeMoves.f k a0 a1) (pacemakerlaw10_SlopeMoves.f (k + 1) a0 a1) := by
  intro a0 a1 k
  obtain ⟨ih0, ih1, ih2⟩ := pacemakerlaw10_SlopeMoves.mono_l k
  unfold pacemakerlaw10_SlopeMoves.f
  repeat' first
      | (with_reducible exact ih0 _ _ _ _ _ _ _ _ _ _ _ _ _ _ _ _ _ _)
      | (with_reducible exact ih1 _ _ _ _ _ _ _ _ _ _ _ _ _ _ _ _ _ _ _)
      | (with_reducible exact ih2 _ _ _ _ _ _ _ _ _ _ _ _ _ _ _ _ _ _ _ _ _ _ _ _ _ _ _ _ _ _ _ _)
      | (with_reducible exact slope_Dev.mono _ _ _ _ _ _ _ _ _ _ _ _ _ _ _ _)
      | (with_reducible exact slope_Grade.mono _ _ _ _ _ _ _ _ _ _ _ _ _ _ _ _)
      | (with_reducible exact slope_Mean.mono _ _ _ _ _ _ _ _ _ _ _ _ _ _ _ _)
      | (with_reducible exact LeO.refl _)
      | (with_reducible exact LeO.none _)
      | (with_reducible refine LeO.ite ?_ ?_)
      | (with_reducible refine LeO.bind ?_ (fun _ => ?_))
      | exact ih0 _ _ _ _ _ _ _ _ _ _ _ _ _ _ _ _ _ _
      | exact ih1 _ _ _ _ _ _ _ _ _ _ _ _ _ _ _ _ _ _ _
      | exact ih2 _ _ _ _ _ _ _ _ _ _ _ _ _ _ _ _ _ _ _ _ _ _ _ _ _ _ _ _ _ _ _ _
      | exact slope_Dev.mono _ _ _ _ _ _ _ _ _ _ _ _ _ _ _ _
      | exact slope_Grade.mono _ _ _ _ _ _ _ _ _ _ _ _ _ _ _ _
      | exact slope_Mean.mono _ _ _ _ _ _ _ _ _ _ _ _ _ _ _ _
      | exact LeO.none _
      | refine LeO.ite ?_ ?_
      | refine LeO.bind ?_ (fun _ => ?_)
def pacemakerlaw10_SlopeMoves.T8 : Bool × List (List Nat × List Nat) := (true, [([], []), ([], []), ([], []), ([1, 2], [1, 2]), ([3], [3]), ([4], [4]), ([], []), ([], []), ([6, 7], [6, 7]), ([8], [8]), ([9], [9]), ([], []), ([10, 11], [10, 11]), ([5, 12], [5, 12]), ([13], [13]), ([0, 14], [0, 14]), ([15, 15, 0, 1, 2, 3, 4, 5, 6, 7, 8, 9, 10, 11, 12, 13, 14, 15], [0, 15])])
def pacemakerlaw10_SlopeMoves.B8 : List Nat := [0, 0, 0, 6, 14, 30, 0, 0, 192, 448, 960, 0, 4032, 8190, 16382, 32767, 65535]
theorem pacemakerlaw10_SlopeMoves.tab8 : rtab .any (opsOf Try.f5 8) = pacemakerlaw10_SlopeMoves.T8 := by kernel_rfl
theorem pacemakerlaw10_SlopeMoves.bits8 : waitsOk pacemakerlaw10_SlopeMoves.T8.2 pacemakerlaw10_SlopeMoves.B8 = true := by kernel_rfl
def pacemakerlaw10_SlopeMoves.T12 : Bool × List (List Nat × List Nat) := (true, [([], []), ([0, 0], [0]), ([1], [1]), ([2, 1, 1], [1, 2]), ([1], [1]), ([4, 3, 1], [1, 4]), ([3, 5, 1], [1, 3, 5]), ([1, 6], [1, 6]), ([7, 5], [7]), ([8], [8]), ([9, 8, 8], [8, 9]), ([8], [8]), ([11, 10, 8], [8, 11]), ([10, 12, 8], [8, 10, 12]), ([8, 13], [8, 13]), ([14, 12], [14]), ([15], [15]), ([16, 15, 15], [15, 16]), ([15], [15]), ([18, 17, 15], [15, 18]), ([15], [15]), ([20, 19, 15], [15, 20]), ([19, 21, 15], [15, 19, 21]), ([17, 22, 15], [15, 17, 22]), ([15, 23], [15, 23]), ([24, 21, 0, 1, 2, 3, 4, 5, 6, 7, 8, 9, 10, 11, 12, 13, 14, 15, 16, 17, 18, 19, 20, 21, 22, 23, 24], [24])])
def pacemakerlaw10_SlopeMoves.B12 : List Nat := [0, 1, 3, 7, 3, 31, 63, 127, 255, 511, 1023, 511, 4095, 8191, 16383, 32767, 65535, 131071, 65535, 524287, 65535, 2097151, 4194303, 8388607, 16777215, 33554431]
theorem pacemakerlaw10_SlopeMoves.tab12 : rtab .any (opsOf Try.f5 12) = pacemakerlaw10_SlopeMoves.T12 := by kernel_rfl
theorem pacemakerlaw10_SlopeMoves.bits12 : waitsOk pacemakerlaw10_SlopeMoves.T12.2 pacemakerlaw10_SlopeMoves.B12 = true := by kernel_rfl
end Go.Proofs.Ytlokmliannklaaa.Print
end
