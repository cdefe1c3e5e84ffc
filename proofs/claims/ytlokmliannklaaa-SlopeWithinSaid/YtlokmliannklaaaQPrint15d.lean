/- Printed by a program of this session: functions of the law and their walks. -/
import Derived.Test.YtlokmliannklaaaQP0
import Derived.Test.YtlokmliannklaaaQPrint3
import Derived.Test.YtlokmliannklaaaQPrint4
import Derived.Test.YtlokmliannklaaaQSkd
import Derived.Test.YtlokmliannklaaaQFitted
section
namespace Go.Proofs.Ytlokmliannklaaa.Print
open Go.RowKit Go.Proofs.YtlokmliannklaaaW.PrintWords Go.Proofs.YtlokmliannklaaaW.PrintLast Go.Proofs.YtlokmliannklaaaW.PrintMore
attribute [local go_sem] max2_int min2_int max_two min_two max_three min_three max_four min_four   -- for this text's walks alone
set_option linter.unusedVariables false
set_option linter.unusedSimpArgs false

/-! ### pacemakerlaw10_SlopeWithin: function 8 -/
mutual
def pacemakerlaw10_SlopeWithin.j0 : Nat → List (S36) → Bool → Int → Int → Int → Int → Int → Int → Int → Int → Int → Int → Int → Int → Int → Int → Int → Option (Bool)
  | 0, _, _, _, _, _, _, _, _, _, _, _, _, _, _, _, _, _ => none
  | k + 1, x0, x26, x413000, x413001, x413002, x413003, x413004, x413005, x413006, x413007, x413008, x413009, x413010, x413011, x413012, x413013, x413014 => if x26 = true then ((pacemakerlaw10_fitted.f).bind fun t413 => (some t413)) else (if 0 < (x0.length : Int) then (pacemakerlaw10_SlopeWithin.l0 k x0 ((rd_T36 x0 0).f1) ((rd_T36 x0 0).f1) 0 x413000 x413001 x413002 x413003 x413004 x413005 x413006 x413007 x413008 x413009 x413010 x413011 x413012 x413013 x413014) else (none))
def pacemakerlaw10_SlopeWithin.l0 : Nat → List (S36) → Int → Int → Int → Int → Int → Int → Int → Int → Int → Int → Int → Int → Int → Int → Int → Int → Int → Int → Option (Bool)
  | 0, _, _, _, _, _, _, _, _, _, _, _, _, _, _, _, _, _, _, _ => none
  | k + 1, x0, x5, x6, x7, x413000, x413001, x413002, x413003, x413004, x413005, x413006, x413007, x413008, x413009, x413010, x413011, x413012, x413013, x413014 => if x7 < (x0.length : Int) then (if 0 ≤ x7 then (pacemakerlaw10_SlopeWithin.l0 k x0 (mn x5 ((rd_T36 x0 x7).f1)) (mx x6 ((rd_T36 x0 x7).f1)) (wrap64 (x7 + 1)) x413000 x413001 x413002 x413003 x413004 x413005 x413006 x413007 x413008 x413009 x413010 x413011 x413012 x413013 x413014) else (none)) else ((slope_Mean.f k x413000 x413001 x413002 x413003 x413004 x413005 x413006 x413007 x413008 x413009 x413010 x413011 x413012 x413013 x413014).bind fun t418 => ((slope_Dev.f k x413000 x413001 x413002 x413003 x413004 x413005 x413006 x413007 x413008 x413009 x413010 x413011 x413012 x413013 x413014).bind fun t419 => ((pacemakerlaw10_fitted.f).bind fun t420 => (if t420 = true then ((fix_Of.f x5).bind fun t421 => (if t418 ≥ t421 then ((fix_Of.f x6).bind fun t422 => (if t418 ≤ t422 then (if t419 ≥ 0 then ((fix_Of.f (wrap64 (x6 - x5))).bind fun t423 => (some (decide (t419 ≤ t423)))) else (some false)) else (some false))) else (some false))) else (some false)))))
end
def pacemakerlaw10_SlopeWithin.f (k : Nat) (l0 : List (S36)) : Option (Bool) := (pacemakerlaw10_sampled.f l0).bind fun bt396 => (if (l0.length : Int) > 100 then (pacemakerlaw10_SlopeWithin.j0 k l0 true bt396.1 bt396.2.1 bt396.2.2.1 bt396.2.2.2.1 bt396.2.2.2.2.1 bt396.2.2.2.2.2.1 bt396.2.2.2.2.2.2.1 bt396.2.2.2.2.2.2.2.1 bt396.2.2.2.2.2.2.2.2.1 bt396.2.2.2.2.2.2.2.2.2.1 bt396.2.2.2.2.2.2.2.2.2.2.1 bt396.2.2.2.2.2.2.2.2.2.2.2.1 bt396.2.2.2.2.2.2.2.2.2.2.2.2.1 bt396.2.2.2.2.2.2.2.2.2.2.2.2.2.1 bt396.2.2.2.2.2.2.2.2.2.2.2.2.2.2.1) else (if bt396.2.2.2.2.2.2.2.2.2.2.2.2.2.2.2 = true then (pacemakerlaw10_SlopeWithin.j0 k l0 ((l0.length : Int) == 0) bt396.1 bt396.2.1 bt396.2.2.1 bt396.2.2.2.1 bt396.2.2.2.2.1 bt396.2.2.2.2.2.1 bt396.2.2.2.2.2.2.1 bt396.2.2.2.2.2.2.2.1 bt396.2.2.2.2.2.2.2.2.1 bt396.2.2.2.2.2.2.2.2.2.1 bt396.2.2.2.2.2.2.2.2.2.2.1 bt396.2.2.2.2.2.2.2.2.2.2.2.1 bt396.2.2.2.2.2.2.2.2.2.2.2.2.1 bt396.2.2.2.2.2.2.2.2.2.2.2.2.2.1 bt396.2.2.2.2.2.2.2.2.2.2.2.2.2.2.1) else (pacemakerlaw10_SlopeWithin.j0 k l0 true bt396.1 bt396.2.1 bt396.2.2.1 bt396.2.2.2.1 bt396.2.2.2.2.1 bt396.2.2.2.2.2.1 bt396.2.2.2.2.2.2.1 bt396.2.2.2.2.2.2.2.1 bt396.2.2.2.2.2.2.2.2.1 bt396.2.2.2.2.2.2.2.2.2.1 bt396.2.2.2.2.2.2.2.2.2.2.1 bt396.2.2.2.2.2.2.2.2.2.2.2.1 bt396.2.2.2.2.2.2.2.2.2.2.2.2.1 bt396.2.2.2.2.2.2.2.2.2.2.2.2.2.1 bt396.2.2.2.2.2.2.2.2.2.2.2.2.2.2.1)))
theorem pacemakerlaw10_SlopeWithin.mono_l : ∀ k, (∀ y0 y1 y2 y3 y4 y5 y6 y7 y8 y9 y10 y11 y12 y13 y14 y15 y16, LeO (pacemakerlaw10_SlopeWithin.j0 k y0 y1 y2 y3 y4 y5 y6 y7 y8 y9 y10 y11 y12 y13 y14 y15 y16) (pacemakerlaw10_SlopeWithin.j0 (k + 1) y0 y1 y2 y3 y4 y5 y6 y7 y8 y9 y10 y11 y12 y13 y14 y15 y16)) ∧ (∀ y0 y1 y2 y3 y4 y5 y6 y7 y8 y9 y10 y11 y12 y13 y14 y15 y16 y17 y18, LeO (pacemakerlaw10_SlopeWithin.l0 k y0 y1 y2 y3 y4 y5 y6 y7 y8 y9 y10 y11 y12 y13 y14 y15 y16 y17 y18) (pacemakerlaw10_SlopeWithin.l0 (k + 1) y0 y1 y2 y3 y4 y5 y6 y7 y8 y9 y10 y11 y12 y13 y14 y15 y16 y17 y18))
  | 0 => ⟨fun _ _ _ _ _ _ _ _ _ _ _ _ _ _ _ _ _ r h => by simp [pacemakerlaw10_SlopeWithin.j0] at h, fun _ _ _ _ _ _ _ _ _ _ _ _ _ _ _ _ _ _ _ r h => by simp [pacemakerlaw10_SlopeWithin.l0] at h⟩
  | k + 1 => by
    obtain ⟨ih0, ih1⟩ := pacemakerlaw10_SlopeWithin.mono_l k
    refine ⟨?_, ?_⟩
    · intro y0 y1 y2 y3 y4 y5 y6 y7 y8 y9 y10 y11 y12 y13 y14 y15 y16
      unfold pacemakerlaw10_SlopeWithin.j0
      repeat' first
      | (with_reducible exact ih0 _ _ _ _ _ _ _ _ _ _ _ _ _ _ _ _ _)
      | (with_reducible exact ih1 _ _ _ _ _ _ _ _ _ _ _ _ _ _ _ _ _ _ _)
      | (with_reducible exact slope_Dev.mono _ _ _ _ _ _ _ _ _ _ _ _ _ _ _ _)
      | (with_reducible exact slope_Mean.mono _ _ _ _ _ _ _ _ _ _ _ _ _ _ _ _)
      | (with_reducible exact LeO.refl _)
      | (with_reducible exact LeO.none _)
      | (with_reducible refine LeO.ite ?_ ?_)
      | (with_reducible refine LeO.bind ?_ (fun _ => ?_))
      | exact ih0 _ _ _ _ _ _ _ _ _ _ _ _ _ _ _ _ _
      | exact ih1 _ _ _ _ _ _ _ _ _ _ _ _ _ _ _ _ _ _ _
      | exact slope_Dev.mono _ _ _ _ _ _ _ _ _ _ _ _ _ _ _ _
      | exact slope_Mean.mono _ _ _ _ _ _ _ _ _ _ _ _ _ _ _ _
      | exact LeO.none _
      | refine LeO.ite ?_ ?_
      | refine LeO.bind ?_ (fun _ => ?_)
    · intro y0 y1 y2 y3 y4 y5 y6 y7 y8 y9 y10 y11 y12 y13 y14 y15 y16 y17 y18
      unfold pacemakerlaw10_SlopeWithin.l0
      repeat' first
      | (with_reducible exact ih0 _ _ _ _ _ _ _ _ _ _ _ _ _ _ _ _ _)
      | (with_reducible exact ih1 _ _ _ _ _ _ _ _ _ _ _ _ _ _ _ _ _ _ _)
      | (with_reducible exact slope_Dev.mono _ _ _ _ _ _ _ _ _ _ _ _ _ _ _ _)
      | (with_reducible exact slope_Mean.mono _ _ _ _ _ _ _ _ _ _ _ _ _ _ _ _)
      | (with_reducible exact LeO.refl _)
      | (with_reducible exact LeO.none _)
      | (with_reducible refine LeO.ite ?_ ?_)
      | (with_reducible refine LeO.bind ?_ (fun _ => ?_))
      | exact ih0 _ _ _ _ _ _ _ _ _ _ _ _ _ _ _ _ _
      | exact ih1 _ _ _ _ _ _ _ _ _ _ _ _ _ _ _ _ _ _ _
      | exact slope_Dev.mono _ _ _ _ _ _ _ _ _ _ _ _ _ _ _ _
      | exact slope_Mean.mono _ _ _ _ _ _ _ _ _ _ _ _ _ _ _ _
      | exact LeO.none _
      | refine LeO.ite ?_ ?_
      | refine LeO.bind ?_ (fun _ => ?_)
theorem pacemakerlaw10_SlopeWithin.mono : ∀ a0 k, LeO (pacemakerlaw10_SlopeWithin.f k a0) (pacemakerlaw10_SlopeWithin.f (k + 1) a0) := by
  intro a0 k
  obtain ⟨ih0, ih1⟩ := pacemakerlaw10_SlopeWithin.mono_l k
  unfold pacemakerlaw10_SlopeWithin.f
  repeat' first
      | (with_reducible exact ih0 _ _ _ _ _ _ _ _ _ _ _ _ _ _ _ _ _)
      | (with_reducible exact ih1 _ _ _ _ _ _ _ _ _ _ _ _ _ _ _ _ _ _ _)
      | (with_reducible exact slope_Dev.mono _ _ _ _ _ _ _ _ _ _ _ _ _ _ _ _)
      | (with_reducible exact slope_Mean.mono _ _ _ _ _ _ _ _ _ _ _ _ _ _ _ _)
      | (with_reducible exact LeO.refl _)
      | (with_reducible exact LeO.none _)
      | (with_reducible refine LeO.ite ?_ ?_)
      | (with_reducible refine LeO.bind ?_ (fun _ => ?_))
      | exact ih0 _ _ _ _ _ _ _ _ _ _ _ _ _ _ _ _ _
      | exact ih1 _ _ _ _ _ _ _ _ _ _ _ _ _ _ _ _ _ _ _
      | exact slope_Dev.mono _ _ _ _ _ _ _ _ _ _ _ _ _ _ _ _
      | exact slope_Mean.mono _ _ _ _ _ _ _ _ _ _ _ _ _ _ _ _
      | exact LeO.none _
      | refine LeO.ite ?_ ?_
      | refine LeO.bind ?_ (fun _ => ?_)
end Go.Proofs.Ytlokmliannklaaa.Print
end
