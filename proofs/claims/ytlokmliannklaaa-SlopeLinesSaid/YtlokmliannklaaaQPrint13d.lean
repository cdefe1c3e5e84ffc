/- Printed by a program of this session: functions of the law and their walks. -/
import Derived.Test.YtlokmliannklaaaQP0
import Derived.Test.YtlokmliannklaaaQPrint3
import Derived.Test.YtlokmliannklaaaQPrint4
import Derived.Test.YtlokmliannklaaaQSkd
import Derived.Test.YtlokmliannklaaaQFitted
section
namespace Go.Proofs.Ytlokmliannklaaa.Print
open Go.RowKit Go.Proofs.YtlokmliannklaaaW.PrintWords Go.Proofs.YtlokmliannklaaaW.PrintLast Go.Proofs.YtlokmliannklaaaW.PrintMore
attribute [local go_sem] max2_int min2_int max_two min_two max_three min_three max_four min_four   -- for this text's walks alone
set_option linter.unusedVariables false
set_option linter.unusedSimpArgs false

/-! ### pacemakerlaw10_SlopeLines: function 6 -/
mutual
def pacemakerlaw10_SlopeLines.j0 : Nat → List Int → Int → Int → Bool → Option (Bool)
  | 0, _, _, _, _ => none
  | k + 1, x0, x1, x2, x34 => if x34 = true then ((pacemakerlaw10_fitted.f).bind fun t282 => (some t282)) else (pacemakerlaw10_SlopeLines.l0 k x0 x1 x2 ([] : List (S36)) ([] : List (S36)) false 0)
def pacemakerlaw10_SlopeLines.l0 : Nat → List Int → Int → Int → List (S36) → List (S36) → Bool → Int → Option (Bool)
  | 0, _, _, _, _, _, _, _ => none
  | k + 1, x0, x1, x2, x7, x8, x9, x10 => if x10 < (x0.length : Int) then (if 0 ≤ x10 then (if (rd x0 x10) < 0 then ((pacemakerlaw10_fitted.f).bind fun t284 => (some t284)) else (if (rd x0 x10) > 1000000 then ((pacemakerlaw10_fitted.f).bind fun t286 => (some t286)) else (if x9 = true then (if x7.length < 8796093022208 then (if x8.length < 8796093022208 then (pacemakerlaw10_SlopeLines.l0 k x0 x1 x2 (x7 ++ [(⟨rd x0 x10, wrap64 (x1 + (wrap64 (x2 * (rd x0 x10))))⟩ : S36)]) (x8 ++ [(⟨rd x0 x10, x1⟩ : S36)]) true (wrap64 (x10 + 1))) else (none)) else (none)) else (if 0 < (x0.length : Int) then (if x7.length < 8796093022208 then (if x8.length < 8796093022208 then (pacemakerlaw10_SlopeLines.l0 k x0 x1 x2 (x7 ++ [(⟨rd x0 x10, wrap64 (x1 + (wrap64 (x2 * (rd x0 x10))))⟩ : S36)]) (x8 ++ [(⟨rd x0 x10, x1⟩ : S36)]) ((rd x0 x10) != (rd x0 0)) (wrap64 (x10 + 1))) else (none)) else (none)) else (none))))) else (none)) else ((pacemakerlaw10_sampled.f x7).bind fun bt307 => ((pacemakerlaw10_sampled.f x8).bind fun bt324 => (if bt307.2.2.2.2.2.2.2.2.2.2.2.2.2.2.2 = true then (if bt324.2.2.2.2.2.2.2.2.2.2.2.2.2.2.2 = true then (pacemakerlaw10_SlopeLines.j2 k x0 x1 x2 x9 ((x0.length : Int) == 0) bt307.1 bt307.2.1 bt307.2.2.1 bt307.2.2.2.1 bt307.2.2.2.2.1 bt307.2.2.2.2.2.1 bt307.2.2.2.2.2.2.1 bt307.2.2.2.2.2.2.2.1 bt307.2.2.2.2.2.2.2.2.1 bt307.2.2.2.2.2.2.2.2.2.1 bt307.2.2.2.2.2.2.2.2.2.2.1 bt307.2.2.2.2.2.2.2.2.2.2.2.1 bt307.2.2.2.2.2.2.2.2.2.2.2.2.1 bt307.2.2.2.2.2.2.2.2.2.2.2.2.2.1 bt307.2.2.2.2.2.2.2.2.2.2.2.2.2.2.1 bt324.1 bt324.2.1 bt324.2.2.1 bt324.2.2.2.1 bt324.2.2.2.2.1 bt324.2.2.2.2.2.1 bt324.2.2.2.2.2.2.1 bt324.2.2.2.2.2.2.2.1 bt324.2.2.2.2.2.2.2.2.1 bt324.2.2.2.2.2.2.2.2.2.1 bt324.2.2.2.2.2.2.2.2.2.2.1 bt324.2.2.2.2.2.2.2.2.2.2.2.1 bt324.2.2.2.2.2.2.2.2.2.2.2.2.1 bt324.2.2.2.2.2.2.2.2.2.2.2.2.2.1 bt324.2.2.2.2.2.2.2.2.2.2.2.2.2.2.1) else (pacemakerlaw10_SlopeLines.j2 k x0 x1 x2 x9 true bt307.1 bt307.2.1 bt307.2.2.1 bt307.2.2.2.1 bt307.2.2.2.2.1 bt307.2.2.2.2.2.1 bt307.2.2.2.2.2.2.1 bt307.2.2.2.2.2.2.2.1 bt307.2.2.2.2.2.2.2.2.1 bt307.2.2.2.2.2.2.2.2.2.1 bt307.2.2.2.2.2.2.2.2.2.2.1 bt307.2.2.2.2.2.2.2.2.2.2.2.1 bt307.2.2.2.2.2.2.2.2.2.2.2.2.1 bt307.2.2.2.2.2.2.2.2.2.2.2.2.2.1 bt307.2.2.2.2.2.2.2.2.2.2.2.2.2.2.1 bt324.1 bt324.2.1 bt324.2.2.1 bt324.2.2.2.1 bt324.2.2.2.2.1 bt324.2.2.2.2.2.1 bt324.2.2.2.2.2.2.1 bt324.2.2.2.2.2.2.2.1 bt324.2.2.2.2.2.2.2.2.1 bt324.2.2.2.2.2.2.2.2.2.1 bt324.2.2.2.2.2.2.2.2.2.2.1 bt324.2.2.2.2.2.2.2.2.2.2.2.1 bt324.2.2.2.2.2.2.2.2.2.2.2.2.1 bt324.2.2.2.2.2.2.2.2.2.2.2.2.2.1 bt324.2.2.2.2.2.2.2.2.2.2.2.2.2.2.1)) else (pacemakerlaw10_SlopeLines.j2 k x0 x1 x2 x9 true bt307.1 bt307.2.1 bt307.2.2.1 bt307.2.2.2.1 bt307.2.2.2.2.1 bt307.2.2.2.2.2.1 bt307.2.2.2.2.2.2.1 bt307.2.2.2.2.2.2.2.1 bt307.2.2.2.2.2.2.2.2.1 bt307.2.2.2.2.2.2.2.2.2.1 bt307.2.2.2.2.2.2.2.2.2.2.1 bt307.2.2.2.2.2.2.2.2.2.2.2.1 bt307.2.2.2.2.2.2.2.2.2.2.2.2.1 bt307.2.2.2.2.2.2.2.2.2.2.2.2.2.1 bt307.2.2.2.2.2.2.2.2.2.2.2.2.2.2.1 bt324.1 bt324.2.1 bt324.2.2.1 bt324.2.2.2.1 bt324.2.2.2.2.1 bt324.2.2.2.2.2.1 bt324.2.2.2.2.2.2.1 bt324.2.2.2.2.2.2.2.1 bt324.2.2.2.2.2.2.2.2.1 bt324.2.2.2.2.2.2.2.2.2.1 bt324.2.2.2.2.2.2.2.2.2.2.1 bt324.2.2.2.2.2.2.2.2.2.2.2.1 bt324.2.2.2.2.2.2.2.2.2.2.2.2.1 bt324.2.2.2.2.2.2.2.2.2.2.2.2.2.1 bt324.2.2.2.2.2.2.2.2.2.2.2.2.2.2.1))))
def pacemakerlaw10_SlopeLines.j2 : Nat → List Int → Int → Int → Bool → Bool → Int → Int → Int → Int → Int → Int → Int → Int → Int → Int → Int → Int → Int → Int → Int → Int → Int → Int → Int → Int → Int → Int → Int → Int → Int → Int → Int → Int → Int → Int → Option (Bool)
  | 0, _, _, _, _, _, _, _, _, _, _, _, _, _, _, _, _, _, _, _, _, _, _, _, _, _, _, _, _, _, _, _, _, _, _, _ => none
  | k + 1, x0, x1, x2, x9, x111, x324000, x324001, x324002, x324003, x324004, x324005, x324006, x324007, x324008, x324009, x324010, x324011, x324012, x324013, x324014, x341000, x341001, x341002, x341003, x341004, x341005, x341006, x341007, x341008, x341009, x341010, x341011, x341012, x341013, x341014 => if x111 = true then ((pacemakerlaw10_fitted.f).bind fun t341 => (if t341 = true then (some ((x0.length : Int) == 0)) else (some false))) else (if x9 = true then ((fix_Of.f x2).bind fun t342 => (pacemakerlaw10_SlopeLines.j3 k x1 t342 x324000 x324001 x324002 x324003 x324004 x324005 x324006 x324007 x324008 x324009 x324010 x324011 x324012 x324013 x324014 x341000 x341001 x341002 x341003 x341004 x341005 x341006 x341007 x341008 x341009 x341010 x341011 x341012 x341013 x341014)) else (pacemakerlaw10_SlopeLines.j3 k x1 0 x324000 x324001 x324002 x324003 x324004 x324005 x324006 x324007 x324008 x324009 x324010 x324011 x324012 x324013 x324014 x341000 x341001 x341002 x341003 x341004 x341005 x341006 x341007 x341008 x341009 x341010 x341011 x341012 x341013 x341014))
def pacemakerlaw10_SlopeLines.j3 : Nat → Int → Int → Int → Int → Int → Int → Int → Int → Int → Int → Int → Int → Int → Int → Int → Int → Int → Int → Int → Int → Int → Int → Int → Int → Int → Int → Int → Int → Int → Int → Int → Int → Option (Bool)
  | 0, _, _, _, _, _, _, _, _, _, _, _, _, _, _, _, _, _, _, _, _, _, _, _, _, _, _, _, _, _, _, _, _ => none
  | k + 1, x1, x15, x324000, x324001, x324002, x324003, x324004, x324005, x324006, x324007, x324008, x324009, x324010, x324011, x324012, x324013, x324014, x341000, x341001, x341002, x341003, x341004, x341005, x341006, x341007, x341008, x341009, x341010, x341011, x341012, x341013, x341014 => (pacemakerlaw10_fitted.f).bind fun t343 => (if t343 = true then ((slope_Grade.f k x324000 x324001 x324002 x324003 x324004 x324005 x324006 x324007 x324008 x324009 x324010 x324011 x324012 x324013 x324014).bind fun t344 => (if t344 = x15 then ((slope_Grade.f k x341000 x341001 x341002 x341003 x341004 x341005 x341006 x341007 x341008 x341009 x341010 x341011 x341012 x341013 x341014).bind fun t345 => (if t345 = 0 then ((slope_Dev.f k x341000 x341001 x341002 x341003 x341004 x341005 x341006 x341007 x341008 x341009 x341010 x341011 x341012 x341013 x341014).bind fun t346 => (if t346 = 0 then ((slope_Mean.f k x341000 x341001 x341002 x341003 x341004 x341005 x341006 x341007 x341008 x341009 x341010 x341011 x341012 x341013 x341014).bind fun t347 => ((fix_Of.f x1).bind fun t348 => (some (t347 == t348)))) else (some false))) else (some false))) else (some false))) else (some false))
end
def pacemakerlaw10_SlopeLines.f (k : Nat) (l0 : List Int) (a1 : Int) (a2 : Int) : Option (Bool) := if (l0.length : Int) > 100 then (pacemakerlaw10_SlopeLines.j0 k l0 a1 a2 true) else (if a1 < 0 then (pacemakerlaw10_SlopeLines.j0 k l0 a1 a2 true) else (if a1 > 1000000 then (pacemakerlaw10_SlopeLines.j0 k l0 a1 a2 true) else (if a2 < 0 then (pacemakerlaw10_SlopeLines.j0 k l0 a1 a2 true) else (pacemakerlaw10_SlopeLines.j0 k l0 a1 a2 (decide (a2 > 50))))))
theorem pacemakerlaw10_SlopeLines.mono_l : ∀ k, (∀ y0 y1 y2 y3, LeO (pacemakerlaw10_SlopeLines.j0 k y0 y1 y2 y3) (pacemakerlaw10_SlopeLines.j0 (k + 1) y0 y1 y2 y3)) ∧ (∀ y0 y1 y2 y3 y4 y5 y6, LeO (pacemakerlaw10_SlopeLines.l0 k y0 y1 y2 y3 y4 y5 y6) (pacemakerlaw10_SlopeLines.l0 (k + 1) y0 y1 y2 y3 y4 y5 y6)) ∧ (∀ y0 y1 y2 y3 y4 y5 y6 y7 y8 y9 y10 y11 y12 y13 y14 y15 y16 y17 y18 y19 y20 y21 y22 y23 y24 y25 y26 y27 y28 y29 y30 y31 y32 y33 y34, LeO (pacemakerlaw10_SlopeLines.j2 k y0 y1 y2 y3 y4 y5 y6 y7 y8 y9 y10 y11 y12 y13 y14 y15 y16 y17 y18 y19 y20 y21 y22 y23 y24 y25 y26 y27 y28 y29 y30 y31 y32 y33 y34) (pacemakerlaw10_SlopeLines.j2 (k + 1) y0 y1 y2 y3 y4 y5 y6 y7 y8 y9 y10 y11 y12 y13 y14 y15 y16 y17 y18 y19 y20 y21 y22 y23 y24 y25 y26 y27 y28 y29 y30 y31 y32 y33 y34)) ∧ (∀ y0 y1 y2 y3 y4 y5 y6 y7 y8 y9 y10 y11 y12 y13 y14 y15 y16 y17 y18 y19 y20 y21 y22 y23 y24 y25 y26 y27 y28 y29 y30 y31, LeO (pacemakerlaw10_SlopeLines.j3 k y0 y1 y2 y3 y4 y5 y6 y7 y8 y9 y10 y11 y12 y13 y14 y15 y16 y17 y18 y19 y20 y21 y22 y23 y24 y25 y26 y27 y28 y29 y30 y31) (pacemakerlaw10_SlopeLines.j3 (k + 1) y0 y1 y2 y3 y4 y5 y6 y7 y8 y9 y10 y11 y12 y13 y14 y15 y16 y17 y18 y19 y20 y21 y22 y23 y24 y25 y26 y27 y28 y29 y30 y31))
  | 0 => ⟨fun _ _ _ _ r h => by simp [pacemakerlaw10_SlopeLines.j0] at h, fun _ _ _ _ _ _ _ r h => by simp [pacemakerlaw10_SlopeLines.l0] at h, fun _ _ _ _ _ _ _ _ _ _ _ _ _ _ _ _ _ _ _ _ _ _ _ _ _ _ _ _ _ _ _ _ _ _ _ r h => by simp [pacemakerlaw10_SlopeLines.j2] at h, fun _ _ _ _ _ _ _ _ _ _ _ _ _ _ _ _ _ _ _ _ _ _ _ _ _ _ _ _ _ _ _ _ r h => by simp [pacemakerlaw10_SlopeLines.j3] at h⟩
  | k + 1 => by
    obtain ⟨ih0, ih1, ih2, ih3⟩ := pacemakerlaw10_SlopeLines.mono_l k
    refine ⟨?_, ?_, ?_, ?_⟩
    · intro y0 y1 y2 y3
      unfold pacemakerlaw10_SlopeLines.j0
      repeat' first
      | (with_reducible exact ih0 _ _ _ _)
      | (with_reducible exact ih1 _ _ _ _ _ _ _)
      | (with_reducible exact ih2 _ _ _ _ _ _ _ _ _ _ _ _ _ _ _ _ _ _ _ _ _ _ _ _ _ _ _ _ _ _ _ _ _ _ _)
      | (with_reducible exact ih3 _ _ _ _ _ _ _ _ _ _ _ _ _ _ _ _ _ _ _ _ _ _ _ _ _ _ _ _ _ _ _ _)
      | (with_reducible exact slope_Dev.mono _ _ _ _ _ _ _ _ _ _ _ _ _ _ _ _)
      | (with_reducible exact slope_Grade.mono _ _ _ _ _ _ _ _ _ _ _ _ _ _ _ _)
      | (with_reducible exact slope_Mean.mono _ _ _ _ _ _ _ _ _ _ _ _ _ _ _ _)
      | (with_reducible exact LeO.refl _)
      | (with_reducible exact LeO.none _)
      | (with_reducible refine LeO.ite ?_ ?_)
      | (with_reducible refine LeO.bind ?_ (fun _ => ?_))
      | exact ih0 _ _ _ _
      | exact ih1 _ _ _ _ _ _ _
      | exact ih2 _ _ _ _ _ _ _ _ _ _ _ _ _ _ _ _ _ _ _ _ _ _ _ _ _ _ _ _ _ _ _ _ _ _ _
      | exact ih3 _ _ _ _ _ _ _ _ _ _ _ _ _ _ _ _ _ _ _ _ _ _ _ _ _ _ _ _ _ _ _ _
      | exact slope_Dev.mono _ _ _ _ _ _ _ _ _ _ _ _ _ _ _ _
      | exact slope_Grade.mono _ _ _ _ _ _ _ _ _ _ _ _ _ _ _ _
      | exact slope_Mean.mono _ _ _ _ _ _ _ _ _ _ _ _ _ _ _ _
      | exact LeO.none _
      | refine LeO.ite ?_ ?_
      | refine LeO.bind ?_ (fun _ => ?_)
    · intro y0 y1 y2 y3 y4 y5 y6
      unfold pacemakerlaw10_SlopeLines.l0
      repeat' first
      | (with_reducible exact ih0 _ _ _ _)
      | (with_reducible exact ih1 _ _ _ _ _ _ _)
      | (with_reducible exact ih2 _ _ _ _ _ _ _ _ _ _ _ _ _ _ _ _ _ _ _ _ _ _ _ _ _ _ _ _ _ _ _ _ _ _ _)
      | (with_reducible exact ih3 _ _ _ _ _ _ _ _ _ _ _ _ _ _ _ _ _ _ _ _ _ _ _ _ _ _ _ _ _ _ _ _)
      | (with_reducible exact slope_Dev.mono _ _ _ _ _ _ _ _ _ _ _ _ _ _ _ _)
      | (with_reducible exact slope_Grade.mono _ _ _ _ _ _ _ _ _ _ _ _ _ _ _ _)
      | (with_reducible exact slope_Mean.mono _ _ _ _ _ _ _ _ _ _ _ _ _ _ _ _)
      | (with_reducible exact LeO.refl _)
      | (with_reducible exact LeO.none _)
      | (with_reducible refine LeO.ite ?_ ?_)
      | (with_reducible refine LeO.bind ?_ (fun _ => ?_))
      | exact ih0 _ _ _ _
      | exact ih1 _ _ _ _ _ _ _
      | exact ih2 _ _ _ _ _ _ _ _ _ _ _ _ _ _ _ _ _ _ _ _ _ _ _ _ _ _ _ _ _ _ _ _ _ _ _
      | exact ih3 _ _ _ _ _ _ _ _ _ _ _ _ _ _ _ _ _ _ _ _ _ _ _ _ _ _ _ _ _ _ _ _
      | exact slope_Dev.mono _ _ _ _ _ _ _ _ _ _ _ _ _ _ _ _
      | exact slope_Grade.mono _ _ _ _ _ _ _ _ _ _ _ _ _ _ _ _
      | exact slope_Mean.mono _ _ _ _ _ _ _ _ _ _ _ _ _ _ _ _
      | exact LeO.none _
      | refine LeO.ite ?_ ?_
      | refine LeO.bind ?_ (fun _ => ?_)
    · intro y0 y1 y2 y3 y4 y5 y6 y7 y8 y9 y10 y11 y12 y13 y14 y15 y16 y17 y18 y19 y20 y21 y22 y23 y24 y25 y26 y27 y28 y29 y30 y31 y32 y33 y34
      unfold pacemakerlaw10_SlopeLines.j2
      repeat' first
      | (with_reducible exact ih0 _ _ _ _)
      | (with_reducible exact ih1 _ _ _ _ _ _ _)
      | (with_reducible exact ih2 _ _ _ _ _ _ _ _ _ _ _ _ _ _ _ _ _ _ _ _ _ _ _ _ _ _ _ _ _ _ _ _ _ _ _)
      | (with_reducible exact ih3 _ _ _ _ _ _ _ _ _ _ _ _ _ _ _ _ _ _ _ _ _ _ _ _ _ _ _ _ _ _ _ _)
      | (with_reducible exact slope_Dev.mono _ _ _ _ _ _ _ _ _ _ _ _ _ _ _ _)
      | (with_reducible exact slope_Grade.mono _ _ _ _ _ _ _ _ _ _ _ _ _ _ _ _)
      | (with_reducible exact slope_Mean.mono _ _ _ _ _ _ _ _ _ _ _ _ _ _ _ _)
      | (with_reducible exact LeO.refl _)
      | (with_reducible exact LeO.none _)
      | (with_reducible refine LeO.ite ?_ ?_)
      | (with_reducible refine LeO.bind ?_ (fun _ => ?_))
      | exact ih0 _ _ _ _
      | exact ih1 _ _ _ _ _ _ _
      | exact ih2 _ _ _ _ _ _ _ _ _ _ _ _ _ _ _ _ _ _ _ _ _ _ _ _ _ _ _ _ _ _ _ _ _ _ _
      | exact ih3 _ _ _ _ _ _ _ _ _ _ _ _ _ _ _ _ _ _ _ _ _ _ _ _ _ _ _ _ _ _ _ _
      | exact slope_Dev.mono _ _ _ _ _ _ _ _ _ _ _ _ _ _ _ _
      | exact slope_Grade.mono _ _ _ _ _ _ _ _ _ _ _ _ _ _ _ _
      | exact slope_Mean.mono _ _ _ _ _ _ _ _ _ _ _ _ _ _ _ _
      | exact LeO.none _
      | refine LeO.ite ?_ ?_
      | refine LeO.bind ?_ (fun _ => ?_)
    · intro y0 y1 y2 y3 y4 y5 y6 y7 y8 y9 y10 y11 y12 y13 y14 y15 y16 y17 y18 y19 y20 y21 y22 y23 y24 y25 y26 y27 y28 y29 y30 y31
      unfold pacemakerlaw10_SlopeLines.j3
      repeat' first
      | (with_reducible exact ih0 _ _ _ _)
      | (with_reducible exact ih1 _ _ _ _ _ _ _)
      | (with_reducible exact ih2 _ _ _ _ _ _ _ _ _ _ _ _ _ _ _ _ _ _ _ _ _ _ _ _ _ _ _ _ _ _ _ _ _ _ _)
      | (with_reducible exact ih3 _ _ _ _ _ _ _ _ _ _ _ _ _ _ _ _ _ _ _ _ _ _ _ _ _ _ _ _ _ _ _ _)
      | (with_reducible exact slope_Dev.mono _ _ _ _ _ _ _ _ _ _ _ _ _ _ _ _)
      | (with_reducible exact slope_Grade.mono _ _ _ _ _ _ _ _ _ _ _ _ _ _ _ _)
      | (with_reducible exact slope_Mean.mono _ _ _ _ _ _ _ _ _ _ _ _ _ _ _ _)
      | (with_reducible exact LeO.refl _)
      | (with_reducible exact LeO.none _)
      | (with_reducible refine LeO.ite ?_ ?_)
      | (with_reducible refine LeO.bind ?_ (fun _ => ?_))
      | exact ih0 _ _ _ _
      | exact ih1 _ _ _ _ _ _ _
      | exact ih2 _ _ _ _ _ _ _ _ _ _ _ _ _ _ _ _ _ _ _ _ _ _ _ _ _ _ _ _ _ _ _ _ _ _ _
      | exact ih3 _ _ _ _ _ _ _ _ _ _ _ _ _ _ _ _ _ _ _ _ _ _ _ _ _ _ _ _ _ _ _ _
      | exact slope_Dev.mono _ _ _ _ _ _ _ _ _ _ _ _ _ _ _ _
      | exact slope_Grade.mono _ _ _ _ _ _ _ _ _ _ _ _ _ _ _ _
      | exact slope_Mean.mono _ _ _ _ _ _ _ _ _ _ _ _ _ _ _ _
      | exact LeO.none _
      | refine LeO.ite ?_ ?_
      | refine LeO.bind ?_ (fun _ => ?_)
theorem pacemakerlaw10_SlopeLines.mono : ∀ a0 a1 a2 k, LeO (pacemakerlaw10_SlopeLines.f k a0 a1 a2) (pacemakerlaw10_SlopeLines.f (k + 1) a0 a1 a2) := by
  intro a0 a1 a2 k
  obtain ⟨ih0, ih1, ih2, ih3⟩ := pacemakerlaw10_SlopeLines.mono_l k
  unfold pacemakerlaw10_SlopeLines.f
  repeat' first
      | (with_reducible exact ih0 _ _ _ _)
      | (with_reducible exact ih1 _ _ _ _ _ _ _)
      | (with_reducible exact ih2 _ _ _ _ _ _ _ _ _ _ _ _ _ _ _ _ _ _ _ _ _ _ _ _ _ _ _ _ _ _ _ _ _ _ _)
      | (with_reducible exact ih3 _ _ _ _ _ _ _ _ _ _ _ _ _ _ _ _ _ _ _ _ _ _ _ _ _ _ _ _ _ _ _ _)
      | (with_reducible exact slope_Dev.mono _ _ _ _ _ _ _ _ _ _ _ _ _ _ _ _)
      | (with_reducible exact slope_Grade.mono _ _ _ _ _ _ _ _ _ _ _ _ _ _ _ _)
      | (with_reducible exact slope_Mean.mono _ _ _ _ _ _ _ _ _ _ _ _ _ _ _ _)
      | (with_reducible exact LeO.refl _)
      | (with_reducible exact LeO.none _)
      | (with_reducible refine LeO.ite ?_ ?_)
      | (with_reducible refine LeO.bind ?_ (fun _ => ?_))
      | exact ih0 _ _ _ _
      | exact ih1 _ _ _ _ _ _ _
      | exact ih2 _ _ _ _ _ _ _ _ _ _ _ _ _ _ _ _ _ _ _ _ _ _ _ _ _ _ _ _ _ _ _ _ _ _ _
      | exact ih3 _ _ _ _ _ _ _ _ _ _ _ _ _ _ _ _ _ _ _ _ _ _ _ _ _ _ _ _ _ _ _ _
      | exact slope_Dev.mono _ _ _ _ _ _ _ _ _ _ _ _ _ _ _ _
      | exact slope_Grade.mono _ _ _ _ _ _ _ _ _ _ _ _ _ _ _ _
      | exact slope_Mean.mono _ _ _ _ _ _ _ _ _ _ _ _ _ _ _ _
      | exact LeO.none _
      | refine LeO.ite ?_ ?_
      | refine LeO.bind ?_ (fun _ => ?_)
def pacemakerlaw10_SlopeLines.T11 : Bool × List (List Nat × List Nat) := (true, [([], []), ([0], [0]), ([1], [1]), ([1], [1]), ([2, 3, 1], [1, 2, 3]), ([4, 1], [1, 4]), ([1], [1]), ([6, 1], [1, 6]), ([7, 1], [1, 7]), ([5, 8, 1], [1, 5, 8]), ([1, 9], [1, 9]), ([10, 1, 0, 1, 2, 3, 4, 5, 6, 7, 8, 9, 10], [0, 10])])
def pacemakerlaw10_SlopeLines.B11 : List Nat := [0, 1, 3, 3, 15, 31, 3, 67, 195, 511, 1023, 2047]
theorem pacemakerlaw10_SlopeLines.tab11 : rtab .any (opsOf Try.f6 11) = pacemakerlaw10_SlopeLines.T11 := by kernel_rfl
theorem pacemakerlaw10_SlopeLines.bits11 : waitsOk pacemakerlaw10_SlopeLines.T11.2 pacemakerlaw10_SlopeLines.B11 = true := by kernel_rfl
def pacemakerlaw10_SlopeLines.T12 : Bool × List (List Nat × List Nat) := (true, [([], []), ([], []), ([], []), ([1, 2], [1, 2]), ([3], [3]), ([], []), ([], []), ([], []), ([], []), ([7, 8], [7, 8]), ([9], [9]), ([6, 10], [6, 10]), ([5, 11], [5, 11]), ([4, 12], [4, 12]), ([13], [13]), ([0, 14], [0, 14]), ([15, 15, 0, 1, 2, 3, 4, 5, 6, 7, 8, 9, 10, 11, 12, 13, 14, 15], [0, 15])])
def pacemakerlaw10_SlopeLines.B12 : List Nat := [0, 0, 0, 6, 14, 0, 0, 0, 0, 384, 896, 1984, 4064, 8190, 16382, 32767, 65535]
theorem pacemakerlaw10_SlopeLines.tab12 : rtab .any (opsOf Try.f6 12) = pacemakerlaw10_SlopeLines.T12 := by kernel_rfl
theorem pacemakerlaw10_SlopeLines.bits12 : waitsOk pacemakerlaw10_SlopeLines.T12.2 pacemakerlaw10_SlopeLines.B12 = true := by kernel_rfl
end Go.Proofs.Ytlokmliannklaaa.Print
end
