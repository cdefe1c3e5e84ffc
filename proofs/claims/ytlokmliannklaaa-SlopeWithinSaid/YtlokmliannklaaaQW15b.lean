/- Printed by a program of this session: functions of the law and their walks. -/
import Derived.Test.YtlokmliannklaaaQP0
import Derived.Test.YtlokmliannklaaaQPrint3
import Derived.Test.YtlokmliannklaaaQPrint4
import Derived.Test.YtlokmliannklaaaQSkd
import Derived.Test.YtlokmliannklaaaQFitted
import Derived.Test.YtlokmliannklaaaQPrint15d
import Derived.Test.YtlokmliannklaaaQW15
section
namespace Go.Proofs.Ytlokmliannklaaa.Print
open Go.RowKit Go.Proofs.YtlokmliannklaaaW.PrintWords Go.Proofs.YtlokmliannklaaaW.PrintLast Go.Proofs.YtlokmliannklaaaW.PrintMore
attribute [local go_sem] max2_int min2_int max_two min_two max_three min_three max_four min_four   -- for this text's walks alone
set_option linter.unusedVariables false
set_option linter.unusedSimpArgs false

theorem pacemakerlaw10_SlopeWithin_calls  (k : Nat) (A0 : Option Addr) (c0 : Nat) (l0 : List (S36)) (w : World) (hr0 : Kd.C k36 w A0 l0.length l0) (hc0 : l0.length ≤ c0) (h : pacemakerlaw10_SlopeWithin.f k l0 = some true) : Calls Try.prog 8 #[.slice A0 l0.length c0] w fun e w' => e = .returned (.bool true) ∧ Below w.heap.size w w' :=
  (pacemakerlaw10_SlopeWithin_calls_skel ).2.2.2.2.2 ⟨pacemakerlaw10_SlopeWithin_calls_p0 ⟩ ⟨pacemakerlaw10_SlopeWithin_calls_p1 ⟩ ⟨pacemakerlaw10_SlopeWithin_calls_p2 ⟩ ⟨pacemakerlaw10_SlopeWithin_calls_p3 ⟩ ⟨pacemakerlaw10_SlopeWithin_calls_p4 ⟩ k A0 c0 l0 w hr0 hc0 h
end Go.Proofs.Ytlokmliannklaaa.Print
end
