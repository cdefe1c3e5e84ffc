/- Printed by a program of this session: functions of the law and their walks. -/
import Derived.Test.YtlokmliannklaaaQP0
import Derived.Test.YtlokmliannklaaaQPrint3
import Derived.Test.YtlokmliannklaaaQPrint4
import Derived.Test.YtlokmliannklaaaQPrint8
import Derived.Test.YtlokmliannklaaaQPrint9
import Derived.Test.YtlokmliannklaaaQPrint10
import Derived.Test.YtlokmliannklaaaQFitted
section
namespace Go.Proofs.Ytlokmliannklaaa.Print
open Go.RowKit Go.Proofs.YtlokmliannklaaaW.PrintWords Go.Proofs.YtlokmliannklaaaW.PrintLast Go.Proofs.YtlokmliannklaaaW.PrintMore
attribute [local go_sem] max2_int min2_int max_two min_two max_three min_three max_four min_four   -- for this text's walks alone
set_option linter.unusedVariables false
set_option linter.unusedSimpArgs false

/-! ### pacemakerlaw10_SlopeDoes: function 4 -/
def pacemakerlaw10_SlopeDoes.f (k : Nat) (D0 : Int) (D1 : Int) (D2 : Int) (D3 : Int) (D4 : Int) (D5 : Int) (D6 : Int) (D7 : Int) (D8 : Int) (D9 : Int) (D10 : Int) (D11 : Int) (D12 : Int) (D13 : Int) (D14 : Int) : Option (Bool) := (pacemakerlaw10_fitted.f).bind fun t226 => (if t226 = true then ((slope_Mean.f k D0 D1 D2 D3 D4 D5 D6 D7 D8 D9 D10 D11 D12 D13 D14).bind fun t227 => ((pacemakerref10_Mean.f k D0 D1 D2 D3 D4 D5 D6 D7 D8 D9 D10 D11 D12 D13 D14).bind fun t228 => (if t227 = t228 then ((slope_Dev.f k D0 D1 D2 D3 D4 D5 D6 D7 D8 D9 D10 D11 D12 D13 D14).bind fun t229 => ((pacemakerref10_Dev.f k D0 D1 D2 D3 D4 D5 D6 D7 D8 D9 D10 D11 D12 D13 D14).bind fun t230 => (if t229 = t230 then ((slope_Grade.f k D0 D1 D2 D3 D4 D5 D6 D7 D8 D9 D10 D11 D12 D13 D14).bind fun t231 => ((pacemakerref10_Grade.f k D0 D1 D2 D3 D4 D5 D6 D7 D8 D9 D10 D11 D12 D13 D14).bind fun t232 => (some (t231 == t232)))) else (some false)))) else (some false)))) else (some false))
def pacemakerlaw10_SlopeDoes.T1 : Bool × List (List Nat × List Nat) := (true, [([], []), ([0, 0], [0]), ([1], [1]), ([2, 1, 1], [1, 2]), ([1], [1]), ([4, 3, 1], [1, 4]), ([3, 5, 1], [1, 3, 5]), ([1, 6], [1, 6]), ([7, 5], [7]), ([8], [8]), ([9, 8, 8], [8, 9]), ([8], [8]), ([11, 10, 8], [8, 11]), ([10, 12, 8], [8, 10, 12]), ([8, 13], [8, 13]), ([14, 12], [14]), ([15], [15]), ([16, 15, 15], [15, 16]), ([15], [15]), ([18, 17, 15], [15, 18]), ([17, 19, 15], [15, 17, 19]), ([15, 20], [15, 20]), ([21, 19, 0, 1, 2, 3, 4, 5, 6, 7, 8, 9, 10, 11, 12, 13, 14, 15, 16, 17, 18, 19, 20, 21], [21])])
def pacemakerlaw10_SlopeDoes.B1 : List Nat := [0, 1, 3, 7, 3, 31, 63, 127, 255, 511, 1023, 511, 4095, 8191, 16383, 32767, 65535, 131071, 65535, 524287, 1048575, 2097151, 4194303]
theorem pacemakerlaw10_SlopeDoes.tab1 : rtab .any (opsOf Try.f4 1) = pacemakerlaw10_SlopeDoes.T1 := by kernel_rfl
theorem pacemakerlaw10_SlopeDoes.bits1 : waitsOk pacemakerlaw10_SlopeDoes.T1.2 pacemakerlaw10_SlopeDoes.B1 = true := by kernel_rfl
end Go.Proofs.Ytlokmliannklaaa.Print
end
