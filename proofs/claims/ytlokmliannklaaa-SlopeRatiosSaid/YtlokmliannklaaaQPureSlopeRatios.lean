/- SlopeRatios without memory: whatever the two numbers are, the law's function tells true. -/
import Derived.Test.YtlokmliannklaaaQPrint6
import Derived.Test.YtlokmliannklaaaQPureRatio
import Derived.OpenShut
section
namespace Go.Proofs.Ytlokmliannklaaa.Print
open Go.RowKit Go.Proofs.YtlokmliannklaaaW.PrintWords Go.Proofs.YtlokmliannklaaaW.PrintLast Go.Proofs.YtlokmliannklaaaW.PrintMore
set_option linter.unusedVariables false

theorem u64_wf {a : Int} (h : (Lit.int .u64 a).wf = true) : isU64 a = true := by
  obtain ⟨h0, h1⟩ := bounds_u64 h
  exact isU64_mk h0 (by omega)
theorem slopeRatios_true (a b c d : Int) (ha : isU64 a = true) (hb : isU64 b = true) (hc : isU64 c = true) (hd : isU64 d = true) : pacemakerlaw10_SlopeRatios.f 400 a b c d = some true := by
  unfold pacemakerlaw10_SlopeRatios.f pacemakerlaw10_fitted.f slope_Ratio.f
  simp only [Option.bind_some, if_true]
  rw [if_pos (by simp [ha, hb, hc, hd]), ref_ratio ha hb hc hd 400 (by omega)]
  simp
theorem slopeRatios_walk (a b c d : Int) (w : World) (ha : (Lit.int .u64 a).wf = true) (hb : (Lit.int .u64 b).wf = true) (hc : (Lit.int .u64 c).wf = true) (hd : (Lit.int .u64 d).wf = true) :
    Calls Try.prog 3 #[.agg #[.int .u64 a, .int .u64 b], .agg #[.int .u64 c, .int .u64 d]] w fun e w' => e = .returned (.bool true) ∧ Below w.heap.size w w' :=
  pacemakerlaw10_SlopeRatios.calls 400 a b c d w (slopeRatios_true a b c d (u64_wf ha) (u64_wf hb) (u64_wf hc) (u64_wf hd))
end Go.Proofs.Ytlokmliannklaaa.Print
end
