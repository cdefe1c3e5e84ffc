/- law10.sampled. -/
import Derived.Test.YtlokmliannklaaaQPrint4
import Derived.Test.YtlokmliannklaaaQAck
import Derived.Deep.RegionHeld3
import Derived.RegionTactic
import Derived.ChangeAlike
import Derived.WalkMore
import Derived.Deep.Cut
import Derived.Outline
import Derived.Test.YtlokmliannklaaaQSkel
section
namespace Go.Proofs.Ytlokmliannklaaa.Print
open Go.RowKit Go.Proofs.YtlokmliannklaaaW.PrintLast Go.Proofs.YtlokmliannklaaaW.PrintWords Go.Proofs.YtlokmliannklaaaW.PrintMore
set_option linter.unusedVariables false
set_option linter.unusedSimpArgs false

attribute [local irreducible] MBlk
set_option maxHeartbeats 40000000 in
set_option maxRecDepth 100000 in
theorem sampled_one_p0  : (sampled_one_skel ).1 := by
  intro A0 c0 l0 w len HR hc0 hl hlen d0 z0_ w1 HB hg1 g hg z1_ z2_ wr u7 u8 u20 u21 u22 u23 u24 u25 u26 u27 u28 u29 u30 u31 u32 u33 u34 u35 u36 k hk hm HBW HZ hlt
  have d1 : (decide ((k : Int) < len)) = true := by simp; omega
  have hmc0 := hm.cell 0
  have hmf0 := hm.frozen 0
  have hmc1 := hm.cell 1
  have hmf1 := hm.frozen 1
  have hmc2 := hm.cell 2
  have hmf2 := hm.frozen 2
  have hmc3 := hm.cell 3
  have hmf3 := hm.frozen 3
  have hmc4 := hm.cell 4
  have hmf4 := hm.frozen 4
  have hmc5 := hm.cell 5
  have hmf5 := hm.frozen 5
  have hmc6 := hm.cell 6
  have hmf6 := hm.frozen 6
  have hmc7 := hm.cell 7
  have hmf7 := hm.frozen 7
  have hmc8 := hm.cell 8
  have hmf8 := hm.frozen 8
  have hmc9 := hm.cell 9
  have hmf9 := hm.frozen 9
  have hmc10 := hm.cell 10
  have hmf10 := hm.frozen 10
  have hmc11 := hm.cell 11
  have hmf11 := hm.frozen 11
  have hmc12 := hm.cell 12
  have hmf12 := hm.frozen 12
  have hmc13 := hm.cell 13
  have hmf13 := hm.frozen 13
  have hmc14 := hm.cell 14
  have hmf14 := hm.frozen 14
  simp at hmc0 hmc1 hmc2 hmc3 hmc4 hmc5 hmc6 hmc7 hmc8 hmc9 hmc10 hmc11 hmc12 hmc13 hmc14
  go_wp2_with fail
  refine (send_one k (by omega) (by omega) _).mono ?_
  rintro e w2 ⟨rfl, hb2⟩
  clear hmc0 hmf0 hmc1 hmf1 hmc2 hmf2 hmc3 hmf3 hmc4 hmf4 hmc5 hmf5 hmc6 hmf6 hmc7 hmf7 hmc8 hmf8 hmc9 hmf9 hmc10 hmf10 hmc11 hmf11 hmc12 hmf12 hmc13 hmf13 hmc14 hmf14
  have hm2 := (hm.on hb2).alloc (.cells #[.int .i64 0, .int .i64 0, .int .i64 (-1), .int .i64 (k + 1), .int .i64 0, .int .i64 0, .int .i64 (k + 1), .int .i64 0, .int .i64 0, .int .i64 0, .int .i64 0, .int .i64 0, .int .i64 0, .int .i64 0, .int .i64 0] 29)
  have HZ2 := Lib.hid ((HZ.out.on hb2).alloc (.cells #[.int .i64 0, .int .i64 0, .int .i64 (-1), .int .i64 (k + 1), .int .i64 0, .int .i64 0, .int .i64 (k + 1), .int .i64 0, .int .i64 0, .int .i64 0, .int .i64 0, .int .i64 0, .int .i64 0, .int .i64 0, .int .i64 0] 29))
  have HB2 := Lib.hid (below_alloc (below_step HBW.out hb2) (.cells #[.int .i64 0, .int .i64 0, .int .i64 (-1), .int .i64 (k + 1), .int .i64 0, .int .i64 0, .int .i64 (k + 1), .int .i64 0, .int .i64 0, .int .i64 0, .int .i64 0, .int .i64 0, .int .i64 0, .int .i64 0, .int .i64 0] 29))
  clear hb2 hm
  have hm2c0 := hm2.cell 0
  have hm2f0 := hm2.frozen 0
  have hm2c1 := hm2.cell 1
  have hm2f1 := hm2.frozen 1
  have hm2c2 := hm2.cell 2
  have hm2f2 := hm2.frozen 2
  have hm2c3 := hm2.cell 3
  have hm2f3 := hm2.frozen 3
  have hm2c4 := hm2.cell 4
  have hm2f4 := hm2.frozen 4
  have hm2c5 := hm2.cell 5
  have hm2f5 := hm2.frozen 5
  have hm2c6 := hm2.cell 6
  have hm2f6 := hm2.frozen 6
  have hm2c7 := hm2.cell 7
  have hm2f7 := hm2.frozen 7
  have hm2c8 := hm2.cell 8
  have hm2f8 := hm2.frozen 8
  have hm2c9 := hm2.cell 9
  have hm2f9 := hm2.frozen 9
  have hm2c10 := hm2.cell 10
  have hm2f10 := hm2.frozen 10
  have hm2c11 := hm2.cell 11
  have hm2f11 := hm2.frozen 11
  have hm2c12 := hm2.cell 12
  have hm2f12 := hm2.frozen 12
  have hm2c13 := hm2.cell 13
  have hm2f13 := hm2.frozen 13
  have hm2c14 := hm2.cell 14
  have hm2f14 := hm2.frozen 14
  simp at hm2c0 hm2c1 hm2c2 hm2c3 hm2c4 hm2c5 hm2c6 hm2c7 hm2c8 hm2c9 hm2c10 hm2c11 hm2c12 hm2c13 hm2c14
  go_wp2_with fail
  go_roundw
  case rel =>
    refine ⟨k + 1, by omega, rfl, by go_num, ?_, ?_, ?_⟩
    · exact below_fill HB2.out (by omega) _ _ _ _ _ _ _ _ _ _ _ _ _ _ _
    · exact MBlk.fill_far HZ2.out (by omega) _ _ _ _ _ _ _ _ _ _ _ _ _ _ _
    · rw [show ((k + 1 : Nat) : Int) = (k : Int) + 1 by omega]
      exact MBlk.fill hm2 _ _ _ _ _ _ _ _ _ _ _ _ _ _ _
  case measure => simp [intOf]; omega
end Go.Proofs.Ytlokmliannklaaa.Print
end
