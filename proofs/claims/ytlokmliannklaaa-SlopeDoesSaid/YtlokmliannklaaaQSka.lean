/- law10.sampled; law10.sampled; law10.sampled; law10.sampled. -/
import Derived.Test.YtlokmliannklaaaQPrint4
import Derived.Test.YtlokmliannklaaaQAck
import Derived.Deep.RegionHeld3
import Derived.RegionTactic
import Derived.ChangeAlike
import Derived.WalkMore
import Derived.Deep.Cut
import Derived.Outline
import Derived.Test.YtlokmliannklaaaQSkel
section
namespace Go.Proofs.Ytlokmliannklaaa.Print
open Go.RowKit Go.Proofs.YtlokmliannklaaaW.PrintLast Go.Proofs.YtlokmliannklaaaW.PrintWords Go.Proofs.YtlokmliannklaaaW.PrintMore
set_option linter.unusedVariables false
set_option linter.unusedSimpArgs false

attribute [local irreducible] MBlk
set_option maxHeartbeats 40000000 in
set_option maxRecDepth 100000 in
theorem sampled_one_p1  : (sampled_one_skel ).2.1 := by
  intro c0 l0 w z0_ w1 HB hg1 g hg z1_ z2_ u7 u8 u20 u21 u22 u23 u24 u25 u26 u27 u28 u29 u30 u31 u32 u33 u34 u35 u36 k hc0 hl hlen d0 hk d1 z3_ z4_ z5_ wr u3 u10 u11 u37 u38 u39 u40 u41 u42 u43 u44 u45 u46 u47 u48 u49 u50 u51 u52 u53 u54 u55 u56 u57 u58 u59 u60 u61 u62 u63 u64 u65 u66 u67 u68 u69 u70 u71 u72 u73 u74 u75 u76 u77 u78 u79 u80 u81 u82 u83 u84 u85 u86 u87 u88 u89 u90 u91 u92 u93 u94 u95 u96 u97 u98 u99 u100 j t r tt tr rr hj hm' HBW HZ HS hlt hlt' d2 ad HR z6_ z7_ y0 y1 x0 x1 hz hzf0 hzf1 hzf2 hzf3 hzf4 hzf5 hzf6 hzf7 hzf8 hzf9 hzf10 hzf11 hzf12 hzf13 hzf14 hzc0 hzc1 hzc2 hzc3 hzc4 hzc5 hzc6 hzc7 hzc8 hzc9 hzc10 hzc11 hzc12 hzc13 hzc14 c1
  have hbad : sampleOk (rd_T36 l0 j) = false := by simp [sampleOk]; omega
  have q1 : decide ((rd_T36 l0 j).f0 < 0) = true := decide_eq_true c1
  go_wp2_with fail
  refine bodyPost_ret (results_ct rfl _ _ w.heap.size 29 #[.int .i64 0, .int .i64 0, .int .i64 0, .int .i64 0, .int .i64 0, .int .i64 0, .int .i64 0, .int .i64 0, .int .i64 0, .int .i64 0, .int .i64 0, .int .i64 0, .int .i64 0, .int .i64 0, .int .i64 0] (0, 0) _ rfl (MBlk.is (MBlk.fill HZ.out _ _ _ _ _ _ _ _ _ _ _ _ _ _ _)) Try.underlying29 rfl (by kernel_rfl)) rfl ?_
  refine ⟨congrArg Ending.returned (sampledOf_bad hlt' hbad), below_fill HBW.out (by omega) _ _ _ _ _ _ _ _ _ _ _ _ _ _ _⟩
end Go.Proofs.Ytlokmliannklaaa.Print
end

section
namespace Go.Proofs.Ytlokmliannklaaa.Print
open Go.RowKit Go.Proofs.YtlokmliannklaaaW.PrintLast Go.Proofs.YtlokmliannklaaaW.PrintWords Go.Proofs.YtlokmliannklaaaW.PrintMore
set_option linter.unusedVariables false
set_option linter.unusedSimpArgs false

attribute [local irreducible] MBlk
set_option maxHeartbeats 40000000 in
set_option maxRecDepth 100000 in
theorem sampled_one_p2  : (sampled_one_skel ).2.2.1 := by
  intro c0 l0 w z0_ w1 HB hg1 g hg z1_ z2_ u7 u8 u20 u21 u22 u23 u24 u25 u26 u27 u28 u29 u30 u31 u32 u33 u34 u35 u36 k hc0 hl hlen d0 hk d1 z3_ z4_ z5_ wr u3 u10 u11 u37 u38 u39 u40 u41 u42 u43 u44 u45 u46 u47 u48 u49 u50 u51 u52 u53 u54 u55 u56 u57 u58 u59 u60 u61 u62 u63 u64 u65 u66 u67 u68 u69 u70 u71 u72 u73 u74 u75 u76 u77 u78 u79 u80 u81 u82 u83 u84 u85 u86 u87 u88 u89 u90 u91 u92 u93 u94 u95 u96 u97 u98 u99 u100 j t r tt tr rr hj hm' HBW HZ HS hlt hlt' d2 ad HR z6_ z7_ y0 y1 x0 x1 hz hzf0 hzf1 hzf2 hzf3 hzf4 hzf5 hzf6 hzf7 hzf8 hzf9 hzf10 hzf11 hzf12 hzf13 hzf14 hzc0 hzc1 hzc2 hzc3 hzc4 hzc5 hzc6 hzc7 hzc8 hzc9 hzc10 hzc11 hzc12 hzc13 hzc14 c1 q1 c2
  have hbad : sampleOk (rd_T36 l0 j) = false := by simp [sampleOk]; omega
  have q2 : decide ((rd_T36 l0 j).f0 > 60000000) = true := decide_eq_true c2
  go_wp2_with fail
  refine bodyPost_ret (results_ct rfl _ _ w.heap.size 29 #[.int .i64 0, .int .i64 0, .int .i64 0, .int .i64 0, .int .i64 0, .int .i64 0, .int .i64 0, .int .i64 0, .int .i64 0, .int .i64 0, .int .i64 0, .int .i64 0, .int .i64 0, .int .i64 0, .int .i64 0] (0, 0) _ rfl (MBlk.is (MBlk.fill HZ.out _ _ _ _ _ _ _ _ _ _ _ _ _ _ _)) Try.underlying29 rfl (by kernel_rfl)) rfl ?_
  refine ⟨congrArg Ending.returned (sampledOf_bad hlt' hbad), below_fill HBW.out (by omega) _ _ _ _ _ _ _ _ _ _ _ _ _ _ _⟩
end Go.Proofs.Ytlokmliannklaaa.Print
end

section
namespace Go.Proofs.Ytlokmliannklaaa.Print
open Go.RowKit Go.Proofs.YtlokmliannklaaaW.PrintLast Go.Proofs.YtlokmliannklaaaW.PrintWords Go.Proofs.YtlokmliannklaaaW.PrintMore
set_option linter.unusedVariables false
set_option linter.unusedSimpArgs false

attribute [local irreducible] MBlk
set_option maxHeartbeats 40000000 in
set_option maxRecDepth 100000 in
theorem sampled_one_p3  : (sampled_one_skel ).2.2.2.1 := by
  intro c0 l0 w z0_ w1 HB hg1 g hg z1_ z2_ u7 u8 u20 u21 u22 u23 u24 u25 u26 u27 u28 u29 u30 u31 u32 u33 u34 u35 u36 k hc0 hl hlen d0 hk d1 z3_ z4_ z5_ wr u3 u10 u11 u37 u38 u39 u40 u41 u42 u43 u44 u45 u46 u47 u48 u49 u50 u51 u52 u53 u54 u55 u56 u57 u58 u59 u60 u61 u62 u63 u64 u65 u66 u67 u68 u69 u70 u71 u72 u73 u74 u75 u76 u77 u78 u79 u80 u81 u82 u83 u84 u85 u86 u87 u88 u89 u90 u91 u92 u93 u94 u95 u96 u97 u98 u99 u100 j t r tt tr rr hj hm' HBW HZ HS hlt hlt' d2 ad HR z6_ z7_ y0 y1 x0 x1 hz hzf0 hzf1 hzf2 hzf3 hzf4 hzf5 hzf6 hzf7 hzf8 hzf9 hzf10 hzf11 hzf12 hzf13 hzf14 hzc0 hzc1 hzc2 hzc3 hzc4 hzc5 hzc6 hzc7 hzc8 hzc9 hzc10 hzc11 hzc12 hzc13 hzc14 c1 q1 c2 q2 c3
  have hbad : sampleOk (rd_T36 l0 j) = false := by simp [sampleOk]; omega
  have q3 : decide ((rd_T36 l0 j).f1 < 0) = true := decide_eq_true c3
  go_wp2_with fail
  refine bodyPost_ret (results_ct rfl _ _ w.heap.size 29 #[.int .i64 0, .int .i64 0, .int .i64 0, .int .i64 0, .int .i64 0, .int .i64 0, .int .i64 0, .int .i64 0, .int .i64 0, .int .i64 0, .int .i64 0, .int .i64 0, .int .i64 0, .int .i64 0, .int .i64 0] (0, 0) _ rfl (MBlk.is (MBlk.fill HZ.out _ _ _ _ _ _ _ _ _ _ _ _ _ _ _)) Try.underlying29 rfl (by kernel_rfl)) rfl ?_
  refine ⟨congrArg Ending.returned (sampledOf_bad hlt' hbad), below_fill HBW.out (by omega) _ _ _ _ _ _ _ _ _ _ _ _ _ _ _⟩
end Go.Proofs.Ytlokmliannklaaa.Print
end

section
namespace Go.Proofs.Ytlokmliannklaaa.Print
open Go.RowKit Go.Proofs.YtlokmliannklaaaW.PrintLast Go.Proofs.YtlokmliannklaaaW.PrintWords Go.Proofs.YtlokmliannklaaaW.PrintMore
set_option linter.unusedVariables false
set_option linter.unusedSimpArgs false

attribute [local irreducible] MBlk
set_option maxHeartbeats 40000000 in
set_option maxRecDepth 100000 in
theorem sampled_one_p4  : (sampled_one_skel ).2.2.2.2.1 := by
  intro c0 l0 w z0_ w1 HB hg1 g hg z1_ z2_ u7 u8 u20 u21 u22 u23 u24 u25 u26 u27 u28 u29 u30 u31 u32 u33 u34 u35 u36 k hc0 hl hlen d0 hk d1 z3_ z4_ z5_ wr u3 u10 u11 u37 u38 u39 u40 u41 u42 u43 u44 u45 u46 u47 u48 u49 u50 u51 u52 u53 u54 u55 u56 u57 u58 u59 u60 u61 u62 u63 u64 u65 u66 u67 u68 u69 u70 u71 u72 u73 u74 u75 u76 u77 u78 u79 u80 u81 u82 u83 u84 u85 u86 u87 u88 u89 u90 u91 u92 u93 u94 u95 u96 u97 u98 u99 u100 j t r tt tr rr hj hm' HBW HZ HS hlt hlt' d2 ad HR z6_ z7_ y0 y1 x0 x1 hz hzf0 hzf1 hzf2 hzf3 hzf4 hzf5 hzf6 hzf7 hzf8 hzf9 hzf10 hzf11 hzf12 hzf13 hzf14 hzc0 hzc1 hzc2 hzc3 hzc4 hzc5 hzc6 hzc7 hzc8 hzc9 hzc10 hzc11 hzc12 hzc13 hzc14 c1 q1 c2 q2 c3 q3 c4
  have hbad : sampleOk (rd_T36 l0 j) = false := by simp [sampleOk]; omega
  have q4 : decide ((rd_T36 l0 j).f1 > 60000000) = true := decide_eq_true c4
  go_wp2_with fail
  refine bodyPost_ret (results_ct rfl _ _ w.heap.size 29 #[.int .i64 0, .int .i64 0, .int .i64 0, .int .i64 0, .int .i64 0, .int .i64 0, .int .i64 0, .int .i64 0, .int .i64 0, .int .i64 0, .int .i64 0, .int .i64 0, .int .i64 0, .int .i64 0, .int .i64 0] (0, 0) _ rfl (MBlk.is (MBlk.fill HZ.out _ _ _ _ _ _ _ _ _ _ _ _ _ _ _)) Try.underlying29 rfl (by kernel_rfl)) rfl ?_
  refine ⟨congrArg Ending.returned (sampledOf_bad hlt' hbad), below_fill HBW.out (by omega) _ _ _ _ _ _ _ _ _ _ _ _ _ _ _⟩
end Go.Proofs.Ytlokmliannklaaa.Print
end
