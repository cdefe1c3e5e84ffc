/- law10.sampled; law10.sampled. -/
import Derived.Test.YtlokmliannklaaaQPrint4
import Derived.Test.YtlokmliannklaaaQAck
import Derived.Deep.RegionHeld3
import Derived.RegionTactic
import Derived.ChangeAlike
import Derived.WalkMore
import Derived.Deep.Cut
import Derived.Outline
import Derived.Test.YtlokmliannklaaaQSkel
import Derived.Test.YtlokmliannklaaaQSkb
import Derived.Test.YtlokmliannklaaaQSka
import Derived.Test.YtlokmliannklaaaQSkc
import Derived.Test.YtlokmliannklaaaQP0
import Derived.Test.YtlokmliannklaaaQPrint2
import Derived.Test.YtlokmliannklaaaQPrint3
section
namespace Go.Proofs.Ytlokmliannklaaa.Print
open Go.RowKit Go.Proofs.YtlokmliannklaaaW.PrintLast Go.Proofs.YtlokmliannklaaaW.PrintWords Go.Proofs.YtlokmliannklaaaW.PrintMore
set_option linter.unusedVariables false
set_option linter.unusedSimpArgs false

attribute [local irreducible] MBlk
set_option maxHeartbeats 40000000 in
set_option maxRecDepth 100000 in
theorem sampled_one_p6  : (sampled_one_skel ).2.2.2.2.2.2.1 := by
  intro A0 c0 l0 w z0_ w1 HB hg1 g hg z1_ z2_ u7 u8 u20 u21 u22 u23 u24 u25 u26 u27 u28 u29 u30 u31 u32 u33 u34 u35 u36 k HR hc0 hl hlen d0 hk d1 z3_ z4_ z5_ z6_ z7_ wr u3 u10 u11 u37 u38 u39 u40 u41 u42 u43 u44 u45 u46 u47 u48 u49 u50 u51 u52 u53 u54 u55 u56 u57 u58 u59 u60 u61 u62 u63 u64 u65 u66 u67 u68 u69 u70 u71 u72 u73 u74 u75 u76 u77 u78 u79 u80 u81 u82 u83 u84 u85 u86 u87 u88 u89 u90 u91 u92 u93 u94 u95 u96 u97 u98 u99 u100 j t r tt tr rr hj hm' HBW HZ HS hlt
  have hjk : j = k := by omega
  subst hjk
  have d2 : (decide ((j : Int) < j)) = false := by simp
  have hz := HZ.out
  clear hlt
  have hzc0 := hz.cell 0
  have hzf0 := hz.frozen 0
  have hzc1 := hz.cell 1
  have hzf1 := hz.frozen 1
  have hzc2 := hz.cell 2
  have hzf2 := hz.frozen 2
  have hzc3 := hz.cell 3
  have hzf3 := hz.frozen 3
  have hzc4 := hz.cell 4
  have hzf4 := hz.frozen 4
  have hzc5 := hz.cell 5
  have hzf5 := hz.frozen 5
  have hzc6 := hz.cell 6
  have hzf6 := hz.frozen 6
  have hzc7 := hz.cell 7
  have hzf7 := hz.frozen 7
  have hzc8 := hz.cell 8
  have hzf8 := hz.frozen 8
  have hzc9 := hz.cell 9
  have hzf9 := hz.frozen 9
  have hzc10 := hz.cell 10
  have hzf10 := hz.frozen 10
  have hzc11 := hz.cell 11
  have hzf11 := hz.frozen 11
  have hzc12 := hz.cell 12
  have hzf12 := hz.frozen 12
  have hzc13 := hz.cell 13
  have hzf13 := hz.frozen 13
  have hzc14 := hz.cell 14
  have hzf14 := hz.frozen 14
  simp at hzc0 hzc1 hzc2 hzc3 hzc4 hzc5 hzc6 hzc7 hzc8 hzc9 hzc10 hzc11 hzc12 hzc13 hzc14
  have hmc0 := hm'.cell 0
  have hmf0 := hm'.frozen 0
  have hmc1 := hm'.cell 1
  have hmf1 := hm'.frozen 1
  have hmc2 := hm'.cell 2
  have hmf2 := hm'.frozen 2
  have hmc3 := hm'.cell 3
  have hmf3 := hm'.frozen 3
  have hmc4 := hm'.cell 4
  have hmf4 := hm'.frozen 4
  have hmc5 := hm'.cell 5
  have hmf5 := hm'.frozen 5
  have hmc6 := hm'.cell 6
  have hmf6 := hm'.frozen 6
  have hmc7 := hm'.cell 7
  have hmf7 := hm'.frozen 7
  have hmc8 := hm'.cell 8
  have hmf8 := hm'.frozen 8
  have hmc9 := hm'.cell 9
  have hmf9 := hm'.frozen 9
  have hmc10 := hm'.cell 10
  have hmf10 := hm'.frozen 10
  have hmc11 := hm'.cell 11
  have hmf11 := hm'.frozen 11
  have hmc12 := hm'.cell 12
  have hmf12 := hm'.frozen 12
  have hmc13 := hm'.cell 13
  have hmf13 := hm'.frozen 13
  have hmc14 := hm'.cell 14
  have hmf14 := hm'.frozen 14
  simp at hmc0 hmc1 hmc2 hmc3 hmc4 hmc5 hmc6 hmc7 hmc8 hmc9 hmc10 hmc11 hmc12 hmc13 hmc14
  have hne : g ≠ w.heap.size := by omega
  go_wp2_with fail
  refine bodyPost_ret (results_ct rfl _ _ w.heap.size 29 #[.int .i64 0, .int .i64 0, .int .i64 (-1), .int .i64 j, .int .i64 j, .int .i64 0, .int .i64 j, .int .i64 j, .int .i64 0, .int .i64 j, .int .i64 t, .int .i64 r, .int .i64 tt, .int .i64 tr, .int .i64 rr] (0, 0) _ rfl (MBlk.is (MBlk.fill HZ.out _ _ _ _ _ _ _ _ _ _ _ _ _ _ _)) Try.underlying29 rfl (by kernel_rfl)) rfl ?_
  exact ⟨congrArg Ending.returned (HS.out.done hlen), below_fill HBW.out (by omega) _ _ _ _ _ _ _ _ _ _ _ _ _ _ _⟩
end Go.Proofs.Ytlokmliannklaaa.Print
end

section
namespace Go.Proofs.Ytlokmliannklaaa.Print
open Go.RowKit Go.Proofs.YtlokmliannklaaaW.PrintLast Go.Proofs.YtlokmliannklaaaW.PrintWords Go.Proofs.YtlokmliannklaaaW.PrintMore
set_option linter.unusedVariables false
set_option linter.unusedSimpArgs false

theorem sampled_one  (A0 : Option Addr) (c0 : Nat) (l0 : List S36) (w : World) (hr0 : Kd.C k36 w A0 l0.length l0) (hc0 : l0.length ≤ c0) (hl : l0.length ≤ 100) : Calls Try.prog 18 #[.slice A0 l0.length c0] w fun e w' => e = .returned (sampledOf l0) ∧ Below w.heap.size w w' :=
  (sampled_one_skel ).2.2.2.2.2.2.2 (sampled_one_p0 ) (sampled_one_p1 ) (sampled_one_p2 ) (sampled_one_p3 ) (sampled_one_p4 ) (sampled_one_p5 ) (sampled_one_p6 ) A0 c0 l0 w hr0 hc0 hl
end Go.Proofs.Ytlokmliannklaaa.Print
end

section
namespace Go.Proofs.Ytlokmliannklaaa.Print
open Go.RowKit Go.Proofs.YtlokmliannklaaaW.PrintWords Go.Proofs.YtlokmliannklaaaW.PrintLast Go.Proofs.YtlokmliannklaaaW.PrintMore
attribute [local go_sem] max2_int min2_int max_two min_two max_three min_three max_four min_four   -- for this text's walks alone
set_option linter.unusedVariables false
set_option linter.unusedSimpArgs false

attribute [local go_sem high] eqA24
/-! ### pacemakerlaw10_sampled: function 18 -/
def pacemakerlaw10_sampled.f (l0 : List S36) : Option (Int × Int × Int × Int × Int × Int × Int × Int × Int × Int × Int × Int × Int × Int × Int × Bool) :=
  if l0.length ≤ 100 then
    if l0.all sampleOk = true then
      some (0, 0, -1, l0.length, l0.length, 0, l0.length, l0.length, 0, l0.length, sumOf (·.f0) l0, sumOf (·.f1) l0, sumOf (fun x => x.f0 * x.f0) l0, sumOf (fun x => x.f0 * x.f1) l0, sumOf (fun x => x.f1 * x.f1) l0, true)
    else some (0, 0, 0, 0, 0, 0, 0, 0, 0, 0, 0, 0, 0, 0, 0, false)
  else some (0, 0, 0, 0, 0, 0, 0, 0, 0, 0, 0, 0, 0, 0, 0, false)
theorem pacemakerlaw10_sampled.calls (A0 : Option Addr) (c0 : Nat) (l0 : List (S36)) (r1 : Int) (r2 : Int) (r3 : Int) (r4 : Int) (r5 : Int) (r6 : Int) (r7 : Int) (r8 : Int) (r9 : Int) (r10 : Int) (r11 : Int) (r12 : Int) (r13 : Int) (r14 : Int) (r15 : Int) (r16 : Bool) (w : World) (hr0 : Kd.C k36 w A0 l0.length l0) (hc0 : l0.length ≤ c0) (h : pacemakerlaw10_sampled.f l0 = some (r1, r2, r3, r4, r5, r6, r7, r8, r9, r10, r11, r12, r13, r14, r15, r16)) :
    Calls Try.prog 18 #[.slice A0 l0.length c0] w fun e w' => e = .returned (.tuple #[.agg #[.int .i64 r1, .int .i64 r2, .int .i64 r3, .int .i64 r4, .int .i64 r5, .int .i64 r6, .int .i64 r7, .int .i64 r8, .int .i64 r9, .int .i64 r10, .int .i64 r11, .int .i64 r12, .int .i64 r13, .int .i64 r14, .int .i64 r15], .bool r16]) ∧ Below w.heap.size w w' := by
  unfold pacemakerlaw10_sampled.f at h
  by_cases hl : l0.length ≤ 100
  · rw [if_pos hl] at h
    refine (sampled_one A0 c0 l0 w hr0 hc0 hl).mono ?_
    rintro e w' ⟨he, hb⟩
    refine ⟨he.trans (congrArg Ending.returned ?_), hb⟩
    unfold sampledOf
    by_cases ha : l0.all sampleOk = true
    · rw [if_pos ha] at h ⊢
      simp only [Option.some.injEq, Prod.mk.injEq] at h
      obtain ⟨rfl, rfl, rfl, rfl, rfl, rfl, rfl, rfl, rfl, rfl, rfl, rfl, rfl, rfl, rfl, rfl⟩ := h
      rfl
    · rw [if_neg ha] at h ⊢
      simp only [Option.some.injEq, Prod.mk.injEq] at h
      obtain ⟨rfl, rfl, rfl, rfl, rfl, rfl, rfl, rfl, rfl, rfl, rfl, rfl, rfl, rfl, rfl, rfl⟩ := h
      rfl
  · rw [if_neg hl] at h
    simp only [Option.some.injEq, Prod.mk.injEq] at h
    obtain ⟨rfl, rfl, rfl, rfl, rfl, rfl, rfl, rfl, rfl, rfl, rfl, rfl, rfl, rfl, rfl, rfl⟩ := h
    exact sampled_long A0 c0 l0 w (by omega)

end Go.Proofs.Ytlokmliannklaaa.Print
end
