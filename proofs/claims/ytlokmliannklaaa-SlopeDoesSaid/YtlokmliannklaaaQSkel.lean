/- law10.sampled. -/
import Derived.Test.YtlokmliannklaaaQPrint4
import Derived.Test.YtlokmliannklaaaQAck
import Derived.Deep.RegionHeld3
import Derived.RegionTactic
import Derived.ChangeAlike
import Derived.WalkMore
import Derived.Deep.Cut
import Derived.Outline
section
namespace Go.Proofs.Ytlokmliannklaaa.Print
open Go.RowKit Go.Proofs.YtlokmliannklaaaW.PrintLast Go.Proofs.YtlokmliannklaaaW.PrintWords Go.Proofs.YtlokmliannklaaaW.PrintMore
set_option linter.unusedVariables false
set_option linter.unusedSimpArgs false

theorem open_one (w : World) : Calls Try.prog 34 #[.int .i64 0, .int .i64 0] w fun e w' => e = .returned (.tuple #[.agg #[.int .i64 0, .int .i64 0, .int .i64 (-1), .int .i64 0, .int .i64 0, .int .i64 0, .int .i64 0, .int .i64 0, .int .i64 0, .int .i64 0, .int .i64 0, .int .i64 0, .int .i64 0, .int .i64 0, .int .i64 0], .int .i64 0]) ∧ Below w.heap.size w w' :=
  account_Open.calls 0 0 0 0 (-1) 0 0 0 0 0 0 0 0 0 0 0 0 0 w (by simp [account_Open.f, account_time.f])
def sampled_T15 : Bool × List (List Nat × List Nat) := (true, [([], []), ([], []), ([], []), ([1, 2], [1, 2]), ([3], [3]), ([4], [4]), ([], []), ([], []), ([6, 7], [6, 7]), ([8], [8]), ([9], [9]), ([], []), ([], []), ([11, 12], [11, 12]), ([13], [13]), ([14], [14]), ([10, 15], [10, 15]), ([0, 5, 16], [0, 5, 16]), ([17], [17]), ([18], [18]), ([18], [18]), ([], []), ([21, 19, 17, 0, 1, 2, 3, 4, 5, 6, 7, 8, 9, 10, 11, 12, 13, 14, 15, 16, 17, 18, 19, 21], [19, 21]), ([20, 22, 0, 1, 2, 3, 4, 5, 6, 7, 8, 9, 10, 11, 12, 13, 14, 15, 16, 17, 18, 19, 20, 21, 22], [20])])
def sampled_B15 : List Nat := [0, 0, 0, 6, 14, 30, 0, 0, 192, 448, 960, 0, 0, 6144, 14336, 30720, 65472, 131071, 262143, 524287, 524287, 0, 3145727, 8388607]
theorem sampled_tab15 : rtab .any (opsOf Try.f18 15) = sampled_T15 := by kernel_rfl
theorem sampled_bits15 : waitsOk sampled_T15.2 sampled_B15 = true := by kernel_rfl
attribute [local irreducible] MBlk
set_option maxHeartbeats 40000000 in
set_option maxRecDepth 100000 in
noncomputable def sampled_one_skel  : Σ' (P0 P1 P2 P3 P4 P5 P6 : Prop), P0 → P1 → P2 → P3 → P4 → P5 → P6 → (∀ (A0 : Option Addr) (c0 : Nat) (l0 : List S36) (w : World) (hr0 : Kd.C k36 w A0 l0.length l0) (hc0 : l0.length ≤ c0) (hl : l0.length ≤ 100), Calls Try.prog 18 #[.slice A0 l0.length c0] w fun e w' => e = .returned (sampledOf l0) ∧ Below w.heap.size w w') := by
  refine ⟨?P0, ?P1, ?P2, ?P3, ?P4, ?P5, ?P6, fun hP0 hP1 hP2 hP3 hP4 hP5 hP6 A0 c0 l0 w hr0 hc0 hl => ?_⟩
  rotate_left 7
  focus
    have HR := Lib.hid hr0
    clear hr0
    obtain ⟨len, hlen⟩ : ∃ len : Nat, l0.length = len := ⟨_, rfl⟩
    rw [hlen] at hl hc0 HR
    rw [hlen]
    have d0 : (decide ((len : Int) > 100)) = false := by simp; omega
    go_enter Try.func18, Try.ntmps18
    go_wp2_with fail
    refine (open_one _).mono ?_
    rintro e w1 ⟨rfl, hb1⟩
    have r1 := (MBlk.new w #[.int .i64 0, .int .i64 0, .int .i64 0, .int .i64 0, .int .i64 0, .int .i64 0, .int .i64 0, .int .i64 0, .int .i64 0, .int .i64 0, .int .i64 0, .int .i64 0, .int .i64 0, .int .i64 0, .int .i64 0]).on hb1
    have HB := Lib.hid (below_step (below_alloc (Below.refl w.heap.size w) _) hb1)
    have hg1 : w.heap.size < w1.heap.size := r1.lt
    clear hb1
    obtain ⟨g, hg⟩ : ∃ g, w1.heap.size = g := ⟨_, rfl⟩
    go_wp2_with fail
    try rw [hg]
    go_loopw [5, 6] (fun e i wr => ∃ k : Nat, k ≤ len ∧ e = .int .i64 0 ∧ i = .int .i64 k ∧ Below w.heap.size w wr ∧ MBlk wr w.heap.size #[.int .i64 0, .int .i64 0, .int .i64 0, .int .i64 0, .int .i64 0, .int .i64 0, .int .i64 0, .int .i64 0, .int .i64 0, .int .i64 0, .int .i64 0, .int .i64 0, .int .i64 0, .int .i64 0, .int .i64 0] ∧ MBlk wr g #[.int .i64 0, .int .i64 0, .int .i64 (-1), .int .i64 k, .int .i64 0, .int .i64 0, .int .i64 k, .int .i64 0, .int .i64 0, .int .i64 0, .int .i64 0, .int .i64 0, .int .i64 0, .int .i64 0, .int .i64 0]) (fun _ i _ => len - (intOf i).toNat)
    case atStart =>
      refine ⟨0, by omega, rfl, rfl, ?_, ?_, ?_⟩
      · exact below_alloc HB.out _
      · exact r1.alloc _
      · exact hg ▸ MBlk.new w1 #[.int .i64 0, .int .i64 0, .int .i64 (-1), .int .i64 0, .int .i64 0, .int .i64 0, .int .i64 0, .int .i64 0, .int .i64 0, .int .i64 0, .int .i64 0, .int .i64 0, .int .i64 0, .int .i64 0, .int .i64 0]
    case round =>
      obtain ⟨k, hk, rfl, rfl, hbw, hz, hm⟩ := hrel
      clear r1
      have HBW := Lib.hid hbw
      have HZ := Lib.hid hz
      clear hz hbw
      by_cases hlt : k < len
      · rename_i z0_ z1_ z2_
        revert A0 c0 l0 w len HR hc0 hl hlen d0 z0_ w1 HB hg1 g hg z1_ z2_ wr u7 u8 u20 u21 u22 u23 u24 u25 u26 u27 u28 u29 u30 u31 u32 u33 u34 u35 u36 k hk hm HBW HZ hlt
        exact hP0
      · have hkl : k = len := by omega
        subst hkl
        have d1 : (decide ((k : Int) < k)) = false := by simp
        clear hlt
        go_wp2_with fail
        go_loopw [5, 9] (fun e i wr => ∃ (j : Nat) (t r tt tr rr : Int), j ≤ k ∧ e = .int .i64 0 ∧ i = .int .i64 j ∧ Below w.heap.size w wr ∧ MBlk wr w.heap.size #[.int .i64 0, .int .i64 0, .int .i64 0, .int .i64 0, .int .i64 0, .int .i64 0, .int .i64 0, .int .i64 0, .int .i64 0, .int .i64 0, .int .i64 0, .int .i64 0, .int .i64 0, .int .i64 0, .int .i64 0] ∧ MBlk wr g #[.int .i64 0, .int .i64 0, .int .i64 (-1), .int .i64 k, .int .i64 j, .int .i64 0, .int .i64 k, .int .i64 j, .int .i64 0, .int .i64 j, .int .i64 t, .int .i64 r, .int .i64 tt, .int .i64 tr, .int .i64 rr] ∧ SRun l0 k j t r tt tr rr) (fun _ i _ => k - (intOf i).toNat)
        case atStart => exact ⟨0, 0, 0, 0, 0, 0, by omega, rfl, rfl, HBW.out, HZ.out, hm, SRun.zero l0 k hl⟩
        case round =>
          obtain ⟨j, t, r, tt, tr, rr, hj, rfl, rfl, hbw, hz, hm', hs⟩ := hrel
          clear HBW HZ hm
          have HBW := Lib.hid hbw
          have HZ := Lib.hid hz
          have HS := Lib.hid hs
          clear hz hbw hs
          by_cases hlt : j < k
          · have hlt' : j < l0.length := by omega
            have d2 : (decide ((j : Int) < k)) = true := by simp; omega
            obtain ⟨ad, rfl, y0, y1⟩ := at_T36 HR.out (j : Int) (by omega) (by omega)
            rw [show ((j : Int)).toNat = j from rfl] at y0 y1
            have x0 := (HBW.out.cell (World.block_lt_of_cell? w _ y0)).trans y0
            have x1 := (HBW.out.cell (World.block_lt_of_cell? w _ y1)).trans y1
            have hz := HZ.out
            have hzc0 := hz.cell 0
            have hzf0 := hz.frozen 0
            have hzc1 := hz.cell 1
            have hzf1 := hz.frozen 1
            have hzc2 := hz.cell 2
            have hzf2 := hz.frozen 2
            have hzc3 := hz.cell 3
            have hzf3 := hz.frozen 3
            have hzc4 := hz.cell 4
            have hzf4 := hz.frozen 4
            have hzc5 := hz.cell 5
            have hzf5 := hz.frozen 5
            have hzc6 := hz.cell 6
            have hzf6 := hz.frozen 6
            have hzc7 := hz.cell 7
            have hzf7 := hz.frozen 7
            have hzc8 := hz.cell 8
            have hzf8 := hz.frozen 8
            have hzc9 := hz.cell 9
            have hzf9 := hz.frozen 9
            have hzc10 := hz.cell 10
            have hzf10 := hz.frozen 10
            have hzc11 := hz.cell 11
            have hzf11 := hz.frozen 11
            have hzc12 := hz.cell 12
            have hzf12 := hz.frozen 12
            have hzc13 := hz.cell 13
            have hzf13 := hz.frozen 13
            have hzc14 := hz.cell 14
            have hzf14 := hz.frozen 14
            simp at hzc0 hzc1 hzc2 hzc3 hzc4 hzc5 hzc6 hzc7 hzc8 hzc9 hzc10 hzc11 hzc12 hzc13 hzc14
            by_cases c1 : (rd_T36 l0 j).f0 < 0
            · rename_i z0_ z1_ z2_ z3_ z4_ z5_ z6_ z7_
              revert c0 l0 w z0_ w1 HB hg1 g hg z1_ z2_ u7 u8 u20 u21 u22 u23 u24 u25 u26 u27 u28 u29 u30 u31 u32 u33 u34 u35 u36 k hc0 hl hlen d0 hk d1 z3_ z4_ z5_ wr u3 u10 u11 u37 u38 u39 u40 u41 u42 u43 u44 u45 u46 u47 u48 u49 u50 u51 u52 u53 u54 u55 u56 u57 u58 u59 u60 u61 u62 u63 u64 u65 u66 u67 u68 u69 u70 u71 u72 u73 u74 u75 u76 u77 u78 u79 u80 u81 u82 u83 u84 u85 u86 u87 u88 u89 u90 u91 u92 u93 u94 u95 u96 u97 u98 u99 u100 j t r tt tr rr hj hm' HBW HZ HS hlt hlt' d2 ad HR z6_ z7_ y0 y1 x0 x1 hz hzf0 hzf1 hzf2 hzf3 hzf4 hzf5 hzf6 hzf7 hzf8 hzf9 hzf10 hzf11 hzf12 hzf13 hzf14 hzc0 hzc1 hzc2 hzc3 hzc4 hzc5 hzc6 hzc7 hzc8 hzc9 hzc10 hzc11 hzc12 hzc13 hzc14 c1
              exact hP1
            have q1 : decide ((rd_T36 l0 j).f0 < 0) = false := decide_eq_false c1
            by_cases c2 : (rd_T36 l0 j).f0 > 60000000
            · rename_i z0_ z1_ z2_ z3_ z4_ z5_ z6_ z7_
              revert c0 l0 w z0_ w1 HB hg1 g hg z1_ z2_ u7 u8 u20 u21 u22 u23 u24 u25 u26 u27 u28 u29 u30 u31 u32 u33 u34 u35 u36 k hc0 hl hlen d0 hk d1 z3_ z4_ z5_ wr u3 u10 u11 u37 u38 u39 u40 u41 u42 u43 u44 u45 u46 u47 u48 u49 u50 u51 u52 u53 u54 u55 u56 u57 u58 u59 u60 u61 u62 u63 u64 u65 u66 u67 u68 u69 u70 u71 u72 u73 u74 u75 u76 u77 u78 u79 u80 u81 u82 u83 u84 u85 u86 u87 u88 u89 u90 u91 u92 u93 u94 u95 u96 u97 u98 u99 u100 j t r tt tr rr hj hm' HBW HZ HS hlt hlt' d2 ad HR z6_ z7_ y0 y1 x0 x1 hz hzf0 hzf1 hzf2 hzf3 hzf4 hzf5 hzf6 hzf7 hzf8 hzf9 hzf10 hzf11 hzf12 hzf13 hzf14 hzc0 hzc1 hzc2 hzc3 hzc4 hzc5 hzc6 hzc7 hzc8 hzc9 hzc10 hzc11 hzc12 hzc13 hzc14 c1 q1 c2
              exact hP2
            have q2 : decide ((rd_T36 l0 j).f0 > 60000000) = false := decide_eq_false c2
            by_cases c3 : (rd_T36 l0 j).f1 < 0
            · rename_i z0_ z1_ z2_ z3_ z4_ z5_ z6_ z7_
              revert c0 l0 w z0_ w1 HB hg1 g hg z1_ z2_ u7 u8 u20 u21 u22 u23 u24 u25 u26 u27 u28 u29 u30 u31 u32 u33 u34 u35 u36 k hc0 hl hlen d0 hk d1 z3_ z4_ z5_ wr u3 u10 u11 u37 u38 u39 u40 u41 u42 u43 u44 u45 u46 u47 u48 u49 u50 u51 u52 u53 u54 u55 u56 u57 u58 u59 u60 u61 u62 u63 u64 u65 u66 u67 u68 u69 u70 u71 u72 u73 u74 u75 u76 u77 u78 u79 u80 u81 u82 u83 u84 u85 u86 u87 u88 u89 u90 u91 u92 u93 u94 u95 u96 u97 u98 u99 u100 j t r tt tr rr hj hm' HBW HZ HS hlt hlt' d2 ad HR z6_ z7_ y0 y1 x0 x1 hz hzf0 hzf1 hzf2 hzf3 hzf4 hzf5 hzf6 hzf7 hzf8 hzf9 hzf10 hzf11 hzf12 hzf13 hzf14 hzc0 hzc1 hzc2 hzc3 hzc4 hzc5 hzc6 hzc7 hzc8 hzc9 hzc10 hzc11 hzc12 hzc13 hzc14 c1 q1 c2 q2 c3
              exact hP3
            have q3 : decide ((rd_T36 l0 j).f1 < 0) = false := decide_eq_false c3
            by_cases c4 : (rd_T36 l0 j).f1 > 60000000
            · rename_i z0_ z1_ z2_ z3_ z4_ z5_ z6_ z7_
              revert c0 l0 w z0_ w1 HB hg1 g hg z1_ z2_ u7 u8 u20 u21 u22 u23 u24 u25 u26 u27 u28 u29 u30 u31 u32 u33 u34 u35 u36 k hc0 hl hlen d0 hk d1 z3_ z4_ z5_ wr u3 u10 u11 u37 u38 u39 u40 u41 u42 u43 u44 u45 u46 u47 u48 u49 u50 u51 u52 u53 u54 u55 u56 u57 u58 u59 u60 u61 u62 u63 u64 u65 u66 u67 u68 u69 u70 u71 u72 u73 u74 u75 u76 u77 u78 u79 u80 u81 u82 u83 u84 u85 u86 u87 u88 u89 u90 u91 u92 u93 u94 u95 u96 u97 u98 u99 u100 j t r tt tr rr hj hm' HBW HZ HS hlt hlt' d2 ad HR z6_ z7_ y0 y1 x0 x1 hz hzf0 hzf1 hzf2 hzf3 hzf4 hzf5 hzf6 hzf7 hzf8 hzf9 hzf10 hzf11 hzf12 hzf13 hzf14 hzc0 hzc1 hzc2 hzc3 hzc4 hzc5 hzc6 hzc7 hzc8 hzc9 hzc10 hzc11 hzc12 hzc13 hzc14 c1 q1 c2 q2 c3 q3 c4
              exact hP4
            have q4 : decide ((rd_T36 l0 j).f1 > 60000000) = false := decide_eq_false c4
            clear hzc0 hzf0 hzc1 hzf1 hzc2 hzf2 hzc3 hzf3 hzc4 hzf4 hzc5 hzf5 hzc6 hzf6 hzc7 hzf7 hzc8 hzf8 hzc9 hzf9 hzc10 hzf10 hzc11 hzf11 hzc12 hzf12 hzc13 hzf13 hzc14 hzf14
            have hmc0 := hm'.cell 0
            have hmf0 := hm'.frozen 0
            have hmc1 := hm'.cell 1
            have hmf1 := hm'.frozen 1
            have hmc2 := hm'.cell 2
            have hmf2 := hm'.frozen 2
            have hmc3 := hm'.cell 3
            have hmf3 := hm'.frozen 3
            have hmc4 := hm'.cell 4
            have hmf4 := hm'.frozen 4
            have hmc5 := hm'.cell 5
            have hmf5 := hm'.frozen 5
            have hmc6 := hm'.cell 6
            have hmf6 := hm'.frozen 6
            have hmc7 := hm'.cell 7
            have hmf7 := hm'.frozen 7
            have hmc8 := hm'.cell 8
            have hmf8 := hm'.frozen 8
            have hmc9 := hm'.cell 9
            have hmf9 := hm'.frozen 9
            have hmc10 := hm'.cell 10
            have hmf10 := hm'.frozen 10
            have hmc11 := hm'.cell 11
            have hmf11 := hm'.frozen 11
            have hmc12 := hm'.cell 12
            have hmf12 := hm'.frozen 12
            have hmc13 := hm'.cell 13
            have hmf13 := hm'.frozen 13
            have hmc14 := hm'.cell 14
            have hmf14 := hm'.frozen 14
            simp at hmc0 hmc1 hmc2 hmc3 hmc4 hmc5 hmc6 hmc7 hmc8 hmc9 hmc10 hmc11 hmc12 hmc13 hmc14
            have HN := Lib.hid (HS.out.step hlen hlt (by omega) (by omega) (by omega) (by omega))
            have HO := Lib.hid HS.out.ok
            generalize (rd_T36 l0 j).f0 = a at *
            generalize (rd_T36 l0 j).f1 = b at *
            have hsum : wrap64 (a + b) = a + b := wrap_id (by omega) (by omega)
            have hsum2 : IntKind.i64.wrap (a + b) = a + b := by simp only [i64_w]; exact hsum
            have hgw : g < wr.heap.size := hm'.lt
            have key : ∀ w', Below w.heap.size w w' → MBlk w' g #[.int .i64 0, .int .i64 0, .int .i64 (-1), .int .i64 k, .int .i64 j, .int .i64 0, .int .i64 k, .int .i64 j, .int .i64 0, .int .i64 j, .int .i64 t, .int .i64 r, .int .i64 tt, .int .i64 tr, .int .i64 rr] → (w'.cell? ⟨g, 0, none⟩ = some (.int .i64 0) ∧ w'.cell? ⟨g, 1, none⟩ = some (.int .i64 0) ∧ w'.cell? ⟨g, 2, none⟩ = some (.int .i64 (-1)) ∧ w'.cell? ⟨g, 3, none⟩ = some (.int .i64 k) ∧ w'.cell? ⟨g, 4, none⟩ = some (.int .i64 j) ∧ w'.cell? ⟨g, 5, none⟩ = some (.int .i64 0) ∧ w'.cell? ⟨g, 6, none⟩ = some (.int .i64 k) ∧ w'.cell? ⟨g, 7, none⟩ = some (.int .i64 j) ∧ w'.cell? ⟨g, 8, none⟩ = some (.int .i64 0) ∧ w'.cell? ⟨g, 9, none⟩ = some (.int .i64 j) ∧ w'.cell? ⟨g, 10, none⟩ = some (.int .i64 t) ∧ w'.cell? ⟨g, 11, none⟩ = some (.int .i64 r) ∧ w'.cell? ⟨g, 12, none⟩ = some (.int .i64 tt) ∧ w'.cell? ⟨g, 13, none⟩ = some (.int .i64 tr) ∧ w'.cell? ⟨g, 14, none⟩ = some (.int .i64 rr) ∧ w'.cell? (ad.add (j * 2)) = some (.int .i64 a) ∧ w'.cell? ⟨(ad.add (j * 2)).block, (ad.add (j * 2)).off + 1, none⟩ = some (.int .i64 b)) := by
              intro w' h1 h2
              refine ⟨(h2.cell 0).trans rfl, (h2.cell 1).trans rfl, (h2.cell 2).trans rfl, (h2.cell 3).trans rfl, (h2.cell 4).trans rfl, (h2.cell 5).trans rfl, (h2.cell 6).trans rfl, (h2.cell 7).trans rfl, (h2.cell 8).trans rfl, (h2.cell 9).trans rfl, (h2.cell 10).trans rfl, (h2.cell 11).trans rfl, (h2.cell 12).trans rfl, (h2.cell 13).trans rfl, (h2.cell 14).trans rfl, ?_, ?_⟩
              · exact (h1.cell (World.block_lt_of_cell? w _ y0)).trans y0
              · exact (h1.cell (World.block_lt_of_cell? w _ y1)).trans y1
            have HKEY := Lib.hid key
            clear key
            have HM' := Lib.hid hm'
            rename_i z0_ z1_ z2_ z3_ z4_ z5_ z6_ z7_
            revert c0 l0 w z0_ w1 HB hg1 g hg z1_ z2_ u7 u8 u20 u21 u22 u23 u24 u25 u26 u27 u28 u29 u30 u31 u32 u33 u34 u35 u36 k hc0 hl hlen d0 hk d1 z3_ z4_ z5_ wr u3 u10 u11 u37 u38 u39 u40 u41 u42 u43 u44 u45 u46 u47 u48 u49 u50 u51 u52 u53 u54 u55 u56 u57 u58 u59 u60 u61 u62 u63 u64 u65 u66 u67 u68 u69 u70 u71 u72 u73 u74 u75 u76 u77 u78 u79 u80 u81 u82 u83 u84 u85 u86 u87 u88 u89 u90 u91 u92 u93 u94 u95 u96 u97 u98 u99 u100 j t r tt tr rr hj hm' HBW HZ HS hlt hlt' d2 ad HR z6_ z7_ hz hmf0 hmf1 hmf2 hmf3 hmf4 hmf5 hmf6 hmf7 hmf8 hmf9 hmf10 hmf11 hmf12 hmf13 hmf14 hmc0 hmc1 hmc2 hmc3 hmc4 hmc5 hmc6 hmc7 hmc8 hmc9 hmc10 hmc11 hmc12 hmc13 hmc14 HO a y0 x0 c1 q1 c2 q2 b y1 x1 c3 q3 c4 q4 HN hsum hsum2 hgw HKEY HM'
            exact hP5
          · rename_i z0_ z1_ z2_ z3_ z4_ z5_ z6_ z7_
            revert A0 c0 l0 w z0_ w1 HB hg1 g hg z1_ z2_ u7 u8 u20 u21 u22 u23 u24 u25 u26 u27 u28 u29 u30 u31 u32 u33 u34 u35 u36 k HR hc0 hl hlen d0 hk d1 z3_ z4_ z5_ z6_ z7_ wr u3 u10 u11 u37 u38 u39 u40 u41 u42 u43 u44 u45 u46 u47 u48 u49 u50 u51 u52 u53 u54 u55 u56 u57 u58 u59 u60 u61 u62 u63 u64 u65 u66 u67 u68 u69 u70 u71 u72 u73 u74 u75 u76 u77 u78 u79 u80 u81 u82 u83 u84 u85 u86 u87 u88 u89 u90 u91 u92 u93 u94 u95 u96 u97 u98 u99 u100 j t r tt tr rr hj hm' HBW HZ HS hlt
            exact hP6
end Go.Proofs.Ytlokmliannklaaa.Print
end
