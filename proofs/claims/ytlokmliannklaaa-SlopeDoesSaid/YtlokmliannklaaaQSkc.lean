/- law10.sampled. -/
import Derived.Test.YtlokmliannklaaaQPrint4
import Derived.Test.YtlokmliannklaaaQAck
import Derived.Deep.RegionHeld3
import Derived.RegionTactic
import Derived.ChangeAlike
import Derived.WalkMore
import Derived.Deep.Cut
import Derived.Outline
import Derived.Test.YtlokmliannklaaaQSkel
section
namespace Go.Proofs.Ytlokmliannklaaa.Print
open Go.RowKit Go.Proofs.YtlokmliannklaaaW.PrintLast Go.Proofs.YtlokmliannklaaaW.PrintWords Go.Proofs.YtlokmliannklaaaW.PrintMore
set_option linter.unusedVariables false
set_option linter.unusedSimpArgs false

attribute [local irreducible] MBlk
set_option maxHeartbeats 40000000 in
set_option maxRecDepth 100000 in
theorem sampled_one_p5  : (sampled_one_skel ).2.2.2.2.2.1 := by
  intro c0 l0 w z0_ w1 HB hg1 g hg z1_ z2_ u7 u8 u20 u21 u22 u23 u24 u25 u26 u27 u28 u29 u30 u31 u32 u33 u34 u35 u36 k hc0 hl hlen d0 hk d1 z3_ z4_ z5_ wr u3 u10 u11 u37 u38 u39 u40 u41 u42 u43 u44 u45 u46 u47 u48 u49 u50 u51 u52 u53 u54 u55 u56 u57 u58 u59 u60 u61 u62 u63 u64 u65 u66 u67 u68 u69 u70 u71 u72 u73 u74 u75 u76 u77 u78 u79 u80 u81 u82 u83 u84 u85 u86 u87 u88 u89 u90 u91 u92 u93 u94 u95 u96 u97 u98 u99 u100 j t r tt tr rr hj hm' HBW HZ HS hlt hlt' d2 ad HR z6_ z7_ hz hmf0 hmf1 hmf2 hmf3 hmf4 hmf5 hmf6 hmf7 hmf8 hmf9 hmf10 hmf11 hmf12 hmf13 hmf14 hmc0 hmc1 hmc2 hmc3 hmc4 hmc5 hmc6 hmc7 hmc8 hmc9 hmc10 hmc11 hmc12 hmc13 hmc14 HO a y0 x0 c1 q1 c2 q2 b y1 x1 c3 q3 c4 q4 HN hsum hsum2 hgw HKEY HM'
  go_upto_region 15 with (fail)
  have HBd := Lib.hid (below_drew HBW.out)
  have HMd := Lib.hid (MBlk.drew HM'.out)
  have HZd := Lib.hid (MBlk.drew HZ.out)
  refine start_ (n := 24) (S := fun w' => w'.cell? ⟨g, 0, none⟩ = some (.int .i64 0) ∧ w'.cell? ⟨g, 1, none⟩ = some (.int .i64 0) ∧ w'.cell? ⟨g, 2, none⟩ = some (.int .i64 (-1)) ∧ w'.cell? ⟨g, 3, none⟩ = some (.int .i64 k) ∧ w'.cell? ⟨g, 4, none⟩ = some (.int .i64 j) ∧ w'.cell? ⟨g, 5, none⟩ = some (.int .i64 0) ∧ w'.cell? ⟨g, 6, none⟩ = some (.int .i64 k) ∧ w'.cell? ⟨g, 7, none⟩ = some (.int .i64 j) ∧ w'.cell? ⟨g, 8, none⟩ = some (.int .i64 0) ∧ w'.cell? ⟨g, 9, none⟩ = some (.int .i64 j) ∧ w'.cell? ⟨g, 10, none⟩ = some (.int .i64 t) ∧ w'.cell? ⟨g, 11, none⟩ = some (.int .i64 r) ∧ w'.cell? ⟨g, 12, none⟩ = some (.int .i64 tt) ∧ w'.cell? ⟨g, 13, none⟩ = some (.int .i64 tr) ∧ w'.cell? ⟨g, 14, none⟩ = some (.int .i64 rr) ∧ w'.cell? (ad.add (j * 2)) = some (.int .i64 a) ∧ w'.cell? ⟨(ad.add (j * 2)).block, (ad.add (j * 2)).off + 1, none⟩ = some (.int .i64 b)) (ds := []) #[false, false, false, false, false, false, false, false, false, false, false, false, false, false, false, false, false, false, false, false, false, false, false, false] (by kernel_rfl) rfl rfl (HKEY.out _ HBd.out HMd.out) (fun hHeld => ?_); refine with_tabW sampled_tab15 sampled_bits15 (fun HT_ HW_ => ?_)
  generalize wr.drew = wd at HBd HMd HZd hHeld ⊢
  refine pure_ (i := 1) (N := some 80) (v := ?_) (a' := ?_) #[false, true, false, false, false, false, false, false, false, false, false, false, false, false, false, false, false, false, false, false, false, false, false, false] rfl rfl (any_of HT_.out (by kernel_rfl)) (fun _ _ _ h => h) (Or.inl ⟨by rfl, ?_⟩) ?_ ?_
  rotate_left
  · intro w'
    go_simp
    with_reducible rfl
  rotate_left
  · simp only [Act.put, List.setIfInBounds_toArray, List.set_cons_zero, List.set_cons_succ, i64_w, i32_w]
    rfl
  refine pure_ (i := 2) (N := some 81) (v := ?_) (a' := ?_) #[false, true, true, false, false, false, false, false, false, false, false, false, false, false, false, false, false, false, false, false, false, false, false, false] rfl rfl (any_of HT_.out (by kernel_rfl)) (fun _ _ _ h => h) (Or.inl ⟨by rfl, ?_⟩) ?_ ?_
  rotate_left
  · intro w'
    go_simp
    with_reducible rfl
  rotate_left
  · simp only [Act.put, List.setIfInBounds_toArray, List.set_cons_zero, List.set_cons_succ, i64_w, i32_w]
    rfl
  refine pure_ (i := 3) (N := some 82) (v := ?_) (a' := ?_) #[false, true, true, true, false, false, false, false, false, false, false, false, false, false, false, false, false, false, false, false, false, false, false, false] rfl rfl (any_of HT_.out (by kernel_rfl)) (fun _ _ _ h => h) (Or.inl ⟨by rfl, ?_⟩) ?_ ?_
  rotate_left
  · intro w'
    go_simp
    with_reducible rfl
  rotate_left
  · simp only [Act.put, List.setIfInBounds_toArray, List.set_cons_zero, List.set_cons_succ, i64_w, i32_w]
    rfl
  refine pure_ (i := 4) (N := some 83) (v := ?_) (a' := ?_) #[false, true, true, true, true, false, false, false, false, false, false, false, false, false, false, false, false, false, false, false, false, false, false, false] rfl rfl (any_of HT_.out (by kernel_rfl)) (fun _ _ _ h => h) (Or.inl ⟨by rfl, ?_⟩) ?_ ?_
  rotate_left
  · intro w'
    go_simp
    with_reducible rfl
  rotate_left
  · simp only [Act.put, List.setIfInBounds_toArray, List.set_cons_zero, List.set_cons_succ, i64_w, i32_w]
    rfl
  refine pure_ (i := 6) (N := some 85) (v := ?_) (a' := ?_) #[false, true, true, true, true, false, true, false, false, false, false, false, false, false, false, false, false, false, false, false, false, false, false, false] rfl rfl (any_of HT_.out (by kernel_rfl)) (fun _ _ _ h => h) (Or.inl ⟨by rfl, ?_⟩) ?_ ?_
  rotate_left
  · intro w'
    go_simp
    with_reducible rfl
  rotate_left
  · simp only [Act.put, List.setIfInBounds_toArray, List.set_cons_zero, List.set_cons_succ, i64_w, i32_w]
    rfl
  refine pure_ (i := 7) (N := some 86) (v := ?_) (a' := ?_) #[false, true, true, true, true, false, true, true, false, false, false, false, false, false, false, false, false, false, false, false, false, false, false, false] rfl rfl (any_of HT_.out (by kernel_rfl)) (fun _ _ _ h => h) (Or.inl ⟨by rfl, ?_⟩) ?_ ?_
  rotate_left
  · intro w'
    go_simp
    with_reducible rfl
  rotate_left
  · simp only [Act.put, List.setIfInBounds_toArray, List.set_cons_zero, List.set_cons_succ, i64_w, i32_w]
    rfl
  refine pure_ (i := 8) (N := some 87) (v := ?_) (a' := ?_) #[false, true, true, true, true, false, true, true, true, false, false, false, false, false, false, false, false, false, false, false, false, false, false, false] rfl rfl (any_of HT_.out (by kernel_rfl)) (fun _ _ _ h => h) (Or.inl ⟨by rfl, ?_⟩) ?_ ?_
  rotate_left
  · intro w'
    go_simp
    with_reducible rfl
  rotate_left
  · simp only [Act.put, List.setIfInBounds_toArray, List.set_cons_zero, List.set_cons_succ, i64_w, i32_w]
    rfl
  refine pure_ (i := 9) (N := some 88) (v := ?_) (a' := ?_) #[false, true, true, true, true, false, true, true, true, true, false, false, false, false, false, false, false, false, false, false, false, false, false, false] rfl rfl (any_of HT_.out (by kernel_rfl)) (fun _ _ _ h => h) (Or.inl ⟨by rfl, ?_⟩) ?_ ?_
  rotate_left
  · intro w'
    go_simp
    with_reducible rfl
  rotate_left
  · simp only [Act.put, List.setIfInBounds_toArray, List.set_cons_zero, List.set_cons_succ, i64_w, i32_w]
    rfl
  refine pure_ (i := 11) (N := some 90) (v := ?_) (a' := ?_) #[false, true, true, true, true, false, true, true, true, true, false, true, false, false, false, false, false, false, false, false, false, false, false, false] rfl rfl (any_of HT_.out (by kernel_rfl)) (fun _ _ _ h => h) (Or.inl ⟨by rfl, ?_⟩) ?_ ?_
  rotate_left
  · intro w'
    go_simp
    with_reducible rfl
  rotate_left
  · simp only [Act.put, List.setIfInBounds_toArray, List.set_cons_zero, List.set_cons_succ, i64_w, i32_w]
    rfl
  refine pure_ (i := 12) (N := some 91) (v := ?_) (a' := ?_) #[false, true, true, true, true, false, true, true, true, true, false, true, true, false, false, false, false, false, false, false, false, false, false, false] rfl rfl (any_of HT_.out (by kernel_rfl)) (fun _ _ _ h => h) (Or.inl ⟨by rfl, ?_⟩) ?_ ?_
  rotate_left
  · intro w'
    go_simp
    with_reducible rfl
  rotate_left
  · simp only [Act.put, List.setIfInBounds_toArray, List.set_cons_zero, List.set_cons_succ, i64_w, i32_w]
    rfl
  refine pure_ (i := 13) (N := some 92) (v := ?_) (a' := ?_) #[false, true, true, true, true, false, true, true, true, true, false, true, true, true, false, false, false, false, false, false, false, false, false, false] rfl rfl (any_of HT_.out (by kernel_rfl)) (fun _ _ _ h => h) (Or.inl ⟨by rfl, ?_⟩) ?_ ?_
  rotate_left
  · intro w'
    go_simp
    with_reducible rfl
  rotate_left
  · simp only [Act.put, List.setIfInBounds_toArray, List.set_cons_zero, List.set_cons_succ, i64_w, i32_w]
    rfl
  refine pure_ (i := 14) (N := some 93) (v := ?_) (a' := ?_) #[false, true, true, true, true, false, true, true, true, true, false, true, true, true, true, false, false, false, false, false, false, false, false, false] rfl rfl (any_of HT_.out (by kernel_rfl)) (fun _ _ _ h => h) (Or.inl ⟨by rfl, ?_⟩) ?_ ?_
  rotate_left
  · intro w'
    go_simp
    with_reducible rfl
  rotate_left
  · simp only [Act.put, List.setIfInBounds_toArray, List.set_cons_zero, List.set_cons_succ, i64_w, i32_w]
    rfl
  refine take_ (i := 0) (N := some 79) (v := ?_) (a' := ?_) #[true, true, true, true, true, false, true, true, true, true, false, true, true, true, true, false, false, false, false, false, false, false, false, false] rfl rfl (take_ofW HT_.out HW_.out (by kernel_rfl)) (fun _ _ _ h => h) (Or.inl ⟨by rfl, ?_⟩) hHeld ?_ ?_
  rotate_left
  · rintro w' ⟨s0, s1, s2, s3, s4, s5, s6, s7, s8, s9, s10, s11, s12, s13, s14, s15, s16⟩
    go_simp
    with_reducible rfl
  rotate_left
  · simp only [Act.put, List.setIfInBounds_toArray, List.set_cons_zero, List.set_cons_succ, i64_w, i32_w]
    rfl
  refine take_ (i := 5) (N := some 84) (v := ?_) (a' := ?_) #[true, true, true, true, true, true, true, true, true, true, false, true, true, true, true, false, false, false, false, false, false, false, false, false] rfl rfl (take_ofW HT_.out HW_.out (by kernel_rfl)) (fun _ _ _ h => h) (Or.inl ⟨by rfl, ?_⟩) hHeld ?_ ?_
  rotate_left
  · rintro w' ⟨s0, s1, s2, s3, s4, s5, s6, s7, s8, s9, s10, s11, s12, s13, s14, s15, s16⟩
    go_simp
    with_reducible rfl
  rotate_left
  · simp only [Act.put, List.setIfInBounds_toArray, List.set_cons_zero, List.set_cons_succ, i64_w, i32_w]
    rfl
  refine take_ (i := 10) (N := some 89) (v := ?_) (a' := ?_) #[true, true, true, true, true, true, true, true, true, true, true, true, true, true, true, false, false, false, false, false, false, false, false, false] rfl rfl (take_ofW HT_.out HW_.out (by kernel_rfl)) (fun _ _ _ h => h) (Or.inl ⟨by rfl, ?_⟩) hHeld ?_ ?_
  rotate_left
  · rintro w' ⟨s0, s1, s2, s3, s4, s5, s6, s7, s8, s9, s10, s11, s12, s13, s14, s15, s16⟩
    go_simp
    with_reducible rfl
  rotate_left
  · simp only [Act.put, List.setIfInBounds_toArray, List.set_cons_zero, List.set_cons_succ, i64_w, i32_w]
    rfl
  refine take_ (i := 15) (N := some 94) (v := ?_) (a' := ?_) #[true, true, true, true, true, true, true, true, true, true, true, true, true, true, true, true, false, false, false, false, false, false, false, false] rfl rfl (take_ofW HT_.out HW_.out (by kernel_rfl)) (fun _ _ _ h => h) (Or.inl ⟨by rfl, ?_⟩) hHeld ?_ ?_
  rotate_left
  · rintro w' ⟨s0, s1, s2, s3, s4, s5, s6, s7, s8, s9, s10, s11, s12, s13, s14, s15, s16⟩
    go_simp
    with_reducible rfl
  rotate_left
  · simp only [Act.put, List.setIfInBounds_toArray, List.set_cons_zero, List.set_cons_succ, i64_w, i32_w]
    rfl
  refine pure_ (i := 16) (N := some 95) (v := ?_) (a' := ?_) #[true, true, true, true, true, true, true, true, true, true, true, true, true, true, true, true, true, false, false, false, false, false, false, false] rfl rfl (any_of HT_.out (by kernel_rfl)) (fun _ _ _ h => h) (Or.inl ⟨by rfl, ?_⟩) ?_ ?_
  rotate_left
  · intro w'
    go_simp
    with_reducible rfl
  rotate_left
  · simp only [Act.put, List.setIfInBounds_toArray, List.set_cons_zero, List.set_cons_succ, i64_w, i32_w, hsum]
    rfl
  refine join_ (σ := Nat) 2 #[true, true, true, true, true, true, true, true, true, true, true, true, true, true, true, true, true, true, true, true, true, true, false, false] (fun s_ => [(96, .tuple #[.agg #[.int .i64 0, .int .i64 0, .int .i64 (-1), .int .i64 k, .int .i64 (j + 1), .int .i64 0, .int .i64 k, .int .i64 (j + 1), .int .i64 0, .int .i64 (j + 1), .int .i64 (t + a), .int .i64 (r + b), .int .i64 (tt + a * a), .int .i64 (tr + a * b), .int .i64 (rr + b * b)], .int .i64 0]), (10, .pointer (some ⟨s_, 0, none⟩)), (78, .tuple #[.agg #[.int .i64 0, .int .i64 0, .int .i64 (-1), .int .i64 k, .int .i64 (j + 1), .int .i64 0, .int .i64 k, .int .i64 (j + 1), .int .i64 0, .int .i64 (j + 1), .int .i64 (t + a), .int .i64 (r + b), .int .i64 (tt + a * a), .int .i64 (tr + a * b), .int .i64 (rr + b * b)], .int .i64 0]), (97, .agg #[.int .i64 0, .int .i64 0, .int .i64 (-1), .int .i64 k, .int .i64 (j + 1), .int .i64 0, .int .i64 k, .int .i64 (j + 1), .int .i64 0, .int .i64 (j + 1), .int .i64 (t + a), .int .i64 (r + b), .int .i64 (tt + a * a), .int .i64 (tr + a * b), .int .i64 (rr + b * b)]), (98, .int .i64 0)]) (fun s_ w' => (w'.cell? ⟨g, 0, none⟩ = some (.int .i64 0) ∧ w'.cell? ⟨g, 1, none⟩ = some (.int .i64 0) ∧ w'.cell? ⟨g, 2, none⟩ = some (.int .i64 (-1)) ∧ w'.cell? ⟨g, 3, none⟩ = some (.int .i64 k) ∧ w'.cell? ⟨g, 4, none⟩ = some (.int .i64 j) ∧ w'.cell? ⟨g, 5, none⟩ = some (.int .i64 0) ∧ w'.cell? ⟨g, 6, none⟩ = some (.int .i64 k) ∧ w'.cell? ⟨g, 7, none⟩ = some (.int .i64 j) ∧ w'.cell? ⟨g, 8, none⟩ = some (.int .i64 0) ∧ w'.cell? ⟨g, 9, none⟩ = some (.int .i64 j) ∧ w'.cell? ⟨g, 10, none⟩ = some (.int .i64 t) ∧ w'.cell? ⟨g, 11, none⟩ = some (.int .i64 r) ∧ w'.cell? ⟨g, 12, none⟩ = some (.int .i64 tt) ∧ w'.cell? ⟨g, 13, none⟩ = some (.int .i64 tr) ∧ w'.cell? ⟨g, 14, none⟩ = some (.int .i64 rr) ∧ w'.cell? (ad.add (j * 2)) = some (.int .i64 a) ∧ w'.cell? ⟨(ad.add (j * 2)).block, (ad.add (j * 2)).off + 1, none⟩ = some (.int .i64 b)) ∧ MBlk w' w.heap.size #[.int .i64 0, .int .i64 0, .int .i64 0, .int .i64 0, .int .i64 0, .int .i64 0, .int .i64 0, .int .i64 0, .int .i64 0, .int .i64 0, .int .i64 0, .int .i64 0, .int .i64 0, .int .i64 0, .int .i64 0] ∧ MBlk w' g #[.int .i64 0, .int .i64 0, .int .i64 (-1), .int .i64 k, .int .i64 j, .int .i64 0, .int .i64 k, .int .i64 j, .int .i64 0, .int .i64 j, .int .i64 t, .int .i64 r, .int .i64 tt, .int .i64 tr, .int .i64 rr] ∧ MBlk w' s_ #[.int .i64 0, .int .i64 0, .int .i64 0, .int .i64 0, .int .i64 0, .int .i64 0, .int .i64 0, .int .i64 0, .int .i64 0, .int .i64 0, .int .i64 0, .int .i64 0, .int .i64 0, .int .i64 0, .int .i64 0] ∧ (w.heap.size < s_) ∧ (g < s_) ∧ Below w.heap.size w w') ?_ ?_
  rotate_left
  · intro hCont
    refine two_ (i := 17) (j := 21) (Ni := some 96) (Nj := some 10) #[true, true, true, true, true, true, true, true, true, true, true, true, true, true, true, true, true, true, false, false, false, false, false, false] #[true, true, true, true, true, true, true, true, true, true, true, true, true, true, true, true, true, false, false, false, false, true, false, false] rfl rfl rfl rfl (two_of HT_.out (by kernel_rfl)) (by decide) (by decide) (fun K hK => ?_) (fun K hK => ?_)
    · skip
      refine goes_ Try.func36 (by kernel_rfl) rfl #[.agg #[.int .i64 0, .int .i64 0, .int .i64 (-1), .int .i64 k, .int .i64 j, .int .i64 0, .int .i64 k, .int .i64 j, .int .i64 0, .int .i64 j, .int .i64 t, .int .i64 r, .int .i64 tt, .int .i64 tr, .int .i64 rr], .int .i64 1, .int .i64 a, .int .i64 (a + b)] (by rfl) rfl rfl (by (try simp only [List.map_toArray, List.map_cons, List.map_nil]); first | done | rfl) ?_
      refine (ack_one HO.out (by omega) a b (by omega) (by omega) (by omega) (by omega) _).mono ?_
      rintro e w2 ⟨rfl, hb⟩
      refine ⟨_, rfl, ?_⟩
      have HB2 := Lib.hid (below_step HBd.out hb)
      have HM2 := Lib.hid (HMd.out.on hb)
      have HZ2 := Lib.hid (HZd.out.on hb)
      clear hb
      refine hK.out _ _ (HKEY.out _ HB2.out HM2.out) (fun hHeld => ?_)
      clear hK K
      refine norm_ (a' := ?_) ?_ ?_
      rotate_left
      · show Act.put _ (some 96) _ = _
        simp only [Act.put, List.setIfInBounds_toArray, List.set_cons_zero, List.set_cons_succ, i64_w, i32_w]
        rfl
      refine pure_ (i := 18) (N := some 78) (v := ?_) (a' := ?_) #[true, true, true, true, true, true, true, true, true, true, true, true, true, true, true, true, true, true, true, false, false, false, false, false] rfl rfl (any_of HT_.out (by kernel_rfl)) (fun _ _ _ h => h) (Or.inl ⟨by rfl, ?_⟩) ?_ ?_
      rotate_left
      · intro w'
        go_simp
        with_reducible rfl
      rotate_left
      · simp only [Act.put, List.setIfInBounds_toArray, List.set_cons_zero, List.set_cons_succ, i64_w, i32_w]
        rfl
      refine pure_ (i := 19) (N := some 97) (v := ?_) (a' := ?_) #[true, true, true, true, true, true, true, true, true, true, true, true, true, true, true, true, true, true, true, true, false, false, false, false] rfl rfl (any_of HT_.out (by kernel_rfl)) (fun _ _ _ h => h) (Or.inl ⟨by rfl, ?_⟩) ?_ ?_
      rotate_left
      · intro w'
        go_simp
        with_reducible rfl
      rotate_left
      · simp only [Act.put, List.setIfInBounds_toArray, List.set_cons_zero, List.set_cons_succ, i64_w, i32_w]
        rfl
      refine pure_ (i := 20) (N := some 98) (v := ?_) (a' := ?_) #[true, true, true, true, true, true, true, true, true, true, true, true, true, true, true, true, true, true, true, true, true, false, false, false] rfl rfl (any_of HT_.out (by kernel_rfl)) (fun _ _ _ h => h) (Or.inl ⟨by rfl, ?_⟩) ?_ ?_
      rotate_left
      · intro w'
        go_simp
        with_reducible rfl
      rotate_left
      · simp only [Act.put, List.setIfInBounds_toArray, List.set_cons_zero, List.set_cons_succ, i64_w, i32_w]
        rfl
      refine one_ (i := 21) (N := some 10) #[true, true, true, true, true, true, true, true, true, true, true, true, true, true, true, true, true, true, true, true, true, true, false, false] rfl rfl (one_of HT_.out (by kernel_rfl)) (by decide) (fun K hK => ?_)
      refine box_step ?hg (N := 10) ?hd (cs := #[.int .i64 0, .int .i64 0, .int .i64 0, .int .i64 0, .int .i64 0, .int .i64 0, .int .i64 0, .int .i64 0, .int .i64 0, .int .i64 0, .int .i64 0, .int .i64 0, .int .i64 0, .int .i64 0, .int .i64 0]) (t := 29) ?hr ?_; (case hd => rfl); (case hg => rfl); (case hr => first | (go_simp; done) | (go_simp; rfl))
      intro gb hg' w3 hbox hb
      have HB3 := Lib.hid (below_step HB2.out hb)
      have HM3 := Lib.hid (HM2.out.on hb)
      have HZ3 := Lib.hid (HZ2.out.on hb)
      have hx1 : w.heap.size < gb := by rw [hg']; exact HZ2.out.lt
      have hx2 : g < gb := by rw [hg']; exact HM2.out.lt
      have HX := Lib.hid (MBlk.of hbox)
      clear hb hbox hg'
      refine hK.out _ _ (HKEY.out _ HB3.out HM3.out) (fun hHeld => ?_)
      clear hK K
      refine norm_ (a' := ?_) ?_ ?_
      rotate_left
      · show Act.put _ (some 10) _ = _
        simp only [Act.put, List.setIfInBounds_toArray, List.set_cons_zero, List.set_cons_succ, i64_w, i32_w]
        rfl
      exact norm_ (by simp only [putAll, Act.put, List.setIfInBounds_toArray, List.set_cons_zero, List.set_cons_succ]) (hCont gb _ ⟨hHeld, HZ3.out, HM3.out, HX.out, hx1, hx2, HB3.out⟩)
    · skip
      refine box_step ?hg (N := 10) ?hd (cs := #[.int .i64 0, .int .i64 0, .int .i64 0, .int .i64 0, .int .i64 0, .int .i64 0, .int .i64 0, .int .i64 0, .int .i64 0, .int .i64 0, .int .i64 0, .int .i64 0, .int .i64 0, .int .i64 0, .int .i64 0]) (t := 29) ?hr ?_; (case hd => rfl); (case hg => rfl); (case hr => first | (go_simp; done) | (go_simp; rfl))
      intro gb hg' w2 hbox hb
      have HB2 := Lib.hid (below_step HBd.out hb)
      have HM2 := Lib.hid (HMd.out.on hb)
      have HZ2 := Lib.hid (HZd.out.on hb)
      have hx1 : w.heap.size < gb := by rw [hg']; exact HZd.out.lt
      have hx2 : g < gb := by rw [hg']; exact HMd.out.lt
      have HX2 := Lib.hid (MBlk.of hbox)
      clear hb hbox hg'
      refine hK.out _ _ (HKEY.out _ HB2.out HM2.out) (fun hHeld => ?_)
      clear hK K
      refine norm_ (a' := ?_) ?_ ?_
      rotate_left
      · show Act.put _ (some 10) _ = _
        simp only [Act.put, List.setIfInBounds_toArray, List.set_cons_zero, List.set_cons_succ, i64_w, i32_w]
        rfl
      refine one_ (i := 17) (N := some 96) #[true, true, true, true, true, true, true, true, true, true, true, true, true, true, true, true, true, true, false, false, false, true, false, false] rfl rfl (one_of HT_.out (by kernel_rfl)) (by decide) (fun K hK => ?_)
      refine goes_ Try.func36 (by kernel_rfl) rfl #[.agg #[.int .i64 0, .int .i64 0, .int .i64 (-1), .int .i64 k, .int .i64 j, .int .i64 0, .int .i64 k, .int .i64 j, .int .i64 0, .int .i64 j, .int .i64 t, .int .i64 r, .int .i64 tt, .int .i64 tr, .int .i64 rr], .int .i64 1, .int .i64 a, .int .i64 (a + b)] (by rfl) rfl rfl (by (try simp only [List.map_toArray, List.map_cons, List.map_nil]); first | done | rfl) ?_
      refine (ack_one HO.out (by omega) a b (by omega) (by omega) (by omega) (by omega) _).mono ?_
      rintro e w3 ⟨rfl, hb⟩
      refine ⟨_, rfl, ?_⟩
      have HB3 := Lib.hid (below_step HB2.out hb)
      have HM3 := Lib.hid (HM2.out.on hb)
      have HZ3 := Lib.hid (HZ2.out.on hb)
      have HX := Lib.hid (HX2.out.on hb)
      clear hb
      refine hK.out _ _ (HKEY.out _ HB3.out HM3.out) (fun hHeld => ?_)
      clear hK K
      refine norm_ (a' := ?_) ?_ ?_
      rotate_left
      · show Act.put _ (some 96) _ = _
        simp only [Act.put, List.setIfInBounds_toArray, List.set_cons_zero, List.set_cons_succ, i64_w, i32_w]
        rfl
      refine pure_ (i := 18) (N := some 78) (v := ?_) (a' := ?_) #[true, true, true, true, true, true, true, true, true, true, true, true, true, true, true, true, true, true, true, false, false, true, false, false] rfl rfl (any_of HT_.out (by kernel_rfl)) (fun _ _ _ h => h) (Or.inl ⟨by rfl, ?_⟩) ?_ ?_
      rotate_left
      · intro w'
        go_simp
        with_reducible rfl
      rotate_left
      · simp only [Act.put, List.setIfInBounds_toArray, List.set_cons_zero, List.set_cons_succ, i64_w, i32_w]
        rfl
      refine pure_ (i := 19) (N := some 97) (v := ?_) (a' := ?_) #[true, true, true, true, true, true, true, true, true, true, true, true, true, true, true, true, true, true, true, true, false, true, false, false] rfl rfl (any_of HT_.out (by kernel_rfl)) (fun _ _ _ h => h) (Or.inl ⟨by rfl, ?_⟩) ?_ ?_
      rotate_left
      · intro w'
        go_simp
        with_reducible rfl
      rotate_left
      · simp only [Act.put, List.setIfInBounds_toArray, List.set_cons_zero, List.set_cons_succ, i64_w, i32_w]
        rfl
      refine pure_ (i := 20) (N := some 98) (v := ?_) (a' := ?_) #[true, true, true, true, true, true, true, true, true, true, true, true, true, true, true, true, true, true, true, true, true, true, false, false] rfl rfl (any_of HT_.out (by kernel_rfl)) (fun _ _ _ h => h) (Or.inl ⟨by rfl, ?_⟩) ?_ ?_
      rotate_left
      · intro w'
        go_simp
        with_reducible rfl
      rotate_left
      · simp only [Act.put, List.setIfInBounds_toArray, List.set_cons_zero, List.set_cons_succ, i64_w, i32_w]
        rfl
      exact norm_ (by simp only [putAll, Act.put, List.setIfInBounds_toArray, List.set_cons_zero, List.set_cons_succ]) (hCont gb _ ⟨hHeld, HZ3.out, HM3.out, HX.out, hx1, hx2, HB3.out⟩)
  rintro gb w4 ⟨hHeld, hz4, hm4, hx4, hx1, hx2, hb4⟩
  have HZ4 := Lib.hid hz4
  have HM4 := Lib.hid hm4
  have HX4 := Lib.hid hx4
  have HB4 := Lib.hid hb4
  clear hz4 hm4 hb4
  refine norm_ (a' := ?_) ?_ ?_
  rotate_left
  · simp only [putAll, Act.put, List.setIfInBounds_toArray, List.set_cons_zero, List.set_cons_succ]
    rfl
  refine one_ (i := 22) (N := none) #[true, true, true, true, true, true, true, true, true, true, true, true, true, true, true, true, true, true, true, true, true, true, true, false] rfl rfl (one_of HT_.out (by kernel_rfl)) (by decide) (fun K hK => ?_)
  have hx4c0 := hx4.cell 0
  have hx4f0 := hx4.frozen 0
  have hx4c1 := hx4.cell 1
  have hx4f1 := hx4.frozen 1
  have hx4c2 := hx4.cell 2
  have hx4f2 := hx4.frozen 2
  have hx4c3 := hx4.cell 3
  have hx4f3 := hx4.frozen 3
  have hx4c4 := hx4.cell 4
  have hx4f4 := hx4.frozen 4
  have hx4c5 := hx4.cell 5
  have hx4f5 := hx4.frozen 5
  have hx4c6 := hx4.cell 6
  have hx4f6 := hx4.frozen 6
  have hx4c7 := hx4.cell 7
  have hx4f7 := hx4.frozen 7
  have hx4c8 := hx4.cell 8
  have hx4f8 := hx4.frozen 8
  have hx4c9 := hx4.cell 9
  have hx4f9 := hx4.frozen 9
  have hx4c10 := hx4.cell 10
  have hx4f10 := hx4.frozen 10
  have hx4c11 := hx4.cell 11
  have hx4f11 := hx4.frozen 11
  have hx4c12 := hx4.cell 12
  have hx4f12 := hx4.frozen 12
  have hx4c13 := hx4.cell 13
  have hx4f13 := hx4.frozen 13
  have hx4c14 := hx4.cell 14
  have hx4f14 := hx4.frozen 14
  simp at hx4c0 hx4c1 hx4c2 hx4c3 hx4c4 hx4c5 hx4c6 hx4c7 hx4c8 hx4c9 hx4c10 hx4c11 hx4c12 hx4c13 hx4c14
  refine skip_ (w1 := ?_) (by rfl) rfl ?_ ?_
  rotate_left
  · go_simp
    rfl
  clear hx4c0 hx4f0 hx4c1 hx4f1 hx4c2 hx4f2 hx4c3 hx4f3 hx4c4 hx4f4 hx4c5 hx4f5 hx4c6 hx4f6 hx4c7 hx4f7 hx4c8 hx4f8 hx4c9 hx4f9 hx4c10 hx4f10 hx4c11 hx4f11 hx4c12 hx4f12 hx4c13 hx4f13 hx4c14 hx4f14 hx4
  have HZ5 := Lib.hid (MBlk.fill_far HZ4.out (show w.heap.size ≠ gb by omega) (.int .i64 0) (.int .i64 0) (.int .i64 (-1)) (.int .i64 k) (.int .i64 (j + 1)) (.int .i64 0) (.int .i64 k) (.int .i64 (j + 1)) (.int .i64 0) (.int .i64 (j + 1)) (.int .i64 (t + a)) (.int .i64 (r + b)) (.int .i64 (tt + a * a)) (.int .i64 (tr + a * b)) (.int .i64 (rr + b * b)))
  have HM5 := Lib.hid (MBlk.fill_far HM4.out (show g ≠ gb by omega) (.int .i64 0) (.int .i64 0) (.int .i64 (-1)) (.int .i64 k) (.int .i64 (j + 1)) (.int .i64 0) (.int .i64 k) (.int .i64 (j + 1)) (.int .i64 0) (.int .i64 (j + 1)) (.int .i64 (t + a)) (.int .i64 (r + b)) (.int .i64 (tt + a * a)) (.int .i64 (tr + a * b)) (.int .i64 (rr + b * b)))
  have HX5 := Lib.hid (MBlk.fill HX4.out (.int .i64 0) (.int .i64 0) (.int .i64 (-1)) (.int .i64 k) (.int .i64 (j + 1)) (.int .i64 0) (.int .i64 k) (.int .i64 (j + 1)) (.int .i64 0) (.int .i64 (j + 1)) (.int .i64 (t + a)) (.int .i64 (r + b)) (.int .i64 (tt + a * a)) (.int .i64 (tr + a * b)) (.int .i64 (rr + b * b)))
  have HB5 := Lib.hid (below_fill HB4.out (show w.heap.size ≤ gb by omega) (.int .i64 0) (.int .i64 0) (.int .i64 (-1)) (.int .i64 k) (.int .i64 (j + 1)) (.int .i64 0) (.int .i64 k) (.int .i64 (j + 1)) (.int .i64 0) (.int .i64 (j + 1)) (.int .i64 (t + a)) (.int .i64 (r + b)) (.int .i64 (tt + a * a)) (.int .i64 (tr + a * b)) (.int .i64 (rr + b * b)))
  refine hK.out _ _ (HKEY.out _ HB5.out HM5.out) (fun hHeld => ?_)
  clear hK K
  refine pure_ (i := 23) (N := some 11) (v := ?_) (a' := ?_) #[true, true, true, true, true, true, true, true, true, true, true, true, true, true, true, true, true, true, true, true, true, true, true, true] rfl rfl (any_of HT_.out (by kernel_rfl)) (fun _ _ _ h => h) (Or.inl ⟨by rfl, ?_⟩) ?_ ?_
  rotate_left
  · intro w'
    go_simp
    with_reducible rfl
  rotate_left
  · simp only [Act.put, List.setIfInBounds_toArray, List.set_cons_zero, List.set_cons_succ, i64_w, i32_w]
    rfl
  refine done_ (done_of HT_.out (by kernel_rfl)) ?_
  have hn1 : gb ≠ g := by omega
  have hn2 : g ≠ gb := by omega
  have hxx := HX4.out
  have hmm := HM4.out
  have hxxc0 := hxx.cell 0
  have hxxf0 := hxx.frozen 0
  have hxxc1 := hxx.cell 1
  have hxxf1 := hxx.frozen 1
  have hxxc2 := hxx.cell 2
  have hxxf2 := hxx.frozen 2
  have hxxc3 := hxx.cell 3
  have hxxf3 := hxx.frozen 3
  have hxxc4 := hxx.cell 4
  have hxxf4 := hxx.frozen 4
  have hxxc5 := hxx.cell 5
  have hxxf5 := hxx.frozen 5
  have hxxc6 := hxx.cell 6
  have hxxf6 := hxx.frozen 6
  have hxxc7 := hxx.cell 7
  have hxxf7 := hxx.frozen 7
  have hxxc8 := hxx.cell 8
  have hxxf8 := hxx.frozen 8
  have hxxc9 := hxx.cell 9
  have hxxf9 := hxx.frozen 9
  have hxxc10 := hxx.cell 10
  have hxxf10 := hxx.frozen 10
  have hxxc11 := hxx.cell 11
  have hxxf11 := hxx.frozen 11
  have hxxc12 := hxx.cell 12
  have hxxf12 := hxx.frozen 12
  have hxxc13 := hxx.cell 13
  have hxxf13 := hxx.frozen 13
  have hxxc14 := hxx.cell 14
  have hxxf14 := hxx.frozen 14
  simp at hxxc0 hxxc1 hxxc2 hxxc3 hxxc4 hxxc5 hxxc6 hxxc7 hxxc8 hxxc9 hxxc10 hxxc11 hxxc12 hxxc13 hxxc14
  have hmmc0 := hmm.cell 0
  have hmmf0 := hmm.frozen 0
  have hmmc1 := hmm.cell 1
  have hmmf1 := hmm.frozen 1
  have hmmc2 := hmm.cell 2
  have hmmf2 := hmm.frozen 2
  have hmmc3 := hmm.cell 3
  have hmmf3 := hmm.frozen 3
  have hmmc4 := hmm.cell 4
  have hmmf4 := hmm.frozen 4
  have hmmc5 := hmm.cell 5
  have hmmf5 := hmm.frozen 5
  have hmmc6 := hmm.cell 6
  have hmmf6 := hmm.frozen 6
  have hmmc7 := hmm.cell 7
  have hmmf7 := hmm.frozen 7
  have hmmc8 := hmm.cell 8
  have hmmf8 := hmm.frozen 8
  have hmmc9 := hmm.cell 9
  have hmmf9 := hmm.frozen 9
  have hmmc10 := hmm.cell 10
  have hmmf10 := hmm.frozen 10
  have hmmc11 := hmm.cell 11
  have hmmf11 := hmm.frozen 11
  have hmmc12 := hmm.cell 12
  have hmmf12 := hmm.frozen 12
  have hmmc13 := hmm.cell 13
  have hmmf13 := hmm.frozen 13
  have hmmc14 := hmm.cell 14
  have hmmf14 := hmm.frozen 14
  simp at hmmc0 hmmc1 hmmc2 hmmc3 hmmc4 hmmc5 hmmc6 hmmc7 hmmc8 hmmc9 hmmc10 hmmc11 hmmc12 hmmc13 hmmc14
  clear hHeld hxx hmm
  go_wp2_with fail
  go_roundw
  case rel =>
    refine ⟨j + 1, t + a, r + b, tt + a * a, tr + a * b, rr + b * b, by omega, rfl, by go_num, ?_, ?_, ?_, HN.out⟩
    · exact below_fill HB5.out (by omega) _ _ _ _ _ _ _ _ _ _ _ _ _ _ _
    · exact MBlk.fill_far HZ5.out (by omega) _ _ _ _ _ _ _ _ _ _ _ _ _ _ _
    · rw [show ((j + 1 : Nat) : Int) = (j : Int) + 1 by omega]
      exact MBlk.fill HM5.out _ _ _ _ _ _ _ _ _ _ _ _ _ _ _
  case measure => simp [intOf]; omega
end Go.Proofs.Ytlokmliannklaaa.Print
end
