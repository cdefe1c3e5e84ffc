/- account.Ack, at an account of samples that is being made; law10.sampled: the plain part; law10.sampled, of more than 100 samples: it tells none. -/
import Derived.Test.YtlokmliannklaaaQPrint4
import Derived.Test.YtlokmliannklaaaQMi
import Derived.RegionTactic
import Derived.ChangeAlike
import Derived.WalkMore
import Derived.Deep.Cut
import Derived.Outline
section
namespace Go.Proofs.Ytlokmliannklaaa.Print
open Go.RowKit Go.Proofs.YtlokmliannklaaaW.PrintWords Go.Proofs.YtlokmliannklaaaW.PrintMore
set_option linter.unusedVariables false
set_option linter.unusedSimpArgs false

set_option maxHeartbeats 8000000 in
set_option maxRecDepth 100000 in
theorem told_one {n h t r tt tr rr : Int} (o : MiOK n h t r tt tr rr) (w : World) :
    Calls Try.prog 50 #[.agg #[.int .i64 0, .int .i64 0, .int .i64 (-1), .int .i64 n, .int .i64 h, .int .i64 0, .int .i64 n, .int .i64 h, .int .i64 0, .int .i64 h, .int .i64 t, .int .i64 r, .int .i64 tt, .int .i64 tr, .int .i64 rr]] w fun e w' => e = .returned (.tuple #[.agg #[.int .i64 0, .int .i64 0, .int .i64 (-1), .int .i64 n, .int .i64 h, .int .i64 0, .int .i64 n, .int .i64 h, .int .i64 0, .int .i64 h, .int .i64 t, .int .i64 r, .int .i64 tt, .int .i64 tr, .int .i64 rr], .int .i64 0]) ∧ Below w.heap.size w w' := by
  have o := Lib.hid o
  go_enter Try.func50, Try.ntmps50
  go_wp2_with fail
  refine (o.out.calls _).mono ?_
  rintro e w1 ⟨rfl, hb1⟩
  have b0 := ((MBlk.new w #[.int .i64 0, .int .i64 0, .int .i64 (-1), .int .i64 n, .int .i64 h, .int .i64 0, .int .i64 n, .int .i64 h, .int .i64 0, .int .i64 h, .int .i64 t, .int .i64 r, .int .i64 tt, .int .i64 tr, .int .i64 rr]).alloc (.cells #[.int .i64 0, .int .i64 0, .int .i64 0, .int .i64 0, .int .i64 0, .int .i64 0, .int .i64 0, .int .i64 0, .int .i64 0, .int .i64 0, .int .i64 0, .int .i64 0, .int .i64 0, .int .i64 0, .int .i64 0] 29)).on hb1
  have b1 := MBlk.on (show MBlk _ (w.heap.size + 1) #[.int .i64 0, .int .i64 0, .int .i64 0, .int .i64 0, .int .i64 0, .int .i64 0, .int .i64 0, .int .i64 0, .int .i64 0, .int .i64 0, .int .i64 0, .int .i64 0, .int .i64 0, .int .i64 0, .int .i64 0] by have := MBlk.new (w.alloc (.cells #[.int .i64 0, .int .i64 0, .int .i64 (-1), .int .i64 n, .int .i64 h, .int .i64 0, .int .i64 n, .int .i64 h, .int .i64 0, .int .i64 h, .int .i64 t, .int .i64 r, .int .i64 tt, .int .i64 tr, .int .i64 rr] 29)) #[.int .i64 0, .int .i64 0, .int .i64 0, .int .i64 0, .int .i64 0, .int .i64 0, .int .i64 0, .int .i64 0, .int .i64 0, .int .i64 0, .int .i64 0, .int .i64 0, .int .i64 0, .int .i64 0, .int .i64 0]; simpa using this) hb1
  have HB := Lib.hid (below_step (below_alloc (below_alloc (Below.refl w.heap.size w) _) _) hb1)
  clear hb1
  have b0c0 := b0.cell 0
  have b0f0 := b0.frozen 0
  have b0c1 := b0.cell 1
  have b0f1 := b0.frozen 1
  have b0c2 := b0.cell 2
  have b0f2 := b0.frozen 2
  have b0c3 := b0.cell 3
  have b0f3 := b0.frozen 3
  have b0c4 := b0.cell 4
  have b0f4 := b0.frozen 4
  have b0c5 := b0.cell 5
  have b0f5 := b0.frozen 5
  have b0c6 := b0.cell 6
  have b0f6 := b0.frozen 6
  have b0c7 := b0.cell 7
  have b0f7 := b0.frozen 7
  have b0c8 := b0.cell 8
  have b0f8 := b0.frozen 8
  have b0c9 := b0.cell 9
  have b0f9 := b0.frozen 9
  have b0c10 := b0.cell 10
  have b0f10 := b0.frozen 10
  have b0c11 := b0.cell 11
  have b0f11 := b0.frozen 11
  have b0c12 := b0.cell 12
  have b0f12 := b0.frozen 12
  have b0c13 := b0.cell 13
  have b0f13 := b0.frozen 13
  have b0c14 := b0.cell 14
  have b0f14 := b0.frozen 14
  simp at b0c0 b0c1 b0c2 b0c3 b0c4 b0c5 b0c6 b0c7 b0c8 b0c9 b0c10 b0c11 b0c12 b0c13 b0c14
  have b1c0 := b1.cell 0
  have b1f0 := b1.frozen 0
  have b1c1 := b1.cell 1
  have b1f1 := b1.frozen 1
  have b1c2 := b1.cell 2
  have b1f2 := b1.frozen 2
  have b1c3 := b1.cell 3
  have b1f3 := b1.frozen 3
  have b1c4 := b1.cell 4
  have b1f4 := b1.frozen 4
  have b1c5 := b1.cell 5
  have b1f5 := b1.frozen 5
  have b1c6 := b1.cell 6
  have b1f6 := b1.frozen 6
  have b1c7 := b1.cell 7
  have b1f7 := b1.frozen 7
  have b1c8 := b1.cell 8
  have b1f8 := b1.frozen 8
  have b1c9 := b1.cell 9
  have b1f9 := b1.frozen 9
  have b1c10 := b1.cell 10
  have b1f10 := b1.frozen 10
  have b1c11 := b1.cell 11
  have b1f11 := b1.frozen 11
  have b1c12 := b1.cell 12
  have b1f12 := b1.frozen 12
  have b1c13 := b1.cell 13
  have b1f13 := b1.frozen 13
  have b1c14 := b1.cell 14
  have b1f14 := b1.frozen 14
  simp at b1c0 b1c1 b1c2 b1c3 b1c4 b1c5 b1c6 b1c7 b1c8 b1c9 b1c10 b1c11 b1c12 b1c13 b1c14
  go_wp2_with fail
  refine bodyPost_ret (results_ct rfl _ _ (w.heap.size + 1) 29 #[.int .i64 0, .int .i64 0, .int .i64 (-1), .int .i64 n, .int .i64 h, .int .i64 0, .int .i64 n, .int .i64 h, .int .i64 0, .int .i64 h, .int .i64 t, .int .i64 r, .int .i64 tt, .int .i64 tr, .int .i64 rr] (0, 0) _ rfl (MBlk.fill b1 _ _ _ _ _ _ _ _ _ _ _ _ _ _ _) Try.underlying29 rfl (by kernel_rfl)) rfl ?_
  exact ⟨rfl, below_set (below_set (below_set (below_set (below_set (below_set (below_set (below_set (below_set (below_set (below_set (below_set (below_set (below_set (below_set (HB.out) (by omega)) (by omega)) (by omega)) (by omega)) (by omega)) (by omega)) (by omega)) (by omega)) (by omega)) (by omega)) (by omega)) (by omega)) (by omega)) (by omega)) (by omega)⟩

theorem time_ok (x : Int) (h0 : 0 ≤ x) (h1 : x ≤ 200000000) (w : World) : Calls Try.prog 48 #[.int .i64 x] w fun e w' => e = .returned (.bool true) ∧ w = w' := by
  have d0 : (decide (x ≥ 0)) = true := by simp; omega
  have d1 : (decide (x ≤ 1099511627776)) = true := by simp; omega
  go_enter Try.func48, Try.ntmps48
  go_wp2
  go_ret
  exact ⟨rfl, rfl⟩
set_option maxHeartbeats 8000000 in
set_option maxRecDepth 100000 in
theorem ack_one {n h t r tt tr rr : Int} (o : MiOK n h t r tt tr rr) (hn : h < n) (a b : Int) (ha0 : 0 ≤ a) (ha : a ≤ 60000000) (hb0 : 0 ≤ b) (hb : b ≤ 60000000) (w : World) :
    Calls Try.prog 36 #[.agg #[.int .i64 0, .int .i64 0, .int .i64 (-1), .int .i64 n, .int .i64 h, .int .i64 0, .int .i64 n, .int .i64 h, .int .i64 0, .int .i64 h, .int .i64 t, .int .i64 r, .int .i64 tt, .int .i64 tr, .int .i64 rr], .int .i64 1, .int .i64 a, .int .i64 (a + b)] w fun e w' => e = .returned (.tuple #[.agg #[.int .i64 0, .int .i64 0, .int .i64 (-1), .int .i64 n, .int .i64 (h + 1), .int .i64 0, .int .i64 n, .int .i64 (h + 1), .int .i64 0, .int .i64 (h + 1), .int .i64 (t + a), .int .i64 (r + b), .int .i64 (tt + a * a), .int .i64 (tr + a * b), .int .i64 (rr + b * b)], .int .i64 0]) ∧ Below w.heap.size w w' := by
  have o := Lib.hid o
  go_enter Try.func36, Try.ntmps36
  go_wp2_with fail
  refine (o.out.calls _).mono ?_
  rintro e w1 ⟨rfl, hb1⟩
  have b0 := ((MBlk.new w #[.int .i64 0, .int .i64 0, .int .i64 (-1), .int .i64 n, .int .i64 h, .int .i64 0, .int .i64 n, .int .i64 h, .int .i64 0, .int .i64 h, .int .i64 t, .int .i64 r, .int .i64 tt, .int .i64 tr, .int .i64 rr]).alloc (.cells #[.int .i64 0, .int .i64 0, .int .i64 0, .int .i64 0, .int .i64 0, .int .i64 0, .int .i64 0, .int .i64 0, .int .i64 0, .int .i64 0, .int .i64 0, .int .i64 0, .int .i64 0, .int .i64 0, .int .i64 0] 29)).on hb1
  have b1 := MBlk.on (show MBlk _ (w.heap.size + 1) #[.int .i64 0, .int .i64 0, .int .i64 0, .int .i64 0, .int .i64 0, .int .i64 0, .int .i64 0, .int .i64 0, .int .i64 0, .int .i64 0, .int .i64 0, .int .i64 0, .int .i64 0, .int .i64 0, .int .i64 0] by have := MBlk.new (w.alloc (.cells #[.int .i64 0, .int .i64 0, .int .i64 (-1), .int .i64 n, .int .i64 h, .int .i64 0, .int .i64 n, .int .i64 h, .int .i64 0, .int .i64 h, .int .i64 t, .int .i64 r, .int .i64 tt, .int .i64 tr, .int .i64 rr] 29)) #[.int .i64 0, .int .i64 0, .int .i64 0, .int .i64 0, .int .i64 0, .int .i64 0, .int .i64 0, .int .i64 0, .int .i64 0, .int .i64 0, .int .i64 0, .int .i64 0, .int .i64 0, .int .i64 0, .int .i64 0]; simpa using this) hb1
  have HB := Lib.hid (below_step (below_alloc (below_alloc (Below.refl w.heap.size w) _) _) hb1)
  clear hb1
  go_wp2_with fail
  refine (size_one _).mono ?_
  rintro e w' ⟨rfl, rfl⟩
  have b0c0 := b0.cell 0
  have b0f0 := b0.frozen 0
  have b0c1 := b0.cell 1
  have b0f1 := b0.frozen 1
  have b0c2 := b0.cell 2
  have b0f2 := b0.frozen 2
  have b0c3 := b0.cell 3
  have b0f3 := b0.frozen 3
  have b0c4 := b0.cell 4
  have b0f4 := b0.frozen 4
  have b0c5 := b0.cell 5
  have b0f5 := b0.frozen 5
  have b0c6 := b0.cell 6
  have b0f6 := b0.frozen 6
  have b0c7 := b0.cell 7
  have b0f7 := b0.frozen 7
  have b0c8 := b0.cell 8
  have b0f8 := b0.frozen 8
  have b0c9 := b0.cell 9
  have b0f9 := b0.frozen 9
  have b0c10 := b0.cell 10
  have b0f10 := b0.frozen 10
  have b0c11 := b0.cell 11
  have b0f11 := b0.frozen 11
  have b0c12 := b0.cell 12
  have b0f12 := b0.frozen 12
  have b0c13 := b0.cell 13
  have b0f13 := b0.frozen 13
  have b0c14 := b0.cell 14
  have b0f14 := b0.frozen 14
  simp at b0c0 b0c1 b0c2 b0c3 b0c4 b0c5 b0c6 b0c7 b0c8 b0c9 b0c10 b0c11 b0c12 b0c13 b0c14
  have b1c0 := b1.cell 0
  have b1f0 := b1.frozen 0
  have b1c1 := b1.cell 1
  have b1f1 := b1.frozen 1
  have b1c2 := b1.cell 2
  have b1f2 := b1.frozen 2
  have b1c3 := b1.cell 3
  have b1f3 := b1.frozen 3
  have b1c4 := b1.cell 4
  have b1f4 := b1.frozen 4
  have b1c5 := b1.cell 5
  have b1f5 := b1.frozen 5
  have b1c6 := b1.cell 6
  have b1f6 := b1.frozen 6
  have b1c7 := b1.cell 7
  have b1f7 := b1.frozen 7
  have b1c8 := b1.cell 8
  have b1f8 := b1.frozen 8
  have b1c9 := b1.cell 9
  have b1f9 := b1.frozen 9
  have b1c10 := b1.cell 10
  have b1f10 := b1.frozen 10
  have b1c11 := b1.cell 11
  have b1f11 := b1.frozen 11
  have b1c12 := b1.cell 12
  have b1f12 := b1.frozen 12
  have b1c13 := b1.cell 13
  have b1f13 := b1.frozen 13
  have b1c14 := b1.cell 14
  have b1f14 := b1.frozen 14
  simp at b1c0 b1c1 b1c2 b1c3 b1c4 b1c5 b1c6 b1c7 b1c8 b1c9 b1c10 b1c11 b1c12 b1c13 b1c14
  have d1 : (decide (a + b < a)) = false := by simp; omega
  have d2 : (decide (h < 1024)) = true := by have := o.out.hn; have := o.out.n1; simp; omega
  have d3 : (decide (a ≥ 0)) = true := by simp; omega
  have e1 := o.out.h0
  have e2 := o.out.hn
  have e3 := o.out.n1
  have e4 := o.out.t0
  have e5 := o.out.t1
  have e6 := o.out.r0
  have e7 := o.out.r1
  have e8 := o.out.tt0
  have e9 := o.out.tt1
  have e10 := o.out.tr0
  have e11 := o.out.tr1
  have e12 := o.out.rr0
  have e13 := o.out.rr1
  have m1 : 0 ≤ a * a := Int.mul_nonneg ha0 ha0
  have m2 : 0 ≤ a * b := Int.mul_nonneg ha0 hb0
  have m3 : 0 ≤ b * b := Int.mul_nonneg hb0 hb0
  have m4 : a * a ≤ 60000000 * 60000000 := Int.mul_le_mul ha ha ha0 (by omega)
  have m5 : a * b ≤ 60000000 * 60000000 := Int.mul_le_mul ha hb hb0 (by omega)
  have m6 : b * b ≤ 60000000 * 60000000 := Int.mul_le_mul hb hb hb0 (by omega)
  go_wp2_with fail
  refine (time_ok a (by omega) (by omega) _).mono ?_
  rintro e w' ⟨rfl, rfl⟩
  go_wp2_with fail
  refine (time_ok (a + b) (by omega) (by omega) _).mono ?_
  rintro e w' ⟨rfl, rfl⟩
  go_wp2_with fail
  have q0 : a + b - a = b := by omega
  have q1 : wrap64 (tr + wrap64 (a * b)) = tr + a * b := by rw [wrap_id (x := a * b) (by omega) (by omega), wrap_id (by omega) (by omega)]
  have q2 : wrap64 (rr + wrap64 (b * b)) = rr + b * b := by rw [wrap_id (x := b * b) (by omega) (by omega), wrap_id (by omega) (by omega)]
  rw [q0, q1, q2]
  have o2 : MiOK n (h + 1) (t + a) (r + b) (tt + a * a) (tr + a * b) (rr + b * b) := ⟨by omega, by omega, by omega, by omega, by omega, by omega, by omega, by omega, by omega, by omega, by omega, by omega, by omega⟩
  clear b0c0 b0f0 b0c1 b0f1 b0c2 b0f2 b0c3 b0f3 b0c4 b0f4 b0c5 b0f5 b0c6 b0f6 b0c7 b0f7 b0c8 b0f8 b0c9 b0f9 b0c10 b0f10 b0c11 b0f11 b0c12 b0f12 b0c13 b0f13 b0c14 b0f14
  clear b1c0 b1f0 b1c1 b1f1 b1c2 b1f2 b1c3 b1f3 b1c4 b1f4 b1c5 b1f5 b1c6 b1f6 b1c7 b1f7 b1c8 b1f8 b1c9 b1f9 b1c10 b1f10 b1c11 b1f11 b1c12 b1f12 b1c13 b1f13 b1c14 b1f14
  refine (told_one o2 _).mono ?_
  rintro e w2 ⟨rfl, hb2⟩
  have b2 := MBlk.on ((((((((b1.far (by simp) _).far (by simp) _).far (by simp) _).far (by simp) _).far (by simp) _).far (by simp) _).far (by simp) _).far (by simp) _) hb2
  have HB2 := Lib.hid (below_step (below_set (below_set (below_set (below_set (below_set (below_set (below_set (below_set HB.out (by omega)) (by omega)) (by omega)) (by omega)) (by omega)) (by omega)) (by omega)) (by omega)) hb2)
  clear hb2
  have b2c0 := b2.cell 0
  have b2f0 := b2.frozen 0
  have b2c1 := b2.cell 1
  have b2f1 := b2.frozen 1
  have b2c2 := b2.cell 2
  have b2f2 := b2.frozen 2
  have b2c3 := b2.cell 3
  have b2f3 := b2.frozen 3
  have b2c4 := b2.cell 4
  have b2f4 := b2.frozen 4
  have b2c5 := b2.cell 5
  have b2f5 := b2.frozen 5
  have b2c6 := b2.cell 6
  have b2f6 := b2.frozen 6
  have b2c7 := b2.cell 7
  have b2f7 := b2.frozen 7
  have b2c8 := b2.cell 8
  have b2f8 := b2.frozen 8
  have b2c9 := b2.cell 9
  have b2f9 := b2.frozen 9
  have b2c10 := b2.cell 10
  have b2f10 := b2.frozen 10
  have b2c11 := b2.cell 11
  have b2f11 := b2.frozen 11
  have b2c12 := b2.cell 12
  have b2f12 := b2.frozen 12
  have b2c13 := b2.cell 13
  have b2f13 := b2.frozen 13
  have b2c14 := b2.cell 14
  have b2f14 := b2.frozen 14
  simp at b2c0 b2c1 b2c2 b2c3 b2c4 b2c5 b2c6 b2c7 b2c8 b2c9 b2c10 b2c11 b2c12 b2c13 b2c14
  go_wp2_with fail
  refine bodyPost_ret (results_ct rfl _ _ (w.heap.size + 1) 29 #[.int .i64 0, .int .i64 0, .int .i64 (-1), .int .i64 n, .int .i64 (h + 1), .int .i64 0, .int .i64 n, .int .i64 (h + 1), .int .i64 0, .int .i64 (h + 1), .int .i64 (t + a), .int .i64 (r + b), .int .i64 (tt + a * a), .int .i64 (tr + a * b), .int .i64 (rr + b * b)] (0, 0) _ rfl (MBlk.fill b2 _ _ _ _ _ _ _ _ _ _ _ _ _ _ _) Try.underlying29 rfl (by kernel_rfl)) rfl ?_
  exact ⟨rfl, below_set (below_set (below_set (below_set (below_set (below_set (below_set (below_set (below_set (below_set (below_set (below_set (below_set (below_set (below_set (HB2.out) (by omega)) (by omega)) (by omega)) (by omega)) (by omega)) (by omega)) (by omega)) (by omega)) (by omega)) (by omega)) (by omega)) (by omega)) (by omega)) (by omega)) (by omega)⟩
end Go.Proofs.Ytlokmliannklaaa.Print
end

section
namespace Go.Proofs.Ytlokmliannklaaa.Print
open Go.RowKit Go.Proofs.YtlokmliannklaaaW.PrintWords Go.Proofs.YtlokmliannklaaaW.PrintMore
set_option linter.unusedVariables false
set_option linter.unusedSimpArgs false
def sampleOk (x : S36) : Bool := decide (0 ≤ x.f0) && decide (x.f0 ≤ 60000000) && decide (0 ≤ x.f1) && decide (x.f1 ≤ 60000000)
def sumOf (g : S36 → Int) : List S36 → Int
  | [] => 0
  | x :: l => g x + sumOf g l
theorem sumOf_app (g : S36 → Int) (l : List S36) (x : S36) : sumOf g (l ++ [x]) = sumOf g l + g x := by
  induction l with
  | nil => simp [sumOf]
  | cons y l ih => simp only [List.cons_append, sumOf, ih]; omega
theorem take_one (l : List S36) (j : Nat) (h : j < l.length) : l.take (j + 1) = l.take j ++ [rd_T36 l j] := by
  rw [List.take_succ_eq_append_getElem h]
  simp [rd_T36, List.getD, List.getElem?_eq_getElem h]
structure SRun (l : List S36) (len j : Nat) (t r tt tr rr : Int) : Prop where
  ok : MiOK len j t r tt tr rr
  all : (l.take j).all sampleOk = true
  t : t = sumOf (·.f0) (l.take j)
  r : r = sumOf (·.f1) (l.take j)
  tt : tt = sumOf (fun x => x.f0 * x.f0) (l.take j)
  tr : tr = sumOf (fun x => x.f0 * x.f1) (l.take j)
  rr : rr = sumOf (fun x => x.f1 * x.f1) (l.take j)
theorem SRun.zero (l : List S36) (len : Nat) (h : len ≤ 100) : SRun l len 0 0 0 0 0 0 := ⟨⟨by omega, by omega, by omega, by omega, by omega, by omega, by omega, by omega, by omega, by omega, by omega, by omega, by omega⟩, by simp, by simp [sumOf], by simp [sumOf], by simp [sumOf], by simp [sumOf], by simp [sumOf]⟩
theorem SRun.step {l : List S36} {len j : Nat} {t r tt tr rr : Int} (s : SRun l len j t r tt tr rr) (hl : l.length = len) (hj : j < len) (a0 : 0 ≤ (rd_T36 l j).f0) (a1 : (rd_T36 l j).f0 ≤ 60000000) (b0 : 0 ≤ (rd_T36 l j).f1) (b1 : (rd_T36 l j).f1 ≤ 60000000) :
    SRun l len (j + 1) (t + (rd_T36 l j).f0) (r + (rd_T36 l j).f1) (tt + (rd_T36 l j).f0 * (rd_T36 l j).f0) (tr + (rd_T36 l j).f0 * (rd_T36 l j).f1) (rr + (rd_T36 l j).f1 * (rd_T36 l j).f1) := by
  obtain ⟨o, h1, h2, h3, h4, h5, h6⟩ := s
  obtain ⟨e1, e2, e3, e4, e5, e6, e7, e8, e9, e10, e11, e12, e13⟩ := o
  have tk := take_one l j (by omega)
  generalize rd_T36 l j = x at *
  have m1 : 0 ≤ x.f0 * x.f0 := Int.mul_nonneg a0 a0
  have m2 : 0 ≤ x.f0 * x.f1 := Int.mul_nonneg a0 b0
  have m3 : 0 ≤ x.f1 * x.f1 := Int.mul_nonneg b0 b0
  have m4 : x.f0 * x.f0 ≤ 60000000 * 60000000 := Int.mul_le_mul a1 a1 a0 (by omega)
  have m5 : x.f0 * x.f1 ≤ 60000000 * 60000000 := Int.mul_le_mul a1 b1 b0 (by omega)
  have m6 : x.f1 * x.f1 ≤ 60000000 * 60000000 := Int.mul_le_mul b1 b1 b0 (by omega)
  refine ⟨⟨by omega, by omega, by omega, by omega, by omega, by omega, by omega, by omega, by omega, by omega, by omega, by omega, by omega⟩, ?_, ?_, ?_, ?_, ?_, ?_⟩
  · rw [tk, List.all_append, h1]
    simp [sampleOk, a0, a1, b0, b1]
  · rw [tk, sumOf_app, h2]
  · rw [tk, sumOf_app, h3]
  · rw [tk, sumOf_app, h4]
  · rw [tk, sumOf_app, h5]
  · rw [tk, sumOf_app, h6]
theorem bad_all {l : List S36} {j : Nat} (hj : j < l.length) (hb : sampleOk (rd_T36 l j) = false) : l.all sampleOk = false := by
  rw [List.all_eq_false]
  exact ⟨rd_T36 l j, by simp [rd_T36, List.getD, List.getElem?_eq_getElem hj], by simp [hb]⟩
def sampledOf (l : List S36) : Value :=
  if l.all sampleOk = true then .tuple #[.agg #[.int .i64 0, .int .i64 0, .int .i64 (-1), .int .i64 l.length, .int .i64 l.length, .int .i64 0, .int .i64 l.length, .int .i64 l.length, .int .i64 0, .int .i64 l.length, .int .i64 (sumOf (·.f0) l), .int .i64 (sumOf (·.f1) l), .int .i64 (sumOf (fun x => x.f0 * x.f0) l), .int .i64 (sumOf (fun x => x.f0 * x.f1) l), .int .i64 (sumOf (fun x => x.f1 * x.f1) l)], .bool true]
  else .tuple #[.agg #[.int .i64 0, .int .i64 0, .int .i64 0, .int .i64 0, .int .i64 0, .int .i64 0, .int .i64 0, .int .i64 0, .int .i64 0, .int .i64 0, .int .i64 0, .int .i64 0, .int .i64 0, .int .i64 0, .int .i64 0], .bool false]
theorem sampledOf_bad {l : List S36} {j : Nat} (hj : j < l.length) (hb : sampleOk (rd_T36 l j) = false) : Value.tuple #[.agg #[.int .i64 0, .int .i64 0, .int .i64 0, .int .i64 0, .int .i64 0, .int .i64 0, .int .i64 0, .int .i64 0, .int .i64 0, .int .i64 0, .int .i64 0, .int .i64 0, .int .i64 0, .int .i64 0, .int .i64 0], .bool false] = sampledOf l := by
  rw [sampledOf, bad_all hj hb]; rfl
theorem SRun.done {l : List S36} {len : Nat} {t r tt tr rr : Int} (s : SRun l len len t r tt tr rr) (hl : l.length = len) : Value.tuple #[.agg #[.int .i64 0, .int .i64 0, .int .i64 (-1), .int .i64 len, .int .i64 len, .int .i64 0, .int .i64 len, .int .i64 len, .int .i64 0, .int .i64 len, .int .i64 t, .int .i64 r, .int .i64 tt, .int .i64 tr, .int .i64 rr], .bool true] = sampledOf l := by
  obtain ⟨o, h1, h2, h3, h4, h5, h6⟩ := s
  subst hl
  rw [List.take_length] at h1 h2 h3 h4 h5 h6
  rw [sampledOf, if_pos h1, h2, h3, h4, h5, h6]
end Go.Proofs.Ytlokmliannklaaa.Print
end

section
namespace Go.Proofs.Ytlokmliannklaaa.Print
open Go.RowKit Go.Proofs.YtlokmliannklaaaW.PrintWords Go.Proofs.YtlokmliannklaaaW.PrintMore
set_option linter.unusedVariables false
set_option linter.unusedSimpArgs false

set_option maxHeartbeats 8000000 in
set_option maxRecDepth 100000 in
theorem sampled_long (A0 : Option Addr) (c0 : Nat) (l0 : List S36) (w : World) (hl : 100 < l0.length) :
    Calls Try.prog 18 #[.slice A0 l0.length c0] w fun e w' => e = .returned (.tuple #[.agg #[.int .i64 0, .int .i64 0, .int .i64 0, .int .i64 0, .int .i64 0, .int .i64 0, .int .i64 0, .int .i64 0, .int .i64 0, .int .i64 0, .int .i64 0, .int .i64 0, .int .i64 0, .int .i64 0, .int .i64 0], .bool false]) ∧ Below w.heap.size w w' := by
  obtain ⟨len, hlen⟩ : ∃ len : Nat, l0.length = len := ⟨_, rfl⟩
  rw [hlen] at hl
  rw [hlen]
  clear hlen
  have d0 : (decide ((len : Int) > 100)) = true := by simp; omega
  go_enter Try.func18, Try.ntmps18
  go_wp2_with fail
  refine bodyPost_ret (results_ct rfl _ _ w.heap.size 29 #[.int .i64 0, .int .i64 0, .int .i64 0, .int .i64 0, .int .i64 0, .int .i64 0, .int .i64 0, .int .i64 0, .int .i64 0, .int .i64 0, .int .i64 0, .int .i64 0, .int .i64 0, .int .i64 0, .int .i64 0] (0, 0) _ rfl ?_ Try.underlying29 rfl (by kernel_rfl)) rfl ?_
  · exact MBlk.is (MBlk.new w #[.int .i64 0, .int .i64 0, .int .i64 0, .int .i64 0, .int .i64 0, .int .i64 0, .int .i64 0, .int .i64 0, .int .i64 0, .int .i64 0, .int .i64 0, .int .i64 0, .int .i64 0, .int .i64 0, .int .i64 0])
  · exact ⟨rfl, below_alloc (Below.refl w.heap.size w) _⟩
end Go.Proofs.Ytlokmliannklaaa.Print
end
