/- What mean, spread and grade tell of an account of samples, over whole numbers alone. -/
import Derived.Test.YtlokmliannklaaaQSkd
import Derived.Test.YtlokmliannklaaaQPrint4
section
namespace Go.Proofs.Ytlokmliannklaaa.Print
open Go.RowKit Go.Proofs.YtlokmliannklaaaW.PrintWords Go.Proofs.YtlokmliannklaaaW.PrintLast Go.Proofs.YtlokmliannklaaaW.PrintMore
set_option linter.unusedVariables false
set_option linter.unusedSimpArgs false

theorem sum_bound (g : S36 → Int) (B : Int) (l : List S36) (h : ∀ x ∈ l, 0 ≤ g x ∧ g x ≤ B) : 0 ≤ sumOf g l ∧ sumOf g l ≤ l.length * B := by
  induction l with
  | nil => simp [sumOf]
  | cons x l ih =>
    have h1 := h x (by simp)
    have h2 := ih (fun y hy => h y (by simp [hy]))
    have e : ((x :: l).length : Int) * B = l.length * B + B := by
      rw [List.length_cons, Int.natCast_add, Int.add_mul]
      simp
    rw [e]
    simp only [sumOf]
    omega
theorem ok_range {x : S36} (h : sampleOk x = true) : 0 ≤ x.f0 ∧ x.f0 ≤ 60000000 ∧ 0 ≤ x.f1 ∧ x.f1 ≤ 60000000 := by
  simp [sampleOk] at h
  omega
theorem prod_bound {a b : Int} (a0 : 0 ≤ a) (a1 : a ≤ 60000000) (b0 : 0 ≤ b) (b1 : b ≤ 60000000) : 0 ≤ a * b ∧ a * b ≤ 3600000000000000 := by
  have m1 : 0 ≤ a * b := Int.mul_nonneg a0 b0
  have m2 : a * b ≤ 60000000 * 60000000 := Int.mul_le_mul a1 b1 b0 (by omega)
  omega
/-- The five sums of a list. -/
def sT (l : List S36) : Int := sumOf (·.f0) l
def sR (l : List S36) : Int := sumOf (·.f1) l
def sTT (l : List S36) : Int := sumOf (fun x => x.f0 * x.f0) l
def sTR (l : List S36) : Int := sumOf (fun x => x.f0 * x.f1) l
def sRR (l : List S36) : Int := sumOf (fun x => x.f1 * x.f1) l
theorem mi_ok {l : List S36} (h : l.all sampleOk = true) (hl : l.length ≤ 100) : MiOK l.length l.length (sT l) (sR l) (sTT l) (sTR l) (sRR l) := by
  have hx : ∀ x ∈ l, sampleOk x = true := by simpa using h
  have b1 := sum_bound (·.f0) 60000000 l (fun x hy => by have := ok_range (hx x hy); omega)
  have b2 := sum_bound (·.f1) 60000000 l (fun x hy => by have := ok_range (hx x hy); omega)
  have b3 := sum_bound (fun x => x.f0 * x.f0) 3600000000000000 l (fun x hy => by have r := ok_range (hx x hy); exact prod_bound r.1 r.2.1 r.1 r.2.1)
  have b4 := sum_bound (fun x => x.f0 * x.f1) 3600000000000000 l (fun x hy => by have r := ok_range (hx x hy); exact prod_bound r.1 r.2.1 r.2.2.1 r.2.2.2)
  have b5 := sum_bound (fun x => x.f1 * x.f1) 3600000000000000 l (fun x hy => by have r := ok_range (hx x hy); exact prod_bound r.2.2.1 r.2.2.2 r.2.2.1 r.2.2.2)
  unfold sT sR sTT sTR sRR
  exact ⟨by omega, by omega, by omega, b1.1, b1.2, b2.1, b2.2, b3.1, b3.2, b4.1, b4.2, b5.1, b5.2⟩
theorem sampled_ok {l : List S36} (hl : l.length ≤ 100) (h : l.all sampleOk = true) : pacemakerlaw10_sampled.f l = some ((0 : Int), (0 : Int), (-1 : Int), (l.length : Int), (l.length : Int), (0 : Int), (l.length : Int), (l.length : Int), (0 : Int), (l.length : Int), sT l, sR l, sTT l, sTR l, sRR l, true) := by
  unfold pacemakerlaw10_sampled.f
  rw [if_pos hl, if_pos h]
  rfl
theorem sampled_no {l : List S36} (h : ¬ (l.length ≤ 100 ∧ l.all sampleOk = true)) : pacemakerlaw10_sampled.f l = some (0, 0, 0, 0, 0, 0, 0, 0, 0, 0, 0, 0, 0, 0, 0, false) := by
  unfold pacemakerlaw10_sampled.f
  by_cases h1 : l.length ≤ 100
  · rw [if_pos h1, if_neg (fun h2 => h ⟨h1, h2⟩)]
  · rw [if_neg h1]
theorem is_more {n h t r tt tr rr : Int} (o : MiOK n h t r tt tr rr) (k : Nat) : account_Is.f (k + 1) 0 0 (-1) n h 0 n h 0 h t r tt tr rr = some true := by
  induction k with
  | zero => exact o.is
  | succ k ih => exact account_Is.mono _ _ _ _ _ _ _ _ _ _ _ _ _ _ _ _ _ ih
theorem told_more {n h t r tt tr rr : Int} (o : MiOK n h t r tt tr rr) (h1 : 1 ≤ h) (k : Nat) : slope_told.f (k + 1) 0 0 (-1) n h 0 n h 0 h t r tt tr rr = some true := by
  unfold slope_told.f
  rw [is_more o k]
  simp only [Option.bind_some, if_true]
  rw [decide_eq_true (by omega)]
theorem uOf_id {x : Int} (h0 : 0 ≤ x) (h1 : x < 18446744073709551616) : uOf x = x := by
  have : uOf x = x % 18446744073709551616 := by simp [uOf, IntKind.wrap, IntKind.bits, IntKind.signed]
  rw [this]
  omega
theorem u64_id {x : Int} (h0 : 0 ≤ x) (h1 : x < 18446744073709551616) : IntKind.u64.wrap x = x := uOf_id h0 h1
theorem wide_low (x : Int) : wideOf 0 x = x := by unfold wideOf; omega
theorem ratio_low {a b : Int} (ha : 0 ≤ a) (ha1 : a < 18446744073709551616) (hb : 0 ≤ b) (hb1 : b < 18446744073709551616) : slope_Ratio.f 0 a 0 b = some (ratioOf a b) := by
  unfold slope_Ratio.f
  rw [if_pos (by simp [isU64, ha, ha1, hb, hb1]), wide_low, wide_low]
def devOf (n r rr : Int) : Int := if n * rr < r * r then 0 else ratioOf (rootOf (n * rr - r * r)) n
def gradeOf (n t r tt tr : Int) : Int := if n * tt ≤ t * t then 0 else if n * tr < t * r then -(ratioOf (t * r - n * tr) (n * tt - t * t)) else ratioOf (n * tr - t * r) (n * tt - t * t)
theorem mean_of {n h t r tt tr rr : Int} (o : MiOK n h t r tt tr rr) (h1 : 1 ≤ h) (k : Nat) : slope_Mean.f (k + 1) 0 0 (-1) n h 0 n h 0 h t r tt tr rr = some (ratioOf r h) := by
  have b1 := o.hn; have b2 := o.n1; have b3 := o.r0; have b4 := o.r1
  unfold slope_Mean.f slope_low.f
  rw [told_more o h1 k]
  simp only [Option.bind_some, if_true]
  rw [u64_id (by omega) (by omega), u64_id (by omega) (by omega), ratio_low b3 (by omega) (by omega) (by omega)]
  rfl
theorem apart_split {a b c d : Int} (h : 0 ≤ apartOf (a * b) (c * d)) : wideOf (apartOf (a * b) (c * d) / 18446744073709551616) (apartOf (a * b) (c * d) % 18446744073709551616) = apartOf (a * b) (c * d) := by
  unfold wideOf; omega
theorem apart_pos (p q : Int) : 0 ≤ apartOf p q := by unfold apartOf; split <;> omega
theorem apart_eq {a b c d : Int} (ha : 0 ≤ a ∧ a < 18446744073709551616) (hb : 0 ≤ b ∧ b < 18446744073709551616) (hc : 0 ≤ c ∧ c < 18446744073709551616) (hd : 0 ≤ d ∧ d < 18446744073709551616) :
    ∃ h l, slope_apart.f a b c d = some (h, l, decide (a * b < c * d)) ∧ wideOf h l = apartOf (a * b) (c * d) ∧ isU64 h = true ∧ isU64 l = true := by
  unfold slope_apart.f
  rw [uOf_id ha.1 ha.2, uOf_id hb.1 hb.2, uOf_id hc.1 hc.2, uOf_id hd.1 hd.2]
  refine ⟨_, _, rfl, apart_split (apart_pos _ _), ?_, isU64_mk (by omega) (by omega)⟩
  have m1 : a * b ≤ 18446744073709551615 * 18446744073709551615 := Int.mul_le_mul (by omega) (by omega) hb.1 (by omega)
  have m2 : c * d ≤ 18446744073709551615 * 18446744073709551615 := Int.mul_le_mul (by omega) (by omega) hd.1 (by omega)
  have m3 : 0 ≤ a * b := Int.mul_nonneg ha.1 hb.1
  have m4 : 0 ≤ c * d := Int.mul_nonneg hc.1 hd.1
  unfold apartOf
  generalize a * b = p at *
  generalize c * d = q at *
  split <;> exact isU64_mk (by omega) (by omega)
theorem rootFrom_le (n a s : Nat) (h : s * s ≤ a) : rootFrom n a s * rootFrom n a s ≤ a := by
  induction n generalizing s with
  | zero => exact h
  | succ n ih =>
    unfold rootFrom
    split
    · rename_i h2
      exact ih _ h2
    · exact ih _ h
theorem root_is (a : Int) : ∃ s : Nat, rootOf a = (s : Int) ∧ s * s ≤ a.toNat := by
  have h : ∀ n : Nat, rootFrom n a.toNat 0 * rootFrom n a.toNat 0 ≤ a.toNat := fun n => rootFrom_le n _ 0 (by omega)
  refine ⟨rootFrom 64 a.toNat 0, ?_, h 64⟩
  rw [rootOf]
theorem root_sq {a : Int} (h : 0 ≤ a) : 0 ≤ rootOf a ∧ rootOf a * rootOf a ≤ a := by
  obtain ⟨s, e, hs⟩ := root_is a
  rw [e]
  refine ⟨by omega, ?_⟩
  have e2 : ((s * s : Nat) : Int) ≤ (a.toNat : Int) := Int.ofNat_le.2 hs
  rw [Int.natCast_mul] at e2
  omega
theorem root_lt {a : Int} (h : 0 ≤ a) (h2 : a < 340282366920938463463374607431768211456) : rootOf a < 18446744073709551616 := by
  obtain ⟨r0, r1⟩ := root_sq h
  rcases Int.lt_or_le (rootOf a) 18446744073709551616 with c | c
  · exact c
  · have := Int.mul_le_mul c c (by omega) r0
    omega
theorem dev_else {n h t r tt tr rr hi lo q : Int} (o : MiOK n h t r tt tr rr) (h1 : 1 ≤ h) (k : Nat) (e : slope_apart.f h rr r r = some (hi, lo, false)) (hs : root_SqrtWide.f hi lo = some q) (q0 : 0 ≤ q) (q1 : q < 18446744073709551616) :
    slope_Dev.f (k + 1) 0 0 (-1) n h 0 n h 0 h t r tt tr rr = some (ratioOf q h) := by
  have b1 := o.hn; have b2 := o.n1
  unfold slope_Dev.f slope_low.f
  rw [told_more o h1 k]
  simp only [Option.bind_some, if_true]
  rw [e]
  simp only [Option.bind_some]
  rw [if_neg (by decide), hs]
  simp only [Option.bind_some]
  rw [u64_id (x := h) (by omega) (by omega), ratio_low q0 q1 (by omega) (by omega)]
  simp only [Option.bind_some]
theorem dev_then {n h t r tt tr rr hi lo : Int} (o : MiOK n h t r tt tr rr) (h1 : 1 ≤ h) (k : Nat) (e : slope_apart.f h rr r r = some (hi, lo, true)) :
    slope_Dev.f (k + 1) 0 0 (-1) n h 0 n h 0 h t r tt tr rr = some 0 := by
  unfold slope_Dev.f slope_low.f
  rw [told_more o h1 k]
  simp only [Option.bind_some, if_true]
  rw [e]
  simp only [Option.bind_some]
  simp
theorem sqrt_of {hi lo : Int} (u1 : isU64 hi = true) (u2 : isU64 lo = true) : root_SqrtWide.f hi lo = some (rootOf (wideOf hi lo)) := by
  unfold root_SqrtWide.f
  rw [if_pos (by simp [u1, u2])]
theorem dev_of {n h t r tt tr rr : Int} (o : MiOK n h t r tt tr rr) (h1 : 1 ≤ h) (k : Nat) : slope_Dev.f (k + 1) 0 0 (-1) n h 0 n h 0 h t r tt tr rr = some (devOf h r rr) := by
  have b1 := o.hn; have b2 := o.n1; have b3 := o.r0; have b4 := o.r1; have b5 := o.rr0; have b6 := o.rr1
  obtain ⟨hi, lo, e, ew, u1, u2⟩ := apart_eq (a := h) (b := rr) (c := r) (d := r) ⟨by omega, by omega⟩ ⟨by omega, by omega⟩ ⟨by omega, by omega⟩ ⟨by omega, by omega⟩
  have wr := wide_range u1 u2
  by_cases c : h * rr < r * r
  · rw [decide_eq_true c] at e
    rw [dev_then o h1 k e, devOf, if_pos c]
  · rw [decide_eq_false c] at e
    have ea : wideOf hi lo = h * rr - r * r := by rw [ew]; unfold apartOf; rw [if_neg c]
    rw [dev_else o h1 k e (sqrt_of u1 u2) (root_sq wr.1).1 (root_lt wr.1 wr.2), devOf, if_neg c, ea]
theorem ratio_range (a b : Int) (ha : 0 ≤ a) (hb : 0 ≤ b) : 0 ≤ ratioOf a b ∧ ratioOf a b ≤ 4611686018427387904 := by
  unfold ratioOf
  have := Int.ediv_nonneg (show 0 ≤ a * 1048576 by omega) hb
  repeat' split
  all_goals omega
theorem grade_of {n h t r tt tr rr : Int} (o : MiOK n h t r tt tr rr) (h1 : 1 ≤ h) (k : Nat) : slope_Grade.f (k + 1) 0 0 (-1) n h 0 n h 0 h t r tt tr rr = some (gradeOf h t r tt tr) := by
  have b1 := o.hn; have b2 := o.n1; have b3 := o.r0; have b4 := o.r1; have b5 := o.t0; have b6 := o.t1; have b7 := o.tt0; have b8 := o.tt1; have b9 := o.tr0; have b10 := o.tr1
  obtain ⟨hi, lo, e, ew, u1, u2⟩ := apart_eq (a := h) (b := tt) (c := t) (d := t) ⟨by omega, by omega⟩ ⟨by omega, by omega⟩ ⟨by omega, by omega⟩ ⟨by omega, by omega⟩
  obtain ⟨hi2, lo2, e2, ew2, v1, v2⟩ := apart_eq (a := h) (b := tr) (c := t) (d := r) ⟨by omega, by omega⟩ ⟨by omega, by omega⟩ ⟨by omega, by omega⟩ ⟨by omega, by omega⟩
  unfold slope_Grade.f slope_low.f gradeOf
  rw [told_more o h1 k]
  simp only [Option.bind_some, if_true]
  rw [e]
  simp only [Option.bind_some]
  by_cases c : h * tt < t * t
  · rw [decide_eq_true c, if_pos rfl, if_pos (by omega)]
    simp only [slope_Grade.j0]
    rfl
  · rw [decide_eq_false c, if_neg (by decide)]
    have ea : apartOf (h * tt) (t * t) = h * tt - t * t := by unfold apartOf; rw [if_neg c]
    rw [ea] at ew
    simp only [slope_Grade.j0]
    have r1 := isU64_out u1
    have r2 := isU64_out u2
    by_cases z : hi == 0 && (lo == 0)
    · rw [if_pos z]
      simp at z
      rw [if_pos (by unfold wideOf at ew; omega)]
    · rw [if_neg z]
      simp at z
      have zz : ¬ h * tt ≤ t * t := by
        intro hc
        unfold wideOf at ew
        by_cases z0 : hi = 0
        · have := z z0
          omega
        · omega
      have er : slope_Ratio.f hi2 lo2 hi lo = some (ratioOf (apartOf (h * tr) (t * r)) (h * tt - t * t)) := by
        unfold slope_Ratio.f
        rw [if_pos (by simp [v1, v2, u1, u2]), ew, ew2]
      rw [if_neg zz, e2]
      simp only [Option.bind_some]
      rw [er]
      simp only [Option.bind_some]
      by_cases c2 : h * tr < t * r
      · have ea2 : apartOf (h * tr) (t * r) = t * r - h * tr := by unfold apartOf; rw [if_pos c2]
        have rg := ratio_range (t * r - h * tr) (h * tt - t * t) (by omega) (by omega)
        rw [decide_eq_true c2, if_pos rfl, if_pos c2, ea2, wrap_id (by omega) (by omega)]
      · have ea2 : apartOf (h * tr) (t * r) = h * tr - t * r := by unfold apartOf; rw [if_neg c2]
        rw [decide_eq_false c2, if_neg (by decide), if_neg c2, ea2]
/-- An empty account tells nothing. -/
theorem told_none {n t r tt tr rr : Int} (o : MiOK n 0 t r tt tr rr) (k : Nat) : slope_told.f (k + 1) 0 0 (-1) n 0 0 n 0 0 0 t r tt tr rr = some false := by
  unfold slope_told.f
  rw [is_more o k]
  simp
end Go.Proofs.Ytlokmliannklaaa.Print
end
