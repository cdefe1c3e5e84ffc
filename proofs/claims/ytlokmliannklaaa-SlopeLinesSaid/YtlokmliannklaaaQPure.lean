/- What mean, spread and grade tell of an account of samples, over whole numbers alone; Sums of samples: what a move, a turn, a line make of them; the ratio between bounds; What the plain laws share; A slice of samples that came in, read as a list. -/
import Derived.Test.YtlokmliannklaaaQSkd
import Derived.Test.YtlokmliannklaaaQPrint4
import Derived.Test.YtlokmliannklaaaQP0
import Derived.Lib.SmallJoins
import Derived.Deep.Slices
import Derived.Deep.Fields
import Derived.ChangeSame
import Derived.OpenShut
section
namespace Go.Proofs.Ytlokmliannklaaa.Print
open Go.RowKit Go.Proofs.YtlokmliannklaaaW.PrintWords Go.Proofs.YtlokmliannklaaaW.PrintLast Go.Proofs.YtlokmliannklaaaW.PrintMore
set_option linter.unusedVariables false
set_option linter.unusedSimpArgs false

theorem sum_bound (g : S36 → Int) (B : Int) (l : List S36) (h : ∀ x ∈ l, 0 ≤ g x ∧ g x ≤ B) : 0 ≤ sumOf g l ∧ sumOf g l ≤ l.length * B := by
  induction l with
  | nil => simp [sumOf]
  | cons x l ih =>
    have h1 := h x (by simp)
    have h2 := ih (fun y hy => h y (by simp [hy]))
    have e : ((x :: l).length : Int) * B = l.length * B + B := by
      rw [List.length_cons, Int.natCast_add, Int.add_mul]
      simp
    rw [e]
    simp only [sumOf]
    omega
theorem ok_range {x : S36} (h : sampleOk x = true) : 0 ≤ x.f0 ∧ x.f0 ≤ 60000000 ∧ 0 ≤ x.f1 ∧ x.f1 ≤ 60000000 := by
  simp [sampleOk] at h
  omega
theorem prod_bound {a b : Int} (a0 : 0 ≤ a) (a1 : a ≤ 60000000) (b0 : 0 ≤ b) (b1 : b ≤ 60000000) : 0 ≤ a * b ∧ a * b ≤ 3600000000000000 := by
  have m1 : 0 ≤ a * b := Int.mul_nonneg a0 b0
  have m2 : a * b ≤ 60000000 * 60000000 := Int.mul_le_mul a1 b1 b0 (by omega)
  omega
/-- The five sums of a list. -/
def sT (l : List S36) : Int := sumOf (·.f0) l
def sR (l : List S36) : Int := sumOf (·.f1) l
def sTT (l : List S36) : Int := sumOf (fun x => x.f0 * x.f0) l
def sTR (l : List S36) : Int := sumOf (fun x => x.f0 * x.f1) l
def sRR (l : List S36) : Int := sumOf (fun x => x.f1 * x.f1) l
theorem mi_ok {l : List S36} (h : l.all sampleOk = true) (hl : l.length ≤ 100) : MiOK l.length l.length (sT l) (sR l) (sTT l) (sTR l) (sRR l) := by
  have hx : ∀ x ∈ l, sampleOk x = true := by simpa using h
  have b1 := sum_bound (·.f0) 60000000 l (fun x hy => by have := ok_range (hx x hy); omega)
  have b2 := sum_bound (·.f1) 60000000 l (fun x hy => by have := ok_range (hx x hy); omega)
  have b3 := sum_bound (fun x => x.f0 * x.f0) 3600000000000000 l (fun x hy => by have r := ok_range (hx x hy); exact prod_bound r.1 r.2.1 r.1 r.2.1)
  have b4 := sum_bound (fun x => x.f0 * x.f1) 3600000000000000 l (fun x hy => by have r := ok_range (hx x hy); exact prod_bound r.1 r.2.1 r.2.2.1 r.2.2.2)
  have b5 := sum_bound (fun x => x.f1 * x.f1) 3600000000000000 l (fun x hy => by have r := ok_range (hx x hy); exact prod_bound r.2.2.1 r.2.2.2 r.2.2.1 r.2.2.2)
  unfold sT sR sTT sTR sRR
  exact ⟨by omega, by omega, by omega, b1.1, b1.2, b2.1, b2.2, b3.1, b3.2, b4.1, b4.2, b5.1, b5.2⟩
theorem sampled_ok {l : List S36} (hl : l.length ≤ 100) (h : l.all sampleOk = true) : pacemakerlaw10_sampled.f l = some ((0 : Int), (0 : Int), (-1 : Int), (l.length : Int), (l.length : Int), (0 : Int), (l.length : Int), (l.length : Int), (0 : Int), (l.length : Int), sT l, sR l, sTT l, sTR l, sRR l, true) := by
  unfold pacemakerlaw10_sampled.f
  rw [if_pos hl, if_pos h]
  rfl
theorem sampled_no {l : List S36} (h : ¬ (l.length ≤ 100 ∧ l.all sampleOk = true)) : pacemakerlaw10_sampled.f l = some (0, 0, 0, 0, 0, 0, 0, 0, 0, 0, 0, 0, 0, 0, 0, false) := by
  unfold pacemakerlaw10_sampled.f
  by_cases h1 : l.length ≤ 100
  · rw [if_pos h1, if_neg (fun h2 => h ⟨h1, h2⟩)]
  · rw [if_neg h1]
theorem is_more {n h t r tt tr rr : Int} (o : MiOK n h t r tt tr rr) (k : Nat) : account_Is.f (k + 1) 0 0 (-1) n h 0 n h 0 h t r tt tr rr = some true := by
  induction k with
  | zero => exact o.is
  | succ k ih => exact account_Is.mono _ _ _ _ _ _ _ _ _ _ _ _ _ _ _ _ _ ih
theorem told_more {n h t r tt tr rr : Int} (o : MiOK n h t r tt tr rr) (h1 : 1 ≤ h) (k : Nat) : slope_told.f (k + 1) 0 0 (-1) n h 0 n h 0 h t r tt tr rr = some true := by
  unfold slope_told.f
  rw [is_more o k]
  simp only [Option.bind_some, if_true]
  rw [decide_eq_true (by omega)]
theorem uOf_id {x : Int} (h0 : 0 ≤ x) (h1 : x < 18446744073709551616) : uOf x = x := by
  have : uOf x = x % 18446744073709551616 := by simp [uOf, IntKind.wrap, IntKind.bits, IntKind.signed]
  rw [this]
  omega
theorem u64_id {x : Int} (h0 : 0 ≤ x) (h1 : x < 18446744073709551616) : IntKind.u64.wrap x = x := uOf_id h0 h1
theorem wide_low (x : Int) : wideOf 0 x = x := by unfold wideOf; omega
theorem ratio_low {a b : Int} (ha : 0 ≤ a) (ha1 : a < 18446744073709551616) (hb : 0 ≤ b) (hb1 : b < 18446744073709551616) : slope_Ratio.f 0 a 0 b = some (ratioOf a b) := by
  unfold slope_Ratio.f
  rw [if_pos (by simp [isU64, ha, ha1, hb, hb1]), wide_low, wide_low]
def devOf (n r rr : Int) : Int := if n * rr < r * r then 0 else ratioOf (rootOf (n * rr - r * r)) n
def gradeOf (n t r tt tr : Int) : Int := if n * tt ≤ t * t then 0 else if n * tr < t * r then -(ratioOf (t * r - n * tr) (n * tt - t * t)) else ratioOf (n * tr - t * r) (n * tt - t * t)
theorem mean_of {n h t r tt tr rr : Int} (o : MiOK n h t r tt tr rr) (h1 : 1 ≤ h) (k : Nat) : slope_Mean.f (k + 1) 0 0 (-1) n h 0 n h 0 h t r tt tr rr = some (ratioOf r h) := by
  have b1 := o.hn; have b2 := o.n1; have b3 := o.r0; have b4 := o.r1
  unfold slope_Mean.f slope_low.f
  rw [told_more o h1 k]
  simp only [Option.bind_some, if_true]
  rw [u64_id (by omega) (by omega), u64_id (by omega) (by omega), ratio_low b3 (by omega) (by omega) (by omega)]
  rfl
theorem apart_split {a b c d : Int} (h : 0 ≤ apartOf (a * b) (c * d)) : wideOf (apartOf (a * b) (c * d) / 18446744073709551616) (apartOf (a * b) (c * d) % 18446744073709551616) = apartOf (a * b) (c * d) := by
  unfold wideOf; omega
theorem apart_pos (p q : Int) : 0 ≤ apartOf p q := by unfold apartOf; split <;> omega
theorem apart_eq {a b c d : Int} (ha : 0 ≤ a ∧ a < 18446744073709551616) (hb : 0 ≤ b ∧ b < 18446744073709551616) (hc : 0 ≤ c ∧ c < 18446744073709551616) (hd : 0 ≤ d ∧ d < 18446744073709551616) :
    ∃ h l, slope_apart.f a b c d = some (h, l, decide (a * b < c * d)) ∧ wideOf h l = apartOf (a * b) (c * d) ∧ isU64 h = true ∧ isU64 l = true := by
  unfold slope_apart.f
  rw [uOf_id ha.1 ha.2, uOf_id hb.1 hb.2, uOf_id hc.1 hc.2, uOf_id hd.1 hd.2]
  refine ⟨_, _, rfl, apart_split (apart_pos _ _), ?_, isU64_mk (by omega) (by omega)⟩
  have m1 : a * b ≤ 18446744073709551615 * 18446744073709551615 := Int.mul_le_mul (by omega) (by omega) hb.1 (by omega)
  have m2 : c * d ≤ 18446744073709551615 * 18446744073709551615 := Int.mul_le_mul (by omega) (by omega) hd.1 (by omega)
  have m3 : 0 ≤ a * b := Int.mul_nonneg ha.1 hb.1
  have m4 : 0 ≤ c * d := Int.mul_nonneg hc.1 hd.1
  unfold apartOf
  generalize a * b = p at *
  generalize c * d = q at *
  split <;> exact isU64_mk (by omega) (by omega)
theorem rootFrom_le (n a s : Nat) (h : s * s ≤ a) : rootFrom n a s * rootFrom n a s ≤ a := by
  induction n generalizing s with
  | zero => exact h
  | succ n ih =>
    unfold rootFrom
    split
    · rename_i h2
      exact ih _ h2
    · exact ih _ h
theorem root_is (a : Int) : ∃ s : Nat, rootOf a = (s : Int) ∧ s * s ≤ a.toNat := by
  have h : ∀ n : Nat, rootFrom n a.toNat 0 * rootFrom n a.toNat 0 ≤ a.toNat := fun n => rootFrom_le n _ 0 (by omega)
  refine ⟨rootFrom 64 a.toNat 0, ?_, h 64⟩
  rw [rootOf]
theorem root_sq {a : Int} (h : 0 ≤ a) : 0 ≤ rootOf a ∧ rootOf a * rootOf a ≤ a := by
  obtain ⟨s, e, hs⟩ := root_is a
  rw [e]
  refine ⟨by omega, ?_⟩
  have e2 : ((s * s : Nat) : Int) ≤ (a.toNat : Int) := Int.ofNat_le.2 hs
  rw [Int.natCast_mul] at e2
  omega
theorem root_lt {a : Int} (h : 0 ≤ a) (h2 : a < 340282366920938463463374607431768211456) : rootOf a < 18446744073709551616 := by
  obtain ⟨r0, r1⟩ := root_sq h
  rcases Int.lt_or_le (rootOf a) 18446744073709551616 with c | c
  · exact c
  · have := Int.mul_le_mul c c (by omega) r0
    omega
theorem dev_else {n h t r tt tr rr hi lo q : Int} (o : MiOK n h t r tt tr rr) (h1 : 1 ≤ h) (k : Nat) (e : slope_apart.f h rr r r = some (hi, lo, false)) (hs : root_SqrtWide.f hi lo = some q) (q0 : 0 ≤ q) (q1 : q < 18446744073709551616) :
    slope_Dev.f (k + 1) 0 0 (-1) n h 0 n h 0 h t r tt tr rr = some (ratioOf q h) := by
  have b1 := o.hn; have b2 := o.n1
  unfold slope_Dev.f slope_low.f
  rw [told_more o h1 k]
  simp only [Option.bind_some, if_true]
  rw [e]
  simp only [Option.bind_some]
  rw [if_neg (by decide), hs]
  simp only [Option.bind_some]
  rw [u64_id (x := h) (by omega) (by omega), ratio_low q0 q1 (by omega) (by omega)]
  simp only [Option.bind_some]
theorem dev_then {n h t r tt tr rr hi lo : Int} (o : MiOK n h t r tt tr rr) (h1 : 1 ≤ h) (k : Nat) (e : slope_apart.f h rr r r = some (hi, lo, true)) :
    slope_Dev.f (k + 1) 0 0 (-1) n h 0 n h 0 h t r tt tr rr = some 0 := by
  unfold slope_Dev.f slope_low.f
  rw [told_more o h1 k]
  simp only [Option.bind_some, if_true]
  rw [e]
  simp only [Option.bind_some]
  simp
theorem sqrt_of {hi lo : Int} (u1 : isU64 hi = true) (u2 : isU64 lo = true) : root_SqrtWide.f hi lo = some (rootOf (wideOf hi lo)) := by
  unfold root_SqrtWide.f
  rw [if_pos (by simp [u1, u2])]
theorem dev_of {n h t r tt tr rr : Int} (o : MiOK n h t r tt tr rr) (h1 : 1 ≤ h) (k : Nat) : slope_Dev.f (k + 1) 0 0 (-1) n h 0 n h 0 h t r tt tr rr = some (devOf h r rr) := by
  have b1 := o.hn; have b2 := o.n1; have b3 := o.r0; have b4 := o.r1; have b5 := o.rr0; have b6 := o.rr1
  obtain ⟨hi, lo, e, ew, u1, u2⟩ := apart_eq (a := h) (b := rr) (c := r) (d := r) ⟨by omega, by omega⟩ ⟨by omega, by omega⟩ ⟨by omega, by omega⟩ ⟨by omega, by omega⟩
  have wr := wide_range u1 u2
  by_cases c : h * rr < r * r
  · rw [decide_eq_true c] at e
    rw [dev_then o h1 k e, devOf, if_pos c]
  · rw [decide_eq_false c] at e
    have ea : wideOf hi lo = h * rr - r * r := by rw [ew]; unfold apartOf; rw [if_neg c]
    rw [dev_else o h1 k e (sqrt_of u1 u2) (root_sq wr.1).1 (root_lt wr.1 wr.2), devOf, if_neg c, ea]
theorem ratio_range (a b : Int) (ha : 0 ≤ a) (hb : 0 ≤ b) : 0 ≤ ratioOf a b ∧ ratioOf a b ≤ 4611686018427387904 := by
  unfold ratioOf
  have := Int.ediv_nonneg (show 0 ≤ a * 1048576 by omega) hb
  repeat' split
  all_goals omega
theorem grade_of {n h t r tt tr rr : Int} (o : MiOK n h t r tt tr rr) (h1 : 1 ≤ h) (k : Nat) : slope_Grade.f (k + 1) 0 0 (-1) n h 0 n h 0 h t r tt tr rr = some (gradeOf h t r tt tr) := by
  have b1 := o.hn; have b2 := o.n1; have b3 := o.r0; have b4 := o.r1; have b5 := o.t0; have b6 := o.t1; have b7 := o.tt0; have b8 := o.tt1; have b9 := o.tr0; have b10 := o.tr1
  obtain ⟨hi, lo, e, ew, u1, u2⟩ := apart_eq (a := h) (b := tt) (c := t) (d := t) ⟨by omega, by omega⟩ ⟨by omega, by omega⟩ ⟨by omega, by omega⟩ ⟨by omega, by omega⟩
  obtain ⟨hi2, lo2, e2, ew2, v1, v2⟩ := apart_eq (a := h) (b := tr) (c := t) (d := r) ⟨by omega, by omega⟩ ⟨by omega, by omega⟩ ⟨by omega, by omega⟩ ⟨by omega, by omega⟩
  unfold slope_Grade.f slope_low.f gradeOf
  rw [told_more o h1 k]
  simp only [Option.bind_some, if_true]
  rw [e]
  simp only [Option.bind_some]
  by_cases c : h * tt < t * t
  · rw [decide_eq_true c, if_pos rfl, if_pos (by omega)]
    simp only [slope_Grade.j0]
    rfl
  · rw [decide_eq_false c, if_neg (by decide)]
    have ea : apartOf (h * tt) (t * t) = h * tt - t * t := by unfold apartOf; rw [if_neg c]
    rw [ea] at ew
    simp only [slope_Grade.j0]
    have r1 := isU64_out u1
    have r2 := isU64_out u2
    by_cases z : hi == 0 && (lo == 0)
    · rw [if_pos z]
      simp at z
      rw [if_pos (by unfold wideOf at ew; omega)]
    · rw [if_neg z]
      simp at z
      have zz : ¬ h * tt ≤ t * t := by
        intro hc
        unfold wideOf at ew
        by_cases z0 : hi = 0
        · have := z z0
          omega
        · omega
      have er : slope_Ratio.f hi2 lo2 hi lo = some (ratioOf (apartOf (h * tr) (t * r)) (h * tt - t * t)) := by
        unfold slope_Ratio.f
        rw [if_pos (by simp [v1, v2, u1, u2]), ew, ew2]
      rw [if_neg zz, e2]
      simp only [Option.bind_some]
      rw [er]
      simp only [Option.bind_some]
      by_cases c2 : h * tr < t * r
      · have ea2 : apartOf (h * tr) (t * r) = t * r - h * tr := by unfold apartOf; rw [if_pos c2]
        have rg := ratio_range (t * r - h * tr) (h * tt - t * t) (by omega) (by omega)
        rw [decide_eq_true c2, if_pos rfl, if_pos c2, ea2, wrap_id (by omega) (by omega)]
      · have ea2 : apartOf (h * tr) (t * r) = h * tr - t * r := by unfold apartOf; rw [if_neg c2]
        rw [decide_eq_false c2, if_neg (by decide), if_neg c2, ea2]
/-- An empty account tells nothing. -/
theorem told_none {n t r tt tr rr : Int} (o : MiOK n 0 t r tt tr rr) (k : Nat) : slope_told.f (k + 1) 0 0 (-1) n 0 0 n 0 0 0 t r tt tr rr = some false := by
  unfold slope_told.f
  rw [is_more o k]
  simp
end Go.Proofs.Ytlokmliannklaaa.Print
end

section
namespace Go.Proofs.Ytlokmliannklaaa.Print
open Go.RowKit Go.Proofs.YtlokmliannklaaaW.PrintWords Go.Proofs.YtlokmliannklaaaW.PrintLast Go.Proofs.YtlokmliannklaaaW.PrintMore
set_option linter.unusedVariables false
set_option linter.unusedSimpArgs false

def moved (b : Int) (x : S36) : S36 := ⟨x.f0, x.f1 + b⟩
def turned (x : S36) : S36 := ⟨60000000 - x.f0, x.f1⟩
def lined (b s : Int) (t : Int) : S36 := ⟨t, b + s * t⟩
theorem moved_T (b : Int) (l : List S36) : sT (l.map (moved b)) = sT l := by
  unfold sT
  induction l with
  | nil => rfl
  | cons x l ih => simp only [List.map_cons, sumOf, ih, moved]
theorem moved_TT (b : Int) (l : List S36) : sTT (l.map (moved b)) = sTT l := by
  unfold sTT
  induction l with
  | nil => rfl
  | cons x l ih => simp only [List.map_cons, sumOf, ih, moved]
theorem moved_R (b : Int) (l : List S36) : sR (l.map (moved b)) = sR l + l.length * b := by
  unfold sR
  induction l with
  | nil => simp [sumOf]
  | cons x l ih => simp only [List.map_cons, sumOf, ih, moved, List.length_cons, Int.natCast_add]; grind
theorem moved_TR (b : Int) (l : List S36) : sTR (l.map (moved b)) = sTR l + b * sT l := by
  unfold sTR sT
  induction l with
  | nil => simp [sumOf]
  | cons x l ih => simp only [List.map_cons, sumOf, ih, moved]; grind
theorem moved_RR (b : Int) (l : List S36) : sRR (l.map (moved b)) = sRR l + 2 * b * sR l + l.length * (b * b) := by
  unfold sRR sR
  induction l with
  | nil => simp [sumOf]
  | cons x l ih => simp only [List.map_cons, sumOf, ih, moved, List.length_cons, Int.natCast_add]; grind
theorem turned_T (l : List S36) : sT (l.map turned) = l.length * 60000000 - sT l := by
  unfold sT
  induction l with
  | nil => simp [sumOf]
  | cons x l ih => simp only [List.map_cons, sumOf, ih, turned, List.length_cons, Int.natCast_add]; grind
theorem turned_R (l : List S36) : sR (l.map turned) = sR l := by
  unfold sR
  induction l with
  | nil => rfl
  | cons x l ih => simp only [List.map_cons, sumOf, ih, turned]
theorem turned_RR (l : List S36) : sRR (l.map turned) = sRR l := by
  unfold sRR
  induction l with
  | nil => rfl
  | cons x l ih => simp only [List.map_cons, sumOf, ih, turned]
theorem turned_TT (l : List S36) : sTT (l.map turned) = l.length * (60000000 * 60000000) - 2 * 60000000 * sT l + sTT l := by
  unfold sTT sT
  induction l with
  | nil => simp [sumOf]
  | cons x l ih => simp only [List.map_cons, sumOf, ih, turned, List.length_cons, Int.natCast_add]; grind
theorem turned_TR (l : List S36) : sTR (l.map turned) = 60000000 * sR l - sTR l := by
  unfold sTR sR
  induction l with
  | nil => simp [sumOf]
  | cons x l ih => simp only [List.map_cons, sumOf, ih, turned]; grind
theorem lined_R (b s : Int) (l : List Int) : sR (l.map (lined b s)) = l.length * b + s * sT (l.map (lined b s)) := by
  unfold sR sT
  induction l with
  | nil => simp [sumOf]
  | cons x l ih => simp only [List.map_cons, sumOf, ih, lined, List.length_cons, Int.natCast_add]; grind
theorem lined_TR (b s : Int) (l : List Int) : sTR (l.map (lined b s)) = b * sT (l.map (lined b s)) + s * sTT (l.map (lined b s)) := by
  unfold sTR sT sTT
  induction l with
  | nil => simp [sumOf]
  | cons x l ih => simp only [List.map_cons, sumOf, ih, lined]; grind
theorem lined_RR (b : Int) (l : List Int) : sRR (l.map (lined b 0)) = l.length * (b * b) := by
  unfold sRR
  induction l with
  | nil => simp [sumOf]
  | cons x l ih => simp only [List.map_cons, sumOf, ih, lined, List.length_cons, Int.natCast_add]; grind

theorem devOf_congr {n r rr r' rr' : Int} (h : n * rr - r * r = n * rr' - r' * r') : devOf n r rr = devOf n r' rr' := by
  unfold devOf
  rw [h]
  by_cases c : n * rr < r * r
  · rw [if_pos c, if_pos (by omega)]
  · rw [if_neg c, if_neg (by omega)]
theorem gradeOf_congr {n t r tt tr r' tr' : Int} (h : n * tr - t * r = n * tr' - t * r') : gradeOf n t r tt tr = gradeOf n t r' tt tr' := by
  unfold gradeOf
  have e1 : t * r - n * tr = t * r' - n * tr' := by omega
  rw [h, e1]
  by_cases c : n * tt ≤ t * t
  · rw [if_pos c, if_pos c]
  · rw [if_neg c, if_neg c]
    by_cases d : n * tr < t * r
    · rw [if_pos d, if_pos (by omega)]
    · rw [if_neg d, if_neg (by omega)]
theorem gradeOf_turn {n t r tt tr t' tt' tr' : Int} (h1 : n * tt - t * t = n * tt' - t' * t') (h2 : n * tr' - t' * r = t * r - n * tr) : gradeOf n t' r tt' tr' = -gradeOf n t r tt tr := by
  unfold gradeOf
  have e1 : t' * r - n * tr' = n * tr - t * r := by omega
  rw [← h1, h2, e1]
  by_cases c : n * tt ≤ t * t
  · rw [if_pos (by omega), if_pos c]
    rfl
  · rw [if_neg (by omega), if_neg c]
    by_cases d : n * tr < t * r
    · rw [if_neg (by omega), if_pos d]
      omega
    · rw [if_neg d]
      by_cases z : n * tr = t * r
      · rw [if_neg (by omega)]
        have z1 : t * r - n * tr = 0 := by omega
        have z2 : n * tr - t * r = 0 := by omega
        rw [z1, z2]
        simp [ratioOf]
      · rw [if_pos (by omega)]

theorem ratio_std {a b : Int} (ha : 0 ≤ a) (hb : 0 < b) (hq : a * 1048576 / b < 4611686018427387904) : ratioOf a b = if b ≤ 2 * (a * 1048576 % b) then a * 1048576 / b + 1 else a * 1048576 / b := by
  unfold ratioOf
  by_cases z : a = 0
  · subst z
    rw [if_pos rfl]
    simp
    omega
  · rw [if_neg z, if_neg (by omega), if_neg (by omega)]
theorem ratio_lower {a b L : Int} (ha : 0 ≤ a) (hb : 0 < b) (hL : L * b ≤ a) (hT : L * 1048576 ≤ 4611686018427387904) : L * 1048576 ≤ ratioOf a b := by
  have h1 : L * 1048576 ≤ a * 1048576 / b := by
    rw [Int.le_ediv_iff_mul_le hb]
    have : L * 1048576 * b = L * b * 1048576 := by grind
    omega
  by_cases hq : a * 1048576 / b < 4611686018427387904
  · rw [ratio_std ha hb hq]
    split <;> omega
  · unfold ratioOf
    by_cases z : a = 0
    · subst z
      simp at hq
    · rw [if_neg z, if_neg (by omega), if_pos (by omega)]
      omega
theorem ratio_upper {a b M : Int} (ha : 0 ≤ a) (hb : 0 < b) (hM : a ≤ M * b) (hT : M * 1048576 < 4611686018427387904) : ratioOf a b ≤ M * 1048576 := by
  have e : M * 1048576 * b = M * b * 1048576 := by grind
  have h1 : a * 1048576 / b ≤ M * 1048576 := by
    have := Int.ediv_le_ediv hb (show a * 1048576 ≤ M * 1048576 * b by omega)
    rw [Int.mul_ediv_cancel _ (by omega)] at this
    exact this
  rw [ratio_std ha hb (by omega)]
  have h2 := Int.emod_add_mul_ediv (a * 1048576) b
  have h3 := Int.emod_nonneg (a * 1048576) (show b ≠ 0 by omega)
  split
  · rename_i h4
    rcases Int.lt_or_eq_of_le h1 with h5 | h5
    · omega
    · rw [h5] at h2
      have h6 : b * (M * 1048576) = M * 1048576 * b := Int.mul_comm _ _
      omega
  · exact h1
theorem ratio_shift {a b c : Int} (ha : 0 ≤ a) (hb : 0 < b) (hc : 0 ≤ c) (hc2 : c ≤ 60000000) (hab : a ≤ 60000000 * b) : ratioOf (a + b * c) b = ratioOf a b + c * 1048576 := by
  have e : (a + b * c) * 1048576 = a * 1048576 + c * 1048576 * b := by grind
  have q : a * 1048576 / b ≤ 60000000 * 1048576 := by
    have := Int.ediv_le_ediv hb (show a * 1048576 ≤ 60000000 * 1048576 * b by omega)
    rw [Int.mul_ediv_cancel _ (by omega)] at this
    exact this
  have m : 0 ≤ b * c := Int.mul_nonneg (by omega) hc
  have e1 : (a + b * c) * 1048576 / b = a * 1048576 / b + c * 1048576 := by rw [e, Int.add_mul_ediv_right _ _ (by omega)]
  have e2 : (a + b * c) * 1048576 % b = a * 1048576 % b := by rw [e, Int.add_mul_emod_self_right]
  rw [ratio_std (by omega) hb (by omega), ratio_std ha hb (by omega), e1, e2]
  split <;> omega
theorem ratio_mul {d s : Int} (hd : 0 < d) (h0 : 0 ≤ s) (h1 : s ≤ 60000000) : ratioOf (s * d) d = s * 1048576 := by
  have m : 0 ≤ s * d := Int.mul_nonneg h0 (by omega)
  have e : s * d * 1048576 = s * 1048576 * d := by grind
  have e1 : s * d * 1048576 / d = s * 1048576 := by rw [e, Int.mul_ediv_cancel _ (by omega)]
  have e2 : s * d * 1048576 % d = 0 := by rw [e, Int.mul_emod_left]
  rw [ratio_std m hd (by omega), e1, e2, if_neg (by omega)]
/-- The spread of a list is a sum of squares. -/
def sq (g : S36 → Int) (x : Int) (l : List S36) : Int := sumOf (fun y => (g y - x) * (g y - x)) l
theorem sq_eq (g : S36 → Int) (x : Int) (l : List S36) : sq g x l = sumOf (fun y => g y * g y) l - 2 * x * sumOf g l + l.length * (x * x) := by
  unfold sq
  induction l with
  | nil => simp [sumOf]
  | cons y l ih => simp only [sumOf, ih, List.length_cons, Int.natCast_add]; grind
theorem sqr_nonneg (x : Int) : 0 ≤ x * x := by
  rcases Int.le_total 0 x with h | h
  · exact Int.mul_nonneg h h
  · have := Int.mul_nonneg (show 0 ≤ -x by omega) (show 0 ≤ -x by omega)
    rw [Int.neg_mul_neg] at this
    exact this
theorem sq_nonneg (g : S36 → Int) (x : Int) (l : List S36) : 0 ≤ sq g x l := by
  unfold sq
  induction l with
  | nil => simp [sumOf]
  | cons y l ih =>
    have := sqr_nonneg (g y - x)
    simp only [sumOf]
    omega
theorem sq_pos (g : S36 → Int) (x : Int) (l : List S36) (h : ∃ y ∈ l, g y ≠ x) : 0 < sq g x l := by
  unfold sq
  induction l with
  | nil => obtain ⟨y, hy, _⟩ := h; cases hy
  | cons z l ih =>
    have h1 := sqr_nonneg (g z - x)
    have h2 := sq_nonneg g x l
    unfold sq at h2
    simp only [sumOf]
    by_cases c : g z = x
    · obtain ⟨y, hy, hne⟩ := h
      rcases List.mem_cons.1 hy with rfl | hy
      · exact absurd c hne
      · have := ih ⟨y, hy, hne⟩
        omega
    · have h3 : 0 < (g z - x) * (g z - x) := by
        rcases Int.lt_or_gt_of_ne (show g z - x ≠ 0 by omega) with h | h
        · have := Int.mul_pos (show 0 < -(g z - x) by omega) (show 0 < -(g z - x) by omega)
          rw [Int.neg_mul_neg] at this
          exact this
        · exact Int.mul_pos h h
      omega
def spread (g : S36 → Int) (l : List S36) : Int := l.length * sumOf (fun y => g y * g y) l - sumOf g l * sumOf g l
theorem spread_cons (g : S36 → Int) (x : S36) (l : List S36) : spread g (x :: l) = spread g l + sq g (g x) l := by
  rw [sq_eq]
  unfold spread
  simp only [sumOf, List.length_cons, Int.natCast_add]
  grind
theorem spread_nonneg (g : S36 → Int) (l : List S36) : 0 ≤ spread g l := by
  induction l with
  | nil => simp [spread, sumOf]
  | cons x l ih =>
    have := sq_nonneg g (g x) l
    rw [spread_cons]
    omega
theorem spread_pos (g : S36 → Int) (x : S36) (l : List S36) (h : ∃ y ∈ l, g y ≠ g x) : 0 < spread g (x :: l) := by
  have h1 := sq_pos g (g x) l h
  have h2 := spread_nonneg g l
  rw [spread_cons]
  omega
theorem spread_same (g : S36 → Int) (c : Int) (l : List S36) (h : ∀ y ∈ l, g y = c) : spread g l = 0 := by
  have e1 : sumOf g l = l.length * c ∧ sumOf (fun y => g y * g y) l = l.length * (c * c) := by
    induction l with
    | nil => simp [sumOf]
    | cons x l ih =>
      obtain ⟨i1, i2⟩ := ih (fun y hy => h y (by simp [hy]))
      have hx := h x (by simp)
      simp only [sumOf, i1, i2, hx, List.length_cons, Int.natCast_add]
      constructor <;> grind
  unfold spread
  rw [e1.1, e1.2]
  grind
end Go.Proofs.Ytlokmliannklaaa.Print
end

section
namespace Go.Proofs.Ytlokmliannklaaa.Print
open Go.RowKit Go.Proofs.YtlokmliannklaaaW.PrintWords Go.Proofs.YtlokmliannklaaaW.PrintLast Go.Proofs.YtlokmliannklaaaW.PrintMore
set_option linter.unusedVariables false
set_option linter.unusedSimpArgs false

theorem all_mem {l : List S36} (h : l.all sampleOk = true) : ∀ x ∈ l, sampleOk x = true := by simpa using h
theorem rd_get {l : List S36} {i : Nat} (h : i < l.length) : rd_T36 l (i : Int) = l[i] := by
  simp [rd_T36, List.getD, List.getElem?_eq_getElem h]
theorem rd_ok {l : List S36} (h : l.all sampleOk = true) {i : Nat} (hi : i < l.length) : 0 ≤ (rd_T36 l (i : Int)).f0 ∧ (rd_T36 l (i : Int)).f0 ≤ 60000000 ∧ 0 ≤ (rd_T36 l (i : Int)).f1 ∧ (rd_T36 l (i : Int)).f1 ≤ 60000000 := by
  rw [rd_get hi]
  exact ok_range (all_mem h _ (List.getElem_mem hi))
theorem take_map_one {α β : Type} (f : α → β) (l : List α) (i : Nat) (h : i < l.length) : (l.take i).map f ++ [f l[i]] = (l.take (i + 1)).map f := by
  rw [List.take_succ_eq_append_getElem h, List.map_append]
  rfl
theorem of_some (x : Int) (h0 : -4398046511104 ≤ x) (h1 : x ≤ 4398046511104) : fix_Of.f x = some (x * 1048576) := by
  unfold fix_Of.f
  have e1 : mn x 4398046511104 = x := by unfold mn; split <;> omega
  have e2 : mx (-4398046511104) x = x := by unfold mx; split <;> omega
  rw [e1, e2]
theorem mean_small {l : List S36} (h : l.all sampleOk = true) (hl : l.length ≤ 100) (h1 : 1 ≤ l.length) : 0 ≤ ratioOf (sR l) l.length ∧ ratioOf (sR l) l.length ≤ 62914560000000 := by
  have o := mi_ok h hl
  have b1 := o.r0
  have b2 := o.r1
  have := ratio_upper (M := 60000000) b1 (show (0 : Int) < l.length by omega) (by omega) (by omega)
  have := ratio_lower (L := 0) b1 (show (0 : Int) < l.length by omega) (by omega) (by omega)
  omega
end Go.Proofs.Ytlokmliannklaaa.Print
end

section
namespace Go.Proofs.Ytlokmliannklaaa.Print
open Go.RowKit Go.Proofs.YtlokmliannklaaaW.PrintWords Go.Proofs.YtlokmliannklaaaW.PrintLast Go.Proofs.YtlokmliannklaaaW.PrintMore
open Go.ChangeShapes Go.WideShapes Go.Deep
set_option linter.unusedVariables false
theorem cells36 : Try.prog.cellsOf 36 = 2 := by kernel_rfl
section
variable {H : Type} {enc : TypeId × Value → H} {P : Program} {w : World} {base : Nat} {spare : Nat → Bool} {held : Bool}
theorem open_slice_cells {t e : TypeId} {fs : Array Field} {fuel : Nat} {cs : List Value} {x : DataW H × List MemPlace} (ht : P.underlying t = some (.slice e)) (he : P.underlying e = some (.struct fs))
    (hone : oneCellFields P fs = true) (hC : P.cellsOf e = fs.size) (h : DataW.trod enc P w base spare held fuel t cs = some x) :
    (cs = [.slice none 0 0] ∧ x = (.nil, [])) ∨
    ∃ (a : Addr) (len cap m : Nat), cs = [.slice (some a) len cap] ∧ len ≤ cap ∧ cap ≤ maxLen ∧ m = (if spare a.block then cap else len) ∧
      ∀ i, i < m → ∀ (j : Nat) (f : Field), fs[j]? = some f → ∃ (n : Nat) (v : Value) (y : DataW H × List MemPlace), w.cell? (a.add (i * fs.size + j)) = some v ∧ DataW.trod enc P w base spare held n f.type [v] = some y := by
  rcases open_slice ht h with h0 | ⟨a, len, cap, m, n, D, Pl, hcs, hb, hl, hm, hmm, hx, hi⟩
  · exact .inl h0
  · refine .inr ⟨a, len, cap, m, hcs, hl, hm, hmm, fun i him => ?_⟩
    obtain ⟨cs', hc, ht'⟩ := hi i him
    rw [hC] at hc
    obtain ⟨ys, n', hn', hy, hlen, hyl, hf⟩ := DataW.trod_struct he ht'
    obtain ⟨_, hcl, hat⟩ := World.cells?_some hc
    intro j f hj
    obtain ⟨ho, hk⟩ := hone_of hone j f hj
    have hjl : j < fs.size := (Array.getElem?_eq_some_iff.1 hj).1
    have hcell := hat j hjl
    have hv : cs'[j]? = some (cs'[j]'(by omega)) := List.getElem?_eq_getElem (by omega)
    have h1 := hf j f hj
    rw [ho, hk] at h1
    have hone' : (cs'.drop j).take 1 = [cs'[j]'(by omega)] := by
      rw [List.drop_eq_getElem_cons (by omega)]
      rfl
    rw [hone'] at h1
    have hys : ys[j]? = some (ys[j]'(by omega)) := List.getElem?_eq_getElem (by omega)
    refine ⟨_, _, _, ?_, h1.trans hys⟩
    rw [← Go.Deep.add_add, hcell, hv]
end
/-- An int in a cell. -/
def intAt : Option Value → Int
  | some (.int _ x) => x
  | _ => 0
/-- The cells of a row, read as samples. -/
def rowOf (w : World) (a : Addr) (n : Nat) : List S36 := (List.range n).map fun i => ⟨intAt (w.cell? (a.add (i * 2 + 0))), intAt (w.cell? (a.add (i * 2 + 1)))⟩
theorem rowOf_length (w : World) (a : Addr) (n : Nat) : (rowOf w a n).length = n := by simp [rowOf]
theorem row_reads {H : Type} {enc : TypeId × Value → H} {W : World} {a : Option Addr} {len cap : Nat} {d : DataW H} {p : List MemPlace} (h : DataW.Trod enc Try.prog W 0 (fun _ => true) true 32 (.slice a len cap) d p) :
    ∃ l : List S36, l.length = len ∧ Kd.C k36 W a len l ∧ len ≤ cap := by
  obtain ⟨fuel, hf⟩ := h
  rcases open_slice_cells Try.underlying32 Try.underlying36 (by kernel_rfl) cells36 hf with ⟨hcs, _⟩ | ⟨x, l, c, m, hcs, hl, hm, hmm, hi⟩
  · simp [Value.cells] at hcs
    obtain ⟨rfl, rfl, rfl⟩ := hcs
    exact ⟨[], rfl, ⟨rfl, by omega, fun h => absurd h (by omega)⟩, Nat.le_refl _⟩
  · simp [Value.cells] at hcs
    obtain ⟨rfl, rfl, rfl⟩ := hcs
    unfold maxLen at hm
    rw [if_pos rfl] at hmm
    refine ⟨rowOf W x len, rowOf_length .., ⟨rowOf_length .., by omega, fun _ => ⟨x, rfl, fun j q hj => ?_⟩⟩, hl⟩
    have hj' : j < len := by
      have := (List.getElem?_eq_some_iff.1 hj).1
      rw [rowOf_length] at this
      exact this
    obtain ⟨n0, v0, y0, c0, t0⟩ := hi j (by omega) 0 _ rfl
    obtain ⟨n1, v1, y1, c1, t1⟩ := hi j (by omega) 1 _ rfl
    obtain ⟨f0, e0, rfl, w0⟩ := DataW.trod_int Try.underlying3 t0
    obtain ⟨f1, e1, rfl, w1⟩ := DataW.trod_int Try.underlying3 t1
    simp at e0 e1
    subst e0 e1
    have d0 : W.cell? (x.add (j * 2 + 0)) = some (.int .i64 f0) := c0
    have d1 : W.cell? (x.add (j * 2 + 1)) = some (.int .i64 f1) := c1
    have hq : q = ⟨f0, f1⟩ := by
      have : (rowOf W x len)[j]? = some ⟨f0, f1⟩ := by
        unfold rowOf
        rw [List.getElem?_map, List.getElem?_range hj']
        simp only [Option.map_some, d0, d1, intAt]
      rw [this] at hj
      exact (Option.some.inj hj).symm
    subst hq
    refine ⟨[.int .i64 f0, .int .i64 f1], rfl, k36_mk W ⟨f0, f1⟩, fun i u hu => ?_⟩
    match i, hu with
    | 0, hu => rw [← Option.some.inj hu]; exact d0
    | 1, hu => rw [← Option.some.inj hu]; exact d1
    | _ + 2, hu => simp at hu
end Go.Proofs.Ytlokmliannklaaa.Print
end
