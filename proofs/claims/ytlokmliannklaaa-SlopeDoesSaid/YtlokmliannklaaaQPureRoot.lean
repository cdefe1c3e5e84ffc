/- The reference's root, pair by pair of bits, is the root; its product is the product. -/
import Derived.Test.YtlokmliannklaaaQPrint8
import Derived.Test.YtlokmliannklaaaQPureRatio
import Derived.Test.YtlokmliannklaaaQPureS
section
namespace Go.Proofs.Ytlokmliannklaaa.Print
open Go.RowKit Go.Proofs.YtlokmliannklaaaW.PrintWords Go.Proofs.YtlokmliannklaaaW.PrintLast Go.Proofs.YtlokmliannklaaaW.PrintMore
set_option linter.unusedVariables false
set_option linter.unusedSimpArgs false

theorem rootFrom_lt (n a s : Nat) (h : a < (s + 2 ^ n) * (s + 2 ^ n)) : a < (rootFrom n a s + 1) * (rootFrom n a s + 1) := by
  induction n generalizing s with
  | zero => simpa [rootFrom] using h
  | succ n ih =>
    unfold rootFrom
    split
    · rename_i h2
      refine ih _ ?_
      have e : s + 2 ^ n + 2 ^ n = s + 2 ^ (n + 1) := by rw [Nat.pow_succ]; omega
      rw [e]
      exact h
    · rename_i h2
      exact ih _ (by omega)
theorem sqr_nonneg' (x : Int) : 0 ≤ x * x := by
  rcases Int.le_total 0 x with h | h
  · exact Int.mul_nonneg h h
  · have := Int.mul_nonneg (show 0 ≤ -x by omega) (show 0 ≤ -x by omega)
    rw [Int.neg_mul_neg] at this
    exact this
theorem root_unique {A S : Int} (h0 : 0 ≤ S) (h1 : S * S ≤ A) (h2 : A < (S + 1) * (S + 1)) (hA : A < 340282366920938463463374607431768211456) : rootOf A = S := by
  have hA0 : 0 ≤ A := Int.le_trans (sqr_nonneg' S) h1
  obtain ⟨s, e, hs⟩ := root_is A
  obtain ⟨q0, q1⟩ := root_sq hA0
  have q2 : A < (rootOf A + 1) * (rootOf A + 1) := by
    have hlt : A.toNat < (0 + 2 ^ 64) * (0 + 2 ^ 64) := by
      have : (0 + 2 ^ 64) * (0 + 2 ^ 64) = 340282366920938463463374607431768211456 := by decide
      omega
    have k : ∀ n : Nat, A.toNat < (0 + 2 ^ n) * (0 + 2 ^ n) → ∃ r : Nat, rootFrom n A.toNat 0 = r ∧ A.toNat < (r + 1) * (r + 1) := fun n hn => ⟨_, rfl, rootFrom_lt n _ 0 hn⟩
    obtain ⟨r, er, hr⟩ := k 64 hlt
    have e2 : rootOf A = (r : Int) := by rw [rootOf, er]
    rw [e2]
    have e3 : ((A.toNat : Nat) : Int) < (((r + 1) * (r + 1) : Nat) : Int) := Int.ofNat_lt.2 hr
    rw [Int.natCast_mul] at e3
    simp only [Int.natCast_add] at e3
    have e4 : ((A.toNat : Nat) : Int) = A := by omega
    rw [e4] at e3
    simpa using e3
  generalize rootOf A = r at *
  rcases Int.lt_trichotomy r S with c | c | c
  · have m := Int.mul_le_mul (show r + 1 ≤ S by omega) (show r + 1 ≤ S by omega) (by omega) h0
    omega
  · exact c
  · have m := Int.mul_le_mul (show S + 1 ≤ r by omega) (show S + 1 ≤ r by omega) (by omega) q0
    omega
theorem or_low (x y : Int) (h0 : 0 ≤ x) (h1 : x < 18446744073709551616) (h2 : x % 4 = 0) (h3 : 0 ≤ y) (h4 : y ≤ 3) : Go.bits .or .u64 x y = x + y := by
  rw [u64_or x y h0 h1 h3 (by omega), nat_join 2 x.toNat y.toNat (by omega) (by omega)]
  omega
theorem or_half (x y : Int) (h0 : 0 ≤ x) (h1 : x < 18446744073709551616) (h2 : x % 4294967296 = 0) (h3 : 0 ≤ y) (h4 : y < 4294967296) : Go.bits .or .u64 x y = x + y := by
  rw [u64_or x y h0 h1 h3 (by omega), nat_join 32 x.toNat y.toNat (by omega) (by omega)]
  omega
theorem and_half (x : Int) (h0 : 0 ≤ x) (h1 : x < 18446744073709551616) : Go.bits .and .u64 x 4294967295 = x % 4294967296 := by
  rw [u64_and x 4294967295 h0 h1 (by omega) (by omega)]
  have e : x.toNat &&& (4294967295 : Int).toNat = x.toNat % 4294967296 := Nat.and_two_pow_sub_one_eq_mod x.toNat 32
  rw [e]
  omega
/-- The product, by halves. -/
theorem times_eq {x y : Int} (hx : isU64 x = true) (hy : isU64 y = true) : ∃ h l, pacemakerref02_Times.f x y = some (h, l) ∧ isU64 h = true ∧ isU64 l = true ∧ wideOf h l = x * y := by
  have rx := isU64_out hx
  have ry := isU64_out hy
  unfold pacemakerref02_Times.f
  rw [and_half x rx.1 rx.2, and_half y ry.1 ry.2]
  have ex : x = x / 4294967296 * 4294967296 + x % 4294967296 := by omega
  have ey : y = y / 4294967296 * 4294967296 + y % 4294967296 := by omega
  have x10 : 0 ≤ x / 4294967296 ∧ x / 4294967296 ≤ 4294967295 := by omega
  have x00 : 0 ≤ x % 4294967296 ∧ x % 4294967296 ≤ 4294967295 := by omega
  have y10 : 0 ≤ y / 4294967296 ∧ y / 4294967296 ≤ 4294967295 := by omega
  have y00 : 0 ≤ y % 4294967296 ∧ y % 4294967296 ≤ 4294967295 := by omega
  generalize x / 4294967296 = x1 at *
  generalize x % 4294967296 = x0 at *
  generalize y / 4294967296 = y1 at *
  generalize y % 4294967296 = y0 at *
  have p11 := Int.mul_nonneg x10.1 y10.1
  have p10 := Int.mul_nonneg x10.1 y00.1
  have p01 := Int.mul_nonneg x00.1 y10.1
  have p00 := Int.mul_nonneg x00.1 y00.1
  have q11 : x1 * y1 ≤ 4294967295 * 4294967295 := Int.mul_le_mul x10.2 y10.2 y10.1 (by omega)
  have q10 : x1 * y0 ≤ 4294967295 * 4294967295 := Int.mul_le_mul x10.2 y00.2 y00.1 (by omega)
  have q01 : x0 * y1 ≤ 4294967295 * 4294967295 := Int.mul_le_mul x00.2 y10.2 y10.1 (by omega)
  have q00 : x0 * y0 ≤ 4294967295 * 4294967295 := Int.mul_le_mul x00.2 y00.2 y00.1 (by omega)
  have e : x * y = x1 * y1 * 18446744073709551616 + (x1 * y0 + x0 * y1) * 4294967296 + x0 * y0 := by rw [ex, ey]; grind
  rw [e]
  generalize x1 * y1 = a at *
  generalize x1 * y0 = b at *
  generalize x0 * y1 = c at *
  generalize x0 * y0 = d at *
  rw [u64_id (x := d) (by omega) (by omega), u64_id (x := b) (by omega) (by omega), u64_id (x := c) (by omega) (by omega), u64_id (x := a) (by omega) (by omega), u64_id (x := b + d / 4294967296) (by omega) (by omega)]
  rw [and_half (b + d / 4294967296) (by omega) (by omega), and_half d (by omega) (by omega)]
  rw [u64_id (x := c + (b + d / 4294967296) % 4294967296) (by omega) (by omega), u64_id (x := a + (b + d / 4294967296) / 4294967296) (by omega) (by omega)]
  rw [u64_mod ((c + (b + d / 4294967296) % 4294967296) * 4294967296), or_half _ _ (by omega) (by omega) (by omega) (by omega) (by omega), u64_id (x := a + (b + d / 4294967296) / 4294967296 + (c + (b + d / 4294967296) % 4294967296) / 4294967296) (by omega) (by omega)]
  refine ⟨_, _, rfl, isU64_mk (by omega) (by omega), isU64_mk (by omega) (by omega), ?_⟩
  unfold wideOf
  omega
theorem product_eq {x y : Int} (hx : 0 ≤ x ∧ x < 18446744073709551616) (hy : 0 ≤ y ∧ y < 18446744073709551616) : ∃ h l, pacemakerref10_product.f x y = some (h, l) ∧ isU64 h = true ∧ isU64 l = true ∧ wideOf h l = x * y := by
  obtain ⟨h, l, e, u1, u2, w⟩ := times_eq (isU64_mk hx.1 hx.2) (isU64_mk hy.1 hy.2)
  refine ⟨h, l, ?_, u1, u2, w⟩
  unfold pacemakerref10_product.f
  rw [u64_id hx.1 hx.2, u64_id hy.1 hy.2, e]
  rfl
/-- The pair of bits at a place. -/
theorem two_eq {ah al : Int} (h0 : isU64 ah = true) (h1 : isU64 al = true) (i : Nat) (hi : i ≤ 63) : pacemakerref03_two.f ah al i = some (wideOf ah al / 4 ^ i % 4) := by
  have r0 := isU64_out h0
  have r1 := isU64_out h1
  have p4 : ∀ j : Nat, (4 : Int) ^ j = 2 ^ (2 * j) := fun j => by rw [Int.pow_mul]; rfl
  have sh : ∀ (z : Int) (j : Nat), 0 ≤ z → j ≤ 31 → Int.tmod (shr .u64 z (2 * (j : Int))) 4 = z / 4 ^ j % 4 := by
    intro z j hz hj
    have e1 : min (2 * (j : Int)).toNat IntKind.u64.bits = 2 * j := by
      have : IntKind.u64.bits = 64 := rfl
      rw [this]
      omega
    unfold shr
    rw [e1, p4]
    exact Int.tmod_eq_emod_of_nonneg (Int.ediv_nonneg hz (Int.le_of_lt (pow_pos_int _)))
  unfold pacemakerref03_two.f
  by_cases c : (i : Int) ≥ 32
  · rw [if_pos c, wrap_id (x := (i : Int) - 32) (by omega) (by omega), wrap_id (x := 2 * ((i : Int) - 32)) (by omega) (by omega), if_pos (by omega)]
    have e : (i : Int) - 32 = ((i - 32 : Nat) : Int) := by omega
    rw [e, sh ah (i - 32) r0.1 (by omega)]
    have e2 : wideOf ah al / 4 ^ i = ah / 4 ^ (i - 32) := by
      have : i = 32 + (i - 32) := by omega
      rw [p4, this, show 2 * (32 + (i - 32)) = 64 + 2 * (i - 32) by omega, ← div_div_pow, p4, show 32 + (i - 32) - 32 = i - 32 by omega]
      have e64 : (2 : Int) ^ 64 = 18446744073709551616 := by decide
      rw [e64]
      congr 1
      unfold wideOf
      omega
    rw [e2]
  · rw [if_neg c, wrap_id (x := 2 * (i : Int)) (by omega) (by omega), if_pos (by omega), sh al i r1.1 (by omega)]
    have e2 : wideOf ah al / 4 ^ i % 4 = al / 4 ^ i % 4 := by
      rw [p4]
      have e64 : (18446744073709551616 : Int) = 2 ^ (62 - 2 * i) * 4 * 2 ^ (2 * i) := by
        have h : (2 : Nat) ^ (62 - 2 * i) * 4 * 2 ^ (2 * i) = 2 ^ 64 := by
          rw [show (4 : Nat) = 2 ^ 2 from rfl, ← Nat.pow_add, ← Nat.pow_add]
          congr 1
          omega
        have h' : ((2 ^ (62 - 2 * i) * 4 * 2 ^ (2 * i) : Nat) : Int) = ((2 ^ 64 : Nat) : Int) := by rw [h]
        simp only [Int.natCast_mul, Int.natCast_pow] at h'
        simpa using h'.symm
      unfold wideOf
      rw [e64, Int.add_comm, ← Int.mul_assoc, Int.add_mul_ediv_right _ _ (by have := pow_pos_int (2 * i); omega), ← Int.mul_assoc]
      omega
    rw [e2]
/-- What holds with `n` pairs to go. -/
def QInv (A : Int) (n : Nat) (s rest : Int) (over : Bool) : Prop :=
  0 ≤ s ∧ s < 2 ^ (64 - n) ∧ 0 ≤ rest ∧ rest < 18446744073709551616 ∧ A / 4 ^ n = s * s + (rest + (if over = true then 18446744073709551616 else 0)) ∧ rest + (if over = true then 18446744073709551616 else 0) ≤ 2 * s
theorem next_pair (A : Int) (n : Nat) : A / 4 ^ n = 4 * (A / 4 ^ (n + 1)) + A / 4 ^ n % 4 := by
  have e : (4 : Int) ^ (n + 1) = 4 ^ n * 4 := Int.pow_succ _ _
  have hp : (0 : Int) ≤ 4 ^ n := Int.pow_nonneg (by omega)
  rw [e, ← Int.ediv_ediv_of_nonneg hp]
  omega
/-- One round: a digit 1, if it goes into what is left. -/
theorem pair_step {s r p : Int} (hs : 0 ≤ s) (hs2 : s < 9223372036854775808) (hr : 0 ≤ r) (hr2 : r ≤ 2 * s) (hp : 0 ≤ p) (hp2 : p ≤ 3) (q : Int) (hq : q = s * s) :
    (4 * s + 1 ≤ 4 * r + p → (2 * s + 1) * (2 * s + 1) + (4 * r + p - (4 * s + 1)) = 4 * (q + r) + p ∧ 4 * r + p - (4 * s + 1) ≤ 2 * (2 * s + 1)) ∧ (4 * r + p < 4 * s + 1 → 2 * s * (2 * s) + (4 * r + p) = 4 * (q + r) + p ∧ 4 * r + p ≤ 2 * (2 * s)) := by
  refine ⟨fun h => ⟨?_, by omega⟩, fun h => ⟨?_, by omega⟩⟩
  · rw [hq]; grind
  · rw [hq]; grind
theorem or_dbl' (s : Int) (h0 : 0 ≤ s) (h1 : s < 9223372036854775808) : Go.bits .or .u64 (s * 2) 1 = s * 2 + 1 := or_even _ _ (by omega) (by omega) (by omega) (by omega) (by omega)
theorem sq_round {ah al s rest : Int} {over : Bool} (h0 : isU64 ah = true) (h1 : isU64 al = true) (n k : Nat) (hn : n ≤ 63) (hv : QInv (wideOf ah al) (n + 1) s rest over) :
    ∃ s' rest' over', pacemakerref03_SqrtWide.l0 (k + 3) s rest over n ah al = pacemakerref03_SqrtWide.l0 k s' rest' over' ((n : Int) - 1) ah al ∧ QInv (wideOf ah al) n s' rest' over' := by
  obtain ⟨v0, v1, v2, v3, v4, v5⟩ := hv
  have hp : s < 9223372036854775808 := by
    have : (2 : Int) ^ (64 - (n + 1)) ≤ 2 ^ 63 := pow_two_le (by omega)
    have e : (2 : Int) ^ 63 = 9223372036854775808 := by decide
    omega
  have e64 : (2 : Int) ^ (64 - n) = 2 * 2 ^ (64 - (n + 1)) := by
    have : 64 - n = (64 - (n + 1)) + 1 := by omega
    rw [this, Int.pow_succ]
    omega
  have np := next_pair (wideOf ah al) n
  have tw := two_eq h0 h1 n hn
  have hpr : 0 ≤ wideOf ah al / 4 ^ n % 4 ∧ wideOf ah al / 4 ^ n % 4 ≤ 3 := by omega
  rw [v4] at np
  unfold QInv
  rw [e64]
  generalize wideOf ah al / 4 ^ n = An at *
  generalize An % 4 = p at *
  obtain ⟨ps1, ps2⟩ := pair_step v0 hp (show 0 ≤ rest + (if over = true then 18446744073709551616 else 0) by split <;> omega) v5 hpr.1 hpr.2 (s * s) rfl
  have or1 : Go.bits .or .u64 (IntKind.u64.wrap (rest * 4)) p = rest * 4 % 18446744073709551616 + p := by rw [u64_mod, or_low _ _ (by omega) (by omega) (by omega) hpr.1 hpr.2]
  have or2 : Go.bits .or .u64 (IntKind.u64.wrap (s * 4)) 1 = s * 4 % 18446744073709551616 + 1 := by rw [u64_mod, or_low _ _ (by omega) (by omega) (by omega) (by omega) (by omega)]
  have or3 : Go.bits .or .u64 (IntKind.u64.wrap (s * 2)) 1 = s * 2 + 1 := by rw [u64_id (by omega) (by omega), or_dbl' s v0 hp]
  have w2 : IntKind.u64.wrap (s * 2) = s * 2 := u64_id (by omega) (by omega)
  have wi : wrap64 ((n : Int) - 1) = (n : Int) - 1 := wrap_id (by omega) (by omega)
  -- the head of the round
  obtain ⟨T, hT, head⟩ : ∃ T : Int, T = (rest + (if over = true then 18446744073709551616 else 0)) / 4611686018427387904 ∧ pacemakerref03_SqrtWide.l0 (k + 3) s rest over n ah al = pacemakerref03_SqrtWide.j1 (k + 2) s rest n T ah al := by
    refine ⟨_, rfl, ?_⟩
    simp only [pacemakerref03_SqrtWide.l0]
    rw [if_pos (by omega)]
    cases over with
    | true =>
      rw [if_pos rfl, u64_id (x := rest / 4611686018427387904 + 4) (by omega) (by omega)]
      simp only [if_true]
      congr 1
      omega
    | false => rw [if_neg (by decide), if_neg (by decide), Int.add_zero]
  rw [head]
  simp only [pacemakerref03_SqrtWide.j1]
  rw [tw]
  simp only [Option.bind_some]
  rw [or1, or2]
  generalize hR : rest + (if over = true then 18446744073709551616 else 0) = R at *
  have hm : rest * 4 % 18446744073709551616 = R * 4 % 18446744073709551616 := by
    rw [← hR]
    split <;> omega
  have hR0 : 0 ≤ R := by rw [← hR]; split <;> omega
  rw [hm]
  by_cases big : 4 * s + 1 ≤ 4 * R + p
  · obtain ⟨b1, b2⟩ := ps1 big
    have j2 : pacemakerref03_SqrtWide.j2 (k + 1) (IntKind.u64.wrap (s * 2)) (R * 4 % 18446744073709551616 + p) n T (s * 4 % 18446744073709551616 + 1) (s / 4611686018427387904) true ah al = pacemakerref03_SqrtWide.l0 k (s * 2 + 1) ((4 * R + p - (4 * s + 1)) % 18446744073709551616) (decide (18446744073709551616 ≤ 4 * R + p - (4 * s + 1))) ((n : Int) - 1) ah al := by
      simp only [pacemakerref03_SqrtWide.j2, if_true]
      rw [or3, wi]
      have ew : IntKind.u64.wrap (R * 4 % 18446744073709551616 + p - (s * 4 % 18446744073709551616 + 1)) = (4 * R + p - (4 * s + 1)) % 18446744073709551616 := by rw [u64_mod]; omega
      rw [ew]
      by_cases c : R * 4 % 18446744073709551616 + p < s * 4 % 18446744073709551616 + 1
      · rw [if_pos c]
        rw [u64_id (x := T - 1) (by omega) (by omega), u64_id (x := T - 1 - s / 4611686018427387904) (by omega) (by omega)]
        congr 1
        rw [decide_eq_decide]
        omega
      · rw [if_neg c]
        rw [u64_id (x := T - s / 4611686018427387904) (by omega) (by omega)]
        congr 1
        rw [decide_eq_decide]
        omega
    refine ⟨s * 2 + 1, (4 * R + p - (4 * s + 1)) % 18446744073709551616, decide (18446744073709551616 ≤ 4 * R + p - (4 * s + 1)), ?_, ?_⟩
    · by_cases c1 : T > s / 4611686018427387904
      · rw [if_pos c1]; exact j2
      · rw [if_neg c1, if_pos (by omega), decide_eq_true (by omega)]; exact j2
    · have ed : (4 * R + p - (4 * s + 1)) % 18446744073709551616 + (if decide (18446744073709551616 ≤ 4 * R + p - (4 * s + 1)) = true then 18446744073709551616 else 0) = 4 * R + p - (4 * s + 1) := by
        by_cases c : 18446744073709551616 ≤ 4 * R + p - (4 * s + 1)
        · rw [if_pos (by simpa using c)]; omega
        · rw [if_neg (by simpa using c)]; omega
      rw [ed]
      refine ⟨by omega, by omega, by omega, by omega, ?_, by omega⟩
      have : (s * 2 + 1) * (s * 2 + 1) = (2 * s + 1) * (2 * s + 1) := by rw [Int.mul_comm s 2]
      rw [this]
      omega
  · obtain ⟨b1, b2⟩ := ps2 (by omega)
    refine ⟨s * 2, (4 * R + p) % 18446744073709551616, decide (18446744073709551616 ≤ 4 * R + p), ?_, ?_⟩
    · have j2 : pacemakerref03_SqrtWide.j2 (k + 1) (IntKind.u64.wrap (s * 2)) (R * 4 % 18446744073709551616 + p) n T (s * 4 % 18446744073709551616 + 1) (s / 4611686018427387904) false ah al = pacemakerref03_SqrtWide.l0 k (s * 2) ((4 * R + p) % 18446744073709551616) (decide (18446744073709551616 ≤ 4 * R + p)) ((n : Int) - 1) ah al := by
        simp only [pacemakerref03_SqrtWide.j2]
        rw [if_neg (by decide), w2, wi]
        have e1 : R * 4 % 18446744073709551616 + p = (4 * R + p) % 18446744073709551616 := by omega
        have e2 : decide (T > 0) = decide (18446744073709551616 ≤ 4 * R + p) := by
          rw [decide_eq_decide]
          omega
        rw [e1, e2]
      rw [if_neg (by omega)]
      by_cases c1 : T = s / 4611686018427387904
      · rw [if_pos c1, decide_eq_false (by omega)]; exact j2
      · rw [if_neg c1]; exact j2
    · have ed : (4 * R + p) % 18446744073709551616 + (if decide (18446744073709551616 ≤ 4 * R + p) = true then 18446744073709551616 else 0) = 4 * R + p := by
        by_cases c : 18446744073709551616 ≤ 4 * R + p
        · rw [if_pos (by simpa using c)]; omega
        · rw [if_neg (by simpa using c)]; omega
      rw [ed]
      refine ⟨by omega, by omega, by omega, by omega, ?_, by omega⟩
      have : s * 2 * (s * 2) = 2 * s * (2 * s) := by rw [Int.mul_comm s 2]
      rw [this]
      omega
theorem sq_run {ah al : Int} (h0 : isU64 ah = true) (h1 : isU64 al = true) (n : Nat) :
    ∀ (s rest : Int) (over : Bool) (k : Nat), n ≤ 64 → QInv (wideOf ah al) n s rest over → 3 * n + 1 ≤ k → pacemakerref03_SqrtWide.l0 k s rest over ((n : Int) - 1) ah al = some (rootOf (wideOf ah al)) := by
  induction n with
  | zero =>
    intro s rest over k hn hv hk
    obtain ⟨k, rfl⟩ : ∃ m, k = m + 1 := ⟨k - 1, by omega⟩
    obtain ⟨v0, v1, v2, v3, v4, v5⟩ := hv
    simp only [pacemakerref03_SqrtWide.l0]
    rw [if_neg (by omega)]
    have w := wide_range h0 h1
    rw [Int.pow_zero, Int.ediv_one] at v4
    have hR : 0 ≤ rest + (if over = true then 18446744073709551616 else 0) := by split <;> omega
    generalize rest + (if over = true then 18446744073709551616 else 0) = R at *
    congr 1
    refine (root_unique v0 (by omega) ?_ w.2).symm
    have : (s + 1) * (s + 1) = s * s + 2 * s + 1 := by grind
    omega
  | succ n ih =>
    intro s rest over k hn hv hk
    obtain ⟨k, rfl⟩ : ∃ m, k = m + 3 := ⟨k - 3, by omega⟩
    rw [show ((n + 1 : Nat) : Int) - 1 = (n : Int) by omega]
    obtain ⟨s', rest', over', e, hv'⟩ := sq_round h0 h1 n k (by omega) hv
    rw [e]
    exact ih s' rest' over' k (by omega) hv' (by omega)
theorem ref_root {ah al : Int} (h0 : isU64 ah = true) (h1 : isU64 al = true) (k : Nat) (hk : 193 ≤ k) : pacemakerref03_SqrtWide.f k ah al = some (rootOf (wideOf ah al)) := by
  unfold pacemakerref03_SqrtWide.f
  refine sq_run h0 h1 64 0 0 false k (by omega) ⟨by omega, by decide, by omega, by omega, ?_, by decide⟩ (by omega)
  have w := wide_range h0 h1
  have e : (4 : Int) ^ 64 = 340282366920938463463374607431768211456 := by decide
  rw [e, Int.ediv_eq_zero_of_lt w.1 w.2]
  decide
end Go.Proofs.Ytlokmliannklaaa.Print
end
