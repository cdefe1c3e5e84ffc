/- The reference's ratio, bit by bit over 148 bits, is the ratio. -/
import Derived.Test.YtlokmliannklaaaQPrint5
section
namespace Go.Proofs.Ytlokmliannklaaa.Print
open Go.RowKit Go.Proofs.YtlokmliannklaaaW.PrintWords Go.Proofs.YtlokmliannklaaaW.PrintLast Go.Proofs.YtlokmliannklaaaW.PrintMore
set_option linter.unusedVariables false
set_option linter.unusedSimpArgs false

theorem u64_mod (x : Int) : IntKind.u64.wrap x = x % 18446744073709551616 := by simp [IntKind.wrap, IntKind.bits, IntKind.signed]
theorem wrap_id' {x : Int} (h0 : -9223372036854775808 ≤ x) (h1 : x ≤ 9223372036854775807) : wrap64 x = x := by unfold wrap64; omega
theorem or_dbl (x y : Int) (hx : isU64 x = true) (hy : 0 ≤ y) (h1 : y ≤ 1) : Go.bits .or .u64 (IntKind.u64.wrap (x * 2)) y = x * 2 % 18446744073709551616 + y := by
  have := isU64_out hx
  rw [u64_mod]
  exact or_even _ _ (by omega) (by omega) (by omega) hy h1
theorem less_eq (ah al bh bl : Int) (ha : isU64 al = true) (hb : isU64 bl = true) : pacemakerref10_less.f ah al bh bl = some (decide (wideOf ah al < wideOf bh bl)) := by
  have := isU64_out ha
  have := isU64_out hb
  unfold pacemakerref10_less.f wideOf
  by_cases c : ah < bh
  · rw [if_pos c, decide_eq_true (by omega)]
  · rw [if_neg c]
    by_cases e : ah = bh
    · rw [if_pos e]
      congr 1
      rw [decide_eq_decide]
      omega
    · rw [if_neg e, decide_eq_false (by omega)]
theorem minus_eq (ah al bh bl : Int) (h0 : isU64 ah = true) (h1 : isU64 al = true) (h2 : isU64 bh = true) (h3 : isU64 bl = true) :
    ∃ h l, pacemakerref10_minus.f ah al bh bl = some (h, l) ∧ isU64 h = true ∧ isU64 l = true ∧ wideOf h l = (wideOf ah al - wideOf bh bl) % 340282366920938463463374607431768211456 := by
  have := isU64_out h0
  have := isU64_out h1
  have := isU64_out h2
  have := isU64_out h3
  unfold pacemakerref10_minus.f wideOf
  by_cases c : al < bl
  · rw [if_pos c]
    refine ⟨_, _, rfl, isU64_mk ?_ ?_, isU64_mk ?_ ?_, ?_⟩ <;> (simp only [u64_mod]; omega)
  · rw [if_neg c]
    refine ⟨_, _, rfl, isU64_mk ?_ ?_, isU64_mk ?_ ?_, ?_⟩ <;> (simp only [u64_mod]; omega)
theorem dbl_eq (rh rl bit : Int) (h0 : isU64 rh = true) (h1 : isU64 rl = true) (hb0 : 0 ≤ bit) (hb1 : bit ≤ 1) :
    isU64 (Go.bits .or .u64 (IntKind.u64.wrap (rh * 2)) (rl / 9223372036854775808)) = true ∧ isU64 (Go.bits .or .u64 (IntKind.u64.wrap (rl * 2)) bit) = true ∧
      wideOf (Go.bits .or .u64 (IntKind.u64.wrap (rh * 2)) (rl / 9223372036854775808)) (Go.bits .or .u64 (IntKind.u64.wrap (rl * 2)) bit) = (2 * wideOf rh rl + bit) % 340282366920938463463374607431768211456 ∧
      (rh / 9223372036854775808 == 1) = decide (340282366920938463463374607431768211456 ≤ 2 * wideOf rh rl + bit) := by
  have := isU64_out h0
  have := isU64_out h1
  rw [or_dbl rh _ h0 (by omega) (by omega), or_dbl rl _ h1 hb0 hb1]
  refine ⟨isU64_mk (by omega) (by omega), isU64_mk (by omega) (by omega), by unfold wideOf; omega, ?_⟩
  rw [Bool.eq_iff_iff]
  simp only [beq_iff_eq, decide_eq_true_eq]
  unfold wideOf
  omega
theorem pow_two_le {a b : Nat} (h : a ≤ b) : (2 : Int) ^ a ≤ 2 ^ b := by
  have : ((2 ^ a : Nat) : Int) ≤ ((2 ^ b : Nat) : Int) := Int.ofNat_le.2 (Nat.pow_le_pow_right (by omega) h)
  simpa using this
theorem div_div_pow (X : Int) (a b : Nat) : X / 2 ^ a / 2 ^ b = X / 2 ^ (a + b) := by
  rw [Int.pow_add, Int.ediv_ediv_of_nonneg (Int.le_of_lt (pow_pos_int a))]
/-- The bits as the reference reads them. -/
theorem bit_high {ah al : Int} (h0 : isU64 ah = true) (h1 : isU64 al = true) (i : Nat) (hi : 84 ≤ i) (hi2 : i ≤ 147) :
    Int.tmod (shr .u64 ah ((i : Int) - 84)) 2 = wideOf ah al * 1048576 / 2 ^ i % 2 := by
  have r0 := isU64_out h0
  have r1 := isU64_out h1
  have e1 : min ((i : Int) - 84).toNat IntKind.u64.bits = i - 84 := by
    have : IntKind.u64.bits = 64 := rfl
    rw [this]
    omega
  unfold shr
  rw [e1]
  have e : wideOf ah al * 1048576 / 2 ^ i = ah / 2 ^ (i - 84) := by
    have : i = 84 + (i - 84) := by omega
    rw [this, ← div_div_pow]
    have e84 : (2 : Int) ^ 84 = 19342813113834066795298816 := by decide
    rw [e84, show 84 + (i - 84) - 84 = i - 84 by omega]
    congr 1
    unfold wideOf
    omega
  rw [e]
  exact Int.tmod_eq_emod_of_nonneg (Int.ediv_nonneg r0.1 (Int.le_of_lt (pow_pos_int _)))
theorem bit_low {ah al : Int} (h0 : isU64 ah = true) (h1 : isU64 al = true) (i : Nat) (hi : 20 ≤ i) (hi2 : i < 84) :
    Int.tmod (shr .u64 al ((i : Int) - 20)) 2 = wideOf ah al * 1048576 / 2 ^ i % 2 := by
  have r0 := isU64_out h0
  have r1 := isU64_out h1
  have e1 : min ((i : Int) - 20).toNat IntKind.u64.bits = i - 20 := by
    have : IntKind.u64.bits = 64 := rfl
    rw [this]
    omega
  unfold shr
  rw [e1]
  have e : wideOf ah al * 1048576 / 2 ^ i % 2 = al / 2 ^ (i - 20) % 2 := by
    have : i = 20 + (i - 20) := by omega
    rw [this, ← div_div_pow]
    have e20 : (2 : Int) ^ 20 = 1048576 := by decide
    rw [e20, show 20 + (i - 20) - 20 = i - 20 by omega, Int.mul_ediv_cancel _ (by omega)]
    have e64 : (18446744073709551616 : Int) = 2 ^ (64 - (i - 20) - 1) * 2 * 2 ^ (i - 20) := by
      have h : (2 : Nat) ^ (64 - (i - 20) - 1) * 2 * 2 ^ (i - 20) = 2 ^ 64 := by
        rw [← Nat.pow_succ, ← Nat.pow_add]
        congr 1
        omega
      have h' : ((2 ^ (64 - (i - 20) - 1) * 2 * 2 ^ (i - 20) : Nat) : Int) = ((2 ^ 64 : Nat) : Int) := by rw [h]
      simp only [Int.natCast_mul, Int.natCast_pow] at h'
      simpa using h'.symm
    unfold wideOf
    rw [e64, Int.add_comm, ← Int.mul_assoc, Int.add_mul_ediv_right _ _ (by have := pow_pos_int (i - 20); omega), ← Int.mul_assoc]
    omega
  rw [e]
  exact Int.tmod_eq_emod_of_nonneg (Int.ediv_nonneg r1.1 (Int.le_of_lt (pow_pos_int _)))
theorem bit_none {ah al : Int} (i : Nat) (hi : i < 20) : (0 : Int) = wideOf ah al * 1048576 / 2 ^ i % 2 := by
  have := low_bits (wideOf ah al) (i + 1) (by omega) (by omega)
  simpa using this.symm
/-- The head of a round: the bit is the number's own. -/
theorem ref_head {ah al bh bl rh rl q : Int} (h0 : isU64 ah = true) (h1 : isU64 al = true) (i k : Nat) (hi : i ≤ 147) :
    ∃ bit, bit = wideOf ah al * 1048576 / 2 ^ i % 2 ∧ pacemakerref10_Ratio.l0 (k + 1) q i ah al bh bl rh rl = pacemakerref10_Ratio.j2 k q i ((rh / 9223372036854775808) == 1) bit ah al bh bl rh rl := by
  refine ⟨_, rfl, ?_⟩
  simp only [pacemakerref10_Ratio.l0]
  rw [if_pos (by omega)]
  by_cases c : (i : Int) ≥ 84
  · rw [if_pos c, wrap_id' (by omega) (by omega), if_pos (by omega), bit_high h0 h1 i (by omega) hi]
  · rw [if_neg c]
    by_cases c2 : (i : Int) ≥ 20
    · rw [if_pos c2, wrap_id' (by omega) (by omega), if_pos (by omega), bit_low h0 h1 i (by omega) (by omega)]
    · rw [if_neg c2, ← bit_none i (by omega)]
/-- One round. -/
theorem ref_round {ah al bh bl rh rl q : Int} (h0 : isU64 ah = true) (h1 : isU64 al = true) (h2 : isU64 bh = true) (h3 : isU64 bl = true) (h4 : isU64 rh = true) (h5 : isU64 rl = true) (i k : Nat) (hi : i ≤ 147)
    (hq0 : 0 ≤ q) (hq : q < 4611686018427387904) (hr : RInv (wideOf ah al) (wideOf bh bl) (i + 1) q rh rl) :
    ∃ q' rh' rl', pacemakerref10_Ratio.l0 (k + 2) q i ah al bh bl rh rl = pacemakerref10_Ratio.l0 k q' ((i : Int) - 1) ah al bh bl rh' rl' ∧ isU64 rh' = true ∧ isU64 rl' = true ∧ 0 ≤ q' ∧ q' ≤ 2 * q + 1 ∧ RInv (wideOf ah al) (wideOf bh bl) i q' rh' rl' := by
  obtain ⟨bit, hbit, hl⟩ := ref_head (bh := bh) (bl := bl) (rh := rh) (rl := rl) (q := q) h0 h1 i (k + 1) hi
  rw [hl]
  obtain ⟨d0, d1, d2, d3⟩ := dbl_eq rh rl bit h4 h5 (by omega) (by omega)
  have nb := next_bit (wideOf ah al * 1048576) (i + 1) (by omega)
  simp only [Nat.add_sub_cancel] at nb
  rw [← hbit, hr.1] at nb
  have hlt := hr.2
  have w0 := wide_range h2 h3
  have w1 := wide_range h4 h5
  simp only [pacemakerref10_Ratio.j2]
  rw [if_neg (by omega), d3]
  generalize Go.bits .or .u64 (IntKind.u64.wrap (rh * 2)) (rl / 9223372036854775808) = H at *
  generalize Go.bits .or .u64 (IntKind.u64.wrap (rl * 2)) bit = L at *
  obtain ⟨mh, ml, me, m0, m1, m2⟩ := minus_eq H L bh bl d0 d1 h2 h3
  have hb2 : 0 ≤ bit ∧ bit ≤ 1 := by omega
  have nb2 : wideOf ah al * 1048576 / 2 ^ i = (2 * q) * wideOf bh bl + (2 * wideOf rh rl + bit) := by
    rw [nb, Int.mul_assoc 2 q]
    omega
  have nb3 : wideOf ah al * 1048576 / 2 ^ i = (2 * q + 1) * wideOf bh bl + (2 * wideOf rh rl + bit - wideOf bh bl) := by
    rw [nb2, Int.add_mul]
    omega
  rw [me, less_eq H L bh bl d1 h3, wrap_id' (x := (i : Int) - 1) (by omega) (by omega), wrap_id' (x := 2 * q) (by omega) (by omega), wrap_id' (x := 2 * q + 1) (by omega) (by omega), d2]
  rw [d2] at m2
  simp only [Option.bind_some]
  generalize wideOf bh bl = B at *
  generalize wideOf rh rl = R at *
  by_cases c : 340282366920938463463374607431768211456 ≤ 2 * R + bit
  · rw [decide_eq_true c, if_pos rfl]
    exact ⟨_, _, _, rfl, m0, m1, by omega, by omega, by rw [nb3, m2]; omega, by omega⟩
  · rw [decide_eq_false c, if_neg (by decide)]
    by_cases c2 : (2 * R + bit) % 340282366920938463463374607431768211456 < B
    · rw [decide_eq_true c2, if_pos rfl]
      exact ⟨_, _, _, rfl, d0, d1, by omega, by omega, by rw [nb2, d2]; omega, by omega⟩
    · rw [decide_eq_false c2, if_neg (by decide)]
      exact ⟨_, _, _, rfl, m0, m1, by omega, by omega, by rw [nb3, m2]; omega, by omega⟩
theorem ref_top {ah al bh bl rh rl q : Int} (h0 : isU64 ah = true) (h1 : isU64 al = true) (i k : Nat) (hi : i ≤ 147) (hq : 4611686018427387904 ≤ q) :
    pacemakerref10_Ratio.l0 (k + 2) q i ah al bh bl rh rl = some 4611686018427387904 := by
  obtain ⟨bit, hbit, hl⟩ := ref_head (bh := bh) (bl := bl) (rh := rh) (rl := rl) (q := q) h0 h1 i (k + 1) hi
  rw [hl]
  simp only [pacemakerref10_Ratio.j2]
  rw [if_pos (by omega)]
theorem mn_left {a b : Int} (h : a ≤ b) : mn a b = a := by unfold mn; split <;> omega
theorem mn_right {a b : Int} (h : b ≤ a) : mn a b = b := by unfold mn; split <;> omega
theorem ref_end {ah al bh bl rh rl q : Int} (h2 : isU64 bh = true) (h3 : isU64 bl = true) (h4 : isU64 rh = true) (h5 : isU64 rl = true) (k : Nat) (hA : wideOf ah al ≠ 0) (hB : 0 < wideOf bh bl)
    (hq0 : 0 ≤ q) (hr : RInv (wideOf ah al) (wideOf bh bl) 0 q rh rl) :
    pacemakerref10_Ratio.l0 (k + 1) q (-1) ah al bh bl rh rl = some (ratioOf (wideOf ah al) (wideOf bh bl)) := by
  simp only [pacemakerref10_Ratio.l0]
  rw [if_neg (by omega)]
  by_cases c : q < 4611686018427387904
  · rw [if_pos c, ratio_end hr hA hB h4 h5 c]
    obtain ⟨mh, ml, me, m0, m1, m2⟩ := minus_eq bh bl rh rl h2 h3 h4 h5
    have w0 := wide_range h2 h3
    have w1 := wide_range h4 h5
    have hlt := hr.2
    rw [me]
    simp only [Option.bind_some]
    rw [less_eq rh rl mh ml h5 m1, m2]
    simp only [Option.bind_some]
    rw [wrap_id' (x := q + 1) (by omega) (by omega)]
    by_cases d : wideOf rh rl < (wideOf bh bl - wideOf rh rl) % 340282366920938463463374607431768211456
    · rw [decide_eq_true d, if_pos rfl, if_neg (by omega), mn_left (by omega)]
    · rw [decide_eq_false d, if_neg (by decide), if_pos (by omega), mn_left (by omega)]
  · rw [if_neg c, ratio_top hr hA hB h4 h5 (by omega), mn_right (by omega)]
theorem ref_run {ah al bh bl : Int} (h0 : isU64 ah = true) (h1 : isU64 al = true) (h2 : isU64 bh = true) (h3 : isU64 bl = true) (hA : wideOf ah al ≠ 0) (hB : 0 < wideOf bh bl) (n : Nat) :
    ∀ (q rh rl : Int) (k : Nat), n ≤ 148 → isU64 rh = true → isU64 rl = true → 0 ≤ q → RInv (wideOf ah al) (wideOf bh bl) n q rh rl → 2 * n + 1 ≤ k →
      pacemakerref10_Ratio.l0 k q ((n : Int) - 1) ah al bh bl rh rl = some (ratioOf (wideOf ah al) (wideOf bh bl)) := by
  induction n with
  | zero =>
    intro q rh rl k hn h4 h5 hq hr hk
    obtain ⟨k, rfl⟩ : ∃ m, k = m + 1 := ⟨k - 1, by omega⟩
    exact ref_end h2 h3 h4 h5 k hA hB hq hr
  | succ n ih =>
    intro q rh rl k hn h4 h5 hq hr hk
    obtain ⟨k, rfl⟩ : ∃ m, k = m + 2 := ⟨k - 2, by omega⟩
    rw [show ((n + 1 : Nat) : Int) - 1 = (n : Int) by omega]
    by_cases c : q < 4611686018427387904
    · obtain ⟨q', rh', rl', e, g4, g5, gq, gq2, gr⟩ := ref_round h0 h1 h2 h3 h4 h5 n k (by omega) hq c hr
      rw [e]
      exact ih q' rh' rl' k (by omega) g4 g5 gq gr (by omega)
    · rw [ref_top h0 h1 n k (by omega) (by omega), ratio_top hr hA hB h4 h5 (by omega)]
/-- By 0: each bit is 1. -/
theorem ref_zero {ah al : Int} (h0 : isU64 ah = true) (h1 : isU64 al = true) (d : Nat) :
    ∀ (q rh rl : Int) (k i : Nat), isU64 rh = true → isU64 rl = true → d ≤ 63 → i = d + 84 → q = 2 ^ (63 - d) - 1 → 2 * d + 2 ≤ k →
      pacemakerref10_Ratio.l0 k q (i : Int) ah al 0 0 rh rl = some 4611686018427387904 := by
  induction d with
  | zero =>
    intro q rh rl k i h4 h5 hd hi hq hk
    obtain ⟨k, rfl⟩ : ∃ m, k = m + 2 := ⟨k - 2, by omega⟩
    exact ref_top h0 h1 i k (by omega) (by rw [hq]; decide)
  | succ d ih =>
    intro q rh rl k i h4 h5 hd hi hq hk
    obtain ⟨k, rfl⟩ : ∃ m, k = m + 2 := ⟨k - 2, by omega⟩
    by_cases c : 4611686018427387904 ≤ q
    · exact ref_top h0 h1 i k (by omega) c
    obtain ⟨bit, hbit, hl⟩ := ref_head (bh := 0) (bl := 0) (rh := rh) (rl := rl) (q := q) h0 h1 i (k + 1) (by omega)
    rw [hl]
    obtain ⟨d0, d1, d2, d3⟩ := dbl_eq rh rl bit h4 h5 (by omega) (by omega)
    have hz : isU64 0 = true := by decide
    simp only [pacemakerref10_Ratio.j2]
    rw [if_neg (by omega)]
    generalize Go.bits .or .u64 (IntKind.u64.wrap (rh * 2)) (rl / 9223372036854775808) = H at *
    generalize Go.bits .or .u64 (IntKind.u64.wrap (rl * 2)) bit = L at *
    obtain ⟨mh, ml, me, m0, m1, m2⟩ := minus_eq H L 0 0 d0 d1 hz hz
    have wr := wide_range d0 d1
    have hp : 0 ≤ q := by rw [hq]; have := pow_pos_int (63 - (d + 1)); omega
    have hq2 : 2 * q + 1 = 2 ^ (63 - d) - 1 := by
      have : 63 - d = (63 - (d + 1)) + 1 := by omega
      rw [this, Int.pow_succ, hq]
      omega
    rw [me, less_eq H L 0 0 d1 hz, wrap_id' (x := (i : Int) - 1) (by omega) (by omega), wrap_id' (x := 2 * q) (by omega) (by omega), wrap_id' (x := 2 * q + 1) (by omega) (by omega), decide_eq_false (by unfold wideOf at *; omega)]
    simp only [Option.bind_some]
    have hi' : (i : Int) - 1 = ((i - 1 : Nat) : Int) := by omega
    rw [hi', if_neg (by decide : ¬ (false = true))]
    have := ih (2 * q + 1) mh ml k (i - 1) m0 m1 (by omega) (by omega) hq2 (by omega)
    rw [this]
    simp
/-- The reference's ratio is the ratio. -/
theorem ref_ratio {ah al bh bl : Int} (h0 : isU64 ah = true) (h1 : isU64 al = true) (h2 : isU64 bh = true) (h3 : isU64 bl = true) (k : Nat) (hk : 400 ≤ k) :
    pacemakerref10_Ratio.f k ah al bh bl = some (ratioOf (wideOf ah al) (wideOf bh bl)) := by
  have r0 := isU64_out h0
  have r1 := isU64_out h1
  have w0 := wide_range h0 h1
  have w2 := wide_range h2 h3
  obtain ⟨k, rfl⟩ : ∃ m, k = m + 1 := ⟨k - 1, by omega⟩
  have hz : isU64 0 = true := by decide
  have e : pacemakerref10_Ratio.f (k + 1) ah al bh bl = if wideOf ah al = 0 then some 0 else pacemakerref10_Ratio.l0 k 0 147 ah al bh bl 0 0 := by
    unfold pacemakerref10_Ratio.f
    by_cases c : ah = 0
    · rw [if_pos c]
      simp only [pacemakerref10_Ratio.j0]
      by_cases c2 : al = 0
      · rw [if_pos (by simp [c2]), if_pos (by unfold wideOf; omega)]
      · rw [if_neg (by simp [c2]), if_neg (by unfold wideOf; omega)]
    · rw [if_neg c]
      simp only [pacemakerref10_Ratio.j0]
      rw [if_neg (by decide), if_neg (by unfold wideOf; omega)]
  rw [e]
  by_cases hA : wideOf ah al = 0
  · rw [if_pos hA, ratioOf, if_pos hA]
  · rw [if_neg hA]
    by_cases hB : wideOf bh bl = 0
    · have e1 := isU64_out h2
      have e2 := isU64_out h3
      have b0 : bh = 0 := by unfold wideOf at hB; omega
      have b1 : bl = 0 := by unfold wideOf at hB; omega
      rw [ratioOf, if_neg hA, if_pos hB, b0, b1]
      exact ref_zero h0 h1 63 0 0 0 k 147 hz hz (by omega) (by omega) (by decide) (by omega)
    · have hr : RInv (wideOf ah al) (wideOf bh bl) 148 0 0 0 := by
        refine ⟨?_, by unfold wideOf at *; omega⟩
        rw [Int.ediv_eq_zero_of_lt (by omega) (by have e148 : (2 : Int) ^ 148 = 356811923176489970264571492362373784095686656 := by decide
                                                  rw [e148]; omega)]
        unfold wideOf
        omega
      exact ref_run h0 h1 h2 h3 hA (by omega) 148 0 0 0 k (by omega) hz hz (by omega) hr (by omega)
end Go.Proofs.Ytlokmliannklaaa.Print
end
