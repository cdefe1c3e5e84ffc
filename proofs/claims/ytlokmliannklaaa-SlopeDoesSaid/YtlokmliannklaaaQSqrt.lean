/- The root's numbers, without a program; Hand contracts: the root; Hand contracts: how far two products are apart. -/
import Derived.Test.YtlokmliannklaaaQRight
import Derived.Test.YtlokmliannklaaaQBase
import Derived.Test.YtlokmliannklaaaProg
import Derived.Below
import Derived.Deep.Draws
import Derived.OwnWalk
import Derived.Tactics
import Derived.WalkKit
import Derived.KernelRfl
import Derived.Deep.LoopGhost
import Derived.Deep.QuietTactic
import Derived.BigQuiet
import Derived.Laws.Rows
import Derived.Laws.BitsLemmas
import Derived.RowKit
import Derived.Outline
import Derived.Handy
import Derived.LoopN
import Derived.ScopeJumps
import Derived.Lib.Hide
import Derived.RegionTactic
import Derived.ChangeAlike
import Derived.BigRegion
import Derived.WalkMore
import Derived.Deep.Cut
import Derived.Deep.RegionHeld3
section
namespace Go.Proofs.Ytlokmliannklaaa.Print
open Go.RowKit
set_option linter.unusedVariables false

/-- What holds of the root with `k` of `m` bits asked. -/
def SInv (A m k S : Nat) : Prop := rootFrom 64 A 0 = rootFrom (m - k) A S ∧ S % 2 ^ (m - k) = 0 ∧ S + 2 ^ (m - k) ≤ 2 ^ m

theorem root_skip (A m : Nat) (h : A < 2 ^ m * 2 ^ m) (d : Nat) : rootFrom (m + d) A 0 = rootFrom m A 0 := by
  induction d with
  | zero => rfl
  | succ d ih =>
    show rootFrom ((m + d) + 1) A 0 = _
    simp only [rootFrom]
    rw [if_neg, ih]
    have h1 : 2 ^ m ≤ 2 ^ (m + d) := Nat.pow_le_pow_right (by omega) (by omega)
    have h2 := Nat.mul_le_mul h1 h1
    rw [Nat.zero_add]
    omega

theorem sqrt_bits {ah al : Int} {m : Nat} (h0 : isU64 ah = true) (h1 : isU64 al = true) (hm : (lenW ah al + 1) / 2 = m) : SInv (wideOf ah al).toNat m 0 0 := by
  obtain ⟨l0, l1, hl⟩ := len_spec h0 h1
  have hw := wide_range h0 h1
  have hA : (wideOf ah al).toNat < 2 ^ m * 2 ^ m := by
    rw [← Nat.pow_add]
    have h2 : 2 ^ (lenW ah al).toNat ≤ 2 ^ (m + m) := Nat.pow_le_pow_right (by omega) (by omega)
    have h3 : (wideOf ah al) < ((2 ^ (lenW ah al).toNat : Nat) : Int) := by simpa using hl
    omega
  refine ⟨?_, by simp, by simp⟩
  obtain ⟨d, hd⟩ : ∃ d, 64 = m + d := ⟨64 - m, by omega⟩
  rw [hd, root_skip _ m hA d]
  rfl

theorem root_bit {A m k S : Nat} (h : SInv A m k S) (hk : k < m) (hm : m ≤ 64) : ∃ T : Nat, bits .or .u64 (S : Int) (IntKind.u64.wrap (2 ^ (m - 1 - k))) = (T : Int) ∧ isU64 (T : Int) = true ∧ (T * T ≤ A → SInv A m (k + 1) T) ∧ (A < T * T → SInv A m (k + 1) S) := by
  obtain ⟨e, hz, hle⟩ := h
  have hmk : m - k = (m - 1 - k) + 1 := by omega
  have hmk1 : m - (k + 1) = m - 1 - k := by omega
  have hp : 2 ^ (m - k) = 2 * 2 ^ (m - 1 - k) := by rw [hmk, Nat.pow_succ, Nat.mul_comm]
  have hpos : 0 < 2 ^ (m - 1 - k) := Nat.two_pow_pos _
  have hbig : 2 ^ m ≤ 2 ^ 64 := Nat.pow_le_pow_right (by omega) hm
  have h64 : (2 : Nat) ^ 64 = 18446744073709551616 := by decide
  rw [h64] at hbig
  refine ⟨S + 2 ^ (m - 1 - k), ?_, ?_, ?_, ?_⟩
  · have hc : ((2 : Int) ^ (m - 1 - k)) = ((2 ^ (m - 1 - k) : Nat) : Int) := by norm_cast
    rw [hc]
    have hwr : IntKind.u64.wrap ((2 ^ (m - 1 - k) : Nat) : Int) = ((2 ^ (m - 1 - k) : Nat) : Int) := by
      have : ((2 ^ (m - 1 - k) : Nat) : Int) < 18446744073709551616 := by omega
      have h0 : (0 : Int) ≤ ((2 ^ (m - 1 - k) : Nat) : Int) := Int.natCast_nonneg _
      generalize ((2 ^ (m - 1 - k) : Nat) : Int) = x at *
      simp only [IntKind.wrap, IntKind.bits, IntKind.signed]
      simp
      omega
    rw [hwr, u64_or_nat _ _ (by omega) (by omega), nat_join (m - k) S (2 ^ (m - 1 - k)) hz (by omega)]
  · exact isU64_mk (by omega) (by omega)
  · intro hc
    refine ⟨?_, ?_, by rw [hmk1]; omega⟩
    · rw [e, hmk1, hmk]
      simp only [rootFrom]
      rw [if_pos hc]
    · rw [hmk1, Nat.add_mod_right]
      have h2 := Nat.mod_mod_of_dvd S (⟨2, by rw [hp, Nat.mul_comm]⟩ : 2 ^ (m - 1 - k) ∣ 2 ^ (m - k))
      rw [hz] at h2
      simpa using h2.symm
  · intro hc
    refine ⟨?_, ?_, by rw [hmk1]; omega⟩
    · rw [e, hmk1, hmk]
      simp only [rootFrom]
      rw [if_neg (by omega)]
    · rw [hmk1]
      have h2 := Nat.mod_mod_of_dvd S (⟨2, by rw [hp, Nat.mul_comm]⟩ : 2 ^ (m - 1 - k) ∣ 2 ^ (m - k))
      rw [hz] at h2
      simpa using h2.symm

theorem cmpW_pos {ah al bh bl : Int} (h1 : isU64 al = true) (h3 : isU64 bl = true) : 0 < cmpW ah al bh bl ↔ wideOf bh bl < wideOf ah al := by
  have := isU64_out h1
  have := isU64_out h3
  unfold cmpW wideOf
  constructor
  · intro h
    split at h
    · omega
    · split at h
      · omega
      · split at h
        · omega
        · split at h <;> omega
  · intro h
    split
    · omega
    · split
      · omega
      · split
        · omega
        · split <;> omega
theorem mulLo_u64 (x y : Int) : isU64 (mulLo x y) = true := by
  unfold mulLo
  exact isU64_mk (by omega) (by omega)
theorem mulHi_u64 {x y : Int} (h0 : isU64 x = true) (h1 : isU64 y = true) : isU64 (mulHi x y) = true := by
  have := isU64_out h0
  have := isU64_out h1
  unfold mulHi
  have h2 : 0 ≤ x * y := Int.mul_nonneg (by omega) (by omega)
  have h3 : x * y ≤ 18446744073709551615 * 18446744073709551615 := Int.mul_le_mul (by omega) (by omega) (by omega) (by omega)
  generalize x * y = z at *
  exact isU64_mk (by omega) (by omega)
theorem mul_wide (x y : Int) : wideOf (mulHi x y) (mulLo x y) = x * y := by
  unfold wideOf mulHi mulLo
  omega
theorem cmp_mul {T : Nat} {ah al : Int} (hT : isU64 (T : Int) = true) (h0 : isU64 ah = true) (h1 : isU64 al = true) : 0 < cmpW (mulHi T T) (mulLo T T) ah al ↔ (wideOf ah al).toNat < T * T := by
  rw [cmpW_pos (mulLo_u64 _ _) h1, mul_wide]
  have := wide_range h0 h1
  have e : (T : Int) * T = ((T * T : Nat) : Int) := (Int.natCast_mul T T).symm
  rw [e]
  omega
theorem sqrt_end {ah al : Int} {m k S : Nat} (h : SInv (wideOf ah al).toNat m k S) (hk : m ≤ k) : rootOf (wideOf ah al) = S := by
  obtain ⟨e, _, _⟩ := h
  unfold rootOf
  rw [e, show m - k = 0 from by omega]
  rfl
end Go.Proofs.Ytlokmliannklaaa.Print
end

section
namespace Go.Proofs.Ytlokmliannklaaa.Print
open Go.RowKit Go.Proofs.YtlokmliannklaaaW.PrintWords
set_option linter.unusedVariables false
set_option linter.unusedSimpArgs false
attribute [local go_sem high] eqH24

set_option maxHeartbeats 4000000 in
set_option maxRecDepth 100000 in
theorem sqrt_any (ah al : Int) (h0 : isU64 ah = true) (h1 : isU64 al = true) (w : World) :
    Calls Try.prog 31 #[.agg #[.int .u64 ah, .int .u64 al]] w fun e w' => e = .returned (.int .u64 (rootOf (wideOf ah al))) ∧ Below w.heap.size w w' := by
  go_enter Try.func31, Try.ntmps31
  go_wp2_with fail
  go_step3
  go_wp2_with fail
  refine (len_any ah al h0 h1 _).mono ?_
  rintro e w1 ⟨rfl, hb1⟩
  have hl0 := (len_spec h0 h1).1
  have hl1 := (len_spec h0 h1).2.1
  have b0 := (Blk.new w #[.int .u64 ah, .int .u64 al]).on hb1
  have hb2 := Lib.hid (below_step (below_alloc (Below.refl w.heap.size w) _) hb1)
  clear hb1
  go_wp2_with fail
  go_step3
  go_wp2_with fail
  obtain ⟨m, hm⟩ : ∃ m : Nat, (lenW ah al + 1) / 2 = m := ⟨((lenW ah al + 1) / 2).toNat, by omega⟩
  have hm1 : m ≤ 64 := by omega
  have hA := Lib.hid (sqrt_bits h0 h1 hm)
  rw [hm]
  clear hm hl0 hl1
  go_loopw [3, 12] (fun s i wr => ∃ k S : Nat, k ≤ m ∧ s = .int .u64 S ∧ i = .int .i64 k ∧ Below w.heap.size w wr ∧ Blk wr w.heap.size #[.int .u64 ah, .int .u64 al] ∧ SInv (wideOf ah al).toNat m k S) (fun _ i _ => m - (intOf i).toNat)
  case atStart => exact ⟨0, 0, by omega, rfl, rfl, hb2.out, b0, hA.out⟩
  case round =>
    obtain ⟨k, S, hk, rfl, rfl, hbw, b1, hI⟩ := hrel
    have HI := Lib.hid hI
    clear hI b0
    have c0 := b1.cell 0
    have c1 := b1.cell 1
    simp at c0 c1
    by_cases hlt : k < m
    · obtain ⟨T, hT, uT, hT2⟩ := root_bit HI.out hlt hm1
      have HT := Lib.hid hT2
      clear hT2
      by_cases hc : T * T ≤ (wideOf ah al).toNat
      · have hcmp : ¬ 0 < cmpW (mulHi T T) (mulLo T T) ah al := fun x => by have := (cmp_mul uT h0 h1).1 x; omega
        have HN := Lib.hid (HT.out.1 hc)
        clear hc
        go_upto_region 7 with (fail)
        clear hT
        go_region_with (first | (go_at_call 45; refine (mul_any _ _ uT uT _).mono ?_; rintro e w2 ⟨rfl, hb2⟩; have b2 := (Blk.drew b1).on hb2; have d0 := b2.cell 0; have d1 := b2.cell 1; simp at d0 d1) | (go_at_call 23; refine (cmp_any _ _ _ _ _).mono ?_; rintro e w3 ⟨rfl, hb3⟩))
        all_goals
          have HB := Lib.hid (below_step (below_step (below_drew hbw) hb2) hb3)
          have HK := Lib.hid (b2.on hb3)
          clear hb2 hb3 b1 b2 hbw c0 c1 HT uT
          go_wp2_with fail
          go_roundw
          case rel => exact ⟨k + 1, T, by omega, rfl, by go_num, HB.out, HK.out, HN.out⟩
          case measure => simp [intOf]; omega
      · have hcmp : 0 < cmpW (mulHi T T) (mulLo T T) ah al := (cmp_mul uT h0 h1).2 (by omega)
        have HN := Lib.hid (HT.out.2 (by omega))
        clear hc
        go_upto_region 7 with (fail)
        clear hT
        go_region_with (first | (go_at_call 45; refine (mul_any _ _ uT uT _).mono ?_; rintro e w2 ⟨rfl, hb2⟩; have b2 := (Blk.drew b1).on hb2; have d0 := b2.cell 0; have d1 := b2.cell 1; simp at d0 d1) | (go_at_call 23; refine (cmp_any _ _ _ _ _).mono ?_; rintro e w3 ⟨rfl, hb3⟩))
        all_goals
          have HB := Lib.hid (below_step (below_step (below_drew hbw) hb2) hb3)
          have HK := Lib.hid (b2.on hb3)
          clear hb2 hb3 b1 b2 hbw c0 c1 HT uT
          go_wp2_with fail
          go_roundw
          case rel => exact ⟨k + 1, S, by omega, rfl, by go_num, HB.out, HK.out, HN.out⟩
          case measure => simp [intOf]; omega
    · have hf := Lib.hid (sqrt_end HI.out (by omega))
      go_wp2_with fail
      rw [Exit.noGoto_ret]
      go_ret
      exact ⟨by rw [hf.out]; rfl, hbw⟩
end Go.Proofs.Ytlokmliannklaaa.Print
end

section
namespace Go.Proofs.Ytlokmliannklaaa.Print
open Go.RowKit Go.Proofs.YtlokmliannklaaaW.PrintWords
set_option linter.unusedVariables false
set_option linter.unusedSimpArgs false
attribute [local go_sem high] eqH24

def uOf (x : Int) : Int := IntKind.u64.wrap x
theorem uOf_u64 (x : Int) : isU64 (uOf x) = true := by
  have : uOf x = x % 18446744073709551616 := by simp [uOf, IntKind.wrap, IntKind.bits, IntKind.signed]
  rw [this]
  exact isU64_mk (by omega) (by omega)

set_option maxRecDepth 100000 in
theorem product_any (x y : Int) (w : World) :
    Calls Try.prog 44 #[.int .i64 x, .int .i64 y] w fun e w' => e = .returned (.agg #[.int .u64 (mulHi (uOf x) (uOf y)), .int .u64 (mulLo (uOf x) (uOf y))]) ∧ Below w.heap.size w w' := by
  have ex : IntKind.u64.wrap x = uOf x := rfl
  have ey : IntKind.u64.wrap y = uOf y := rfl
  go_enter Try.func44, Try.ntmps44
  go_wp2_with fail
  refine (mul_any _ _ (uOf_u64 x) (uOf_u64 y) _).mono ?_
  rintro e w1 ⟨rfl, hb1⟩
  have b := (Blk.new w #[.int .u64 0, .int .u64 0]).on hb1
  have c0 := b.cell 0
  have c1 := b.cell 1
  have f0 := b.frozen 0
  have f1 := b.frozen 1
  simp at c0 c1
  have hb := Lib.hid hb1
  clear hb1
  go_wp2_with fail
  refine bodyPost_ret (results_cell_row rfl _ _ w.heap.size 24 #[.int .u64 (mulHi (uOf x) (uOf y)), .int .u64 (mulLo (uOf x) (uOf y))] (0, 0) _ rfl ((b.set_ 0 _).set_ 1 _) Try.underlying24 rfl (by kernel_rfl)) rfl ?_
  exact ⟨rfl, below_set (below_set (below_step (below_alloc (Below.refl _ _) _) hb.out) (Nat.le_refl _)) (Nat.le_refl _)⟩

/-- The memory of `slope.apart`. -/
structure AW (w wr : World) (g1 g2 : Nat) (x0 y0 : Value) (ph pl qh ql : Int) : Prop where
  below : Below w.heap.size w wr
  b0 : Blk wr w.heap.size #[x0, y0]
  b1 : Blk wr g1 #[.int .u64 ph, .int .u64 pl]
  b2 : Blk wr g2 #[.int .u64 qh, .int .u64 ql]
  l1 : w.heap.size < g1
  l2 : g1 < g2
section
variable {w wr w2 : World} {g1 g2 : Nat} {x0 y0 : Value} {ph pl qh ql : Int}
theorem AW.on (h : AW w wr g1 g2 x0 y0 ph pl qh ql) (hb : Below wr.heap.size wr w2) : AW w w2 g1 g2 x0 y0 ph pl qh ql :=
  ⟨below_step h.below hb, h.b0.on hb, h.b1.on hb, h.b2.on hb, h.l1, h.l2⟩
theorem AW.put12 (h : AW w wr g1 g2 x0 y0 ph pl qh ql) (a b c d : Int) :
    AW w ((((wr.setCell ⟨g1, 0, none⟩ (.int .u64 a)).setCell ⟨g1, 1, none⟩ (.int .u64 b)).setCell ⟨g2, 0, none⟩ (.int .u64 c)).setCell ⟨g2, 1, none⟩ (.int .u64 d)) g1 g2 x0 y0 a b c d :=
  have l1 := h.l1
  have l2 := h.l2
  ⟨below_set (below_set (below_set (below_set h.below (by first | omega | (simp; done) | (simp; omega))) (by first | omega | (simp; done) | (simp; omega))) (by first | omega | (simp; done) | (simp; omega))) (by first | omega | (simp; done) | (simp; omega)), (((h.b0.far (by first | omega | (simp; done) | (simp; omega)) _).far (by first | omega | (simp; done) | (simp; omega)) _).far (by first | omega | (simp; done) | (simp; omega)) _).far (by first | omega | (simp; done) | (simp; omega)) _, (((h.b1.set_ 0 _).set_ 1 _).far (by first | omega | (simp; done) | (simp; omega)) _).far (by first | omega | (simp; done) | (simp; omega)) _, (((h.b2.far (by first | omega | (simp; done) | (simp; omega)) _).far (by first | omega | (simp; done) | (simp; omega)) _).set_ 0 _).set_ 1 _, l1, l2⟩
theorem AW.facts (h : AW w wr g1 g2 x0 y0 ph pl qh ql) :
    wr.cell? ⟨w.heap.size, 0, none⟩ = some x0 ∧ wr.cell? ⟨w.heap.size, 1, none⟩ = some y0 ∧ wr.frozen? ⟨w.heap.size, 0, none⟩ = false ∧ wr.frozen? ⟨w.heap.size, 1, none⟩ = false ∧
    wr.cell? ⟨g1, 0, none⟩ = some (.int .u64 ph) ∧ wr.cell? ⟨g1, 1, none⟩ = some (.int .u64 pl) ∧ wr.frozen? ⟨g1, 0, none⟩ = false ∧ wr.frozen? ⟨g1, 1, none⟩ = false ∧
    wr.cell? ⟨g2, 0, none⟩ = some (.int .u64 qh) ∧ wr.cell? ⟨g2, 1, none⟩ = some (.int .u64 ql) ∧ wr.frozen? ⟨g2, 0, none⟩ = false ∧ wr.frozen? ⟨g2, 1, none⟩ = false :=
  ⟨h.b0.cell 0, h.b0.cell 1, h.b0.frozen 0, h.b0.frozen 1, h.b1.cell 0, h.b1.cell 1, h.b1.frozen 0, h.b1.frozen 1, h.b2.cell 0, h.b2.cell 1, h.b2.frozen 0, h.b2.frozen 1⟩
end

/-- How far two numbers are apart. -/
def apartOf (p q : Int) : Int := if p < q then q - p else p - q
theorem wide_split {h l d : Int} (hh : isU64 h = true) (hl : isU64 l = true) (e : wideOf h l = d) : h = d / 18446744073709551616 ∧ l = d % 18446744073709551616 := by
  have := isU64_out hh
  have := isU64_out hl
  unfold wideOf at e
  omega
theorem apart_sub {ph pl qh ql : Int} (h0 : isU64 ph = true) (h1 : isU64 pl = true) (h2 : isU64 qh = true) (h3 : isU64 ql = true) (hc : wideOf qh ql ≤ wideOf ph pl) :
    subLo ph qh (subB pl ql 0) = (wideOf ph pl - wideOf qh ql) / 18446744073709551616 ∧ subLo pl ql 0 = (wideOf ph pl - wideOf qh ql) % 18446744073709551616 := by
  have hs := sub_eq ph pl qh ql h0 h1 h2 h3
  have w1 := wide_range h0 h1
  have w2 := wide_range h2 h3
  exact wide_split (subLo_u64 _ _ _) (subLo_u64 _ _ _) (by rw [hs]; omega)

set_option maxHeartbeats 4000000 in
set_option maxRecDepth 100000 in
theorem apart_walk (x y u v : Int) (w : World) :
    Calls Try.prog 30 #[.int .i64 x, .int .i64 y, .int .i64 u, .int .i64 v] w fun e w' =>
      e = .returned (.tuple #[.agg #[.int .u64 (apartOf (uOf x * uOf y) (uOf u * uOf v) / 18446744073709551616), .int .u64 (apartOf (uOf x * uOf y) (uOf u * uOf v) % 18446744073709551616)], .bool (decide (uOf x * uOf y < uOf u * uOf v))]) ∧ Below w.heap.size w w' := by
  go_enter Try.func30, Try.ntmps30
  go_wp2_with fail
  refine (product_any _ _ _).mono ?_
  rintro e w1 ⟨rfl, hb1⟩
  have b0 := (Blk.new w #[.int .u64 0, .int .u64 0]).on hb1
  have hB1 := Lib.hid (below_step (below_alloc (Below.refl w.heap.size w) _) hb1)
  clear hb1
  go_wp2_with fail
  refine (product_any _ _ _).mono ?_
  rintro e w2 ⟨rfl, hb2⟩
  replace b0 := b0.on hb2
  have hB2 := Lib.hid (below_step hB1.out hb2)
  clear hb2 hB1
  have U := Lib.hid (And.intro (And.intro (mulHi_u64 (uOf_u64 x) (uOf_u64 y)) (mulLo_u64 (uOf x) (uOf y))) (And.intro (mulHi_u64 (uOf_u64 u) (uOf_u64 v)) (mulLo_u64 (uOf u) (uOf v))))
  have MP := Lib.hid (mul_wide (uOf x) (uOf y))
  have MQ := Lib.hid (mul_wide (uOf u) (uOf v))
  generalize mulHi (uOf x) (uOf y) = ph at *
  generalize mulLo (uOf x) (uOf y) = pl at *
  generalize mulHi (uOf u) (uOf v) = qh at *
  generalize mulLo (uOf u) (uOf v) = ql at *
  go_wp2_with fail
  have F : AW w ((w2.alloc (.cells #[.int .u64 ph, .int .u64 pl] 24)).alloc (.cells #[.int .u64 qh, .int .u64 ql] 24)) w2.heap.size (w2.heap.size + 1) (.int .u64 0) (.int .u64 0) ph pl qh ql :=
    ⟨below_alloc (below_alloc hB2.out _) _, (b0.alloc _).alloc _, (Blk.new w2 _).alloc _, by have := Blk.new (w2.alloc (.cells #[.int .u64 ph, .int .u64 pl] 24)) #[.int .u64 qh, .int .u64 ql]; simpa using this, b0.lt, by omega⟩
  clear b0 hB2
  refine (cmp_any _ _ _ _ _).mono ?_
  rintro e w3 ⟨rfl, hb_⟩
  replace F := F.on hb_
  clear hb_
  obtain ⟨g1, hg1⟩ : ∃ g1, g1 = w2.heap.size := ⟨_, rfl⟩
  obtain ⟨g2, hg2⟩ : ∃ g2, g2 = w2.heap.size + 1 := ⟨_, rfl⟩
  rw [← hg2, ← hg1] at F ⊢
  clear hg1 hg2
  obtain ⟨c00, c01, f00, f01, c10, c11, f10, f11, c20, c21, f20, f21⟩ := F.facts
  have d1 : ¬ w.heap.size = g1 := by have := F.l1; omega
  have d2 : ¬ w.heap.size = g2 := by have := F.l1; have := F.l2; omega
  have d3 : ¬ g1 = g2 := by have := F.l2; omega
  have d1' : ¬ g1 = w.heap.size := fun x => d1 x.symm
  have d2' : ¬ g2 = w.heap.size := fun x => d2 x.symm
  have d3' : ¬ g2 = g1 := fun x => d3 x.symm
  by_cases hc : cmpW ph pl qh ql < 0
  · have hlt : wideOf ph pl < wideOf qh ql := by
      have := cmpW_le (ah := ph) (bh := qh) U.out.1.2 U.out.2.2
      omega
    have HS := Lib.hid (apart_sub U.out.2.1 U.out.2.2 U.out.1.1 U.out.1.2 (Int.le_of_lt hlt))
    have HL := Lib.hid hlt
    clear hlt
    go_wp2_with fail
    refine (sub_any _ _ _ _ U.out.2.1 U.out.2.2 U.out.1.1 U.out.1.2 _).mono ?_
    rintro e w4 ⟨rfl, hb_⟩
    replace F := (F.put12 qh ql ph pl).on hb_
    clear c00 c01 f00 f01 c10 c11 f10 f11 c20 c21 f20 f21 hb_
    obtain ⟨c00, c01, f00, f01, c10, c11, f10, f11, c20, c21, f20, f21⟩ := F.facts
    have s0 := F.b0.lt
    go_wp2_with fail
    refine bodyPost_ret (v := .tuple #[.agg #[.int .u64 (subLo qh ph (subB ql pl 0)), .int .u64 (subLo ql pl 0)], .bool true]) (by simp [results, Try.results30, go_sem, c00, c01, s0] <;> omega) rfl ⟨?_, ?_⟩
    · rw [← MP.out, ← MQ.out, (HS.out).1, (HS.out).2]
      have hl := HL.out
      unfold apartOf
      rw [if_pos hl, decide_eq_true hl]
    · exact below_alloc (below_set (below_set F.below (Nat.le_refl _)) (Nat.le_refl _)) _
  · have hge : wideOf qh ql ≤ wideOf ph pl := (cmpW_le U.out.1.2 U.out.2.2).1 (by omega)
    have HS := Lib.hid (apart_sub U.out.1.1 U.out.1.2 U.out.2.1 U.out.2.2 hge)
    have HL := Lib.hid (show ¬ wideOf ph pl < wideOf qh ql by omega)
    clear hge
    go_wp2_with fail
    refine (sub_any _ _ _ _ U.out.1.1 U.out.1.2 U.out.2.1 U.out.2.2 _).mono ?_
    rintro e w4 ⟨rfl, hb_⟩
    replace F := F.on hb_
    clear c00 c01 f00 f01 c10 c11 f10 f11 c20 c21 f20 f21 hb_
    obtain ⟨c00, c01, f00, f01, c10, c11, f10, f11, c20, c21, f20, f21⟩ := F.facts
    have s0 := F.b0.lt
    go_wp2_with fail
    refine bodyPost_ret (v := .tuple #[.agg #[.int .u64 (subLo ph qh (subB pl ql 0)), .int .u64 (subLo pl ql 0)], .bool false]) (by simp [results, Try.results30, go_sem, c00, c01, s0] <;> omega) rfl ⟨?_, ?_⟩
    · rw [← MP.out, ← MQ.out, (HS.out).1, (HS.out).2]
      have hl := HL.out
      unfold apartOf
      rw [if_neg (by omega), decide_eq_false (by omega)]
    · exact below_alloc (below_set (below_set F.below (Nat.le_refl _)) (Nat.le_refl _)) _
end Go.Proofs.Ytlokmliannklaaa.Print
end
