/- Hand contracts: numbers of 128 bits. -/
import Derived.Test.YtlokmliannklaaaQBase
import Derived.Test.YtlokmliannklaaaProg
import Derived.Below
import Derived.Deep.Draws
import Derived.OwnWalk
import Derived.Tactics
import Derived.WalkKit
import Derived.KernelRfl
import Derived.Deep.LoopGhost
import Derived.Deep.QuietTactic
import Derived.BigQuiet
import Derived.Laws.Rows
import Derived.Laws.BitsLemmas
import Derived.RowKit
import Derived.Outline
import Derived.Handy
import Derived.LoopN
import Derived.ScopeJumps
import Derived.Lib.Hide
import Derived.Test.YtlokmliannklaaaWords
section
namespace Go.Proofs.Ytlokmliannklaaa.Print
open Go.RowKit Go.Proofs.YtlokmliannklaaaW.PrintWords
set_option linter.unusedVariables false
set_option linter.unusedSimpArgs false

theorem eqH24 (d : Nat) (w : World) (x0 y0 : Int) (x1 y1 : Int) :
    (Op.equalIn (d + 2) 24 (.agg #[.int .u64 x0, .int .u64 x1]) (.agg #[.int .u64 y0, .int .u64 y1])).run Try.prog w = .ok (x0 == y0 && (x1 == y1)) w := by
  refine eqA_of Try.underlying24 (by kernel_rfl) ?_
  refine eqf_cons (by rfl) (by go_simp; rfl) (by go_simp; rfl) (by go_simp) ?_
  exact eqf_last (by rfl) (by go_simp; rfl) (by go_simp; rfl) (by go_simp)

/-- Block `g` holds just these cells, of the type of wide numbers. -/
def Blk (w : World) (g : Nat) (cs : Array Value) : Prop := w.heap[g]? = some (.cells cs 24 (0, 0))
section
variable {w w' : World} {g : Nat} {cs : Array Value}
theorem Blk.lt (h : Blk w g cs) : g < w.heap.size := by
  rcases Nat.lt_or_ge g w.heap.size with hlt | hge
  · exact hlt
  · unfold Blk at h; rw [Array.getElem?_eq_none hge] at h; cases h
theorem Blk.cell (h : Blk w g cs) (i : Nat) : w.cell? ⟨g, i, none⟩ = cs[i]? := cell_of_row w g i cs 24 (0, 0) h
theorem Blk.frozen (h : Blk w g cs) (i : Nat) : w.frozen? ⟨g, i, none⟩ = false := by
  unfold Blk at h
  simp [World.frozen?, h]
theorem Blk.new (w : World) (cs : Array Value) : Blk (w.alloc (.cells cs 24)) w.heap.size cs := heap_alloc_new w _
theorem Blk.drew (h : Blk w g cs) : Blk w.drew g cs := h
theorem Blk.alloc (h : Blk w g cs) (o : Obj) : Blk (w.alloc o) g cs := (Below.heap_alloc w o g h.lt).trans h
theorem Blk.set_ (h : Blk w g cs) (i : Nat) (u : Value) : Blk (w.setCell ⟨g, i, none⟩ u) g (cs.setIfInBounds i u) := by
  unfold Blk at h ⊢
  simp [World.setCell, Array.getElem?_modify, h]
theorem Blk.far (h : Blk w g cs) {p : Addr} (hp : g ≠ p.block) (u : Value) : Blk (w.setCell p u) g cs := (Below.heap_setCell w p u g hp).trans h
theorem Blk.below {B : Nat} (h : Blk w g cs) (hb : Below B w w') (hg : g < B) : Blk w' g cs := (hb.block g hg).trans h
theorem Blk.on (h : Blk w g cs) (hb : Below w.heap.size w w') : Blk w' g cs := h.below hb h.lt
end

def cmpW (ah al bh bl : Int) : Int := if ah < bh then -1 else if bh < ah then 1 else if al < bl then -1 else if bl < al then 1 else 0

theorem below3 (w : World) (a b c : Obj) : Below w.heap.size w (((w.alloc a).alloc b).alloc c) :=
  below_alloc (below_alloc (below_alloc (Below.refl _ _) a) b) c

set_option maxRecDepth 100000 in
theorem cmp_eq (ah al : Int) (w : World) :
    Calls Try.prog 23 #[.agg #[.int .u64 ah, .int .u64 al], .agg #[.int .u64 ah, .int .u64 al]] w fun e w' => e = .returned (.int .i64 0) ∧ Below w.heap.size w w' := by
  go_enter Try.func23, Try.ntmps23
  go_wp2
  go_ret
  exact ⟨rfl, below_alloc (below_alloc (Below.refl _ _) _) _⟩

set_option maxRecDepth 100000 in
theorem cmp_hi (ah al bh bl : Int) (h : ah ≠ bh) (w : World) :
    Calls Try.prog 23 #[.agg #[.int .u64 ah, .int .u64 al], .agg #[.int .u64 bh, .int .u64 bl]] w fun e w' => e = .returned (.int .i64 (if ah < bh then -1 else 1)) ∧ Below w.heap.size w w' := by
  have h1 : (ah == bh) = false := by simpa using h
  have i0 : ∀ w : World, (Instr.index 61 (.agg #[.int .u64 ah, .int .u64 al]) (.int .i64 0)).run Try.prog w = .ok (.int .u64 ah) w := fun _ => by kernel_rfl
  have i1 : ∀ w : World, (Instr.index 61 (.agg #[.int .u64 ah, .int .u64 al]) (.int .i64 1)).run Try.prog w = .ok (.int .u64 al) w := fun _ => by kernel_rfl
  by_cases hlt : ah < bh
  · rw [if_pos hlt]
    clear h
    go_enter Try.func23, Try.ntmps23
    go_wp2
    go_rounds 2
    go_ret
    exact ⟨rfl, below3 _ _ _ _⟩
  · have hgt : bh < ah := by omega
    rw [if_neg hlt]
    clear h
    go_enter Try.func23, Try.ntmps23
    go_wp2
    go_rounds 2
    go_ret
    exact ⟨rfl, below3 _ _ _ _⟩

set_option maxRecDepth 100000 in
theorem cmp_lo (ah al bl : Int) (h : al ≠ bl) (w : World) :
    Calls Try.prog 23 #[.agg #[.int .u64 ah, .int .u64 al], .agg #[.int .u64 ah, .int .u64 bl]] w fun e w' => e = .returned (.int .i64 (if al < bl then -1 else 1)) ∧ Below w.heap.size w w' := by
  have h1 : (al == bl) = false := by simpa using h
  have i0 : ∀ w : World, (Instr.index 61 (.agg #[.int .u64 ah, .int .u64 al]) (.int .i64 0)).run Try.prog w = .ok (.int .u64 ah) w := fun _ => by kernel_rfl
  have i1 : ∀ w : World, (Instr.index 61 (.agg #[.int .u64 ah, .int .u64 al]) (.int .i64 1)).run Try.prog w = .ok (.int .u64 al) w := fun _ => by kernel_rfl
  by_cases hlt : al < bl
  · rw [if_pos hlt]
    clear h
    go_enter Try.func23, Try.ntmps23
    go_wp2
    go_rounds 2
    go_ret
    exact ⟨rfl, below3 _ _ _ _⟩
  · have hgt : bl < al := by omega
    rw [if_neg hlt]
    clear h
    go_enter Try.func23, Try.ntmps23
    go_wp2
    go_rounds 2
    go_ret
    exact ⟨rfl, below3 _ _ _ _⟩

theorem cmp_any (ah al bh bl : Int) (w : World) :
    Calls Try.prog 23 #[.agg #[.int .u64 ah, .int .u64 al], .agg #[.int .u64 bh, .int .u64 bl]] w fun e w' => e = .returned (.int .i64 (cmpW ah al bh bl)) ∧ Below w.heap.size w w' := by
  unfold cmpW
  by_cases h : ah = bh
  · subst h
    rw [if_neg (Int.lt_irrefl _), if_neg (Int.lt_irrefl _)]
    by_cases h : al = bl
    · subst h
      rw [if_neg (Int.lt_irrefl _), if_neg (Int.lt_irrefl _)]
      exact cmp_eq _ _ _
    · have := cmp_lo ah al bl h w
      by_cases hlt : al < bl
      · rw [if_pos hlt] at this ⊢; exact this
      · rw [if_neg hlt] at this ⊢; rw [if_pos (by omega)]; exact this
  · have := cmp_hi ah al bh bl h w
    by_cases hlt : ah < bh
    · rw [if_pos hlt] at this ⊢; exact this
    · rw [if_neg hlt] at this ⊢; rw [if_pos (by omega)]; exact this

/-! wide.Len, wide.Right, wide.Mul -/
def lenW (hi lo : Int) : Int := if hi = 0 then ((Lib.bitLen lo.toNat : Nat) : Int) else 64 + ((Lib.bitLen hi.toNat : Nat) : Int)
theorem len64 (x : Int) (w : World) (h : isU64 x = true) : Calls Try.prog 37 #[.int .u64 x] w fun e w' => e = .returned (.int .i64 ((Lib.bitLen x.toNat : Nat) : Int)) ∧ w = w' := by
  simp only [isU64, Bool.and_eq_true, decide_eq_true_eq] at h
  exact (Try.bits_Len64 x w h.1 (by omega)).mono fun e w' ⟨he, hw⟩ => ⟨he, hw.symm⟩
theorem bitLen64 (x : Int) (h : isU64 x = true) : Lib.bitLen x.toNat ≤ 64 := by
  simp only [isU64, Bool.and_eq_true, decide_eq_true_eq] at h
  exact Lib.bitLen_le _ 64 (by omega) (by omega)

set_option maxRecDepth 100000 in
theorem len_any (ah al : Int) (h1 : isU64 ah = true) (h2 : isU64 al = true) (w : World) :
    Calls Try.prog 20 #[.agg #[.int .u64 ah, .int .u64 al]] w fun e w' => e = .returned (.int .i64 (lenW ah al)) ∧ Below w.heap.size w w' := by
  unfold lenW
  by_cases h : ah = 0
  · subst h
    rw [if_pos rfl]
    go_enter Try.func20, Try.ntmps20
    go_wp2_with (go_at_call 37; refine (len64 _ _ h2).mono ?_; rintro e w' ⟨rfl, rfl⟩)
    go_ret
    exact ⟨rfl, below_alloc (Below.refl _ _) _⟩
  · rw [if_neg h]
    have h3 : (ah == 0) = false := by simpa using h
    have h4 := bitLen64 ah h1
    clear h
    go_enter Try.func20, Try.ntmps20
    go_wp2_with (go_at_call 37; refine (len64 _ _ h1).mono ?_; rintro e w' ⟨rfl, rfl⟩)
    go_ret
    exact ⟨rfl, below_alloc (Below.refl _ _) _⟩

/-! wide.Mul -/
theorem mul64 (x y : Int) (w : World) (h1 : isU64 x = true) (h2 : isU64 y = true) :
    Calls Try.prog 52 #[.int .u64 x, .int .u64 y] w fun e w' => e = .returned (.tuple #[.int .u64 (x * y / 18446744073709551616), .int .u64 (x * y % 18446744073709551616)]) ∧ w = w' := by
  simp only [isU64, Bool.and_eq_true, decide_eq_true_eq] at h1 h2
  obtain ⟨x, rfl⟩ := Int.eq_ofNat_of_zero_le h1.1
  obtain ⟨y, rfl⟩ := Int.eq_ofNat_of_zero_le h2.1
  refine (Try.bits_Mul64 x y (by omega) (by omega) w).mono fun e w' ⟨he, hw⟩ => ⟨?_, hw.symm⟩
  rw [he]
  simp only [Int.natCast_ediv, Int.natCast_emod, Int.natCast_mul]
  rfl
def mulHi (x y : Int) : Int := x * y / 18446744073709551616
def mulLo (x y : Int) : Int := x * y % 18446744073709551616
theorem mul64' (x y : Int) (w : World) (h1 : isU64 x = true) (h2 : isU64 y = true) :
    Calls Try.prog 52 #[.int .u64 x, .int .u64 y] w fun e w' => e = .returned (.tuple #[.int .u64 (mulHi x y), .int .u64 (mulLo x y)]) ∧ w = w' := mul64 x y w h1 h2

set_option maxRecDepth 100000 in
theorem mul_any (x y : Int) (h1 : isU64 x = true) (h2 : isU64 y = true) (w : World) :
    Calls Try.prog 45 #[.int .u64 x, .int .u64 y] w fun e w' => e = .returned (.agg #[.int .u64 (mulHi x y), .int .u64 (mulLo x y)]) ∧ Below w.heap.size w w' := by
  go_enter Try.func45, Try.ntmps45
  go_wp2_with (go_at_call 52; refine (mul64' _ _ _ h1 h2).mono ?_; rintro e w' ⟨rfl, rfl⟩)
  refine bodyPost_ret (v := .agg #[.int .u64 (mulHi x y), .int .u64 (mulLo x y)]) (by simp [results, Try.results45, go_sem]) rfl ⟨rfl, ?_⟩
  exact below_alloc (Below.refl _ _) _

/-! wide.Add, wide.Sub -/
def addLo (x y c : Int) : Int := (x + y + c) % 18446744073709551616
def addC (x y c : Int) : Int := (x + y + c) / 18446744073709551616
def subLo (x y b : Int) : Int := (x - y - b) % 18446744073709551616
def subB (x y b : Int) : Int := if x < y + b then 1 else 0
theorem run_add (x y c : Int) (hx : isU64 x = true) (hy : isU64 y = true) (hc0 : 0 ≤ c) (hc1 : c ≤ 1) (W : World) :
    (callFunc 38 #[.int .u64 x, .int .u64 y, .int .u64 c]).run Try.prog W = .ok (.value (.tuple #[.int .u64 (addLo x y c), .int .u64 (addC x y c)])) W := by
  simp only [isU64, Bool.and_eq_true, decide_eq_true_eq] at hx hy
  rw [run_callFunc_extern Try.func38 (by kernel_rfl) (by kernel_rfl) (by kernel_rfl) (e := add64Entry) (by kernel_rfl), run_add64 x y c hx.1 hy.1 hc0 hc1]
  rfl
/-- The model's own row of math/bits.Sub64. -/
def sub64Entry : Array Value → Sem Value := (Extern.MathBitsCarry.rows.getD 1 ("", add64Entry)).2
theorem run_sub64 {P : Program} (x y b : Nat) (hb : b ≤ 1) (w : World) :
    (sub64Entry #[.int .u64 x, .int .u64 y, .int .u64 b]).run P w =
      .ok (.tuple #[.int .u64 (((x + 18446744073709551616 - y - b) % 18446744073709551616 : Nat) : Int), .int .u64 ((if x < y + b then 1 else 0 : Nat) : Int)]) w := by
  have : b = 0 ∨ b = 1 := by omega
  rcases this with rfl | rfl <;> rfl
theorem run_sub (x y c : Int) (hx : isU64 x = true) (hy : isU64 y = true) (hc0 : 0 ≤ c) (hc1 : c ≤ 1) (W : World) :
    (callFunc 39 #[.int .u64 x, .int .u64 y, .int .u64 c]).run Try.prog W = .ok (.value (.tuple #[.int .u64 (subLo x y c), .int .u64 (subB x y c)])) W := by
  simp only [isU64, Bool.and_eq_true, decide_eq_true_eq] at hx hy
  obtain ⟨x, rfl⟩ := Int.eq_ofNat_of_zero_le hx.1
  obtain ⟨y, rfl⟩ := Int.eq_ofNat_of_zero_le hy.1
  obtain ⟨c, rfl⟩ := Int.eq_ofNat_of_zero_le hc0
  rw [run_callFunc_extern Try.func39 (by kernel_rfl) (by kernel_rfl) (by kernel_rfl) (e := sub64Entry) (by kernel_rfl), run_sub64 x y c (by omega)]
  have e1 : (((x + 18446744073709551616 - y - c) % 18446744073709551616 : Nat) : Int) = subLo x y c := by unfold subLo; omega
  have e2 : ((if x < y + c then 1 else 0 : Nat) : Int) = subB x y c := by unfold subB; split <;> split <;> omega
  rw [e1, e2]
  rfl
theorem addC_le (x y c : Int) (hx : isU64 x = true) (hy : isU64 y = true) (hc0 : 0 ≤ c) (hc1 : c ≤ 1) : 0 ≤ addC x y c ∧ addC x y c ≤ 1 := by
  simp only [isU64, Bool.and_eq_true, decide_eq_true_eq] at hx hy
  unfold addC
  omega
theorem subB_le (x y c : Int) : 0 ≤ subB x y c ∧ subB x y c ≤ 1 := by unfold subB; split <;> omega

set_option maxRecDepth 100000 in
theorem add_any (ah al bh bl : Int) (h0 : isU64 ah = true) (h1 : isU64 al = true) (h2 : isU64 bh = true) (h3 : isU64 bl = true) (w : World) :
    Calls Try.prog 22 #[.agg #[.int .u64 ah, .int .u64 al], .agg #[.int .u64 bh, .int .u64 bl]] w fun e w' =>
      e = .returned (.tuple #[.agg #[.int .u64 (addLo ah bh (addC al bl 0)), .int .u64 (addLo al bl 0)], .int .u64 (addC ah bh (addC al bl 0))]) ∧ Below w.heap.size w w' := by
  have hr1 := run_add al bl 0 h1 h3 (by omega) (by omega)
  have hr2 := run_add ah bh (addC al bl 0) h0 h2 (addC_le al bl 0 h1 h3 (by omega) (by omega)).1 (addC_le al bl 0 h1 h3 (by omega) (by omega)).2
  clear h0 h1 h2 h3
  go_enter Try.func22, Try.ntmps22
  go_wp2
  refine bodyPost_ret (v := .tuple #[.agg #[.int .u64 (addLo ah bh (addC al bl 0)), .int .u64 (addLo al bl 0)], .int .u64 (addC ah bh (addC al bl 0))]) (by simp [results, Try.results22, go_sem]) rfl ⟨rfl, ?_⟩
  exact below3 _ _ _ _

set_option maxRecDepth 100000 in
theorem sub_any (ah al bh bl : Int) (h0 : isU64 ah = true) (h1 : isU64 al = true) (h2 : isU64 bh = true) (h3 : isU64 bl = true) (w : World) :
    Calls Try.prog 24 #[.agg #[.int .u64 ah, .int .u64 al], .agg #[.int .u64 bh, .int .u64 bl]] w fun e w' =>
      e = .returned (.tuple #[.agg #[.int .u64 (subLo ah bh (subB al bl 0)), .int .u64 (subLo al bl 0)], .int .u64 (subB ah bh (subB al bl 0))]) ∧ Below w.heap.size w w' := by
  have hr1 := run_sub al bl 0 h1 h3 (by omega) (by omega)
  have hr2 := run_sub ah bh (subB al bl 0) h0 h2 (subB_le al bl 0).1 (subB_le al bl 0).2
  clear h0 h1 h2 h3
  go_enter Try.func24, Try.ntmps24
  go_wp2
  refine bodyPost_ret (v := .tuple #[.agg #[.int .u64 (subLo ah bh (subB al bl 0)), .int .u64 (subLo al bl 0)], .int .u64 (subB ah bh (subB al bl 0))]) (by simp [results, Try.results24, go_sem]) rfl ⟨rfl, ?_⟩
  exact below3 _ _ _ _
end Go.Proofs.Ytlokmliannklaaa.Print
end
