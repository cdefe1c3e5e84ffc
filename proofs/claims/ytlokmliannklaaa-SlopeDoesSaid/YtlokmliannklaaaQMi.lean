/- Accounts of samples, each of a packet of one byte: they are accounts; account.Send, at an account of samples that is being made. -/
import Derived.Test.YtlokmliannklaaaQPrint4
import Derived.RegionTactic
import Derived.ChangeAlike
import Derived.WalkMore
import Derived.Deep.Cut
import Derived.Outline
section
namespace Go.Proofs.Ytlokmliannklaaa.Print
open Go.RowKit Go.Proofs.YtlokmliannklaaaW.PrintWords Go.Proofs.YtlokmliannklaaaW.PrintMore
set_option linter.unusedVariables false
set_option linter.unusedSimpArgs false

/-- Block `g` holds just these cells, of an account. -/
def MBlk (w : World) (g : Nat) (cs : Array Value) : Prop := w.heap[g]? = some (.cells cs 29 (0, 0))
section
variable {w w' : World} {g : Nat} {cs : Array Value}
theorem MBlk.lt (h : MBlk w g cs) : g < w.heap.size := by
  rcases Nat.lt_or_ge g w.heap.size with hlt | hge
  · exact hlt
  · unfold MBlk at h; rw [Array.getElem?_eq_none hge] at h; cases h
theorem MBlk.cell (h : MBlk w g cs) (i : Nat) : w.cell? ⟨g, i, none⟩ = cs[i]? := cell_of_row w g i cs 29 (0, 0) h
theorem MBlk.frozen (h : MBlk w g cs) (i : Nat) : w.frozen? ⟨g, i, none⟩ = false := by
  unfold MBlk at h
  simp [World.frozen?, h]
theorem MBlk.of (h : w.heap[g]? = some (.cells cs 29 (0, 0))) : MBlk w g cs := h
theorem MBlk.is (h : MBlk w g cs) : w.heap[g]? = some (.cells cs 29 (0, 0)) := h
theorem MBlk.new (w : World) (cs : Array Value) : MBlk (w.alloc (.cells cs 29)) w.heap.size cs := heap_alloc_new w _
theorem MBlk.drew (h : MBlk w g cs) : MBlk w.drew g cs := h
theorem MBlk.alloc (h : MBlk w g cs) (o : Obj) : MBlk (w.alloc o) g cs := (Below.heap_alloc w o g h.lt).trans h
theorem MBlk.set_ (h : MBlk w g cs) (i : Nat) (u : Value) : MBlk (w.setCell ⟨g, i, none⟩ u) g (cs.setIfInBounds i u) := by
  unfold MBlk at h ⊢
  simp [World.setCell, Array.getElem?_modify, h]
theorem MBlk.far (h : MBlk w g cs) {p : Addr} (hp : g ≠ p.block) (u : Value) : MBlk (w.setCell p u) g cs := (Below.heap_setCell w p u g hp).trans h
theorem MBlk.below {B : Nat} (h : MBlk w g cs) (hb : Below B w w') (hg : g < B) : MBlk w' g cs := (hb.block g hg).trans h
theorem MBlk.on (h : MBlk w g cs) (hb : Below w.heap.size w w') : MBlk w' g cs := h.below hb h.lt
end

/-- The bounds of an account of `n` packets, `h` of them acked. -/
structure MiOK (n h t r tt tr rr : Int) : Prop where
  h0 : 0 ≤ h
  hn : h ≤ n
  n1 : n ≤ 100
  t0 : 0 ≤ t
  t1 : t ≤ h * 60000000
  r0 : 0 ≤ r
  r1 : r ≤ h * 60000000
  tt0 : 0 ≤ tt
  tt1 : tt ≤ h * 3600000000000000
  tr0 : 0 ≤ tr
  tr1 : tr ≤ h * 3600000000000000
  rr0 : 0 ≤ rr
  rr1 : rr ≤ h * 3600000000000000
theorem wrap_id {x : Int} (h0 : -9223372036854775808 ≤ x) (h1 : x ≤ 9223372036854775807) : wrap64 x = x := by unfold wrap64; omega
theorem MiOK.is {n h t r tt tr rr : Int} (o : MiOK n h t r tt tr rr) : account_Is.f 1 0 0 (-1) n h 0 n h 0 h t r tt tr rr = some true := by
  obtain ⟨h0, hn, n1, t0, t1, r0, r1, tt0, tt1, tr0, tr1, rr0, rr1⟩ := o
  have a1 : account_time.f 0 = some true := by decide
  have a2 : account_book_counts.f 0 0 (-1) n h 0 n h 0 h t r tt tr rr = some true := by
    unfold account_book_counts.f
    rw [if_pos (by omega), if_pos (by omega), if_pos (by omega), if_pos (by omega), if_pos (by omega), wrap_id (by omega) (by omega), decide_eq_true (by omega)]
  have a3 : account_book_bytes.f 0 0 (-1) n h 0 n h 0 h t r tt tr rr = some true := by
    unfold account_book_bytes.f fitB
    rw [wrap_id (x := n * 9000) (by omega) (by omega), wrap_id (x := h * 9000) (by omega) (by omega), wrap_id (x := 0 * 9000) (by omega) (by omega), wrap_id (x := h + 0) (by omega) (by omega)]
    simp
    omega
  have a4 : account_book_samples.f 0 0 (-1) n h 0 n h 0 h t r tt tr rr = some true := by
    unfold account_book_samples.f withinB
    rw [wrap_id (x := h * 60000000) (by omega) (by omega), wrap_id (x := h * 3600000000000000) (by omega) (by omega)]
    simp
    omega
  unfold account_Is.f account_shut_right.f
  rw [if_neg (by omega), a1]
  simp only [Option.bind_some, if_true]
  simp only [account_shut_right.j0]
  rw [a2, a3, a4]
  rfl
theorem MiOK.calls {n h t r tt tr rr : Int} (o : MiOK n h t r tt tr rr) (w : World) : Calls Try.prog 40 #[.agg #[.int .i64 0, .int .i64 0, .int .i64 (-1), .int .i64 n, .int .i64 h, .int .i64 0, .int .i64 n, .int .i64 h, .int .i64 0, .int .i64 h, .int .i64 t, .int .i64 r, .int .i64 tt, .int .i64 tr, .int .i64 rr]] w fun e w' => e = .returned (.bool true) ∧ Below w.heap.size w w' :=
  account_Is.calls 1 0 0 (-1) n h 0 n h 0 h t r tt tr rr true w o.is

theorem MBlk.fill {w : World} {g : Nat} {a0 a1 a2 a3 a4 a5 a6 a7 a8 a9 a10 a11 a12 a13 a14 : Value} (h : MBlk w g #[a0, a1, a2, a3, a4, a5, a6, a7, a8, a9, a10, a11, a12, a13, a14]) (x0 x1 x2 x3 x4 x5 x6 x7 x8 x9 x10 x11 x12 x13 x14 : Value) :
    MBlk (((((((((((((((w.setCell ⟨g, 0, none⟩ x0).setCell ⟨g, 1, none⟩ x1).setCell ⟨g, 2, none⟩ x2).setCell ⟨g, 3, none⟩ x3).setCell ⟨g, 4, none⟩ x4).setCell ⟨g, 5, none⟩ x5).setCell ⟨g, 6, none⟩ x6).setCell ⟨g, 7, none⟩ x7).setCell ⟨g, 8, none⟩ x8).setCell ⟨g, 9, none⟩ x9).setCell ⟨g, 10, none⟩ x10).setCell ⟨g, 11, none⟩ x11).setCell ⟨g, 12, none⟩ x12).setCell ⟨g, 13, none⟩ x13).setCell ⟨g, 14, none⟩ x14) g #[x0, x1, x2, x3, x4, x5, x6, x7, x8, x9, x10, x11, x12, x13, x14] := by
  have s0 : MBlk (w.setCell ⟨g, 0, none⟩ x0) g #[x0, a1, a2, a3, a4, a5, a6, a7, a8, a9, a10, a11, a12, a13, a14] := h.set_ 0 x0
  have s1 : MBlk ((w.setCell ⟨g, 0, none⟩ x0).setCell ⟨g, 1, none⟩ x1) g #[x0, x1, a2, a3, a4, a5, a6, a7, a8, a9, a10, a11, a12, a13, a14] := s0.set_ 1 x1
  have s2 : MBlk (((w.setCell ⟨g, 0, none⟩ x0).setCell ⟨g, 1, none⟩ x1).setCell ⟨g, 2, none⟩ x2) g #[x0, x1, x2, a3, a4, a5, a6, a7, a8, a9, a10, a11, a12, a13, a14] := s1.set_ 2 x2
  have s3 : MBlk ((((w.setCell ⟨g, 0, none⟩ x0).setCell ⟨g, 1, none⟩ x1).setCell ⟨g, 2, none⟩ x2).setCell ⟨g, 3, none⟩ x3) g #[x0, x1, x2, x3, a4, a5, a6, a7, a8, a9, a10, a11, a12, a13, a14] := s2.set_ 3 x3
  have s4 : MBlk (((((w.setCell ⟨g, 0, none⟩ x0).setCell ⟨g, 1, none⟩ x1).setCell ⟨g, 2, none⟩ x2).setCell ⟨g, 3, none⟩ x3).setCell ⟨g, 4, none⟩ x4) g #[x0, x1, x2, x3, x4, a5, a6, a7, a8, a9, a10, a11, a12, a13, a14] := s3.set_ 4 x4
  have s5 : MBlk ((((((w.setCell ⟨g, 0, none⟩ x0).setCell ⟨g, 1, none⟩ x1).setCell ⟨g, 2, none⟩ x2).setCell ⟨g, 3, none⟩ x3).setCell ⟨g, 4, none⟩ x4).setCell ⟨g, 5, none⟩ x5) g #[x0, x1, x2, x3, x4, x5, a6, a7, a8, a9, a10, a11, a12, a13, a14] := s4.set_ 5 x5
  have s6 : MBlk (((((((w.setCell ⟨g, 0, none⟩ x0).setCell ⟨g, 1, none⟩ x1).setCell ⟨g, 2, none⟩ x2).setCell ⟨g, 3, none⟩ x3).setCell ⟨g, 4, none⟩ x4).setCell ⟨g, 5, none⟩ x5).setCell ⟨g, 6, none⟩ x6) g #[x0, x1, x2, x3, x4, x5, x6, a7, a8, a9, a10, a11, a12, a13, a14] := s5.set_ 6 x6
  have s7 : MBlk ((((((((w.setCell ⟨g, 0, none⟩ x0).setCell ⟨g, 1, none⟩ x1).setCell ⟨g, 2, none⟩ x2).setCell ⟨g, 3, none⟩ x3).setCell ⟨g, 4, none⟩ x4).setCell ⟨g, 5, none⟩ x5).setCell ⟨g, 6, none⟩ x6).setCell ⟨g, 7, none⟩ x7) g #[x0, x1, x2, x3, x4, x5, x6, x7, a8, a9, a10, a11, a12, a13, a14] := s6.set_ 7 x7
  have s8 : MBlk (((((((((w.setCell ⟨g, 0, none⟩ x0).setCell ⟨g, 1, none⟩ x1).setCell ⟨g, 2, none⟩ x2).setCell ⟨g, 3, none⟩ x3).setCell ⟨g, 4, none⟩ x4).setCell ⟨g, 5, none⟩ x5).setCell ⟨g, 6, none⟩ x6).setCell ⟨g, 7, none⟩ x7).setCell ⟨g, 8, none⟩ x8) g #[x0, x1, x2, x3, x4, x5, x6, x7, x8, a9, a10, a11, a12, a13, a14] := s7.set_ 8 x8
  have s9 : MBlk ((((((((((w.setCell ⟨g, 0, none⟩ x0).setCell ⟨g, 1, none⟩ x1).setCell ⟨g, 2, none⟩ x2).setCell ⟨g, 3, none⟩ x3).setCell ⟨g, 4, none⟩ x4).setCell ⟨g, 5, none⟩ x5).setCell ⟨g, 6, none⟩ x6).setCell ⟨g, 7, none⟩ x7).setCell ⟨g, 8, none⟩ x8).setCell ⟨g, 9, none⟩ x9) g #[x0, x1, x2, x3, x4, x5, x6, x7, x8, x9, a10, a11, a12, a13, a14] := s8.set_ 9 x9
  have s10 : MBlk (((((((((((w.setCell ⟨g, 0, none⟩ x0).setCell ⟨g, 1, none⟩ x1).setCell ⟨g, 2, none⟩ x2).setCell ⟨g, 3, none⟩ x3).setCell ⟨g, 4, none⟩ x4).setCell ⟨g, 5, none⟩ x5).setCell ⟨g, 6, none⟩ x6).setCell ⟨g, 7, none⟩ x7).setCell ⟨g, 8, none⟩ x8).setCell ⟨g, 9, none⟩ x9).setCell ⟨g, 10, none⟩ x10) g #[x0, x1, x2, x3, x4, x5, x6, x7, x8, x9, x10, a11, a12, a13, a14] := s9.set_ 10 x10
  have s11 : MBlk ((((((((((((w.setCell ⟨g, 0, none⟩ x0).setCell ⟨g, 1, none⟩ x1).setCell ⟨g, 2, none⟩ x2).setCell ⟨g, 3, none⟩ x3).setCell ⟨g, 4, none⟩ x4).setCell ⟨g, 5, none⟩ x5).setCell ⟨g, 6, none⟩ x6).setCell ⟨g, 7, none⟩ x7).setCell ⟨g, 8, none⟩ x8).setCell ⟨g, 9, none⟩ x9).setCell ⟨g, 10, none⟩ x10).setCell ⟨g, 11, none⟩ x11) g #[x0, x1, x2, x3, x4, x5, x6, x7, x8, x9, x10, x11, a12, a13, a14] := s10.set_ 11 x11
  have s12 : MBlk (((((((((((((w.setCell ⟨g, 0, none⟩ x0).setCell ⟨g, 1, none⟩ x1).setCell ⟨g, 2, none⟩ x2).setCell ⟨g, 3, none⟩ x3).setCell ⟨g, 4, none⟩ x4).setCell ⟨g, 5, none⟩ x5).setCell ⟨g, 6, none⟩ x6).setCell ⟨g, 7, none⟩ x7).setCell ⟨g, 8, none⟩ x8).setCell ⟨g, 9, none⟩ x9).setCell ⟨g, 10, none⟩ x10).setCell ⟨g, 11, none⟩ x11).setCell ⟨g, 12, none⟩ x12) g #[x0, x1, x2, x3, x4, x5, x6, x7, x8, x9, x10, x11, x12, a13, a14] := s11.set_ 12 x12
  have s13 : MBlk ((((((((((((((w.setCell ⟨g, 0, none⟩ x0).setCell ⟨g, 1, none⟩ x1).setCell ⟨g, 2, none⟩ x2).setCell ⟨g, 3, none⟩ x3).setCell ⟨g, 4, none⟩ x4).setCell ⟨g, 5, none⟩ x5).setCell ⟨g, 6, none⟩ x6).setCell ⟨g, 7, none⟩ x7).setCell ⟨g, 8, none⟩ x8).setCell ⟨g, 9, none⟩ x9).setCell ⟨g, 10, none⟩ x10).setCell ⟨g, 11, none⟩ x11).setCell ⟨g, 12, none⟩ x12).setCell ⟨g, 13, none⟩ x13) g #[x0, x1, x2, x3, x4, x5, x6, x7, x8, x9, x10, x11, x12, x13, a14] := s12.set_ 13 x13
  have s14 : MBlk (((((((((((((((w.setCell ⟨g, 0, none⟩ x0).setCell ⟨g, 1, none⟩ x1).setCell ⟨g, 2, none⟩ x2).setCell ⟨g, 3, none⟩ x3).setCell ⟨g, 4, none⟩ x4).setCell ⟨g, 5, none⟩ x5).setCell ⟨g, 6, none⟩ x6).setCell ⟨g, 7, none⟩ x7).setCell ⟨g, 8, none⟩ x8).setCell ⟨g, 9, none⟩ x9).setCell ⟨g, 10, none⟩ x10).setCell ⟨g, 11, none⟩ x11).setCell ⟨g, 12, none⟩ x12).setCell ⟨g, 13, none⟩ x13).setCell ⟨g, 14, none⟩ x14) g #[x0, x1, x2, x3, x4, x5, x6, x7, x8, x9, x10, x11, x12, x13, x14] := s13.set_ 14 x14
  exact s14

theorem MBlk.fill_far {w : World} {g g' : Nat} {cs : Array Value} (h : MBlk w g' cs) (hne : g' ≠ g) (x0 x1 x2 x3 x4 x5 x6 x7 x8 x9 x10 x11 x12 x13 x14 : Value) :
    MBlk (((((((((((((((w.setCell ⟨g, 0, none⟩ x0).setCell ⟨g, 1, none⟩ x1).setCell ⟨g, 2, none⟩ x2).setCell ⟨g, 3, none⟩ x3).setCell ⟨g, 4, none⟩ x4).setCell ⟨g, 5, none⟩ x5).setCell ⟨g, 6, none⟩ x6).setCell ⟨g, 7, none⟩ x7).setCell ⟨g, 8, none⟩ x8).setCell ⟨g, 9, none⟩ x9).setCell ⟨g, 10, none⟩ x10).setCell ⟨g, 11, none⟩ x11).setCell ⟨g, 12, none⟩ x12).setCell ⟨g, 13, none⟩ x13).setCell ⟨g, 14, none⟩ x14) g' cs := by
  exact (((((((((((((((h).far hne x0).far hne x1).far hne x2).far hne x3).far hne x4).far hne x5).far hne x6).far hne x7).far hne x8).far hne x9).far hne x10).far hne x11).far hne x12).far hne x13).far hne x14
theorem below_fill {B : Nat} {w0 w : World} (h : Below B w0 w) {g : Nat} (hle : B ≤ g) (x0 x1 x2 x3 x4 x5 x6 x7 x8 x9 x10 x11 x12 x13 x14 : Value) :
    Below B w0 (((((((((((((((w.setCell ⟨g, 0, none⟩ x0).setCell ⟨g, 1, none⟩ x1).setCell ⟨g, 2, none⟩ x2).setCell ⟨g, 3, none⟩ x3).setCell ⟨g, 4, none⟩ x4).setCell ⟨g, 5, none⟩ x5).setCell ⟨g, 6, none⟩ x6).setCell ⟨g, 7, none⟩ x7).setCell ⟨g, 8, none⟩ x8).setCell ⟨g, 9, none⟩ x9).setCell ⟨g, 10, none⟩ x10).setCell ⟨g, 11, none⟩ x11).setCell ⟨g, 12, none⟩ x12).setCell ⟨g, 13, none⟩ x13).setCell ⟨g, 14, none⟩ x14) := by
  exact (((((((((((((((h).setCell (p := ⟨g, 0, none⟩) hle x0).setCell (p := ⟨g, 1, none⟩) hle x1).setCell (p := ⟨g, 2, none⟩) hle x2).setCell (p := ⟨g, 3, none⟩) hle x3).setCell (p := ⟨g, 4, none⟩) hle x4).setCell (p := ⟨g, 5, none⟩) hle x5).setCell (p := ⟨g, 6, none⟩) hle x6).setCell (p := ⟨g, 7, none⟩) hle x7).setCell (p := ⟨g, 8, none⟩) hle x8).setCell (p := ⟨g, 9, none⟩) hle x9).setCell (p := ⟨g, 10, none⟩) hle x10).setCell (p := ⟨g, 11, none⟩) hle x11).setCell (p := ⟨g, 12, none⟩) hle x12).setCell (p := ⟨g, 13, none⟩) hle x13).setCell (p := ⟨g, 14, none⟩) hle x14
end Go.Proofs.Ytlokmliannklaaa.Print
end

section
namespace Go.Proofs.Ytlokmliannklaaa.Print
open Go.RowKit Go.Proofs.YtlokmliannklaaaW.PrintWords Go.Proofs.YtlokmliannklaaaW.PrintMore
set_option linter.unusedVariables false
set_option linter.unusedSimpArgs false

theorem size_one (w : World) : Calls Try.prog 49 #[.int .i64 1] w fun e w' => e = .returned (.bool true) ∧ w = w' := by
  go_enter Try.func49, Try.ntmps49
  go_wp2
  go_ret
  exact ⟨rfl, rfl⟩
theorem sendOK {n : Int} (h0 : 0 ≤ n) (h1 : n ≤ 100) : MiOK n 0 0 0 0 0 0 := ⟨by omega, by omega, h1, by omega, by omega, by omega, by omega, by omega, by omega, by omega, by omega, by omega, by omega⟩

set_option maxHeartbeats 8000000 in
set_option maxRecDepth 100000 in
theorem send_one (n : Int) (h0 : 0 ≤ n) (h1 : n ≤ 99) (w : World) :
    Calls Try.prog 35 #[.agg #[.int .i64 0, .int .i64 0, .int .i64 (-1), .int .i64 n, .int .i64 0, .int .i64 0, .int .i64 n, .int .i64 0, .int .i64 0, .int .i64 0, .int .i64 0, .int .i64 0, .int .i64 0, .int .i64 0, .int .i64 0], .int .i64 1] w fun e w' => e = .returned (.tuple #[.agg #[.int .i64 0, .int .i64 0, .int .i64 (-1), .int .i64 (n + 1), .int .i64 0, .int .i64 0, .int .i64 (n + 1), .int .i64 0, .int .i64 0, .int .i64 0, .int .i64 0, .int .i64 0, .int .i64 0, .int .i64 0, .int .i64 0], .int .i64 0]) ∧ Below w.heap.size w w' := by
  have o := Lib.hid (sendOK h0 (show n ≤ 100 by omega))
  have d0 : (n == 1048576) = false := by simp; omega
  go_enter Try.func35, Try.ntmps35
  go_wp2_with fail
  refine (o.out.calls _).mono ?_
  rintro e w1 ⟨rfl, hb1⟩
  have b0 := ((MBlk.new w #[.int .i64 0, .int .i64 0, .int .i64 (-1), .int .i64 n, .int .i64 0, .int .i64 0, .int .i64 n, .int .i64 0, .int .i64 0, .int .i64 0, .int .i64 0, .int .i64 0, .int .i64 0, .int .i64 0, .int .i64 0]).alloc (.cells #[.int .i64 0, .int .i64 0, .int .i64 0, .int .i64 0, .int .i64 0, .int .i64 0, .int .i64 0, .int .i64 0, .int .i64 0, .int .i64 0, .int .i64 0, .int .i64 0, .int .i64 0, .int .i64 0, .int .i64 0] 29)).on hb1
  have b1 := MBlk.on (show MBlk _ (w.heap.size + 1) #[.int .i64 0, .int .i64 0, .int .i64 0, .int .i64 0, .int .i64 0, .int .i64 0, .int .i64 0, .int .i64 0, .int .i64 0, .int .i64 0, .int .i64 0, .int .i64 0, .int .i64 0, .int .i64 0, .int .i64 0] by have := MBlk.new (w.alloc (.cells #[.int .i64 0, .int .i64 0, .int .i64 (-1), .int .i64 n, .int .i64 0, .int .i64 0, .int .i64 n, .int .i64 0, .int .i64 0, .int .i64 0, .int .i64 0, .int .i64 0, .int .i64 0, .int .i64 0, .int .i64 0] 29)) #[.int .i64 0, .int .i64 0, .int .i64 0, .int .i64 0, .int .i64 0, .int .i64 0, .int .i64 0, .int .i64 0, .int .i64 0, .int .i64 0, .int .i64 0, .int .i64 0, .int .i64 0, .int .i64 0, .int .i64 0]; simpa using this) hb1
  have HB := Lib.hid (below_step (below_alloc (below_alloc (Below.refl w.heap.size w) _) _) hb1)
  clear hb1
  have b0c0 := b0.cell 0
  have b0f0 := b0.frozen 0
  have b0c1 := b0.cell 1
  have b0f1 := b0.frozen 1
  have b0c2 := b0.cell 2
  have b0f2 := b0.frozen 2
  have b0c3 := b0.cell 3
  have b0f3 := b0.frozen 3
  have b0c4 := b0.cell 4
  have b0f4 := b0.frozen 4
  have b0c5 := b0.cell 5
  have b0f5 := b0.frozen 5
  have b0c6 := b0.cell 6
  have b0f6 := b0.frozen 6
  have b0c7 := b0.cell 7
  have b0f7 := b0.frozen 7
  have b0c8 := b0.cell 8
  have b0f8 := b0.frozen 8
  have b0c9 := b0.cell 9
  have b0f9 := b0.frozen 9
  have b0c10 := b0.cell 10
  have b0f10 := b0.frozen 10
  have b0c11 := b0.cell 11
  have b0f11 := b0.frozen 11
  have b0c12 := b0.cell 12
  have b0f12 := b0.frozen 12
  have b0c13 := b0.cell 13
  have b0f13 := b0.frozen 13
  have b0c14 := b0.cell 14
  have b0f14 := b0.frozen 14
  simp at b0c0 b0c1 b0c2 b0c3 b0c4 b0c5 b0c6 b0c7 b0c8 b0c9 b0c10 b0c11 b0c12 b0c13 b0c14
  have b1c0 := b1.cell 0
  have b1f0 := b1.frozen 0
  have b1c1 := b1.cell 1
  have b1f1 := b1.frozen 1
  have b1c2 := b1.cell 2
  have b1f2 := b1.frozen 2
  have b1c3 := b1.cell 3
  have b1f3 := b1.frozen 3
  have b1c4 := b1.cell 4
  have b1f4 := b1.frozen 4
  have b1c5 := b1.cell 5
  have b1f5 := b1.frozen 5
  have b1c6 := b1.cell 6
  have b1f6 := b1.frozen 6
  have b1c7 := b1.cell 7
  have b1f7 := b1.frozen 7
  have b1c8 := b1.cell 8
  have b1f8 := b1.frozen 8
  have b1c9 := b1.cell 9
  have b1f9 := b1.frozen 9
  have b1c10 := b1.cell 10
  have b1f10 := b1.frozen 10
  have b1c11 := b1.cell 11
  have b1f11 := b1.frozen 11
  have b1c12 := b1.cell 12
  have b1f12 := b1.frozen 12
  have b1c13 := b1.cell 13
  have b1f13 := b1.frozen 13
  have b1c14 := b1.cell 14
  have b1f14 := b1.frozen 14
  simp at b1c0 b1c1 b1c2 b1c3 b1c4 b1c5 b1c6 b1c7 b1c8 b1c9 b1c10 b1c11 b1c12 b1c13 b1c14
  go_wp2_with fail
  refine (size_one _).mono ?_
  rintro e w' ⟨rfl, rfl⟩
  go_wp2_with fail
  refine bodyPost_ret (results_ct rfl _ _ (w.heap.size + 1) 29 #[.int .i64 0, .int .i64 0, .int .i64 (-1), .int .i64 (n + 1), .int .i64 0, .int .i64 0, .int .i64 (n + 1), .int .i64 0, .int .i64 0, .int .i64 0, .int .i64 0, .int .i64 0, .int .i64 0, .int .i64 0, .int .i64 0] (0, 0) _ rfl (MBlk.fill (((b1).far (by simp) _).far (by simp) _) _ _ _ _ _ _ _ _ _ _ _ _ _ _ _) Try.underlying29 rfl (by kernel_rfl)) rfl ?_
  exact ⟨rfl, below_set (below_set (below_set (below_set (below_set (below_set (below_set (below_set (below_set (below_set (below_set (below_set (below_set (below_set (below_set (below_set (below_set (HB.out) (by omega)) (by omega)) (by omega)) (by omega)) (by omega)) (by omega)) (by omega)) (by omega)) (by omega)) (by omega)) (by omega)) (by omega)) (by omega)) (by omega)) (by omega)) (by omega)) (by omega)⟩
end Go.Proofs.Ytlokmliannklaaa.Print
end
