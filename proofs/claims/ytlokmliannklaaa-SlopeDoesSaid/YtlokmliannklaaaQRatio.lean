/- Hand contracts: the ratio; Hand contracts: the ratio of any two wide numbers. -/
import Derived.Test.YtlokmliannklaaaQBase
import Derived.Test.YtlokmliannklaaaProg
import Derived.Below
import Derived.Deep.Draws
import Derived.OwnWalk
import Derived.Tactics
import Derived.WalkKit
import Derived.KernelRfl
import Derived.Deep.LoopGhost
import Derived.Deep.QuietTactic
import Derived.BigQuiet
import Derived.Laws.Rows
import Derived.Laws.BitsLemmas
import Derived.RowKit
import Derived.Outline
import Derived.Handy
import Derived.LoopN
import Derived.ScopeJumps
import Derived.Lib.Hide
import Derived.Test.YtlokmliannklaaaQWide
import Derived.Test.YtlokmliannklaaaQRight
import Derived.RegionTactic
import Derived.ChangeAlike
import Derived.BigRegion
import Derived.WalkMore
import Derived.Deep.Cut
section
namespace Go.Proofs.Ytlokmliannklaaa.Print
open Go.RowKit Go.Proofs.YtlokmliannklaaaW.PrintWords
set_option linter.unusedVariables false
set_option linter.unusedSimpArgs false
attribute [local go_sem high] eqH24

/-- The memory of `slope.Ratio` at its label. -/
structure RW (w wr : World) (ah al bh bl rh rl : Int) (g4 g5 : Nat) (x4 y4 x5 y5 : Value) : Prop where
  below : Below w.heap.size w wr
  b0 : Blk wr w.heap.size #[.int .u64 ah, .int .u64 al]
  b1 : Blk wr (w.heap.size + 1) #[.int .u64 bh, .int .u64 bl]
  b3 : Blk wr (w.heap.size + 1 + 1 + 1) #[.int .u64 rh, .int .u64 rl]
  b4 : Blk wr g4 #[x4, y4]
  b5 : Blk wr g5 #[x5, y5]
  l4 : w.heap.size + 1 + 1 + 1 < g4
  l5 : g4 < g5
section
variable {w wr w2 : World} {ah al bh bl rh rl : Int} {g4 g5 : Nat} {x4 y4 x5 y5 : Value}
theorem RW.on (h : RW w wr ah al bh bl rh rl g4 g5 x4 y4 x5 y5) (hb : Below wr.heap.size wr w2) : RW w w2 ah al bh bl rh rl g4 g5 x4 y4 x5 y5 :=
  ⟨below_step h.below hb, h.b0.on hb, h.b1.on hb, h.b3.on hb, h.b4.on hb, h.b5.on hb, h.l4, h.l5⟩
theorem RW.put3 (h : RW w wr ah al bh bl rh rl g4 g5 x4 y4 x5 y5) (x y : Int) :
    RW w ((wr.setCell ⟨w.heap.size + 1 + 1 + 1, 0, none⟩ (.int .u64 x)).setCell ⟨w.heap.size + 1 + 1 + 1, 1, none⟩ (.int .u64 y)) ah al bh bl x y g4 g5 x4 y4 x5 y5 :=
  have l4 := h.l4
  have l5 := h.l5
  ⟨below_set (below_set h.below (by first | omega | (simp; done) | (simp; omega))) (by first | omega | (simp; done) | (simp; omega)), (h.b0.far (by first | omega | (simp; done) | (simp; omega)) _).far (by first | omega | (simp; done) | (simp; omega)) _, (h.b1.far (by first | omega | (simp; done) | (simp; omega)) _).far (by first | omega | (simp; done) | (simp; omega)) _, (h.b3.set_ 0 _).set_ 1 _, (h.b4.far (by first | omega | (simp; done) | (simp; omega)) _).far (by first | omega | (simp; done) | (simp; omega)) _, (h.b5.far (by first | omega | (simp; done) | (simp; omega)) _).far (by first | omega | (simp; done) | (simp; omega)) _, h.l4, h.l5⟩
theorem RW.put31 (h : RW w wr ah al bh bl rh rl g4 g5 x4 y4 x5 y5) (y : Int) :
    RW w (wr.setCell ⟨w.heap.size + 1 + 1 + 1, 1, none⟩ (.int .u64 y)) ah al bh bl rh y g4 g5 x4 y4 x5 y5 :=
  have l4 := h.l4
  have l5 := h.l5
  ⟨below_set h.below (by first | omega | (simp; done) | (simp; omega)), h.b0.far (by first | omega | (simp; done) | (simp; omega)) _, h.b1.far (by first | omega | (simp; done) | (simp; omega)) _, h.b3.set_ 1 _, h.b4.far (by first | omega | (simp; done) | (simp; omega)) _, h.b5.far (by first | omega | (simp; done) | (simp; omega)) _, h.l4, h.l5⟩
theorem RW.put4 (h : RW w wr ah al bh bl rh rl g4 g5 x4 y4 x5 y5) (x y : Value) :
    RW w ((wr.setCell ⟨g4, 0, none⟩ x).setCell ⟨g4, 1, none⟩ y) ah al bh bl rh rl g4 g5 x y x5 y5 :=
  have l4 := h.l4
  have l5 := h.l5
  ⟨below_set (below_set h.below (by first | omega | (simp; done) | (simp; omega))) (by first | omega | (simp; done) | (simp; omega)), (h.b0.far (by first | omega | (simp; done) | (simp; omega)) _).far (by first | omega | (simp; done) | (simp; omega)) _, (h.b1.far (by first | omega | (simp; done) | (simp; omega)) _).far (by first | omega | (simp; done) | (simp; omega)) _, (h.b3.far (by first | omega | (simp; done) | (simp; omega)) _).far (by first | omega | (simp; done) | (simp; omega)) _, (h.b4.set_ 0 _).set_ 1 _, (h.b5.far (by first | omega | (simp; done) | (simp; omega)) _).far (by first | omega | (simp; done) | (simp; omega)) _, h.l4, h.l5⟩
theorem RW.put5 (h : RW w wr ah al bh bl rh rl g4 g5 x4 y4 x5 y5) (x y : Value) :
    RW w ((wr.setCell ⟨g5, 0, none⟩ x).setCell ⟨g5, 1, none⟩ y) ah al bh bl rh rl g4 g5 x4 y4 x y :=
  have l4 := h.l4
  have l5 := h.l5
  ⟨below_set (below_set h.below (by first | omega | (simp; done) | (simp; omega))) (by first | omega | (simp; done) | (simp; omega)), (h.b0.far (by first | omega | (simp; done) | (simp; omega)) _).far (by first | omega | (simp; done) | (simp; omega)) _, (h.b1.far (by first | omega | (simp; done) | (simp; omega)) _).far (by first | omega | (simp; done) | (simp; omega)) _, (h.b3.far (by first | omega | (simp; done) | (simp; omega)) _).far (by first | omega | (simp; done) | (simp; omega)) _, (h.b4.far (by first | omega | (simp; done) | (simp; omega)) _).far (by first | omega | (simp; done) | (simp; omega)) _, (h.b5.set_ 0 _).set_ 1 _, h.l4, h.l5⟩
theorem RW.facts (h : RW w wr ah al bh bl rh rl g4 g5 x4 y4 x5 y5) :
    wr.cell? ⟨w.heap.size, 0, none⟩ = some (.int .u64 ah) ∧ wr.cell? ⟨w.heap.size, 1, none⟩ = some (.int .u64 al) ∧ wr.cell? ⟨w.heap.size + 1, 0, none⟩ = some (.int .u64 bh) ∧ wr.cell? ⟨w.heap.size + 1, 1, none⟩ = some (.int .u64 bl) ∧
    wr.cell? ⟨w.heap.size + 1 + 1 + 1, 0, none⟩ = some (.int .u64 rh) ∧ wr.cell? ⟨w.heap.size + 1 + 1 + 1, 1, none⟩ = some (.int .u64 rl) ∧ wr.frozen? ⟨w.heap.size + 1 + 1 + 1, 0, none⟩ = false ∧ wr.frozen? ⟨w.heap.size + 1 + 1 + 1, 1, none⟩ = false ∧
    wr.cell? ⟨g4, 0, none⟩ = some x4 ∧ wr.cell? ⟨g4, 1, none⟩ = some y4 ∧ wr.frozen? ⟨g4, 0, none⟩ = false ∧ wr.frozen? ⟨g4, 1, none⟩ = false ∧
    wr.cell? ⟨g5, 0, none⟩ = some x5 ∧ wr.cell? ⟨g5, 1, none⟩ = some y5 ∧ wr.frozen? ⟨g5, 0, none⟩ = false ∧ wr.frozen? ⟨g5, 1, none⟩ = false :=
  ⟨h.b0.cell 0, h.b0.cell 1, h.b1.cell 0, h.b1.cell 1, h.b3.cell 0, h.b3.cell 1, h.b3.frozen 0, h.b3.frozen 1, h.b4.cell 0, h.b4.cell 1, h.b4.frozen 0, h.b4.frozen 1, h.b5.cell 0, h.b5.cell 1, h.b5.frozen 0, h.b5.frozen 1⟩
end

/-- The frame of `slope.Ratio` at its label. -/
def ratioAct (a b : Value) (g0 g1 g2 g3 g4 g5 : Nat) (q n o : Int) (u : Nat → Value) : Act :=
  { tmps := #[a, b, .pointer (some ⟨g0, 0, none⟩), .pointer (some ⟨g1, 0, none⟩), .int .i64 0, .pointer (some ⟨g2, 0, none⟩), .int .u64 q, .pointer (some ⟨g3, 0, none⟩), .int .i64 n, .pointer (some ⟨g4, 0, none⟩), .pointer (some ⟨g5, 0, none⟩), .int .u64 o, u 12, u 13, u 14, u 15, u 16, u 17, u 18, u 19, u 20, u 21, u 22, u 23, u 24, u 25, u 26, u 27, u 28, u 29, u 30, u 31, u 32, u 33, u 34, u 35, u 36, u 37, u 38, u 39, u 40, u 41, u 42, u 43, u 44, u 45, u 46, u 47, u 48, u 49, u 50, u 51, u 52, u 53, u 54, u 55, u 56, u 57, u 58, u 59, u 60, u 61, u 62, u 63, u 64, u 65, u 66, u 67, u 68, u 69, u 70, u 71, u 72, u 73, u 74, u 75, u 76, u 77, u 78, u 79, u 80, u 81, u 82, u 83, u 84, u 85, u 86, u 87, u 88, u 89, u 90, u 91, u 92, u 93, u 94, u 95], defers := [] }
theorem ratioAct_of {a b : Value} {g0 g1 g2 g3 g4 g5 : Nat} {q n o : Int} {v12 v13 v14 v15 v16 v17 v18 v19 v20 v21 v22 v23 v24 v25 v26 v27 v28 v29 v30 v31 v32 v33 v34 v35 v36 v37 v38 v39 v40 v41 v42 v43 v44 v45 v46 v47 v48 v49 v50 v51 v52 v53 v54 v55 v56 v57 v58 v59 v60 v61 v62 v63 v64 v65 v66 v67 v68 v69 v70 v71 v72 v73 v74 v75 v76 v77 v78 v79 v80 v81 v82 v83 v84 v85 v86 v87 v88 v89 v90 v91 v92 v93 v94 v95 : Value} :
  ({ tmps := #[a, b, .pointer (some ⟨g0, 0, none⟩), .pointer (some ⟨g1, 0, none⟩), .int .i64 0, .pointer (some ⟨g2, 0, none⟩), .int .u64 q, .pointer (some ⟨g3, 0, none⟩), .int .i64 n, .pointer (some ⟨g4, 0, none⟩), .pointer (some ⟨g5, 0, none⟩), .int .u64 o, v12, v13, v14, v15, v16, v17, v18, v19, v20, v21, v22, v23, v24, v25, v26, v27, v28, v29, v30, v31, v32, v33, v34, v35, v36, v37, v38, v39, v40, v41, v42, v43, v44, v45, v46, v47, v48, v49, v50, v51, v52, v53, v54, v55, v56, v57, v58, v59, v60, v61, v62, v63, v64, v65, v66, v67, v68, v69, v70, v71, v72, v73, v74, v75, v76, v77, v78, v79, v80, v81, v82, v83, v84, v85, v86, v87, v88, v89, v90, v91, v92, v93, v94, v95], defers := [] } : Act) =
    ratioAct a b g0 g1 g2 g3 g4 g5 q n o (fun i => #[v12, v13, v14, v15, v16, v17, v18, v19, v20, v21, v22, v23, v24, v25, v26, v27, v28, v29, v30, v31, v32, v33, v34, v35, v36, v37, v38, v39, v40, v41, v42, v43, v44, v45, v46, v47, v48, v49, v50, v51, v52, v53, v54, v55, v56, v57, v58, v59, v60, v61, v62, v63, v64, v65, v66, v67, v68, v69, v70, v71, v72, v73, v74, v75, v76, v77, v78, v79, v80, v81, v82, v83, v84, v85, v86, v87, v88, v89, v90, v91, v92, v93, v94, v95].getD (i - 12) undef) := rfl

def JR (ah al bh bl : Int) (w : World) (a' : Act) (wr : World) : Prop :=
  ∃ (n : Nat) (q rh rl o : Int) (g4 g5 : Nat) (x4 y4 x5 y5 : Value) (u : Nat → Value),
    a' = ratioAct (.agg #[.int .u64 ah, .int .u64 al]) (.agg #[.int .u64 bh, .int .u64 bl]) w.heap.size (w.heap.size + 1) (w.heap.size + 1 + 1) (w.heap.size + 1 + 1 + 1) g4 g5 q n o u ∧
    RW w wr ah al bh bl rh rl g4 g5 x4 y4 x5 y5 ∧
    1 ≤ n ∧ n ≤ 148 ∧ 0 ≤ q ∧ q < 4611686018427387904 ∧ isU64 rh = true ∧ isU64 rl = true ∧ RInv (wideOf ah al) (wideOf bh bl) n q rh rl

theorem start_RW {w w1 : World} {ah al bh bl : Int}
    (hb1 : Below ((((w.alloc (.cells #[.int .u64 ah, .int .u64 al] 24)).alloc (.cells #[.int .u64 bh, .int .u64 bl] 24)).alloc (.cells #[.int .u64 0, .int .u64 0] 24)).alloc (.cells #[.int .u64 0, .int .u64 0] 24)).drew.heap.size
      ((((w.alloc (.cells #[.int .u64 ah, .int .u64 al] 24)).alloc (.cells #[.int .u64 bh, .int .u64 bl] 24)).alloc (.cells #[.int .u64 0, .int .u64 0] 24)).alloc (.cells #[.int .u64 0, .int .u64 0] 24)).drew w1) :
    RW w ((w1.alloc (.cells #[.int .u64 0, .int .u64 0] 24)).alloc (.cells #[.int .u64 0, .int .u64 0] 24)) ah al bh bl 0 0 w1.heap.size (w1.heap.size + 1) (.int .u64 0) (.int .u64 0) (.int .u64 0) (.int .u64 0) := by
  have hs := hb1.size
  have z : ∀ (W : World) (o : Obj), (W.alloc o).heap.size = W.heap.size + 1 := fun W o => by simp
  have hd : ∀ W : World, W.drew.heap = W.heap := fun _ => rfl
  rw [hd, z, z, z, z] at hs
  have B0 := (((((Blk.new w #[.int .u64 ah, .int .u64 al]).alloc (.cells #[.int .u64 bh, .int .u64 bl] 24)).alloc (.cells #[.int .u64 0, .int .u64 0] 24)).alloc (.cells #[.int .u64 0, .int .u64 0] 24)).drew).on hb1
  have B1 := ((((Blk.new (w.alloc (.cells #[.int .u64 ah, .int .u64 al] 24)) #[.int .u64 bh, .int .u64 bl]).alloc (.cells #[.int .u64 0, .int .u64 0] 24)).alloc (.cells #[.int .u64 0, .int .u64 0] 24)).drew).on hb1
  have B3 := ((Blk.new (((w.alloc (.cells #[.int .u64 ah, .int .u64 al] 24)).alloc (.cells #[.int .u64 bh, .int .u64 bl] 24)).alloc (.cells #[.int .u64 0, .int .u64 0] 24)) #[.int .u64 0, .int .u64 0]).drew).on hb1
  rw [z] at B1
  rw [z, z, z] at B3
  have B4 := (Blk.new w1 #[.int .u64 0, .int .u64 0]).alloc (.cells #[.int .u64 0, .int .u64 0] 24)
  have B5 := Blk.new (w1.alloc (.cells #[.int .u64 0, .int .u64 0] 24)) #[.int .u64 0, .int .u64 0]
  rw [z] at B5
  exact ⟨below_alloc (below_alloc (below_step (below_drew (below_alloc (below_alloc (below_alloc (below_alloc (Below.refl _ _) _) _) _) _)) hb1) _) _, (B0.alloc _).alloc _, (B1.alloc _).alloc _, (B3.alloc _).alloc _, B4, B5, by omega, by omega⟩

theorem jumps_first {P : Program} {c rest : Code} {Q : Exit → Act → World → Prop} {a : Act} {w : World} (l : Nat) (J : Act → World → Prop) (μ : Act → World → Nat) (hf : findLabel c l = some (Code.skip.seq rest))
    (pass : ∀ a w, J a w → rest.wp P (Exit.jump l (fun a' w' => J a' w' ∧ μ a' w' < μ a w) Q) a w)
    (first : (∀ a w, J a w → rest.wp P (Exit.jump l J Q) a w) → c.wp P (Exit.jump l J Q) a w) : (Code.scope c).wp P Q a w := by
  refine wp_scope_jumps l J μ hf (first (fun a w h => Code.wp_mono ?_ (pass a w h))) (fun a w h => wp_seq (wp_skip (pass a w h)))
  intro e a1 W1 h
  cases e with
  | goto l => exact ⟨h.1, h.2.1⟩
  | normal => exact h
  | exit id => exact h
  | ret => exact h
  | panic ch => exact h
  | outgrown => exact h

/-- With numbers that are not 0, from the label on. -/
def Loops (ah al bh bl : Int) : Prop := True

set_option maxHeartbeats 40000000 in
set_option maxRecDepth 100000 in
theorem ratio_loop (ah al bh bl : Int) (h0 : isU64 ah = true) (h1 : isU64 al = true) (h2 : isU64 bh = true) (h3 : isU64 bl = true) (ha : (ah == 0 && (al == 0)) = false) (hb : (bh == 0 && (bl == 0)) = false) (w : World) :
    Calls Try.prog 10 #[.agg #[.int .u64 ah, .int .u64 al], .agg #[.int .u64 bh, .int .u64 bl]] w fun e w' => e = .returned (.int .i64 (ratioOf (wideOf ah al) (wideOf bh bl))) ∧ Below w.heap.size w w' := by
  have hA : wideOf ah al ≠ 0 := (wide_pos h0 h1 ha).2
  have hB : 0 < wideOf bh bl := (wide_pos h2 h3 hb).1
  go_enter Try.func10, Try.ntmps10
  go_wp2_with fail
  refine jumps_first 0 (JR ah al bh bl w) (fun a' _ => (intOf (a'.tmps.getD 8 undef)).toNat) rfl ?_ (fun pass => ?_)
  · rintro a' wr ⟨n, q, rh, rl, o, g4, g5, x4, y4, x5, y5, u, rfl, F, n1, n2, q1, q2, hrh, hrl, hI⟩
    have HI := Lib.hid hI
    clear hI
    unfold ratioAct
    obtain ⟨c00, c01, c10, c11, c30, c31, f30, f31, c40, c41, f40, f41, c50, c51, f50, f51⟩ := F.facts
    have l4 := F.l4
    have l5 := F.l5
    have d43 : ¬ g4 = w.heap.size + 1 + 1 + 1 := by omega
    have d34 : ¬ w.heap.size + 1 + 1 + 1 = g4 := by omega
    by_cases hn : 21 ≤ n
    · obtain ⟨r1, r2, hr, hbit, hr2⟩ := right_bit ah al (n - 21) h0 h1 (by omega)
      have hbt : (wideOf ah al / 2 ^ (n - 21) % 2) = wideOf ah al * 1048576 / 2 ^ (n - 1) % 2 := (high_bits _ _ hn).symm
      have hor : bits .or .u64 (addLo rl rl 0) (bits .and .u64 r2 1) = addLo rl rl 0 + (wideOf ah al / 2 ^ (n - 21) % 2) := by
        have hd := double_eq rh rl hrh hrl
        have hl := isU64_out (addLo_u64 rl rl 0)
        rw [hbit]
        exact or_even _ _ hl.1 hl.2 hd.2.1 (by omega) (by omega)
      have HOR := Lib.hid hor
      have HR := Lib.hid hr
      have HBT := Lib.hid hbt
      clear hr hbit hbt hor
      go_wp2_with fail
      rw [show max ((n : Int) - 1 - 20) 0 = ((n - 21 : Nat) : Int) from by omega]
      refine (wide_Right.calls _ _ _ r1 r2 _ HR.out).mono ?_
      rintro e w2 ⟨rfl, hb_⟩
      replace F := (F).on hb_
      clear c00 c01 c10 c11 c30 c31 f30 f31 c40 c41 f40 f41 c50 c51 f50 f51 hb_
      obtain ⟨c00, c01, c10, c11, c30, c31, f30, f31, c40, c41, f40, f41, c50, c51, f50, f51⟩ := F.facts
      go_wp2_with fail
      refine (add_any rh rl rh rl hrh hrl hrh hrl _).mono ?_
      rintro e w3 ⟨rfl, hb_⟩
      replace F := (F.put4 _ _).on hb_
      clear c00 c01 c10 c11 c30 c31 f30 f31 c40 c41 f40 f41 c50 c51 f50 f51 hb_
      obtain ⟨c00, c01, c10, c11, c30, c31, f30, f31, c40, c41, f40, f41, c50, c51, f50, f51⟩ := F.facts
      go_upto_region 15 with (fail)
      obtain ⟨W, hW, F'⟩ : ∃ W, W = _ ∧ RW w W _ _ _ _ _ _ _ _ _ _ _ _ := ⟨_, rfl, (F.put3 _ _).put31 _⟩
      rw [← hW]
      clear hW F c00 c01 c10 c11 c30 c31 f30 f31 c40 c41 f40 f41 c50 c51 f50 f51
      have F := F'
      clear F'
      obtain ⟨Lr, hLr, HLr⟩ : ∃ Lr, Lr = _ ∧ RW w W ah al bh bl (addLo rh rh (addC rl rl 0)) Lr g4 g5 _ _ _ _ := ⟨_, rfl, F⟩
      rw [← hLr] at F
      have eLr : Lr = addLo rl rl 0 + (wideOf ah al / 2 ^ (n - 21) % 2) := hLr.trans HOR.out
      clear hLr HLr
      obtain ⟨c00, c01, c10, c11, c30, c31, f30, f31, c40, c41, f40, f41, c50, c51, f50, f51⟩ := F.facts
      have uL : isU64 Lr = true := by
        have hd := double_eq rh rl hrh hrl
        have hl := isU64_out (addLo_u64 rl rl 0)
        rw [eLr]
        exact isU64_mk (by omega) (by omega)
      have ELR := Lib.hid eLr
      have UL := Lib.hid uL
      clear eLr uL
      have hq2 : bits .or .u64 (q * 2) 1 = q * 2 + 1 := or_even _ _ (by omega) (by omega) (by omega) (by omega) (by omega)
      by_cases ho : addC rh rh (addC rl rl 0) = 1
      · have HI : Go.RowKit.Hid (RInv (wideOf ah al) (wideOf bh bl) (n - 1) (q * 2 + 1) (subLo (addLo rh rh (addC rl rl 0)) bh (subB Lr bl 0)) (subLo Lr bl 0)) := Lib.hid (ELR.out ▸ RInv.yes HI.out n1 hrh hrl h2 h3 HBT.out (.inl ho))
        have ho' : (addC rh rh (addC rl rl 0) == 1) = true := by simpa using ho
        clear ho
        go_wp2_with fail
        refine (sub_any (addLo rh rh (addC rl rl 0)) Lr bh bl (addLo_u64 _ _ _) UL.out h2 h3 _).mono ?_
        rintro e w4 ⟨rfl, hb_⟩
        replace F := (F).on hb_
        clear c00 c01 c10 c11 c30 c31 f30 f31 c40 c41 f40 f41 c50 c51 f50 f51 hb_
        obtain ⟨c00, c01, c10, c11, c30, c31, f30, f31, c40, c41, f40, f41, c50, c51, f50, f51⟩ := F.facts
        go_upto_region 19 with (fail)
        obtain ⟨W4, hW4, F4⟩ : ∃ W, W = _ ∧ RW w W _ _ _ _ _ _ _ _ _ _ _ _ := ⟨_, rfl, F.put3 _ _⟩
        rw [← hW4]
        clear hW4 F c00 c01 c10 c11 c30 c31 f30 f31 c40 c41 f40 f41 c50 c51 f50 f51
        have F := F4
        clear F4
        obtain ⟨c00, c01, c10, c11, c30, c31, f30, f31, c40, c41, f40, f41, c50, c51, f50, f51⟩ := F.facts
        have uRH : isU64 (subLo (addLo rh rh (addC rl rl 0)) bh (subB Lr bl 0)) = true := subLo_u64 _ _ _
        have uRL : isU64 (subLo Lr bl 0) = true := subLo_u64 _ _ _
        have UU := Lib.hid (And.intro uRH uRL)
        clear uRH uRL
        by_cases e1 : 4611686018427387904 < q * 2 + 1
        · have hf := Lib.hid (ratio_top HI.out hA hB UU.out.1 UU.out.2 (by omega))
          clear d43 d34
          go_wp2_with fail
          simp only [Exit.jump]
          go_ret
          exact ⟨by rw [hf.out]; try rfl, F.below⟩
        · by_cases e2 : 2 ≤ n
          · by_cases e3 : 4611686018427387904 ≤ q * 2 + 1
            · omega
            · go_wp2_with fail
              go_step3
              have en : (n : Int) - 1 = ((n - 1 : Nat) : Int) := by omega
              rw [en]
              exact ⟨rfl, ⟨n - 1, q * 2 + 1, _, _, _, g4, g5, _, _, _, _, _, ratioAct_of, F, by omega, by omega, by omega, by omega, UU.out.1, UU.out.2, HI.out⟩, by simp [intOf]; omega⟩
          · omega
      · have ho' : (addC rh rh (addC rl rl 0) == 1) = false := by simpa using ho
        by_cases hc : 0 ≤ cmpW (addLo rh rh (addC rl rl 0)) Lr bh bl
        · have HI : Go.RowKit.Hid (RInv (wideOf ah al) (wideOf bh bl) (n - 1) (q * 2 + 1) (subLo (addLo rh rh (addC rl rl 0)) bh (subB Lr bl 0)) (subLo Lr bl 0)) := Lib.hid (ELR.out ▸ RInv.yes HI.out n1 hrh hrl h2 h3 HBT.out (.inr (ELR.out ▸ hc)))
          clear ho
          go_wp2_with fail
          refine (cmp_any (addLo rh rh (addC rl rl 0)) Lr bh bl _).mono ?_
          rintro e w7 ⟨rfl, hb_⟩
          replace F := (F).on hb_
          clear c00 c01 c10 c11 c30 c31 f30 f31 c40 c41 f40 f41 c50 c51 f50 f51 hb_
          obtain ⟨c00, c01, c10, c11, c30, c31, f30, f31, c40, c41, f40, f41, c50, c51, f50, f51⟩ := F.facts
          go_wp2_with fail
          refine (sub_any (addLo rh rh (addC rl rl 0)) Lr bh bl (addLo_u64 _ _ _) UL.out h2 h3 _).mono ?_
          rintro e w4 ⟨rfl, hb_⟩
          replace F := (F).on hb_
          clear c00 c01 c10 c11 c30 c31 f30 f31 c40 c41 f40 f41 c50 c51 f50 f51 hb_
          obtain ⟨c00, c01, c10, c11, c30, c31, f30, f31, c40, c41, f40, f41, c50, c51, f50, f51⟩ := F.facts
          go_upto_region 19 with (fail)
          obtain ⟨W4, hW4, F4⟩ : ∃ W, W = _ ∧ RW w W _ _ _ _ _ _ _ _ _ _ _ _ := ⟨_, rfl, F.put3 _ _⟩
          rw [← hW4]
          clear hW4 F c00 c01 c10 c11 c30 c31 f30 f31 c40 c41 f40 f41 c50 c51 f50 f51
          have F := F4
          clear F4
          obtain ⟨c00, c01, c10, c11, c30, c31, f30, f31, c40, c41, f40, f41, c50, c51, f50, f51⟩ := F.facts
          have uRH : isU64 (subLo (addLo rh rh (addC rl rl 0)) bh (subB Lr bl 0)) = true := subLo_u64 _ _ _
          have uRL : isU64 (subLo Lr bl 0) = true := subLo_u64 _ _ _
          have UU := Lib.hid (And.intro uRH uRL)
          clear uRH uRL
          by_cases e1 : 4611686018427387904 < q * 2 + 1
          · have hf := Lib.hid (ratio_top HI.out hA hB UU.out.1 UU.out.2 (by omega))
            clear d43 d34
            go_wp2_with fail
            simp only [Exit.jump]
            go_ret
            exact ⟨by rw [hf.out]; try rfl, F.below⟩
          · by_cases e2 : 2 ≤ n
            · by_cases e3 : 4611686018427387904 ≤ q * 2 + 1
              · omega
              · go_wp2_with fail
                go_step3
                have en : (n : Int) - 1 = ((n - 1 : Nat) : Int) := by omega
                rw [en]
                exact ⟨rfl, ⟨n - 1, q * 2 + 1, _, _, _, g4, g5, _, _, _, _, _, ratioAct_of, F, by omega, by omega, by omega, by omega, UU.out.1, UU.out.2, HI.out⟩, by simp [intOf]; omega⟩
            · omega
        · have HI : Go.RowKit.Hid (RInv (wideOf ah al) (wideOf bh bl) (n - 1) (q * 2) (addLo rh rh (addC rl rl 0)) Lr) := Lib.hid (ELR.out ▸ RInv.no HI.out n1 hrh hrl h2 h3 HBT.out ho (ELR.out ▸ hc))
          clear ho
          go_wp2_with fail
          refine (cmp_any (addLo rh rh (addC rl rl 0)) Lr bh bl _).mono ?_
          rintro e w7 ⟨rfl, hb_⟩
          replace F := (F).on hb_
          clear c00 c01 c10 c11 c30 c31 f30 f31 c40 c41 f40 f41 c50 c51 f50 f51 hb_
          obtain ⟨c00, c01, c10, c11, c30, c31, f30, f31, c40, c41, f40, f41, c50, c51, f50, f51⟩ := F.facts
          go_upto_region 19 with (fail)
          have uRH : isU64 (addLo rh rh (addC rl rl 0)) = true := addLo_u64 _ _ _
          have uRL : isU64 Lr = true := UL.out
          have UU := Lib.hid (And.intro uRH uRL)
          clear uRH uRL
          by_cases e1 : 4611686018427387904 < q * 2
          · have hf := Lib.hid (ratio_top HI.out hA hB UU.out.1 UU.out.2 (by omega))
            clear d43 d34
            go_wp2_with fail
            simp only [Exit.jump]
            go_ret
            exact ⟨by rw [hf.out]; try rfl, F.below⟩
          · by_cases e2 : 2 ≤ n
            · by_cases e3 : 4611686018427387904 ≤ q * 2
              · have hf := Lib.hid (ratio_top HI.out hA hB UU.out.1 UU.out.2 e3)
                go_wp2_with fail
                simp only [Exit.jump]
                go_ret
                exact ⟨by rw [hf.out]; try rfl, F.below⟩
              · go_wp2_with fail
                go_step3
                have en : (n : Int) - 1 = ((n - 1 : Nat) : Int) := by omega
                rw [en]
                exact ⟨rfl, ⟨n - 1, q * 2, _, _, _, g4, g5, _, _, _, _, _, ratioAct_of, F, by omega, by omega, by omega, by omega, UU.out.1, UU.out.2, HI.out⟩, by simp [intOf]; omega⟩
            · omega
    · obtain ⟨r1, r2, hr, hbit, hr2⟩ := right_bit ah al 0 h0 h1 (by omega)
      have hbt : 0 = wideOf ah al * 1048576 / 2 ^ (n - 1) % 2 := (low_bits _ _ n1 (by omega)).symm
      have hor : addLo rl rl 0 = addLo rl rl 0 + 0 := by omega
      have HOR := Lib.hid hor
      have HR := Lib.hid hr
      have HBT := Lib.hid hbt
      clear hr hbit hbt hor
      go_wp2_with fail
      rw [show max ((n : Int) - 1 - 20) 0 = ((0 : Nat) : Int) from by omega]
      refine (wide_Right.calls _ _ _ r1 r2 _ HR.out).mono ?_
      rintro e w2 ⟨rfl, hb_⟩
      replace F := (F).on hb_
      clear c00 c01 c10 c11 c30 c31 f30 f31 c40 c41 f40 f41 c50 c51 f50 f51 hb_
      obtain ⟨c00, c01, c10, c11, c30, c31, f30, f31, c40, c41, f40, f41, c50, c51, f50, f51⟩ := F.facts
      go_wp2_with fail
      refine (add_any rh rl rh rl hrh hrl hrh hrl _).mono ?_
      rintro e w3 ⟨rfl, hb_⟩
      replace F := (F.put4 _ _).on hb_
      clear c00 c01 c10 c11 c30 c31 f30 f31 c40 c41 f40 f41 c50 c51 f50 f51 hb_
      obtain ⟨c00, c01, c10, c11, c30, c31, f30, f31, c40, c41, f40, f41, c50, c51, f50, f51⟩ := F.facts
      go_upto_region 15 with (fail)
      obtain ⟨W, hW, F'⟩ : ∃ W, W = _ ∧ RW w W _ _ _ _ _ _ _ _ _ _ _ _ := ⟨_, rfl, F.put3 _ _⟩
      rw [← hW]
      clear hW F c00 c01 c10 c11 c30 c31 f30 f31 c40 c41 f40 f41 c50 c51 f50 f51
      have F := F'
      clear F'
      obtain ⟨Lr, hLr, HLr⟩ : ∃ Lr, Lr = _ ∧ RW w W ah al bh bl (addLo rh rh (addC rl rl 0)) Lr g4 g5 _ _ _ _ := ⟨_, rfl, F⟩
      rw [← hLr] at F
      have eLr : Lr = addLo rl rl 0 + 0 := hLr.trans HOR.out
      clear hLr HLr
      obtain ⟨c00, c01, c10, c11, c30, c31, f30, f31, c40, c41, f40, f41, c50, c51, f50, f51⟩ := F.facts
      have uL : isU64 Lr = true := by
        have hd := double_eq rh rl hrh hrl
        have hl := isU64_out (addLo_u64 rl rl 0)
        rw [eLr]
        exact isU64_mk (by omega) (by omega)
      have ELR := Lib.hid eLr
      have UL := Lib.hid uL
      clear eLr uL
      have hq2 : bits .or .u64 (q * 2) 1 = q * 2 + 1 := or_even _ _ (by omega) (by omega) (by omega) (by omega) (by omega)
      by_cases ho : addC rh rh (addC rl rl 0) = 1
      · have HI : Go.RowKit.Hid (RInv (wideOf ah al) (wideOf bh bl) (n - 1) (q * 2 + 1) (subLo (addLo rh rh (addC rl rl 0)) bh (subB Lr bl 0)) (subLo Lr bl 0)) := Lib.hid (ELR.out ▸ RInv.yes HI.out n1 hrh hrl h2 h3 HBT.out (.inl ho))
        have ho' : (addC rh rh (addC rl rl 0) == 1) = true := by simpa using ho
        clear ho
        go_wp2_with fail
        refine (sub_any (addLo rh rh (addC rl rl 0)) Lr bh bl (addLo_u64 _ _ _) UL.out h2 h3 _).mono ?_
        rintro e w4 ⟨rfl, hb_⟩
        replace F := (F).on hb_
        clear c00 c01 c10 c11 c30 c31 f30 f31 c40 c41 f40 f41 c50 c51 f50 f51 hb_
        obtain ⟨c00, c01, c10, c11, c30, c31, f30, f31, c40, c41, f40, f41, c50, c51, f50, f51⟩ := F.facts
        go_upto_region 19 with (fail)
        obtain ⟨W4, hW4, F4⟩ : ∃ W, W = _ ∧ RW w W _ _ _ _ _ _ _ _ _ _ _ _ := ⟨_, rfl, F.put3 _ _⟩
        rw [← hW4]
        clear hW4 F c00 c01 c10 c11 c30 c31 f30 f31 c40 c41 f40 f41 c50 c51 f50 f51
        have F := F4
        clear F4
        obtain ⟨c00, c01, c10, c11, c30, c31, f30, f31, c40, c41, f40, f41, c50, c51, f50, f51⟩ := F.facts
        have uRH : isU64 (subLo (addLo rh rh (addC rl rl 0)) bh (subB Lr bl 0)) = true := subLo_u64 _ _ _
        have uRL : isU64 (subLo Lr bl 0) = true := subLo_u64 _ _ _
        have UU := Lib.hid (And.intro uRH uRL)
        clear uRH uRL
        by_cases e1 : 4611686018427387904 < q * 2 + 1
        · have hf := Lib.hid (ratio_top HI.out hA hB UU.out.1 UU.out.2 (by omega))
          clear d43 d34
          go_wp2_with fail
          simp only [Exit.jump]
          go_ret
          exact ⟨by rw [hf.out]; try rfl, F.below⟩
        · by_cases e2 : 2 ≤ n
          · by_cases e3 : 4611686018427387904 ≤ q * 2 + 1
            · omega
            · go_wp2_with fail
              go_step3
              have en : (n : Int) - 1 = ((n - 1 : Nat) : Int) := by omega
              rw [en]
              exact ⟨rfl, ⟨n - 1, q * 2 + 1, _, _, _, g4, g5, _, _, _, _, _, ratioAct_of, F, by omega, by omega, by omega, by omega, UU.out.1, UU.out.2, HI.out⟩, by simp [intOf]; omega⟩
          · obtain rfl : n = 1 := by omega
            have hr := rest_cmp h2 h3 UU.out.1 UU.out.2 HI.out.2
            have HRC := Lib.hid hr
            clear hr
            go_wp2_with fail
            refine (sub_any bh bl (subLo (addLo rh rh (addC rl rl 0)) bh (subB Lr bl 0)) (subLo Lr bl 0) h2 h3 UU.out.1 UU.out.2 _).mono ?_
            rintro e w5 ⟨rfl, hb_⟩
            replace F := (F).on hb_
            clear c00 c01 c10 c11 c30 c31 f30 f31 c40 c41 f40 f41 c50 c51 f50 f51 hb_
            obtain ⟨c00, c01, c10, c11, c30, c31, f30, f31, c40, c41, f40, f41, c50, c51, f50, f51⟩ := F.facts
            by_cases e4 : q * 2 + 1 < 4611686018427387904
            · by_cases e5 : 0 ≤ cmpW (subLo (addLo rh rh (addC rl rl 0)) bh (subB Lr bl 0)) (subLo Lr bl 0) (subLo bh (subLo (addLo rh rh (addC rl rl 0)) bh (subB Lr bl 0)) (subB bl (subLo Lr bl 0) 0)) (subLo bl (subLo Lr bl 0) 0)
              · have hf := Lib.hid ((ratio_end HI.out hA hB UU.out.1 UU.out.2 e4).trans (if_pos (HRC.out.1 e5)))
                have e5' := Lib.hid e5
                go_wp2_with fail
                refine (cmp_any (subLo (addLo rh rh (addC rl rl 0)) bh (subB Lr bl 0)) (subLo Lr bl 0) (subLo bh (subLo (addLo rh rh (addC rl rl 0)) bh (subB Lr bl 0)) (subB bl (subLo Lr bl 0) 0)) (subLo bl (subLo Lr bl 0) 0) _).mono ?_
                rintro e w6 ⟨rfl, hb_⟩
                replace F := (F.put5 _ _).on hb_
                clear c00 c01 c10 c11 c30 c31 f30 f31 c40 c41 f40 f41 c50 c51 f50 f51 hb_
                obtain ⟨c00, c01, c10, c11, c30, c31, f30, f31, c40, c41, f40, f41, c50, c51, f50, f51⟩ := F.facts
                go_wp2_with fail
                simp only [Exit.jump]
                go_ret
                exact ⟨by rw [hf.out]; try rfl, F.below⟩
              · have hf := Lib.hid ((ratio_end HI.out hA hB UU.out.1 UU.out.2 e4).trans (if_neg (fun x => e5 (HRC.out.2 x))))
                go_wp2_with fail
                refine (cmp_any (subLo (addLo rh rh (addC rl rl 0)) bh (subB Lr bl 0)) (subLo Lr bl 0) (subLo bh (subLo (addLo rh rh (addC rl rl 0)) bh (subB Lr bl 0)) (subB bl (subLo Lr bl 0) 0)) (subLo bl (subLo Lr bl 0) 0) _).mono ?_
                rintro e w6 ⟨rfl, hb_⟩
                replace F := (F.put5 _ _).on hb_
                clear c00 c01 c10 c11 c30 c31 f30 f31 c40 c41 f40 f41 c50 c51 f50 f51 hb_
                obtain ⟨c00, c01, c10, c11, c30, c31, f30, f31, c40, c41, f40, f41, c50, c51, f50, f51⟩ := F.facts
                go_wp2_with fail
                simp only [Exit.jump]
                go_ret
                exact ⟨by rw [hf.out]; try rfl, F.below⟩
            · omega
      · have ho' : (addC rh rh (addC rl rl 0) == 1) = false := by simpa using ho
        by_cases hc : 0 ≤ cmpW (addLo rh rh (addC rl rl 0)) Lr bh bl
        · have HI : Go.RowKit.Hid (RInv (wideOf ah al) (wideOf bh bl) (n - 1) (q * 2 + 1) (subLo (addLo rh rh (addC rl rl 0)) bh (subB Lr bl 0)) (subLo Lr bl 0)) := Lib.hid (ELR.out ▸ RInv.yes HI.out n1 hrh hrl h2 h3 HBT.out (.inr (ELR.out ▸ hc)))
          clear ho
          go_wp2_with fail
          refine (cmp_any (addLo rh rh (addC rl rl 0)) Lr bh bl _).mono ?_
          rintro e w7 ⟨rfl, hb_⟩
          replace F := (F).on hb_
          clear c00 c01 c10 c11 c30 c31 f30 f31 c40 c41 f40 f41 c50 c51 f50 f51 hb_
          obtain ⟨c00, c01, c10, c11, c30, c31, f30, f31, c40, c41, f40, f41, c50, c51, f50, f51⟩ := F.facts
          go_wp2_with fail
          refine (sub_any (addLo rh rh (addC rl rl 0)) Lr bh bl (addLo_u64 _ _ _) UL.out h2 h3 _).mono ?_
          rintro e w4 ⟨rfl, hb_⟩
          replace F := (F).on hb_
          clear c00 c01 c10 c11 c30 c31 f30 f31 c40 c41 f40 f41 c50 c51 f50 f51 hb_
          obtain ⟨c00, c01, c10, c11, c30, c31, f30, f31, c40, c41, f40, f41, c50, c51, f50, f51⟩ := F.facts
          go_upto_region 19 with (fail)
          obtain ⟨W4, hW4, F4⟩ : ∃ W, W = _ ∧ RW w W _ _ _ _ _ _ _ _ _ _ _ _ := ⟨_, rfl, F.put3 _ _⟩
          rw [← hW4]
          clear hW4 F c00 c01 c10 c11 c30 c31 f30 f31 c40 c41 f40 f41 c50 c51 f50 f51
          have F := F4
          clear F4
          obtain ⟨c00, c01, c10, c11, c30, c31, f30, f31, c40, c41, f40, f41, c50, c51, f50, f51⟩ := F.facts
          have uRH : isU64 (subLo (addLo rh rh (addC rl rl 0)) bh (subB Lr bl 0)) = true := subLo_u64 _ _ _
          have uRL : isU64 (subLo Lr bl 0) = true := subLo_u64 _ _ _
          have UU := Lib.hid (And.intro uRH uRL)
          clear uRH uRL
          by_cases e1 : 4611686018427387904 < q * 2 + 1
          · have hf := Lib.hid (ratio_top HI.out hA hB UU.out.1 UU.out.2 (by omega))
            clear d43 d34
            go_wp2_with fail
            simp only [Exit.jump]
            go_ret
            exact ⟨by rw [hf.out]; try rfl, F.below⟩
          · by_cases e2 : 2 ≤ n
            · by_cases e3 : 4611686018427387904 ≤ q * 2 + 1
              · omega
              · go_wp2_with fail
                go_step3
                have en : (n : Int) - 1 = ((n - 1 : Nat) : Int) := by omega
                rw [en]
                exact ⟨rfl, ⟨n - 1, q * 2 + 1, _, _, _, g4, g5, _, _, _, _, _, ratioAct_of, F, by omega, by omega, by omega, by omega, UU.out.1, UU.out.2, HI.out⟩, by simp [intOf]; omega⟩
            · obtain rfl : n = 1 := by omega
              have hr := rest_cmp h2 h3 UU.out.1 UU.out.2 HI.out.2
              have HRC := Lib.hid hr
              clear hr
              go_wp2_with fail
              refine (sub_any bh bl (subLo (addLo rh rh (addC rl rl 0)) bh (subB Lr bl 0)) (subLo Lr bl 0) h2 h3 UU.out.1 UU.out.2 _).mono ?_
              rintro e w5 ⟨rfl, hb_⟩
              replace F := (F).on hb_
              clear c00 c01 c10 c11 c30 c31 f30 f31 c40 c41 f40 f41 c50 c51 f50 f51 hb_
              obtain ⟨c00, c01, c10, c11, c30, c31, f30, f31, c40, c41, f40, f41, c50, c51, f50, f51⟩ := F.facts
              by_cases e4 : q * 2 + 1 < 4611686018427387904
              · by_cases e5 : 0 ≤ cmpW (subLo (addLo rh rh (addC rl rl 0)) bh (subB Lr bl 0)) (subLo Lr bl 0) (subLo bh (subLo (addLo rh rh (addC rl rl 0)) bh (subB Lr bl 0)) (subB bl (subLo Lr bl 0) 0)) (subLo bl (subLo Lr bl 0) 0)
                · have hf := Lib.hid ((ratio_end HI.out hA hB UU.out.1 UU.out.2 e4).trans (if_pos (HRC.out.1 e5)))
                  have e5' := Lib.hid e5
                  go_wp2_with fail
                  refine (cmp_any (subLo (addLo rh rh (addC rl rl 0)) bh (subB Lr bl 0)) (subLo Lr bl 0) (subLo bh (subLo (addLo rh rh (addC rl rl 0)) bh (subB Lr bl 0)) (subB bl (subLo Lr bl 0) 0)) (subLo bl (subLo Lr bl 0) 0) _).mono ?_
                  rintro e w6 ⟨rfl, hb_⟩
                  replace F := (F.put5 _ _).on hb_
                  clear c00 c01 c10 c11 c30 c31 f30 f31 c40 c41 f40 f41 c50 c51 f50 f51 hb_
                  obtain ⟨c00, c01, c10, c11, c30, c31, f30, f31, c40, c41, f40, f41, c50, c51, f50, f51⟩ := F.facts
                  go_wp2_with fail
                  simp only [Exit.jump]
                  go_ret
                  exact ⟨by rw [hf.out]; try rfl, F.below⟩
                · have hf := Lib.hid ((ratio_end HI.out hA hB UU.out.1 UU.out.2 e4).trans (if_neg (fun x => e5 (HRC.out.2 x))))
                  go_wp2_with fail
                  refine (cmp_any (subLo (addLo rh rh (addC rl rl 0)) bh (subB Lr bl 0)) (subLo Lr bl 0) (subLo bh (subLo (addLo rh rh (addC rl rl 0)) bh (subB Lr bl 0)) (subB bl (subLo Lr bl 0) 0)) (subLo bl (subLo Lr bl 0) 0) _).mono ?_
                  rintro e w6 ⟨rfl, hb_⟩
                  replace F := (F.put5 _ _).on hb_
                  clear c00 c01 c10 c11 c30 c31 f30 f31 c40 c41 f40 f41 c50 c51 f50 f51 hb_
                  obtain ⟨c00, c01, c10, c11, c30, c31, f30, f31, c40, c41, f40, f41, c50, c51, f50, f51⟩ := F.facts
                  go_wp2_with fail
                  simp only [Exit.jump]
                  go_ret
                  exact ⟨by rw [hf.out]; try rfl, F.below⟩
              · omega
        · have HI : Go.RowKit.Hid (RInv (wideOf ah al) (wideOf bh bl) (n - 1) (q * 2) (addLo rh rh (addC rl rl 0)) Lr) := Lib.hid (ELR.out ▸ RInv.no HI.out n1 hrh hrl h2 h3 HBT.out ho (ELR.out ▸ hc))
          clear ho
          go_wp2_with fail
          refine (cmp_any (addLo rh rh (addC rl rl 0)) Lr bh bl _).mono ?_
          rintro e w7 ⟨rfl, hb_⟩
          replace F := (F).on hb_
          clear c00 c01 c10 c11 c30 c31 f30 f31 c40 c41 f40 f41 c50 c51 f50 f51 hb_
          obtain ⟨c00, c01, c10, c11, c30, c31, f30, f31, c40, c41, f40, f41, c50, c51, f50, f51⟩ := F.facts
          go_upto_region 19 with (fail)
          have uRH : isU64 (addLo rh rh (addC rl rl 0)) = true := addLo_u64 _ _ _
          have uRL : isU64 Lr = true := UL.out
          have UU := Lib.hid (And.intro uRH uRL)
          clear uRH uRL
          by_cases e1 : 4611686018427387904 < q * 2
          · have hf := Lib.hid (ratio_top HI.out hA hB UU.out.1 UU.out.2 (by omega))
            clear d43 d34
            go_wp2_with fail
            simp only [Exit.jump]
            go_ret
            exact ⟨by rw [hf.out]; try rfl, F.below⟩
          · by_cases e2 : 2 ≤ n
            · by_cases e3 : 4611686018427387904 ≤ q * 2
              · have hf := Lib.hid (ratio_top HI.out hA hB UU.out.1 UU.out.2 e3)
                go_wp2_with fail
                simp only [Exit.jump]
                go_ret
                exact ⟨by rw [hf.out]; try rfl, F.below⟩
              · go_wp2_with fail
                go_step3
                have en : (n : Int) - 1 = ((n - 1 : Nat) : Int) := by omega
                rw [en]
                exact ⟨rfl, ⟨n - 1, q * 2, _, _, _, g4, g5, _, _, _, _, _, ratioAct_of, F, by omega, by omega, by omega, by omega, UU.out.1, UU.out.2, HI.out⟩, by simp [intOf]; omega⟩
            · obtain rfl : n = 1 := by omega
              have hr := rest_cmp h2 h3 UU.out.1 UU.out.2 HI.out.2
              have HRC := Lib.hid hr
              clear hr
              go_wp2_with fail
              refine (sub_any bh bl (addLo rh rh (addC rl rl 0)) Lr h2 h3 UU.out.1 UU.out.2 _).mono ?_
              rintro e w5 ⟨rfl, hb_⟩
              replace F := (F).on hb_
              clear c00 c01 c10 c11 c30 c31 f30 f31 c40 c41 f40 f41 c50 c51 f50 f51 hb_
              obtain ⟨c00, c01, c10, c11, c30, c31, f30, f31, c40, c41, f40, f41, c50, c51, f50, f51⟩ := F.facts
              by_cases e4 : q * 2 < 4611686018427387904
              · by_cases e5 : 0 ≤ cmpW (addLo rh rh (addC rl rl 0)) Lr (subLo bh (addLo rh rh (addC rl rl 0)) (subB bl Lr 0)) (subLo bl Lr 0)
                · have hf := Lib.hid ((ratio_end HI.out hA hB UU.out.1 UU.out.2 e4).trans (if_pos (HRC.out.1 e5)))
                  have e5' := Lib.hid e5
                  go_wp2_with fail
                  refine (cmp_any (addLo rh rh (addC rl rl 0)) Lr (subLo bh (addLo rh rh (addC rl rl 0)) (subB bl Lr 0)) (subLo bl Lr 0) _).mono ?_
                  rintro e w6 ⟨rfl, hb_⟩
                  replace F := (F.put5 _ _).on hb_
                  clear c00 c01 c10 c11 c30 c31 f30 f31 c40 c41 f40 f41 c50 c51 f50 f51 hb_
                  obtain ⟨c00, c01, c10, c11, c30, c31, f30, f31, c40, c41, f40, f41, c50, c51, f50, f51⟩ := F.facts
                  go_wp2_with fail
                  simp only [Exit.jump]
                  go_ret
                  exact ⟨by rw [hf.out]; try rfl, F.below⟩
                · have hf := Lib.hid ((ratio_end HI.out hA hB UU.out.1 UU.out.2 e4).trans (if_neg (fun x => e5 (HRC.out.2 x))))
                  go_wp2_with fail
                  refine (cmp_any (addLo rh rh (addC rl rl 0)) Lr (subLo bh (addLo rh rh (addC rl rl 0)) (subB bl Lr 0)) (subLo bl Lr 0) _).mono ?_
                  rintro e w6 ⟨rfl, hb_⟩
                  replace F := (F.put5 _ _).on hb_
                  clear c00 c01 c10 c11 c30 c31 f30 f31 c40 c41 f40 f41 c50 c51 f50 f51 hb_
                  obtain ⟨c00, c01, c10, c11, c30, c31, f30, f31, c40, c41, f40, f41, c50, c51, f50, f51⟩ := F.facts
                  go_wp2_with fail
                  simp only [Exit.jump]
                  go_ret
                  exact ⟨by rw [hf.out]; try rfl, F.below⟩
              · have hf := Lib.hid (ratio_top HI.out hA hB UU.out.1 UU.out.2 (by omega))
                have F5 := F.put5 (.int .u64 (subLo bh (addLo rh rh (addC rl rl 0)) (subB bl Lr 0))) (.int .u64 (subLo bl Lr 0))
                go_wp2_with fail
                simp only [Exit.jump]
                go_ret
                exact ⟨by rw [hf.out, show q * 2 = 4611686018427387904 from by omega]; try rfl, F5.below⟩
  · have PASS := Lib.hid pass
    clear pass
    go_wp2_with fail
    go_region
    go_wp2_with fail
    refine (len_any ah al h0 h1 _).mono ?_
    rintro e w1 ⟨rfl, hb1⟩
    have hl0 := (len_spec h0 h1).1
    have hl1 := (len_spec h0 h1).2.1
    have HJ := Lib.hid (RInv_start h0 h1 hB)
    have HS := Lib.hid (start_RW (ah := ah) (al := al) (bh := bh) (bl := bl) hb1)
    clear hb1
    go_wp2_with fail
    go_step3
    have en : lenW ah al + 20 = (((lenW ah al).toNat + 20 : Nat) : Int) := by omega
    rw [en]
    rename_i K hK
    exact hK _ _ (PASS.out _ _ ⟨(lenW ah al).toNat + 20, 0, 0, 0, _, _, _, _, _, _, _, _, ratioAct_of, HS.out, by omega, by omega, by omega, by omega, rfl, rfl, HJ.out⟩)
end Go.Proofs.Ytlokmliannklaaa.Print
end

section
namespace Go.Proofs.Ytlokmliannklaaa.Print
open Go.RowKit Go.Proofs.YtlokmliannklaaaW.PrintWords
set_option linter.unusedVariables false
set_option linter.unusedSimpArgs false
attribute [local go_sem high] eqH24

set_option maxRecDepth 100000 in
theorem ratio_zero (bh bl : Int) (w : World) :
    Calls Try.prog 10 #[.agg #[.int .u64 0, .int .u64 0], .agg #[.int .u64 bh, .int .u64 bl]] w fun e w' => e = .returned (.int .i64 0) ∧ Below w.heap.size w w' := by
  go_enter Try.func10, Try.ntmps10
  go_wp2_with fail
  go_step3
  go_wp2_with fail
  rw [Exit.noGoto_ret]
  go_ret
  exact ⟨rfl, below3 _ _ _ _⟩

set_option maxRecDepth 100000 in
theorem ratio_none (ah al : Int) (ha : (ah == 0 && (al == 0)) = false) (w : World) :
    Calls Try.prog 10 #[.agg #[.int .u64 ah, .int .u64 al], .agg #[.int .u64 0, .int .u64 0]] w fun e w' => e = .returned (.int .i64 4611686018427387904) ∧ Below w.heap.size w w' := by
  go_enter Try.func10, Try.ntmps10
  go_wp2_with fail
  go_step3
  go_wp2_with fail
  rw [Exit.noGoto_ret]
  go_ret
  exact ⟨rfl, below3 _ _ _ _⟩

theorem ratio_any (ah al bh bl : Int) (h0 : isU64 ah = true) (h1 : isU64 al = true) (h2 : isU64 bh = true) (h3 : isU64 bl = true) (w : World) :
    Calls Try.prog 10 #[.agg #[.int .u64 ah, .int .u64 al], .agg #[.int .u64 bh, .int .u64 bl]] w fun e w' => e = .returned (.int .i64 (ratioOf (wideOf ah al) (wideOf bh bl))) ∧ Below w.heap.size w w' := by
  cases ha : (ah == 0 && (al == 0)) with
  | true =>
    simp at ha
    obtain ⟨rfl, rfl⟩ := ha
    have e : ratioOf (wideOf 0 0) (wideOf bh bl) = 0 := by simp [ratioOf, wideOf]
    rw [e]
    exact ratio_zero bh bl w
  | false =>
    cases hb : (bh == 0 && (bl == 0)) with
    | true =>
      simp at hb
      obtain ⟨rfl, rfl⟩ := hb
      have e : ratioOf (wideOf ah al) (wideOf 0 0) = 4611686018427387904 := by
        unfold ratioOf
        rw [if_neg (wide_pos h0 h1 ha).2, if_pos (by simp [wideOf])]
      rw [e]
      exact ratio_none ah al ha w
    | false => exact ratio_loop ah al bh bl h0 h1 h2 h3 ha hb w
end Go.Proofs.Ytlokmliannklaaa.Print
end
