/- Hand contracts: an account's bytes. -/
import Derived.Test.YtlokmliannklaaaQBase
import Derived.Test.YtlokmliannklaaaProg
import Derived.Below
import Derived.Deep.Draws
import Derived.OwnWalk
import Derived.Tactics
import Derived.WalkKit
import Derived.KernelRfl
import Derived.Deep.LoopGhost
import Derived.Deep.QuietTactic
import Derived.BigQuiet
import Derived.Laws.Rows
import Derived.Laws.BitsLemmas
import Derived.RowKit
import Derived.Outline
import Derived.Handy
import Derived.LoopN
import Derived.ScopeJumps
import Derived.Lib.Hide
import Derived.RegionTactic
import Derived.ChangeAlike
import Derived.BigRegion
import Derived.WalkMore
import Derived.Deep.Cut
import Derived.Deep.RegionHeld3
import Derived.Test.YtlokmliannklaaaQBytes
section
namespace Go.Proofs.Ytlokmliannklaaa.Print
open Go.RowKit Go.Proofs.YtlokmliannklaaaW.PrintWords
set_option linter.unusedVariables false
set_option linter.unusedSimpArgs false

set_option maxHeartbeats 8000000 in
set_option maxRecDepth 100000 in
theorem bytes_5 (a0 a1 a2 a3 a4 a5 a6 a7 a8 a9 a10 a11 a12 a13 a14 : Int) (h1 : fitB a3 a6 = true) (h2 : fitB a4 a7 = true) (h3 : fitB a5 a8 = true) (h4 : wrap64 (a4 + a5) ≤ a3) (w : World) :
    Calls Try.prog 54 #[.agg #[.int .i64 a0, .int .i64 a1, .int .i64 a2, .int .i64 a3, .int .i64 a4, .int .i64 a5, .int .i64 a6, .int .i64 a7, .int .i64 a8, .int .i64 a9, .int .i64 a10, .int .i64 a11, .int .i64 a12, .int .i64 a13, .int .i64 a14]] w fun e w' => e = .returned (.bool ((wrap64 (a4 + a5) == a3) == (wrap64 (a7 + a8) == a6))) ∧ Below w.heap.size w w' := by
  have H1 := Lib.hid h1
  clear h1
  have H2 := Lib.hid h2
  clear h2
  have H3 := Lib.hid h3
  clear h3
  obtain ⟨s, hs⟩ : ∃ s, s = wrap64 (a4 + a5) := ⟨_, rfl⟩
  have es : IntKind.i64.wrap (a4 + a5) = s := by rw [hs, wrap64_def]
  rw [← hs] at h4 ⊢
  clear hs
  have h4' : decide (s ≤ a3) = true := decide_eq_true h4
  obtain ⟨z, hz⟩ : ∃ z, z = (s == a3) := ⟨_, rfl⟩
  rw [← hz]
  have HZ := Lib.hid hz
  clear hz
  go_enter Try.func54, Try.ntmps54
  go_wp2
  go_region_held3 (fun W => W.cell? ⟨w.heap.size, 0, none⟩ = some (.int .i64 a0) ∧ W.cell? ⟨w.heap.size, 1, none⟩ = some (.int .i64 a1) ∧ W.cell? ⟨w.heap.size, 2, none⟩ = some (.int .i64 a2) ∧ W.cell? ⟨w.heap.size, 3, none⟩ = some (.int .i64 a3) ∧ W.cell? ⟨w.heap.size, 4, none⟩ = some (.int .i64 a4) ∧ W.cell? ⟨w.heap.size, 5, none⟩ = some (.int .i64 a5) ∧ W.cell? ⟨w.heap.size, 6, none⟩ = some (.int .i64 a6) ∧ W.cell? ⟨w.heap.size, 7, none⟩ = some (.int .i64 a7) ∧ W.cell? ⟨w.heap.size, 8, none⟩ = some (.int .i64 a8) ∧ W.cell? ⟨w.heap.size, 9, none⟩ = some (.int .i64 a9) ∧ W.cell? ⟨w.heap.size, 10, none⟩ = some (.int .i64 a10) ∧ W.cell? ⟨w.heap.size, 11, none⟩ = some (.int .i64 a11) ∧ W.cell? ⟨w.heap.size, 12, none⟩ = some (.int .i64 a12) ∧ W.cell? ⟨w.heap.size, 13, none⟩ = some (.int .i64 a13) ∧ W.cell? ⟨w.heap.size, 14, none⟩ = some (.int .i64 a14) ∧ Below w.heap.size w W) (first | exact ⟨(by first | (simp; done) | rfl), (by first | (simp; done) | rfl), (by first | (simp; done) | rfl), (by first | (simp; done) | rfl), (by first | (simp; done) | rfl), (by first | (simp; done) | rfl), (by first | (simp; done) | rfl), (by first | (simp; done) | rfl), (by first | (simp; done) | rfl), (by first | (simp; done) | rfl), (by first | (simp; done) | rfl), (by first | (simp; done) | rfl), (by first | (simp; done) | rfl), (by first | (simp; done) | rfl), (by first | (simp; done) | rfl), below_drew (below_alloc (Below.refl _ _) _)⟩ | exact ⟨pw_cell_below hb (by first | (simp; done) | rfl), pw_cell_below hb (by first | (simp; done) | rfl), pw_cell_below hb (by first | (simp; done) | rfl), pw_cell_below hb (by first | (simp; done) | rfl), pw_cell_below hb (by first | (simp; done) | rfl), pw_cell_below hb (by first | (simp; done) | rfl), pw_cell_below hb (by first | (simp; done) | rfl), pw_cell_below hb (by first | (simp; done) | rfl), pw_cell_below hb (by first | (simp; done) | rfl), pw_cell_below hb (by first | (simp; done) | rfl), pw_cell_below hb (by first | (simp; done) | rfl), pw_cell_below hb (by first | (simp; done) | rfl), pw_cell_below hb (by first | (simp; done) | rfl), pw_cell_below hb (by first | (simp; done) | rfl), pw_cell_below hb (by first | (simp; done) | rfl), below_step (below_drew (below_alloc (Below.refl _ _) _)) hb⟩ | go_keep) (first | (go_at_call 56; (first | (with_reducible refine (fit_yes _ _ H1.out _).mono ?_) | (with_reducible refine (fit_yes _ _ H2.out _).mono ?_) | (with_reducible refine (fit_yes _ _ H3.out _).mono ?_)); rintro e w' ⟨rfl, rfl⟩) | (go_at_call 57; refine (resolved_any _ _ _ _ _ _ _ _ _ _ _ _ _ _ _  _).mono ?_; rintro e w' ⟨rfl, hb⟩))
  rename_i hS
  go_wp2
  go_ret
  exact ⟨by rw [HZ.out]; rfl, hS.2.2.2.2.2.2.2.2.2.2.2.2.2.2.2⟩
end Go.Proofs.Ytlokmliannklaaa.Print
end
