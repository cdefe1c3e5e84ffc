/- Hand contracts: an account's small questions; Hand contracts: an account's bytes; Hand contracts: an account's bytes; Hand contracts: an account's bytes; Hand contracts: an account's bytes. -/
import Derived.Test.YtlokmliannklaaaQBase
import Derived.Test.YtlokmliannklaaaProg
import Derived.Below
import Derived.Deep.Draws
import Derived.OwnWalk
import Derived.Tactics
import Derived.WalkKit
import Derived.KernelRfl
import Derived.Deep.LoopGhost
import Derived.Deep.QuietTactic
import Derived.BigQuiet
import Derived.Laws.Rows
import Derived.Laws.BitsLemmas
import Derived.RowKit
import Derived.Outline
import Derived.Handy
import Derived.LoopN
import Derived.ScopeJumps
import Derived.Lib.Hide
import Derived.RegionTactic
import Derived.ChangeAlike
import Derived.BigRegion
import Derived.WalkMore
import Derived.Deep.Cut
import Derived.Deep.RegionHeld3
section
namespace Go.Proofs.Ytlokmliannklaaa.Print
open Go.RowKit Go.Proofs.YtlokmliannklaaaW.PrintWords
set_option linter.unusedVariables false
set_option linter.unusedSimpArgs false

theorem wrap64_def (n : Int) : wrap64 n = IntKind.i64.wrap n := by
  simp [wrap64, IntKind.wrap, IntKind.bits, IntKind.signed]
  split <;> omega

theorem fit_yes (b p : Int) (h : fitB b p = true) (w : World) : Calls Try.prog 56 #[.int .i64 b, .int .i64 p] w fun e w' => e = .returned (.bool true) ∧ w = w' := by
  simp only [fitB, Bool.and_eq_true, decide_eq_true_eq] at h
  obtain ⟨h1, h2⟩ := h
  go_enter Try.func56, Try.ntmps56
  go_wp2
  go_ret
  exact ⟨rfl, rfl⟩

theorem fit_no (b p : Int) (h : fitB b p = false) (w : World) : Calls Try.prog 56 #[.int .i64 b, .int .i64 p] w fun e w' => e = .returned (.bool false) ∧ w = w' := by
  by_cases h1 : p ≤ b
  · have h2 : ¬ b ≤ wrap64 (p * 9000) := by
      intro h2
      simp [fitB, h1, h2] at h
    clear h
    go_enter Try.func56, Try.ntmps56
    go_wp2
    go_ret
    exact ⟨rfl, rfl⟩
  · clear h
    go_enter Try.func56, Try.ntmps56
    go_wp2
    go_ret
    exact ⟨rfl, rfl⟩

theorem fitq_yes (b p : Int) (h : fitB b p = true) (w : World) : Calls Try.prog 56 #[.int .i64 b, .int .i64 p] w fun e w' => e = .returned (.bool true) ∧ w' = w := (fit_yes b p h w).mono fun _ _ h => ⟨h.1, h.2.symm⟩
theorem fitq_no (b p : Int) (h : fitB b p = false) (w : World) : Calls Try.prog 56 #[.int .i64 b, .int .i64 p] w fun e w' => e = .returned (.bool false) ∧ w' = w := (fit_no b p h w).mono fun _ _ h => ⟨h.1, h.2.symm⟩

set_option maxRecDepth 100000 in
theorem resolved_any (a0 a1 a2 a3 a4 a5 a6 a7 a8 a9 a10 a11 a12 a13 a14 : Int) (w : World) : Calls Try.prog 57 #[.agg #[.int .i64 a0, .int .i64 a1, .int .i64 a2, .int .i64 a3, .int .i64 a4, .int .i64 a5, .int .i64 a6, .int .i64 a7, .int .i64 a8, .int .i64 a9, .int .i64 a10, .int .i64 a11, .int .i64 a12, .int .i64 a13, .int .i64 a14]] w fun e w' => e = .returned (.bool (wrap64 (a7 + a8) == a6)) ∧ Below w.heap.size w w' := by
  go_enter Try.func57, Try.ntmps57
  go_wp2
  go_ret
  exact ⟨rfl, below_alloc (Below.refl _ _) _⟩
end Go.Proofs.Ytlokmliannklaaa.Print
end

section
namespace Go.Proofs.Ytlokmliannklaaa.Print
open Go.RowKit Go.Proofs.YtlokmliannklaaaW.PrintWords
set_option linter.unusedVariables false
set_option linter.unusedSimpArgs false

set_option maxHeartbeats 8000000 in
set_option maxRecDepth 100000 in
theorem bytes_1 (a0 a1 a2 a3 a4 a5 a6 a7 a8 a9 a10 a11 a12 a13 a14 : Int) (h1 : fitB a3 a6 = false) (w : World) :
    Calls Try.prog 54 #[.agg #[.int .i64 a0, .int .i64 a1, .int .i64 a2, .int .i64 a3, .int .i64 a4, .int .i64 a5, .int .i64 a6, .int .i64 a7, .int .i64 a8, .int .i64 a9, .int .i64 a10, .int .i64 a11, .int .i64 a12, .int .i64 a13, .int .i64 a14]] w fun e w' => e = .returned (.bool false) ∧ Below w.heap.size w w' := by
  have H1 := Lib.hid h1
  clear h1
  go_enter Try.func54, Try.ntmps54
  go_wp2
  go_quiet ((go_at_call 56; first | (with_reducible exact Calls.quiet_of_same (fitq_no _ _ H1.out _))))
  go_wp2
  go_ret
  exact ⟨rfl, by repeat (first | exact Below.refl _ _ | apply below_alloc | apply pw_below_drewN | apply below_drew)⟩
end Go.Proofs.Ytlokmliannklaaa.Print
end

section
namespace Go.Proofs.Ytlokmliannklaaa.Print
open Go.RowKit Go.Proofs.YtlokmliannklaaaW.PrintWords
set_option linter.unusedVariables false
set_option linter.unusedSimpArgs false

set_option maxHeartbeats 8000000 in
set_option maxRecDepth 100000 in
theorem bytes_2 (a0 a1 a2 a3 a4 a5 a6 a7 a8 a9 a10 a11 a12 a13 a14 : Int) (h1 : fitB a3 a6 = true) (h2 : fitB a4 a7 = false) (w : World) :
    Calls Try.prog 54 #[.agg #[.int .i64 a0, .int .i64 a1, .int .i64 a2, .int .i64 a3, .int .i64 a4, .int .i64 a5, .int .i64 a6, .int .i64 a7, .int .i64 a8, .int .i64 a9, .int .i64 a10, .int .i64 a11, .int .i64 a12, .int .i64 a13, .int .i64 a14]] w fun e w' => e = .returned (.bool false) ∧ Below w.heap.size w w' := by
  have H1 := Lib.hid h1
  clear h1
  have H2 := Lib.hid h2
  clear h2
  go_enter Try.func54, Try.ntmps54
  go_wp2
  go_quiet ((go_at_call 56; first | (with_reducible exact Calls.quiet_of_same (fitq_yes _ _ H1.out _)) | (with_reducible exact Calls.quiet_of_same (fitq_no _ _ H2.out _))))
  go_wp2
  go_ret
  exact ⟨rfl, by repeat (first | exact Below.refl _ _ | apply below_alloc | apply pw_below_drewN | apply below_drew)⟩
end Go.Proofs.Ytlokmliannklaaa.Print
end

section
namespace Go.Proofs.Ytlokmliannklaaa.Print
open Go.RowKit Go.Proofs.YtlokmliannklaaaW.PrintWords
set_option linter.unusedVariables false
set_option linter.unusedSimpArgs false

set_option maxHeartbeats 8000000 in
set_option maxRecDepth 100000 in
theorem bytes_3 (a0 a1 a2 a3 a4 a5 a6 a7 a8 a9 a10 a11 a12 a13 a14 : Int) (h1 : fitB a3 a6 = true) (h2 : fitB a4 a7 = true) (h3 : fitB a5 a8 = false) (w : World) :
    Calls Try.prog 54 #[.agg #[.int .i64 a0, .int .i64 a1, .int .i64 a2, .int .i64 a3, .int .i64 a4, .int .i64 a5, .int .i64 a6, .int .i64 a7, .int .i64 a8, .int .i64 a9, .int .i64 a10, .int .i64 a11, .int .i64 a12, .int .i64 a13, .int .i64 a14]] w fun e w' => e = .returned (.bool false) ∧ Below w.heap.size w w' := by
  have H1 := Lib.hid h1
  clear h1
  have H2 := Lib.hid h2
  clear h2
  have H3 := Lib.hid h3
  clear h3
  go_enter Try.func54, Try.ntmps54
  go_wp2
  go_quiet ((go_at_call 56; first | (with_reducible exact Calls.quiet_of_same (fitq_yes _ _ H1.out _)) | (with_reducible exact Calls.quiet_of_same (fitq_yes _ _ H2.out _)) | (with_reducible exact Calls.quiet_of_same (fitq_no _ _ H3.out _))))
  go_wp2
  go_ret
  exact ⟨rfl, by repeat (first | exact Below.refl _ _ | apply below_alloc | apply pw_below_drewN | apply below_drew)⟩
end Go.Proofs.Ytlokmliannklaaa.Print
end

section
namespace Go.Proofs.Ytlokmliannklaaa.Print
open Go.RowKit Go.Proofs.YtlokmliannklaaaW.PrintWords
set_option linter.unusedVariables false
set_option linter.unusedSimpArgs false

set_option maxHeartbeats 8000000 in
set_option maxRecDepth 100000 in
theorem bytes_4 (a0 a1 a2 a3 a4 a5 a6 a7 a8 a9 a10 a11 a12 a13 a14 : Int) (h1 : fitB a3 a6 = true) (h2 : fitB a4 a7 = true) (h3 : fitB a5 a8 = true) (h4 : ¬ wrap64 (a4 + a5) ≤ a3) (w : World) :
    Calls Try.prog 54 #[.agg #[.int .i64 a0, .int .i64 a1, .int .i64 a2, .int .i64 a3, .int .i64 a4, .int .i64 a5, .int .i64 a6, .int .i64 a7, .int .i64 a8, .int .i64 a9, .int .i64 a10, .int .i64 a11, .int .i64 a12, .int .i64 a13, .int .i64 a14]] w fun e w' => e = .returned (.bool false) ∧ Below w.heap.size w w' := by
  have H1 := Lib.hid h1
  clear h1
  have H2 := Lib.hid h2
  clear h2
  have H3 := Lib.hid h3
  clear h3
  obtain ⟨s, hs⟩ : ∃ s, s = wrap64 (a4 + a5) := ⟨_, rfl⟩
  have es : IntKind.i64.wrap (a4 + a5) = s := by rw [hs, wrap64_def]
  rw [← hs] at h4 
  clear hs
  have h4' : decide (s ≤ a3) = false := decide_eq_false h4
  go_enter Try.func54, Try.ntmps54
  go_wp2
  go_quiet ((go_at_call 56; first | (with_reducible exact Calls.quiet_of_same (fitq_yes _ _ H1.out _)) | (with_reducible exact Calls.quiet_of_same (fitq_yes _ _ H2.out _)) | (with_reducible exact Calls.quiet_of_same (fitq_yes _ _ H3.out _))))
  go_wp2
  go_ret
  exact ⟨rfl, by repeat (first | exact Below.refl _ _ | apply below_alloc | apply pw_below_drewN | apply below_drew)⟩
end Go.Proofs.Ytlokmliannklaaa.Print
end
