/- Hand contracts: an account's samples; Hand contracts: an account's samples; Hand contracts, whole: what the print takes as given. -/
import Derived.Test.YtlokmliannklaaaQBase
import Derived.Test.YtlokmliannklaaaProg
import Derived.Below
import Derived.Deep.Draws
import Derived.OwnWalk
import Derived.Tactics
import Derived.WalkKit
import Derived.KernelRfl
import Derived.Deep.LoopGhost
import Derived.Deep.QuietTactic
import Derived.BigQuiet
import Derived.Laws.Rows
import Derived.Laws.BitsLemmas
import Derived.RowKit
import Derived.Outline
import Derived.Handy
import Derived.LoopN
import Derived.ScopeJumps
import Derived.Lib.Hide
import Derived.RegionTactic
import Derived.ChangeAlike
import Derived.BigRegion
import Derived.WalkMore
import Derived.Deep.Cut
import Derived.Deep.RegionHeld3
import Derived.Test.YtlokmliannklaaaQBytes
import Derived.Test.YtlokmliannklaaaQRatio
import Derived.Test.YtlokmliannklaaaQSqrt
import Derived.Test.YtlokmliannklaaaQBytes5
section
namespace Go.Proofs.Ytlokmliannklaaa.Print
open Go.RowKit Go.Proofs.YtlokmliannklaaaW.PrintWords
set_option linter.unusedVariables false
set_option linter.unusedSimpArgs false

theorem all_step {f : Int → Bool} {xs : List Int} {k : Nat} (hlt : k < xs.length) (h : (xs.take k).all f = true) : f xs[k] = true → (xs.take (k + 1)).all f = true := by
  intro hf
  rw [List.take_succ_eq_append_getElem hlt, List.all_append, h]
  simp [hf]
theorem all_stop {f : Int → Bool} {xs : List Int} {k : Nat} (hlt : k < xs.length) : f xs[k] = false → xs.all f = false := by
  intro hf
  rw [← Bool.not_eq_true, List.all_eq_true]
  intro h
  rw [h _ (List.getElem_mem hlt)] at hf
  cases hf

set_option maxRecDepth 100000 in
theorem within_any (most N : Int) (gb g c : Nat) (xs : List Int) (hl : xs.length ≤ 100) (hc : xs.length ≤ c) (w : World) (hN : w.cell? ⟨gb, 9, none⟩ = some (.int .i64 N)) (hx : ∀ i (h : i < xs.length), w.cell? ⟨g, i, none⟩ = some (.int .i64 xs[i])) :
    Calls Try.prog 58 #[.int .i64 most, .slice (some ⟨g, 0, none⟩) xs.length c, .pointer (some ⟨gb, 0, none⟩)] w fun e w' => e = .returned (.bool (xs.all (withinB N most))) ∧ w = w' := by
  have HX := Lib.hid hx
  have HC := Lib.hid hc
  clear hx hc
  go_enter Try.func58, Try.ntmps58
  go_wp2_with fail
  go_loop [10] (fun i => ∃ k : Nat, k ≤ xs.length ∧ i = .int .i64 k ∧ (xs.take k).all (withinB N most) = true) (fun i => xs.length - (intOf i).toNat)
  case atStart => exact ⟨0, by omega, rfl, by simp⟩
  case round =>
    obtain ⟨k, hk, rfl, hI⟩ := hrel
    have HI := Lib.hid hI
    clear hI
    by_cases hlt : k < xs.length
    · have hx := HX.out k hlt
      have HT := Lib.hid (all_step (f := withinB N most) hlt HI.out)
      have HF := Lib.hid (all_stop (f := withinB N most) hlt)
      obtain ⟨x, hx2⟩ : ∃ x, x = xs[k] := ⟨_, rfl⟩
      rw [← hx2] at HT HF hx
      clear hx2
      by_cases h1 : x < 0
      · have hf := Lib.hid (HF.out (by simp [withinB]; omega))
        go_wp2
        go_ret
        exact ⟨by rw [hf.out]; try rfl, rfl⟩
      · by_cases h2 : x ≤ wrap64 (N * most)
        · have hw := Lib.hid (HT.out (by simp [withinB, h2]; omega))
          go_wp2
          go_round
          case rel => exact ⟨k + 1, by omega, by go_num, hw.out⟩
          case measure => simp [intOf]; omega
        · have hf := Lib.hid (HF.out (by simp [withinB, h2]))
          go_wp2
          go_ret
          exact ⟨by rw [hf.out]; try rfl, rfl⟩
    · have hf := Lib.hid (show xs.all (withinB N most) = true by rw [← List.take_of_length_le (show xs.length ≤ k by omega)]; exact HI.out)
      go_wp2
      go_ret
      exact ⟨by rw [hf.out]; try rfl, rfl⟩
end Go.Proofs.Ytlokmliannklaaa.Print
end

section
namespace Go.Proofs.Ytlokmliannklaaa.Print
open Go.RowKit Go.Proofs.YtlokmliannklaaaW.PrintWords
set_option linter.unusedVariables false
set_option linter.unusedSimpArgs false

theorem within2 (most N x y : Int) (gb g : Nat) (w : World) (hN : w.cell? ⟨gb, 9, none⟩ = some (.int .i64 N)) (h0 : w.cell? ⟨g, 0, none⟩ = some (.int .i64 x)) (h1 : w.cell? ⟨g, 1, none⟩ = some (.int .i64 y)) :
    Calls Try.prog 58 #[.int .i64 most, .slice (some ⟨g, 0, none⟩) 2 2, .pointer (some ⟨gb, 0, none⟩)] w fun e w' => e = .returned (.bool (withinB N most x && withinB N most y)) ∧ w = w' := by
  have h := within_any most N gb g 2 [x, y] (by simp) (by simp) w hN (fun i h => by
    match i, h with
    | 0, _ => exact h0
    | 1, _ => exact h1)
  simpa using h
theorem within3 (most N x y z : Int) (gb g : Nat) (w : World) (hN : w.cell? ⟨gb, 9, none⟩ = some (.int .i64 N)) (h0 : w.cell? ⟨g, 0, none⟩ = some (.int .i64 x)) (h1 : w.cell? ⟨g, 1, none⟩ = some (.int .i64 y)) (h2 : w.cell? ⟨g, 2, none⟩ = some (.int .i64 z)) :
    Calls Try.prog 58 #[.int .i64 most, .slice (some ⟨g, 0, none⟩) 3 3, .pointer (some ⟨gb, 0, none⟩)] w fun e w' => e = .returned (.bool (withinB N most x && (withinB N most y && withinB N most z))) ∧ w = w' := by
  have h := within_any most N gb g 3 [x, y, z] (by simp) (by simp) w hN (fun i h => by
    match i, h with
    | 0, _ => exact h0
    | 1, _ => exact h1
    | 2, _ => exact h2)
  simpa using h

set_option maxHeartbeats 4000000 in
set_option maxRecDepth 100000 in
theorem samples_neg (a0 a1 a2 a3 a4 a5 a6 a7 a8 a9 a10 a11 a12 a13 a14 : Int) (h1 : a9 < 0 ∨ 1024 < a9 ∨ a7 < a9) (w : World) :
    Calls Try.prog 55 #[.agg #[.int .i64 a0, .int .i64 a1, .int .i64 a2, .int .i64 a3, .int .i64 a4, .int .i64 a5, .int .i64 a6, .int .i64 a7, .int .i64 a8, .int .i64 a9, .int .i64 a10, .int .i64 a11, .int .i64 a12, .int .i64 a13, .int .i64 a14]] w fun e w' => e = .returned (.bool false) ∧ Below w.heap.size w w' := by
  by_cases c1 : a9 < 0
  · clear h1
    go_enter Try.func55, Try.ntmps55
    go_wp2
    go_ret
    exact ⟨rfl, below_alloc (Below.refl _ _) _⟩
  · by_cases c2 : 1024 < a9
    · clear h1
      go_enter Try.func55, Try.ntmps55
      go_wp2
      go_ret
      exact ⟨rfl, below_alloc (Below.refl _ _) _⟩
    · have c3 : a7 < a9 := by omega
      clear h1
      go_enter Try.func55, Try.ntmps55
      go_wp2
      go_ret
      exact ⟨rfl, below_alloc (Below.refl _ _) _⟩

set_option maxHeartbeats 4000000 in
set_option maxRecDepth 100000 in
theorem samples_first (a0 a1 a2 a3 a4 a5 a6 a7 a8 a9 a10 a11 a12 a13 a14 : Int) (c1 : 0 ≤ a9) (c2 : a9 ≤ 1024) (c3 : a9 ≤ a7) (hf : (withinB a9 60000000 a10 && withinB a9 60000000 a11) = false) (w : World) :
    Calls Try.prog 55 #[.agg #[.int .i64 a0, .int .i64 a1, .int .i64 a2, .int .i64 a3, .int .i64 a4, .int .i64 a5, .int .i64 a6, .int .i64 a7, .int .i64 a8, .int .i64 a9, .int .i64 a10, .int .i64 a11, .int .i64 a12, .int .i64 a13, .int .i64 a14]] w fun e w' => e = .returned (.bool false) ∧ Below w.heap.size w w' := by
  go_enter Try.func55, Try.ntmps55
  go_wp2_with fail
  refine (within2 60000000 a9 a10 a11 _ _ _ (by simp) (by simp) (by simp)).mono ?_
  rintro e w1 ⟨rfl, rfl⟩
  go_wp2
  go_ret
  exact ⟨rfl, below_alloc (below_alloc (Below.refl _ _) _) _⟩

set_option maxHeartbeats 4000000 in
set_option maxRecDepth 100000 in
theorem samples_second (a0 a1 a2 a3 a4 a5 a6 a7 a8 a9 a10 a11 a12 a13 a14 : Int) (c1 : 0 ≤ a9) (c2 : a9 ≤ 1024) (c3 : a9 ≤ a7) (hf : (withinB a9 60000000 a10 && withinB a9 60000000 a11) = true) (w : World) :
    Calls Try.prog 55 #[.agg #[.int .i64 a0, .int .i64 a1, .int .i64 a2, .int .i64 a3, .int .i64 a4, .int .i64 a5, .int .i64 a6, .int .i64 a7, .int .i64 a8, .int .i64 a9, .int .i64 a10, .int .i64 a11, .int .i64 a12, .int .i64 a13, .int .i64 a14]] w fun e w' => e = .returned (.bool (withinB a9 3600000000000000 a12 && (withinB a9 3600000000000000 a13 && withinB a9 3600000000000000 a14))) ∧ Below w.heap.size w w' := by
  go_enter Try.func55, Try.ntmps55
  go_wp2_with fail
  refine (within2 60000000 a9 a10 a11 _ _ _ (by simp) (by simp) (by simp)).mono ?_
  rintro e w1 ⟨rfl, rfl⟩
  go_wp2_with fail
  refine (within3 3600000000000000 a9 a12 a13 a14 w.heap.size (w.heap.size + 1 + 1) _ ?hN ?h0 ?h1 ?h2).mono ?_
  case hN => go_simp
  case h0 => go_simp
  case h1 => go_simp
  case h2 => go_simp
  rintro e w1 ⟨rfl, rfl⟩
  go_wp2
  go_ret
  exact ⟨rfl, below_alloc (below_alloc (below_alloc (Below.refl _ _) _) _) _⟩
end Go.Proofs.Ytlokmliannklaaa.Print
end

section
namespace Go.Proofs.Ytlokmliannklaaa.Print
open Go.RowKit Go.Proofs.YtlokmliannklaaaW.PrintWords
set_option linter.unusedVariables false
set_option linter.unusedSimpArgs false

theorem bytes_any (a0 a1 a2 a3 a4 a5 a6 a7 a8 a9 a10 a11 a12 a13 a14 : Int) (w : World) : Calls Try.prog 54 #[.agg #[.int .i64 a0, .int .i64 a1, .int .i64 a2, .int .i64 a3, .int .i64 a4, .int .i64 a5, .int .i64 a6, .int .i64 a7, .int .i64 a8, .int .i64 a9, .int .i64 a10, .int .i64 a11, .int .i64 a12, .int .i64 a13, .int .i64 a14]] w fun e w' => e = .returned (.bool (fitB a3 a6 && fitB a4 a7 && fitB a5 a8 && decide (wrap64 (a4 + a5) ≤ a3) && ((wrap64 (a4 + a5) == a3) == (wrap64 (a7 + a8) == a6)))) ∧ Below w.heap.size w w' := by
  cases h1 : fitB a3 a6 with
  | false => simpa using bytes_1 a0 a1 a2 a3 a4 a5 a6 a7 a8 a9 a10 a11 a12 a13 a14 h1 w
  | true =>
    cases h2 : fitB a4 a7 with
    | false => simpa using bytes_2 a0 a1 a2 a3 a4 a5 a6 a7 a8 a9 a10 a11 a12 a13 a14 h1 h2 w
    | true =>
      cases h3 : fitB a5 a8 with
      | false => simpa using bytes_3 a0 a1 a2 a3 a4 a5 a6 a7 a8 a9 a10 a11 a12 a13 a14 h1 h2 h3 w
      | true =>
        by_cases h4 : wrap64 (a4 + a5) ≤ a3
        · simpa [h4] using bytes_5 a0 a1 a2 a3 a4 a5 a6 a7 a8 a9 a10 a11 a12 a13 a14 h1 h2 h3 h4 w
        · simpa [h4] using bytes_4 a0 a1 a2 a3 a4 a5 a6 a7 a8 a9 a10 a11 a12 a13 a14 h1 h2 h3 h4 w
theorem samples_any (a0 a1 a2 a3 a4 a5 a6 a7 a8 a9 a10 a11 a12 a13 a14 : Int) (w : World) : Calls Try.prog 55 #[.agg #[.int .i64 a0, .int .i64 a1, .int .i64 a2, .int .i64 a3, .int .i64 a4, .int .i64 a5, .int .i64 a6, .int .i64 a7, .int .i64 a8, .int .i64 a9, .int .i64 a10, .int .i64 a11, .int .i64 a12, .int .i64 a13, .int .i64 a14]] w fun e w' => e = .returned (.bool (decide (0 ≤ a9) && decide (a9 ≤ 1024) && decide (a9 ≤ a7) && withinB a9 60000000 a10 && withinB a9 60000000 a11 && withinB a9 3600000000000000 a12 && withinB a9 3600000000000000 a13 && withinB a9 3600000000000000 a14)) ∧ Below w.heap.size w w' := by
  by_cases c : a9 < 0 ∨ 1024 < a9 ∨ a7 < a9
  · have e : (decide (0 ≤ a9) && decide (a9 ≤ 1024) && decide (a9 ≤ a7) && withinB a9 60000000 a10 && withinB a9 60000000 a11 && withinB a9 3600000000000000 a12 && withinB a9 3600000000000000 a13 && withinB a9 3600000000000000 a14) = false := by
      rcases c with c | c | c
      · simp [show ¬ 0 ≤ a9 by omega]
      · simp [show ¬ a9 ≤ 1024 by omega]
      · simp [show ¬ a9 ≤ a7 by omega]
    rw [e]
    exact samples_neg a0 a1 a2 a3 a4 a5 a6 a7 a8 a9 a10 a11 a12 a13 a14 c w
  · have c1 : 0 ≤ a9 := by omega
    have c2 : a9 ≤ 1024 := by omega
    have c3 : a9 ≤ a7 := by omega
    cases h : withinB a9 60000000 a10 && withinB a9 60000000 a11 with
    | false =>
      have e : (decide (0 ≤ a9) && decide (a9 ≤ 1024) && decide (a9 ≤ a7) && withinB a9 60000000 a10 && withinB a9 60000000 a11 && withinB a9 3600000000000000 a12 && withinB a9 3600000000000000 a13 && withinB a9 3600000000000000 a14) = false := by
        simp only [Bool.and_assoc, c1, c2, c3]
        rw [← Bool.and_assoc (withinB a9 60000000 a10), h]
        simp
      rw [e]
      exact samples_first a0 a1 a2 a3 a4 a5 a6 a7 a8 a9 a10 a11 a12 a13 a14 c1 c2 c3 h w
    | true =>
      have e : (decide (0 ≤ a9) && decide (a9 ≤ 1024) && decide (a9 ≤ a7) && withinB a9 60000000 a10 && withinB a9 60000000 a11 && withinB a9 3600000000000000 a12 && withinB a9 3600000000000000 a13 && withinB a9 3600000000000000 a14) = (withinB a9 3600000000000000 a12 && (withinB a9 3600000000000000 a13 && withinB a9 3600000000000000 a14)) := by
        simp only [Bool.and_assoc, c1, c2, c3]
        rw [← Bool.and_assoc (withinB a9 60000000 a10), h]
        simp
      rw [e]
      exact samples_second a0 a1 a2 a3 a4 a5 a6 a7 a8 a9 a10 a11 a12 a13 a14 c1 c2 c3 h w
end Go.Proofs.Ytlokmliannklaaa.Print
end
