/- An account that came in, by value: fifteen whole numbers. -/
import Derived.Test.YtlokmliannklaaaProg
import Derived.Lib.SmallJoins
import Derived.Deep.Slices
import Derived.Deep.Fields
import Derived.ChangeSame
import Derived.KernelRfl
section
namespace Go.Proofs.Ytlokmliannklaaa.Print
open Go.Joins Go.ChangeShapes Go.WideShapes Go.RowKit Go.Deep
set_option linter.unusedVariables false
theorem cells29 : Try.prog.cellsOf 29 = 15 := by kernel_rfl
theorem cells3 : Try.prog.cellsOf 3 = 1 := by kernel_rfl
theorem int_cell {H : Type} {enc : TypeId × Value → H} {w : World} {base : Nat} {spare : Nat → Bool} {held : Bool} {n : Nat} {c : Value} {x : Option (DataW H × List MemPlace)} (h : DataW.trod enc Try.prog w base spare held n 3 [c] = x) (hx : x.isSome = true) : ∃ a : Int, c = .int .i64 a := by
  obtain ⟨y, hy⟩ := Option.isSome_iff_exists.1 hx
  rw [hy] at h
  obtain ⟨a, e, _, _⟩ := DataW.trod_int Try.underlying3 h
  simp at e
  exact ⟨a, e⟩
theorem open_mi {H : Type} {enc : TypeId × Value → H} {w : World} {base : Nat} {spare : Nat → Bool} {held : Bool} {r : Reach} {b0 : Nat} {v : Value} {d : DataW H} {p : List MemPlace} (hv : Value.okWide Try.prog w r b0 29 v) (h : DataW.Trod enc Try.prog w base spare held 29 v d p) :
    ∃ (a0 a1 a2 a3 a4 a5 a6 a7 a8 a9 a10 a11 a12 a13 a14 : Int), v = .agg #[.int .i64 a0, .int .i64 a1, .int .i64 a2, .int .i64 a3, .int .i64 a4, .int .i64 a5, .int .i64 a6, .int .i64 a7, .int .i64 a8, .int .i64 a9, .int .i64 a10, .int .i64 a11, .int .i64 a12, .int .i64 a13, .int .i64 a14] := by
  obtain ⟨cs, rfl, hsz⟩ := okWide_struct Try.underlying29 hv
  obtain ⟨l⟩ := cs
  match l, hsz.trans cells29 with
  | [c0, c1, c2, c3, c4, c5, c6, c7, c8, c9, c10, c11, c12, c13, c14], _ =>
    obtain ⟨fuel, hf⟩ := h
    obtain ⟨xs, n, _, hx, _, hlen, hg⟩ := DataW.trod_struct Try.underlying29 hf
    have hl : xs.length = 15 := hlen
    have hs : ∀ j, j < 15 → (xs[j]?).isSome = true := fun j hj => by simp [hl, hj]
    obtain ⟨a0, rfl⟩ := int_cell (show DataW.trod enc Try.prog w base spare held n 3 [c0] = xs[0]? by simpa [Value.cells, cells3] using hg 0 _ rfl) (hs 0 (by omega))
    obtain ⟨a1, rfl⟩ := int_cell (show DataW.trod enc Try.prog w base spare held n 3 [c1] = xs[1]? by simpa [Value.cells, cells3] using hg 1 _ rfl) (hs 1 (by omega))
    obtain ⟨a2, rfl⟩ := int_cell (show DataW.trod enc Try.prog w base spare held n 3 [c2] = xs[2]? by simpa [Value.cells, cells3] using hg 2 _ rfl) (hs 2 (by omega))
    obtain ⟨a3, rfl⟩ := int_cell (show DataW.trod enc Try.prog w base spare held n 3 [c3] = xs[3]? by simpa [Value.cells, cells3] using hg 3 _ rfl) (hs 3 (by omega))
    obtain ⟨a4, rfl⟩ := int_cell (show DataW.trod enc Try.prog w base spare held n 3 [c4] = xs[4]? by simpa [Value.cells, cells3] using hg 4 _ rfl) (hs 4 (by omega))
    obtain ⟨a5, rfl⟩ := int_cell (show DataW.trod enc Try.prog w base spare held n 3 [c5] = xs[5]? by simpa [Value.cells, cells3] using hg 5 _ rfl) (hs 5 (by omega))
    obtain ⟨a6, rfl⟩ := int_cell (show DataW.trod enc Try.prog w base spare held n 3 [c6] = xs[6]? by simpa [Value.cells, cells3] using hg 6 _ rfl) (hs 6 (by omega))
    obtain ⟨a7, rfl⟩ := int_cell (show DataW.trod enc Try.prog w base spare held n 3 [c7] = xs[7]? by simpa [Value.cells, cells3] using hg 7 _ rfl) (hs 7 (by omega))
    obtain ⟨a8, rfl⟩ := int_cell (show DataW.trod enc Try.prog w base spare held n 3 [c8] = xs[8]? by simpa [Value.cells, cells3] using hg 8 _ rfl) (hs 8 (by omega))
    obtain ⟨a9, rfl⟩ := int_cell (show DataW.trod enc Try.prog w base spare held n 3 [c9] = xs[9]? by simpa [Value.cells, cells3] using hg 9 _ rfl) (hs 9 (by omega))
    obtain ⟨a10, rfl⟩ := int_cell (show DataW.trod enc Try.prog w base spare held n 3 [c10] = xs[10]? by simpa [Value.cells, cells3] using hg 10 _ rfl) (hs 10 (by omega))
    obtain ⟨a11, rfl⟩ := int_cell (show DataW.trod enc Try.prog w base spare held n 3 [c11] = xs[11]? by simpa [Value.cells, cells3] using hg 11 _ rfl) (hs 11 (by omega))
    obtain ⟨a12, rfl⟩ := int_cell (show DataW.trod enc Try.prog w base spare held n 3 [c12] = xs[12]? by simpa [Value.cells, cells3] using hg 12 _ rfl) (hs 12 (by omega))
    obtain ⟨a13, rfl⟩ := int_cell (show DataW.trod enc Try.prog w base spare held n 3 [c13] = xs[13]? by simpa [Value.cells, cells3] using hg 13 _ rfl) (hs 13 (by omega))
    obtain ⟨a14, rfl⟩ := int_cell (show DataW.trod enc Try.prog w base spare held n 3 [c14] = xs[14]? by simpa [Value.cells, cells3] using hg 14 _ rfl) (hs 14 (by omega))
    exact ⟨_, _, _, _, _, _, _, _, _, _, _, _, _, _, _, rfl⟩
end Go.Proofs.Ytlokmliannklaaa.Print
end
