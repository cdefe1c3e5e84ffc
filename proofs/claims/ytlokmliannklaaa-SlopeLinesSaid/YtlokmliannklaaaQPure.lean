/- Sums of samples: what a move, a turn, a line make of them; the ratio between bounds; What the plain laws share; A slice of samples that came in, read as a list. -/
import Derived.Test.YtlokmliannklaaaQPureS
import Derived.Test.YtlokmliannklaaaQP0
import Derived.Lib.SmallJoins
import Derived.Deep.Slices
import Derived.Deep.Fields
import Derived.ChangeSame
import Derived.OpenShut
section
namespace Go.Proofs.Ytlokmliannklaaa.Print
open Go.RowKit Go.Proofs.YtlokmliannklaaaW.PrintWords Go.Proofs.YtlokmliannklaaaW.PrintLast Go.Proofs.YtlokmliannklaaaW.PrintMore
set_option linter.unusedVariables false
set_option linter.unusedSimpArgs false

def moved (b : Int) (x : S36) : S36 := ⟨x.f0, x.f1 + b⟩
def turned (x : S36) : S36 := ⟨60000000 - x.f0, x.f1⟩
def lined (b s : Int) (t : Int) : S36 := ⟨t, b + s * t⟩
theorem moved_T (b : Int) (l : List S36) : sT (l.map (moved b)) = sT l := by
  unfold sT
  induction l with
  | nil => rfl
  | cons x l ih => simp only [List.map_cons, sumOf, ih, moved]
theorem moved_TT (b : Int) (l : List S36) : sTT (l.map (moved b)) = sTT l := by
  unfold sTT
  induction l with
  | nil => rfl
  | cons x l ih => simp only [List.map_cons, sumOf, ih, moved]
theorem moved_R (b : Int) (l : List S36) : sR (l.map (moved b)) = sR l + l.length * b := by
  unfold sR
  induction l with
  | nil => simp [sumOf]
  | cons x l ih => simp only [List.map_cons, sumOf, ih, moved, List.length_cons, Int.natCast_add]; grind
theorem moved_TR (b : Int) (l : List S36) : sTR (l.map (moved b)) = sTR l + b * sT l := by
  unfold sTR sT
  induction l with
  | nil => simp [sumOf]
  | cons x l ih => simp only [List.map_cons, sumOf, ih, moved]; grind
theorem moved_RR (b : Int) (l : List S36) : sRR (l.map (moved b)) = sRR l + 2 * b * sR l + l.length * (b * b) := by
  unfold sRR sR
  induction l with
  | nil => simp [sumOf]
  | cons x l ih => simp only [List.map_cons, sumOf, ih, moved, List.length_cons, Int.natCast_add]; grind
theorem turned_T (l : List S36) : sT (l.map turned) = l.length * 60000000 - sT l := by
  unfold sT
  induction l with
  | nil => simp [sumOf]
  | cons x l ih => simp only [List.map_cons, sumOf, ih, turned, List.length_cons, Int.natCast_add]; grind
theorem turned_R (l : List S36) : sR (l.map turned) = sR l := by
  unfold sR
  induction l with
  | nil => rfl
  | cons x l ih => simp only [List.map_cons, sumOf, ih, turned]
theorem turned_RR (l : List S36) : sRR (l.map turned) = sRR l := by
  unfold sRR
  induction l with
  | nil => rfl
  | cons x l ih => simp only [List.map_cons, sumOf, ih, turned]
theorem turned_TT (l : List S36) : sTT (l.map turned) = l.length * (60000000 * 60000000) - 2 * 60000000 * sT l + sTT l := by
  unfold sTT sT
  induction l with
  | nil => simp [sumOf]
  | cons x l ih => simp only [List.map_cons, sumOf, ih, turned, List.length_cons, Int.natCast_add]; grind
theorem turned_TR (l : List S36) : sTR (l.map turned) = 60000000 * sR l - sTR l := by
  unfold sTR sR
  induction l with
  | nil => simp [sumOf]
  | cons x l ih => simp only [List.map_cons, sumOf, ih, turned]; grind
theorem lined_R (b s : Int) (l : List Int) : sR (l.map (lined b s)) = l.length * b + s * sT (l.map (lined b s)) := by
  unfold sR sT
  induction l with
  | nil => simp [sumOf]
  | cons x l ih => simp only [List.map_cons, sumOf, ih, lined, List.length_cons, Int.natCast_add]; grind
theorem lined_TR (b s : Int) (l : List Int) : sTR (l.map (lined b s)) = b * sT (l.map (lined b s)) + s * sTT (l.map (lined b s)) := by
  unfold sTR sT sTT
  induction l with
  | nil => simp [sumOf]
  | cons x l ih => simp only [List.map_cons, sumOf, ih, lined]; grind
theorem lined_RR (b : Int) (l : List Int) : sRR (l.map (lined b 0)) = l.length * (b * b) := by
  unfold sRR
  induction l with
  | nil => simp [sumOf]
  | cons x l ih => simp only [List.map_cons, sumOf, ih, lined, List.length_cons, Int.natCast_add]; grind

theorem devOf_congr {n r rr r' rr' : Int} (h : n * rr - r * r = n * rr' - r' * r') : devOf n r rr = devOf n r' rr' := by
  unfold devOf
  rw [h]
  by_cases c : n * rr < r * r
  · rw [if_pos c, if_pos (by omega)]
  · rw [if_neg c, if_neg (by omega)]
theorem gradeOf_congr {n t r tt tr r' tr' : Int} (h : n * tr - t * r = n * tr' - t * r') : gradeOf n t r tt tr = gradeOf n t r' tt tr' := by
  unfold gradeOf
  have e1 : t * r - n * tr = t * r' - n * tr' := by omega
  rw [h, e1]
  by_cases c : n * tt ≤ t * t
  · rw [if_pos c, if_pos c]
  · rw [if_neg c, if_neg c]
    by_cases d : n * tr < t * r
    · rw [if_pos d, if_pos (by omega)]
    · rw [if_neg d, if_neg (by omega)]
theorem gradeOf_turn {n t r tt tr t' tt' tr' : Int} (h1 : n * tt - t * t = n * tt' - t' * t') (h2 : n * tr' - t' * r = t * r - n * tr) : gradeOf n t' r tt' tr' = -gradeOf n t r tt tr := by
  unfold gradeOf
  have e1 : t' * r - n * tr' = n * tr - t * r := by omega
  rw [← h1, h2, e1]
  by_cases c : n * tt ≤ t * t
  · rw [if_pos (by omega), if_pos c]
    rfl
  · rw [if_neg (by omega), if_neg c]
    by_cases d : n * tr < t * r
    · rw [if_neg (by omega), if_pos d]
      omega
    · rw [if_neg d]
      by_cases z : n * tr = t * r
      · rw [if_neg (by omega)]
        have z1 : t * r - n * tr = 0 := by omega
        have z2 : n * tr - t * r = 0 := by omega
        rw [z1, z2]
        simp [ratioOf]
      · rw [if_pos (by omega)]

theorem ratio_std {a b : Int} (ha : 0 ≤ a) (hb : 0 < b) (hq : a * 1048576 / b < 4611686018427387904) : ratioOf a b = if b ≤ 2 * (a * 1048576 % b) then a * 1048576 / b + 1 else a * 1048576 / b := by
  unfold ratioOf
  by_cases z : a = 0
  · subst z
    rw [if_pos rfl]
    simp
    omega
  · rw [if_neg z, if_neg (by omega), if_neg (by omega)]
theorem ratio_lower {a b L : Int} (ha : 0 ≤ a) (hb : 0 < b) (hL : L * b ≤ a) (hT : L * 1048576 ≤ 4611686018427387904) : L * 1048576 ≤ ratioOf a b := by
  have h1 : L * 1048576 ≤ a * 1048576 / b := by
    rw [Int.le_ediv_iff_mul_le hb]
    have : L * 1048576 * b = L * b * 1048576 := by grind
    omega
  by_cases hq : a * 1048576 / b < 4611686018427387904
  · rw [ratio_std ha hb hq]
    split <;> omega
  · unfold ratioOf
    by_cases z : a = 0
    · subst z
      simp at hq
    · rw [if_neg z, if_neg (by omega), if_pos (by omega)]
      omega
theorem ratio_upper {a b M : Int} (ha : 0 ≤ a) (hb : 0 < b) (hM : a ≤ M * b) (hT : M * 1048576 < 4611686018427387904) : ratioOf a b ≤ M * 1048576 := by
  have e : M * 1048576 * b = M * b * 1048576 := by grind
  have h1 : a * 1048576 / b ≤ M * 1048576 := by
    have := Int.ediv_le_ediv hb (show a * 1048576 ≤ M * 1048576 * b by omega)
    rw [Int.mul_ediv_cancel _ (by omega)] at this
    exact this
  rw [ratio_std ha hb (by omega)]
  have h2 := Int.emod_add_mul_ediv (a * 1048576) b
  have h3 := Int.emod_nonneg (a * 1048576) (show b ≠ 0 by omega)
  split
  · rename_i h4
    rcases Int.lt_or_eq_of_le h1 with h5 | h5
    · omega
    · rw [h5] at h2
      have h6 : b * (M * 1048576) = M * 1048576 * b := Int.mul_comm _ _
      omega
  · exact h1
theorem ratio_shift {a b c : Int} (ha : 0 ≤ a) (hb : 0 < b) (hc : 0 ≤ c) (hc2 : c ≤ 60000000) (hab : a ≤ 60000000 * b) : ratioOf (a + b * c) b = ratioOf a b + c * 1048576 := by
  have e : (a + b * c) * 1048576 = a * 1048576 + c * 1048576 * b := by grind
  have q : a * 1048576 / b ≤ 60000000 * 1048576 := by
    have := Int.ediv_le_ediv hb (show a * 1048576 ≤ 60000000 * 1048576 * b by omega)
    rw [Int.mul_ediv_cancel _ (by omega)] at this
    exact this
  have m : 0 ≤ b * c := Int.mul_nonneg (by omega) hc
  have e1 : (a + b * c) * 1048576 / b = a * 1048576 / b + c * 1048576 := by rw [e, Int.add_mul_ediv_right _ _ (by omega)]
  have e2 : (a + b * c) * 1048576 % b = a * 1048576 % b := by rw [e, Int.add_mul_emod_self_right]
  rw [ratio_std (by omega) hb (by omega), ratio_std ha hb (by omega), e1, e2]
  split <;> omega
theorem ratio_mul {d s : Int} (hd : 0 < d) (h0 : 0 ≤ s) (h1 : s ≤ 60000000) : ratioOf (s * d) d = s * 1048576 := by
  have m : 0 ≤ s * d := Int.mul_nonneg h0 (by omega)
  have e : s * d * 1048576 = s * 1048576 * d := by grind
  have e1 : s * d * 1048576 / d = s * 1048576 := by rw [e, Int.mul_ediv_cancel _ (by omega)]
  have e2 : s * d * 1048576 % d = 0 := by rw [e, Int.mul_emod_left]
  rw [ratio_std m hd (by omega), e1, e2, if_neg (by omega)]
/-- The spread of a list is a sum of squares. -/
def sq (g : S36 → Int) (x : Int) (l : List S36) : Int := sumOf (fun y => (g y - x) * (g y - x)) l
theorem sq_eq (g : S36 → Int) (x : Int) (l : List S36) : sq g x l = sumOf (fun y => g y * g y) l - 2 * x * sumOf g l + l.length * (x * x) := by
  unfold sq
  induction l with
  | nil => simp [sumOf]
  | cons y l ih => simp only [sumOf, ih, List.length_cons, Int.natCast_add]; grind
theorem sqr_nonneg (x : Int) : 0 ≤ x * x := by
  rcases Int.le_total 0 x with h | h
  · exact Int.mul_nonneg h h
  · have := Int.mul_nonneg (show 0 ≤ -x by omega) (show 0 ≤ -x by omega)
    rw [Int.neg_mul_neg] at this
    exact this
theorem sq_nonneg (g : S36 → Int) (x : Int) (l : List S36) : 0 ≤ sq g x l := by
  unfold sq
  induction l with
  | nil => simp [sumOf]
  | cons y l ih =>
    have := sqr_nonneg (g y - x)
    simp only [sumOf]
    omega
theorem sq_pos (g : S36 → Int) (x : Int) (l : List S36) (h : ∃ y ∈ l, g y ≠ x) : 0 < sq g x l := by
  unfold sq
  induction l with
  | nil => obtain ⟨y, hy, _⟩ := h; cases hy
  | cons z l ih =>
    have h1 := sqr_nonneg (g z - x)
    have h2 := sq_nonneg g x l
    unfold sq at h2
    simp only [sumOf]
    by_cases c : g z = x
    · obtain ⟨y, hy, hne⟩ := h
      rcases List.mem_cons.1 hy with rfl | hy
      · exact absurd c hne
      · have := ih ⟨y, hy, hne⟩
        omega
    · have h3 : 0 < (g z - x) * (g z - x) := by
        rcases Int.lt_or_gt_of_ne (show g z - x ≠ 0 by omega) with h | h
        · have := Int.mul_pos (show 0 < -(g z - x) by omega) (show 0 < -(g z - x) by omega)
          rw [Int.neg_mul_neg] at this
          exact this
        · exact Int.mul_pos h h
      omega
def spread (g : S36 → Int) (l : List S36) : Int := l.length * sumOf (fun y => g y * g y) l - sumOf g l * sumOf g l
theorem spread_cons (g : S36 → Int) (x : S36) (l : List S36) : spread g (x :: l) = spread g l + sq g (g x) l := by
  rw [sq_eq]
  unfold spread
  simp only [sumOf, List.length_cons, Int.natCast_add]
  grind
theorem spread_nonneg (g : S36 → Int) (l : List S36) : 0 ≤ spread g l := by
  induction l with
  | nil => simp [spread, sumOf]
  | cons x l ih =>
    have := sq_nonneg g (g x) l
    rw [spread_cons]
    omega
theorem spread_pos (g : S36 → Int) (x : S36) (l : List S36) (h : ∃ y ∈ l, g y ≠ g x) : 0 < spread g (x :: l) := by
  have h1 := sq_pos g (g x) l h
  have h2 := spread_nonneg g l
  rw [spread_cons]
  omega
theorem spread_same (g : S36 → Int) (c : Int) (l : List S36) (h : ∀ y ∈ l, g y = c) : spread g l = 0 := by
  have e1 : sumOf g l = l.length * c ∧ sumOf (fun y => g y * g y) l = l.length * (c * c) := by
    induction l with
    | nil => simp [sumOf]
    | cons x l ih =>
      obtain ⟨i1, i2⟩ := ih (fun y hy => h y (by simp [hy]))
      have hx := h x (by simp)
      simp only [sumOf, i1, i2, hx, List.length_cons, Int.natCast_add]
      constructor <;> grind
  unfold spread
  rw [e1.1, e1.2]
  grind
end Go.Proofs.Ytlokmliannklaaa.Print
end

section
namespace Go.Proofs.Ytlokmliannklaaa.Print
open Go.RowKit Go.Proofs.YtlokmliannklaaaW.PrintWords Go.Proofs.YtlokmliannklaaaW.PrintLast Go.Proofs.YtlokmliannklaaaW.PrintMore
set_option linter.unusedVariables false
set_option linter.unusedSimpArgs false

theorem all_mem {l : List S36} (h : l.all sampleOk = true) : ∀ x ∈ l, sampleOk x = true := by simpa using h
theorem rd_get {l : List S36} {i : Nat} (h : i < l.length) : rd_T36 l (i : Int) = l[i] := by
  simp [rd_T36, List.getD, List.getElem?_eq_getElem h]
theorem rd_ok {l : List S36} (h : l.all sampleOk = true) {i : Nat} (hi : i < l.length) : 0 ≤ (rd_T36 l (i : Int)).f0 ∧ (rd_T36 l (i : Int)).f0 ≤ 60000000 ∧ 0 ≤ (rd_T36 l (i : Int)).f1 ∧ (rd_T36 l (i : Int)).f1 ≤ 60000000 := by
  rw [rd_get hi]
  exact ok_range (all_mem h _ (List.getElem_mem hi))
theorem take_map_one {α β : Type} (f : α → β) (l : List α) (i : Nat) (h : i < l.length) : (l.take i).map f ++ [f l[i]] = (l.take (i + 1)).map f := by
  rw [List.take_succ_eq_append_getElem h, List.map_append]
  rfl
theorem of_some (x : Int) (h0 : -4398046511104 ≤ x) (h1 : x ≤ 4398046511104) : fix_Of.f x = some (x * 1048576) := by
  unfold fix_Of.f
  have e1 : mn x 4398046511104 = x := by unfold mn; split <;> omega
  have e2 : mx (-4398046511104) x = x := by unfold mx; split <;> omega
  rw [e1, e2]
theorem mean_small {l : List S36} (h : l.all sampleOk = true) (hl : l.length ≤ 100) (h1 : 1 ≤ l.length) : 0 ≤ ratioOf (sR l) l.length ∧ ratioOf (sR l) l.length ≤ 62914560000000 := by
  have o := mi_ok h hl
  have b1 := o.r0
  have b2 := o.r1
  have := ratio_upper (M := 60000000) b1 (show (0 : Int) < l.length by omega) (by omega) (by omega)
  have := ratio_lower (L := 0) b1 (show (0 : Int) < l.length by omega) (by omega) (by omega)
  omega
end Go.Proofs.Ytlokmliannklaaa.Print
end

section
namespace Go.Proofs.Ytlokmliannklaaa.Print
open Go.RowKit Go.Proofs.YtlokmliannklaaaW.PrintWords Go.Proofs.YtlokmliannklaaaW.PrintLast Go.Proofs.YtlokmliannklaaaW.PrintMore
open Go.ChangeShapes Go.WideShapes Go.Deep
set_option linter.unusedVariables false
theorem cells36 : Try.prog.cellsOf 36 = 2 := by kernel_rfl
section
variable {H : Type} {enc : TypeId × Value → H} {P : Program} {w : World} {base : Nat} {spare : Nat → Bool} {held : Bool}
theorem open_slice_cells {t e : TypeId} {fs : Array Field} {fuel : Nat} {cs : List Value} {x : DataW H × List MemPlace} (ht : P.underlying t = some (.slice e)) (he : P.underlying e = some (.struct fs))
    (hone : oneCellFields P fs = true) (hC : P.cellsOf e = fs.size) (h : DataW.trod enc P w base spare held fuel t cs = some x) :
    (cs = [.slice none 0 0] ∧ x = (.nil, [])) ∨
    ∃ (a : Addr) (len cap m : Nat), cs = [.slice (some a) len cap] ∧ len ≤ cap ∧ cap ≤ maxLen ∧ m = (if spare a.block then cap else len) ∧
      ∀ i, i < m → ∀ (j : Nat) (f : Field), fs[j]? = some f → ∃ (n : Nat) (v : Value) (y : DataW H × List MemPlace), w.cell? (a.add (i * fs.size + j)) = some v ∧ DataW.trod enc P w base spare held n f.type [v] = some y := by
  rcases open_slice ht h with h0 | ⟨a, len, cap, m, n, D, Pl, hcs, hb, hl, hm, hmm, hx, hi⟩
  · exact .inl h0
  · refine .inr ⟨a, len, cap, m, hcs, hl, hm, hmm, fun i him => ?_⟩
    obtain ⟨cs', hc, ht'⟩ := hi i him
    rw [hC] at hc
    obtain ⟨ys, n', hn', hy, hlen, hyl, hf⟩ := DataW.trod_struct he ht'
    obtain ⟨_, hcl, hat⟩ := World.cells?_some hc
    intro j f hj
    obtain ⟨ho, hk⟩ := hone_of hone j f hj
    have hjl : j < fs.size := (Array.getElem?_eq_some_iff.1 hj).1
    have hcell := hat j hjl
    have hv : cs'[j]? = some (cs'[j]'(by omega)) := List.getElem?_eq_getElem (by omega)
    have h1 := hf j f hj
    rw [ho, hk] at h1
    have hone' : (cs'.drop j).take 1 = [cs'[j]'(by omega)] := by
      rw [List.drop_eq_getElem_cons (by omega)]
      rfl
    rw [hone'] at h1
    have hys : ys[j]? = some (ys[j]'(by omega)) := List.getElem?_eq_getElem (by omega)
    refine ⟨_, _, _, ?_, h1.trans hys⟩
    rw [← Go.Deep.add_add, hcell, hv]
end
/-- An int in a cell. -/
def intAt : Option Value → Int
  | some (.int _ x) => x
  | _ => 0
/-- The cells of a row, read as samples. -/
def rowOf (w : World) (a : Addr) (n : Nat) : List S36 := (List.range n).map fun i => ⟨intAt (w.cell? (a.add (i * 2 + 0))), intAt (w.cell? (a.add (i * 2 + 1)))⟩
theorem rowOf_length (w : World) (a : Addr) (n : Nat) : (rowOf w a n).length = n := by simp [rowOf]
theorem row_reads {H : Type} {enc : TypeId × Value → H} {W : World} {a : Option Addr} {len cap : Nat} {d : DataW H} {p : List MemPlace} (h : DataW.Trod enc Try.prog W 0 (fun _ => true) true 32 (.slice a len cap) d p) :
    ∃ l : List S36, l.length = len ∧ Kd.C k36 W a len l ∧ len ≤ cap := by
  obtain ⟨fuel, hf⟩ := h
  rcases open_slice_cells Try.underlying32 Try.underlying36 (by kernel_rfl) cells36 hf with ⟨hcs, _⟩ | ⟨x, l, c, m, hcs, hl, hm, hmm, hi⟩
  · simp [Value.cells] at hcs
    obtain ⟨rfl, rfl, rfl⟩ := hcs
    exact ⟨[], rfl, ⟨rfl, by omega, fun h => absurd h (by omega)⟩, Nat.le_refl _⟩
  · simp [Value.cells] at hcs
    obtain ⟨rfl, rfl, rfl⟩ := hcs
    unfold maxLen at hm
    rw [if_pos rfl] at hmm
    refine ⟨rowOf W x len, rowOf_length .., ⟨rowOf_length .., by omega, fun _ => ⟨x, rfl, fun j q hj => ?_⟩⟩, hl⟩
    have hj' : j < len := by
      have := (List.getElem?_eq_some_iff.1 hj).1
      rw [rowOf_length] at this
      exact this
    obtain ⟨n0, v0, y0, c0, t0⟩ := hi j (by omega) 0 _ rfl
    obtain ⟨n1, v1, y1, c1, t1⟩ := hi j (by omega) 1 _ rfl
    obtain ⟨f0, e0, rfl, w0⟩ := DataW.trod_int Try.underlying3 t0
    obtain ⟨f1, e1, rfl, w1⟩ := DataW.trod_int Try.underlying3 t1
    simp at e0 e1
    subst e0 e1
    have d0 : W.cell? (x.add (j * 2 + 0)) = some (.int .i64 f0) := c0
    have d1 : W.cell? (x.add (j * 2 + 1)) = some (.int .i64 f1) := c1
    have hq : q = ⟨f0, f1⟩ := by
      have : (rowOf W x len)[j]? = some ⟨f0, f1⟩ := by
        unfold rowOf
        rw [List.getElem?_map, List.getElem?_range hj']
        simp only [Option.map_some, d0, d1, intAt]
      rw [this] at hj
      exact (Option.some.inj hj).symm
    subst hq
    refine ⟨[.int .i64 f0, .int .i64 f1], rfl, k36_mk W ⟨f0, f1⟩, fun i u hu => ?_⟩
    match i, hu with
    | 0, hu => rw [← Option.some.inj hu]; exact d0
    | 1, hu => rw [← Option.some.inj hu]; exact d1
    | _ + 2, hu => simp at hu
end Go.Proofs.Ytlokmliannklaaa.Print
end
