/- SlopeLines without memory: whatever the times and the line are, the law's function tells true. -/
import Derived.Test.YtlokmliannklaaaQPrint13d
import Derived.Test.YtlokmliannklaaaQPure
section
namespace Go.Proofs.Ytlokmliannklaaa.Print
open Go.RowKit Go.Proofs.YtlokmliannklaaaW.PrintWords Go.Proofs.YtlokmliannklaaaW.PrintLast Go.Proofs.YtlokmliannklaaaW.PrintMore
set_option linter.unusedVariables false
set_option linter.unusedSimpArgs false

theorem lines_early (k : Nat) (l : List Int) (b s : Int) : pacemakerlaw10_SlopeLines.j0 (k + 1) l b s true = some true := by
  simp [pacemakerlaw10_SlopeLines.j0, pacemakerlaw10_fitted.f]
def twoB (l : List Int) (i : Nat) : Bool := (l.take i).any (fun t => t != rd l 0)
theorem rd_int {l : List Int} {i : Nat} (h : i < l.length) : rd l (i : Int) = l[i] := by
  simp [rd, List.getD, List.getElem?_eq_getElem h]
theorem lined_ok {b s t : Int} (b0 : 0 ≤ b) (b1 : b ≤ 1000000) (s0 : 0 ≤ s) (s1 : s ≤ 50) (t0 : 0 ≤ t) (t1 : t ≤ 1000000) : 0 ≤ s * t ∧ s * t ≤ 50000000 ∧ sampleOk (lined b s t) = true := by
  have m0 : 0 ≤ s * t := Int.mul_nonneg s0 t0
  have m1 : s * t ≤ 50 * 1000000 := Int.mul_le_mul s1 t1 t0 (by omega)
  refine ⟨m0, by omega, ?_⟩
  unfold sampleOk lined
  simp only [Bool.and_eq_true, decide_eq_true_eq]
  omega
theorem lined_all {b s : Int} {l : List Int} (b0 : 0 ≤ b) (b1 : b ≤ 1000000) (s0 : 0 ≤ s) (s1 : s ≤ 50) (h : ∀ t ∈ l, 0 ≤ t ∧ t ≤ 1000000) : (l.map (lined b s)).all sampleOk = true := by
  rw [List.all_map, List.all_eq_true]
  intro t ht
  exact (lined_ok b0 b1 s0 s1 (h t ht).1 (h t ht).2).2.2
theorem spread_line (b s : Int) (l : List Int) : spread (·.f0) (l.map (lined b s)) = l.length * sTT (l.map (lined b s)) - sT (l.map (lined b s)) * sT (l.map (lined b s)) := by
  unfold spread sTT sT
  rw [List.length_map]
theorem line_two (b s : Int) (l : List Int) (h : twoB l l.length = true) : 0 < l.length * sTT (l.map (lined b s)) - sT (l.map (lined b s)) * sT (l.map (lined b s)) := by
  rw [← spread_line]
  unfold twoB at h
  rw [List.take_length, List.any_eq_true] at h
  obtain ⟨t, ht, hne⟩ := h
  cases l with
  | nil => cases ht
  | cons x l =>
    have hx : rd (x :: l) 0 = x := rfl
    rw [hx] at hne
    simp only [bne_iff_ne] at hne
    rw [List.map_cons]
    refine spread_pos _ _ _ ⟨lined b s t, List.mem_map.2 ⟨t, ?_, rfl⟩, hne⟩
    rcases List.mem_cons.1 ht with rfl | ht
    · exact absurd rfl hne
    · exact ht
theorem line_one (b s : Int) (l : List Int) (h : twoB l l.length = false) : l.length * sTT (l.map (lined b s)) - sT (l.map (lined b s)) * sT (l.map (lined b s)) = 0 := by
  rw [← spread_line]
  unfold twoB at h
  rw [List.take_length, List.any_eq_false] at h
  refine spread_same _ (rd l 0) _ (fun y hy => ?_)
  obtain ⟨t, ht, rfl⟩ := List.mem_map.1 hy
  have e : t = rd l 0 := by simpa using h t ht
  exact e
theorem root_zero : rootOf 0 = 0 := by
  have q := root_sq (a := 0) (by omega)
  rcases Int.lt_or_le 0 (rootOf 0) with c | c
  · have := Int.mul_pos c c
    omega
  · omega
theorem line_grade {b s : Int} {l : List Int} (s0 : 0 ≤ s) (s1 : s ≤ 50) : gradeOf l.length (sT (l.map (lined b s))) (sR (l.map (lined b s))) (sTT (l.map (lined b s))) (sTR (l.map (lined b s))) = if twoB l l.length = true then s * 1048576 else 0 := by
  rw [lined_R, lined_TR]
  have e : (l.length : Int) * (b * sT (l.map (lined b s)) + s * sTT (l.map (lined b s))) - sT (l.map (lined b s)) * (l.length * b + s * sT (l.map (lined b s))) = s * (l.length * sTT (l.map (lined b s)) - sT (l.map (lined b s)) * sT (l.map (lined b s))) := by grind
  unfold gradeOf
  rw [e]
  cases c : twoB l l.length with
  | true =>
    have v := line_two b s l c
    have m := Int.mul_nonneg s0 (show 0 ≤ l.length * sTT (l.map (lined b s)) - sT (l.map (lined b s)) * sT (l.map (lined b s)) by omega)
    rw [if_neg (by omega), if_neg (by omega), if_pos rfl, ratio_mul v s0 (by omega)]
  | false =>
    have v := line_one b s l c
    rw [if_pos (by omega), if_neg (by decide)]
theorem flat_grade (b : Int) (l : List Int) : gradeOf l.length (sT (l.map (lined b 0))) (sR (l.map (lined b 0))) (sTT (l.map (lined b 0))) (sTR (l.map (lined b 0))) = 0 := by
  rw [line_grade (by omega) (by omega)]
  split <;> rfl
theorem flat_dev (b : Int) (l : List Int) : devOf l.length (sR (l.map (lined b 0))) (sRR (l.map (lined b 0))) = 0 := by
  rw [lined_R, lined_RR]
  have e : (l.length : Int) * (l.length * (b * b)) - (l.length * b + 0 * sT (l.map (lined b 0))) * (l.length * b + 0 * sT (l.map (lined b 0))) = 0 := by grind
  unfold devOf
  rw [e, root_zero, if_neg (by omega)]
  simp [ratioOf]
theorem lines_end (l : List Int) (b s : Int) (hl : l.length ≤ 100) (b0 : 0 ≤ b) (b1 : b ≤ 1000000) (s0 : 0 ≤ s) (s1 : s ≤ 50) (h : ∀ t ∈ l, 0 ≤ t ∧ t ≤ 1000000) (k : Nat) :
    pacemakerlaw10_SlopeLines.l0 (k + 4) l b s (l.map (lined b s)) (l.map (lined b 0)) (twoB l l.length) l.length = some true := by
  have g1 := lined_all b0 b1 s0 s1 h
  have g2 := lined_all (s := 0) b0 b1 (by omega) (by omega) h
  have l1 : (l.map (lined b s)).length = l.length := by simp
  have l2 : (l.map (lined b 0)).length = l.length := by simp
  have o1 := mi_ok g1 (by omega)
  have o2 := mi_ok g2 (by omega)
  rw [l1] at o1
  rw [l2] at o2
  simp only [pacemakerlaw10_SlopeLines.l0]
  rw [if_neg (by omega), sampled_ok (by omega) g1, sampled_ok (by omega) g2]
  simp only [Option.bind_some, if_true]
  rw [l1, l2]
  by_cases z : l.length = 0
  · simp only [pacemakerlaw10_SlopeLines.j2]
    rw [if_pos (by simp [z])]
    simp [pacemakerlaw10_fitted.f, z]
  · have n1 : (1 : Int) ≤ l.length := by omega
    have e3 : ∀ want : Int, want = (if twoB l l.length = true then s * 1048576 else 0) → pacemakerlaw10_SlopeLines.j3 (k + 1 + 1) b want 0 0 (-1) (l.length : Int) (l.length : Int) 0 (l.length : Int) (l.length : Int) 0 (l.length : Int) (sT (l.map (lined b s))) (sR (l.map (lined b s))) (sTT (l.map (lined b s))) (sTR (l.map (lined b s))) (sRR (l.map (lined b s))) 0 0 (-1) (l.length : Int) (l.length : Int) 0 (l.length : Int) (l.length : Int) 0 (l.length : Int) (sT (l.map (lined b 0))) (sR (l.map (lined b 0))) (sTT (l.map (lined b 0))) (sTR (l.map (lined b 0))) (sRR (l.map (lined b 0))) = some true := by
      intro want hw
      simp only [pacemakerlaw10_SlopeLines.j3]
      simp only [pacemakerlaw10_fitted.f, Option.bind_some, if_true]
      rw [grade_of o1 n1 k, grade_of o2 n1 k, dev_of o2 n1 k, mean_of o2 n1 k, of_some b (by omega) (by omega), line_grade s0 s1, flat_grade, flat_dev]
      simp only [Option.bind_some]
      have em : ratioOf (sR (l.map (lined b 0))) l.length = b * 1048576 := by
        rw [lined_R]
        have : (l.length : Int) * b + 0 * sT (l.map (lined b 0)) = b * l.length := by grind
        rw [this]
        exact ratio_mul (by omega) b0 (by omega)
      rw [if_pos hw.symm, em]
      simp
    simp only [pacemakerlaw10_SlopeLines.j2]
    rw [if_neg (by rw [beq_iff_eq]; omega)]
    cases c : twoB l l.length with
    | true =>
      rw [if_pos rfl, of_some s (by omega) (by omega)]
      simp only [Option.bind_some]
      exact e3 _ (by rw [c, if_pos rfl])
    | false =>
      rw [if_neg (by decide)]
      exact e3 _ (by rw [c, if_neg (by decide)])
theorem lines_loop (l : List Int) (b s : Int) (hl : l.length ≤ 100) (b0 : 0 ≤ b) (b1 : b ≤ 1000000) (s0 : 0 ≤ s) (s1 : s ≤ 50) (d : Nat) :
    ∀ (i k : Nat), i + d = l.length → (∀ t ∈ l.take i, 0 ≤ t ∧ t ≤ 1000000) → pacemakerlaw10_SlopeLines.l0 (k + d + 4) l b s ((l.take i).map (lined b s)) ((l.take i).map (lined b 0)) (twoB l i) i = some true := by
  induction d with
  | zero =>
    intro i k hi h
    obtain rfl : i = l.length := by omega
    rw [List.take_length] at h ⊢
    exact lines_end l b s hl b0 b1 s0 s1 h k
  | succ d ih =>
    intro i k hi h
    have hlt : i < l.length := by omega
    rw [show k + (d + 1) + 4 = (k + d + 4) + 1 by omega]
    by_cases c1 : rd l (i : Int) < 0
    · simp only [pacemakerlaw10_SlopeLines.l0]
      rw [if_pos (by omega), if_pos (by omega), if_pos c1]
      rfl
    by_cases c2 : rd l (i : Int) > 1000000
    · simp only [pacemakerlaw10_SlopeLines.l0]
      rw [if_pos (by omega), if_pos (by omega), if_neg c1, if_pos c2]
      rfl
    have r := rd_int hlt
    have lo := lined_ok b0 b1 s0 s1 (show 0 ≤ rd l (i : Int) by omega) (show rd l (i : Int) ≤ 1000000 by omega)
    have hin : ∀ t ∈ l.take (i + 1), 0 ≤ t ∧ t ≤ 1000000 := by
      intro t ht
      rw [List.take_succ_eq_append_getElem hlt] at ht
      rcases List.mem_append.1 ht with ht | ht
      · exact h t ht
      · obtain rfl := List.mem_singleton.1 ht
        omega
    have step : pacemakerlaw10_SlopeLines.l0 (k + d + 4) l b s ((l.take (i + 1)).map (lined b s)) ((l.take (i + 1)).map (lined b 0)) (twoB l (i + 1)) ((i + 1 : Nat) : Int) = some true := ih (i + 1) k (by omega) hin
    have e1 : (⟨rd l (i : Int), b + s * rd l (i : Int)⟩ : S36) = lined b s l[i] := by rw [r]; rfl
    have e2 : (⟨rd l (i : Int), b⟩ : S36) = lined b 0 l[i] := by rw [r]; unfold lined; simp
    have et : twoB l (i + 1) = (twoB l i || (rd l (i : Int) != rd l 0)) := by
      unfold twoB
      rw [List.take_succ_eq_append_getElem hlt, List.any_append, r]
      simp
    simp only [pacemakerlaw10_SlopeLines.l0]
    rw [if_pos (by omega), if_pos (by omega), if_neg c1, if_neg c2]
    rw [wrap_id (x := s * rd l (i : Int)) (by omega) (by omega), wrap_id (x := b + s * rd l (i : Int)) (by omega) (by omega), wrap_id (x := (i : Int) + 1) (by omega) (by omega), e1, e2, take_map_one _ _ _ hlt, take_map_one _ _ _ hlt]
    cases c : twoB l i with
    | true =>
      rw [c] at et
      rw [if_pos rfl, if_pos (by simp; omega), if_pos (by simp; omega)]
      rw [et] at step
      exact step
    | false =>
      rw [c] at et
      rw [if_neg (by decide), if_pos (by omega), if_pos (by simp; omega), if_pos (by simp; omega)]
      rw [et, Bool.false_or] at step
      exact step
theorem lines_true (l : List Int) (b s : Int) : pacemakerlaw10_SlopeLines.f 400 l b s = some true := by
  unfold pacemakerlaw10_SlopeLines.f
  by_cases c0 : (l.length : Int) > 100
  · rw [if_pos c0]; exact lines_early 399 _ _ _
  rw [if_neg c0]
  by_cases c1 : b < 0
  · rw [if_pos c1]; exact lines_early 399 _ _ _
  rw [if_neg c1]
  by_cases c2 : b > 1000000
  · rw [if_pos c2]; exact lines_early 399 _ _ _
  rw [if_neg c2]
  by_cases c3 : s < 0
  · rw [if_pos c3]; exact lines_early 399 _ _ _
  rw [if_neg c3]
  by_cases c4 : s > 50
  · rw [decide_eq_true c4]; exact lines_early 399 _ _ _
  rw [decide_eq_false c4]
  simp only [pacemakerlaw10_SlopeLines.j0]
  rw [if_neg (by decide)]
  have := lines_loop l b s (by omega) (by omega) (by omega) (by omega) (by omega) l.length 0 (395 - l.length) (by omega) (by simp)
  rw [show 395 - l.length + l.length + 4 = 399 by omega] at this
  exact this
end Go.Proofs.Ytlokmliannklaaa.Print
end
