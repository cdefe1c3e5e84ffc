/- SlopeWithin without memory: whatever the samples are, the law's function tells true. -/
import Derived.Test.YtlokmliannklaaaQPrint15d
import Derived.Test.YtlokmliannklaaaQPure
section
namespace Go.Proofs.Ytlokmliannklaaa.Print
open Go.RowKit Go.Proofs.YtlokmliannklaaaW.PrintWords Go.Proofs.YtlokmliannklaaaW.PrintLast Go.Proofs.YtlokmliannklaaaW.PrintMore
set_option linter.unusedVariables false
set_option linter.unusedSimpArgs false

theorem within_early (k : Nat) (l : List S36) (p0 p1 p2 p3 p4 p5 p6 p7 p8 p9 p10 p11 p12 p13 p14 : Int) : pacemakerlaw10_SlopeWithin.j0 (k + 1) l true p0 p1 p2 p3 p4 p5 p6 p7 p8 p9 p10 p11 p12 p13 p14 = some true := by
  simp [pacemakerlaw10_SlopeWithin.j0, pacemakerlaw10_fitted.f]
/-- Between the least and the greatest: what the loop tells. -/
def Between (l : List S36) (a b : Int) (i : Nat) : Prop := (∀ x ∈ l.take i, a ≤ x.f1 ∧ x.f1 ≤ b) ∧ 0 ≤ a ∧ a ≤ b ∧ b ≤ 60000000
theorem within_loop (l : List S36) (h : l.all sampleOk = true) (hl : l.length ≤ 100) (p0 p1 p2 p3 p4 p5 p6 p7 p8 p9 p10 p11 p12 p13 p14 : Int) (d : Nat) :
    ∀ (i k : Nat) (a b : Int), i + d = l.length → Between l a b i → ∃ a' b', Between l a' b' l.length ∧ pacemakerlaw10_SlopeWithin.l0 (k + d) l a b i p0 p1 p2 p3 p4 p5 p6 p7 p8 p9 p10 p11 p12 p13 p14 = pacemakerlaw10_SlopeWithin.l0 k l a' b' l.length p0 p1 p2 p3 p4 p5 p6 p7 p8 p9 p10 p11 p12 p13 p14 := by
  induction d with
  | zero =>
    intro i k a b hi hb
    obtain rfl : i = l.length := by omega
    exact ⟨a, b, hb, rfl⟩
  | succ d ih =>
    intro i k a b hi hb
    have hlt : i < l.length := by omega
    have r := rd_ok h hlt
    obtain ⟨h1, h2, h3, h4⟩ := hb
    have hm : mn a (rd_T36 l (i : Int)).f1 ≤ a ∧ mn a (rd_T36 l (i : Int)).f1 ≤ (rd_T36 l (i : Int)).f1 ∧ 0 ≤ mn a (rd_T36 l (i : Int)).f1 := by unfold mn; split <;> omega
    have hx : b ≤ mx b (rd_T36 l (i : Int)).f1 ∧ (rd_T36 l (i : Int)).f1 ≤ mx b (rd_T36 l (i : Int)).f1 ∧ mx b (rd_T36 l (i : Int)).f1 ≤ 60000000 := by unfold mx; split <;> omega
    have hb2 : Between l (mn a (rd_T36 l (i : Int)).f1) (mx b (rd_T36 l (i : Int)).f1) (i + 1) := by
      refine ⟨fun x hx2 => ?_, by omega, by omega, by omega⟩
      rw [List.take_succ_eq_append_getElem hlt] at hx2
      rcases List.mem_append.1 hx2 with hx2 | hx2
      · have := h1 x hx2
        omega
      · obtain rfl := List.mem_singleton.1 hx2
        rw [← rd_get hlt]
        omega
    obtain ⟨a', b', hb3, e3⟩ := ih (i + 1) k _ _ (by omega) hb2
    refine ⟨a', b', hb3, ?_⟩
    rw [show k + (d + 1) = (k + d) + 1 by omega]
    rw [← e3]
    conv => lhs; simp only [pacemakerlaw10_SlopeWithin.l0]
    rw [if_pos (by omega), if_pos (by omega), wrap_id (x := (i : Int) + 1) (by omega) (by omega)]
    rfl
theorem sum_between (l : List S36) (a b : Int) (h : ∀ x ∈ l, a ≤ x.f1 ∧ x.f1 ≤ b) : a * l.length ≤ sR l ∧ sR l ≤ b * l.length := by
  unfold sR
  induction l with
  | nil => simp [sumOf]
  | cons x l ih =>
    have h1 := h x (by simp)
    have h2 := ih (fun y hy => h y (by simp [hy]))
    simp only [sumOf, List.length_cons, Int.natCast_add, Int.mul_add]
    simp
    omega
theorem dev_between (l : List S36) (a b : Int) (h : ∀ x ∈ l, a ≤ x.f1 ∧ x.f1 ≤ b) (hab : a ≤ b) : 0 ≤ l.length * sRR l - sR l * sR l ∧ l.length * sRR l - sR l * sR l ≤ ((b - a) * l.length) * ((b - a) * l.length) := by
  have s0 := spread_nonneg (·.f1) l
  have s1 := sq_eq (·.f1) a l
  have e : (l.length : Int) * sRR l - sR l * sR l = l.length * sq (·.f1) a l - (sR l - l.length * a) * (sR l - l.length * a) := by
    rw [s1]
    unfold sRR sR
    grind
  have s2 : sq (·.f1) a l ≤ l.length * ((b - a) * (b - a)) := by
    unfold sq
    clear s0 s1 e
    induction l with
    | nil => simp [sumOf]
    | cons x l ih =>
      have h1 := h x (by simp)
      have h2 := ih (fun y hy => h y (by simp [hy]))
      have h3 : (x.f1 - a) * (x.f1 - a) ≤ (b - a) * (b - a) := Int.mul_le_mul (by omega) (by omega) (by omega) (by omega)
      simp only [sumOf, List.length_cons, Int.natCast_add, Int.add_mul] at h2 ⊢
      simp at h2 ⊢
      omega
  have s3 := sqr_nonneg (sR l - l.length * a)
  have s4 : (l.length : Int) * sq (·.f1) a l ≤ l.length * (l.length * ((b - a) * (b - a))) := Int.mul_le_mul_of_nonneg_left s2 (by omega)
  have s5 : (b - a) * (l.length : Int) * ((b - a) * l.length) = l.length * (l.length * ((b - a) * (b - a))) := by grind
  refine ⟨?_, by omega⟩
  unfold spread at s0
  unfold sRR sR
  exact s0
theorem le_of_sq {x y : Int} (hy : 0 ≤ y) (h : x * x ≤ y * y) : x ≤ y := by
  rcases Int.lt_or_le y x with c | c
  · have h2 : y * y ≤ y * x := Int.mul_le_mul_of_nonneg_left (Int.le_of_lt c) hy
    have h3 : y * x < x * x := Int.mul_lt_mul_of_pos_right c (show 0 < x by omega)
    omega
  · exact c
theorem within_end (l : List S36) (h : l.all sampleOk = true) (hl : l.length ≤ 100) (hn : 1 ≤ l.length) (a b : Int) (hb : Between l a b l.length) (k : Nat) :
    pacemakerlaw10_SlopeWithin.l0 (k + 2) l a b l.length 0 0 (-1) (l.length : Int) (l.length : Int) 0 (l.length : Int) (l.length : Int) 0 (l.length : Int) (sT l) (sR l) (sTT l) (sTR l) (sRR l) = some true := by
  obtain ⟨h1, h2, h3, h4⟩ := hb
  rw [List.take_length] at h1
  have o := mi_ok h hl
  have n1 : (1 : Int) ≤ l.length := by omega
  obtain ⟨s1, s2⟩ := sum_between l a b h1
  obtain ⟨v1, v2⟩ := dev_between l a b h1 h3
  simp only [pacemakerlaw10_SlopeWithin.l0]
  rw [if_neg (by omega), mean_of o n1 k, dev_of o n1 k]
  simp only [Option.bind_some, pacemakerlaw10_fitted.f, if_true]
  rw [of_some a (by omega) (by omega), of_some b (by omega) (by omega), wrap_id (x := b - a) (by omega) (by omega), of_some (b - a) (by omega) (by omega)]
  simp only [Option.bind_some]
  have m1 := ratio_lower (L := a) o.r0 (by omega) s1 (by omega)
  have m2 := ratio_upper (M := b) o.r0 (by omega) s2 (by omega)
  have q := root_sq v1
  have m0 : 0 ≤ (b - a) * (l.length : Int) := Int.mul_nonneg (by omega) (by omega)
  have q2 := le_of_sq m0 (Int.le_trans q.2 v2)
  have d1 := ratio_lower (L := 0) q.1 (show (0 : Int) < l.length by omega) (by omega) (by omega)
  have d2 := ratio_upper (M := b - a) q.1 (show (0 : Int) < l.length by omega) q2 (by omega)
  have ed : devOf l.length (sR l) (sRR l) = ratioOf (rootOf (l.length * sRR l - sR l * sR l)) l.length := by
    unfold devOf
    rw [if_neg (by omega)]
  rw [ed, if_pos (by omega), if_pos (by omega), if_pos (by omega), decide_eq_true (by omega)]
theorem within_true (l : List S36) : pacemakerlaw10_SlopeWithin.f 400 l = some true := by
  unfold pacemakerlaw10_SlopeWithin.f
  by_cases g : l.length ≤ 100 ∧ l.all sampleOk = true
  · rw [sampled_ok g.1 g.2]
    simp only [Option.bind_some, if_true]
    rw [if_neg (by omega)]
    by_cases z : l.length = 0
    · have : ((l.length : Int) == 0) = true := by simp [z]
      rw [this]
      exact within_early 399 _ _ _ _ _ _ _ _ _ _ _ _ _ _ _ _ 
    · have : ((l.length : Int) == 0) = false := beq_eq_false_iff_ne.mpr (by omega)
      rw [this]
      simp only [pacemakerlaw10_SlopeWithin.j0]
      rw [if_neg (by decide), if_pos (by omega)]
      have r := rd_ok g.2 (show 0 < l.length by omega)
      have hb : Between l (rd_T36 l 0).f1 (rd_T36 l 0).f1 0 := by
        have r' : 0 ≤ (rd_T36 l 0).f1 ∧ (rd_T36 l 0).f1 ≤ 60000000 := r.2.2
        exact ⟨by simp, r'.1, by omega, r'.2⟩
      obtain ⟨a', b', hb2, e⟩ := within_loop l g.2 g.1 0 0 (-1) (l.length : Int) (l.length : Int) 0 (l.length : Int) (l.length : Int) 0 (l.length : Int) (sT l) (sR l) (sTT l) (sTR l) (sRR l) l.length 0 (399 - l.length) _ _ (by omega) hb
      rw [Nat.sub_add_cancel (by omega)] at e
      refine Eq.trans e ?_
      rw [show 399 - l.length = (397 - l.length) + 2 by omega]
      exact within_end l g.2 g.1 (by omega) a' b' hb2 _
  · rw [sampled_no g]
    simp only [Option.bind_some]
    by_cases c : (l.length : Int) > 100
    · rw [if_pos c]
      exact within_early 399 _ _ _ _ _ _ _ _ _ _ _ _ _ _ _ _ 
    · rw [if_neg c, if_neg (by decide)]
      exact within_early 399 _ _ _ _ _ _ _ _ _ _ _ _ _ _ _ _ 
end Go.Proofs.Ytlokmliannklaaa.Print
end
