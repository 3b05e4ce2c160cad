/- exact.MulDiv as printed. -/
import Derived.Test.YtakhjhiofmgpnaaE4
namespace Go.Proofs.Ytakhjhiofmgpnaa.E
set_option linter.unusedVariables false
set_option linter.unusedSimpArgs false
open Go.RowKit Go.Proofs.YtakhjhiofmgpnaaW.PrintWords Go.Proofs.YtakhjhiofmgpnaaW.PrintLast Go.Proofs.YtakhjhiofmgpnaaW.PrintMore Go.Proofs.Ytakhjhiofmgpnaa.PA

/-- Is a quotient rounded up? -/
def goesUp (q r c m : Int) : Bool := if m = 1 then decide (r > 0) else if m = 2 then decide (r ≥ c - r) else if m = 3 then (decide (r > c - r) || (decide (r = c - r) && decide (q % 2 = 1))) else false
theorem above_some (q r c m : Int) (q0 : 0 ≤ q) (r0 : 0 ≤ r) (r1 : r < c) (c1 : c < 18446744073709551616) : exact_above.f q r c m = some (goesUp q r c m) := by
  unfold exact_above.f exact_order.f goesUp
  rw [w_id (x := c - r) (by omega) (by omega), Int.tmod_eq_emod_of_nonneg q0]
  obtain ⟨o, ho, h1, h2⟩ : ∃ o : Int, (if r < c - r then some (-1 : Int) else if r > c - r then some 1 else some 0) = some o ∧ ((o ≥ 0) = (r ≥ c - r)) ∧ ((o > 0) = (r > c - r)) ∧ ((o = 0) = (r = c - r)) := by
    rcases Int.lt_trichotomy r (c - r) with h | h | h
    · exact ⟨-1, by rw [if_pos h], by apply propext; omega, by apply propext; omega, by apply propext; omega⟩
    · exact ⟨0, by rw [if_neg (by omega), if_neg (by omega)], by apply propext; omega, by apply propext; omega, by apply propext; omega⟩
    · exact ⟨1, by rw [if_neg (by omega), if_pos h], by apply propext; omega, by apply propext; omega, by apply propext; omega⟩
  rw [ho]
  simp only [Option.bind_some, h1, h2]
  by_cases m1 : m = 1
  · simp [m1]
  · by_cases m2 : m = 2
    · simp [m2]
    · by_cases m3 : m = 3
      · subst m3
        by_cases g : r > c - r
        · simp [g]
        · by_cases g2 : r = c - r
          · rw [if_neg m1, if_neg m2, if_pos rfl, if_neg g, if_pos g2]
            simp only [g, decide_eq_true g2]
            simp only [decide_false, Bool.true_and, Bool.false_or]
            rfl
          · simp [g, g2]
      · simp [m1, m2, m3]

/-- The product's quotient, rounded. -/
def rounded (p c m : Int) : Int := if goesUp (p / c) (p % c) c m = true then p / c + 1 else p / c
theorem muldiv_ev (a b c m : Int) (a0 : 0 ≤ a) (a1 : a < 18446744073709551616) (b0 : 0 ≤ b) (b1 : b < 18446744073709551616) (c0 : 0 < c) (c1 : c < 18446744073709551616) (m0 : 0 ≤ m) (m1 : m ≤ 3)
    (hr : rounded (a * b) c m < 18446744073709551616) : Ev (fun k => exact_MulDiv.f k a b c m) (rounded (a * b) c m, 0) := by
  have p0 := Int.mul_nonneg a0 b0
  have hq : a * b / c < 18446744073709551616 := by
    unfold rounded at hr
    split at hr <;> omega
  have q0 : 0 ≤ a * b / c := Int.ediv_nonneg p0 (Int.le_of_lt c0)
  have r0 := Int.emod_nonneg (a * b) (Int.ne_of_gt c0)
  have r1 := Int.emod_lt_of_pos (a * b) c0
  have hp : a * b < 18446744073709551616 * c := Int.lt_mul_of_ediv_lt c0 hq
  have hhi : a * b / 18446744073709551616 < c := by omega
  simp only [exact_MulDiv.f, exact_Mul.f, mul64_some a b a0 a1 b0 b1]
  refine evBind0 rfl (evBind (a := (rounded (a * b) c m, 0)) ?_ (evNow rfl))
  simp only [exact_Div.f]
  refine evNeg (by omega) (evNeg (by omega) ?_)
  have e : decide (m > 3) = false := by simp; omega
  rw [e]
  refine evShift ?_
  simp only [exact_Div.j0]
  refine evNeg (by simp) (evNeg (by omega) ?_)
  refine evBind (div64_ev _ _ c (by omega) hhi (by omega) (by omega) c1) ?_
  have es : a * b / 18446744073709551616 * 18446744073709551616 + a * b % 18446744073709551616 = a * b := Int.ediv_mul_add_emod _ _
  rw [es]
  refine evBind0 (above_some _ _ c m q0 r0 r1 c1) ?_
  unfold rounded at hr ⊢
  refine evIf (fun h => ?_) (fun h => ?_)
  · rw [if_pos h] at hr ⊢
    rw [w_id (by omega) hr]
    exact evNeg (by omega) (evNow rfl)
  · rw [if_neg h] at hr ⊢
    exact evNow rfl
theorem rounded_down (p c : Int) : rounded p c 0 = p / c := by simp [rounded, goesUp]

end Go.Proofs.Ytakhjhiofmgpnaa.E
