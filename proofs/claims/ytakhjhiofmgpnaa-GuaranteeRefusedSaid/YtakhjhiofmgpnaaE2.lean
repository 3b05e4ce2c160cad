/- The quotient of 128 bits: bits.Div64 as printed is floor division (Knuth's algorithm D with two digits), bits.Mul64 the product. -/
import Derived.Test.YtakhjhiofmgpnaaE1
import Derived.Laws.Bits64
import Derived.Laws.BitsLemmas
namespace Go.Proofs.Ytakhjhiofmgpnaa.E
set_option linter.unusedVariables false
set_option linter.unusedSimpArgs false
open Go.RowKit Go.Proofs.YtakhjhiofmgpnaaW.PrintWords Go.Proofs.YtakhjhiofmgpnaaW.PrintLast Go.Proofs.YtakhjhiofmgpnaaW.PrintMore Go.Proofs.Ytakhjhiofmgpnaa.PA

theorem w_id {x : Int} (h1 : 0 ≤ x) (h2 : x < 18446744073709551616) : IntKind.u64.wrap x = x := by rw [IntKind.wrap_u64]; omega

/-- What one digit is found by. -/
structure Dig (yn1 yn0 un c Q : Int) : Prop where
  y1 : 2147483648 ≤ yn1
  y1' : yn1 < 4294967296
  y0 : 0 ≤ yn0
  y0' : yn0 < 4294967296
  c0 : 0 ≤ c
  c1 : c < 4294967296
  u0 : 0 ≤ un
  u1 : un < yn1 * 4294967296 + yn0
  lo : Q * (yn1 * 4294967296 + yn0) ≤ un * 4294967296 + c
  hi : un * 4294967296 + c < (Q + 1) * (yn1 * 4294967296 + yn0)

theorem Dig.q_nonneg {yn1 yn0 un c Q : Int} (h : Dig yn1 yn0 un c Q) : 0 ≤ Q := by
  obtain ⟨a1, a2, a3, a4, a5, a6, a7, a8, a9, a10⟩ := h
  have hy : 0 < yn1 * 4294967296 + yn0 := by omega
  have : 0 < Q + 1 := by
    rcases Int.lt_or_le 0 (Q + 1) with h | h
    · exact h
    · have := Int.mul_le_mul_of_nonneg_right h (Int.le_of_lt hy)
      omega
  omega
theorem Dig.q_lt {yn1 yn0 un c Q : Int} (h : Dig yn1 yn0 un c Q) : Q < 4294967296 := by
  obtain ⟨a1, a2, a3, a4, a5, a6, a7, a8, a9, a10⟩ := h
  have hy : 0 < yn1 * 4294967296 + yn0 := by omega
  rcases Int.lt_or_le Q 4294967296 with h | h
  · exact h
  · have := Int.mul_le_mul_of_nonneg_right h (Int.le_of_lt hy)
    omega
theorem Dig.prod {yn1 yn0 un q r : Int} (e : q * yn1 + r = un) : q * (yn1 * 4294967296 + yn0) = (un - r) * 4294967296 + q * yn0 := by
  rw [Int.mul_add, ← Int.mul_assoc, ← e]
  omega
theorem Dig.stop {yn1 yn0 un c Q q r : Int} (h : Dig yn1 yn0 un c Q) (e : q * yn1 + r = un) (hc : q * yn0 ≤ 4294967296 * r + c) : q ≤ Q := by
  have hp := Dig.prod (yn0 := yn0) e
  have hy : 0 < yn1 * 4294967296 + yn0 := by have := h.y1; have := h.y0; omega
  have h1 : q * (yn1 * 4294967296 + yn0) < (Q + 1) * (yn1 * 4294967296 + yn0) := by have := h.hi; omega
  have := Int.lt_of_mul_lt_mul_right h1 (Int.le_of_lt hy)
  omega
theorem Dig.more {yn1 yn0 un c Q q r : Int} (h : Dig yn1 yn0 un c Q) (e : q * yn1 + r = un) (hc : 4294967296 * r + c < q * yn0) : Q < q := by
  have hp := Dig.prod (yn0 := yn0) e
  have hy : 0 < yn1 * 4294967296 + yn0 := by have := h.y1; have := h.y0; omega
  have h1 : Q * (yn1 * 4294967296 + yn0) < q * (yn1 * 4294967296 + yn0) := by have := h.lo; omega
  exact Int.lt_of_mul_lt_mul_right h1 (Int.le_of_lt hy)
theorem Dig.next {yn1 un q r : Int} (e : q * yn1 + r = un) : (q - 1) * yn1 + (r + yn1) = un := by
  rw [Int.sub_mul]; omega
/-- Behind a step down with a great rest the digit is found. -/
theorem Dig.last {yn1 yn0 un c Q q r : Int} (h : Dig yn1 yn0 un c Q) (e : q * yn1 + r = un) (hq : q ≤ 4294967296) (hq0 : 0 ≤ q) (hr : 4294967296 ≤ r) : q ≤ Q := by
  refine h.stop e ?_
  have h1 : q * yn0 ≤ 4294967296 * yn0 := Int.mul_le_mul_of_nonneg_right hq h.y0
  have := h.y0'
  have := h.c0
  omega
theorem mul_lt_sq {a b : Int} (h1 : 0 ≤ a) (h2 : a < 4294967296) (h3 : 0 ≤ b) (h4 : b < 4294967296) : 0 ≤ a * b ∧ a * b ≤ 18446744065119617025 := by
  refine ⟨Int.mul_nonneg h1 h3, ?_⟩
  have := Int.mul_le_mul (show a ≤ 4294967295 by omega) (show b ≤ 4294967295 by omega) h3 (by decide)
  omega

/-- The first digit's loop. -/
theorem first_digit {x2 x8 yn1 yn0 un c x14 Q : Int} {res : Int × Int} (h : Dig yn1 yn0 un c Q) (hj : Ev (fun k => bits_Div64.j2 k x2 x8 yn1 yn0 un c x14 Q) res) (n : Nat) :
    ∀ q r : Int, q - Q = n → q ≤ 4294967297 → q * yn1 + r = un → 0 ≤ r → r < 4294967296 → Ev (fun k => bits_Div64.l0 k x2 x8 yn1 yn0 un c x14 q r) res := by
  have y1 := h.y1
  have y1' := h.y1'
  have q0 := h.q_nonneg
  have q1 := h.q_lt
  have c0 := h.c0
  have c1 := h.c1
  induction n with
  | zero =>
    intro q r hn hq e r0 r1
    obtain rfl : q = Q := by omega
    obtain ⟨p0, p1⟩ := mul_lt_sq q0 q1 h.y0 h.y0'
    refine evShift ?_
    simp only [bits_Div64.l0]
    refine evNeg (by omega) ?_
    rw [w_id p0 (by omega), w_id (x := 4294967296 * r) (by omega) (by omega), w_id (x := 4294967296 * r + c) (by omega) (by omega)]
    have hno : decide (q * yn0 > 4294967296 * r + c) = false := by
      rw [decide_eq_false_iff_not]
      intro hh
      have := h.more e hh
      omega
    rw [hno]
    refine evShift ?_
    simp only [bits_Div64.j1]
    exact evNeg (by simp) hj
  | succ n ih =>
    intro q r hn hq e r0 r1
    have down : Ev (fun k => bits_Div64.j1 k x2 x8 yn1 yn0 un c x14 q r true) res := by
      refine evShift ?_
      simp only [bits_Div64.j1]
      refine evPos (by trivial) ?_
      rw [w_id (x := r + yn1) (by omega) (by omega), w_id (x := q - 1) (by omega) (by omega)]
      have e' := Dig.next e
      refine evIf (fun hr => ?_) (fun hr => ih (q - 1) (r + yn1) (by omega) (by omega) e' (by omega) (by omega))
      have hl := h.last e' (by omega) (by omega) hr
      obtain rfl : q - 1 = Q := by omega
      exact hj
    refine evShift ?_
    simp only [bits_Div64.l0]
    refine evIf (fun _ => down) (fun hlt => ?_)
    obtain ⟨p0, p1⟩ := mul_lt_sq (show 0 ≤ q by omega) (show q < 4294967296 by omega) h.y0 h.y0'
    rw [w_id p0 (by omega), w_id (x := 4294967296 * r) (by omega) (by omega), w_id (x := 4294967296 * r + c) (by omega) (by omega)]
    have hyes : decide (q * yn0 > 4294967296 * r + c) = true := by
      rw [decide_eq_true_iff]
      rcases Int.lt_or_le (4294967296 * r + c) (q * yn0) with hh | hh
      · exact hh
      · have := h.stop e hh
        omega
    rw [hyes]
    exact down

/-- The second digit's loop. -/
theorem second_digit {x2 x8 yn1 yn0 un c x15 Q : Int} {res : Int × Int} (h : Dig yn1 yn0 un c Q) (hs : 0 ≤ x8)
    (hres : (IntKind.u64.wrap ((IntKind.u64.wrap (x15 * 4294967296)) + Q), shr .u64 (IntKind.u64.wrap ((IntKind.u64.wrap ((IntKind.u64.wrap (un * 4294967296)) + c)) - (IntKind.u64.wrap (Q * x2)))) x8) = res) (n : Nat) :
    ∀ q r : Int, q - Q = n → q ≤ 4294967297 → q * yn1 + r = un → 0 ≤ r → r < 4294967296 → Ev (fun k => bits_Div64.l1 k x2 x8 yn1 yn0 c x15 r un q) res := by
  have y1 := h.y1
  have y1' := h.y1'
  have q0 := h.q_nonneg
  have q1 := h.q_lt
  have c0 := h.c0
  have c1 := h.c1
  induction n with
  | zero =>
    intro q r hn hq e r0 r1
    obtain rfl : q = Q := by omega
    obtain ⟨p0, p1⟩ := mul_lt_sq q0 q1 h.y0 h.y0'
    refine evShift ?_
    simp only [bits_Div64.l1]
    refine evNeg (by omega) ?_
    rw [w_id p0 (by omega), w_id (x := 4294967296 * r) (by omega) (by omega), w_id (x := 4294967296 * r + c) (by omega) (by omega)]
    have hno : decide (q * yn0 > 4294967296 * r + c) = false := by
      rw [decide_eq_false_iff_not]
      intro hh
      have := h.more e hh
      omega
    rw [hno]
    refine evShift ?_
    simp only [bits_Div64.j4]
    exact evNeg (by simp) (evPos hs (evNow (by rw [hres])))
  | succ n ih =>
    intro q r hn hq e r0 r1
    have down : Ev (fun k => bits_Div64.j4 k x2 x8 yn1 yn0 c x15 r un q true) res := by
      refine evShift ?_
      simp only [bits_Div64.j4]
      refine evPos (by trivial) ?_
      rw [w_id (x := r + yn1) (by omega) (by omega), w_id (x := q - 1) (by omega) (by omega)]
      have e' := Dig.next e
      refine evIf (fun hr => ?_) (fun hr => ih (q - 1) (r + yn1) (by omega) (by omega) e' (by omega) (by omega))
      have hl := h.last e' (by omega) (by omega) hr
      obtain rfl : q - 1 = Q := by omega
      exact evPos hs (evNow (by rw [hres]))
    refine evShift ?_
    simp only [bits_Div64.l1]
    refine evIf (fun _ => down) (fun hlt => ?_)
    obtain ⟨p0, p1⟩ := mul_lt_sq (show 0 ≤ q by omega) (show q < 4294967296 by omega) h.y0 h.y0'
    rw [w_id p0 (by omega), w_id (x := 4294967296 * r) (by omega) (by omega), w_id (x := 4294967296 * r + c) (by omega) (by omega)]
    have hyes : decide (q * yn0 > 4294967296 * r + c) = true := by
      rw [decide_eq_true_iff]
      rcases Int.lt_or_le (4294967296 * r + c) (q * yn0) with hh | hh
      · exact hh
      · have := h.stop e hh
        omega
    rw [hyes]
    exact down

end Go.Proofs.Ytakhjhiofmgpnaa.E
