/- The reference's long multiplication. -/
import Derived.Test.YtbhknenjcbinaaaDoorE5
import Derived.Test.YtbhknenjcbinaaaDoorPBx10
namespace Go.Proofs.YtbhknenjcbinaaaDoor.E
set_option linter.unusedVariables false
set_option linter.unusedSimpArgs false
open Go.RowKit Go.Proofs.YtbhknenjcbinaaaDoorW.PrintWords Go.Proofs.YtbhknenjcbinaaaDoorW.PrintLast Go.Proofs.YtbhknenjcbinaaaDoorW.PrintMore Go.Proofs.YtbhknenjcbinaaaDoor.PA Go.Proofs.YtbhknenjcbinaaaDoor.G Go.Proofs.YtbhknenjcbinaaaDoor.PB

/-- A bit. -/
theorem bit_at (b : Int) (i : Nat) (b0 : 0 ≤ b) (b1 : b < 9223372036854775808) (hi : i ≤ 60) : Go.bits .and .i64 (shr .i64 b (i : Int)) 1 = b / 2 ^ i % 2 := by
  have e : shr .i64 b (i : Int) = b / 2 ^ i := by
    unfold shr
    rw [show IntKind.i64.bits = 64 from rfl, Int.toNat_natCast, Nat.min_eq_left (by omega)]
  rw [e]
  have hp : (0 : Int) < 2 ^ i := Int.pow_pos (by decide)
  have x0 : 0 ≤ b / 2 ^ i := Int.ediv_nonneg b0 (Int.le_of_lt hp)
  have x1 : b / 2 ^ i ≤ b := Int.ediv_le_self _ b0
  have := bits_mask .i64 63 (by decide) (fun n p q => by rw [IntKind.wrap_i64]; have : n < 9223372036854775808 := by simpa using q
                                                         omega) 1 (by decide) (b / 2 ^ i) x0 (by have : b / 2 ^ i < 9223372036854775808 := by omega
                                                                                                 simpa using this)
  simpa using this

/-- The reference's loop: from bit i - 1 on. -/
theorem refmul_loop (b c h r0 : Int) (b0 : 0 ≤ b) (b1 : b < 2305843009213693952) (c0 : 0 < c) (c1 : c ≤ 2305843009213693952) (r00 : 0 ≤ r0) (r01 : r0 < c) (hh : 0 ≤ h) (hb : h + b < 9223372036854775808) (n : Nat) :
    n ≤ 61 → ∀ q s : Int, q * c + s = r0 * (b / 2 ^ n) → 0 ≤ s → s < c → 0 ≤ q → Ev (fun k => customsref21_MulDiv.l0 k b c h r0 q s ((n : Int) - 1)) (h + r0 * b / c) := by
  induction n with
  | zero =>
    intro hn q s e s0 s1 q0
    refine evShift ?_
    simp only [customsref21_MulDiv.l0]
    refine evNeg (by omega) (evNow ?_)
    simp at e
    have hq : r0 * b / c = q := by
      rw [← e, Int.add_comm, Int.add_mul_ediv_right _ _ (Int.ne_of_gt c0), Int.ediv_eq_zero_of_lt s0 s1, Int.zero_add]
    have hqb : q ≤ b := by
      rw [← hq]
      apply Int.ediv_le_of_le_mul c0
      rw [Int.mul_comm b]
      exact Int.mul_le_mul_of_nonneg_right (Int.le_of_lt r01) b0
    rw [hq, wrap64_id (by omega) (by omega)]
  | succ n ih =>
    intro hn q s e s0 s1 q0
    have hp : (0 : Int) < 2 ^ n := Int.pow_pos (by decide)
    have hbn : b / 2 ^ n = 2 * (b / 2 ^ (n + 1)) + b / 2 ^ n % 2 := by
      have e2 : b / 2 ^ (n + 1) = b / 2 ^ n / 2 := by rw [Int.pow_succ, Int.ediv_ediv_of_nonneg (Int.le_of_lt hp)]
      rw [e2]
      omega
    have x0 : 0 ≤ b / 2 ^ n := Int.ediv_nonneg b0 (Int.le_of_lt hp)
    have x1 : b / 2 ^ n ≤ b := Int.ediv_le_self _ b0
    -- the quotient is below what is multiplied
    have qb : ∀ q' s' B : Int, q' * c + s' = r0 * B → 0 ≤ s' → 0 ≤ B → q' ≤ B := by
      intro q' s' B e' s0' hB
      have h1 : r0 * B ≤ c * B := Int.mul_le_mul_of_nonneg_right (Int.le_of_lt r01) hB
      have h2 : q' * c ≤ B * c := by rw [Int.mul_comm B]; omega
      exact Int.le_of_mul_le_mul_right h2 c0
    have hq1 := qb q s _ e s0 (Int.ediv_nonneg b0 (Int.le_of_lt (Int.pow_pos (by decide))))
    have hn1 : ((n + 1 : Nat) : Int) - 1 = n := by omega
    rw [hn1]
    refine evShift ?_
    simp only [customsref21_MulDiv.l0]
    refine evPos (by omega) ?_
    have w1 : wrap64 (2 * s) = 2 * s := wrap64_id (by omega) (by omega)
    have w2 : wrap64 (2 * q) = 2 * q := wrap64_id (by omega) (by omega)
    have w3 : wrap64 (2 * q + 1) = 2 * q + 1 := wrap64_id (by omega) (by omega)
    rw [w1, w2, w3]
    -- behind the doubling
    have tail : ∀ q' s' : Int, q' * c + s' = r0 * (2 * (b / 2 ^ (n + 1))) → 0 ≤ s' → s' < c → 0 ≤ q' → Ev (fun k => customsref21_MulDiv.j1 k b c h r0 q' s' (n : Int)) (h + r0 * b / c) := by
      intro q' s' e' s0' s1' q0'
      have hq2 := qb q' s' _ e' s0' (by omega)
      refine evShift ?_
      simp only [customsref21_MulDiv.j1]
      refine evPos (by omega) ?_
      rw [bit_at b n b0 (by omega) (by omega)]
      have wn : wrap64 ((n : Int) - 1) = (n : Int) - 1 := wrap64_id (by omega) (by omega)
      have w4 : wrap64 (s' + r0) = s' + r0 := wrap64_id (by omega) (by omega)
      have w5 : wrap64 (s' + r0 - c) = s' + r0 - c := wrap64_id (by omega) (by omega)
      have w6 : wrap64 (q' + 1) = q' + 1 := wrap64_id (by omega) (by omega)
      rw [wn, w4, w5, w6]
      refine evIf (fun hbit => ?_) (fun hbit => ?_)
      · have e3 : r0 * (b / 2 ^ n) = q' * c + s' + r0 := by rw [hbn, hbit, Int.mul_add, ← e', Int.mul_one]
        refine evIf (fun hge => ?_) (fun hlt => ?_)
        · exact ih (by omega) (q' + 1) (s' + r0 - c) (by rw [e3, Int.add_mul, Int.one_mul]; omega) (by omega) (by omega) (by omega)
        · exact ih (by omega) q' (s' + r0) (by rw [e3]; omega) (by omega) (by omega) q0'
      · have e3 : r0 * (b / 2 ^ n) = q' * c + s' := by
          have : b / 2 ^ n % 2 = 0 := by omega
          rw [hbn, this, Int.add_zero, ← e']
        exact ih (by omega) q' s' e3.symm s0' s1' q0'
    have ed : r0 * (2 * (b / 2 ^ (n + 1))) = 2 * q * c + 2 * s := by
      rw [Int.mul_left_comm, ← e, Int.mul_add, Int.mul_assoc]
    refine evIf (fun hge => ?_) (fun hlt => ?_)
    · have w7 : wrap64 (2 * s - c) = 2 * s - c := wrap64_id (by omega) (by omega)
      rw [w7]
      exact tail (2 * q + 1) (2 * s - c) (by rw [ed, Int.add_mul, Int.one_mul]; omega) (by omega) (by omega) (by omega)
    · exact tail (2 * q) (2 * s) ed.symm (by omega) (by omega) (by omega)

theorem refmuldiv_ev (a b c : Int) (a0 : 0 ≤ a) (a1 : a < 9223372036854775808) (b0 : 0 ≤ b) (b1 : b < 2305843009213693952) (c0 : 0 < c) (c1 : c ≤ 2305843009213693952) (hb : a / c * b + b < 9223372036854775808) :
    Ev (fun k => customsref21_MulDiv.f k a b c) (a * b / c) := by
  have q0 : 0 ≤ a / c := Int.ediv_nonneg a0 (Int.le_of_lt c0)
  have q1 : a / c ≤ a := Int.ediv_le_self _ a0
  have p0 := Int.mul_nonneg q0 b0
  have r0 := Int.emod_nonneg a (Int.ne_of_gt c0)
  have r1 := Int.emod_lt_of_pos a c0
  simp only [customsref21_MulDiv.f]
  refine evNeg (by omega) ?_
  rw [Int.tdiv_eq_ediv_of_nonneg a0, Int.tmod_eq_emod_of_nonneg a0, wrap64_id (x := a / c) (by omega) (by omega), wrap64_id (x := a / c * b) (by omega) (by omega)]
  have hb61 : b / 2 ^ 61 = 0 := Int.ediv_eq_zero_of_lt b0 (by simpa using b1)
  have main := refmul_loop b c (a / c * b) (a % c) b0 b1 c0 c1 r0 r1 p0 hb 61 (by omega) 0 0 (by rw [hb61]; simp) (by omega) c0 (by omega)
  have e : a / c * b + a % c * b / c = a * b / c := by
    have h : a * b = a % c * b + a / c * b * c := by
      have := Int.ediv_mul_add_emod a c
      have h2 : (a / c * c + a % c) * b = a * b := by rw [this]
      rw [Int.add_mul, Int.mul_right_comm] at h2
      omega
    rw [h, Int.add_mul_ediv_right _ _ (Int.ne_of_gt c0), Int.add_comm]
  rw [e] at main
  exact main

end Go.Proofs.YtbhknenjcbinaaaDoor.E
