/- bits.Div64 as printed is floor division of 128 bits. -/
import Derived.Test.YtakhjhiofmgpnaaE3
namespace Go.Proofs.Ytakhjhiofmgpnaa.E
set_option linter.unusedVariables false
set_option linter.unusedSimpArgs false
open Go.RowKit Go.Proofs.YtakhjhiofmgpnaaW.PrintWords Go.Proofs.YtakhjhiofmgpnaaW.PrintLast Go.Proofs.YtakhjhiofmgpnaaW.PrintMore Go.Proofs.Ytakhjhiofmgpnaa.PA

theorem pow_pair (n : Nat) (h : n ≤ 64) : (2 : Int) ^ n * 2 ^ (64 - n) = 18446744073709551616 := by
  rw [← Int.pow_add, show n + (64 - n) = 64 by omega]
  decide
theorem or_join (x y : Int) (i : Nat) (hx0 : 0 ≤ x) (hx : x % 2 ^ i = 0) (hx1 : x < 18446744073709551616) (hy0 : 0 ≤ y) (hy : y < 2 ^ i) (hy1 : y < 18446744073709551616) : Go.bits .or .u64 x y = x + y :=
  bits_join .u64 64 (by decide) (fun n a b => w_id a (by simpa using b)) i x y hx0 hx (by simpa using hx1) hy0 hy (by simpa using hy1)
theorem digit {y1 y0 un c y : Int} (hy : y = y1 * 4294967296 + y0) (a1 : 2147483648 ≤ y1) (a2 : y1 < 4294967296) (a3 : 0 ≤ y0) (a4 : y0 < 4294967296) (c0 : 0 ≤ c) (c1 : c < 4294967296) (u0 : 0 ≤ un) (u1 : un < y) : Dig y1 y0 un c ((un * 4294967296 + c) / y) := by
  subst hy
  have hpos : 0 < y1 * 4294967296 + y0 := by omega
  refine ⟨a1, a2, a3, a4, c0, c1, u0, u1, Int.ediv_mul_le _ (Int.ne_of_gt hpos), ?_⟩
  have := Int.lt_ediv_add_one_mul_self (un * 4294967296 + c) hpos
  exact this
theorem first_q {y1 y0 un : Int} (a1 : 2147483648 ≤ y1) (a2 : y1 < 4294967296) (a4 : y0 < 4294967296) (u0 : 0 ≤ un) (u1 : un < y1 * 4294967296 + y0) : 0 ≤ un / y1 ∧ un / y1 ≤ 4294967297 ∧ un / y1 * y1 + un % y1 = un ∧ 0 ≤ un % y1 ∧ un % y1 < 4294967296 := by
  have hpos : 0 < y1 := by omega
  refine ⟨Int.ediv_nonneg u0 (Int.le_of_lt hpos), ?_, Int.ediv_mul_add_emod un y1, Int.emod_nonneg _ (Int.ne_of_gt hpos), Int.lt_trans (Int.emod_lt_of_pos _ hpos) a2⟩
  have : un / y1 < 4294967298 := by
    apply Int.ediv_lt_of_lt_mul hpos
    omega
  omega
theorem rem_word {un c y Q : Int} (hy0 : 0 < y) (hy1 : y < 18446744073709551616) (h0 : 0 ≤ un) (c0 : 0 ≤ c) (hQ : Q = (un * 4294967296 + c) / y) :
    IntKind.u64.wrap ((IntKind.u64.wrap ((IntKind.u64.wrap (un * 4294967296)) + c)) - (IntKind.u64.wrap (Q * y))) = (un * 4294967296 + c) % y := by
  have e := Int.ediv_mul_add_emod (un * 4294967296 + c) y
  rw [← hQ] at e
  have r0 := Int.emod_nonneg (un * 4294967296 + c) (Int.ne_of_gt hy0)
  have r1 := Int.emod_lt_of_pos (un * 4294967296 + c) hy0
  rw [IntKind.wrap_u64, IntKind.wrap_u64, IntKind.wrap_u64, IntKind.wrap_u64]
  generalize Q * y = z at *
  generalize (un * 4294967296 + c) % y = r at *
  omega

theorem emod_mul (a b : Int) {p : Int} (hp : 0 < p) : a * p % (b * p) = a % b * p := by
  rw [Int.mul_comm a, Int.mul_comm b, Int.mul_emod_mul_of_pos _ _ hp, Int.mul_comm]
theorem digit_le {yn1 yn0 un c Q : Int} (h : Dig yn1 yn0 un c Q) : Q ≤ un / yn1 := by
  obtain ⟨a1, a2, a3, a4, a5, a6, a7, a8, a9, a10⟩ := id h
  have q0 := h.q_nonneg
  apply Int.le_ediv_of_mul_le (by omega)
  have e : Q * (yn1 * 4294967296 + yn0) = Q * yn1 * 4294967296 + Q * yn0 := by rw [Int.mul_add, Int.mul_assoc]
  have p := Int.mul_nonneg q0 a3
  omega
theorem digit_q {yn1 yn0 un c Q : Int} (h : Dig yn1 yn0 un c Q) : IntKind.u64.wrap (Int.tdiv un yn1) = un / yn1 ∧ IntKind.u64.wrap (un - IntKind.u64.wrap (un / yn1 * yn1)) = un % yn1 ∧ (∃ m : Nat, un / yn1 - Q = m) ∧ un / yn1 ≤ 4294967297 ∧ un / yn1 * yn1 + un % yn1 = un ∧ 0 ≤ un % yn1 ∧ un % yn1 < 4294967296 := by
  obtain ⟨a1, a2, a3, a4, a5, a6, a7, a8, a9, a10⟩ := id h
  obtain ⟨f0, f1, f2, f3, f4⟩ := first_q a1 a2 a4 a7 a8
  have hl := digit_le h
  have p := Int.mul_nonneg f0 (show 0 ≤ yn1 by omega)
  have hb : yn1 * 4294967296 + yn0 < 18446744073709551616 := by omega
  refine ⟨?_, ?_, ⟨(un / yn1 - Q).toNat, by omega⟩, f1, f2, f3, f4⟩
  · rw [Int.tdiv_eq_ediv_of_nonneg a7, w_id f0 (by omega)]
  · rw [w_id (x := un / yn1 * yn1) p (by omega), w_id (by omega) (by omega)]
    omega

theorem div64_ev (hi lo y : Int) (h0 : 0 ≤ hi) (h1 : hi < y) (l0 : 0 ≤ lo) (l1 : lo < 18446744073709551616) (y1 : y < 18446744073709551616) :
    Ev (fun k => bits_Div64.f k hi lo y) ((hi * 18446744073709551616 + lo) / y, (hi * 18446744073709551616 + lo) % y) := by
  simp only [bits_Div64.f]
  refine evNeg (by omega) (evNeg (by omega) (evIf (fun h => ?_) (fun h => ?_)))
  · subst h
    have d0 : 0 ≤ lo / y := Int.ediv_nonneg l0 (by omega)
    have d1 : lo / y ≤ lo := Int.ediv_le_self _ l0
    refine evNow ?_
    rw [Int.tdiv_eq_ediv_of_nonneg l0, Int.tmod_eq_emod_of_nonneg l0, w_id d0 (by omega)]
    simp
  · obtain ⟨n, ln, n1, n2, n3, n4⟩ := len_ev y (by omega) y1
    have hs : IntKind.u64.wrap (64 - (n : Int)) = 64 - n := w_id (by omega) (by omega)
    have hs2 : IntKind.u64.wrap (64 - (64 - (n : Int))) = n := by rw [w_id (by omega) (by omega)]; omega
    refine evBind ln ?_
    rw [hs, hs2]
    refine evPos (by omega) (evPos (by omega) ?_)
    have hP : (0 : Int) < 2 ^ (64 - n) := Int.pow_pos (by decide)
    have hR : (0 : Int) < 2 ^ n := Int.pow_pos (by decide)
    have hPR := pow_pair n n4
    have e1 : (64 - (n : Int)).toNat = 64 - n := by omega
    have e2 : min (64 - n) 64 = 64 - n := by omega
    have e3 : min n 64 = n := by omega
    have sh : ∀ x, shl .u64 x (64 - (n : Int)) = (x * 2 ^ (64 - n)) % 18446744073709551616 := by
      intro x
      unfold shl
      rw [IntKind.wrap_u64, e1, show IntKind.u64.bits = 64 from rfl, e2]
    have sr : ∀ x, shr .u64 x (n : Int) = x / 2 ^ n := by
      intro x
      unfold shr
      rw [show IntKind.u64.bits = 64 from rfl, Int.toNat_natCast, e3]
    have sr2 : ∀ x, shr .u64 x (64 - (n : Int)) = x / 2 ^ (64 - n) := by
      intro x
      unfold shr
      rw [e1, show IntKind.u64.bits = 64 from rfl, e2]
    rw [sh y, sh hi, sh lo, sr lo]
    generalize hPd : (2 : Int) ^ (64 - n) = P at *
    -- the divisor, laid left
    have yP0 : 9223372036854775808 ≤ y * P := by
      have a := Int.mul_le_mul_of_nonneg_right n2 (Int.le_of_lt hP)
      have b : (2 : Int) ^ (n - 1) * P = 9223372036854775808 := by
        have c : (2 : Int) ^ n = 2 ^ (n - 1) * 2 := by
          obtain ⟨m, rfl⟩ : ∃ m, n = m + 1 := ⟨n - 1, by omega⟩
          rw [Int.pow_succ]; rfl
        rw [c, Int.mul_right_comm] at hPR
        omega
      omega
    have yP1 : y * P < 18446744073709551616 := by
      have a := Int.mul_lt_mul_of_pos_right n1 hP
      omega
    have hiP : hi * P + P ≤ y * P := by
      have a := Int.mul_le_mul_of_nonneg_right (show hi + 1 ≤ y by omega) (Int.le_of_lt hP)
      rw [Int.add_mul, Int.one_mul] at a
      exact a
    have hiP0 : 0 ≤ hi * P := Int.mul_nonneg h0 (Int.le_of_lt hP)
    have loR0 : 0 ≤ lo / 2 ^ n := Int.ediv_nonneg l0 (Int.le_of_lt hR)
    have loR1 : lo / 2 ^ n < P := by
      apply Int.ediv_lt_of_lt_mul hR
      rw [Int.mul_comm]
      omega
    have hm : lo * P = (lo / 2 ^ n) * 18446744073709551616 + (lo * P) % 18446744073709551616 := by
      have a : lo * P / 18446744073709551616 = lo / 2 ^ n := by
        rw [← hPR]
        exact Int.mul_ediv_mul_of_pos_left _ _ hP
      rw [← a]
      omega
    rw [show y * P % 18446744073709551616 = y * P from Int.emod_eq_of_lt (by omega) yP1, show hi * P % 18446744073709551616 = hi * P from Int.emod_eq_of_lt hiP0 (by omega)]
    have hor : Go.bits .or .u64 (hi * P) (lo / 2 ^ n) = hi * P + lo / 2 ^ n := by
      refine or_join _ _ (64 - n) hiP0 ?_ (by omega) loR0 (by omega) (by omega)
      rw [hPd]
      exact Int.mul_emod_left _ _
    rw [hor, and_low (y * P) (by omega) yP1, and_low (lo * P % 18446744073709551616) (by omega) (by omega)]
    have key : (hi * 18446744073709551616 + lo) * P = (hi * P + lo / 2 ^ n) * 18446744073709551616 + lo * P % 18446744073709551616 := by
      rw [Int.add_mul, Int.add_mul, Int.mul_right_comm]
      omega
    have hdiv : (hi * 18446744073709551616 + lo) / y = ((hi * P + lo / 2 ^ n) * 18446744073709551616 + lo * P % 18446744073709551616) / (y * P) := by
      rw [← key]
      exact (Int.mul_ediv_mul_of_pos_left _ _ hP).symm
    have hmod : (hi * 18446744073709551616 + lo) % y = ((hi * P + lo / 2 ^ n) * 18446744073709551616 + lo * P % 18446744073709551616) % (y * P) / P := by
      rw [← key, emod_mul _ _ hP, Int.mul_ediv_cancel _ (Int.ne_of_gt hP)]
    rw [hdiv, hmod]
    generalize hun : hi * P + lo / 2 ^ n = un at *
    generalize hul : lo * P % 18446744073709551616 = ul at *
    have ul0 : 0 ≤ ul := by omega
    have ul1 : ul < 18446744073709551616 := by omega
    have un0 : 0 ≤ un := by omega
    have un1 : un < y * P := by omega
    generalize hY : y * P = Y at *
    clear hm key hdiv hmod hiP hiP0 loR0 loR1 hor sh sr hul hun e1 e2 e3 n1 n2 hY hs hs2
    have hY : Y = Y / 4294967296 * 4294967296 + Y % 4294967296 := by omega
    have a1 : 2147483648 ≤ Y / 4294967296 := by omega
    have a2 : Y / 4294967296 < 4294967296 := by omega
    have a3 : 0 ≤ Y % 4294967296 := by omega
    have a4 : Y % 4294967296 < 4294967296 := by omega
    have c0 : 0 ≤ ul / 4294967296 := by omega
    have c1 : ul / 4294967296 < 4294967296 := by omega
    have d0 : 0 ≤ ul % 4294967296 := by omega
    have d1 : ul % 4294967296 < 4294967296 := by omega
    refine evNeg (by omega) ?_
    have D1 := digit hY a1 a2 a3 a4 c0 c1 un0 un1
    have Y0 : 0 < Y := by omega
    have hQ1 : (un * 4294967296 + ul / 4294967296) / Y = (un * 4294967296 + ul / 4294967296) / Y := rfl
    have R1 := rem_word (c := ul / 4294967296) Y0 yP1 un0 c0 hQ1
    have r0 := Int.emod_nonneg (un * 4294967296 + ul / 4294967296) (Int.ne_of_gt Y0)
    have r1 := Int.emod_lt_of_pos (un * 4294967296 + ul / 4294967296) Y0
    have eq1 := Int.ediv_mul_add_emod (un * 4294967296 + ul / 4294967296) Y
    have D2 := digit hY a1 a2 a3 a4 d0 d1 r0 r1
    obtain ⟨g1, g2, ⟨m, g3⟩, g4, g5, g6, g7⟩ := digit_q D1
    obtain ⟨k1, k2, ⟨m2, k3⟩, k4, k5, k6, k7⟩ := digit_q D2
    have R2 := rem_word (c := ul % 4294967296) Y0 yP1 r0 d0 rfl
    have q10 := D1.q_nonneg
    have q11 := D1.q_lt
    have q20 := D2.q_nonneg
    have q21 := D2.q_lt
    rw [g1, g2]
    refine first_digit D1 ?_ m _ _ g3 g4 g5 g6 g7
    refine evShift ?_
    simp only [bits_Div64.j2]
    refine evNeg (by omega) ?_
    rw [R1, k1, k2]
    refine second_digit D2 (by omega) ?_ m2 _ _ k3 k4 k5 k6 k7
    rw [R2, sr2]
    generalize hq1 : (un * 4294967296 + ul / 4294967296) / Y = q1 at *
    generalize hr1 : (un * 4294967296 + ul / 4294967296) % Y = ρ at *
    have eq2 := Int.ediv_mul_add_emod (ρ * 4294967296 + ul % 4294967296) Y
    have s0 := Int.emod_nonneg (ρ * 4294967296 + ul % 4294967296) (Int.ne_of_gt Y0)
    have s1 := Int.emod_lt_of_pos (ρ * 4294967296 + ul % 4294967296) Y0
    generalize hq2 : (ρ * 4294967296 + ul % 4294967296) / Y = q2 at *
    generalize hr2 : (ρ * 4294967296 + ul % 4294967296) % Y = σ at *
    rw [w_id (x := q1 * 4294967296) (by omega) (by omega), w_id (by omega) (by omega)]
    have all : un * 18446744073709551616 + ul = σ + (q1 * 4294967296 + q2) * Y := by
      rw [Int.add_mul, Int.mul_right_comm]
      omega
    rw [all, Int.add_mul_ediv_right _ _ (Int.ne_of_gt Y0), Int.add_mul_emod_self_right, Int.ediv_eq_zero_of_lt s0 s1, Int.emod_eq_of_lt s0 s1, Int.zero_add]

end Go.Proofs.Ytakhjhiofmgpnaa.E
