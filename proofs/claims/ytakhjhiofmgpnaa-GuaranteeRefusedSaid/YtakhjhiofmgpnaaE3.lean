/- bits.Div64 and bits.Mul64 as printed: floor division of 128 bits, the product. -/
import Derived.Test.YtakhjhiofmgpnaaE2
namespace Go.Proofs.Ytakhjhiofmgpnaa.E
set_option linter.unusedVariables false
set_option linter.unusedSimpArgs false
open Go.RowKit Go.Proofs.YtakhjhiofmgpnaaW.PrintWords Go.Proofs.YtakhjhiofmgpnaaW.PrintLast Go.Proofs.YtakhjhiofmgpnaaW.PrintMore Go.Proofs.Ytakhjhiofmgpnaa.PA

/-- n bits. -/
def Bits (x : Int) (n : Nat) : Prop := x < 2 ^ n ∧ (n = 0 ∨ 2 ^ (n - 1) ≤ x)
def tabB : ByteArray := ⟨#[0, 1, 2, 2, 3, 3, 3, 3, 4, 4, 4, 4, 4, 4, 4, 4, 5, 5, 5, 5, 5, 5, 5, 5, 5, 5, 5, 5, 5, 5, 5, 5, 6, 6, 6, 6, 6, 6, 6, 6, 6, 6, 6, 6, 6, 6, 6, 6, 6, 6, 6, 6, 6, 6, 6, 6, 6, 6, 6, 6, 6, 6, 6, 6, 7, 7, 7, 7, 7, 7, 7, 7, 7, 7, 7, 7, 7, 7, 7, 7, 7, 7, 7, 7, 7, 7, 7, 7, 7, 7, 7, 7, 7, 7, 7, 7, 7, 7, 7, 7, 7, 7, 7, 7, 7, 7, 7, 7, 7, 7, 7, 7, 7, 7, 7, 7, 7, 7, 7, 7, 7, 7, 7, 7, 7, 7, 7, 7, 8, 8, 8, 8, 8, 8, 8, 8, 8, 8, 8, 8, 8, 8, 8, 8, 8, 8, 8, 8, 8, 8, 8, 8, 8, 8, 8, 8, 8, 8, 8, 8, 8, 8, 8, 8, 8, 8, 8, 8, 8, 8, 8, 8, 8, 8, 8, 8, 8, 8, 8, 8, 8, 8, 8, 8, 8, 8, 8, 8, 8, 8, 8, 8, 8, 8, 8, 8, 8, 8, 8, 8, 8, 8, 8, 8, 8, 8, 8, 8, 8, 8, 8, 8, 8, 8, 8, 8, 8, 8, 8, 8, 8, 8, 8, 8, 8, 8, 8, 8, 8, 8, 8, 8, 8, 8, 8, 8, 8, 8, 8, 8, 8, 8, 8, 8, 8, 8, 8, 8, 8, 8, 8, 8, 8, 8, 8, 8]⟩
theorem tab_all : ∀ i : Nat, i < 256 → ∃ n : Nat, bt tabB (i : Int) = n ∧ Bits i n ∧ n ≤ 8 := by
  have h : ∀ i : Fin 256, bt tabB ((i.val : Nat) : Int) = (((bt tabB ((i.val : Nat) : Int)).toNat : Nat) : Int) ∧ ((i.val : Nat) : Int) < 2 ^ (bt tabB ((i.val : Nat) : Int)).toNat ∧ ((bt tabB ((i.val : Nat) : Int)).toNat = 0 ∨ (2 : Int) ^ ((bt tabB ((i.val : Nat) : Int)).toNat - 1) ≤ ((i.val : Nat) : Int)) ∧ (bt tabB ((i.val : Nat) : Int)).toNat ≤ 8 := by decide +kernel
  intro i hi
  obtain ⟨h1, h2, h3, h4⟩ := h ⟨i, hi⟩
  exact ⟨_, h1, ⟨h2, h3⟩, h4⟩
theorem tab_at (i : Int) (h0 : 0 ≤ i) (h1 : i < 256) : ∃ n : Nat, bt tabB i = n ∧ Bits i n ∧ n ≤ 8 := by
  obtain ⟨j, rfl⟩ := Int.eq_ofNat_of_zero_le h0
  exact tab_all j (by omega)
theorem Bits.shift {x : Int} {n j : Nat} (h : Bits (x / 2 ^ j) n) (h1 : 1 ≤ x / 2 ^ j) : Bits x (n + j) := by
  obtain ⟨a, b⟩ := h
  have hp : (0 : Int) < 2 ^ j := Int.pow_pos (by decide)
  refine ⟨?_, .inr ?_⟩
  · rw [Int.pow_add]
    exact Int.lt_mul_of_ediv_lt hp a
  · rcases b with b | b
    · subst b
      simp at a
      omega
    · have hn : n ≠ 0 := by
        rintro rfl
        simp at a
        omega
      rw [show n + j - 1 = (n - 1) + j by omega, Int.pow_add]
      have := Int.mul_le_mul_of_nonneg_right b (Int.le_of_lt hp)
      have h2 := Int.ediv_mul_le x (Int.ne_of_gt hp)
      omega
set_option maxRecDepth 100000 in
theorem len_step (x c : Int) (k : Nat) : bits_Len64.j0 (k + 1) x c = (if x ≥ 65536 then (if (x / 65536) ≥ 256 then (if 0 ≤ (((x / 65536) / 256) % 256) then (if (((x / 65536) / 256) % 256) < 256 then (some (wrap64 ((wrap64 ((wrap64 (c + 16)) + 8)) + (wrap64 (bt tabB (((x / 65536) / 256) % 256)))))) else (none)) else (none)) else (if 0 ≤ ((x / 65536) % 256) then (if ((x / 65536) % 256) < 256 then (some (wrap64 ((wrap64 (c + 16)) + (wrap64 (bt tabB ((x / 65536) % 256)))))) else (none)) else (none))) else (if x ≥ 256 then (if 0 ≤ ((x / 256) % 256) then (if ((x / 256) % 256) < 256 then (some (wrap64 ((wrap64 (c + 8)) + (wrap64 (bt tabB ((x / 256) % 256)))))) else (none)) else (none)) else (if 0 ≤ ((x) % 256) then (if ((x) % 256) < 256 then (some (wrap64 (c + (wrap64 (bt tabB ((x) % 256)))))) else (none)) else (none)))) := rfl
theorem len_j0 (x c : Int) (h0 : 0 ≤ x) (h1 : x < 4294967296) (hc : 0 ≤ c) (hc1 : c ≤ 32) : ∃ n : Nat, Ev (fun k => bits_Len64.j0 k x c) (c + n) ∧ Bits x n ∧ n ≤ 32 := by
  have fin : ∀ (i : Int) (e : Int), 0 ≤ i → i < 256 → 0 ≤ e → e ≤ 100 → ∃ n : Nat, wrap64 (e + wrap64 (bt tabB i)) = e + n ∧ Bits i n ∧ n ≤ 8 := by
    intro i e a b e0 e1
    obtain ⟨n, q1, q2, q3⟩ := tab_at i a b
    exact ⟨n, by rw [q1, wrap64_id (x := (n : Int)) (by omega) (by omega), wrap64_id (by omega) (by omega)], q2, q3⟩
  have w1 : wrap64 (c + 16) = c + 16 := wrap64_id (by omega) (by omega)
  have w2 : wrap64 (c + 16 + 8) = c + 16 + 8 := wrap64_id (by omega) (by omega)
  have w3 : wrap64 (c + 8) = c + 8 := wrap64_id (by omega) (by omega)
  by_cases c1 : x ≥ 65536
  · by_cases c2 : x / 65536 ≥ 256
    · obtain ⟨n, q1, q2, q3⟩ := fin (x / 65536 / 256 % 256) (c + 16 + 8) (by omega) (by omega) (by omega) (by omega)
      refine ⟨n + 24, ?_, ?_, by omega⟩
      · refine evShift ?_
        simp only [len_step]
        refine evPos c1 (evPos c2 (evPos (by omega) (evPos (by omega) ?_)))
        exact evNow (by rw [w1, w2]; refine congrArg some (Eq.trans q1 ?_); push_cast; omega)
      · have e : x / 65536 / 256 % 256 = x / 2 ^ 24 := by omega
        rw [e] at q2
        exact q2.shift (by omega)
    · obtain ⟨n, q1, q2, q3⟩ := fin (x / 65536 % 256) (c + 16) (by omega) (by omega) (by omega) (by omega)
      refine ⟨n + 16, ?_, ?_, by omega⟩
      · refine evShift ?_
        simp only [len_step]
        refine evPos c1 (evNeg c2 (evPos (by omega) (evPos (by omega) ?_)))
        exact evNow (by rw [w1]; refine congrArg some (Eq.trans q1 ?_); push_cast; omega)
      · have e : x / 65536 % 256 = x / 2 ^ 16 := by omega
        rw [e] at q2
        exact q2.shift (by omega)
  · by_cases c2 : x ≥ 256
    · obtain ⟨n, q1, q2, q3⟩ := fin (x / 256 % 256) (c + 8) (by omega) (by omega) (by omega) (by omega)
      refine ⟨n + 8, ?_, ?_, by omega⟩
      · refine evShift ?_
        simp only [len_step]
        refine evNeg c1 (evPos c2 (evPos (by omega) (evPos (by omega) ?_)))
        exact evNow (by rw [w3]; refine congrArg some (Eq.trans q1 ?_); push_cast; omega)
      · have e : x / 256 % 256 = x / 2 ^ 8 := by omega
        rw [e] at q2
        exact q2.shift (by omega)
    · obtain ⟨n, q1, q2, q3⟩ := fin (x % 256) c (by omega) (by omega) (by omega) (by omega)
      refine ⟨n, ?_, ?_, by omega⟩
      · refine evShift ?_
        simp only [len_step]
        refine evNeg c1 (evNeg c2 (evPos (by omega) (evPos (by omega) ?_)))
        exact evNow (by refine congrArg some (Eq.trans q1 ?_); omega)
      · have e : x % 256 = x := by omega
        rw [e] at q2
        exact q2
theorem len_ev (x : Int) (h0 : 1 ≤ x) (h1 : x < 18446744073709551616) : ∃ n : Nat, Ev (fun k => bits_LeadingZeros64.f k x) (64 - n) ∧ x < 2 ^ n ∧ 2 ^ (n - 1) ≤ x ∧ 1 ≤ n ∧ n ≤ 64 := by
  have pack : ∀ n : Nat, Ev (fun k => bits_Len64.f k x) n → Bits x n → n ≤ 64 → Ev (fun k => bits_LeadingZeros64.f k x) (64 - n) ∧ x < 2 ^ n ∧ 2 ^ (n - 1) ≤ x ∧ 1 ≤ n ∧ n ≤ 64 := by
    intro n a b c
    have hn : n ≠ 0 := by
      rintro rfl
      have := b.1
      simp at this
      omega
    refine ⟨?_, b.1, ?_, by omega, c⟩
    · simp only [bits_LeadingZeros64.f]
      exact evBind a (evNow (by rw [wrap64_id (by omega) (by omega)]))
    · rcases b.2 with h | h
      · exact absurd h hn
      · exact h
  by_cases c : x ≥ 4294967296
  · obtain ⟨n, a, b, d⟩ := len_j0 (x / 4294967296) 32 (by omega) (by omega) (by omega) (by omega)
    refine ⟨n + 32, pack _ ?_ ?_ (by omega)⟩
    · simp only [bits_Len64.f]
      refine evPos c ?_
      have : ((n + 32 : Nat) : Int) = 32 + n := by push_cast; omega
      rw [this]
      exact a
    · exact Bits.shift (j := 32) b (by omega)
  · obtain ⟨n, a, b, d⟩ := len_j0 x 0 (by omega) (by omega) (by omega) (by omega)
    refine ⟨n, pack _ ?_ b (by omega)⟩
    simp only [bits_Len64.f]
    refine evNeg c ?_
    rw [show (n : Int) = 0 + n by omega]
    exact a

theorem and_low (x : Int) (h0 : 0 ≤ x) (h1 : x < 18446744073709551616) : Go.bits .and .u64 x 4294967295 = x % 4294967296 :=
  bits_mask .u64 64 (by decide) (fun n a b => w_id a (by simpa using b)) 32 (by decide) x h0 (by simpa using h1)

theorem mul64_some (a b : Int) (a0 : 0 ≤ a) (a1 : a < 18446744073709551616) (b0 : 0 ≤ b) (b1 : b < 18446744073709551616) :
    bits_Mul64.f a b = some (a * b / 18446744073709551616, a * b % 18446744073709551616) := by
  unfold bits_Mul64.f
  rw [and_low a a0 a1, and_low b b0 b1]
  have ha : a = (a / 4294967296) * 4294967296 + a % 4294967296 := by omega
  have ea0 : 0 ≤ a / 4294967296 := by omega
  have ea1 : a / 4294967296 < 4294967296 := by omega
  have fa0 : 0 ≤ a % 4294967296 := by omega
  have fa1 : a % 4294967296 < 4294967296 := by omega
  have hb : b = (b / 4294967296) * 4294967296 + b % 4294967296 := by omega
  have eb0 : 0 ≤ b / 4294967296 := by omega
  have eb1 : b / 4294967296 < 4294967296 := by omega
  have fb0 : 0 ≤ b % 4294967296 := by omega
  have fb1 : b % 4294967296 < 4294967296 := by omega
  have hab : a * b = (a / 4294967296) * (b / 4294967296) * 18446744073709551616 + (a / 4294967296) * (b % 4294967296) * 4294967296 + (a % 4294967296) * (b / 4294967296) * 4294967296 + (a % 4294967296) * (b % 4294967296) := by
    generalize a / 4294967296 = p at *
    generalize a % 4294967296 = q at *
    generalize b / 4294967296 = r at *
    generalize b % 4294967296 = s at *
    subst ha hb
    grind
  rw [hab]
  obtain ⟨w1, w2⟩ := mul_lt_sq ea0 ea1 eb0 eb1
  obtain ⟨x1, x2⟩ := mul_lt_sq ea0 ea1 fb0 fb1
  obtain ⟨y1, y2⟩ := mul_lt_sq fa0 fa1 eb0 eb1
  obtain ⟨z1, z2⟩ := mul_lt_sq fa0 fa1 fb0 fb1
  generalize (a / 4294967296) * (b / 4294967296) = W at *
  generalize (a / 4294967296) * (b % 4294967296) = X at *
  generalize (a % 4294967296) * (b / 4294967296) = Y at *
  generalize (a % 4294967296) * (b % 4294967296) = Z at *
  rw [w_id w1 (by omega), w_id x1 (by omega), w_id y1 (by omega), w_id z1 (by omega)]
  clear ha hb hab
  have hz : 0 ≤ Z / 4294967296 ∧ Z / 4294967296 ≤ 4294967294 := by omega
  have hT : 0 ≤ X + Z / 4294967296 ∧ X + Z / 4294967296 < 18446744073709551616 := by omega
  rw [w_id (x := X + Z / 4294967296) hT.1 hT.2]
  rw [and_low (X + Z / 4294967296) (by omega) (by omega)]
  rw [w_id (x := W + (X + Z / 4294967296) / 4294967296) (by omega) (by omega), w_id (x := (X + Z / 4294967296) % 4294967296 + Y) (by omega) (by omega)]
  rw [w_id (x := W + (X + Z / 4294967296) / 4294967296 + _) (by omega) (by omega)]
  rw [IntKind.wrap_u64]
  simp only [Option.some.injEq, Prod.mk.injEq]
  refine ⟨?_, trivial⟩
  clear w1 w2 x1 x2 y1 y2 hz hT
  obtain ⟨z1', z0, hz, hz0, hz1⟩ : ∃ z1' z0 : Int, Z = 4294967296 * z1' + z0 ∧ 0 ≤ z0 ∧ z0 < 4294967296 := ⟨Z / 4294967296, Z % 4294967296, by omega, by omega, by omega⟩
  have e1 : Z / 4294967296 = z1' := by omega
  rw [e1]
  obtain ⟨t1, t0, ht, ht0, ht1⟩ : ∃ t1 t0 : Int, X + z1' = 4294967296 * t1 + t0 ∧ 0 ≤ t0 ∧ t0 < 4294967296 := ⟨(X + z1') / 4294967296, (X + z1') % 4294967296, by omega, by omega, by omega⟩
  have e2 : (X + z1') / 4294967296 = t1 := by omega
  have e3 : (X + z1') % 4294967296 = t0 := by omega
  rw [e2, e3]
  obtain ⟨v1, v0, hv, hv0, hv1⟩ : ∃ v1 v0 : Int, t0 + Y = 4294967296 * v1 + v0 ∧ 0 ≤ v0 ∧ v0 < 4294967296 := ⟨(t0 + Y) / 4294967296, (t0 + Y) % 4294967296, by omega, by omega, by omega⟩
  have e4 : (t0 + Y) / 4294967296 = v1 := by omega
  rw [e4]
  have e5 : W * 18446744073709551616 + X * 4294967296 + Y * 4294967296 + Z = (W + t1 + v1) * 18446744073709551616 + (v0 * 4294967296 + z0) := by omega
  rw [e5]
  omega

end Go.Proofs.Ytakhjhiofmgpnaa.E
