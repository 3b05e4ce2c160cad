/- The law GuaranteeRequired in plain Lean: what is required is the least number that is not below the level's share. -/
import Derived.Test.YtakhjhiofmgpnaaE5
import Derived.Test.YtakhjhiofmgpnaaPBx4
namespace Go.Proofs.Ytakhjhiofmgpnaa.E
set_option linter.unusedVariables false
set_option linter.unusedSimpArgs false
open Go.RowKit Go.Proofs.YtakhjhiofmgpnaaW.PrintWords Go.Proofs.YtakhjhiofmgpnaaW.PrintLast Go.Proofs.YtakhjhiofmgpnaaW.PrintMore Go.Proofs.Ytakhjhiofmgpnaa.PA Go.Proofs.Ytakhjhiofmgpnaa.PB

theorem awake_ev : Ev (fun k => customslaw23_awake.f k) true :=
  Ev.of (fun k => customslaw23_awake.mono k) (show customslaw23_awake.f 300 = some true by decide +kernel)

/-- What an amount requires at a level: the share, rounded up. -/
def need (a lev : Int) : Int := (a * lev + 999999) / 1000000
theorem prod_range {a lev : Int} (a0 : 0 ≤ a) (a1 : a ≤ 1000000000000) (b0 : 0 ≤ lev) (b1 : lev ≤ 1000000) : 0 ≤ a * lev ∧ a * lev ≤ 1000000000000000000 := by
  have h1 := Int.mul_nonneg a0 b0
  have h2 := Int.mul_le_mul a1 b1 b0 (by omega : (0 : Int) ≤ 1000000000000)
  omega
theorem need_range {a lev : Int} (a0 : 0 ≤ a) (a1 : a ≤ 1000000000000) (b0 : 0 ≤ lev) (b1 : lev ≤ 1000000) : 0 ≤ need a lev ∧ need a lev ≤ 1000000000000 ∧ a * lev ≤ need a lev * 1000000 ∧ (need a lev - 1) * 1000000 < a * lev := by
  have := prod_range a0 a1 b0 b1
  unfold need
  omega
theorem rounded_up (p : Int) (p0 : 0 ≤ p) : rounded p 1000000 1 = (p + 999999) / 1000000 := by
  unfold rounded goesUp
  simp only [if_true, decide_eq_true_eq]
  split <;> omega
theorem within_in {a lo hi : Int} (h : lo ≤ a ∧ a ≤ hi) : guarantee_within_int.f a lo hi = some true := by
  unfold guarantee_within_int.f
  rw [if_pos (by omega)]
  simp [h.2]
theorem within_out {a lo hi : Int} (h : ¬ (lo ≤ a ∧ a ≤ hi)) : guarantee_within_int.f a lo hi = some false := by
  unfold guarantee_within_int.f
  by_cases h1 : a ≥ lo
  · rw [if_pos h1]
    simp
    omega
  · rw [if_neg h1]
theorem required_in (x0 x1 lev : Int) (l : List S39) (a : Int) (a0 : 0 ≤ a) (a1 : a ≤ 1000000000000) (b0 : 0 ≤ lev) (b1 : lev ≤ 1000000) : Ev (fun k => guarantee_Required.f k x0 x1 lev l a) (need a lev, 0) := by
  have hp := prod_range a0 a1 b0 b1
  have hn := need_range a0 a1 b0 b1
  have hr := rounded_up (a * lev) hp.1
  unfold guarantee_Required.f
  refine evBind0 (within_in ⟨b0, b1⟩) (evPos rfl (evBind0 (within_in ⟨a0, a1⟩) (evPos rfl ?_)))
  rw [w_id a0 (by omega), w_id b0 (by omega)]
  refine evBind (muldiv_ev a lev 1000000 1 a0 (by omega) b0 (by omega) (by omega) (by omega) (by omega) (by omega) (by rw [hr]; omega)) (evNow ?_)
  show some (wrap64 (rounded (a * lev) 1000000 1), (0 : Int)) = _
  rw [hr, wrap64_id (by omega) (by omega)]
  rfl
theorem required_out (x0 x1 lev : Int) (l : List S39) (a : Int) (h : ¬ ((0 ≤ lev ∧ lev ≤ 1000000) ∧ 0 ≤ a ∧ a ≤ 1000000000000)) : Ev (fun k => guarantee_Required.f k x0 x1 lev l a) (0, 2) := by
  unfold guarantee_Required.f
  by_cases h1 : 0 ≤ lev ∧ lev ≤ 1000000
  · refine evBind0 (within_in h1) (evPos rfl (evBind0 (within_out (fun h2 => h ⟨h1, h2⟩)) (evNeg (by simp) (evNow rfl))))
  · exact evBind0 (within_out h1) (evNeg (by simp) (evNow rfl))
theorem refrequired_in (x0 x1 lev : Int) (l : List S39) (a : Int) (a0 : 0 ≤ a) (a1 : a ≤ 1000000000000) (b0 : 0 ≤ lev) (b1 : lev ≤ 1000000) : customsref21_Required.f x0 x1 lev l a = some (need a lev, 0) := by
  have hp := prod_range a0 a1 b0 b1
  unfold customsref21_Required.f
  rw [if_neg (by omega), if_neg (by omega), if_neg (by omega), if_neg (by omega)]
  have e1 : wrap64 (a * lev) = a * lev := wrap64_id (by omega) (by omega)
  have e2 : wrap64 (a * lev + 1000000) = a * lev + 1000000 := wrap64_id (by omega) (by omega)
  have e3 : wrap64 (a * lev + 1000000 - 1) = a * lev + 999999 := by rw [wrap64_id (by omega) (by omega)]; omega
  rw [e1, e2, e3, Int.tdiv_eq_ediv_of_nonneg (by omega), wrap64_id (by omega) (by omega)]
  rfl
theorem refrequired_out (x0 x1 lev : Int) (l : List S39) (a : Int) (h : ¬ ((0 ≤ lev ∧ lev ≤ 1000000) ∧ 0 ≤ a ∧ a ≤ 1000000000000)) : customsref21_Required.f x0 x1 lev l a = some (0, 2) := by
  unfold customsref21_Required.f
  by_cases h1 : lev < 0
  · rw [if_pos h1]
  rw [if_neg h1]
  by_cases h2 : lev > 1000000
  · rw [if_pos h2]
  rw [if_neg h2]
  by_cases h3 : a < 0
  · rw [if_pos h3]
  rw [if_neg h3, if_pos (by omega)]

theorem req_j0 (a x0 x1 lev : Int) (l : List S39) : Ev (fun k => customslaw23_GuaranteeRequired.j0 k a x0 x1 lev l) true := by
  refine evShift ?_
  simp only [customslaw23_GuaranteeRequired.j0]
  by_cases h : (0 ≤ lev ∧ lev ≤ 1000000) ∧ 0 ≤ a ∧ a ≤ 1000000000000
  · obtain ⟨⟨b0, b1⟩, a0, a1⟩ := h
    have hp := prod_range a0 a1 b0 b1
    have hn := need_range a0 a1 b0 b1
    refine evBind (required_in x0 x1 lev l a a0 a1 b0 b1) (evBind0 (refrequired_in x0 x1 lev l a a0 a1 b0 b1) (evPos rfl (evPos rfl (evPos rfl ?_))))
    show Ev (fun k => if wrap64 (need a lev * 1000000) ≥ wrap64 (a * lev) then (if wrap64 (wrap64 (need a lev - 1) * 1000000) < wrap64 (a * lev) then _ else _) else _) true
    rw [wrap64_id (x := need a lev * 1000000) (by omega) (by omega), wrap64_id (x := a * lev) (by omega) (by omega), wrap64_id (x := need a lev - 1) (by omega) (by omega), wrap64_id (x := (need a lev - 1) * 1000000) (by omega) (by omega)]
    exact evPos hn.2.2.1 (evPos hn.2.2.2 (evBind awake_ev (evNow rfl)))
  · refine evBind (required_out x0 x1 lev l a h) (evBind0 (refrequired_out x0 x1 lev l a h) (evPos rfl (evPos rfl (evNeg (by decide) ?_))))
    exact evBind awake_ev (evNow rfl)

theorem required (x0 x1 x2 : Int) (l : List S39) (a1 : Int) (a2 : Bool) (w0 : (Lit.int .i64 x0).wf = true) (w1 : (Lit.int .i64 x1).wf = true) (w2 : (Lit.int .i64 x2).wf = true) (m : l.length ≤ maxLen) (w3 : ∀ u ∈ l, (Lit.int .i64 u.f0).wf = true ∧ (Lit.int .i64 u.f1).wf = true) (w4 : (Lit.int .i64 a1).wf = true) :
    ∃ k, customslaw23_GuaranteeRequired.f k x0 x1 x2 l a1 a2 = some true := by
  have h : Ev (fun k => customslaw23_GuaranteeRequired.f k x0 x1 x2 l a1 a2) true := by
    unfold customslaw23_GuaranteeRequired.f
    refine evIf (fun _ => req_j0 _ _ _ _ _) (fun _ => ?_)
    obtain ⟨r1, h1, _⟩ := within_some x2 1000001 (by omega) (by omega)
    obtain ⟨r2, h2, _⟩ := within_some a1 1000000000001 (by omega) (by omega)
    exact evBind0 h1 (evBind0 h2 (req_j0 _ _ _ _ _))
  exact h.rounds
end Go.Proofs.Ytakhjhiofmgpnaa.E
