/- The pure statement of PositionInterest. -/
import Derived.Test.YtbhknenjcbinaaaDoorE5b
namespace Go.Proofs.YtbhknenjcbinaaaDoor.E
set_option linter.unusedVariables false
set_option linter.unusedSimpArgs false
open Go.RowKit Go.Proofs.YtbhknenjcbinaaaDoorW.PrintWords Go.Proofs.YtbhknenjcbinaaaDoorW.PrintLast Go.Proofs.YtbhknenjcbinaaaDoorW.PrintMore Go.Proofs.YtbhknenjcbinaaaDoor.PA Go.Proofs.YtbhknenjcbinaaaDoor.G Go.Proofs.YtbhknenjcbinaaaDoor.PB

/-- The interest. -/
def interest (a r d : Int) : Int := a * r * d / 365000000
theorem interest_bd (a r d : Int) (a0 : 0 ≤ a) (a1 : a ≤ 1000000000000) (r0 : 0 ≤ r) (r1 : r ≤ 1000000) (d0 : 0 ≤ d) (d1 : d ≤ 36524) : 0 ≤ a * r ∧ a * r ≤ 1000000000000000000 ∧ 0 ≤ r * d ∧ r * d ≤ 36524000000 ∧ 0 ≤ a * r * d ∧ a * r * d ≤ 36524000000000000000000 ∧ 0 ≤ interest a r d ∧ interest a r d ≤ 100065753424658 := by
  have p1 := Int.mul_nonneg a0 r0
  have p2 := Int.mul_le_mul a1 r1 r0 (by decide)
  have p3 := Int.mul_nonneg r0 d0
  have p4 := Int.mul_le_mul r1 d1 d0 (by decide)
  have p5 := Int.mul_nonneg p1 d0
  have p6 := Int.mul_le_mul p2 d1 d0 (by decide)
  unfold interest
  generalize a * r * d = z at *
  generalize a * r = x at *
  generalize r * d = y at *
  omega
theorem int_ev (a r f t : Int) : ∃ v, Ev (fun k => position_Interest.f k a r f t) v ∧ Ev (fun k => customsref27_Interest.f k a r f t) v ∧ (0 ≤ a → a ≤ 1000000000000 → 0 ≤ r → r ≤ 1000000 → 0 ≤ f → f ≤ t → t ≤ 36524 → v = (interest a r (t - f), 0)) := by
  simp only [position_Interest.f, customsref27_Interest.f]
  by_cases c : 0 ≤ a ∧ a ≤ 1000000000000 ∧ 0 ≤ r ∧ r ≤ 1000000 ∧ 0 ≤ f ∧ f ≤ t ∧ t ≤ 36524
  · obtain ⟨c1, c2, c3, c4, c5, c6, c7⟩ := c
    obtain ⟨b1, b2, b3, b4, b5, b6, b7, b8⟩ := interest_bd a r (t - f) c1 c2 c3 c4 (by omega) (by omega)
    refine ⟨(interest a r (t - f), 0), ?_, ?_, fun _ _ _ _ _ _ _ => rfl⟩
    · refine evNeg (by omega) (evNeg (by omega) (evNeg (by omega) (evNeg (by omega) (evNeg (by omega) (evNeg (by omega) (evNeg (by omega) ?_))))))
      rw [wrap64_id (x := a * r) (by omega) (by omega), wrap64_id (x := t - f) (by omega) (by omega), w_id (x := a * r) (by omega) (by omega), w_id (x := t - f) (by omega) (by omega)]
      have h := muldiv_ev (a * r) (t - f) 365000000 0 b1 (by omega) (by omega) (by omega) (by decide) (by decide) (by decide) (by decide) (by rw [rounded_down]; unfold interest at b8; omega)
      rw [rounded_down] at h
      refine evBind h (evNow ?_)
      unfold interest at b7 b8 ⊢
      rw [wrap64_id (by omega) (by omega)]
    · refine evNeg (by omega) (evNeg (by omega) (evNeg (by omega) (evNeg (by omega) (evNeg (by omega) (evNeg (by omega) (evNeg (by omega) ?_))))))
      rw [wrap64_id (x := t - f) (by omega) (by omega), wrap64_id (x := r * (t - f)) (by omega) (by omega)]
      have hc : 0 ≤ a / 365000000 ∧ a / 365000000 ≤ 2740 := by omega
      have hm := Int.mul_le_mul hc.2 b4 b3 (by decide)
      have h := refmuldiv_ev a (r * (t - f)) 365000000 c1 (by omega) b3 (by omega) (by decide) (by decide) (by omega)
      rw [← Int.mul_assoc] at h
      exact evBind h (evNow rfl)
  · refine ⟨(0, 2), ?_, ?_, fun h1 h2 h3 h4 h5 h6 h7 => absurd ⟨h1, h2, h3, h4, h5, h6, h7⟩ c⟩
    · refine evIf (fun _ => evNow rfl) fun n1 => evIf (fun _ => evNow rfl) fun n2 => evIf (fun _ => evNow rfl) fun n3 => evIf (fun _ => evNow rfl) fun n4 => evIf (fun _ => evNow rfl) fun n5 => evIf (fun _ => evNow rfl) fun n6 => evPos (by omega) (evNow rfl)
    · refine evIf (fun _ => evNow rfl) fun n1 => evIf (fun _ => evNow rfl) fun n2 => evIf (fun _ => evNow rfl) fun n3 => evIf (fun _ => evNow rfl) fun n4 => evIf (fun _ => evNow rfl) fun n5 => evIf (fun _ => evNow rfl) fun n6 => evPos (by omega) (evNow rfl)

theorem PositionInterest (a0 a1 a2 a3 a4 : Int) (a5 : Bool) : ∃ k, customslaw28_PositionInterest.f k a0 a1 a2 a3 a4 a5 = some true := by
  -- from the comparison with the reference on
  have core : ∀ a r f t m : Int, (a5 = true ∨ (0 ≤ a ∧ a ≤ 1000000000000 ∧ 0 ≤ r ∧ r ≤ 1000000 ∧ 0 ≤ f ∧ f ≤ m ∧ m ≤ t ∧ t ≤ 36524)) → Ev (fun k => customslaw28_PositionInterest.j0 k a r f t m a5) true := by
    intro a r f t m h
    refine evShift ?_
    simp only [customslaw28_PositionInterest.j0]
    obtain ⟨v, e1, e2, e3⟩ := int_ev a r f t
    refine evBind e1 (evBind e2 (evPos rfl ?_))
    have : (v.2 != v.2) = false := by simp
    rw [this]
    refine evShift ?_
    simp only [customslaw28_PositionInterest.j1]
    refine evNeg (by simp) (evIf (fun _ => evBind awake_ev (evNow rfl)) (fun h5 => ?_))
    rcases h with h | ⟨h1, h2, h3, h4, h6, h7, h8, h9⟩
    · exact absurd h h5
    · obtain ⟨v1, p1, _, p3⟩ := int_ev a r f m
      obtain ⟨v2, q1, _, q3⟩ := int_ev a r m t
      have E := e3 h1 h2 h3 h4 h6 (by omega) h9
      have P := p3 h1 h2 h3 h4 h6 h7 (by omega)
      have Q := q3 h1 h2 h3 h4 (by omega) h8 h9
      subst E P Q
      obtain ⟨_, _, _, _, b5, _, b7, b8⟩ := interest_bd a r (m - f) h1 h2 h3 h4 (by omega) (by omega)
      obtain ⟨_, _, _, _, c5, _, c7, c8⟩ := interest_bd a r (t - m) h1 h2 h3 h4 (by omega) (by omega)
      have es : a * r * (t - f) = a * r * (m - f) + a * r * (t - m) := by rw [← Int.mul_add]; congr 1; omega
      have key : interest a r (m - f) + interest a r (t - m) ≤ interest a r (t - f) ∧ interest a r (t - f) ≤ interest a r (m - f) + interest a r (t - m) + 1 := by
        unfold interest
        rw [es]
        generalize a * r * (m - f) = x at *
        generalize a * r * (t - m) = y at *
        omega
      refine evBind p1 (evBind q1 (evPos rfl (evPos rfl (evPos rfl ?_))))
      dsimp only
      rw [wrap64_id (x := interest a r (m - f) + interest a r (t - m)) (by omega) (by omega), wrap64_id (x := interest a r (m - f) + interest a r (t - m) + 1) (by omega) (by omega)]
      exact evPos key.1 (evPos key.2 (evBind awake_ev (evNow rfl)))
  refine Ev.rounds (g := fun k => customslaw28_PositionInterest.f k a0 a1 a2 a3 a4 a5) ?_
  unfold customslaw28_PositionInterest.f
  refine evIf (fun h => core _ _ _ _ _ (.inl h)) (fun _ => ?_)
  obtain ⟨x0, e0, l0, u0⟩ := within_some a0 1000000000001 (by decide) (by decide)
  obtain ⟨x1, e1, l1, u1⟩ := within_some a1 1000001 (by decide) (by decide)
  obtain ⟨x2, e2, l2, u2⟩ := within_some a2 30000 (by decide) (by decide)
  obtain ⟨x3, e3, l3, u3⟩ := within_some a3 6000 (by decide) (by decide)
  have ew : wrap64 (wrap64 (wrap64 (x2 + x3) - x2) + 1) = x3 + 1 := by
    rw [wrap64_id (x := x2 + x3) (by omega) (by omega), wrap64_id (x := x2 + x3 - x2) (by omega) (by omega), wrap64_id (by omega) (by omega)]
    omega
  obtain ⟨x4, e4, l4, u4⟩ := within_some a4 (x3 + 1) (by omega) (by omega)
  refine evBind0 e0 (evBind0 e1 (evBind0 e2 (evBind0 e3 ?_)))
  rw [ew]
  refine evBind0 e4 ?_
  rw [wrap64_id (x := x2 + x3) (by omega) (by omega), wrap64_id (x := x2 + x4) (by omega) (by omega)]
  exact core _ _ _ _ _ (.inr ⟨l0, by omega, l1, by omega, l2, by omega, by omega, by omega⟩)

end Go.Proofs.YtbhknenjcbinaaaDoor.E
