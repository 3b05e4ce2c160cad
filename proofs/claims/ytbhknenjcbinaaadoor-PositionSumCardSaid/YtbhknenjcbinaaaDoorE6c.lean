/- The pure statement of PositionSum. -/
import Derived.Test.YtbhknenjcbinaaaDoorE6b
import Derived.Test.YtbhknenjcbinaaaDoorPBx7
namespace Go.Proofs.YtbhknenjcbinaaaDoor.E
set_option linter.unusedVariables false
set_option linter.unusedSimpArgs false
open Go.RowKit Go.Proofs.YtbhknenjcbinaaaDoorW.PrintWords Go.Proofs.YtbhknenjcbinaaaDoorW.PrintLast Go.Proofs.YtbhknenjcbinaaaDoorW.PrintMore Go.Proofs.YtbhknenjcbinaaaDoor.PA Go.Proofs.YtbhknenjcbinaaaDoor.G Go.Proofs.YtbhknenjcbinaaaDoor.PB

theorem PositionSum (a0 a1 a2 : Int) : ∃ k, customslaw28_PositionSum.f k a0 a1 a2 = some true := by
  obtain ⟨x0, e0, l0, u0⟩ := within_some a0 13 (by decide) (by decide)
  obtain ⟨d, e1, d0, d1⟩ := within_some a1 64000000000001 (by decide) (by decide)
  obtain ⟨r, e2, r0, r1⟩ := within_some a2 1000000000001 (by decide) (by decide)
  refine Ev.rounds (g := fun k => customslaw28_PositionSum.f k a0 a1 a2) ?_
  unfold customslaw28_PositionSum.f
  refine evBind0 e0 (evBind0 e1 (evBind0 e2 ?_))
  rw [wrap64_id (x := 1 + x0) (by omega) (by omega)]
  obtain ⟨p, hp⟩ : ∃ p, 1 + x0 = p := ⟨_, rfl⟩
  rw [hp]
  have h1 : 1 ≤ p := by omega
  have h2 : p ≤ 13 := by omega
  refine evBind0 (of_in p d r h1 h2 d0 (by omega) r0 (by omega)) ?_
  have last : ∀ o s x m : Int, (p = 2 → s ≤ r ∧ x = 0 ∧ m = 0) → (¬ p = 2 → o = d ∨ s = d ∨ x = d ∨ m = d) → 0 ≤ o → 0 ≤ s → 0 ≤ x → 0 ≤ m → o + s + x + m = d → ∀ b : Bool, b = (wrap64 (wrap64 (wrap64 (o + s) + x) + m) != d) → Ev (fun k => customslaw28_PositionSum.j0 k p d r b o s x m) true := by
    intro o s x m q1 q2 o0 s0 x0 m0 sum b hb
    rw [wrap64_id (x := o + s) (by omega) (by omega), wrap64_id (x := o + s + x) (by omega) (by omega), wrap64_id (x := o + s + x + m) (by omega) (by omega), sum] at hb
    have hb2 : b = false := by rw [hb]; simp
    subst hb2
    refine evShift ?_
    simp only [customslaw28_PositionSum.j0]
    refine evNeg (by simp) (evIf (fun e => ?_) (fun e => ?_))
    · obtain ⟨z1, z2, z3⟩ := q1 e
      exact evPos z1 (evPos z2 (evPos z3 (evBind awake_ev (evNow rfl))))
    · refine evIf (fun _ => evBind awake_ev (evNow rfl)) fun n1 => evIf (fun _ => evBind awake_ev (evNow rfl)) fun n2 => evIf (fun _ => evBind awake_ev (evNow rfl)) fun n3 => evPos ?_ (evBind awake_ev (evNow rfl))
      rcases q2 e with h | h | h | h
      · exact absurd h n1
      · exact absurd h n2
      · exact absurd h n3
      · exact h
  have fin : ∀ o s x m : Int, (p = 2 → s ≤ r ∧ x = 0 ∧ m = 0) → (¬ p = 2 → o = d ∨ s = d ∨ x = d ∨ m = d) → 0 ≤ o → 0 ≤ s → 0 ≤ x → 0 ≤ m → o + s + x + m = d → ∀ t : Int × Int × Int × Int × Int, t = (o, s, x, m, 0) →
      Ev (fun k => if t.2.2.2.2 = 0 then (if t.1 < 0 then (customslaw28_PositionSum.j0 k p d r true t.1 t.2.1 t.2.2.1 t.2.2.2.1) else (if t.2.1 < 0 then (customslaw28_PositionSum.j0 k p d r true t.1 t.2.1 t.2.2.1 t.2.2.2.1) else (if t.2.2.1 < 0 then (customslaw28_PositionSum.j0 k p d r true t.1 t.2.1 t.2.2.1 t.2.2.2.1) else (if t.2.2.2.1 < 0 then (customslaw28_PositionSum.j0 k p d r true t.1 t.2.1 t.2.2.1 t.2.2.2.1) else (customslaw28_PositionSum.j0 k p d r ((wrap64 ((wrap64 ((wrap64 (t.1 + t.2.1)) + t.2.2.1)) + t.2.2.2.1)) != d) t.1 t.2.1 t.2.2.1 t.2.2.2.1))))) else (customslaw28_PositionSum.j0 k p d r true t.1 t.2.1 t.2.2.1 t.2.2.2.1)) true := by
    intro o s x m q1 q2 o0 s0 x0 m0 sum t ht
    subst ht
    refine evPos rfl ?_
    dsimp only
    exact evNeg (by omega) (evNeg (by omega) (evNeg (by omega) (evNeg (by omega) (last o s x m q1 q2 o0 s0 x0 m0 sum _ rfl))))
  rcases cls_range p h1 h2 with e | e | e | e
  · have hm := mn_le d r
    have h0 : 0 ≤ sec p d r ∧ sec p d r ≤ d ∧ (p = 2 → sec p d r ≤ r) ∧ (¬ p = 2 → sec p d r = d) := by
      unfold sec
      split <;> omega
    exact fin (d - sec p d r) (sec p d r) 0 0 (fun q => ⟨h0.2.2.1 q, rfl, rfl⟩) (fun q => .inr (.inl (h0.2.2.2 q))) (by omega) h0.1 (by omega) (by omega) (by omega) _ (by rw [if_pos e])
  · exact fin d 0 0 0 (fun q => absurd (show cls p = 1 by rw [q]; rfl) (by omega)) (fun q => .inl rfl) d0 (by omega) (by omega) (by omega) (by omega) _ (by rw [if_neg (by omega), if_neg (by omega), if_neg (by omega)])
  · exact fin 0 0 d 0 (fun q => absurd (show cls p = 1 by rw [q]; rfl) (by omega)) (fun q => .inr (.inr (.inl rfl))) (by omega) (by omega) d0 (by omega) (by omega) _ (by rw [if_neg (by omega), if_pos e])
  · exact fin 0 0 0 d (fun q => absurd (show cls p = 1 by rw [q]; rfl) (by omega)) (fun q => .inr (.inr (.inr rfl))) (by omega) (by omega) (by omega) d0 (by omega) _ (by rw [if_neg (by omega), if_neg (by omega), if_pos e])

end Go.Proofs.YtbhknenjcbinaaaDoor.E
