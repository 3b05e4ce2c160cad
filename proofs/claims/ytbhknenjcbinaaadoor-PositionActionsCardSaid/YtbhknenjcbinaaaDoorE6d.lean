/- The pure statement of PositionActions. -/
import Derived.Test.YtbhknenjcbinaaaDoorE6b
import Derived.Test.YtbhknenjcbinaaaDoorPBx11
namespace Go.Proofs.YtbhknenjcbinaaaDoor.E
set_option linter.unusedVariables false
set_option linter.unusedSimpArgs false
open Go.RowKit Go.Proofs.YtbhknenjcbinaaaDoorW.PrintWords Go.Proofs.YtbhknenjcbinaaaDoorW.PrintLast Go.Proofs.YtbhknenjcbinaaaDoorW.PrintMore Go.Proofs.YtbhknenjcbinaaaDoor.PA Go.Proofs.YtbhknenjcbinaaaDoor.G Go.Proofs.YtbhknenjcbinaaaDoor.PB

/-- The table of transitions, looked at: from a procedure that owes it leads to one that owes. -/
theorem table (p a : Int) (h1 : 1 ≤ p) (h2 : p ≤ 13) (h3 : 1 ≤ a) (h4 : a ≤ 14) : fnd p a trans = -1 ∨ p = 2 ∨ fnd p a trans = 2 ∨ (1 ≤ fnd p a trans ∧ fnd p a trans ≤ 13 ∧ (cls p = 2 → cls (fnd p a trans) = 2)) := by
  have h : ∀ x : Fin 13, ∀ y : Fin 14, fnd (((x.val : Nat) : Int) + 1) (((y.val : Nat) : Int) + 1) trans = -1 ∨ (((x.val : Nat) : Int) + 1) = 2 ∨ fnd (((x.val : Nat) : Int) + 1) (((y.val : Nat) : Int) + 1) trans = 2 ∨ (1 ≤ fnd (((x.val : Nat) : Int) + 1) (((y.val : Nat) : Int) + 1) trans ∧ fnd (((x.val : Nat) : Int) + 1) (((y.val : Nat) : Int) + 1) trans ≤ 13 ∧ (cls (((x.val : Nat) : Int) + 1) = 2 → cls (fnd (((x.val : Nat) : Int) + 1) (((y.val : Nat) : Int) + 1) trans) = 2)) := by decide +kernel
  have := h ⟨(p - 1).toNat, by omega⟩ ⟨(a - 1).toNat, by omega⟩
  have e1 : (((p - 1).toNat : Nat) : Int) + 1 = p := by omega
  have e2 : (((a - 1).toNat : Nat) : Int) + 1 = a := by omega
  simp only [e1, e2] at this
  exact this
theorem next_ev (p a : Int) (h1 : 1 ≤ p) (h2 : p ≤ 13) (h3 : 1 ≤ a) (h4 : a ≤ 14) : Ev (fun k => procedure_Next.f k p a) (if fnd p a trans = -1 then (0, 17) else (fnd p a trans, 0)) := by
  simp only [procedure_Next.f]
  refine evNeg (by omega) (evNeg (by omega) (evNeg (by omega) ?_))
  have e : decide (a > 14) = false := by simp; omega
  rw [e]
  refine evShift ?_
  simp only [procedure_Next.j0]
  refine evNeg (by simp) (evBind0 (show procedure_target.f p a = some (fnd p a trans) from rfl) ?_)
  refine evIf (fun h => ?_) (fun h => ?_)
  · exact evNow (by rw [if_pos h])
  · exact evNow (by rw [if_neg h])
theorem of_class (p d : Int) (h1 : 1 ≤ p) (h2 : p ≤ 13) (hp : ¬ p = 2) (d0 : 0 ≤ d) (d1 : d ≤ 64000000000000) :
    position_Of.f p d 0 = some (if cls p = 1 then (0, d, 0, 0, 0) else if cls p = 3 then (0, 0, d, 0, 0) else if cls p = 4 then (0, 0, 0, d, 0) else (d, 0, 0, 0, 0)) := by
  rw [of_in p d 0 h1 h2 d0 d1 (by decide) (by decide)]
  have e : sec p d 0 = d := by unfold sec; rw [if_neg hp]
  rw [e, Int.sub_self]

theorem PositionActions (a0 a1 a2 : Int) : ∃ k, customslaw28_PositionActions.f k a0 a1 a2 = some true := by
  obtain ⟨x0, e0, l0, u0⟩ := within_some a0 13 (by decide) (by decide)
  obtain ⟨x2, e2, l2, u2⟩ := within_some a2 1000 (by decide) (by decide)
  obtain ⟨x1, e1, l1, u1⟩ := within_some a1 14 (by decide) (by decide)
  refine Ev.rounds (g := fun k => customslaw28_PositionActions.f k a0 a1 a2) ?_
  unfold customslaw28_PositionActions.f
  refine evBind0 e0 (evBind0 e2 (evBind0 e1 ?_))
  rw [wrap64_id (x := 1 + x0) (by omega) (by omega), wrap64_id (x := 1 + x1) (by omega) (by omega), wrap64_id (x := 1 + x2) (by omega) (by omega)]
  obtain ⟨p, hp⟩ : ∃ p, 1 + x0 = p := ⟨_, rfl⟩
  obtain ⟨a, ha⟩ : ∃ p, 1 + x1 = p := ⟨_, rfl⟩
  obtain ⟨d, hd⟩ : ∃ p, 1 + x2 = p := ⟨_, rfl⟩
  rw [hp, ha, hd]
  have h1 : 1 ≤ p := by omega
  have h2 : p ≤ 13 := by omega
  have d1 : 1 ≤ d := by omega
  have d2 : d ≤ 1000 := by omega
  refine evBind (next_ev p a h1 h2 (by omega) (by omega)) ?_
  have yes : ∀ t : Int, ∀ b : Bool, b = true → Ev (fun k => customslaw28_PositionActions.j0 k p d t b) true := by
    intro t b hb
    refine evShift ?_
    simp only [customslaw28_PositionActions.j0]
    exact evPos hb (evBind awake_ev (evNow rfl))
  obtain ⟨t, ht⟩ : ∃ t, fnd p a trans = t := ⟨_, rfl⟩
  have tb := table p a h1 h2 (by omega) (by omega)
  rw [ht] at tb ⊢
  by_cases c : t = -1
  · rw [if_pos c]
    exact evNeg (by decide) (yes _ _ rfl)
  · rw [if_neg c]
    refine evPos rfl (evIf (fun _ => yes _ _ rfl) (fun c2 => ?_))
    dsimp only
    by_cases c3 : t = 2
    · exact yes _ _ (by rw [c3]; rfl)
    · have e3 : (t == 2) = false := beq_eq_false_iff_ne.mpr c3
      rw [e3]
      obtain ⟨t1, t2, t3⟩ : 1 ≤ t ∧ t ≤ 13 ∧ (cls p = 2 → cls t = 2) := by
        rcases tb with h | h | h | h
        · exact absurd h c
        · exact absurd h c2
        · exact absurd h c3
        · exact h
      refine evShift ?_
      simp only [customslaw28_PositionActions.j0]
      refine evNeg (by simp) (evBind0 (of_class p d h1 h2 c2 (by omega) (by omega)) (evBind0 (of_class t d t1 t2 c3 (by omega) (by omega)) ?_))
      have z1 : ¬ (0 : Int) = d := by omega
      have z2 : ¬ d = (0 : Int) := by omega
      have z3 : ((0 : Int) == d) = false := beq_eq_false_iff_ne.mpr z1
      have z4 : (d == (0 : Int)) = false := beq_eq_false_iff_ne.mpr z2
      rcases cls_range p h1 h2 with q | q | q | q
      · rcases cls_range t t1 t2 with s | s | s | s
        all_goals
          simp only [q, s]
          refine evPos rfl (evPos rfl (evBind (class_ev p h1 h2) (evBind (class_ev t t1 t2) ?_)))
          rw [q, s]
          refine evNeg ?_ (evPos rfl (evBind awake_ev (evNow rfl)))
          simp [z1, z2, z3, z4]
      · have s := t3 q
        simp only [q, s]
        refine evPos rfl (evPos rfl (evBind (class_ev p h1 h2) (evBind (class_ev t t1 t2) ?_)))
        rw [q, s]
        refine evNeg ?_ (evNeg z2 (evPos rfl (evBind awake_ev (evNow rfl))))
        simp [z1, z2, z3, z4]
      · rcases cls_range t t1 t2 with s | s | s | s
        all_goals
          simp only [q, s]
          refine evPos rfl (evPos rfl (evBind (class_ev p h1 h2) (evBind (class_ev t t1 t2) ?_)))
          rw [q, s]
          refine evNeg ?_ (evPos rfl (evBind awake_ev (evNow rfl)))
          simp [z1, z2, z3, z4]
      · rcases cls_range t t1 t2 with s | s | s | s
        all_goals
          simp only [q, s]
          refine evPos rfl (evPos rfl (evBind (class_ev p h1 h2) (evBind (class_ev t t1 t2) ?_)))
          rw [q, s]
          refine evNeg ?_ (evPos rfl (evBind awake_ev (evNow rfl)))
          simp [z1, z2, z3, z4]

end Go.Proofs.YtbhknenjcbinaaaDoor.E
