/- Small words on functions with rounds ('Ev'), and the fixed example of the laws of chapter 28. -/
import Derived.Test.YtbhknenjcbinaaaDoorPBx6
namespace Go.Proofs.YtbhknenjcbinaaaDoor.E
set_option linter.unusedVariables false
set_option linter.unusedSimpArgs false
open Go.RowKit Go.Proofs.YtbhknenjcbinaaaDoorW.PrintWords Go.Proofs.YtbhknenjcbinaaaDoorW.PrintLast Go.Proofs.YtbhknenjcbinaaaDoorW.PrintMore Go.Proofs.YtbhknenjcbinaaaDoor.PA Go.Proofs.YtbhknenjcbinaaaDoor.G Go.Proofs.YtbhknenjcbinaaaDoor.PB

theorem evShift {α : Type} {g : Nat → Option α} {r : α} (h : Ev (fun k => g (k + 1)) r) : Ev g r := by
  obtain ⟨K, h⟩ := h
  refine ⟨K + 1, fun k hk => ?_⟩
  obtain ⟨k, rfl⟩ : ∃ m, k = m + 1 := ⟨k - 1, by omega⟩
  exact h k (by omega)
theorem evNow {α : Type} {o : Option α} {r : α} (h : o = some r) : Ev (fun _ => o) r := ⟨0, fun _ _ => h⟩
theorem evPos {α : Type} {c : Prop} [Decidable c] {f g : Nat → Option α} {r : α} (hc : c) (h : Ev f r) : Ev (fun k => if c then f k else g k) r := by simpa [hc] using h
theorem evNeg {α : Type} {c : Prop} [Decidable c] {f g : Nat → Option α} {r : α} (hc : ¬ c) (h : Ev g r) : Ev (fun k => if c then f k else g k) r := by simpa [hc] using h
theorem evIf {α : Type} {c : Prop} [Decidable c] {f g : Nat → Option α} {r : α} (h1 : c → Ev f r) (h2 : ¬ c → Ev g r) : Ev (fun k => if c then f k else g k) r := by
  by_cases hc : c
  · exact evPos hc (h1 hc)
  · exact evNeg hc (h2 hc)
theorem evBind {α β : Type} {g : Nat → Option α} {f : Nat → α → Option β} {a : α} {r : β} (h : Ev g a) (k : Ev (fun n => f n a) r) : Ev (fun n => (g n).bind (f n)) r := h.bind k
theorem evBind0 {α β : Type} {g : Option α} {f : Nat → α → Option β} {a : α} {r : β} (h : g = some a) (k : Ev (fun n => f n a) r) : Ev (fun n => g.bind (f n)) r := by subst h; exact k
theorem evUniq {α : Type} {g : Nat → Option α} {r q : α} (h : Ev g r) (k : Ev g q) : r = q := by
  obtain ⟨K, h⟩ := h
  obtain ⟨J, k⟩ := k
  have a := h (max K J) (Nat.le_max_left _ _)
  have b := k (max K J) (Nat.le_max_right _ _)
  exact Option.some.inj (a.symm.trans b)
theorem wrap64_id {x : Int} (h1 : -9223372036854775808 ≤ x) (h2 : x ≤ 9223372036854775807) : wrap64 x = x := by unfold wrap64; omega
theorem wf_i64 {x : Int} (h : (Lit.int .i64 x).wf = true) : -9223372036854775808 ≤ x ∧ x ≤ 9223372036854775807 := by
  simp [Lit.wf, IntKind.min, IntKind.max, IntKind.signed, IntKind.bits] at h
  omega

theorem awake_ev : Ev (fun k => customslaw28_awake.f k) true :=
  Ev.of (fun k => customslaw28_awake.mono k) (show customslaw28_awake.f 200 = some true by decide +kernel)

theorem within_some (x n : Int) (hn : 0 < n) (hb : n ≤ 4611686018427387904) : ∃ r, customsmade_Within.f x n = some r ∧ 0 ≤ r ∧ r < n := by
  unfold customsmade_Within.f
  rw [if_neg (by omega)]
  have h1 : Int.tmod x n < n := Int.tmod_lt_of_pos x hn
  have h2 : -n < Int.tmod x n := by
    have := Int.lt_tmod_of_pos x hn
    omega
  rw [wrap64_id (by omega) (by omega)]
  refine ⟨_, rfl, ?_, Int.tmod_lt_of_pos _ hn⟩
  exact Int.tmod_nonneg _ (by omega)

theorem refClass_ev (p : Int) (h1 : 1 ≤ p) (h2 : p ≤ 13) : Ev (fun k => customsref24_Class.f k p) (cls p) := by
  rcases cases13 h1 h2 with rfl | rfl | rfl | rfl | rfl | rfl | rfl | rfl | rfl | rfl | rfl | rfl | rfl
  all_goals exact Ev.of (fun k => customsref24_Class.mono _ k) (k := 5) (by decide)
theorem class_ev (p : Int) (h1 : 1 ≤ p) (h2 : p ≤ 13) : Ev (fun k => procedure_Class.f k p) (cls p) := by
  rcases cases13 h1 h2 with rfl | rfl | rfl | rfl | rfl | rfl | rfl | rfl | rfl | rfl | rfl | rfl | rfl
  all_goals exact Ev.of (fun k => procedure_Class.mono _ k) (k := 5) (by decide)
theorem mn_le (a b : Int) : mn a b ≤ a ∧ mn a b ≤ b ∧ (mn a b = a ∨ mn a b = b) := by unfold mn; split <;> omega
theorem cls_range (p : Int) (h1 : 1 ≤ p) (h2 : p ≤ 13) : cls p = 1 ∨ cls p = 2 ∨ cls p = 3 ∨ cls p = 4 := by
  rcases cases13 h1 h2 with rfl | rfl | rfl | rfl | rfl | rfl | rfl | rfl | rfl | rfl | rfl | rfl | rfl
  all_goals decide

/-- 'Of' is the reference's. -/
theorem pos_ev (p d r : Int) : ∃ t, position_Of.f p d r = some t ∧ Ev (fun k => customsref27_Position.f k p d r) t := by
  by_cases c : outside p d r
  · refine ⟨(0, 0, 0, 0, 2), by unfold position_Of.f; rw [if_pos c], ?_⟩
    have j : ∀ b : Bool, b = true → Ev (fun k => customsref27_Position.j0 k p d r b) (0, 0, 0, 0, 2) := by
      intro b hb
      refine evShift ?_
      simp only [customsref27_Position.j0]
      exact evPos hb (evNow rfl)
    unfold outside at c
    simp only [customsref27_Position.f]
    refine evIf (fun _ => j _ rfl) fun n1 => evIf (fun _ => j _ rfl) fun n2 => evIf (fun _ => j _ rfl) fun n3 => evIf (fun _ => j _ rfl) fun n4 => evIf (fun _ => j _ rfl) fun n5 => j _ (by simp; omega)
  · have c0 := c
    unfold outside at c
    have h1 : 1 ≤ p := by omega
    have h2 : p ≤ 13 := by omega
    have hm := mn_le d r
    have main : ∀ t, position_Of.f p d r = some t → Ev (fun k => customsref27_Position.j0 k p d r false) t := by
      intro t ht
      unfold position_Of.f at ht
      rw [if_neg c0] at ht
      refine evShift ?_
      simp only [customsref27_Position.j0]
      refine evNeg (by simp) (evBind (refClass_ev p h1 h2) ?_)
      rcases cls_range p h1 h2 with e | e | e | e
      · rw [if_pos e] at ht
        rw [e]
        refine evNeg (by decide) (evNeg (by decide) (evNeg (by decide) (evIf (fun h => ?_) (fun h => ?_))))
        · have e2 : sec p d r = mn d r := by unfold sec; rw [if_pos h]
          rw [e2] at ht
          rw [wrap64_id (by omega) (by omega)]
          exact evNow ht
        · have e2 : sec p d r = d := by unfold sec; rw [if_neg h]
          rw [e2, Int.sub_self] at ht
          exact evNow ht
      · rw [if_neg (by omega), if_neg (by omega), if_neg (by omega)] at ht
        rw [e]
        exact evPos rfl (evNow ht)
      · rw [if_neg (by omega), if_pos e] at ht
        rw [e]
        exact evNeg (by decide) (evPos rfl (evNow ht))
      · rw [if_neg (by omega), if_neg (by omega), if_pos e] at ht
        rw [e]
        exact evNeg (by decide) (evNeg (by decide) (evPos rfl (evNow ht)))
    obtain ⟨t, ht⟩ : ∃ t, position_Of.f p d r = some t := by
      unfold position_Of.f
      rw [if_neg c0]
      (repeat' split) <;> exact ⟨_, rfl⟩
    refine ⟨t, ht, ?_⟩
    simp only [customsref27_Position.f]
    refine evNeg (by omega) (evNeg (by omega) (evNeg (by omega) (evNeg (by omega) (evNeg (by omega) ?_))))
    have e : decide (r > 1000000000000) = false := by simp; omega
    rw [e]
    exact main t ht

theorem PositionOf (a0 a1 a2 : Int) (a3 : Bool) : ∃ k, customslaw28_PositionOf.f k a0 a1 a2 a3 = some true := by
  have core : ∀ p d r, Ev (fun k => (position_Of.f p d r).bind fun bt151 => ((customsref27_Position.f k p d r).bind fun bt157 => (if (bt151.1 == bt157.1 && (bt151.2.1 == bt157.2.1 && (bt151.2.2.1 == bt157.2.2.1 && (bt151.2.2.2.1 == bt157.2.2.2.1)))) = true then (if bt151.2.2.2.2 = bt157.2.2.2.2 then ((customslaw28_awake.f k).bind fun t163 => (some t163)) else (some false)) else (some false)))) true := by
    intro p d r
    obtain ⟨t, h1, h2⟩ := pos_ev p d r
    refine evBind0 h1 (evBind h2 ?_)
    exact evPos (by simp) (evPos rfl (evBind awake_ev (evNow rfl)))
  refine Ev.rounds (g := fun k => customslaw28_PositionOf.f k a0 a1 a2 a3) ?_
  unfold customslaw28_PositionOf.f
  refine evIf (fun _ => core _ _ _) (fun _ => ?_)
  obtain ⟨x, hx, _, _⟩ := within_some a0 15 (by decide) (by decide)
  obtain ⟨y, hy, _, _⟩ := within_some a1 1000 (by decide) (by decide)
  obtain ⟨z, hz, _, _⟩ := within_some a2 1000 (by decide) (by decide)
  exact evBind0 hx (evBind0 hy (evBind0 hz (core _ _ _)))

end Go.Proofs.YtbhknenjcbinaaaDoor.E
