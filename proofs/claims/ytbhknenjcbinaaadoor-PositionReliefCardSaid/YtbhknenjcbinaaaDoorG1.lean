/- Contracts by hand of the functions that the print does not take: the table of lengths, a type switch. -/
import Derived.Test.YtbhknenjcbinaaaDoorPAx
import Derived.WalkSpells
import Derived.WalkLawsBesides
namespace Go.Proofs.YtbhknenjcbinaaaDoor.G
open Go.RowKit Go.Proofs.YtbhknenjcbinaaaDoorW.PrintWords Go.Proofs.YtbhknenjcbinaaaDoorW.PrintLast Go.Proofs.YtbhknenjcbinaaaDoorW.PrintMore Go.Proofs.YtbhknenjcbinaaaDoor.PA
set_option linter.unusedVariables false
set_option linter.unusedSimpArgs false

/-- The lengths of the months of a common year. -/
def lens : List Int := [31, 28, 31, 30, 31, 30, 31, 31, 30, 31, 30, 31]

/-- What the table at package level holds. -/
structure GL (w : World) : Prop where
  at_ : ∀ i, i < 12 → w.cell? ⟨1, i, none⟩ = some (.int .i64 (lens.getD i 0))
theorem GL.below {w w' : World} (h : GL w) (hb : Below w.heap.size w w') : GL w' :=
  ⟨fun i hi => pw_cell_below hb (h.at_ i hi)⟩
theorem GL.drewN {w : World} {n : Nat} (h : GL w) : GL (w.drewN n) := ⟨h.at_⟩
theorem GL.drew {w : World} (h : GL w) : GL w.drew := ⟨h.at_⟩

def calendar_length.f (y m : Int) : Option Int :=
  if m = 2 then (calendar_leap.f y).bind fun b => if b = true then some 29 else some 28
  else if 1 ≤ m ∧ m ≤ 12 then some (lens.getD (m - 1).toNat 0) else none

set_option maxHeartbeats 400000 in
theorem calendar_length.calls (y m r : Int) (w : World) (hGL : GL w) (h : calendar_length.f y m = some r) :
    Calls Tryd.prog 33 #[.int .i64 y, .int .i64 m] w fun e w' => e = .returned (.int .i64 r) ∧ Drawn0 w w' := by
  unfold calendar_length.f at h
  by_cases c : m = 2
  · rw [if_pos c] at h
    subst c
    obtain ⟨b, hb, h⟩ := Option.bind_eq_some_iff.mp h
    have Hb := Aside0.mk hb
    clear hb
    have h28 := hGL.at_ 1 (by omega)
    clear hGL
    simp only [lens] at h28
    cases b
    · have Hr := Aside0.mk (Option.some.inj h)
      clear h
      go_enter Tryd.func33, Tryd.ntmps33
      go_wp2_with ((go_at_call 40); (with_reducible refine (calendar_leap.calls _ _ _ Hb.out).mono ?_); rintro e w' ⟨rfl, ⟨nd, rfl⟩⟩)
      go_ret
      exact ⟨by rw [← Hr.out]; rfl, ⟨⟨_, rfl⟩⟩⟩
    · have Hr := Aside0.mk (Option.some.inj h)
      clear h
      go_enter Tryd.func33, Tryd.ntmps33
      go_wp2_with ((go_at_call 40); (with_reducible refine (calendar_leap.calls _ _ _ Hb.out).mono ?_); rintro e w' ⟨rfl, ⟨nd, rfl⟩⟩)
      go_ret
      exact ⟨by rw [← Hr.out]; rfl, ⟨⟨_, rfl⟩⟩⟩
  · rw [if_neg c] at h
    by_cases c2 : 1 ≤ m ∧ m ≤ 12
    · rw [if_pos c2] at h
      obtain ⟨c3, c4⟩ := c2
      obtain ⟨i, rfl⟩ : ∃ i : Nat, m = (i : Int) + 1 := ⟨(m - 1).toNat, by omega⟩
      have hi : i < 12 := by omega
      have hc := hGL.at_ i hi
      clear hGL
      have h2 : (((i : Int) + 1) == 2) = false := beq_eq_false_iff_ne.mpr c
      have e1 : ((i : Int) + 1 - 1).toNat = i := by omega
      rw [e1] at h
      have Hr := Aside0.mk (Option.some.inj h)
      clear h e1
      go_enter Tryd.func33, Tryd.ntmps33
      go_wp2
      go_ret
      exact ⟨by rw [← Hr.out, List.getD_eq_getElem?_getD]; rfl, Drawn0.refl _⟩
    · rw [if_neg c2] at h
      exact absurd h (by simp)


/-- The class of a procedure. -/
def cls (p : Int) : Int :=
  if p = 1 ∨ p = 2 ∨ p = 3 ∨ p = 4 ∨ p = 5 then 1 else if p = 6 ∨ p = 7 ∨ p = 9 ∨ p = 12 then 2 else if p = 8 ∨ p = 10 ∨ p = 11 then 3 else if p = 13 then 4 else 0
theorem cases13 {p : Int} (h1 : 1 ≤ p) (h2 : p ≤ 13) : p = 1 ∨ p = 2 ∨ p = 3 ∨ p = 4 ∨ p = 5 ∨ p = 6 ∨ p = 7 ∨ p = 8 ∨ p = 9 ∨ p = 10 ∨ p = 11 ∨ p = 12 ∨ p = 13 := by omega
set_option maxHeartbeats 400000 in
theorem class_calls (p : Int) (w : World) (h1 : 1 ≤ p) (h2 : p ≤ 13) :
    Calls Tryd.prog 17 #[.int .i64 p] w fun e w' => e = .returned (.int .i64 (cls p)) ∧ w = w' := by
  rcases cases13 h1 h2 with rfl | rfl | rfl | rfl | rfl | rfl | rfl | rfl | rfl | rfl | rfl | rfl | rfl
  all_goals
    clear h1 h2
    go_enter Tryd.func17, Tryd.ntmps17
    go_wp2
    go_ret
    exact ⟨rfl, rfl⟩

/-- How the duty of a lot stands: the value behind the interface. -/
def stands (p duty reserved : Int) : Value :=
  if p = 2 then .iface 39 (.agg #[.int .i64 reserved]) else if cls p = 1 then .iface 39 (.agg #[.int .i64 duty]) else if cls p = 3 then .iface 41 (.agg #[]) else if cls p = 4 then .iface 42 (.agg #[]) else .iface 48 (.agg #[])
set_option maxHeartbeats 1000000 in
theorem standing_calls (p duty reserved : Int) (w : World) (h1 : 1 ≤ p) (h2 : p ≤ 13) :
    Calls Tryd.prog 18 #[.int .i64 p, .int .i64 duty, .int .i64 reserved] w fun e w' => e = .returned (stands p duty reserved) ∧ w = w' := by
  rcases cases13 h1 h2 with rfl | rfl | rfl | rfl | rfl | rfl | rfl | rfl | rfl | rfl | rfl | rfl | rfl
  all_goals
    clear h1 h2
    go_enter Tryd.func18, Tryd.ntmps18
    go_wp2_with ((go_at_call 17); (with_reducible refine (class_calls _ _ (by decide) (by decide)).mono ?_); rintro e w' ⟨rfl, rfl⟩)
    go_ret
    exact ⟨rfl, rfl⟩

end Go.Proofs.YtbhknenjcbinaaaDoor.G
