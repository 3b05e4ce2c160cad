/- The contract by hand of position.Of: a type switch over what 'standing' returns. -/
import Derived.Test.YtbhknenjcbinaaaDoorG1
namespace Go.Proofs.YtbhknenjcbinaaaDoor.G
open Go.RowKit Go.Proofs.YtbhknenjcbinaaaDoorW.PrintWords Go.Proofs.YtbhknenjcbinaaaDoorW.PrintLast Go.Proofs.YtbhknenjcbinaaaDoorW.PrintMore Go.Proofs.YtbhknenjcbinaaaDoor.PA
attribute [local go_sem] max2_int min2_int max_two min_two
set_option linter.unusedVariables false
set_option linter.unusedSimpArgs false

def outside (p duty reserved : Int) : Prop := p < 1 ∨ p > 13 ∨ duty < 0 ∨ duty > 64000000000000 ∨ reserved < 0 ∨ reserved > 1000000000000
instance (p duty reserved : Int) : Decidable (outside p duty reserved) := by unfold outside; infer_instance
/-- What is secured. -/
def sec (p duty reserved : Int) : Int := if p = 2 then mn duty reserved else duty
def position_Of.f (p duty reserved : Int) : Option (Int × Int × Int × Int × Int) :=
  if outside p duty reserved then some (0, 0, 0, 0, 2)
  else if cls p = 1 then some (duty - sec p duty reserved, sec p duty reserved, 0, 0, 0)
  else if cls p = 3 then some (0, 0, duty, 0, 0)
  else if cls p = 4 then some (0, 0, 0, duty, 0)
  else some (duty, 0, 0, 0, 0)

set_option maxHeartbeats 2000000 in
theorem of_outside (p duty reserved : Int) (w : World) (h : outside p duty reserved) :
    Calls Tryd.prog 9 #[.int .i64 p, .int .i64 duty, .int .i64 reserved] w fun e w' => e = .returned (.tuple #[.agg #[.int .i64 0, .int .i64 0, .int .i64 0, .int .i64 0], .int .i64 2]) ∧ Below w.heap.size w w' := by
  unfold outside at h
  by_cases c1 : p < 1
  · clear h
    go_enter Tryd.func9, Tryd.ntmps9
    go_wp2
    exact bodyPost_ret (v := .tuple #[.agg #[.int .i64 0, .int .i64 0, .int .i64 0, .int .i64 0], .int .i64 2]) (by simp [results, Tryd.results9, go_sem]) rfl ⟨rfl, below_alloc (Below.refl _ _) _⟩
  by_cases c2 : 13 < p
  · clear h
    go_enter Tryd.func9, Tryd.ntmps9
    go_wp2
    exact bodyPost_ret (v := .tuple #[.agg #[.int .i64 0, .int .i64 0, .int .i64 0, .int .i64 0], .int .i64 2]) (by simp [results, Tryd.results9, go_sem]) rfl ⟨rfl, below_alloc (Below.refl _ _) _⟩
  by_cases c3 : duty < 0
  · clear h
    go_enter Tryd.func9, Tryd.ntmps9
    go_wp2
    exact bodyPost_ret (v := .tuple #[.agg #[.int .i64 0, .int .i64 0, .int .i64 0, .int .i64 0], .int .i64 2]) (by simp [results, Tryd.results9, go_sem]) rfl ⟨rfl, below_alloc (Below.refl _ _) _⟩
  by_cases c4 : 64000000000000 < duty
  · clear h
    go_enter Tryd.func9, Tryd.ntmps9
    go_wp2
    exact bodyPost_ret (v := .tuple #[.agg #[.int .i64 0, .int .i64 0, .int .i64 0, .int .i64 0], .int .i64 2]) (by simp [results, Tryd.results9, go_sem]) rfl ⟨rfl, below_alloc (Below.refl _ _) _⟩
  by_cases c5 : reserved < 0
  · clear h
    go_enter Tryd.func9, Tryd.ntmps9
    go_wp2
    exact bodyPost_ret (v := .tuple #[.agg #[.int .i64 0, .int .i64 0, .int .i64 0, .int .i64 0], .int .i64 2]) (by simp [results, Tryd.results9, go_sem]) rfl ⟨rfl, below_alloc (Below.refl _ _) _⟩
  have c6 : 1000000000000 < reserved := by omega
  clear h
  go_enter Tryd.func9, Tryd.ntmps9
  go_wp2
  exact bodyPost_ret (v := .tuple #[.agg #[.int .i64 0, .int .i64 0, .int .i64 0, .int .i64 0], .int .i64 2]) (by simp [results, Tryd.results9, go_sem]) rfl ⟨rfl, below_alloc (Below.refl _ _) _⟩

theorem standing_at {p duty reserved : Int} {v : Value} (w : World) (hv : stands p duty reserved = v) (h1 : 1 ≤ p) (h2 : p ≤ 13) :
    Calls Tryd.prog 18 #[.int .i64 p, .int .i64 duty, .int .i64 reserved] w fun e w' => e = .returned v ∧ w = w' := by
  subst hv
  exact standing_calls p duty reserved w h1 h2

theorem ta39 (v : Value) (W : World) : (Instr.typeAssert (.iface 39 v) 20 39 true).run Tryd.prog W = .ok (.tuple #[v, .bool true]) W := by rfl
theorem ta39_41 (v : Value) (W : World) : (Instr.typeAssert (.iface 41 v) 20 39 true).run Tryd.prog W = .ok (.tuple #[.agg #[.int .i64 0], .bool false]) W := by rfl
theorem ta39_42 (v : Value) (W : World) : (Instr.typeAssert (.iface 42 v) 20 39 true).run Tryd.prog W = .ok (.tuple #[.agg #[.int .i64 0], .bool false]) W := by rfl
theorem ta39_48 (v : Value) (W : World) : (Instr.typeAssert (.iface 48 v) 20 39 true).run Tryd.prog W = .ok (.tuple #[.agg #[.int .i64 0], .bool false]) W := by rfl
theorem ta41 (v : Value) (W : World) : (Instr.typeAssert (.iface 41 v) 20 41 true).run Tryd.prog W = .ok (.tuple #[v, .bool true]) W := by rfl
theorem ta41_42 (v : Value) (W : World) : (Instr.typeAssert (.iface 42 v) 20 41 true).run Tryd.prog W = .ok (.tuple #[.agg #[], .bool false]) W := by rfl
theorem ta41_48 (v : Value) (W : World) : (Instr.typeAssert (.iface 48 v) 20 41 true).run Tryd.prog W = .ok (.tuple #[.agg #[], .bool false]) W := by rfl
theorem ta42 (v : Value) (W : World) : (Instr.typeAssert (.iface 42 v) 20 42 true).run Tryd.prog W = .ok (.tuple #[v, .bool true]) W := by rfl
theorem ta42_48 (v : Value) (W : World) : (Instr.typeAssert (.iface 48 v) 20 42 true).run Tryd.prog W = .ok (.tuple #[.agg #[], .bool false]) W := by rfl

set_option maxHeartbeats 4000000 in
theorem of_1 (p duty reserved : Int) (w : World) (h1 : 1 ≤ p) (h2 : p ≤ 13) (h3 : 0 ≤ duty) (h4 : duty ≤ 64000000000000) (h5 : 0 ≤ reserved) (h6 : reserved ≤ 1000000000000) (hp : Aside0 (stands p duty reserved =  .iface 39 (.agg #[.int .i64 duty]))) :
    Calls Tryd.prog 9 #[.int .i64 p, .int .i64 duty, .int .i64 reserved] w fun e w' => e = .returned (.tuple #[.agg #[.int .i64 0, .int .i64 duty, .int .i64 0, .int .i64 0], .int .i64 0]) ∧ Below w.heap.size w w' := by
  have q0 := ta39
  go_enter Tryd.func9, Tryd.ntmps9
  go_wp2_with ((go_at_call 18); (with_reducible refine (standing_at _ hp.out h1 h2).mono ?_); rintro e w' ⟨rfl, rfl⟩)
  exact bodyPost_ret (v := .tuple #[.agg #[.int .i64 0, .int .i64 duty, .int .i64 0, .int .i64 0], .int .i64 0]) (by simp [results, Tryd.results9, go_sem]) rfl ⟨rfl, by repeat (first | exact Below.refl _ _ | apply below_alloc)⟩

set_option maxHeartbeats 4000000 in
theorem of_2 (p duty reserved : Int) (w : World) (h1 : 1 ≤ p) (h2 : p ≤ 13) (h3 : 0 ≤ duty) (h4 : duty ≤ 64000000000000) (h5 : 0 ≤ reserved) (h6 : reserved ≤ 1000000000000) (h7 : ¬ reserved < duty) (hp : Aside0 (stands p duty reserved =  .iface 39 (.agg #[.int .i64 reserved]))) :
    Calls Tryd.prog 9 #[.int .i64 p, .int .i64 duty, .int .i64 reserved] w fun e w' => e = .returned (.tuple #[.agg #[.int .i64 0, .int .i64 duty, .int .i64 0, .int .i64 0], .int .i64 0]) ∧ Below w.heap.size w w' := by
  have q0 := ta39
  go_enter Tryd.func9, Tryd.ntmps9
  go_wp2_with ((go_at_call 18); (with_reducible refine (standing_at _ hp.out h1 h2).mono ?_); rintro e w' ⟨rfl, rfl⟩)
  exact bodyPost_ret (v := .tuple #[.agg #[.int .i64 0, .int .i64 duty, .int .i64 0, .int .i64 0], .int .i64 0]) (by simp [results, Tryd.results9, go_sem]) rfl ⟨rfl, by repeat (first | exact Below.refl _ _ | apply below_alloc)⟩

set_option maxHeartbeats 4000000 in
theorem of_2b (p duty reserved : Int) (w : World) (h1 : 1 ≤ p) (h2 : p ≤ 13) (h3 : 0 ≤ duty) (h4 : duty ≤ 64000000000000) (h5 : 0 ≤ reserved) (h6 : reserved ≤ 1000000000000) (h7 : reserved < duty) (hp : Aside0 (stands p duty reserved =  .iface 39 (.agg #[.int .i64 reserved]))) :
    Calls Tryd.prog 9 #[.int .i64 p, .int .i64 duty, .int .i64 reserved] w fun e w' => e = .returned (.tuple #[.agg #[.int .i64 (duty - reserved), .int .i64 reserved, .int .i64 0, .int .i64 0], .int .i64 0]) ∧ Below w.heap.size w w' := by
  have q0 := ta39
  go_enter Tryd.func9, Tryd.ntmps9
  go_wp2_with ((go_at_call 18); (with_reducible refine (standing_at _ hp.out h1 h2).mono ?_); rintro e w' ⟨rfl, rfl⟩)
  exact bodyPost_ret (v := .tuple #[.agg #[.int .i64 (duty - reserved), .int .i64 reserved, .int .i64 0, .int .i64 0], .int .i64 0]) (by simp [results, Tryd.results9, go_sem]) rfl ⟨rfl, by repeat (first | exact Below.refl _ _ | apply below_alloc)⟩

set_option maxHeartbeats 4000000 in
theorem of_3 (p duty reserved : Int) (w : World) (h1 : 1 ≤ p) (h2 : p ≤ 13) (h3 : 0 ≤ duty) (h4 : duty ≤ 64000000000000) (h5 : 0 ≤ reserved) (h6 : reserved ≤ 1000000000000) (hp : Aside0 (stands p duty reserved =  .iface 41 (.agg #[]))) :
    Calls Tryd.prog 9 #[.int .i64 p, .int .i64 duty, .int .i64 reserved] w fun e w' => e = .returned (.tuple #[.agg #[.int .i64 0, .int .i64 0, .int .i64 duty, .int .i64 0], .int .i64 0]) ∧ Below w.heap.size w w' := by
  have q0 := ta39_41
  have q1 := ta41
  go_enter Tryd.func9, Tryd.ntmps9
  go_wp2_with ((go_at_call 18); (with_reducible refine (standing_at _ hp.out h1 h2).mono ?_); rintro e w' ⟨rfl, rfl⟩)
  exact bodyPost_ret (v := .tuple #[.agg #[.int .i64 0, .int .i64 0, .int .i64 duty, .int .i64 0], .int .i64 0]) (by simp [results, Tryd.results9, go_sem]) rfl ⟨rfl, by repeat (first | exact Below.refl _ _ | apply below_alloc)⟩

set_option maxHeartbeats 4000000 in
theorem of_4 (p duty reserved : Int) (w : World) (h1 : 1 ≤ p) (h2 : p ≤ 13) (h3 : 0 ≤ duty) (h4 : duty ≤ 64000000000000) (h5 : 0 ≤ reserved) (h6 : reserved ≤ 1000000000000) (hp : Aside0 (stands p duty reserved =  .iface 42 (.agg #[]))) :
    Calls Tryd.prog 9 #[.int .i64 p, .int .i64 duty, .int .i64 reserved] w fun e w' => e = .returned (.tuple #[.agg #[.int .i64 0, .int .i64 0, .int .i64 0, .int .i64 duty], .int .i64 0]) ∧ Below w.heap.size w w' := by
  have q0 := ta39_42
  have q1 := ta41_42
  have q2 := ta42
  go_enter Tryd.func9, Tryd.ntmps9
  go_wp2_with ((go_at_call 18); (with_reducible refine (standing_at _ hp.out h1 h2).mono ?_); rintro e w' ⟨rfl, rfl⟩)
  exact bodyPost_ret (v := .tuple #[.agg #[.int .i64 0, .int .i64 0, .int .i64 0, .int .i64 duty], .int .i64 0]) (by simp [results, Tryd.results9, go_sem]) rfl ⟨rfl, by repeat (first | exact Below.refl _ _ | apply below_alloc)⟩

set_option maxHeartbeats 4000000 in
theorem of_5 (p duty reserved : Int) (w : World) (h1 : 1 ≤ p) (h2 : p ≤ 13) (h3 : 0 ≤ duty) (h4 : duty ≤ 64000000000000) (h5 : 0 ≤ reserved) (h6 : reserved ≤ 1000000000000) (hp : Aside0 (stands p duty reserved =  .iface 48 (.agg #[]))) :
    Calls Tryd.prog 9 #[.int .i64 p, .int .i64 duty, .int .i64 reserved] w fun e w' => e = .returned (.tuple #[.agg #[.int .i64 duty, .int .i64 0, .int .i64 0, .int .i64 0], .int .i64 0]) ∧ Below w.heap.size w w' := by
  have q0 := ta39_48
  have q1 := ta41_48
  have q2 := ta42_48
  go_enter Tryd.func9, Tryd.ntmps9
  go_wp2_with ((go_at_call 18); (with_reducible refine (standing_at _ hp.out h1 h2).mono ?_); rintro e w' ⟨rfl, rfl⟩)
  exact bodyPost_ret (v := .tuple #[.agg #[.int .i64 duty, .int .i64 0, .int .i64 0, .int .i64 0], .int .i64 0]) (by simp [results, Tryd.results9, go_sem]) rfl ⟨rfl, by repeat (first | exact Below.refl _ _ | apply below_alloc)⟩

theorem position_Of.calls (p duty reserved r1 r2 r3 r4 r5 : Int) (w : World) (h : position_Of.f p duty reserved = some (r1, r2, r3, r4, r5)) :
    Calls Tryd.prog 9 #[.int .i64 p, .int .i64 duty, .int .i64 reserved] w fun e w' => e = .returned (.tuple #[.agg #[.int .i64 r1, .int .i64 r2, .int .i64 r3, .int .i64 r4], .int .i64 r5]) ∧ Below w.heap.size w w' := by
  unfold position_Of.f at h
  by_cases c : outside p duty reserved
  · rw [if_pos c] at h
    simp only [Option.some.injEq, Prod.mk.injEq] at h
    obtain ⟨rfl, rfl, rfl, rfl, rfl⟩ := h
    exact of_outside p duty reserved w c
  · rw [if_neg c] at h
    unfold outside at c
    have k1 : 1 ≤ p := by omega
    have k2 : p ≤ 13 := by omega
    have k3 : 0 ≤ duty := by omega
    have k4 : duty ≤ 64000000000000 := by omega
    have k5 : 0 ≤ reserved := by omega
    have k6 : reserved ≤ 1000000000000 := by omega
    by_cases d1 : cls p = 1
    · rw [if_pos d1] at h
      simp only [Option.some.injEq, Prod.mk.injEq] at h
      obtain ⟨rfl, rfl, rfl, rfl, rfl⟩ := h
      by_cases d2 : p = 2
      · have hs : stands p duty reserved = .iface 39 (.agg #[.int .i64 reserved]) := by unfold stands; rw [if_pos d2]
        by_cases d3 : reserved < duty
        · have e1 : sec p duty reserved = reserved := by unfold sec mn; rw [if_pos d2, if_pos d3]
          rw [e1]
          exact of_2b p duty reserved w k1 k2 k3 k4 k5 k6 d3 ⟨hs⟩
        · have e1 : sec p duty reserved = duty := by unfold sec mn; rw [if_pos d2, if_neg d3]
          rw [e1, Int.sub_self]
          exact of_2 p duty reserved w k1 k2 k3 k4 k5 k6 d3 ⟨hs⟩
      · have e1 : sec p duty reserved = duty := by unfold sec; rw [if_neg d2]
        rw [e1, Int.sub_self]
        exact of_1 p duty reserved w k1 k2 k3 k4 k5 k6 ⟨by unfold stands; rw [if_neg d2, if_pos d1]⟩
    · rw [if_neg d1] at h
      have d2 : ¬ p = 2 := by rintro rfl; exact d1 rfl
      by_cases d3 : cls p = 3
      · rw [if_pos d3] at h
        simp only [Option.some.injEq, Prod.mk.injEq] at h
        obtain ⟨rfl, rfl, rfl, rfl, rfl⟩ := h
        exact of_3 p duty reserved w k1 k2 k3 k4 k5 k6 ⟨by unfold stands; rw [if_neg d2, if_neg d1, if_pos d3]⟩
      · rw [if_neg d3] at h
        by_cases d4 : cls p = 4
        · rw [if_pos d4] at h
          simp only [Option.some.injEq, Prod.mk.injEq] at h
          obtain ⟨rfl, rfl, rfl, rfl, rfl⟩ := h
          exact of_4 p duty reserved w k1 k2 k3 k4 k5 k6 ⟨by unfold stands; rw [if_neg d2, if_neg d1, if_neg d3, if_pos d4]⟩
        · rw [if_neg d4] at h
          simp only [Option.some.injEq, Prod.mk.injEq] at h
          obtain ⟨rfl, rfl, rfl, rfl, rfl⟩ := h
          exact of_5 p duty reserved w k1 k2 k3 k4 k5 k6 ⟨by unfold stands; rw [if_neg d2, if_neg d1, if_neg d3, if_neg d4]⟩

end Go.Proofs.YtbhknenjcbinaaaDoor.G
