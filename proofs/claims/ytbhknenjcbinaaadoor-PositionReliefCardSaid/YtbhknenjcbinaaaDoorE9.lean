/- Days and months: the two calendars, the program's and the reference's, answer alike. -/
import Derived.Test.YtbhknenjcbinaaaDoorPBx9
namespace Go.Proofs.YtbhknenjcbinaaaDoor.ER
set_option linter.unusedVariables false
set_option linter.unusedSimpArgs false
open Go.RowKit Go.Proofs.YtbhknenjcbinaaaDoorW.PrintWords Go.Proofs.YtbhknenjcbinaaaDoorW.PrintLast Go.Proofs.YtbhknenjcbinaaaDoorW.PrintMore Go.Proofs.YtbhknenjcbinaaaDoor.PA Go.Proofs.YtbhknenjcbinaaaDoor.G Go.Proofs.YtbhknenjcbinaaaDoor.PB

theorem evShift {α : Type} {g : Nat → Option α} {r : α} (h : Ev (fun k => g (k + 1)) r) : Ev g r := by
  obtain ⟨K, h⟩ := h
  refine ⟨K + 1, fun k hk => ?_⟩
  obtain ⟨k, rfl⟩ : ∃ m, k = m + 1 := ⟨k - 1, by omega⟩
  exact h k (by omega)
theorem evNow {α : Type} {o : Option α} {r : α} (h : o = some r) : Ev (fun _ => o) r := ⟨0, fun _ _ => h⟩
theorem evPos {α : Type} {c : Prop} [Decidable c] {f g : Nat → Option α} {r : α} (hc : c) (h : Ev f r) : Ev (fun k => if c then f k else g k) r := by simpa [hc] using h
theorem evNeg {α : Type} {c : Prop} [Decidable c] {f g : Nat → Option α} {r : α} (hc : ¬ c) (h : Ev g r) : Ev (fun k => if c then f k else g k) r := by simpa [hc] using h
theorem evIf {α : Type} {c : Prop} [Decidable c] {f g : Nat → Option α} {r : α} (h1 : c → Ev f r) (h2 : ¬ c → Ev g r) : Ev (fun k => if c then f k else g k) r := by
  by_cases hc : c
  · exact evPos hc (h1 hc)
  · exact evNeg hc (h2 hc)
theorem evBind {α β : Type} {g : Nat → Option α} {f : Nat → α → Option β} {a : α} {r : β} (h : Ev g a) (k : Ev (fun n => f n a) r) : Ev (fun n => (g n).bind (f n)) r := h.bind k
theorem evBind0 {α β : Type} {g : Option α} {f : Nat → α → Option β} {a : α} {r : β} (h : g = some a) (k : Ev (fun n => f n a) r) : Ev (fun n => g.bind (f n)) r := by subst h; exact k
theorem evUniq {α : Type} {g : Nat → Option α} {r q : α} (h : Ev g r) (k : Ev g q) : r = q := by
  obtain ⟨K, h⟩ := h
  obtain ⟨J, k⟩ := k
  have a := h (max K J) (Nat.le_max_left _ _)
  have b := k (max K J) (Nat.le_max_right _ _)
  exact Option.some.inj (a.symm.trans b)
theorem wrap64_id {x : Int} (h1 : -9223372036854775808 ≤ x) (h2 : x ≤ 9223372036854775807) : wrap64 x = x := by unfold wrap64; omega
theorem wf_i64 {x : Int} (h : (Lit.int .i64 x).wf = true) : -9223372036854775808 ≤ x ∧ x ≤ 9223372036854775807 := by
  simp [Lit.wf, IntKind.min, IntKind.max, IntKind.signed, IntKind.bits] at h
  omega

theorem awake_ev : Ev (fun k => customslaw28_awake.f k) true :=
  Ev.of (fun k => customslaw28_awake.mono k) (show customslaw28_awake.f 200 = some true by decide +kernel)

theorem within_some (x n : Int) (hn : 0 < n) (hb : n ≤ 4611686018427387904) : ∃ r, customsmade_Within.f x n = some r ∧ 0 ≤ r ∧ r < n := by
  unfold customsmade_Within.f
  rw [if_neg (by omega)]
  have h1 : Int.tmod x n < n := Int.tmod_lt_of_pos x hn
  have h2 : -n < Int.tmod x n := by
    have := Int.lt_tmod_of_pos x hn
    omega
  rw [wrap64_id (by omega) (by omega)]
  refine ⟨_, rfl, ?_, Int.tmod_lt_of_pos _ hn⟩
  exact Int.tmod_nonneg _ (by omega)

theorem mn_le (a b : Int) : mn a b ≤ a ∧ mn a b ≤ b ∧ (mn a b = a ∨ mn a b = b) := by unfold mn; split <;> omega
def leapB (y : Int) : Bool := if Int.tmod y 4 = 0 then (if Int.tmod y 100 = 0 then (Int.tmod y 400 == 0) else true) else false
/-- The length of a month. -/
def dl (y m : Int) : Int := if m = 2 then (if leapB y = true then 29 else 28) else if m = 4 ∨ m = 6 ∨ m = 9 ∨ m = 11 then 30 else 31
theorem leap_some (y : Int) : calendar_leap.f y = some (leapB y) := by
  unfold calendar_leap.f leapB
  (repeat' split) <;> first | rfl | simp_all
theorem len_prog (y m : Int) (h1 : 1 ≤ m) (h2 : m ≤ 12) : calendar_length.f y m = some (dl y m) := by
  unfold calendar_length.f dl
  by_cases c : m = 2
  · rw [if_pos c, if_pos c, leap_some]
    simp only [Option.bind_some]
    split <;> simp_all
  · rw [if_neg c, if_neg c, if_pos ⟨h1, h2⟩]
    have : m = 1 ∨ m = 3 ∨ m = 4 ∨ m = 5 ∨ m = 6 ∨ m = 7 ∨ m = 8 ∨ m = 9 ∨ m = 10 ∨ m = 11 ∨ m = 12 := by omega
    rcases this with rfl | rfl | rfl | rfl | rfl | rfl | rfl | rfl | rfl | rfl | rfl <;> rfl
theorem len_ref (y m : Int) (h1 : 1 ≤ m) (h2 : m ≤ 12) : customsref04_Long.f y m = some (dl y m) := by
  unfold customsref04_Long.f dl leapB
  have : m = 1 ∨ m = 2 ∨ m = 3 ∨ m = 4 ∨ m = 5 ∨ m = 6 ∨ m = 7 ∨ m = 8 ∨ m = 9 ∨ m = 10 ∨ m = 11 ∨ m = 12 := by omega
  rcases this with rfl | rfl | rfl | rfl | rfl | rfl | rfl | rfl | rfl | rfl | rfl | rfl
  all_goals first | rfl | ((repeat' split) <;> simp_all)
theorem dl_bd (y m : Int) : 28 ≤ dl y m ∧ dl y m ≤ 31 := by
  unfold dl
  (repeat' split) <;> omega
/-- The days of a year. -/
def dy (y : Int) : Int := if leapB y = true then 366 else 365
theorem days_some (y : Int) : calendar_days.f y = some (dy y) := by
  unfold calendar_days.f dy
  rw [leap_some]
  simp only [Option.bind_some]
  split <;> rfl
theorem dy_sum (y : Int) : dy y = dl y 1 + dl y 2 + dl y 3 + dl y 4 + dl y 5 + dl y 6 + dl y 7 + dl y 8 + dl y 9 + dl y 10 + dl y 11 + dl y 12 := by
  unfold dy dl
  split <;> simp_all
/-- The days from month m on. -/
def rest (y m : Int) : Int := (if m ≤ 1 then dl y 1 else 0) + (if m ≤ 2 then dl y 2 else 0) + (if m ≤ 3 then dl y 3 else 0) + (if m ≤ 4 then dl y 4 else 0) + (if m ≤ 5 then dl y 5 else 0) + (if m ≤ 6 then dl y 6 else 0) + (if m ≤ 7 then dl y 7 else 0) + (if m ≤ 8 then dl y 8 else 0) + (if m ≤ 9 then dl y 9 else 0) + (if m ≤ 10 then dl y 10 else 0) + (if m ≤ 11 then dl y 11 else 0) + (if m ≤ 12 then dl y 12 else 0)
theorem rest_1 (y : Int) : rest y 1 = dy y := by rw [dy_sum]; unfold rest; simp
theorem rest_13 (y : Int) : rest y 13 = 0 := by unfold rest; simp
theorem rest_step (y m : Int) (h1 : 1 ≤ m) (h2 : m ≤ 12) : rest y m = dl y m + rest y (m + 1) := by
  have : m = 1 ∨ m = 2 ∨ m = 3 ∨ m = 4 ∨ m = 5 ∨ m = 6 ∨ m = 7 ∨ m = 8 ∨ m = 9 ∨ m = 10 ∨ m = 11 ∨ m = 12 := by omega
  rcases this with rfl | rfl | rfl | rfl | rfl | rfl | rfl | rfl | rfl | rfl | rfl | rfl
  all_goals unfold rest; simp <;> omega

theorem rest_nonneg (y m : Int) (h1 : 1 ≤ m) (h2 : m ≤ 13) : 0 ≤ rest y m := by
  have q1 := dl_bd y 1; have q2 := dl_bd y 2; have q3 := dl_bd y 3; have q4 := dl_bd y 4; have q5 := dl_bd y 5; have q6 := dl_bd y 6
  have q7 := dl_bd y 7; have q8 := dl_bd y 8; have q9 := dl_bd y 9; have q10 := dl_bd y 10; have q11 := dl_bd y 11; have q12 := dl_bd y 12
  have : m = 1 ∨ m = 2 ∨ m = 3 ∨ m = 4 ∨ m = 5 ∨ m = 6 ∨ m = 7 ∨ m = 8 ∨ m = 9 ∨ m = 10 ∨ m = 11 ∨ m = 12 ∨ m = 13 := by omega
  rcases this with rfl | rfl | rfl | rfl | rfl | rfl | rfl | rfl | rfl | rfl | rfl | rfl | rfl
  all_goals unfold rest; simp <;> omega

/-- One month down, in the reference. -/
theorem ref_month {x y m : Int} {r : Int × Int × Int × Int} (h1 : 1 ≤ m) (h2 : m ≤ 12) (hx : dl y m ≤ x) (hx1 : x ≤ 40000) (y0 : 0 ≤ y) (y1 : y ≤ 100000)
    (h : Ev (fun k => if m + 1 > 12 then customsref04_Of.l0 k (x - dl y m) (y + 1) 1 else customsref04_Of.l0 k (x - dl y m) y (m + 1)) r) : Ev (fun k => customsref04_Of.l0 k x y m) r := by
  have hb := dl_bd y m
  refine evShift ?_
  simp only [customsref04_Of.l0, len_ref y m h1 h2, Option.bind_some]
  refine evPos hx ?_
  rw [wrap64_id (x := m + 1) (by omega) (by omega), wrap64_id (x := x - dl y m) (by omega) (by omega), wrap64_id (x := y + 1) (by omega) (by omega)]
  exact h
/-- The months that are left of a year. -/
theorem ref_rest {y : Int} {r : Int × Int × Int × Int} (y0 : 0 ≤ y) (y1 : y ≤ 100000) (n : Nat) : ∀ m x : Int, m + n = 12 → 1 ≤ m → rest y m ≤ x → x ≤ 40000 → Ev (fun k => customsref04_Of.l0 k (x - rest y m) (y + 1) 1) r → Ev (fun k => customsref04_Of.l0 k x y m) r := by
  induction n with
  | zero =>
    intro m x hm m1 hx hx1 h
    obtain rfl : m = 12 := by omega
    have e := rest_step y 12 (by omega) (by omega)
    rw [show (12 : Int) + 1 = 13 by omega, rest_13, Int.add_zero] at e
    rw [e] at h hx
    exact ref_month (by omega) (by omega) hx hx1 y0 y1 (evPos (by omega) h)
  | succ n ih =>
    intro m x hm m1 hx hx1 h
    have e := rest_step y m m1 (by omega)
    have hb := dl_bd y m
    have hr := rest_nonneg y (m + 1) (by omega) (by omega)
    refine ref_month m1 (by omega) (by omega) hx1 y0 y1 (evNeg (by omega) ?_)
    refine ih (m + 1) (x - dl y m) (by omega) (by omega) (by omega) (by omega) ?_
    rw [show x - dl y m - rest y (m + 1) = x - rest y m by omega]
    exact h
/-- The months, in both. -/
theorem both_months {y : Int} (y0 : 2000 ≤ y) (y1 : y ≤ 100000) (n : Nat) : ∀ m x : Int, m + n = 13 → 1 ≤ m → 0 ≤ x → x < rest y m → x ≤ 40000 →
    ∃ m' d : Int, Ev (fun k => calendar_Of.l1 k x y m 0) (y, m', d, 0) ∧ Ev (fun k => customsref04_Of.l0 k x y m) (y, m', d, 0) ∧ 1 ≤ m' ∧ m' ≤ 12 ∧ 1 ≤ d ∧ d ≤ 31 := by
  induction n with
  | zero =>
    intro m x hm m1 hx hx1 hx2
    obtain rfl : m = 13 := by omega
    rw [rest_13] at hx1
    omega
  | succ n ih =>
    intro m x hm m1 hx hx1 hx2
    have e := rest_step y m m1 (by omega)
    have hb := dl_bd y m
    by_cases c : x ≥ dl y m
    · have hm2 : m ≠ 12 := by
        rintro rfl
        rw [show (12 : Int) + 1 = 13 by omega, rest_13] at e
        omega
      obtain ⟨m', d, p1, p2, p3⟩ := ih (m + 1) (x - dl y m) (by omega) (by omega) (by omega) (by omega) (by omega)
      refine ⟨m', d, ?_, ?_, p3⟩
      · refine evShift ?_
        simp only [calendar_Of.l1, len_prog y m m1 (by omega), Option.bind_some]
        rw [wrap64_id (x := m + 1) (by omega) (by omega), wrap64_id (x := x - dl y m) (by omega) (by omega)]
        exact evPos c p1
      · exact ref_month m1 (by omega) c hx2 (by omega) y1 (evNeg (by omega) p2)
    · refine ⟨m, x + 1, ?_, ?_, m1, by omega, by omega, by omega⟩
      · refine evShift ?_
        simp only [calendar_Of.l1, len_prog y m m1 (by omega), Option.bind_some]
        rw [wrap64_id (x := x + 1) (by omega) (by omega)]
        exact evNeg c (evNow rfl)
      · refine evShift ?_
        simp only [customsref04_Of.l0, len_ref y m m1 (by omega), Option.bind_some]
        rw [wrap64_id (x := x + 1) (by omega) (by omega)]
        exact evNeg c (evNow rfl)
/-- The years, in both. -/
theorem both_years (n : Nat) : ∀ x y : Int, x = n → x ≤ 40000 → 2000 ≤ y → y + x ≤ 50000 →
    ∃ y' m' d : Int, Ev (fun k => calendar_Of.l0 k x y 1 0) (y', m', d, 0) ∧ Ev (fun k => customsref04_Of.l0 k x y 1) (y', m', d, 0) ∧ 2000 ≤ y' ∧ y' ≤ 50000 ∧ 1 ≤ m' ∧ m' ≤ 12 ∧ 1 ≤ d ∧ d ≤ 31 := by
  induction n using Nat.strongRecOn with
  | _ n ih =>
    intro x y hx hx1 y0 y1
    have hd : 365 ≤ dy y ∧ dy y ≤ 366 := by unfold dy; split <;> omega
    by_cases c : x ≥ dy y
    · obtain ⟨y', m', d, p1, p2, p3⟩ := ih (x - dy y).toNat (by omega) (x - dy y) (y + 1) (by omega) (by omega) (by omega) (by omega)
      refine ⟨y', m', d, ?_, ?_, p3⟩
      · refine evShift ?_
        simp only [calendar_Of.l0, days_some, Option.bind_some]
        rw [wrap64_id (x := y + 1) (by omega) (by omega), wrap64_id (x := x - dy y) (by omega) (by omega)]
        exact evPos c p1
      · refine ref_rest (by omega) (by omega) 11 1 x (by omega) (by omega) (by rw [rest_1]; exact c) hx1 ?_
        rw [rest_1]
        exact p2
    · obtain ⟨m', d, p1, p2, p3, p4, p5, p6⟩ := both_months y0 (by omega) 12 1 x (by omega) (by omega) (by omega) (by rw [rest_1]; omega) hx1
      refine ⟨y, m', d, ?_, p2, y0, by omega, p3, p4, p5, p6⟩
      refine evShift ?_
      simp only [calendar_Of.l0, days_some, Option.bind_some]
      exact evNeg c p1
/-- The date of a day, in both. -/
theorem both_of (x : Int) (h0 : 0 ≤ x) (h1 : x ≤ 36524) : ∃ y' m' d : Int, Ev (fun k => calendar_Of.f k x) (y', m', d, 0) ∧ Ev (fun k => customsref04_Of.f k x) (y', m', d, 0) ∧ 2000 ≤ y' ∧ y' ≤ 50000 ∧ 1 ≤ m' ∧ m' ≤ 12 ∧ 1 ≤ d ∧ d ≤ 31 := by
  obtain ⟨y', m', d, p1, p2, p3⟩ := both_years x.toNat x 2000 (by omega) (by omega) (by omega) (by omega)
  refine ⟨y', m', d, ?_, ?_, p3⟩
  · simp only [calendar_Of.f, calendar_valid.f, if_pos h0, Option.bind_some]
    exact evPos (by simpa using h1) p1
  · simp only [customsref04_Of.f, customsref04_Day.f, if_pos h0, Option.bind_some]
    exact evPos (by simpa using h1) p2

/-- The day of a date, in both: the months. -/
theorem num_months (Y M D : Int) (M1 : M ≤ 12) (n : Nat) : ∀ m x : Int, M - m = n → 1 ≤ m → 0 ≤ x → x ≤ 100000 + 31 * m → ∃ r : Int × Int, Ev (fun k => calendar_Number.l1 k x m Y M D) r ∧ Ev (fun k => customsref04_Number.l1 k x m Y M D) r := by
  induction n with
  | zero =>
    intro m x hm m1 x0 x1
    refine ⟨(x, 0), ?_, ?_⟩
    · refine evShift ?_
      simp only [calendar_Number.l1]
      exact evNeg (by omega) (evNow rfl)
    · refine evShift ?_
      simp only [customsref04_Number.l1]
      exact evNeg (by omega) (evNow rfl)
  | succ n ih =>
    intro m x hm m1 x0 x1
    have hb := dl_bd Y m
    obtain ⟨r, p1, p2⟩ := ih (m + 1) (x + dl Y m) (by omega) (by omega) (by omega) (by omega)
    refine ⟨r, ?_, ?_⟩
    · refine evShift ?_
      simp only [calendar_Number.l1, len_prog Y m m1 (by omega), Option.bind_some]
      rw [wrap64_id (x := m + 1) (by omega) (by omega), wrap64_id (x := x + dl Y m) (by omega) (by omega)]
      exact evPos (by omega) p1
    · refine evShift ?_
      simp only [customsref04_Number.l1, len_ref Y m m1 (by omega), Option.bind_some]
      rw [wrap64_id (x := m + 1) (by omega) (by omega), wrap64_id (x := x + dl Y m) (by omega) (by omega)]
      exact evPos (by omega) p2
/-- The day of a date, in both: the years. -/
theorem num_years (Y M D : Int) (Y1 : Y ≤ 2099) (M0 : 1 ≤ M) (M1 : M ≤ 12) (n : Nat) : ∀ y x : Int, Y - y = n → 2000 ≤ y → 0 ≤ x → x ≤ 31 + 366 * (y - 2000) → ∃ r : Int × Int, Ev (fun k => calendar_Number.l0 k x y Y M D) r ∧ Ev (fun k => customsref04_Number.l0 k x y Y M D) r := by
  induction n with
  | zero =>
    intro y x hy y0 x0 x1
    obtain ⟨r, p1, p2⟩ := num_months Y M D M1 (M - 1).toNat 1 x (by omega) (by omega) x0 (by omega)
    refine ⟨r, ?_, ?_⟩
    · refine evShift ?_
      simp only [calendar_Number.l0]
      exact evNeg (by omega) p1
    · refine evShift ?_
      simp only [customsref04_Number.l0]
      exact evNeg (by omega) p2
  | succ n ih =>
    intro y x hy y0 x0 x1
    have hd : 365 ≤ dy y ∧ dy y ≤ 366 ∧ 337 + dl y 2 = dy y := by unfold dy dl; split <;> simp_all
    have hb := dl_bd y 2
    obtain ⟨r, p1, p2⟩ := ih (y + 1) (x + dy y) (by omega) (by omega) (by omega) (by omega)
    refine ⟨r, ?_, ?_⟩
    · refine evShift ?_
      simp only [calendar_Number.l0, days_some, Option.bind_some]
      rw [wrap64_id (x := y + 1) (by omega) (by omega), wrap64_id (x := x + dy y) (by omega) (by omega)]
      exact evPos (by omega) p1
    · refine evShift ?_
      simp only [customsref04_Number.l0, len_ref y 2 (by omega) (by omega), Option.bind_some]
      rw [wrap64_id (x := y + 1) (by omega) (by omega), wrap64_id (x := x + 337) (by omega) (by omega), wrap64_id (by omega) (by omega), show x + 337 + dl y 2 = x + dy y by omega]
      exact evPos (by omega) p2
theorem both_number (Y M D : Int) (D1 : D ≤ 31) : ∃ r : Int × Int, Ev (fun k => calendar_Number.f k Y M D) r ∧ Ev (fun k => customsref04_Number.f k Y M D) r ∧ (Y > 2099 → r.2 = 2) := by
  have yes1 : ∀ b : Bool, b = true → Ev (fun k => calendar_Number.j0 k b Y M D) (0, 2) := by
    intro b hb
    refine evShift ?_
    simp only [calendar_Number.j0]
    exact evPos hb (evNow rfl)
  have yes2 : ∀ b : Bool, b = true → Ev (fun k => customsref04_Number.j0 k b Y M D) (0, 2) := by
    intro b hb
    refine evShift ?_
    simp only [customsref04_Number.j0]
    exact evPos hb (evNow rfl)
  simp only [calendar_Number.f, customsref04_Number.f]
  by_cases c1 : Y < 2000
  · exact ⟨(0, 2), evPos c1 (yes1 _ rfl), evPos c1 (yes2 _ rfl), fun _ => rfl⟩
  by_cases c2 : Y > 2099
  · exact ⟨(0, 2), evNeg c1 (evPos c2 (yes1 _ rfl)), evNeg c1 (evPos c2 (yes2 _ rfl)), fun _ => rfl⟩
  by_cases c3 : M < 1
  · exact ⟨(0, 2), evNeg c1 (evNeg c2 (evPos c3 (yes1 _ rfl))), evNeg c1 (evNeg c2 (evPos c3 (yes2 _ rfl))), fun _ => rfl⟩
  by_cases c4 : M > 12
  · exact ⟨(0, 2), evNeg c1 (evNeg c2 (evNeg c3 (evPos c4 (yes1 _ rfl)))), evNeg c1 (evNeg c2 (evNeg c3 (evPos c4 (yes2 _ rfl)))), fun _ => rfl⟩
  by_cases c5 : D < 1
  · exact ⟨(0, 2), evNeg c1 (evNeg c2 (evNeg c3 (evNeg c4 (evPos c5 (yes1 _ rfl))))), evNeg c1 (evNeg c2 (evNeg c3 (evNeg c4 (evPos c5 (yes2 _ rfl))))), fun _ => rfl⟩
  rw [len_prog Y M (by omega) (by omega), len_ref Y M (by omega) (by omega)]
  by_cases c6 : D > dl Y M
  · exact ⟨(0, 2), evNeg c1 (evNeg c2 (evNeg c3 (evNeg c4 (evNeg c5 (yes1 _ (by simpa using c6)))))), evNeg c1 (evNeg c2 (evNeg c3 (evNeg c4 (evNeg c5 (yes2 _ (by simpa using c6)))))), fun _ => rfl⟩
  · obtain ⟨r, p1, p2⟩ := num_years Y M D (by omega) (by omega) (by omega) (Y - 2000).toNat 2000 (D - 1) (by omega) (by omega) (by omega) (by omega)
    have e : decide (D > dl Y M) = false := by simpa using c6
    refine ⟨r, evNeg c1 (evNeg c2 (evNeg c3 (evNeg c4 (evNeg c5 ?_)))), evNeg c1 (evNeg c2 (evNeg c3 (evNeg c4 (evNeg c5 ?_)))), fun h => absurd h c2⟩
    · simp only [Option.bind_some, e]
      refine evShift ?_
      simp only [calendar_Number.j0]
      rw [wrap64_id (x := D - 1) (by omega) (by omega)]
      exact evNeg (by simp) p1
    · simp only [Option.bind_some, e]
      refine evShift ?_
      simp only [customsref04_Number.j0]
      rw [wrap64_id (x := D - 1) (by omega) (by omega)]
      exact evNeg (by simp) p2

/-- 'AddMonths', in both. -/
theorem both_add (x n : Int) (h0 : 0 ≤ x) (h1 : x ≤ 36524) (n0 : 0 ≤ n) (n1 : n ≤ 1200) : ∃ r : Int × Int, Ev (fun k => calendar_AddMonths.f k x n) r ∧ Ev (fun k => customsref04_AddMonths.f k x n) r ∧ (n = 1200 → ¬ r.2 = 0) := by
  obtain ⟨y, m, d, p1, p2, y0, y1, m0, m1, d0, d1⟩ := both_of x h0 h1
  have e : decide (n > 1200) = false := by simp; omega
  have w1 : wrap64 (12 * y) = 12 * y := wrap64_id (by omega) (by omega)
  have w2 : wrap64 (12 * y + m) = 12 * y + m := wrap64_id (by omega) (by omega)
  have w3 : wrap64 (12 * y + m - 1) = 12 * y + m - 1 := wrap64_id (by omega) (by omega)
  have w4 : wrap64 (12 * y + m - 1 + n) = 12 * y + m - 1 + n := wrap64_id (by omega) (by omega)
  have t1 : Int.tdiv (12 * y + m - 1 + n) 12 = (12 * y + m - 1 + n) / 12 := Int.tdiv_eq_ediv_of_nonneg (by omega)
  have t2 : Int.tmod (12 * y + m - 1 + n) 12 = (12 * y + m - 1 + n) % 12 := Int.tmod_eq_emod_of_nonneg (by omega)
  have w5 : wrap64 ((12 * y + m - 1 + n) / 12) = (12 * y + m - 1 + n) / 12 := wrap64_id (by omega) (by omega)
  have w6 : wrap64 ((12 * y + m - 1 + n) % 12 + 1) = (12 * y + m - 1 + n) % 12 + 1 := wrap64_id (by omega) (by omega)
  have hm := mn_le d (dl ((12 * y + m - 1 + n) / 12) ((12 * y + m - 1 + n) % 12 + 1))
  obtain ⟨r, q1, q2, q3⟩ := both_number ((12 * y + m - 1 + n) / 12) ((12 * y + m - 1 + n) % 12 + 1) (mn d (dl ((12 * y + m - 1 + n) / 12) ((12 * y + m - 1 + n) % 12 + 1))) (by omega)
  have l1 := len_prog ((12 * y + m - 1 + n) / 12) ((12 * y + m - 1 + n) % 12 + 1) (by omega) (by omega)
  have l2 := len_ref ((12 * y + m - 1 + n) / 12) ((12 * y + m - 1 + n) % 12 + 1) (by omega) (by omega)
  refine ⟨if r.2 = 0 then (r.1, 0) else (0, 3), ?_, ?_, ?_⟩
  · simp only [calendar_AddMonths.f, calendar_valid.f, if_pos h0, Option.bind_some]
    refine evPos (by simpa using h1) (evNeg (by omega) ?_)
    rw [e]
    refine evShift ?_
    simp only [calendar_AddMonths.j0]
    refine evNeg (by simp) (evBind p1 ?_)
    dsimp only
    rw [w1, w2, w3, w4, t1, t2, w5, w6]
    refine evBind0 l1 (evBind q1 (evIf (fun h => ?_) (fun h => ?_)))
    · exact evNow (by rw [if_pos h])
    · exact evNow (by rw [if_neg h])
  · simp only [customsref04_AddMonths.f]
    refine evBind p2 (evPos rfl (evNeg (by omega) ?_))
    rw [e]
    refine evShift ?_
    simp only [customsref04_AddMonths.j0]
    refine evNeg (by simp) ?_
    rw [w1, w2, w3, w4, t1, t2, w5, w6]
    refine evBind0 l2 (evBind q2 (evIf (fun h => ?_) (fun h => ?_)))
    · exact evNow (by rw [if_pos h])
    · exact evNow (by rw [if_neg h])
  · intro hn
    have := q3 (by omega)
    rw [if_neg (by omega)]
    decide

/-- The months that have begun, in both. -/
theorem both_loop (a f t : Int) (h0 : 0 ≤ f) (h1 : f ≤ 36524) (n : Nat) : ∀ k0 : Int, k0 + n = 1200 → 1 ≤ k0 →
    ∃ m : Int, Ev (fun k => position_months.l0 k f t k0) m ∧ Ev (fun k => customsref27_Relief.l0 k a f t k0) (mn a (wrap64 (Int.tdiv (wrap64 ((wrap64 (a * 3)) * m)) 100)), 0) := by
  induction n with
  | zero =>
    intro k0 hk k1
    obtain rfl : k0 = 1200 := by omega
    obtain ⟨r, p1, p2, p3⟩ := both_add f 1200 h0 h1 (by omega) (by omega)
    have p4 := p3 rfl
    refine ⟨1200, ?_, ?_⟩
    · refine evShift ?_
      simp only [position_months.l0]
      exact evPos (by omega) (evBind p1 (evNeg p4 (evNow rfl)))
    · refine evShift ?_
      simp only [customsref27_Relief.l0]
      exact evBind p2 (evNeg p4 (evNow rfl))
  | succ n ih =>
    intro k0 hk k1
    obtain ⟨r, p1, p2, _⟩ := both_add f k0 h0 h1 (by omega) (by omega)
    by_cases c : r.2 = 0
    · by_cases c2 : r.1 > t
      · refine ⟨k0, ?_, ?_⟩
        · refine evShift ?_
          simp only [position_months.l0]
          exact evPos (by omega) (evBind p1 (evPos c (evPos c2 (evNow rfl))))
        · refine evShift ?_
          simp only [customsref27_Relief.l0]
          exact evBind p2 (evPos c (evPos c2 (evNow rfl)))
      · obtain ⟨m, q1, q2⟩ := ih (k0 + 1) (by omega) (by omega)
        have w : wrap64 (k0 + 1) = k0 + 1 := wrap64_id (by omega) (by omega)
        refine ⟨m, ?_, ?_⟩
        · refine evShift ?_
          simp only [position_months.l0, w]
          exact evPos (by omega) (evBind p1 (evPos c (evNeg c2 q1)))
        · refine evShift ?_
          simp only [customsref27_Relief.l0, w]
          exact evBind p2 (evPos c (evNeg c2 q2))
    · refine ⟨k0, ?_, ?_⟩
      · refine evShift ?_
        simp only [position_months.l0]
        exact evPos (by omega) (evBind p1 (evNeg c (evNow rfl)))
      · refine evShift ?_
        simp only [customsref27_Relief.l0]
        exact evBind p2 (evNeg c (evNow rfl))

theorem relief_ev (a f t : Int) : ∃ v, Ev (fun k => position_Relief.f k a f t) v ∧ Ev (fun k => customsref27_Relief.f k a f t) v := by
  have yes : ∀ b : Bool, b = true → Ev (fun k => customsref27_Relief.j0 k a f t b) (0, 2) := by
    intro b hb
    refine evShift ?_
    simp only [customsref27_Relief.j0]
    exact evPos hb (evNow rfl)
  simp only [position_Relief.f, customsref27_Relief.f]
  by_cases c1 : a < 0
  · exact ⟨(0, 2), evPos c1 (evNow rfl), evPos c1 (yes _ rfl)⟩
  by_cases c2 : a > 1000000000000
  · exact ⟨(0, 2), evNeg c1 (evPos c2 (evNow rfl)), evNeg c1 (evPos c2 (yes _ rfl))⟩
  by_cases c3 : f < 0
  · exact ⟨(0, 2), evNeg c1 (evNeg c2 (evPos c3 (evNow rfl))), evNeg c1 (evNeg c2 (evPos c3 (yes _ rfl)))⟩
  by_cases c4 : f > t
  · exact ⟨(0, 2), evNeg c1 (evNeg c2 (evNeg c3 (evPos c4 (evNow rfl)))), evNeg c1 (evNeg c2 (evNeg c3 (evPos c4 (yes _ rfl))))⟩
  by_cases c5 : t > 36524
  · exact ⟨(0, 2), evNeg c1 (evNeg c2 (evNeg c3 (evNeg c4 (evPos c5 (evNow rfl))))), evNeg c1 (evNeg c2 (evNeg c3 (evNeg c4 (yes _ (by simpa using c5)))))⟩
  obtain ⟨m, q1, q2⟩ := both_loop a f t (by omega) (by omega) 1199 1 (by omega) (by omega)
  refine ⟨_, evNeg c1 (evNeg c2 (evNeg c3 (evNeg c4 (evNeg c5 (evBind q1 (evNow rfl)))))), evNeg c1 (evNeg c2 (evNeg c3 (evNeg c4 ?_)))⟩
  have e : decide (t > 36524) = false := by simpa using c5
  rw [e]
  refine evShift ?_
  simp only [customsref27_Relief.j0]
  exact evNeg (by simp) q2

theorem PositionRelief (a0 a1 a2 : Int) (a3 : Bool) : ∃ k, customslaw28_PositionRelief.f k a0 a1 a2 a3 = some true := by
  refine Ev.rounds (g := fun k => customslaw28_PositionRelief.f k a0 a1 a2 a3) ?_
  unfold customslaw28_PositionRelief.f
  have core : ∀ a f t, Ev (fun k => (position_Relief.f k a f t).bind fun bt212 => ((customsref27_Relief.f k a f t).bind fun bt214 => (if bt212.1 = bt214.1 then (if bt212.2 = bt214.2 then ((customslaw28_awake.f k).bind fun t216 => (some t216)) else (some false)) else (some false)))) true := by
    intro a f t
    obtain ⟨v, p1, p2⟩ := relief_ev a f t
    exact evBind p1 (evBind p2 (evPos rfl (evPos rfl (evBind awake_ev (evNow rfl)))))
  refine evIf (fun _ => core _ _ _) (fun _ => ?_)
  obtain ⟨x, hx, _, _⟩ := within_some a0 100000 (by decide) (by decide)
  obtain ⟨y, hy, _, _⟩ := within_some a1 35000 (by decide) (by decide)
  obtain ⟨z, hz, _, _⟩ := within_some a2 1500 (by decide) (by decide)
  exact evBind0 hx (evBind0 hy (evBind0 hz (core _ _ _)))

end Go.Proofs.YtbhknenjcbinaaaDoor.ER
