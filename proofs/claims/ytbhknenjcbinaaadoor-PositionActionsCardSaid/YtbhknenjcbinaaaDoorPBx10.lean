-- Written by a program of this claim (wip/tools: mkprint.py, pr.sh) out of the translation: plain functions and their contracts. Lean checks every line.
import Derived.Test.YtbhknenjcbinaaaDoorPBx0
import Derived.Test.YtbhknenjcbinaaaDoorPBx2
import Derived.Test.YtbhknenjcbinaaaDoorPBx6
namespace Go.Proofs.YtbhknenjcbinaaaDoor.PB
open Go.RowKit Go.Proofs.YtbhknenjcbinaaaDoorW.PrintWords Go.Proofs.YtbhknenjcbinaaaDoorW.PrintLast Go.Proofs.YtbhknenjcbinaaaDoorW.PrintMore Go.Proofs.YtbhknenjcbinaaaDoor.PA Go.Proofs.YtbhknenjcbinaaaDoor.G
attribute [local go_sem] max2_int min2_int max_two min_two max_three min_three max_four min_four   -- for this text's walks alone
set_option linter.unusedVariables false
set_option linter.unusedSimpArgs false

/-! ### customsref21_MulDiv: function 23 -/
mutual
def customsref21_MulDiv.l0 : Nat → Int → Int → Int → Int → Int → Int → Int → Option (Int)
  | 0, _, _, _, _, _, _, _ => none
  | k + 1, x1, x2, x7, x8, x9, x10, x11 => if x11 ≥ 0 then (if (wrap64 (2 * x10)) ≥ x2 then (customsref21_MulDiv.j1 k x1 x2 x7 x8 (wrap64 ((wrap64 (2 * x9)) + 1)) (wrap64 ((wrap64 (2 * x10)) - x2)) x11) else (customsref21_MulDiv.j1 k x1 x2 x7 x8 (wrap64 (2 * x9)) (wrap64 (2 * x10)) x11)) else (some (wrap64 (x7 + x9)))
def customsref21_MulDiv.j1 : Nat → Int → Int → Int → Int → Int → Int → Int → Option (Int)
  | 0, _, _, _, _, _, _, _ => none
  | k + 1, x1, x2, x7, x8, x9, x10, x11 => if 0 ≤ x11 then (if (Go.bits .and .i64 (shr .i64 x1 x11) 1) = 1 then (if (wrap64 (x10 + x8)) ≥ x2 then (customsref21_MulDiv.l0 k x1 x2 x7 x8 (wrap64 (x9 + 1)) (wrap64 ((wrap64 (x10 + x8)) - x2)) (wrap64 (x11 - 1))) else (customsref21_MulDiv.l0 k x1 x2 x7 x8 x9 (wrap64 (x10 + x8)) (wrap64 (x11 - 1)))) else (customsref21_MulDiv.l0 k x1 x2 x7 x8 x9 x10 (wrap64 (x11 - 1)))) else (none)
end
def customsref21_MulDiv.f (k : Nat) (a0 : Int) (a1 : Int) (a2 : Int) : Option (Int) := if a2 = 0 then (none) else (customsref21_MulDiv.l0 k a1 a2 (wrap64 ((wrap64 (Int.tdiv a0 a2)) * a1)) (Int.tmod a0 a2) 0 0 60)
theorem customsref21_MulDiv.mono_l : ∀ k, (∀ y0 y1 y2 y3 y4 y5 y6, LeO (customsref21_MulDiv.l0 k y0 y1 y2 y3 y4 y5 y6) (customsref21_MulDiv.l0 (k + 1) y0 y1 y2 y3 y4 y5 y6)) ∧ (∀ y0 y1 y2 y3 y4 y5 y6, LeO (customsref21_MulDiv.j1 k y0 y1 y2 y3 y4 y5 y6) (customsref21_MulDiv.j1 (k + 1) y0 y1 y2 y3 y4 y5 y6))
  | 0 => ⟨fun _ _ _ _ _ _ _ r h => by simp [customsref21_MulDiv.l0] at h, fun _ _ _ _ _ _ _ r h => by simp [customsref21_MulDiv.j1] at h⟩
  | k + 1 => by
    obtain ⟨ih0, ih1⟩ := customsref21_MulDiv.mono_l k
    refine ⟨?_, ?_⟩
    · intro y0 y1 y2 y3 y4 y5 y6
      unfold customsref21_MulDiv.l0
      repeat' first
      | (with_reducible exact ih0 _ _ _ _ _ _ _)
      | (with_reducible exact ih1 _ _ _ _ _ _ _)
      | (with_reducible exact LeO.refl _)
      | (with_reducible exact LeO.none _)
      | (with_reducible refine LeO.ite ?_ ?_)
      | (with_reducible refine LeO.bind ?_ (fun _ => ?_))
      | exact ih0 _ _ _ _ _ _ _
      | exact ih1 _ _ _ _ _ _ _
      | exact LeO.none _
      | refine LeO.ite ?_ ?_
      | refine LeO.bind ?_ (fun _ => ?_)
    · intro y0 y1 y2 y3 y4 y5 y6
      unfold customsref21_MulDiv.j1
      repeat' first
      | (with_reducible exact ih0 _ _ _ _ _ _ _)
      | (with_reducible exact ih1 _ _ _ _ _ _ _)
      | (with_reducible exact LeO.refl _)
      | (with_reducible exact LeO.none _)
      | (with_reducible refine LeO.ite ?_ ?_)
      | (with_reducible refine LeO.bind ?_ (fun _ => ?_))
      | exact ih0 _ _ _ _ _ _ _
      | exact ih1 _ _ _ _ _ _ _
      | exact LeO.none _
      | refine LeO.ite ?_ ?_
      | refine LeO.bind ?_ (fun _ => ?_)
theorem customsref21_MulDiv.mono : ∀ a0 a1 a2 k, LeO (customsref21_MulDiv.f k a0 a1 a2) (customsref21_MulDiv.f (k + 1) a0 a1 a2) := by
  intro a0 a1 a2 k
  obtain ⟨ih0, ih1⟩ := customsref21_MulDiv.mono_l k
  unfold customsref21_MulDiv.f
  repeat' first
      | (with_reducible exact ih0 _ _ _ _ _ _ _)
      | (with_reducible exact ih1 _ _ _ _ _ _ _)
      | (with_reducible exact LeO.refl _)
      | (with_reducible exact LeO.none _)
      | (with_reducible refine LeO.ite ?_ ?_)
      | (with_reducible refine LeO.bind ?_ (fun _ => ?_))
      | exact ih0 _ _ _ _ _ _ _
      | exact ih1 _ _ _ _ _ _ _
      | exact LeO.none _
      | refine LeO.ite ?_ ?_
      | refine LeO.bind ?_ (fun _ => ?_)
set_option maxHeartbeats 8000000 in
set_option maxRecDepth 100000 in
theorem customsref21_MulDiv.calls (k : Nat) (a0 : Int) (a1 : Int) (a2 : Int) (r : Int) (w : World) (h : customsref21_MulDiv.f k a0 a1 a2 = some r) :
    Calls Tryd.prog 23 #[.int .i64 a0, .int .i64 a1, .int .i64 a2] w fun e w' => e = .returned (.int .i64 r) ∧ Drawn0 w w' := by
  have H : (if a2 = 0 then (none) else (customsref21_MulDiv.l0 k a1 a2 (wrap64 ((wrap64 (Int.tdiv a0 a2)) * a1)) (Int.tmod a0 a2) 0 0 60)) = some r := h
  clear h
  by_cases c4 : a2 = 0
  · rw [if_pos c4] at H
    exact absurd H (by simp)
  · rw [if_neg c4] at H
    have c4b0 : (a2 == 0) = false := beq_eq_false_iff_ne.mpr c4
    have c4b1 : (a2 != 0) = true := bne_iff_ne.mpr c4
    have H' := Aside0.mk H
    clear H
    go_enter Tryd.func23, Tryd.ntmps23
    go_wp2
    repeat (go_quiet (fail); try go_wp2)
    go_loopg [9, 10, 11] k (fun kq v9 v10 v11 w' => ∃ (x9_1 : Int) (x10_1 : Int) (x11_1 : Int), v9 = .int .i64 x9_1 ∧ v10 = .int .i64 x10_1 ∧ v11 = .int .i64 x11_1 ∧ Aside0 (customsref21_MulDiv.l0 kq a1 a2 (wrap64 ((wrap64 (Int.tdiv a0 a2)) * a1)) (Int.tmod a0 a2) x9_1 x10_1 x11_1 = some r) ∧ Aside0 (kq ≤ k) ∧ Drawn0 w w')
    case atStart => exact ⟨(0), (0), (60), (by first | rfl | (simp; done) | (simp [*]; done)), (by first | rfl | (simp; done) | (simp [*]; done)), (by first | rfl | (simp; done) | (simp [*]; done)), H', ⟨Nat.le_refl _⟩, by repeat (first | exact Drawn0.refl _ | apply Drawn0.step)⟩
    case round =>
      clear H'
      try clear c2
      try clear p2
      try clear c4
      try clear c4b0
      try clear c4b1
      obtain ⟨x9_1, x10_1, x11_1, rfl, rfl, rfl, HA, HK1, ⟨m1, rfl⟩⟩ := hrel
      cases gk with
      | zero => exact absurd HA.out (by simp [customsref21_MulDiv.l0])
      | succ k1 =>
        have H := HA.out
        clear HA
        simp only [customsref21_MulDiv.l0] at H
        by_cases c5 : x11_1 ≥ 0
        · rw [if_pos c5] at H
          have c5b0 : decide (0 ≤ x11_1) = true := decide_eq_true c5
          clear c5
          have HC6 := Aside0.mk H
          clear H
          go_upto_if 30 with (fail)
          repeat (go_quiet (fail); go_upto_if 30 with (fail))
          go_cut [9, 10] (fun v9 v10 wc => ∃ (kq : Nat) (x9_5 : Int) (x10_5 : Int), v9 = .int .i64 x9_5 ∧ v10 = .int .i64 x10_5 ∧ Aside0 (customsref21_MulDiv.j1 kq a1 a2 (wrap64 ((wrap64 (Int.tdiv a0 a2)) * a1)) (Int.tmod a0 a2) x9_5 x10_5 x11_1 = some r) ∧ Aside0 (kq ≤ k1) ∧ Drawn0 w wc)
          case first =>
            have H := HC6.out
            clear HC6
            by_cases c7 : (wrap64 (2 * x10_1)) ≥ a2
            · rw [if_pos c7] at H
              have c7b0 : decide (a2 ≤ (wrap64 (2 * x10_1))) = true := decide_eq_true c7
              clear c7
              (first | rw [c7b0] | (simp only [i64_w, i32_w]; rw [c7b0]) | skip)
              have H' := Aside0.mk H
              clear H
              go_wp2
              repeat (go_quiet (fail); try go_wp2)
              go_meet
              case rel => exact ⟨_, (wrap64 ((wrap64 (2 * x9_1)) + 1)), (wrap64 ((wrap64 (2 * x10_1)) - a2)), (by first | rfl | (simp; done) | (simp [*]; done)), (by first | rfl | (simp; done) | (simp [*]; done)), H', ⟨by have := HK1.out; first | omega | exact Nat.le_refl _⟩, by repeat (first | exact Drawn0.refl _ | apply Drawn0.step)⟩
            · rw [if_neg c7] at H
              have c7b0 : decide (a2 ≤ (wrap64 (2 * x10_1))) = false := decide_eq_false c7
              clear c7
              (first | rw [c7b0] | (simp only [i64_w, i32_w]; rw [c7b0]) | skip)
              have H' := Aside0.mk H
              clear H
              go_wp2
              repeat (go_quiet (fail); try go_wp2)
              go_meet
              case rel => exact ⟨_, (wrap64 (2 * x9_1)), (wrap64 (2 * x10_1)), (by first | rfl | (simp; done) | (simp [*]; done)), (by first | rfl | (simp; done) | (simp [*]; done)), H', ⟨by have := HK1.out; first | omega | exact Nat.le_refl _⟩, by repeat (first | exact Drawn0.refl _ | apply Drawn0.step)⟩
          case rest =>
            clear HC6
            try clear c2
            try clear p2
            try clear c4
            try clear c4b0
            try clear c4b1
            try clear c5
            try clear c5b0
            try clear p6
            try clear c7
            try clear c7b0
            try clear p2
            obtain ⟨kq, x9_5, x10_5, rfl, rfl, HA, HJ5, ⟨mc5, rfl⟩⟩ := hcut
            cases kq with
            | zero => exact absurd HA.out (by simp [customsref21_MulDiv.j1])
            | succ kj5 =>
              have H := HA.out
              clear HA
              simp only [customsref21_MulDiv.j1] at H
              by_cases c8 : 0 ≤ x11_1
              · rw [if_pos c8] at H
                have c8b0 := eq_true c8
                have c8b1 : decide (0 ≤ x11_1) = true := decide_eq_true c8
                clear c8
                obtain ⟨ji9, hji9⟩ : ∃ j_ : Int, (shr .i64 a1 x11_1) = j_ := ⟨_, rfl⟩
                replace H : (if (Go.bits .and .i64 (ji9) 1) = 1 then (if (wrap64 (x10_5 + (Int.tmod a0 a2))) ≥ a2 then (customsref21_MulDiv.l0 kj5 a1 a2 (wrap64 ((wrap64 (Int.tdiv a0 a2)) * a1)) (Int.tmod a0 a2) (wrap64 (x9_5 + 1)) (wrap64 ((wrap64 (x10_5 + (Int.tmod a0 a2))) - a2)) (wrap64 (x11_1 - 1))) else (customsref21_MulDiv.l0 kj5 a1 a2 (wrap64 ((wrap64 (Int.tdiv a0 a2)) * a1)) (Int.tmod a0 a2) x9_5 (wrap64 (x10_5 + (Int.tmod a0 a2))) (wrap64 (x11_1 - 1)))) else (customsref21_MulDiv.l0 kj5 a1 a2 (wrap64 ((wrap64 (Int.tdiv a0 a2)) * a1)) (Int.tmod a0 a2) x9_5 x10_5 (wrap64 (x11_1 - 1)))) = some r := by first | (rw [hji9] at H; exact H) | (simp only [hji9] at H ⊢; exact H)
                have hji9_ : (a1 / 2 ^ min x11_1.toNat 64) = ji9 := hji9
                have hji9z : x11_1 ≤ 64 → (a1 / 2 ^ x11_1.toNat) = ji9 := shr_small hji9
                by_cases c10 : (Go.bits .and .i64 (ji9) 1) = 1
                · rw [if_pos c10] at H
                  have c10b0 : ((Go.bits .and .i64 (ji9) 1) == 1) = true := beq_iff_eq.mpr c10
                  have c10b1 : ((Go.bits .and .i64 (ji9) 1) != 1) = false := bne_eq_false_iff_eq.mpr c10
                  clear c10
                  by_cases c11 : (wrap64 (x10_5 + (Int.tmod a0 a2))) ≥ a2
                  · rw [if_pos c11] at H
                    have c11b0 : decide (a2 ≤ (wrap64 (x10_5 + (Int.tmod a0 a2)))) = true := decide_eq_true c11
                    clear c11
                    have H' := Aside0.mk H
                    clear H
                    go_wp2
                    repeat (go_quiet (fail); try go_wp2)
                    go_roundg kj5
                    case measure => have := HK1.out; have := HJ5.out; omega
                    case rel => exact ⟨(wrap64 (x9_5 + 1)), (wrap64 ((wrap64 (x10_5 + (Int.tmod a0 a2))) - a2)), (wrap64 (x11_1 - 1)), (by first | rfl | (simp; done) | (simp [*]; done)), (by first | rfl | (simp; done) | (simp [*]; done)), (by first | rfl | (simp; done) | (simp [*]; done)), H', ⟨by have := HK1.out; have := HJ5.out; omega⟩, by repeat (first | exact Drawn0.refl _ | apply Drawn0.step)⟩
                  · rw [if_neg c11] at H
                    have c11b0 : decide (a2 ≤ (wrap64 (x10_5 + (Int.tmod a0 a2)))) = false := decide_eq_false c11
                    clear c11
                    have H' := Aside0.mk H
                    clear H
                    go_wp2
                    repeat (go_quiet (fail); try go_wp2)
                    go_roundg kj5
                    case measure => have := HK1.out; have := HJ5.out; omega
                    case rel => exact ⟨(x9_5), (wrap64 (x10_5 + (Int.tmod a0 a2))), (wrap64 (x11_1 - 1)), (by first | rfl | (simp; done) | (simp [*]; done)), (by first | rfl | (simp; done) | (simp [*]; done)), (by first | rfl | (simp; done) | (simp [*]; done)), H', ⟨by have := HK1.out; have := HJ5.out; omega⟩, by repeat (first | exact Drawn0.refl _ | apply Drawn0.step)⟩
                · rw [if_neg c10] at H
                  have c10b0 : ((Go.bits .and .i64 (ji9) 1) == 1) = false := beq_eq_false_iff_ne.mpr c10
                  have c10b1 : ((Go.bits .and .i64 (ji9) 1) != 1) = true := bne_iff_ne.mpr c10
                  have H' := Aside0.mk H
                  clear H
                  go_wp2
                  repeat (go_quiet (fail); try go_wp2)
                  go_roundg kj5
                  case measure => have := HK1.out; have := HJ5.out; omega
                  case rel => exact ⟨(x9_5), (x10_5), (wrap64 (x11_1 - 1)), (by first | rfl | (simp; done) | (simp [*]; done)), (by first | rfl | (simp; done) | (simp [*]; done)), (by first | rfl | (simp; done) | (simp [*]; done)), H', ⟨by have := HK1.out; have := HJ5.out; omega⟩, by repeat (first | exact Drawn0.refl _ | apply Drawn0.step)⟩
              · rw [if_neg c8] at H
                exact absurd H (by simp)
        · rw [if_neg c5] at H
          have c5b0 : decide (0 ≤ x11_1) = false := decide_eq_false c5
          clear c5
          obtain rfl := Option.some.inj H
          go_wp2
          repeat (go_quiet (fail); try go_wp2)
          go_ret
          exact ⟨by first | rfl | (simp; done) | (simp [*]; done), by repeat (first | exact Drawn0.refl _ | apply Drawn0.step)⟩

/-! ### customsref27_Interest: function 15 -/
def customsref27_Interest.f (k : Nat) (a0 : Int) (a1 : Int) (a2 : Int) (a3 : Int) : Option (Int × Int) := if a0 < 0 then (some (0, 2)) else (if a0 > 1000000000000 then (some (0, 2)) else (if a1 < 0 then (some (0, 2)) else (if a1 > 1000000 then (some (0, 2)) else (if a2 < 0 then (some (0, 2)) else (if a2 > a3 then (some (0, 2)) else (if a3 > 36524 then (some (0, 2)) else ((customsref21_MulDiv.f k a0 (wrap64 (a1 * (wrap64 (a3 - a2)))) 365000000).bind fun t225 => (some (t225, 0)))))))))
theorem customsref27_Interest.mono : ∀ a0 a1 a2 a3 k, LeO (customsref27_Interest.f k a0 a1 a2 a3) (customsref27_Interest.f (k + 1) a0 a1 a2 a3) := by
  intro a0 a1 a2 a3 k
  unfold customsref27_Interest.f
  repeat' first
      | (with_reducible exact customsref21_MulDiv.mono _ _ _ _)
      | (with_reducible exact LeO.refl _)
      | (with_reducible exact LeO.none _)
      | (with_reducible refine LeO.ite ?_ ?_)
      | (with_reducible refine LeO.bind ?_ (fun _ => ?_))
      | exact customsref21_MulDiv.mono _ _ _ _
      | exact LeO.none _
      | refine LeO.ite ?_ ?_
      | refine LeO.bind ?_ (fun _ => ?_)
set_option maxHeartbeats 8000000 in
set_option maxRecDepth 100000 in
theorem customsref27_Interest.calls (k : Nat) (a0 : Int) (a1 : Int) (a2 : Int) (a3 : Int) (r1 : Int) (r2 : Int) (w : World) (h : customsref27_Interest.f k a0 a1 a2 a3 = some (r1, r2)) :
    Calls Tryd.prog 15 #[.int .i64 a0, .int .i64 a1, .int .i64 a2, .int .i64 a3] w fun e w' => e = .returned (.tuple #[.int .i64 r1, .int .i64 r2]) ∧ Drawn0 w w' := by
  have H : (if a0 < 0 then (some (0, 2)) else (if a0 > 1000000000000 then (some (0, 2)) else (if a1 < 0 then (some (0, 2)) else (if a1 > 1000000 then (some (0, 2)) else (if a2 < 0 then (some (0, 2)) else (if a2 > a3 then (some (0, 2)) else (if a3 > 36524 then (some (0, 2)) else ((customsref21_MulDiv.f k a0 (wrap64 (a1 * (wrap64 (a3 - a2)))) 365000000).bind fun t225 => (some (t225, 0)))))))))) = some (r1, r2) := h
  clear h
  by_cases c5 : a0 < 0
  · rw [if_pos c5] at H
    have c5b0 : decide (a0 < 0) = true := decide_eq_true c5
    clear c5
    simp only [Option.some.injEq, Prod.mk.injEq] at H
    obtain ⟨rfl, rfl⟩ := H
    go_enter Tryd.func15, Tryd.ntmps15
    go_wp2
    go_ret2
    exact ⟨by first | rfl | (simp; done) | (simp [*]; done), by repeat (first | exact Drawn0.refl _ | apply Drawn0.step)⟩
  · rw [if_neg c5] at H
    have c5b0 : decide (a0 < 0) = false := decide_eq_false c5
    clear c5
    by_cases c6 : a0 > 1000000000000
    · rw [if_pos c6] at H
      have c6b0 : decide (1000000000000 < a0) = true := decide_eq_true c6
      clear c6
      simp only [Option.some.injEq, Prod.mk.injEq] at H
      obtain ⟨rfl, rfl⟩ := H
      go_enter Tryd.func15, Tryd.ntmps15
      go_wp2
      go_ret2
      exact ⟨by first | rfl | (simp; done) | (simp [*]; done), by repeat (first | exact Drawn0.refl _ | apply Drawn0.step)⟩
    · rw [if_neg c6] at H
      have c6b0 : decide (1000000000000 < a0) = false := decide_eq_false c6
      clear c6
      by_cases c7 : a1 < 0
      · rw [if_pos c7] at H
        have c7b0 : decide (a1 < 0) = true := decide_eq_true c7
        clear c7
        simp only [Option.some.injEq, Prod.mk.injEq] at H
        obtain ⟨rfl, rfl⟩ := H
        go_enter Tryd.func15, Tryd.ntmps15
        go_wp2
        go_ret2
        exact ⟨by first | rfl | (simp; done) | (simp [*]; done), by repeat (first | exact Drawn0.refl _ | apply Drawn0.step)⟩
      · rw [if_neg c7] at H
        have c7b0 : decide (a1 < 0) = false := decide_eq_false c7
        clear c7
        by_cases c8 : a1 > 1000000
        · rw [if_pos c8] at H
          have c8b0 : decide (1000000 < a1) = true := decide_eq_true c8
          clear c8
          simp only [Option.some.injEq, Prod.mk.injEq] at H
          obtain ⟨rfl, rfl⟩ := H
          go_enter Tryd.func15, Tryd.ntmps15
          go_wp2
          go_ret2
          exact ⟨by first | rfl | (simp; done) | (simp [*]; done), by repeat (first | exact Drawn0.refl _ | apply Drawn0.step)⟩
        · rw [if_neg c8] at H
          have c8b0 : decide (1000000 < a1) = false := decide_eq_false c8
          clear c8
          by_cases c9 : a2 < 0
          · rw [if_pos c9] at H
            have c9b0 : decide (a2 < 0) = true := decide_eq_true c9
            clear c9
            simp only [Option.some.injEq, Prod.mk.injEq] at H
            obtain ⟨rfl, rfl⟩ := H
            go_enter Tryd.func15, Tryd.ntmps15
            go_wp2
            go_ret2
            exact ⟨by first | rfl | (simp; done) | (simp [*]; done), by repeat (first | exact Drawn0.refl _ | apply Drawn0.step)⟩
          · rw [if_neg c9] at H
            have c9b0 : decide (a2 < 0) = false := decide_eq_false c9
            clear c9
            by_cases c10 : a2 > a3
            · rw [if_pos c10] at H
              have c10b0 : decide (a3 < a2) = true := decide_eq_true c10
              clear c10
              simp only [Option.some.injEq, Prod.mk.injEq] at H
              obtain ⟨rfl, rfl⟩ := H
              go_enter Tryd.func15, Tryd.ntmps15
              go_wp2
              go_ret2
              exact ⟨by first | rfl | (simp; done) | (simp [*]; done), by repeat (first | exact Drawn0.refl _ | apply Drawn0.step)⟩
            · rw [if_neg c10] at H
              have c10b0 : decide (a3 < a2) = false := decide_eq_false c10
              clear c10
              by_cases c11 : a3 > 36524
              · rw [if_pos c11] at H
                have c11b0 : decide (36524 < a3) = true := decide_eq_true c11
                clear c11
                simp only [Option.some.injEq, Prod.mk.injEq] at H
                obtain ⟨rfl, rfl⟩ := H
                go_enter Tryd.func15, Tryd.ntmps15
                go_wp2
                go_ret2
                exact ⟨by first | rfl | (simp; done) | (simp [*]; done), by repeat (first | exact Drawn0.refl _ | apply Drawn0.step)⟩
              · rw [if_neg c11] at H
                have c11b0 : decide (36524 < a3) = false := decide_eq_false c11
                clear c11
                replace H := Option.bind_eq_some_iff.mp H
                obtain ⟨t225, A120, H⟩ := H
                replace H : (some (t225, 0)) = some (r1, r2) := H
                have A12 := Aside0.mk A120
                clear A120
                simp only [Option.some.injEq, Prod.mk.injEq] at H
                obtain ⟨rfl, rfl⟩ := H
                go_enter Tryd.func15, Tryd.ntmps15
                go_wp2_with (first | ((with_reducible refine gate_callee (f := 23) rfl ?_); refine goesL_ (some 43) rfl rfl Tryd.func23 (by kernel_rfl) rfl #[.int .i64 a0, .int .i64 (wrap64 (a1 * (wrap64 (a3 - a2)))), .int .i64 365000000] rfl (by (try simp only [List.map_toArray, List.map_cons, List.map_nil]); first | done | rfl | (simp only [List.length_drop, List.length_take]; rfl)) ?_; (with_reducible refine (customsref21_MulDiv.calls k a0 (wrap64 (a1 * (wrap64 (a3 - a2)))) 365000000 t225 _ A12.out).mono ?_); rintro e w' ⟨rfl, ⟨nd, rfl⟩⟩; refine ⟨_, rfl, ?_⟩))
                go_ret2
                exact ⟨by first | rfl | (simp; done) | (simp [*]; done), by repeat (first | exact Drawn0.refl _ | apply Drawn0.step)⟩

/-! ### customslaw28_PositionInterest: function 6 -/
mutual
def customslaw28_PositionInterest.j0 : Nat → Int → Int → Int → Int → Int → Bool → Option (Bool)
  | 0, _, _, _, _, _, _ => none
  | k + 1, x0, x1, x2, x3, x4, x5 => (position_Interest.f k x0 x1 x2 x3).bind fun bt231 => ((customsref27_Interest.f k x0 x1 x2 x3).bind fun bt233 => (if bt231.1 = bt233.1 then (customslaw28_PositionInterest.j1 k x0 x1 x2 x3 x4 x5 bt231.1 bt231.2 (bt231.2 != bt233.2)) else (customslaw28_PositionInterest.j1 k x0 x1 x2 x3 x4 x5 bt231.1 bt231.2 true)))
def customslaw28_PositionInterest.j1 : Nat → Int → Int → Int → Int → Int → Bool → Int → Int → Bool → Option (Bool)
  | 0, _, _, _, _, _, _, _, _, _ => none
  | k + 1, x0, x1, x2, x3, x4, x5, x13, x14, x64 => if x64 = true then (some false) else (if x5 = true then ((customslaw28_awake.f k).bind fun t235 => (some t235)) else ((position_Interest.f k x0 x1 x2 x4).bind fun bt236 => ((position_Interest.f k x0 x1 x4 x3).bind fun bt238 => (if x14 = 0 then (if bt236.2 = 0 then (if bt238.2 = 0 then (if (wrap64 (bt236.1 + bt238.1)) ≤ x13 then (if x13 ≤ (wrap64 ((wrap64 (bt236.1 + bt238.1)) + 1)) then ((customslaw28_awake.f k).bind fun t240 => (some t240)) else (some false)) else (some false)) else (some false)) else (some false)) else (some false)))))
end
def customslaw28_PositionInterest.f (k : Nat) (a0 : Int) (a1 : Int) (a2 : Int) (a3 : Int) (a4 : Int) (a5 : Bool) : Option (Bool) := if a5 = true then (customslaw28_PositionInterest.j0 k a0 a1 a2 a3 a4 a5) else ((customsmade_Within.f a0 1000000000001).bind fun t226 => ((customsmade_Within.f a1 1000001).bind fun t227 => ((customsmade_Within.f a2 30000).bind fun t228 => ((customsmade_Within.f a3 6000).bind fun t229 => ((customsmade_Within.f a4 (wrap64 ((wrap64 ((wrap64 (t228 + t229)) - t228)) + 1))).bind fun t230 => (customslaw28_PositionInterest.j0 k t226 t227 t228 (wrap64 (t228 + t229)) (wrap64 (t228 + t230)) a5))))))
theorem customslaw28_PositionInterest.mono_l : ∀ k, (∀ y0 y1 y2 y3 y4 y5, LeO (customslaw28_PositionInterest.j0 k y0 y1 y2 y3 y4 y5) (customslaw28_PositionInterest.j0 (k + 1) y0 y1 y2 y3 y4 y5)) ∧ (∀ y0 y1 y2 y3 y4 y5 y6 y7 y8, LeO (customslaw28_PositionInterest.j1 k y0 y1 y2 y3 y4 y5 y6 y7 y8) (customslaw28_PositionInterest.j1 (k + 1) y0 y1 y2 y3 y4 y5 y6 y7 y8))
  | 0 => ⟨fun _ _ _ _ _ _ r h => by simp [customslaw28_PositionInterest.j0] at h, fun _ _ _ _ _ _ _ _ _ r h => by simp [customslaw28_PositionInterest.j1] at h⟩
  | k + 1 => by
    obtain ⟨ih0, ih1⟩ := customslaw28_PositionInterest.mono_l k
    refine ⟨?_, ?_⟩
    · intro y0 y1 y2 y3 y4 y5
      unfold customslaw28_PositionInterest.j0
      repeat' first
      | (with_reducible exact ih0 _ _ _ _ _ _)
      | (with_reducible exact ih1 _ _ _ _ _ _ _ _ _)
      | (with_reducible exact customslaw28_awake.mono _)
      | (with_reducible exact customsref27_Interest.mono _ _ _ _ _)
      | (with_reducible exact position_Interest.mono _ _ _ _ _)
      | (with_reducible exact LeO.refl _)
      | (with_reducible exact LeO.none _)
      | (with_reducible refine LeO.ite ?_ ?_)
      | (with_reducible refine LeO.bind ?_ (fun _ => ?_))
      | exact ih0 _ _ _ _ _ _
      | exact ih1 _ _ _ _ _ _ _ _ _
      | exact customslaw28_awake.mono _
      | exact customsref27_Interest.mono _ _ _ _ _
      | exact position_Interest.mono _ _ _ _ _
      | exact LeO.none _
      | refine LeO.ite ?_ ?_
      | refine LeO.bind ?_ (fun _ => ?_)
    · intro y0 y1 y2 y3 y4 y5 y6 y7 y8
      unfold customslaw28_PositionInterest.j1
      repeat' first
      | (with_reducible exact ih0 _ _ _ _ _ _)
      | (with_reducible exact ih1 _ _ _ _ _ _ _ _ _)
      | (with_reducible exact customslaw28_awake.mono _)
      | (with_reducible exact customsref27_Interest.mono _ _ _ _ _)
      | (with_reducible exact position_Interest.mono _ _ _ _ _)
      | (with_reducible exact LeO.refl _)
      | (with_reducible exact LeO.none _)
      | (with_reducible refine LeO.ite ?_ ?_)
      | (with_reducible refine LeO.bind ?_ (fun _ => ?_))
      | exact ih0 _ _ _ _ _ _
      | exact ih1 _ _ _ _ _ _ _ _ _
      | exact customslaw28_awake.mono _
      | exact customsref27_Interest.mono _ _ _ _ _
      | exact position_Interest.mono _ _ _ _ _
      | exact LeO.none _
      | refine LeO.ite ?_ ?_
      | refine LeO.bind ?_ (fun _ => ?_)
theorem customslaw28_PositionInterest.mono : ∀ a0 a1 a2 a3 a4 a5 k, LeO (customslaw28_PositionInterest.f k a0 a1 a2 a3 a4 a5) (customslaw28_PositionInterest.f (k + 1) a0 a1 a2 a3 a4 a5) := by
  intro a0 a1 a2 a3 a4 a5 k
  obtain ⟨ih0, ih1⟩ := customslaw28_PositionInterest.mono_l k
  unfold customslaw28_PositionInterest.f
  repeat' first
      | (with_reducible exact ih0 _ _ _ _ _ _)
      | (with_reducible exact ih1 _ _ _ _ _ _ _ _ _)
      | (with_reducible exact customslaw28_awake.mono _)
      | (with_reducible exact customsref27_Interest.mono _ _ _ _ _)
      | (with_reducible exact position_Interest.mono _ _ _ _ _)
      | (with_reducible exact LeO.refl _)
      | (with_reducible exact LeO.none _)
      | (with_reducible refine LeO.ite ?_ ?_)
      | (with_reducible refine LeO.bind ?_ (fun _ => ?_))
      | exact ih0 _ _ _ _ _ _
      | exact ih1 _ _ _ _ _ _ _ _ _
      | exact customslaw28_awake.mono _
      | exact customsref27_Interest.mono _ _ _ _ _
      | exact position_Interest.mono _ _ _ _ _
      | exact LeO.none _
      | refine LeO.ite ?_ ?_
      | refine LeO.bind ?_ (fun _ => ?_)
set_option maxHeartbeats 8000000 in
set_option maxRecDepth 100000 in
theorem customslaw28_PositionInterest.calls (k : Nat) (a0 : Int) (a1 : Int) (a2 : Int) (a3 : Int) (a4 : Int) (a5 : Bool) (r : Bool) (w : World) (hGL : GL w) (h : customslaw28_PositionInterest.f k a0 a1 a2 a3 a4 a5 = some r) :
    Calls Tryd.prog 6 #[.int .i64 a0, .int .i64 a1, .int .i64 a2, .int .i64 a3, .int .i64 a4, .bool a5] w fun e w' => e = .returned (.bool r) ∧ Below w.heap.size w w' := by
  have HB := Aside0.mk (Below.refl w.heap.size w)
  have H : (if a5 = true then (customslaw28_PositionInterest.j0 k a0 a1 a2 a3 a4 a5) else ((customsmade_Within.f a0 1000000000001).bind fun t226 => ((customsmade_Within.f a1 1000001).bind fun t227 => ((customsmade_Within.f a2 30000).bind fun t228 => ((customsmade_Within.f a3 6000).bind fun t229 => ((customsmade_Within.f a4 (wrap64 ((wrap64 ((wrap64 (t228 + t229)) - t228)) + 1))).bind fun t230 => (customslaw28_PositionInterest.j0 k t226 t227 t228 (wrap64 (t228 + t229)) (wrap64 (t228 + t230)) a5))))))) = some r := h
  clear h
  have HC7 := Aside0.mk H
  clear H
  go_enter Tryd.func6, Tryd.ntmps6
  go_upto_if 22 with (fail)
  go_cut [0, 1, 2, 3, 4] (fun v0 v1 v2 v3 v4 wc => ∃ (kq : Nat) (x0_6 : Int) (x1_6 : Int) (x2_6 : Int) (x3_6 : Int) (x4_6 : Int), v0 = .int .i64 x0_6 ∧ v1 = .int .i64 x1_6 ∧ v2 = .int .i64 x2_6 ∧ v3 = .int .i64 x3_6 ∧ v4 = .int .i64 x4_6 ∧ Aside0 (customslaw28_PositionInterest.j0 kq x0_6 x1_6 x2_6 x3_6 x4_6 a5 = some r) ∧ Aside0 (kq ≤ k) ∧ Aside0 (Below w.heap.size w wc))
  case first =>
    have H := HC7.out
    clear HC7
    by_cases c8 : a5 = true
    · subst c8
      have H1 : (customslaw28_PositionInterest.j0 k a0 a1 a2 a3 a4 true) = some r := by rw [if_pos rfl] at H; exact H
      clear H
      have H := H1
      clear H1
      have H' := Aside0.mk H
      clear H
      go_wp2
      go_meet
      case rel => exact ⟨_, (a0), (a1), (a2), (a3), (a4), (by first | rfl | (simp; done) | (simp [*]; done)), (by first | rfl | (simp; done) | (simp [*]; done)), (by first | rfl | (simp; done) | (simp [*]; done)), (by first | rfl | (simp; done) | (simp [*]; done)), (by first | rfl | (simp; done) | (simp [*]; done)), H', ⟨by first | omega | exact Nat.le_refl _⟩, ⟨by repeat (first | (with_reducible first | exact HB.out | apply below_alloc | apply pw_below_drewN | apply below_drew1) | exact HB.out)⟩⟩
    · replace c8 := Bool.eq_false_iff.mpr c8
      subst c8
      have H1 : ((customsmade_Within.f a0 1000000000001).bind fun t226 => ((customsmade_Within.f a1 1000001).bind fun t227 => ((customsmade_Within.f a2 30000).bind fun t228 => ((customsmade_Within.f a3 6000).bind fun t229 => ((customsmade_Within.f a4 (wrap64 ((wrap64 ((wrap64 (t228 + t229)) - t228)) + 1))).bind fun t230 => (customslaw28_PositionInterest.j0 k t226 t227 t228 (wrap64 (t228 + t229)) (wrap64 (t228 + t230)) false)))))) = some r := by rw [if_neg (show ¬ (false = true) by decide)] at H; exact H
      clear H
      have H := H1
      clear H1
      replace H := Option.bind_eq_some_iff.mp H
      obtain ⟨t226, A90, H⟩ := H
      replace H : ((customsmade_Within.f a1 1000001).bind fun t227 => ((customsmade_Within.f a2 30000).bind fun t228 => ((customsmade_Within.f a3 6000).bind fun t229 => ((customsmade_Within.f a4 (wrap64 ((wrap64 ((wrap64 (t228 + t229)) - t228)) + 1))).bind fun t230 => (customslaw28_PositionInterest.j0 k t226 t227 t228 (wrap64 (t228 + t229)) (wrap64 (t228 + t230)) false))))) = some r := H
      have A9 := Aside0.mk A90
      clear A90
      replace H := Option.bind_eq_some_iff.mp H
      obtain ⟨t227, A100, H⟩ := H
      replace H : ((customsmade_Within.f a2 30000).bind fun t228 => ((customsmade_Within.f a3 6000).bind fun t229 => ((customsmade_Within.f a4 (wrap64 ((wrap64 ((wrap64 (t228 + t229)) - t228)) + 1))).bind fun t230 => (customslaw28_PositionInterest.j0 k t226 t227 t228 (wrap64 (t228 + t229)) (wrap64 (t228 + t230)) false)))) = some r := H
      have A10 := Aside0.mk A100
      clear A100
      replace H := Option.bind_eq_some_iff.mp H
      obtain ⟨t228, A110, H⟩ := H
      replace H : ((customsmade_Within.f a3 6000).bind fun t229 => ((customsmade_Within.f a4 (wrap64 ((wrap64 ((wrap64 (t228 + t229)) - t228)) + 1))).bind fun t230 => (customslaw28_PositionInterest.j0 k t226 t227 t228 (wrap64 (t228 + t229)) (wrap64 (t228 + t230)) false))) = some r := H
      have A11 := Aside0.mk A110
      clear A110
      replace H := Option.bind_eq_some_iff.mp H
      obtain ⟨t229, A120, H⟩ := H
      replace H : ((customsmade_Within.f a4 (wrap64 ((wrap64 ((wrap64 (t228 + t229)) - t228)) + 1))).bind fun t230 => (customslaw28_PositionInterest.j0 k t226 t227 t228 (wrap64 (t228 + t229)) (wrap64 (t228 + t230)) false)) = some r := H
      have A12 := Aside0.mk A120
      clear A120
      replace H := Option.bind_eq_some_iff.mp H
      obtain ⟨t230, A130, H⟩ := H
      replace H : (customslaw28_PositionInterest.j0 k t226 t227 t228 (wrap64 (t228 + t229)) (wrap64 (t228 + t230)) false) = some r := H
      have A13 := Aside0.mk A130
      clear A130
      have H' := Aside0.mk H
      clear H
      go_wp2_with (first | ((with_reducible refine gate_callee (f := 8) rfl ?_); refine goesL_ (some 24) rfl rfl Tryd.func8 (by kernel_rfl) rfl #[.int .i64 a0, .int .i64 1000000000001] rfl (by (try simp only [List.map_toArray, List.map_cons, List.map_nil]); first | done | rfl | (simp only [List.length_drop, List.length_take]; rfl)) ?_; (with_reducible refine (customsmade_Within.calls a0 1000000000001 t226 _ A9.out).mono ?_); rintro e w' ⟨rfl, ⟨nd, rfl⟩⟩; refine ⟨_, rfl, ?_⟩) | ((with_reducible refine gate_callee (f := 8) rfl ?_); refine goesL_ (some 26) rfl rfl Tryd.func8 (by kernel_rfl) rfl #[.int .i64 a1, .int .i64 1000001] rfl (by (try simp only [List.map_toArray, List.map_cons, List.map_nil]); first | done | rfl | (simp only [List.length_drop, List.length_take]; rfl)) ?_; (with_reducible refine (customsmade_Within.calls a1 1000001 t227 _ A10.out).mono ?_); rintro e w' ⟨rfl, ⟨nd, rfl⟩⟩; refine ⟨_, rfl, ?_⟩) | ((with_reducible refine gate_callee (f := 8) rfl ?_); refine goesL_ (some 28) rfl rfl Tryd.func8 (by kernel_rfl) rfl #[.int .i64 a2, .int .i64 30000] rfl (by (try simp only [List.map_toArray, List.map_cons, List.map_nil]); first | done | rfl | (simp only [List.length_drop, List.length_take]; rfl)) ?_; (with_reducible refine (customsmade_Within.calls a2 30000 t228 _ A11.out).mono ?_); rintro e w' ⟨rfl, ⟨nd, rfl⟩⟩; refine ⟨_, rfl, ?_⟩) | ((with_reducible refine gate_callee (f := 8) rfl ?_); refine goesL_ (some 31) rfl rfl Tryd.func8 (by kernel_rfl) rfl #[.int .i64 a3, .int .i64 6000] rfl (by (try simp only [List.map_toArray, List.map_cons, List.map_nil]); first | done | rfl | (simp only [List.length_drop, List.length_take]; rfl)) ?_; (with_reducible refine (customsmade_Within.calls a3 6000 t229 _ A12.out).mono ?_); rintro e w' ⟨rfl, ⟨nd, rfl⟩⟩; refine ⟨_, rfl, ?_⟩) | ((with_reducible refine gate_callee (f := 8) rfl ?_); refine goesL_ (some 39) rfl rfl Tryd.func8 (by kernel_rfl) rfl #[.int .i64 a4, .int .i64 (wrap64 ((wrap64 ((wrap64 (t228 + t229)) - t228)) + 1))] rfl (by (try simp only [List.map_toArray, List.map_cons, List.map_nil]); first | done | rfl | (simp only [List.length_drop, List.length_take]; rfl)) ?_; (with_reducible refine (customsmade_Within.calls a4 (wrap64 ((wrap64 ((wrap64 (t228 + t229)) - t228)) + 1)) t230 _ A13.out).mono ?_); rintro e w' ⟨rfl, ⟨nd, rfl⟩⟩; refine ⟨_, rfl, ?_⟩))
      go_meet
      case rel => exact ⟨_, (t226), (t227), (t228), (wrap64 (t228 + t229)), (wrap64 (t228 + t230)), (by first | rfl | (simp; done) | (simp [*]; done)), (by first | rfl | (simp; done) | (simp [*]; done)), (by first | rfl | (simp; done) | (simp [*]; done)), (by first | rfl | (simp; done) | (simp [*]; done)), (by first | rfl | (simp; done) | (simp [*]; done)), H', ⟨by first | omega | exact Nat.le_refl _⟩, ⟨by repeat (first | (with_reducible first | exact HB.out | apply below_alloc | apply pw_below_drewN | apply below_drew1) | exact HB.out)⟩⟩
  case rest =>
    clear HC7
    try clear p2
    try clear c6
    try clear p6
    try clear c8
    obtain ⟨kq, x0_6, x1_6, x2_6, x3_6, x4_6, rfl, rfl, rfl, rfl, rfl, HA, HJ6, HB⟩ := hcut
    cases kq with
    | zero => exact absurd HA.out (by simp [customslaw28_PositionInterest.j0])
    | succ kj6 =>
      have H := HA.out
      clear HA
      simp only [customslaw28_PositionInterest.j0] at H
      replace H := Option.bind_eq_some_iff.mp H
      obtain ⟨⟨t231, t232⟩, A140, H⟩ := H
      replace H : ((customsref27_Interest.f kj6 x0_6 x1_6 x2_6 x3_6).bind fun bt233 => (if t231 = bt233.1 then (customslaw28_PositionInterest.j1 kj6 x0_6 x1_6 x2_6 x3_6 x4_6 a5 t231 t232 (t232 != bt233.2)) else (customslaw28_PositionInterest.j1 kj6 x0_6 x1_6 x2_6 x3_6 x4_6 a5 t231 t232 true))) = some r := H
      have A14 := Aside0.mk A140
      clear A140
      replace H := Option.bind_eq_some_iff.mp H
      obtain ⟨⟨t233, t234⟩, A150, H⟩ := H
      replace H : (if t231 = t233 then (customslaw28_PositionInterest.j1 kj6 x0_6 x1_6 x2_6 x3_6 x4_6 a5 t231 t232 (t232 != t234)) else (customslaw28_PositionInterest.j1 kj6 x0_6 x1_6 x2_6 x3_6 x4_6 a5 t231 t232 true)) = some r := H
      have A15 := Aside0.mk A150
      clear A150
      have HC16 := Aside0.mk H
      clear H
      go_upto_region 7 with (first | ((with_reducible refine gate_callee (f := 14) rfl ?_); refine goesL_ (some 46) rfl rfl Tryd.func14 (by kernel_rfl) rfl #[.int .i64 x0_6, .int .i64 x1_6, .int .i64 x2_6, .int .i64 x3_6] rfl (by (try simp only [List.map_toArray, List.map_cons, List.map_nil]); first | done | rfl | (simp only [List.length_drop, List.length_take]; rfl)) ?_; (with_reducible refine (position_Interest.calls kj6 x0_6 x1_6 x2_6 x3_6 t231 t232 _ A14.out).mono ?_); rintro e w17 ⟨rfl, hb⟩; refine ⟨_, rfl, ?_⟩; have n0_ := Aside0.mk (below_step (by repeat (first | (with_reducible first | exact HB.out | apply below_alloc | apply pw_below_drewN | apply below_drew1) | exact HB.out)) hb); clear HB; have HB := n0_; clear n0_; (try clear hb); (try clear hb2); (try clear hk); (try clear hi)) | ((with_reducible refine gate_callee (f := 15) rfl ?_); refine goesL_ (some 54) rfl rfl Tryd.func15 (by kernel_rfl) rfl #[.int .i64 x0_6, .int .i64 x1_6, .int .i64 x2_6, .int .i64 x3_6] rfl (by (try simp only [List.map_toArray, List.map_cons, List.map_nil]); first | done | rfl | (simp only [List.length_drop, List.length_take]; rfl)) ?_; (with_reducible refine (customsref27_Interest.calls kj6 x0_6 x1_6 x2_6 x3_6 t233 t234 _ A15.out).mono ?_); rintro e w' ⟨rfl, ⟨nd, rfl⟩⟩; refine ⟨_, rfl, ?_⟩))
      (try simp only [Act.put, List.setIfInBounds_toArray, List.set_cons_zero, List.set_cons_succ])
      go_cut [64] (fun v64 wc => ∃ (kq : Nat) (x64_15 : Bool), v64 = .bool x64_15 ∧ Aside0 (customslaw28_PositionInterest.j1 kq x0_6 x1_6 x2_6 x3_6 x4_6 a5 t231 t232 x64_15 = some r) ∧ Aside0 (kq ≤ kj6) ∧ Aside0 (Below w.heap.size w wc))
      case first =>
        have H := HC16.out
        clear HC16
        by_cases c18 : t231 = t233
        · rw [if_pos c18] at H
          have c18b0 : (t231 == t233) = true := beq_iff_eq.mpr c18
          have c18b1 : (t231 != t233) = false := bne_eq_false_iff_eq.mpr c18
          clear c18
          (first | rw [c18b0] | (simp only [i64_w, i32_w]; rw [c18b0]) | skip)
          have H' := Aside0.mk H
          clear H
          go_wp2
          go_meet
          case rel => exact ⟨_, ((t232 != t234)), (by first | rfl | (simp; done) | (simp [*]; done)), H', ⟨by have := HJ6.out; first | omega | exact Nat.le_refl _⟩, ⟨by repeat (first | (with_reducible first | exact HB.out | apply below_alloc | apply pw_below_drewN | apply below_drew1) | exact HB.out)⟩⟩
        · rw [if_neg c18] at H
          have c18b0 : (t231 == t233) = false := beq_eq_false_iff_ne.mpr c18
          have c18b1 : (t231 != t233) = true := bne_iff_ne.mpr c18
          (first | rw [c18b0] | (simp only [i64_w, i32_w]; rw [c18b0]) | skip)
          have H' := Aside0.mk H
          clear H
          go_wp2
          go_meet
          case rel => exact ⟨_, (true), (by first | rfl | (simp; done) | (simp [*]; done)), H', ⟨by have := HJ6.out; first | omega | exact Nat.le_refl _⟩, ⟨by repeat (first | (with_reducible first | exact HB.out | apply below_alloc | apply pw_below_drewN | apply below_drew1) | exact HB.out)⟩⟩
      case rest =>
        clear HC16
        try clear c1
        try clear p2
        try clear c6
        try clear p6
        try clear c8
        try clear c14
        try clear c15
        try clear c18
        try clear c18b0
        try clear c18b1
        try clear p2
        try clear p6
        obtain ⟨kq, x64_15, rfl, HA, HJ15, HB⟩ := hcut
        cases kq with
        | zero => exact absurd HA.out (by simp [customslaw28_PositionInterest.j1])
        | succ kj15 =>
          have H := HA.out
          clear HA
          simp only [customslaw28_PositionInterest.j1] at H
          by_cases c19 : x64_15 = true
          · subst c19
            have H1 : (some false) = some r := by rw [if_pos rfl] at H; exact H
            clear H
            have H := H1
            clear H1
            obtain rfl := Option.some.inj H
            go_wp2
            go_ret
            exact ⟨by first | rfl | (simp [errW_none, errW_some] <;> rfl) | (simp [*, errW_none, errW_some] <;> rfl), by repeat (first | (with_reducible first | exact HB.out | apply below_alloc | apply pw_below_drewN | apply below_drew1) | exact HB.out)⟩
          · replace c19 := Bool.eq_false_iff.mpr c19
            subst c19
            have H1 : (if a5 = true then ((customslaw28_awake.f kj15).bind fun t235 => (some t235)) else ((position_Interest.f kj15 x0_6 x1_6 x2_6 x4_6).bind fun bt236 => ((position_Interest.f kj15 x0_6 x1_6 x4_6 x3_6).bind fun bt238 => (if t232 = 0 then (if bt236.2 = 0 then (if bt238.2 = 0 then (if (wrap64 (bt236.1 + bt238.1)) ≤ t231 then (if t231 ≤ (wrap64 ((wrap64 (bt236.1 + bt238.1)) + 1)) then ((customslaw28_awake.f kj15).bind fun t240 => (some t240)) else (some false)) else (some false)) else (some false)) else (some false)) else (some false))))) = some r := by rw [if_neg (show ¬ (false = true) by decide)] at H; exact H
            clear H
            have H := H1
            clear H1
            by_cases c20 : a5 = true
            · subst c20
              have H1 : ((customslaw28_awake.f kj15).bind fun t235 => (some t235)) = some r := by rw [if_pos rfl] at H; exact H
              clear H
              have H := H1
              clear H1
              replace H := Option.bind_eq_some_iff.mp H
              obtain ⟨t235, A210, H⟩ := H
              replace H : (some t235) = some r := H
              have A21 := Aside0.mk A210
              clear A210
              obtain rfl := Option.some.inj H
              go_wp2_with (first | ((with_reducible refine gate_callee (f := 11) rfl ?_); refine goesL_ (some 66) rfl rfl Tryd.func11 (by kernel_rfl) rfl #[] rfl (by (try simp only [List.map_toArray, List.map_cons, List.map_nil]); first | done | rfl | (simp only [List.length_drop, List.length_take]; rfl)) ?_; (with_reducible refine (customslaw28_awake.calls kj15  t235 _ ?side1 A21.out).mono ?_); (case side1 => first | (with_reducible exact hGL) | exact GL.below hGL (by repeat (first | (with_reducible first | exact HB.out | apply below_alloc | apply pw_below_drewN | apply below_drew1) | exact HB.out)) | (repeat (first | exact hGL | apply GL.drewN | apply GL.drew))); rintro e w22 ⟨rfl, hb⟩; refine ⟨_, rfl, ?_⟩; have n0_ := Aside0.mk (below_step (by repeat (first | (with_reducible first | exact HB.out | apply below_alloc | apply pw_below_drewN | apply below_drew1) | exact HB.out)) hb); clear HB; have HB := n0_; clear n0_; (try clear hb); (try clear hb2); (try clear hk); (try clear hi)))
              go_ret
              exact ⟨by first | rfl | (simp [errW_none, errW_some] <;> rfl) | (simp [*, errW_none, errW_some] <;> rfl), by repeat (first | (with_reducible first | exact HB.out | apply below_alloc | apply pw_below_drewN | apply below_drew1) | exact HB.out)⟩
            · replace c20 := Bool.eq_false_iff.mpr c20
              subst c20
              have H1 : ((position_Interest.f kj15 x0_6 x1_6 x2_6 x4_6).bind fun bt236 => ((position_Interest.f kj15 x0_6 x1_6 x4_6 x3_6).bind fun bt238 => (if t232 = 0 then (if bt236.2 = 0 then (if bt238.2 = 0 then (if (wrap64 (bt236.1 + bt238.1)) ≤ t231 then (if t231 ≤ (wrap64 ((wrap64 (bt236.1 + bt238.1)) + 1)) then ((customslaw28_awake.f kj15).bind fun t240 => (some t240)) else (some false)) else (some false)) else (some false)) else (some false)) else (some false)))) = some r := by rw [if_neg (show ¬ (false = true) by decide)] at H; exact H
              clear H
              have H := H1
              clear H1
              replace H := Option.bind_eq_some_iff.mp H
              obtain ⟨⟨t236, t237⟩, A230, H⟩ := H
              replace H : ((position_Interest.f kj15 x0_6 x1_6 x4_6 x3_6).bind fun bt238 => (if t232 = 0 then (if t237 = 0 then (if bt238.2 = 0 then (if (wrap64 (t236 + bt238.1)) ≤ t231 then (if t231 ≤ (wrap64 ((wrap64 (t236 + bt238.1)) + 1)) then ((customslaw28_awake.f kj15).bind fun t240 => (some t240)) else (some false)) else (some false)) else (some false)) else (some false)) else (some false))) = some r := H
              have A23 := Aside0.mk A230
              clear A230
              replace H := Option.bind_eq_some_iff.mp H
              obtain ⟨⟨t238, t239⟩, A240, H⟩ := H
              replace H : (if t232 = 0 then (if t237 = 0 then (if t239 = 0 then (if (wrap64 (t236 + t238)) ≤ t231 then (if t231 ≤ (wrap64 ((wrap64 (t236 + t238)) + 1)) then ((customslaw28_awake.f kj15).bind fun t240 => (some t240)) else (some false)) else (some false)) else (some false)) else (some false)) else (some false)) = some r := H
              have A24 := Aside0.mk A240
              clear A240
              by_cases c25 : t232 = 0
              · rw [if_pos c25] at H
                have c25b0 : (t232 == 0) = true := beq_iff_eq.mpr c25
                have c25b1 : (t232 != 0) = false := bne_eq_false_iff_eq.mpr c25
                clear c25
                by_cases c26 : t237 = 0
                · rw [if_pos c26] at H
                  have c26b0 : (t237 == 0) = true := beq_iff_eq.mpr c26
                  have c26b1 : (t237 != 0) = false := bne_eq_false_iff_eq.mpr c26
                  clear c26
                  by_cases c27 : t239 = 0
                  · rw [if_pos c27] at H
                    have c27b0 : (t239 == 0) = true := beq_iff_eq.mpr c27
                    have c27b1 : (t239 != 0) = false := bne_eq_false_iff_eq.mpr c27
                    clear c27
                    by_cases c28 : (wrap64 (t236 + t238)) ≤ t231
                    · rw [if_pos c28] at H
                      have c28b0 : decide ((wrap64 (t236 + t238)) ≤ t231) = true := decide_eq_true c28
                      clear c28
                      by_cases c29 : t231 ≤ (wrap64 ((wrap64 (t236 + t238)) + 1))
                      · rw [if_pos c29] at H
                        have c29b0 : decide (t231 ≤ (wrap64 ((wrap64 (t236 + t238)) + 1))) = true := decide_eq_true c29
                        clear c29
                        replace H := Option.bind_eq_some_iff.mp H
                        obtain ⟨t240, A300, H⟩ := H
                        replace H : (some t240) = some r := H
                        have A30 := Aside0.mk A300
                        clear A300
                        obtain rfl := Option.some.inj H
                        go_wp2_with (first | ((with_reducible refine gate_callee (f := 14) rfl ?_); refine goesL_ (some 72) rfl rfl Tryd.func14 (by kernel_rfl) rfl #[.int .i64 x0_6, .int .i64 x1_6, .int .i64 x2_6, .int .i64 x4_6] rfl (by (try simp only [List.map_toArray, List.map_cons, List.map_nil]); first | done | rfl | (simp only [List.length_drop, List.length_take]; rfl)) ?_; (with_reducible refine (position_Interest.calls kj15 x0_6 x1_6 x2_6 x4_6 t236 t237 _ A23.out).mono ?_); rintro e w31 ⟨rfl, hb⟩; refine ⟨_, rfl, ?_⟩; have n0_ := Aside0.mk (below_step (by repeat (first | (with_reducible first | exact HB.out | apply below_alloc | apply pw_below_drewN | apply below_drew1) | exact HB.out)) hb); clear HB; have HB := n0_; clear n0_; (try clear hb); (try clear hb2); (try clear hk); (try clear hi)) | ((with_reducible refine gate_callee (f := 14) rfl ?_); refine goesL_ (some 80) rfl rfl Tryd.func14 (by kernel_rfl) rfl #[.int .i64 x0_6, .int .i64 x1_6, .int .i64 x4_6, .int .i64 x3_6] rfl (by (try simp only [List.map_toArray, List.map_cons, List.map_nil]); first | done | rfl | (simp only [List.length_drop, List.length_take]; rfl)) ?_; (with_reducible refine (position_Interest.calls kj15 x0_6 x1_6 x4_6 x3_6 t238 t239 _ A24.out).mono ?_); rintro e w32 ⟨rfl, hb⟩; refine ⟨_, rfl, ?_⟩; have n0_ := Aside0.mk (below_step (by repeat (first | (with_reducible first | exact HB.out | apply below_alloc | apply pw_below_drewN | apply below_drew1) | exact HB.out)) hb); clear HB; have HB := n0_; clear n0_; (try clear hb); (try clear hb2); (try clear hk); (try clear hi)) | (go_at_call 11; (with_reducible refine (customslaw28_awake.calls kj15  t240 _ ?side1 A30.out).mono ?_); (case side1 => first | (with_reducible exact hGL) | exact GL.below hGL (by repeat (first | (with_reducible first | exact HB.out | apply below_alloc | apply pw_below_drewN | apply below_drew1) | exact HB.out)) | (repeat (first | exact hGL | apply GL.drewN | apply GL.drew))); rintro e w33 ⟨rfl, hb⟩; have n0_ := Aside0.mk (below_step (by repeat (first | (with_reducible first | exact HB.out | apply below_alloc | apply pw_below_drewN | apply below_drew1) | exact HB.out)) hb); clear HB; have HB := n0_; clear n0_; (try clear hb); (try clear hb2); (try clear hk); (try clear hi)))
                        go_ret
                        exact ⟨by first | rfl | (simp [errW_none, errW_some] <;> rfl) | (simp [*, errW_none, errW_some] <;> rfl), by repeat (first | (with_reducible first | exact HB.out | apply below_alloc | apply pw_below_drewN | apply below_drew1) | exact HB.out)⟩
                      · rw [if_neg c29] at H
                        have c29b0 : decide (t231 ≤ (wrap64 ((wrap64 (t236 + t238)) + 1))) = false := decide_eq_false c29
                        clear c29
                        obtain rfl := Option.some.inj H
                        go_wp2_with (first | ((with_reducible refine gate_callee (f := 14) rfl ?_); refine goesL_ (some 72) rfl rfl Tryd.func14 (by kernel_rfl) rfl #[.int .i64 x0_6, .int .i64 x1_6, .int .i64 x2_6, .int .i64 x4_6] rfl (by (try simp only [List.map_toArray, List.map_cons, List.map_nil]); first | done | rfl | (simp only [List.length_drop, List.length_take]; rfl)) ?_; (with_reducible refine (position_Interest.calls kj15 x0_6 x1_6 x2_6 x4_6 t236 t237 _ A23.out).mono ?_); rintro e w34 ⟨rfl, hb⟩; refine ⟨_, rfl, ?_⟩; have n0_ := Aside0.mk (below_step (by repeat (first | (with_reducible first | exact HB.out | apply below_alloc | apply pw_below_drewN | apply below_drew1) | exact HB.out)) hb); clear HB; have HB := n0_; clear n0_; (try clear hb); (try clear hb2); (try clear hk); (try clear hi)) | ((with_reducible refine gate_callee (f := 14) rfl ?_); refine goesL_ (some 80) rfl rfl Tryd.func14 (by kernel_rfl) rfl #[.int .i64 x0_6, .int .i64 x1_6, .int .i64 x4_6, .int .i64 x3_6] rfl (by (try simp only [List.map_toArray, List.map_cons, List.map_nil]); first | done | rfl | (simp only [List.length_drop, List.length_take]; rfl)) ?_; (with_reducible refine (position_Interest.calls kj15 x0_6 x1_6 x4_6 x3_6 t238 t239 _ A24.out).mono ?_); rintro e w35 ⟨rfl, hb⟩; refine ⟨_, rfl, ?_⟩; have n0_ := Aside0.mk (below_step (by repeat (first | (with_reducible first | exact HB.out | apply below_alloc | apply pw_below_drewN | apply below_drew1) | exact HB.out)) hb); clear HB; have HB := n0_; clear n0_; (try clear hb); (try clear hb2); (try clear hk); (try clear hi)))
                        go_ret
                        exact ⟨by first | rfl | (simp [errW_none, errW_some] <;> rfl) | (simp [*, errW_none, errW_some] <;> rfl), by repeat (first | (with_reducible first | exact HB.out | apply below_alloc | apply pw_below_drewN | apply below_drew1) | exact HB.out)⟩
                    · rw [if_neg c28] at H
                      have c28b0 : decide ((wrap64 (t236 + t238)) ≤ t231) = false := decide_eq_false c28
                      clear c28
                      obtain rfl := Option.some.inj H
                      go_wp2_with (first | ((with_reducible refine gate_callee (f := 14) rfl ?_); refine goesL_ (some 72) rfl rfl Tryd.func14 (by kernel_rfl) rfl #[.int .i64 x0_6, .int .i64 x1_6, .int .i64 x2_6, .int .i64 x4_6] rfl (by (try simp only [List.map_toArray, List.map_cons, List.map_nil]); first | done | rfl | (simp only [List.length_drop, List.length_take]; rfl)) ?_; (with_reducible refine (position_Interest.calls kj15 x0_6 x1_6 x2_6 x4_6 t236 t237 _ A23.out).mono ?_); rintro e w36 ⟨rfl, hb⟩; refine ⟨_, rfl, ?_⟩; have n0_ := Aside0.mk (below_step (by repeat (first | (with_reducible first | exact HB.out | apply below_alloc | apply pw_below_drewN | apply below_drew1) | exact HB.out)) hb); clear HB; have HB := n0_; clear n0_; (try clear hb); (try clear hb2); (try clear hk); (try clear hi)) | ((with_reducible refine gate_callee (f := 14) rfl ?_); refine goesL_ (some 80) rfl rfl Tryd.func14 (by kernel_rfl) rfl #[.int .i64 x0_6, .int .i64 x1_6, .int .i64 x4_6, .int .i64 x3_6] rfl (by (try simp only [List.map_toArray, List.map_cons, List.map_nil]); first | done | rfl | (simp only [List.length_drop, List.length_take]; rfl)) ?_; (with_reducible refine (position_Interest.calls kj15 x0_6 x1_6 x4_6 x3_6 t238 t239 _ A24.out).mono ?_); rintro e w37 ⟨rfl, hb⟩; refine ⟨_, rfl, ?_⟩; have n0_ := Aside0.mk (below_step (by repeat (first | (with_reducible first | exact HB.out | apply below_alloc | apply pw_below_drewN | apply below_drew1) | exact HB.out)) hb); clear HB; have HB := n0_; clear n0_; (try clear hb); (try clear hb2); (try clear hk); (try clear hi)))
                      go_ret
                      exact ⟨by first | rfl | (simp [errW_none, errW_some] <;> rfl) | (simp [*, errW_none, errW_some] <;> rfl), by repeat (first | (with_reducible first | exact HB.out | apply below_alloc | apply pw_below_drewN | apply below_drew1) | exact HB.out)⟩
                  · rw [if_neg c27] at H
                    have c27b0 : (t239 == 0) = false := beq_eq_false_iff_ne.mpr c27
                    have c27b1 : (t239 != 0) = true := bne_iff_ne.mpr c27
                    obtain rfl := Option.some.inj H
                    go_wp2_with (first | ((with_reducible refine gate_callee (f := 14) rfl ?_); refine goesL_ (some 72) rfl rfl Tryd.func14 (by kernel_rfl) rfl #[.int .i64 x0_6, .int .i64 x1_6, .int .i64 x2_6, .int .i64 x4_6] rfl (by (try simp only [List.map_toArray, List.map_cons, List.map_nil]); first | done | rfl | (simp only [List.length_drop, List.length_take]; rfl)) ?_; (with_reducible refine (position_Interest.calls kj15 x0_6 x1_6 x2_6 x4_6 t236 t237 _ A23.out).mono ?_); rintro e w38 ⟨rfl, hb⟩; refine ⟨_, rfl, ?_⟩; have n0_ := Aside0.mk (below_step (by repeat (first | (with_reducible first | exact HB.out | apply below_alloc | apply pw_below_drewN | apply below_drew1) | exact HB.out)) hb); clear HB; have HB := n0_; clear n0_; (try clear hb); (try clear hb2); (try clear hk); (try clear hi)) | ((with_reducible refine gate_callee (f := 14) rfl ?_); refine goesL_ (some 80) rfl rfl Tryd.func14 (by kernel_rfl) rfl #[.int .i64 x0_6, .int .i64 x1_6, .int .i64 x4_6, .int .i64 x3_6] rfl (by (try simp only [List.map_toArray, List.map_cons, List.map_nil]); first | done | rfl | (simp only [List.length_drop, List.length_take]; rfl)) ?_; (with_reducible refine (position_Interest.calls kj15 x0_6 x1_6 x4_6 x3_6 t238 t239 _ A24.out).mono ?_); rintro e w39 ⟨rfl, hb⟩; refine ⟨_, rfl, ?_⟩; have n0_ := Aside0.mk (below_step (by repeat (first | (with_reducible first | exact HB.out | apply below_alloc | apply pw_below_drewN | apply below_drew1) | exact HB.out)) hb); clear HB; have HB := n0_; clear n0_; (try clear hb); (try clear hb2); (try clear hk); (try clear hi)))
                    go_ret
                    exact ⟨by first | rfl | (simp [errW_none, errW_some] <;> rfl) | (simp [*, errW_none, errW_some] <;> rfl), by repeat (first | (with_reducible first | exact HB.out | apply below_alloc | apply pw_below_drewN | apply below_drew1) | exact HB.out)⟩
                · rw [if_neg c26] at H
                  have c26b0 : (t237 == 0) = false := beq_eq_false_iff_ne.mpr c26
                  have c26b1 : (t237 != 0) = true := bne_iff_ne.mpr c26
                  obtain rfl := Option.some.inj H
                  go_wp2_with (first | ((with_reducible refine gate_callee (f := 14) rfl ?_); refine goesL_ (some 72) rfl rfl Tryd.func14 (by kernel_rfl) rfl #[.int .i64 x0_6, .int .i64 x1_6, .int .i64 x2_6, .int .i64 x4_6] rfl (by (try simp only [List.map_toArray, List.map_cons, List.map_nil]); first | done | rfl | (simp only [List.length_drop, List.length_take]; rfl)) ?_; (with_reducible refine (position_Interest.calls kj15 x0_6 x1_6 x2_6 x4_6 t236 t237 _ A23.out).mono ?_); rintro e w40 ⟨rfl, hb⟩; refine ⟨_, rfl, ?_⟩; have n0_ := Aside0.mk (below_step (by repeat (first | (with_reducible first | exact HB.out | apply below_alloc | apply pw_below_drewN | apply below_drew1) | exact HB.out)) hb); clear HB; have HB := n0_; clear n0_; (try clear hb); (try clear hb2); (try clear hk); (try clear hi)) | ((with_reducible refine gate_callee (f := 14) rfl ?_); refine goesL_ (some 80) rfl rfl Tryd.func14 (by kernel_rfl) rfl #[.int .i64 x0_6, .int .i64 x1_6, .int .i64 x4_6, .int .i64 x3_6] rfl (by (try simp only [List.map_toArray, List.map_cons, List.map_nil]); first | done | rfl | (simp only [List.length_drop, List.length_take]; rfl)) ?_; (with_reducible refine (position_Interest.calls kj15 x0_6 x1_6 x4_6 x3_6 t238 t239 _ A24.out).mono ?_); rintro e w41 ⟨rfl, hb⟩; refine ⟨_, rfl, ?_⟩; have n0_ := Aside0.mk (below_step (by repeat (first | (with_reducible first | exact HB.out | apply below_alloc | apply pw_below_drewN | apply below_drew1) | exact HB.out)) hb); clear HB; have HB := n0_; clear n0_; (try clear hb); (try clear hb2); (try clear hk); (try clear hi)))
                  go_ret
                  exact ⟨by first | rfl | (simp [errW_none, errW_some] <;> rfl) | (simp [*, errW_none, errW_some] <;> rfl), by repeat (first | (with_reducible first | exact HB.out | apply below_alloc | apply pw_below_drewN | apply below_drew1) | exact HB.out)⟩
              · rw [if_neg c25] at H
                have c25b0 : (t232 == 0) = false := beq_eq_false_iff_ne.mpr c25
                have c25b1 : (t232 != 0) = true := bne_iff_ne.mpr c25
                obtain rfl := Option.some.inj H
                go_wp2_with (first | ((with_reducible refine gate_callee (f := 14) rfl ?_); refine goesL_ (some 72) rfl rfl Tryd.func14 (by kernel_rfl) rfl #[.int .i64 x0_6, .int .i64 x1_6, .int .i64 x2_6, .int .i64 x4_6] rfl (by (try simp only [List.map_toArray, List.map_cons, List.map_nil]); first | done | rfl | (simp only [List.length_drop, List.length_take]; rfl)) ?_; (with_reducible refine (position_Interest.calls kj15 x0_6 x1_6 x2_6 x4_6 t236 t237 _ A23.out).mono ?_); rintro e w42 ⟨rfl, hb⟩; refine ⟨_, rfl, ?_⟩; have n0_ := Aside0.mk (below_step (by repeat (first | (with_reducible first | exact HB.out | apply below_alloc | apply pw_below_drewN | apply below_drew1) | exact HB.out)) hb); clear HB; have HB := n0_; clear n0_; (try clear hb); (try clear hb2); (try clear hk); (try clear hi)) | ((with_reducible refine gate_callee (f := 14) rfl ?_); refine goesL_ (some 80) rfl rfl Tryd.func14 (by kernel_rfl) rfl #[.int .i64 x0_6, .int .i64 x1_6, .int .i64 x4_6, .int .i64 x3_6] rfl (by (try simp only [List.map_toArray, List.map_cons, List.map_nil]); first | done | rfl | (simp only [List.length_drop, List.length_take]; rfl)) ?_; (with_reducible refine (position_Interest.calls kj15 x0_6 x1_6 x4_6 x3_6 t238 t239 _ A24.out).mono ?_); rintro e w43 ⟨rfl, hb⟩; refine ⟨_, rfl, ?_⟩; have n0_ := Aside0.mk (below_step (by repeat (first | (with_reducible first | exact HB.out | apply below_alloc | apply pw_below_drewN | apply below_drew1) | exact HB.out)) hb); clear HB; have HB := n0_; clear n0_; (try clear hb); (try clear hb2); (try clear hk); (try clear hi)))
                go_ret
                exact ⟨by first | rfl | (simp [errW_none, errW_some] <;> rfl) | (simp [*, errW_none, errW_some] <;> rfl), by repeat (first | (with_reducible first | exact HB.out | apply below_alloc | apply pw_below_drewN | apply below_drew1) | exact HB.out)⟩

/-! ### procedure_Next: function 16 -/
def procedure_Next.j0 : Nat → Int → Int → Bool → Option (Int × Int)
  | 0, _, _, _ => none
  | k + 1, x0, x1, x20 => if x20 = true then (some (0, 2)) else ((procedure_target.f x0 x1).bind fun t241 => (if t241 = (-1) then (some (0, 17)) else (some (t241, 0))))
def procedure_Next.f (k : Nat) (a0 : Int) (a1 : Int) : Option (Int × Int) := if a0 < 0 then (procedure_Next.j0 k a0 a1 true) else (if a0 ≥ 14 then (procedure_Next.j0 k a0 a1 true) else (if a1 < 1 then (procedure_Next.j0 k a0 a1 true) else (procedure_Next.j0 k a0 a1 (decide (a1 > 14)))))
theorem procedure_Next.mono_l : ∀ k, (∀ y0 y1 y2, LeO (procedure_Next.j0 k y0 y1 y2) (procedure_Next.j0 (k + 1) y0 y1 y2))
  | 0 => fun _ _ _ r h => by simp [procedure_Next.j0] at h
  | k + 1 => by
    have ih0 := procedure_Next.mono_l k
    · intro y0 y1 y2
      unfold procedure_Next.j0
      repeat' first
      | (with_reducible exact ih0 _ _ _)
      | (with_reducible exact LeO.refl _)
      | (with_reducible exact LeO.none _)
      | (with_reducible refine LeO.ite ?_ ?_)
      | (with_reducible refine LeO.bind ?_ (fun _ => ?_))
      | exact ih0 _ _ _
      | exact LeO.none _
      | refine LeO.ite ?_ ?_
      | refine LeO.bind ?_ (fun _ => ?_)
theorem procedure_Next.mono : ∀ a0 a1 k, LeO (procedure_Next.f k a0 a1) (procedure_Next.f (k + 1) a0 a1) := by
  intro a0 a1 k
  have ih0 := procedure_Next.mono_l k
  unfold procedure_Next.f
  repeat' first
      | (with_reducible exact ih0 _ _ _)
      | (with_reducible exact LeO.refl _)
      | (with_reducible exact LeO.none _)
      | (with_reducible refine LeO.ite ?_ ?_)
      | (with_reducible refine LeO.bind ?_ (fun _ => ?_))
      | exact ih0 _ _ _
      | exact LeO.none _
      | refine LeO.ite ?_ ?_
      | refine LeO.bind ?_ (fun _ => ?_)
set_option maxHeartbeats 8000000 in
set_option maxRecDepth 100000 in
theorem procedure_Next.calls (k : Nat) (a0 : Int) (a1 : Int) (r1 : Int) (r2 : Int) (w : World) (hGT : GT w) (h : procedure_Next.f k a0 a1 = some (r1, r2)) :
    Calls Tryd.prog 16 #[.int .i64 a0, .int .i64 a1] w fun e w' => e = .returned (.tuple #[.int .i64 r1, .int .i64 r2]) ∧ Below w.heap.size w w' := by
  have HB := Aside0.mk (Below.refl w.heap.size w)
  have H : (if a0 < 0 then (procedure_Next.j0 k a0 a1 true) else (if a0 ≥ 14 then (procedure_Next.j0 k a0 a1 true) else (if a1 < 1 then (procedure_Next.j0 k a0 a1 true) else (procedure_Next.j0 k a0 a1 (decide (a1 > 14)))))) = some (r1, r2) := h
  clear h
  have HC3 := Aside0.mk H
  clear H
  go_enter Tryd.func16, Tryd.ntmps16
  go_upto_region 1 with (fail)
  go_cut [20] (fun v20 wc => ∃ (kq : Nat) (x20_2 : Bool), v20 = .bool x20_2 ∧ Aside0 (procedure_Next.j0 kq a0 a1 x20_2 = some (r1, r2)) ∧ Aside0 (kq ≤ k) ∧ Aside0 (Below w.heap.size w wc))
  case first =>
    have H := HC3.out
    clear HC3
    by_cases c4 : a0 < 0
    · rw [if_pos c4] at H
      have c4b0 : decide (a0 < 0) = true := decide_eq_true c4
      clear c4
      (first | rw [c4b0] | (simp only [i64_w, i32_w]; rw [c4b0]) | skip)
      have H' := Aside0.mk H
      clear H
      go_wp2
      go_meet
      case rel => exact ⟨_, (true), (by first | rfl | (simp; done) | (simp [*]; done)), H', ⟨by first | omega | exact Nat.le_refl _⟩, ⟨by repeat (first | (with_reducible first | exact HB.out | apply below_alloc | apply pw_below_drewN | apply below_drew1) | exact HB.out)⟩⟩
    · rw [if_neg c4] at H
      have c4b0 : decide (a0 < 0) = false := decide_eq_false c4
      clear c4
      (first | rw [c4b0] | (simp only [i64_w, i32_w]; rw [c4b0]) | skip)
      by_cases c5 : a0 ≥ 14
      · rw [if_pos c5] at H
        have c5b0 : decide (14 ≤ a0) = true := decide_eq_true c5
        clear c5
        have H' := Aside0.mk H
        clear H
        go_wp2
        go_meet
        case rel => exact ⟨_, (true), (by first | rfl | (simp; done) | (simp [*]; done)), H', ⟨by first | omega | exact Nat.le_refl _⟩, ⟨by repeat (first | (with_reducible first | exact HB.out | apply below_alloc | apply pw_below_drewN | apply below_drew1) | exact HB.out)⟩⟩
      · rw [if_neg c5] at H
        have c5b0 : decide (14 ≤ a0) = false := decide_eq_false c5
        clear c5
        by_cases c6 : a1 < 1
        · rw [if_pos c6] at H
          have c6b0 : decide (a1 < 1) = true := decide_eq_true c6
          clear c6
          have H' := Aside0.mk H
          clear H
          go_wp2
          go_meet
          case rel => exact ⟨_, (true), (by first | rfl | (simp; done) | (simp [*]; done)), H', ⟨by first | omega | exact Nat.le_refl _⟩, ⟨by repeat (first | (with_reducible first | exact HB.out | apply below_alloc | apply pw_below_drewN | apply below_drew1) | exact HB.out)⟩⟩
        · rw [if_neg c6] at H
          have c6b0 : decide (a1 < 1) = false := decide_eq_false c6
          clear c6
          have H' := Aside0.mk H
          clear H
          go_wp2
          go_meet
          case rel => exact ⟨_, (decide (a1 > 14)), (by first | rfl | (simp; done) | (simp [*]; done)), H', ⟨by first | omega | exact Nat.le_refl _⟩, ⟨by repeat (first | (with_reducible first | exact HB.out | apply below_alloc | apply pw_below_drewN | apply below_drew1) | exact HB.out)⟩⟩
  case rest =>
    clear HC3
    try clear c1
    try clear p2
    try clear c4
    try clear c4b0
    try clear c5
    try clear c5b0
    try clear c6
    try clear c6b0
    obtain ⟨kq, x20_2, rfl, HA, HJ2, HB⟩ := hcut
    cases kq with
    | zero => exact absurd HA.out (by simp [procedure_Next.j0])
    | succ kj2 =>
      have H := HA.out
      clear HA
      simp only [procedure_Next.j0] at H
      by_cases c7 : x20_2 = true
      · subst c7
        have H1 : (some (0, 2)) = some (r1, r2) := by rw [if_pos rfl] at H; exact H
        clear H
        have H := H1
        clear H1
        simp only [Option.some.injEq, Prod.mk.injEq] at H
        obtain ⟨rfl, rfl⟩ := H
        go_wp2
        go_ret2
        exact ⟨by first | rfl | (simp [errW_none, errW_some] <;> rfl) | (simp [*, errW_none, errW_some] <;> rfl), by repeat (first | (with_reducible first | exact HB.out | apply below_alloc | apply pw_below_drewN | apply below_drew1) | exact HB.out)⟩
      · replace c7 := Bool.eq_false_iff.mpr c7
        subst c7
        have H1 : ((procedure_target.f a0 a1).bind fun t241 => (if t241 = (-1) then (some (0, 17)) else (some (t241, 0)))) = some (r1, r2) := by rw [if_neg (show ¬ (false = true) by decide)] at H; exact H
        clear H
        have H := H1
        clear H1
        replace H := Option.bind_eq_some_iff.mp H
        obtain ⟨t241, A80, H⟩ := H
        replace H : (if t241 = (-1) then (some (0, 17)) else (some (t241, 0))) = some (r1, r2) := H
        have A8 := Aside0.mk A80
        clear A80
        by_cases c9 : t241 = (-1)
        · rw [if_pos c9] at H
          have c9b0 : (t241 == (-1)) = true := beq_iff_eq.mpr c9
          have c9b1 : (t241 != (-1)) = false := bne_eq_false_iff_eq.mpr c9
          clear c9
          simp only [Option.some.injEq, Prod.mk.injEq] at H
          obtain ⟨rfl, rfl⟩ := H
          go_wp2_with (first | ((with_reducible refine gate_callee (f := 24) rfl ?_); refine goesL_ (some 23) rfl rfl Tryd.func24 (by kernel_rfl) rfl #[.int .i64 a0, .int .i64 a1] rfl (by (try simp only [List.map_toArray, List.map_cons, List.map_nil]); first | done | rfl | (simp only [List.length_drop, List.length_take]; rfl)) ?_; (with_reducible refine (procedure_target.calls a0 a1 t241 _ ?side1 A8.out).mono ?_); (case side1 => first | (with_reducible exact hGT) | exact GT.below hGT (by repeat (first | (with_reducible first | exact HB.out | apply below_alloc | apply pw_below_drewN | apply below_drew1) | exact HB.out)) | (repeat (first | exact hGT | apply GT.drewN | apply GT.drew))); rintro e w10 ⟨rfl, hb⟩; refine ⟨_, rfl, ?_⟩; have n0_ := Aside0.mk (below_step (by repeat (first | (with_reducible first | exact HB.out | apply below_alloc | apply pw_below_drewN | apply below_drew1) | exact HB.out)) hb); clear HB; have HB := n0_; clear n0_; (try clear hb); (try clear hb2); (try clear hk); (try clear hi)))
          go_ret2
          exact ⟨by first | rfl | (simp [errW_none, errW_some] <;> rfl) | (simp [*, errW_none, errW_some] <;> rfl), by repeat (first | (with_reducible first | exact HB.out | apply below_alloc | apply pw_below_drewN | apply below_drew1) | exact HB.out)⟩
        · rw [if_neg c9] at H
          have c9b0 : (t241 == (-1)) = false := beq_eq_false_iff_ne.mpr c9
          have c9b1 : (t241 != (-1)) = true := bne_iff_ne.mpr c9
          simp only [Option.some.injEq, Prod.mk.injEq] at H
          obtain ⟨rfl, rfl⟩ := H
          go_wp2_with (first | ((with_reducible refine gate_callee (f := 24) rfl ?_); refine goesL_ (some 23) rfl rfl Tryd.func24 (by kernel_rfl) rfl #[.int .i64 a0, .int .i64 a1] rfl (by (try simp only [List.map_toArray, List.map_cons, List.map_nil]); first | done | rfl | (simp only [List.length_drop, List.length_take]; rfl)) ?_; (with_reducible refine (procedure_target.calls a0 a1 t241 _ ?side1 A8.out).mono ?_); (case side1 => first | (with_reducible exact hGT) | exact GT.below hGT (by repeat (first | (with_reducible first | exact HB.out | apply below_alloc | apply pw_below_drewN | apply below_drew1) | exact HB.out)) | (repeat (first | exact hGT | apply GT.drewN | apply GT.drew))); rintro e w11 ⟨rfl, hb⟩; refine ⟨_, rfl, ?_⟩; have n0_ := Aside0.mk (below_step (by repeat (first | (with_reducible first | exact HB.out | apply below_alloc | apply pw_below_drewN | apply below_drew1) | exact HB.out)) hb); clear HB; have HB := n0_; clear n0_; (try clear hb); (try clear hb2); (try clear hk); (try clear hi)))
          go_ret2
          exact ⟨by first | rfl | (simp [errW_none, errW_some] <;> rfl) | (simp [*, errW_none, errW_some] <;> rfl), by repeat (first | (with_reducible first | exact HB.out | apply below_alloc | apply pw_below_drewN | apply below_drew1) | exact HB.out)⟩

end Go.Proofs.YtbhknenjcbinaaaDoor.PB
