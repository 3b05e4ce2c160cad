-- Written by a program of this claim (wip/tools: mkprint.py, pr.sh) out of the translation: plain functions and their contracts. Lean checks every line.
import Derived.Test.YtbhknenjcbinaaaDoorPBx0
import Derived.Test.YtbhknenjcbinaaaDoorPBx2
import Derived.Test.YtbhknenjcbinaaaDoorPBx5
import Derived.Test.YtbhknenjcbinaaaDoorPBx6
import Derived.Test.YtbhknenjcbinaaaDoorPBx7
import Derived.Test.YtbhknenjcbinaaaDoorPBx8
namespace Go.Proofs.YtbhknenjcbinaaaDoor.PB
open Go.RowKit Go.Proofs.YtbhknenjcbinaaaDoorW.PrintWords Go.Proofs.YtbhknenjcbinaaaDoorW.PrintLast Go.Proofs.YtbhknenjcbinaaaDoorW.PrintMore Go.Proofs.YtbhknenjcbinaaaDoor.PA Go.Proofs.YtbhknenjcbinaaaDoor.G
attribute [local go_sem] max2_int min2_int max_two min_two max_three min_three max_four min_four   -- for this text's walks alone
set_option linter.unusedVariables false
set_option linter.unusedSimpArgs false

/-! ### customsref04_AddMonths: function 21 -/
def customsref04_AddMonths.j0 : Nat → Int → Bool → Int → Int → Int → Option (Int × Int)
  | 0, _, _, _, _, _ => none
  | k + 1, x1, x24, x207000, x207001, x207002 => if x24 = true then (some (0, 2)) else ((customsref04_Long.f (wrap64 (Int.tdiv (wrap64 ((wrap64 ((wrap64 ((wrap64 (12 * x207000)) + x207001)) - 1)) + x1)) 12)) (wrap64 ((Int.tmod (wrap64 ((wrap64 ((wrap64 ((wrap64 (12 * x207000)) + x207001)) - 1)) + x1)) 12) + 1))).bind fun t207 => ((customsref04_Number.f k (wrap64 (Int.tdiv (wrap64 ((wrap64 ((wrap64 ((wrap64 (12 * x207000)) + x207001)) - 1)) + x1)) 12)) (wrap64 ((Int.tmod (wrap64 ((wrap64 ((wrap64 ((wrap64 (12 * x207000)) + x207001)) - 1)) + x1)) 12) + 1)) (mn x207002 t207)).bind fun bt208 => (if bt208.2 = 0 then (some (bt208.1, 0)) else (some (0, 3)))))
def customsref04_AddMonths.f (k : Nat) (a0 : Int) (a1 : Int) : Option (Int × Int) := (customsref04_Of.f k a0).bind fun bt202 => (if bt202.2.2.2 = 0 then (if a1 < (-1200) then (customsref04_AddMonths.j0 k a1 true bt202.1 bt202.2.1 bt202.2.2.1) else (customsref04_AddMonths.j0 k a1 (decide (a1 > 1200)) bt202.1 bt202.2.1 bt202.2.2.1)) else (customsref04_AddMonths.j0 k a1 true bt202.1 bt202.2.1 bt202.2.2.1))
theorem customsref04_AddMonths.mono_l : ∀ k, (∀ y0 y1 y2 y3 y4, LeO (customsref04_AddMonths.j0 k y0 y1 y2 y3 y4) (customsref04_AddMonths.j0 (k + 1) y0 y1 y2 y3 y4))
  | 0 => fun _ _ _ _ _ r h => by simp [customsref04_AddMonths.j0] at h
  | k + 1 => by
    have ih0 := customsref04_AddMonths.mono_l k
    · intro y0 y1 y2 y3 y4
      unfold customsref04_AddMonths.j0
      repeat' first
      | (with_reducible exact ih0 _ _ _ _ _)
      | (with_reducible exact customsref04_Number.mono _ _ _ _)
      | (with_reducible exact customsref04_Of.mono _ _)
      | (with_reducible exact LeO.refl _)
      | (with_reducible exact LeO.none _)
      | (with_reducible refine LeO.ite ?_ ?_)
      | (with_reducible refine LeO.bind ?_ (fun _ => ?_))
      | exact ih0 _ _ _ _ _
      | exact customsref04_Number.mono _ _ _ _
      | exact customsref04_Of.mono _ _
      | exact LeO.none _
      | refine LeO.ite ?_ ?_
      | refine LeO.bind ?_ (fun _ => ?_)
theorem customsref04_AddMonths.mono : ∀ a0 a1 k, LeO (customsref04_AddMonths.f k a0 a1) (customsref04_AddMonths.f (k + 1) a0 a1) := by
  intro a0 a1 k
  have ih0 := customsref04_AddMonths.mono_l k
  unfold customsref04_AddMonths.f
  repeat' first
      | (with_reducible exact ih0 _ _ _ _ _)
      | (with_reducible exact customsref04_Number.mono _ _ _ _)
      | (with_reducible exact customsref04_Of.mono _ _)
      | (with_reducible exact LeO.refl _)
      | (with_reducible exact LeO.none _)
      | (with_reducible refine LeO.ite ?_ ?_)
      | (with_reducible refine LeO.bind ?_ (fun _ => ?_))
      | exact ih0 _ _ _ _ _
      | exact customsref04_Number.mono _ _ _ _
      | exact customsref04_Of.mono _ _
      | exact LeO.none _
      | refine LeO.ite ?_ ?_
      | refine LeO.bind ?_ (fun _ => ?_)
def customsref04_AddMonths.T6 : Bool × List (List Nat × List Nat) := (true, [([], []), ([0], [0]), ([], []), ([2], [2]), ([], []), ([4], [4]), ([3, 5], [3, 5]), ([1, 6], [1, 6]), ([0, 1, 2, 3, 4, 5, 6, 7], []), ([8, 7, 6, 0, 1, 2, 3, 4, 5, 6, 7], [7, 8])])
def customsref04_AddMonths.B6 : List Nat := [0, 1, 0, 4, 0, 16, 60, 127, 255, 511]
theorem customsref04_AddMonths.tab6 : rtab .any (opsOf Tryd.f21 6) = customsref04_AddMonths.T6 := by kernel_rfl
theorem customsref04_AddMonths.bits6 : waitsOk customsref04_AddMonths.T6.2 customsref04_AddMonths.B6 = true := by kernel_rfl
set_option maxHeartbeats 8000000 in
set_option maxRecDepth 100000 in
theorem customsref04_AddMonths.calls (k : Nat) (a0 : Int) (a1 : Int) (r1 : Int) (r2 : Int) (w : World) (h : customsref04_AddMonths.f k a0 a1 = some (r1, r2)) :
    Calls Tryd.prog 21 #[.int .i64 a0, .int .i64 a1] w fun e w' => e = .returned (.tuple #[.int .i64 r1, .int .i64 r2]) ∧ Below w.heap.size w w' := by
  have hu50 := Tryd.underlying50
  have HB := Aside0.mk (Below.refl w.heap.size w)
  have H : ((customsref04_Of.f k a0).bind fun bt202 => (if bt202.2.2.2 = 0 then (if a1 < (-1200) then (customsref04_AddMonths.j0 k a1 true bt202.1 bt202.2.1 bt202.2.2.1) else (customsref04_AddMonths.j0 k a1 (decide (a1 > 1200)) bt202.1 bt202.2.1 bt202.2.2.1)) else (customsref04_AddMonths.j0 k a1 true bt202.1 bt202.2.1 bt202.2.2.1))) = some (r1, r2) := h
  clear h
  replace H := Option.bind_eq_some_iff.mp H
  obtain ⟨⟨t202, t203, t204, t205⟩, A30, H⟩ := H
  replace H : (if t205 = 0 then (if a1 < (-1200) then (customsref04_AddMonths.j0 k a1 true t202 t203 t204) else (customsref04_AddMonths.j0 k a1 (decide (a1 > 1200)) t202 t203 t204)) else (customsref04_AddMonths.j0 k a1 true t202 t203 t204)) = some (r1, r2) := H
  have A3 := Aside0.mk A30
  clear A30
  have HC4 := Aside0.mk H
  clear H
  go_enter Tryd.func21, Tryd.ntmps21
  go_upto_region 2 with (first | ((with_reducible refine gate_callee (f := 26) rfl ?_); refine goesL_ (some 12) rfl rfl Tryd.func26 (by kernel_rfl) rfl #[.int .i64 a0] rfl (by (try simp only [List.map_toArray, List.map_cons, List.map_nil]); first | done | rfl | (simp only [List.length_drop, List.length_take]; rfl)) ?_; (with_reducible refine (customsref04_Of.calls k a0 t202 t203 t204 t205 _ A3.out).mono ?_); rintro e w5 ⟨rfl, hb⟩; refine ⟨_, rfl, ?_⟩; have n0_ := Aside0.mk (below_step (by repeat (first | (with_reducible first | exact HB.out | apply below_alloc | apply pw_below_drewN | apply below_drew1) | exact HB.out)) hb); clear HB; have HB := n0_; clear n0_; (try clear hb); (try clear hb2); (try clear hk); (try clear hi)) | ((with_reducible refine gate_dst (N := 6) rfl ?_); refine box_event ?hg (N := 6) ?hd (cs := #[.int .i64 0, .int .i64 0, .int .i64 0]) (t := 50) ?hr ?_; (case hd => rfl); (case hg => rfl); (case hr => first | (go_simp; done) | (go_simp; rfl)); intro gb206 hg w6 hbox hb; have n0_ := Aside0.mk (below_step (by repeat (first | (with_reducible first | exact HB.out | apply below_alloc | apply pw_below_drewN | apply below_drew1) | exact HB.out)) hb); have n1_ := Aside0.mk (hbox); have n2_ := Aside0.mk ((by rw [hg]; exact (below_size (by repeat (first | (with_reducible first | exact HB.out | apply below_alloc | apply pw_below_drewN | apply below_drew1) | exact HB.out))) : w.heap.size ≤ gb206)); have n3_ := Aside0.mk ((by rw [hg]; exact (below_size (by repeat (first | (with_reducible first | exact HB.out | apply below_alloc | apply pw_below_drewN | apply below_drew1) | exact HB.out))) : w.heap.size ≤ gb206)); clear HB; have HB := n0_; have BK206 := n1_; have GW206 := n2_; have GE206 := n3_; clear n0_ n1_ n2_ n3_; clear hb hbox hg; have hcz7_0 : w6.cell? ⟨gb206, 0, none⟩ = some (.int .i64 0) := (blk_cell BK206.out 0).trans rfl; have hcz7_1 : w6.cell? ⟨gb206, 1, none⟩ = some (.int .i64 0) := (blk_cell BK206.out 1).trans rfl; have hcz7_2 : w6.cell? ⟨gb206, 2, none⟩ = some (.int .i64 0) := (blk_cell BK206.out 2).trans rfl; have hfz7_0 := blk_frozen BK206.out 0; have hfz7_1 := blk_frozen BK206.out 1; have hfz7_2 := blk_frozen BK206.out 2))
  (try simp only [Act.put, List.setIfInBounds_toArray, List.set_cons_zero, List.set_cons_succ])
  go_cut [24] (fun v24 wc => ∃ (kq : Nat) (x24_3 : Bool), v24 = .bool x24_3 ∧ Aside0 (customsref04_AddMonths.j0 kq a1 x24_3 t202 t203 t204 = some (r1, r2)) ∧ Aside0 (kq ≤ k) ∧ Aside0 (wc.heap[gb206]? = some (.cells #[.int .i64 t202, .int .i64 t203, .int .i64 t204] 50 (0, 0))) ∧ Aside0 (Below w.heap.size w wc))
  case first =>
    have H := HC4.out
    clear HC4
    by_cases c8 : t205 = 0
    · rw [if_pos c8] at H
      have c8b0 : (t205 == 0) = true := beq_iff_eq.mpr c8
      have c8b1 : (t205 != 0) = false := bne_eq_false_iff_eq.mpr c8
      clear c8
      (first | rw [c8b0] | (simp only [i64_w, i32_w]; rw [c8b0]) | skip)
      by_cases c9 : a1 < (-1200)
      · rw [if_pos c9] at H
        have c9b0 : decide (a1 < (-1200)) = true := decide_eq_true c9
        clear c9
        have H' := Aside0.mk H
        clear H
        go_wp2
        go_meet
        case rel => exact ⟨_, (true), (by first | rfl | (simp; done) | (simp [*]; done)), H', ⟨by first | omega | exact Nat.le_refl _⟩, ⟨by (with_reducible repeat (first | refine blk_drewN ?_ _ | refine blk_drew ?_ | refine blk_alloc ?_ _)); refine blk_put (cs := #[.int .i64 t202, .int .i64 t203, .int .i64 0]) ?_ 2 _ rfl; (with_reducible repeat (first | refine blk_drewN ?_ _ | refine blk_drew ?_ | refine blk_alloc ?_ _)); refine blk_put (cs := #[.int .i64 t202, .int .i64 0, .int .i64 0]) ?_ 1 _ rfl; (with_reducible repeat (first | refine blk_drewN ?_ _ | refine blk_drew ?_ | refine blk_alloc ?_ _)); refine blk_put (cs := #[.int .i64 0, .int .i64 0, .int .i64 0]) ?_ 0 _ rfl; (with_reducible repeat (first | refine blk_drewN ?_ _ | refine blk_drew ?_ | refine blk_alloc ?_ _)); exact BK206.out⟩, ⟨by repeat (first | (with_reducible first | exact HB.out | apply below_alloc | apply pw_below_drewN | apply below_drew1 | refine below_set ?_ GE206.out) | exact HB.out)⟩⟩
      · rw [if_neg c9] at H
        have c9b0 : decide (a1 < (-1200)) = false := decide_eq_false c9
        clear c9
        have H' := Aside0.mk H
        clear H
        go_wp2
        go_meet
        case rel => exact ⟨_, (decide (a1 > 1200)), (by first | rfl | (simp; done) | (simp [*]; done)), H', ⟨by first | omega | exact Nat.le_refl _⟩, ⟨by (with_reducible repeat (first | refine blk_drewN ?_ _ | refine blk_drew ?_ | refine blk_alloc ?_ _)); refine blk_put (cs := #[.int .i64 t202, .int .i64 t203, .int .i64 0]) ?_ 2 _ rfl; (with_reducible repeat (first | refine blk_drewN ?_ _ | refine blk_drew ?_ | refine blk_alloc ?_ _)); refine blk_put (cs := #[.int .i64 t202, .int .i64 0, .int .i64 0]) ?_ 1 _ rfl; (with_reducible repeat (first | refine blk_drewN ?_ _ | refine blk_drew ?_ | refine blk_alloc ?_ _)); refine blk_put (cs := #[.int .i64 0, .int .i64 0, .int .i64 0]) ?_ 0 _ rfl; (with_reducible repeat (first | refine blk_drewN ?_ _ | refine blk_drew ?_ | refine blk_alloc ?_ _)); exact BK206.out⟩, ⟨by repeat (first | (with_reducible first | exact HB.out | apply below_alloc | apply pw_below_drewN | apply below_drew1 | refine below_set ?_ GE206.out) | exact HB.out)⟩⟩
    · rw [if_neg c8] at H
      have c8b0 : (t205 == 0) = false := beq_eq_false_iff_ne.mpr c8
      have c8b1 : (t205 != 0) = true := bne_iff_ne.mpr c8
      (first | rw [c8b0] | (simp only [i64_w, i32_w]; rw [c8b0]) | skip)
      have H' := Aside0.mk H
      clear H
      go_wp2
      go_meet
      case rel => exact ⟨_, (true), (by first | rfl | (simp; done) | (simp [*]; done)), H', ⟨by first | omega | exact Nat.le_refl _⟩, ⟨by (with_reducible repeat (first | refine blk_drewN ?_ _ | refine blk_drew ?_ | refine blk_alloc ?_ _)); refine blk_put (cs := #[.int .i64 t202, .int .i64 t203, .int .i64 0]) ?_ 2 _ rfl; (with_reducible repeat (first | refine blk_drewN ?_ _ | refine blk_drew ?_ | refine blk_alloc ?_ _)); refine blk_put (cs := #[.int .i64 t202, .int .i64 0, .int .i64 0]) ?_ 1 _ rfl; (with_reducible repeat (first | refine blk_drewN ?_ _ | refine blk_drew ?_ | refine blk_alloc ?_ _)); refine blk_put (cs := #[.int .i64 0, .int .i64 0, .int .i64 0]) ?_ 0 _ rfl; (with_reducible repeat (first | refine blk_drewN ?_ _ | refine blk_drew ?_ | refine blk_alloc ?_ _)); exact BK206.out⟩, ⟨by repeat (first | (with_reducible first | exact HB.out | apply below_alloc | apply pw_below_drewN | apply below_drew1 | refine below_set ?_ GE206.out) | exact HB.out)⟩⟩
  case rest =>
    clear HC4
    try clear c2
    try clear p2
    try clear c8
    try clear c8b0
    try clear c8b1
    try clear c9
    try clear c9b0
    try clear hcz7_0
    try clear hcz7_1
    try clear hcz7_2
    try clear hfz7_0
    try clear hfz7_1
    try clear hfz7_2
    obtain ⟨kq, x24_3, rfl, HA, HJ3, BK206, HB⟩ := hcut
    cases kq with
    | zero => exact absurd HA.out (by simp [customsref04_AddMonths.j0])
    | succ kj3 =>
      have H := HA.out
      clear HA
      simp only [customsref04_AddMonths.j0] at H
      by_cases c10 : x24_3 = true
      · subst c10
        have H1 : (some (0, 2)) = some (r1, r2) := by rw [if_pos rfl] at H; exact H
        clear H
        have H := H1
        clear H1
        simp only [Option.some.injEq, Prod.mk.injEq] at H
        obtain ⟨rfl, rfl⟩ := H
        go_wp2
        go_ret2
        exact ⟨by first | rfl | (simp [errW_none, errW_some] <;> rfl) | (simp [*, errW_none, errW_some] <;> rfl), by repeat (first | (with_reducible first | exact HB.out | apply below_alloc | apply pw_below_drewN | apply below_drew1 | refine below_set ?_ GE206.out) | exact HB.out)⟩
      · replace c10 := Bool.eq_false_iff.mpr c10
        subst c10
        have H1 : ((customsref04_Long.f (wrap64 (Int.tdiv (wrap64 ((wrap64 ((wrap64 ((wrap64 (12 * t202)) + t203)) - 1)) + a1)) 12)) (wrap64 ((Int.tmod (wrap64 ((wrap64 ((wrap64 ((wrap64 (12 * t202)) + t203)) - 1)) + a1)) 12) + 1))).bind fun t207 => ((customsref04_Number.f kj3 (wrap64 (Int.tdiv (wrap64 ((wrap64 ((wrap64 ((wrap64 (12 * t202)) + t203)) - 1)) + a1)) 12)) (wrap64 ((Int.tmod (wrap64 ((wrap64 ((wrap64 ((wrap64 (12 * t202)) + t203)) - 1)) + a1)) 12) + 1)) (mn t204 t207)).bind fun bt208 => (if bt208.2 = 0 then (some (bt208.1, 0)) else (some (0, 3))))) = some (r1, r2) := by rw [if_neg (show ¬ (false = true) by decide)] at H; exact H
        clear H
        have H := H1
        clear H1
        replace H := Option.bind_eq_some_iff.mp H
        obtain ⟨t207, A110, H⟩ := H
        replace H : ((customsref04_Number.f kj3 (wrap64 (Int.tdiv (wrap64 ((wrap64 ((wrap64 ((wrap64 (12 * t202)) + t203)) - 1)) + a1)) 12)) (wrap64 ((Int.tmod (wrap64 ((wrap64 ((wrap64 ((wrap64 (12 * t202)) + t203)) - 1)) + a1)) 12) + 1)) (mn t204 t207)).bind fun bt208 => (if bt208.2 = 0 then (some (bt208.1, 0)) else (some (0, 3)))) = some (r1, r2) := H
        have A11 := Aside0.mk A110
        clear A110
        obtain ⟨ji12, hji12⟩ : ∃ j_ : Int, (mn t204 t207) = j_ := ⟨_, rfl⟩
        replace H : ((customsref04_Number.f kj3 (wrap64 (Int.tdiv (wrap64 ((wrap64 ((wrap64 ((wrap64 (12 * t202)) + t203)) - 1)) + a1)) 12)) (wrap64 ((Int.tmod (wrap64 ((wrap64 ((wrap64 ((wrap64 (12 * t202)) + t203)) - 1)) + a1)) 12) + 1)) (ji12)).bind fun bt208 => (if bt208.2 = 0 then (some (bt208.1, 0)) else (some (0, 3)))) = some (r1, r2) := by first | (rw [hji12] at H; exact H) | (simp only [hji12] at H ⊢; exact H)
        (try rw [hji12] at A11)
        have hji12_ : (if t207 < t204 then t207 else t204) = ji12 := hji12
        replace H := Option.bind_eq_some_iff.mp H
        obtain ⟨⟨t208, t209⟩, A130, H⟩ := H
        replace H : (if t209 = 0 then (some (t208, 0)) else (some (0, 3))) = some (r1, r2) := H
        have A13 := Aside0.mk A130
        clear A130
        by_cases c14 : t209 = 0
        · rw [if_pos c14] at H
          have c14b0 : (t209 == 0) = true := beq_iff_eq.mpr c14
          have c14b1 : (t209 != 0) = false := bne_eq_false_iff_eq.mpr c14
          clear c14
          simp only [Option.some.injEq, Prod.mk.injEq] at H
          obtain ⟨rfl, rfl⟩ := H
          have hcz15_0 : wc.cell? ⟨gb206, 0, none⟩ = some (.int .i64 t202) := (blk_cell BK206.out 0).trans rfl
          have hcz15_1 : wc.cell? ⟨gb206, 1, none⟩ = some (.int .i64 t203) := (blk_cell BK206.out 1).trans rfl
          have hcz15_2 : wc.cell? ⟨gb206, 2, none⟩ = some (.int .i64 t204) := (blk_cell BK206.out 2).trans rfl
          have hfz15_0 := blk_frozen BK206.out 0
          have hfz15_1 := blk_frozen BK206.out 1
          have hfz15_2 := blk_frozen BK206.out 2
          try go_wp2
          have n0_ : Aside0 (((wc.setCell ⟨gb206, 0, none⟩ (.int .i64 (wrap64 (Int.tdiv (wrap64 ((wrap64 ((wrap64 ((wrap64 (12 * t202)) + t203)) - 1)) + a1)) 12)))).setCell ⟨gb206, 1, none⟩ (.int .i64 (wrap64 ((Int.tmod (wrap64 ((wrap64 ((wrap64 ((wrap64 (12 * t202)) + t203)) - 1)) + a1)) 12) + 1)))).heap[gb206]? = some (.cells #[.int .i64 (wrap64 (Int.tdiv (wrap64 ((wrap64 ((wrap64 ((wrap64 (12 * t202)) + t203)) - 1)) + a1)) 12)), .int .i64 (wrap64 ((Int.tmod (wrap64 ((wrap64 ((wrap64 ((wrap64 (12 * t202)) + t203)) - 1)) + a1)) 12) + 1)), .int .i64 t204] 50 (0, 0))) := ⟨by (with_reducible repeat (first | refine blk_drewN ?_ _ | refine blk_drew ?_ | refine blk_alloc ?_ _)); refine blk_put (cs := #[.int .i64 (wrap64 (Int.tdiv (wrap64 ((wrap64 ((wrap64 ((wrap64 (12 * t202)) + t203)) - 1)) + a1)) 12)), .int .i64 t203, .int .i64 t204]) ?_ 1 _ rfl; (with_reducible repeat (first | refine blk_drewN ?_ _ | refine blk_drew ?_ | refine blk_alloc ?_ _)); refine blk_put (cs := #[.int .i64 t202, .int .i64 t203, .int .i64 t204]) ?_ 0 _ rfl; (with_reducible repeat (first | refine blk_drewN ?_ _ | refine blk_drew ?_ | refine blk_alloc ?_ _)); exact BK206.out⟩
          have n1_ : Aside0 (Below w.heap.size w ((wc.setCell ⟨gb206, 0, none⟩ (.int .i64 (wrap64 (Int.tdiv (wrap64 ((wrap64 ((wrap64 ((wrap64 (12 * t202)) + t203)) - 1)) + a1)) 12)))).setCell ⟨gb206, 1, none⟩ (.int .i64 (wrap64 ((Int.tmod (wrap64 ((wrap64 ((wrap64 ((wrap64 (12 * t202)) + t203)) - 1)) + a1)) 12) + 1))))) := ⟨by repeat (first | (with_reducible first | exact HB.out | apply below_alloc | apply pw_below_drewN | apply below_drew1 | refine below_set ?_ GE206.out) | exact HB.out)⟩
          (try clear BK206)
          (try clear HB)
          generalize ((wc.setCell ⟨gb206, 0, none⟩ (.int .i64 (wrap64 (Int.tdiv (wrap64 ((wrap64 ((wrap64 ((wrap64 (12 * t202)) + t203)) - 1)) + a1)) 12)))).setCell ⟨gb206, 1, none⟩ (.int .i64 (wrap64 ((Int.tmod (wrap64 ((wrap64 ((wrap64 ((wrap64 (12 * t202)) + t203)) - 1)) + a1)) 12) + 1)))) = w16 at n0_ n1_ ⊢
          have BK206 := n0_
          have HB := n1_
          clear n0_ n1_
          have n0_ := Aside0.mk (blk_drew BK206.out)
          have n1_ := Aside0.mk (below_drew1 HB.out)
          clear BK206
          clear HB
          have BK206 := n0_
          have HB := n1_
          clear n0_ n1_
          refine start_ (n := 10) (S := fun w' => w'.cell? ⟨gb206, 0, none⟩ = some (.int .i64 (wrap64 (Int.tdiv (wrap64 ((wrap64 ((wrap64 ((wrap64 (12 * t202)) + t203)) - 1)) + a1)) 12))) ∧ w'.cell? ⟨gb206, 1, none⟩ = some (.int .i64 (wrap64 ((Int.tmod (wrap64 ((wrap64 ((wrap64 ((wrap64 (12 * t202)) + t203)) - 1)) + a1)) 12) + 1))) ∧ w'.cell? ⟨gb206, 2, none⟩ = some (.int .i64 t204)) (ds := [9]) #[false, false, false, false, false, false, false, false, false, false] (by kernel_rfl) rfl rfl ⟨(blk_cell BK206.out 0).trans rfl, (blk_cell BK206.out 1).trans rfl, (blk_cell BK206.out 2).trans rfl⟩ (fun hHeld => ?_); refine with_tabW customsref04_AddMonths.tab6 customsref04_AddMonths.bits6 (fun HT_ HW_ => ?_)
          generalize w16.drew = w17 at BK206 HB hHeld ⊢
          refine pure_ (i := 0) (N := some 41) (v := ?_) (a' := ?_) #[true, false, false, false, false, false, false, false, false, false] rfl rfl (any_of HT_.out (by kernel_rfl)) (fun _ _ _ h => h) (Or.inl ⟨by rfl, ?_⟩) ?_ ?_
          rotate_left
          · intro w'
            go_simp
            with_reducible rfl
          rotate_left
          · simp only [Act.put, List.setIfInBounds_toArray, List.set_cons_zero, List.set_cons_succ, i64_w, i32_w]
            rfl
          refine pure_ (i := 2) (N := some 43) (v := ?_) (a' := ?_) #[true, false, true, false, false, false, false, false, false, false] rfl rfl (any_of HT_.out (by kernel_rfl)) (fun _ _ _ h => h) (Or.inl ⟨by rfl, ?_⟩) ?_ ?_
          rotate_left
          · intro w'
            go_simp
            with_reducible rfl
          rotate_left
          · simp only [Act.put, List.setIfInBounds_toArray, List.set_cons_zero, List.set_cons_succ, i64_w, i32_w]
            rfl
          refine pure_ (i := 4) (N := some 45) (v := ?_) (a' := ?_) #[true, false, true, false, true, false, false, false, false, false] rfl rfl (any_of HT_.out (by kernel_rfl)) (fun _ _ _ h => h) (Or.inl ⟨by rfl, ?_⟩) ?_ ?_
          rotate_left
          · intro w'
            go_simp
            with_reducible rfl
          rotate_left
          · simp only [Act.put, List.setIfInBounds_toArray, List.set_cons_zero, List.set_cons_succ, i64_w, i32_w]
            rfl
          refine take_ (i := 1) (N := some 42) (v := ?_) (a' := ?_) #[true, true, true, false, true, false, false, false, false, false] rfl rfl (take_ofW HT_.out HW_.out (by kernel_rfl)) (fun _ _ _ h => h) (Or.inl ⟨by rfl, ?_⟩) hHeld ?_ ?_
          rotate_left
          · rintro w' ⟨s0, s1, s2⟩
            go_simp
            with_reducible rfl
          rotate_left
          · simp only [Act.put, List.setIfInBounds_toArray, List.set_cons_zero, List.set_cons_succ, i64_w, i32_w]
            rfl
          refine take_ (i := 3) (N := some 44) (v := ?_) (a' := ?_) #[true, true, true, true, true, false, false, false, false, false] rfl rfl (take_ofW HT_.out HW_.out (by kernel_rfl)) (fun _ _ _ h => h) (Or.inl ⟨by rfl, ?_⟩) hHeld ?_ ?_
          rotate_left
          · rintro w' ⟨s0, s1, s2⟩
            go_simp
            with_reducible rfl
          rotate_left
          · simp only [Act.put, List.setIfInBounds_toArray, List.set_cons_zero, List.set_cons_succ, i64_w, i32_w]
            rfl
          refine take_ (i := 5) (N := some 46) (v := ?_) (a' := ?_) #[true, true, true, true, true, true, false, false, false, false] rfl rfl (take_ofW HT_.out HW_.out (by kernel_rfl)) (fun _ _ _ h => h) (Or.inl ⟨by rfl, ?_⟩) hHeld ?_ ?_
          rotate_left
          · rintro w' ⟨s0, s1, s2⟩
            go_simp
            with_reducible rfl
          rotate_left
          · simp only [Act.put, List.setIfInBounds_toArray, List.set_cons_zero, List.set_cons_succ, i64_w, i32_w]
            rfl
          refine one_ (i := 6) (N := some 47) #[true, true, true, true, true, true, true, false, false, false] rfl rfl (one_of HT_.out (by kernel_rfl)) (by decide) (fun K hK => ?_)
          refine goes_ Tryd.func27 (by kernel_rfl) rfl #[.int .i64 (wrap64 (Int.tdiv (wrap64 ((wrap64 ((wrap64 ((wrap64 (12 * t202)) + t203)) - 1)) + a1)) 12)), .int .i64 (wrap64 ((Int.tmod (wrap64 ((wrap64 ((wrap64 ((wrap64 (12 * t202)) + t203)) - 1)) + a1)) 12) + 1))] (by rfl) rfl rfl (by (try simp only [List.map_toArray, List.map_cons, List.map_nil]); first | done | rfl | (simp only [List.length_drop, List.length_take]; rfl)) ?_
          with_reducible refine (customsref04_Long.calls (wrap64 (Int.tdiv (wrap64 ((wrap64 ((wrap64 ((wrap64 (12 * t202)) + t203)) - 1)) + a1)) 12)) (wrap64 ((Int.tmod (wrap64 ((wrap64 ((wrap64 ((wrap64 (12 * t202)) + t203)) - 1)) + a1)) 12) + 1)) t207 _ A11.out).mono ?_
          rintro e w' ⟨rfl, ⟨nd, rfl⟩⟩
          refine ⟨_, rfl, ?_⟩
          refine hK.out _ _ ⟨(blk_cell BK206.out 0).trans rfl, (blk_cell BK206.out 1).trans rfl, (blk_cell BK206.out 2).trans rfl⟩ (fun hHeld => ?_)
          clear hK K
          refine norm_ (a' := ?_) ?_ ?_
          rotate_left
          · show Act.put _ (some 47) _ = _
            simp only [Act.put, List.setIfInBounds_toArray, List.set_cons_zero, List.set_cons_succ, i64_w, i32_w]
            rfl
          refine pure_ (i := 7) (N := some 48) (v := ?_) (a' := ?_) #[true, true, true, true, true, true, true, true, false, false] rfl rfl (any_of HT_.out (by kernel_rfl)) (fun _ _ _ h => h) (Or.inl ⟨by rfl, ?_⟩) ?_ ?_
          rotate_left
          · intro w'
            go_simp
            with_reducible rfl
          rotate_left
          · simp only [Act.put, List.setIfInBounds_toArray, List.set_cons_zero, List.set_cons_succ, i64_w, i32_w]
            rfl
          refine pure_ (i := 8) (N := some 49) (v := ?_) (a' := ?_) #[true, true, true, true, true, true, true, true, true, false] rfl rfl (any_of HT_.out (by kernel_rfl)) (fun _ _ _ h => h) (Or.inl ⟨by rfl, ?_⟩) ?_ ?_
          rotate_left
          · intro w'
            go_simp
            with_reducible rfl
          rotate_left
          · simp only [Act.put, List.setIfInBounds_toArray, List.set_cons_zero, List.set_cons_succ, i64_w, i32_w]
            rfl
          refine last_ (i := 9) (N := none) #[true, true, true, true, true, true, true, true, true, true] rfl rfl (one_of HT_.out (by kernel_rfl)) (by decide) (fun K hK => ?_)
          have hs18 : w17.cell? ⟨gb206, 2, none⟩ = some (.int .i64 t204) := (blk_cell BK206.out 2).trans rfl
          have hfs18 := blk_frozen BK206.out 2
          refine skip_ (w1 := ?_) (by rfl) rfl ?_ ?_
          rotate_left
          · go_simp
            rfl
          refine hK.out _ _ ?_
          clear hK K
          refine done_ (done_of HT_.out (by kernel_rfl)) ?_
          have hcz19_0 : w17.cell? ⟨gb206, 0, none⟩ = some (.int .i64 (wrap64 (Int.tdiv (wrap64 ((wrap64 ((wrap64 ((wrap64 (12 * t202)) + t203)) - 1)) + a1)) 12))) := (blk_cell BK206.out 0).trans rfl
          have hcz19_1 : w17.cell? ⟨gb206, 1, none⟩ = some (.int .i64 (wrap64 ((Int.tmod (wrap64 ((wrap64 ((wrap64 ((wrap64 (12 * t202)) + t203)) - 1)) + a1)) 12) + 1))) := (blk_cell BK206.out 1).trans rfl
          have hcz19_2 : w17.cell? ⟨gb206, 2, none⟩ = some (.int .i64 t204) := (blk_cell BK206.out 2).trans rfl
          have hfz19_0 := blk_frozen BK206.out 0
          have hfz19_1 := blk_frozen BK206.out 1
          have hfz19_2 := blk_frozen BK206.out 2
          try go_wp2_with (first | ((with_reducible refine gate_callee (f := 28) rfl ?_); refine goesL_ (some 52) rfl rfl Tryd.func28 (by kernel_rfl) rfl #[.agg #[.int .i64 (wrap64 (Int.tdiv (wrap64 ((wrap64 ((wrap64 ((wrap64 (12 * t202)) + t203)) - 1)) + a1)) 12)), .int .i64 (wrap64 ((Int.tmod (wrap64 ((wrap64 ((wrap64 ((wrap64 (12 * t202)) + t203)) - 1)) + a1)) 12) + 1)), .int .i64 ji12]] rfl (by (try simp only [List.map_toArray, List.map_cons, List.map_nil]); first | done | (simp only [hji12]; rfl) | rfl | (simp only [List.length_drop, List.length_take]; rfl)) ?_; (with_reducible refine (customsref04_Number.calls kj3 (wrap64 (Int.tdiv (wrap64 ((wrap64 ((wrap64 ((wrap64 (12 * t202)) + t203)) - 1)) + a1)) 12)) (wrap64 ((Int.tmod (wrap64 ((wrap64 ((wrap64 ((wrap64 (12 * t202)) + t203)) - 1)) + a1)) 12) + 1)) ji12 t208 t209 _ A13.out).mono ?_); rintro e w20 ⟨rfl, hb⟩; refine ⟨_, rfl, ?_⟩; have n0_ := Aside0.mk (blk_below (g := gb206) (o := .cells #[.int .i64 (wrap64 (Int.tdiv (wrap64 ((wrap64 ((wrap64 ((wrap64 (12 * t202)) + t203)) - 1)) + a1)) 12)), .int .i64 (wrap64 ((Int.tmod (wrap64 ((wrap64 ((wrap64 ((wrap64 (12 * t202)) + t203)) - 1)) + a1)) 12) + 1)), .int .i64 ji12] 50 (0, 0)) (by (with_reducible repeat (first | refine blk_drewN ?_ _ | refine blk_drew ?_ | refine blk_alloc ?_ _)); refine blk_put (cs := #[.int .i64 (wrap64 (Int.tdiv (wrap64 ((wrap64 ((wrap64 ((wrap64 (12 * t202)) + t203)) - 1)) + a1)) 12)), .int .i64 (wrap64 ((Int.tmod (wrap64 ((wrap64 ((wrap64 ((wrap64 (12 * t202)) + t203)) - 1)) + a1)) 12) + 1)), .int .i64 t204]) ?_ 2 _ rfl; (with_reducible repeat (first | refine blk_drewN ?_ _ | refine blk_drew ?_ | refine blk_alloc ?_ _)); exact BK206.out) hb); have n1_ := Aside0.mk (below_step (by repeat (first | (with_reducible first | exact HB.out | apply below_alloc | apply pw_below_drewN | apply below_drew1 | refine below_set ?_ GE206.out) | exact HB.out)) hb); clear BK206; clear HB; have BK206 := n0_; have HB := n1_; clear n0_ n1_; (try clear hb); (try clear hb2); (try clear hk); (try clear hi)))
          go_ret2
          exact ⟨by first | rfl | (simp [errW_none, errW_some] <;> rfl) | (simp only [← hji12]; first | rfl | (simp [errW_none, errW_some] <;> rfl)) | (simp [*, errW_none, errW_some] <;> rfl), by repeat (first | (with_reducible first | exact HB.out | apply below_alloc | apply pw_below_drewN | apply below_drew1 | refine below_set ?_ GE206.out) | exact HB.out)⟩
        · rw [if_neg c14] at H
          have c14b0 : (t209 == 0) = false := beq_eq_false_iff_ne.mpr c14
          have c14b1 : (t209 != 0) = true := bne_iff_ne.mpr c14
          simp only [Option.some.injEq, Prod.mk.injEq] at H
          obtain ⟨rfl, rfl⟩ := H
          have hcz21_0 : wc.cell? ⟨gb206, 0, none⟩ = some (.int .i64 t202) := (blk_cell BK206.out 0).trans rfl
          have hcz21_1 : wc.cell? ⟨gb206, 1, none⟩ = some (.int .i64 t203) := (blk_cell BK206.out 1).trans rfl
          have hcz21_2 : wc.cell? ⟨gb206, 2, none⟩ = some (.int .i64 t204) := (blk_cell BK206.out 2).trans rfl
          have hfz21_0 := blk_frozen BK206.out 0
          have hfz21_1 := blk_frozen BK206.out 1
          have hfz21_2 := blk_frozen BK206.out 2
          try go_wp2
          have n0_ : Aside0 (((wc.setCell ⟨gb206, 0, none⟩ (.int .i64 (wrap64 (Int.tdiv (wrap64 ((wrap64 ((wrap64 ((wrap64 (12 * t202)) + t203)) - 1)) + a1)) 12)))).setCell ⟨gb206, 1, none⟩ (.int .i64 (wrap64 ((Int.tmod (wrap64 ((wrap64 ((wrap64 ((wrap64 (12 * t202)) + t203)) - 1)) + a1)) 12) + 1)))).heap[gb206]? = some (.cells #[.int .i64 (wrap64 (Int.tdiv (wrap64 ((wrap64 ((wrap64 ((wrap64 (12 * t202)) + t203)) - 1)) + a1)) 12)), .int .i64 (wrap64 ((Int.tmod (wrap64 ((wrap64 ((wrap64 ((wrap64 (12 * t202)) + t203)) - 1)) + a1)) 12) + 1)), .int .i64 t204] 50 (0, 0))) := ⟨by (with_reducible repeat (first | refine blk_drewN ?_ _ | refine blk_drew ?_ | refine blk_alloc ?_ _)); refine blk_put (cs := #[.int .i64 (wrap64 (Int.tdiv (wrap64 ((wrap64 ((wrap64 ((wrap64 (12 * t202)) + t203)) - 1)) + a1)) 12)), .int .i64 t203, .int .i64 t204]) ?_ 1 _ rfl; (with_reducible repeat (first | refine blk_drewN ?_ _ | refine blk_drew ?_ | refine blk_alloc ?_ _)); refine blk_put (cs := #[.int .i64 t202, .int .i64 t203, .int .i64 t204]) ?_ 0 _ rfl; (with_reducible repeat (first | refine blk_drewN ?_ _ | refine blk_drew ?_ | refine blk_alloc ?_ _)); exact BK206.out⟩
          have n1_ : Aside0 (Below w.heap.size w ((wc.setCell ⟨gb206, 0, none⟩ (.int .i64 (wrap64 (Int.tdiv (wrap64 ((wrap64 ((wrap64 ((wrap64 (12 * t202)) + t203)) - 1)) + a1)) 12)))).setCell ⟨gb206, 1, none⟩ (.int .i64 (wrap64 ((Int.tmod (wrap64 ((wrap64 ((wrap64 ((wrap64 (12 * t202)) + t203)) - 1)) + a1)) 12) + 1))))) := ⟨by repeat (first | (with_reducible first | exact HB.out | apply below_alloc | apply pw_below_drewN | apply below_drew1 | refine below_set ?_ GE206.out) | exact HB.out)⟩
          (try clear BK206)
          (try clear HB)
          generalize ((wc.setCell ⟨gb206, 0, none⟩ (.int .i64 (wrap64 (Int.tdiv (wrap64 ((wrap64 ((wrap64 ((wrap64 (12 * t202)) + t203)) - 1)) + a1)) 12)))).setCell ⟨gb206, 1, none⟩ (.int .i64 (wrap64 ((Int.tmod (wrap64 ((wrap64 ((wrap64 ((wrap64 (12 * t202)) + t203)) - 1)) + a1)) 12) + 1)))) = w22 at n0_ n1_ ⊢
          have BK206 := n0_
          have HB := n1_
          clear n0_ n1_
          have n0_ := Aside0.mk (blk_drew BK206.out)
          have n1_ := Aside0.mk (below_drew1 HB.out)
          clear BK206
          clear HB
          have BK206 := n0_
          have HB := n1_
          clear n0_ n1_
          refine start_ (n := 10) (S := fun w' => w'.cell? ⟨gb206, 0, none⟩ = some (.int .i64 (wrap64 (Int.tdiv (wrap64 ((wrap64 ((wrap64 ((wrap64 (12 * t202)) + t203)) - 1)) + a1)) 12))) ∧ w'.cell? ⟨gb206, 1, none⟩ = some (.int .i64 (wrap64 ((Int.tmod (wrap64 ((wrap64 ((wrap64 ((wrap64 (12 * t202)) + t203)) - 1)) + a1)) 12) + 1))) ∧ w'.cell? ⟨gb206, 2, none⟩ = some (.int .i64 t204)) (ds := [9]) #[false, false, false, false, false, false, false, false, false, false] (by kernel_rfl) rfl rfl ⟨(blk_cell BK206.out 0).trans rfl, (blk_cell BK206.out 1).trans rfl, (blk_cell BK206.out 2).trans rfl⟩ (fun hHeld => ?_); refine with_tabW customsref04_AddMonths.tab6 customsref04_AddMonths.bits6 (fun HT_ HW_ => ?_)
          generalize w22.drew = w23 at BK206 HB hHeld ⊢
          refine pure_ (i := 0) (N := some 41) (v := ?_) (a' := ?_) #[true, false, false, false, false, false, false, false, false, false] rfl rfl (any_of HT_.out (by kernel_rfl)) (fun _ _ _ h => h) (Or.inl ⟨by rfl, ?_⟩) ?_ ?_
          rotate_left
          · intro w'
            go_simp
            with_reducible rfl
          rotate_left
          · simp only [Act.put, List.setIfInBounds_toArray, List.set_cons_zero, List.set_cons_succ, i64_w, i32_w]
            rfl
          refine pure_ (i := 2) (N := some 43) (v := ?_) (a' := ?_) #[true, false, true, false, false, false, false, false, false, false] rfl rfl (any_of HT_.out (by kernel_rfl)) (fun _ _ _ h => h) (Or.inl ⟨by rfl, ?_⟩) ?_ ?_
          rotate_left
          · intro w'
            go_simp
            with_reducible rfl
          rotate_left
          · simp only [Act.put, List.setIfInBounds_toArray, List.set_cons_zero, List.set_cons_succ, i64_w, i32_w]
            rfl
          refine pure_ (i := 4) (N := some 45) (v := ?_) (a' := ?_) #[true, false, true, false, true, false, false, false, false, false] rfl rfl (any_of HT_.out (by kernel_rfl)) (fun _ _ _ h => h) (Or.inl ⟨by rfl, ?_⟩) ?_ ?_
          rotate_left
          · intro w'
            go_simp
            with_reducible rfl
          rotate_left
          · simp only [Act.put, List.setIfInBounds_toArray, List.set_cons_zero, List.set_cons_succ, i64_w, i32_w]
            rfl
          refine take_ (i := 1) (N := some 42) (v := ?_) (a' := ?_) #[true, true, true, false, true, false, false, false, false, false] rfl rfl (take_ofW HT_.out HW_.out (by kernel_rfl)) (fun _ _ _ h => h) (Or.inl ⟨by rfl, ?_⟩) hHeld ?_ ?_
          rotate_left
          · rintro w' ⟨s0, s1, s2⟩
            go_simp
            with_reducible rfl
          rotate_left
          · simp only [Act.put, List.setIfInBounds_toArray, List.set_cons_zero, List.set_cons_succ, i64_w, i32_w]
            rfl
          refine take_ (i := 3) (N := some 44) (v := ?_) (a' := ?_) #[true, true, true, true, true, false, false, false, false, false] rfl rfl (take_ofW HT_.out HW_.out (by kernel_rfl)) (fun _ _ _ h => h) (Or.inl ⟨by rfl, ?_⟩) hHeld ?_ ?_
          rotate_left
          · rintro w' ⟨s0, s1, s2⟩
            go_simp
            with_reducible rfl
          rotate_left
          · simp only [Act.put, List.setIfInBounds_toArray, List.set_cons_zero, List.set_cons_succ, i64_w, i32_w]
            rfl
          refine take_ (i := 5) (N := some 46) (v := ?_) (a' := ?_) #[true, true, true, true, true, true, false, false, false, false] rfl rfl (take_ofW HT_.out HW_.out (by kernel_rfl)) (fun _ _ _ h => h) (Or.inl ⟨by rfl, ?_⟩) hHeld ?_ ?_
          rotate_left
          · rintro w' ⟨s0, s1, s2⟩
            go_simp
            with_reducible rfl
          rotate_left
          · simp only [Act.put, List.setIfInBounds_toArray, List.set_cons_zero, List.set_cons_succ, i64_w, i32_w]
            rfl
          refine one_ (i := 6) (N := some 47) #[true, true, true, true, true, true, true, false, false, false] rfl rfl (one_of HT_.out (by kernel_rfl)) (by decide) (fun K hK => ?_)
          refine goes_ Tryd.func27 (by kernel_rfl) rfl #[.int .i64 (wrap64 (Int.tdiv (wrap64 ((wrap64 ((wrap64 ((wrap64 (12 * t202)) + t203)) - 1)) + a1)) 12)), .int .i64 (wrap64 ((Int.tmod (wrap64 ((wrap64 ((wrap64 ((wrap64 (12 * t202)) + t203)) - 1)) + a1)) 12) + 1))] (by rfl) rfl rfl (by (try simp only [List.map_toArray, List.map_cons, List.map_nil]); first | done | rfl | (simp only [List.length_drop, List.length_take]; rfl)) ?_
          with_reducible refine (customsref04_Long.calls (wrap64 (Int.tdiv (wrap64 ((wrap64 ((wrap64 ((wrap64 (12 * t202)) + t203)) - 1)) + a1)) 12)) (wrap64 ((Int.tmod (wrap64 ((wrap64 ((wrap64 ((wrap64 (12 * t202)) + t203)) - 1)) + a1)) 12) + 1)) t207 _ A11.out).mono ?_
          rintro e w' ⟨rfl, ⟨nd, rfl⟩⟩
          refine ⟨_, rfl, ?_⟩
          refine hK.out _ _ ⟨(blk_cell BK206.out 0).trans rfl, (blk_cell BK206.out 1).trans rfl, (blk_cell BK206.out 2).trans rfl⟩ (fun hHeld => ?_)
          clear hK K
          refine norm_ (a' := ?_) ?_ ?_
          rotate_left
          · show Act.put _ (some 47) _ = _
            simp only [Act.put, List.setIfInBounds_toArray, List.set_cons_zero, List.set_cons_succ, i64_w, i32_w]
            rfl
          refine pure_ (i := 7) (N := some 48) (v := ?_) (a' := ?_) #[true, true, true, true, true, true, true, true, false, false] rfl rfl (any_of HT_.out (by kernel_rfl)) (fun _ _ _ h => h) (Or.inl ⟨by rfl, ?_⟩) ?_ ?_
          rotate_left
          · intro w'
            go_simp
            with_reducible rfl
          rotate_left
          · simp only [Act.put, List.setIfInBounds_toArray, List.set_cons_zero, List.set_cons_succ, i64_w, i32_w]
            rfl
          refine pure_ (i := 8) (N := some 49) (v := ?_) (a' := ?_) #[true, true, true, true, true, true, true, true, true, false] rfl rfl (any_of HT_.out (by kernel_rfl)) (fun _ _ _ h => h) (Or.inl ⟨by rfl, ?_⟩) ?_ ?_
          rotate_left
          · intro w'
            go_simp
            with_reducible rfl
          rotate_left
          · simp only [Act.put, List.setIfInBounds_toArray, List.set_cons_zero, List.set_cons_succ, i64_w, i32_w]
            rfl
          refine last_ (i := 9) (N := none) #[true, true, true, true, true, true, true, true, true, true] rfl rfl (one_of HT_.out (by kernel_rfl)) (by decide) (fun K hK => ?_)
          have hs24 : w23.cell? ⟨gb206, 2, none⟩ = some (.int .i64 t204) := (blk_cell BK206.out 2).trans rfl
          have hfs24 := blk_frozen BK206.out 2
          refine skip_ (w1 := ?_) (by rfl) rfl ?_ ?_
          rotate_left
          · go_simp
            rfl
          refine hK.out _ _ ?_
          clear hK K
          refine done_ (done_of HT_.out (by kernel_rfl)) ?_
          have hcz25_0 : w23.cell? ⟨gb206, 0, none⟩ = some (.int .i64 (wrap64 (Int.tdiv (wrap64 ((wrap64 ((wrap64 ((wrap64 (12 * t202)) + t203)) - 1)) + a1)) 12))) := (blk_cell BK206.out 0).trans rfl
          have hcz25_1 : w23.cell? ⟨gb206, 1, none⟩ = some (.int .i64 (wrap64 ((Int.tmod (wrap64 ((wrap64 ((wrap64 ((wrap64 (12 * t202)) + t203)) - 1)) + a1)) 12) + 1))) := (blk_cell BK206.out 1).trans rfl
          have hcz25_2 : w23.cell? ⟨gb206, 2, none⟩ = some (.int .i64 t204) := (blk_cell BK206.out 2).trans rfl
          have hfz25_0 := blk_frozen BK206.out 0
          have hfz25_1 := blk_frozen BK206.out 1
          have hfz25_2 := blk_frozen BK206.out 2
          try go_wp2_with (first | ((with_reducible refine gate_callee (f := 28) rfl ?_); refine goesL_ (some 52) rfl rfl Tryd.func28 (by kernel_rfl) rfl #[.agg #[.int .i64 (wrap64 (Int.tdiv (wrap64 ((wrap64 ((wrap64 ((wrap64 (12 * t202)) + t203)) - 1)) + a1)) 12)), .int .i64 (wrap64 ((Int.tmod (wrap64 ((wrap64 ((wrap64 ((wrap64 (12 * t202)) + t203)) - 1)) + a1)) 12) + 1)), .int .i64 ji12]] rfl (by (try simp only [List.map_toArray, List.map_cons, List.map_nil]); first | done | (simp only [hji12]; rfl) | rfl | (simp only [List.length_drop, List.length_take]; rfl)) ?_; (with_reducible refine (customsref04_Number.calls kj3 (wrap64 (Int.tdiv (wrap64 ((wrap64 ((wrap64 ((wrap64 (12 * t202)) + t203)) - 1)) + a1)) 12)) (wrap64 ((Int.tmod (wrap64 ((wrap64 ((wrap64 ((wrap64 (12 * t202)) + t203)) - 1)) + a1)) 12) + 1)) ji12 t208 t209 _ A13.out).mono ?_); rintro e w26 ⟨rfl, hb⟩; refine ⟨_, rfl, ?_⟩; have n0_ := Aside0.mk (blk_below (g := gb206) (o := .cells #[.int .i64 (wrap64 (Int.tdiv (wrap64 ((wrap64 ((wrap64 ((wrap64 (12 * t202)) + t203)) - 1)) + a1)) 12)), .int .i64 (wrap64 ((Int.tmod (wrap64 ((wrap64 ((wrap64 ((wrap64 (12 * t202)) + t203)) - 1)) + a1)) 12) + 1)), .int .i64 ji12] 50 (0, 0)) (by (with_reducible repeat (first | refine blk_drewN ?_ _ | refine blk_drew ?_ | refine blk_alloc ?_ _)); refine blk_put (cs := #[.int .i64 (wrap64 (Int.tdiv (wrap64 ((wrap64 ((wrap64 ((wrap64 (12 * t202)) + t203)) - 1)) + a1)) 12)), .int .i64 (wrap64 ((Int.tmod (wrap64 ((wrap64 ((wrap64 ((wrap64 (12 * t202)) + t203)) - 1)) + a1)) 12) + 1)), .int .i64 t204]) ?_ 2 _ rfl; (with_reducible repeat (first | refine blk_drewN ?_ _ | refine blk_drew ?_ | refine blk_alloc ?_ _)); exact BK206.out) hb); have n1_ := Aside0.mk (below_step (by repeat (first | (with_reducible first | exact HB.out | apply below_alloc | apply pw_below_drewN | apply below_drew1 | refine below_set ?_ GE206.out) | exact HB.out)) hb); clear BK206; clear HB; have BK206 := n0_; have HB := n1_; clear n0_ n1_; (try clear hb); (try clear hb2); (try clear hk); (try clear hi)))
          go_ret2
          exact ⟨by first | rfl | (simp [errW_none, errW_some] <;> rfl) | (simp only [← hji12]; first | rfl | (simp [errW_none, errW_some] <;> rfl)) | (simp [*, errW_none, errW_some] <;> rfl), by repeat (first | (with_reducible first | exact HB.out | apply below_alloc | apply pw_below_drewN | apply below_drew1 | refine below_set ?_ GE206.out) | exact HB.out)⟩

/-! ### customsref27_Relief: function 13 -/
mutual
def customsref27_Relief.j0 : Nat → Int → Int → Int → Bool → Option (Int × Int)
  | 0, _, _, _, _ => none
  | k + 1, x0, x1, x2, x29 => if x29 = true then (some (0, 2)) else (customsref27_Relief.l0 k x0 x1 x2 1)
def customsref27_Relief.l0 : Nat → Int → Int → Int → Int → Option (Int × Int)
  | 0, _, _, _, _ => none
  | k + 1, x0, x1, x2, x8 => (customsref04_AddMonths.f k x1 x8).bind fun bt210 => (if bt210.2 = 0 then (if bt210.1 > x2 then (some (mn x0 (wrap64 (Int.tdiv (wrap64 ((wrap64 (x0 * 3)) * x8)) 100)), 0)) else (customsref27_Relief.l0 k x0 x1 x2 (wrap64 (x8 + 1)))) else (some (mn x0 (wrap64 (Int.tdiv (wrap64 ((wrap64 (x0 * 3)) * x8)) 100)), 0)))
end
def customsref27_Relief.f (k : Nat) (a0 : Int) (a1 : Int) (a2 : Int) : Option (Int × Int) := if a0 < 0 then (customsref27_Relief.j0 k a0 a1 a2 true) else (if a0 > 1000000000000 then (customsref27_Relief.j0 k a0 a1 a2 true) else (if a1 < 0 then (customsref27_Relief.j0 k a0 a1 a2 true) else (if a1 > a2 then (customsref27_Relief.j0 k a0 a1 a2 true) else (customsref27_Relief.j0 k a0 a1 a2 (decide (a2 > 36524))))))
theorem customsref27_Relief.mono_l : ∀ k, (∀ y0 y1 y2 y3, LeO (customsref27_Relief.j0 k y0 y1 y2 y3) (customsref27_Relief.j0 (k + 1) y0 y1 y2 y3)) ∧ (∀ y0 y1 y2 y3, LeO (customsref27_Relief.l0 k y0 y1 y2 y3) (customsref27_Relief.l0 (k + 1) y0 y1 y2 y3))
  | 0 => ⟨fun _ _ _ _ r h => by simp [customsref27_Relief.j0] at h, fun _ _ _ _ r h => by simp [customsref27_Relief.l0] at h⟩
  | k + 1 => by
    obtain ⟨ih0, ih1⟩ := customsref27_Relief.mono_l k
    refine ⟨?_, ?_⟩
    · intro y0 y1 y2 y3
      unfold customsref27_Relief.j0
      repeat' first
      | (with_reducible exact ih0 _ _ _ _)
      | (with_reducible exact ih1 _ _ _ _)
      | (with_reducible exact customsref04_AddMonths.mono _ _ _)
      | (with_reducible exact LeO.refl _)
      | (with_reducible exact LeO.none _)
      | (with_reducible refine LeO.ite ?_ ?_)
      | (with_reducible refine LeO.bind ?_ (fun _ => ?_))
      | exact ih0 _ _ _ _
      | exact ih1 _ _ _ _
      | exact customsref04_AddMonths.mono _ _ _
      | exact LeO.none _
      | refine LeO.ite ?_ ?_
      | refine LeO.bind ?_ (fun _ => ?_)
    · intro y0 y1 y2 y3
      unfold customsref27_Relief.l0
      repeat' first
      | (with_reducible exact ih0 _ _ _ _)
      | (with_reducible exact ih1 _ _ _ _)
      | (with_reducible exact customsref04_AddMonths.mono _ _ _)
      | (with_reducible exact LeO.refl _)
      | (with_reducible exact LeO.none _)
      | (with_reducible refine LeO.ite ?_ ?_)
      | (with_reducible refine LeO.bind ?_ (fun _ => ?_))
      | exact ih0 _ _ _ _
      | exact ih1 _ _ _ _
      | exact customsref04_AddMonths.mono _ _ _
      | exact LeO.none _
      | refine LeO.ite ?_ ?_
      | refine LeO.bind ?_ (fun _ => ?_)
theorem customsref27_Relief.mono : ∀ a0 a1 a2 k, LeO (customsref27_Relief.f k a0 a1 a2) (customsref27_Relief.f (k + 1) a0 a1 a2) := by
  intro a0 a1 a2 k
  obtain ⟨ih0, ih1⟩ := customsref27_Relief.mono_l k
  unfold customsref27_Relief.f
  repeat' first
      | (with_reducible exact ih0 _ _ _ _)
      | (with_reducible exact ih1 _ _ _ _)
      | (with_reducible exact customsref04_AddMonths.mono _ _ _)
      | (with_reducible exact LeO.refl _)
      | (with_reducible exact LeO.none _)
      | (with_reducible refine LeO.ite ?_ ?_)
      | (with_reducible refine LeO.bind ?_ (fun _ => ?_))
      | exact ih0 _ _ _ _
      | exact ih1 _ _ _ _
      | exact customsref04_AddMonths.mono _ _ _
      | exact LeO.none _
      | refine LeO.ite ?_ ?_
      | refine LeO.bind ?_ (fun _ => ?_)
set_option maxHeartbeats 8000000 in
set_option maxRecDepth 100000 in
theorem customsref27_Relief.calls (k : Nat) (a0 : Int) (a1 : Int) (a2 : Int) (r1 : Int) (r2 : Int) (w : World) (h : customsref27_Relief.f k a0 a1 a2 = some (r1, r2)) :
    Calls Tryd.prog 13 #[.int .i64 a0, .int .i64 a1, .int .i64 a2] w fun e w' => e = .returned (.tuple #[.int .i64 r1, .int .i64 r2]) ∧ Below w.heap.size w w' := by
  have HB := Aside0.mk (Below.refl w.heap.size w)
  have H : (if a0 < 0 then (customsref27_Relief.j0 k a0 a1 a2 true) else (if a0 > 1000000000000 then (customsref27_Relief.j0 k a0 a1 a2 true) else (if a1 < 0 then (customsref27_Relief.j0 k a0 a1 a2 true) else (if a1 > a2 then (customsref27_Relief.j0 k a0 a1 a2 true) else (customsref27_Relief.j0 k a0 a1 a2 (decide (a2 > 36524))))))) = some (r1, r2) := h
  clear h
  have HC4 := Aside0.mk H
  clear H
  go_enter Tryd.func13, Tryd.ntmps13
  go_upto_region 1 with (fail)
  go_cut [29] (fun v29 wc => ∃ (kq : Nat) (x29_3 : Bool), v29 = .bool x29_3 ∧ Aside0 (customsref27_Relief.j0 kq a0 a1 a2 x29_3 = some (r1, r2)) ∧ Aside0 (kq ≤ k) ∧ Aside0 (Below w.heap.size w wc))
  case first =>
    have H := HC4.out
    clear HC4
    by_cases c5 : a0 < 0
    · rw [if_pos c5] at H
      have c5b0 : decide (a0 < 0) = true := decide_eq_true c5
      clear c5
      (first | rw [c5b0] | (simp only [i64_w, i32_w]; rw [c5b0]) | skip)
      have H' := Aside0.mk H
      clear H
      go_wp2
      go_meet
      case rel => exact ⟨_, (true), (by first | rfl | (simp; done) | (simp [*]; done)), H', ⟨by first | omega | exact Nat.le_refl _⟩, ⟨by repeat (first | (with_reducible first | exact HB.out | apply below_alloc | apply pw_below_drewN | apply below_drew1) | exact HB.out)⟩⟩
    · rw [if_neg c5] at H
      have c5b0 : decide (a0 < 0) = false := decide_eq_false c5
      clear c5
      (first | rw [c5b0] | (simp only [i64_w, i32_w]; rw [c5b0]) | skip)
      by_cases c6 : a0 > 1000000000000
      · rw [if_pos c6] at H
        have c6b0 : decide (1000000000000 < a0) = true := decide_eq_true c6
        clear c6
        have H' := Aside0.mk H
        clear H
        go_wp2
        go_meet
        case rel => exact ⟨_, (true), (by first | rfl | (simp; done) | (simp [*]; done)), H', ⟨by first | omega | exact Nat.le_refl _⟩, ⟨by repeat (first | (with_reducible first | exact HB.out | apply below_alloc | apply pw_below_drewN | apply below_drew1) | exact HB.out)⟩⟩
      · rw [if_neg c6] at H
        have c6b0 : decide (1000000000000 < a0) = false := decide_eq_false c6
        clear c6
        by_cases c7 : a1 < 0
        · rw [if_pos c7] at H
          have c7b0 : decide (a1 < 0) = true := decide_eq_true c7
          clear c7
          have H' := Aside0.mk H
          clear H
          go_wp2
          go_meet
          case rel => exact ⟨_, (true), (by first | rfl | (simp; done) | (simp [*]; done)), H', ⟨by first | omega | exact Nat.le_refl _⟩, ⟨by repeat (first | (with_reducible first | exact HB.out | apply below_alloc | apply pw_below_drewN | apply below_drew1) | exact HB.out)⟩⟩
        · rw [if_neg c7] at H
          have c7b0 : decide (a1 < 0) = false := decide_eq_false c7
          clear c7
          by_cases c8 : a1 > a2
          · rw [if_pos c8] at H
            have c8b0 : decide (a2 < a1) = true := decide_eq_true c8
            clear c8
            have H' := Aside0.mk H
            clear H
            go_wp2
            go_meet
            case rel => exact ⟨_, (true), (by first | rfl | (simp; done) | (simp [*]; done)), H', ⟨by first | omega | exact Nat.le_refl _⟩, ⟨by repeat (first | (with_reducible first | exact HB.out | apply below_alloc | apply pw_below_drewN | apply below_drew1) | exact HB.out)⟩⟩
          · rw [if_neg c8] at H
            have c8b0 : decide (a2 < a1) = false := decide_eq_false c8
            clear c8
            have H' := Aside0.mk H
            clear H
            go_wp2
            go_meet
            case rel => exact ⟨_, (decide (a2 > 36524)), (by first | rfl | (simp; done) | (simp [*]; done)), H', ⟨by first | omega | exact Nat.le_refl _⟩, ⟨by repeat (first | (with_reducible first | exact HB.out | apply below_alloc | apply pw_below_drewN | apply below_drew1) | exact HB.out)⟩⟩
  case rest =>
    clear HC4
    try clear c1
    try clear p2
    try clear c5
    try clear c5b0
    try clear c6
    try clear c6b0
    try clear c7
    try clear c7b0
    try clear c8
    try clear c8b0
    obtain ⟨kq, x29_3, rfl, HA, HJ3, HB⟩ := hcut
    cases kq with
    | zero => exact absurd HA.out (by simp [customsref27_Relief.j0])
    | succ kj3 =>
      have H := HA.out
      clear HA
      simp only [customsref27_Relief.j0] at H
      by_cases c9 : x29_3 = true
      · subst c9
        have H1 : (some (0, 2)) = some (r1, r2) := by rw [if_pos rfl] at H; exact H
        clear H
        have H := H1
        clear H1
        simp only [Option.some.injEq, Prod.mk.injEq] at H
        obtain ⟨rfl, rfl⟩ := H
        go_wp2
        go_ret2
        exact ⟨by first | rfl | (simp [errW_none, errW_some] <;> rfl) | (simp [*, errW_none, errW_some] <;> rfl), by repeat (first | (with_reducible first | exact HB.out | apply below_alloc | apply pw_below_drewN | apply below_drew1) | exact HB.out)⟩
      · replace c9 := Bool.eq_false_iff.mpr c9
        subst c9
        have H1 : (customsref27_Relief.l0 kj3 a0 a1 a2 1) = some (r1, r2) := by rw [if_neg (show ¬ (false = true) by decide)] at H; exact H
        clear H
        have H := H1
        clear H1
        have H' := Aside0.mk H
        clear H
        go_wp2
        go_loopg [8] kj3 (fun kq v8 w' => ∃ (x8_2 : Int), v8 = .int .i64 x8_2 ∧ Aside0 (customsref27_Relief.l0 kq a0 a1 a2 x8_2 = some (r1, r2)) ∧ Aside0 (kq ≤ kj3) ∧ Aside0 (Below w.heap.size w w'))
        case atStart => exact ⟨(1), (by first | rfl | (simp; done) | (simp [*]; done)), H', ⟨Nat.le_refl _⟩, ⟨by repeat (first | (with_reducible first | exact HB.out | apply below_alloc | apply pw_below_drewN | apply below_drew1) | exact HB.out)⟩⟩
        case round =>
          clear H'
          try clear c1
          try clear p2
          try clear c5
          try clear c5b0
          try clear c6
          try clear c6b0
          try clear c7
          try clear c7b0
          try clear c8
          try clear c8b0
          try clear c9
          try clear p2
          obtain ⟨x8_2, rfl, HA, HK2, HB⟩ := hrel
          cases gk with
          | zero => exact absurd HA.out (by simp [customsref27_Relief.l0])
          | succ k2 =>
            have H := HA.out
            clear HA
            simp only [customsref27_Relief.l0] at H
            replace H := Option.bind_eq_some_iff.mp H
            obtain ⟨⟨t210, t211⟩, A100, H⟩ := H
            replace H : (if t211 = 0 then (if t210 > a2 then (some (mn a0 (wrap64 (Int.tdiv (wrap64 ((wrap64 (a0 * 3)) * x8_2)) 100)), 0)) else (customsref27_Relief.l0 k2 a0 a1 a2 (wrap64 (x8_2 + 1)))) else (some (mn a0 (wrap64 (Int.tdiv (wrap64 ((wrap64 (a0 * 3)) * x8_2)) 100)), 0))) = some (r1, r2) := H
            have A10 := Aside0.mk A100
            clear A100
            by_cases c11 : t211 = 0
            · rw [if_pos c11] at H
              have c11b0 : (t211 == 0) = true := beq_iff_eq.mpr c11
              have c11b1 : (t211 != 0) = false := bne_eq_false_iff_eq.mpr c11
              clear c11
              by_cases c12 : t210 > a2
              · rw [if_pos c12] at H
                have c12b0 : decide (a2 < t210) = true := decide_eq_true c12
                clear c12
                obtain ⟨ji13, hji13⟩ : ∃ j_ : Int, (mn a0 (wrap64 (Int.tdiv (wrap64 ((wrap64 (a0 * 3)) * x8_2)) 100))) = j_ := ⟨_, rfl⟩
                replace H : (some (ji13, 0)) = some (r1, r2) := by first | (rw [hji13] at H; exact H) | (simp only [hji13] at H ⊢; exact H)
                (try rw [hji13] at A10)
                have hji13_ : (if (wrap64 (Int.tdiv (wrap64 ((wrap64 (a0 * 3)) * x8_2)) 100)) < a0 then (wrap64 (Int.tdiv (wrap64 ((wrap64 (a0 * 3)) * x8_2)) 100)) else a0) = ji13 := hji13
                simp only [Option.some.injEq, Prod.mk.injEq] at H
                obtain ⟨rfl, rfl⟩ := H
                go_wp2_with (first | ((with_reducible refine gate_callee (f := 21) rfl ?_); refine goesL_ (some 33) rfl rfl Tryd.func21 (by kernel_rfl) rfl #[.int .i64 a1, .int .i64 x8_2] rfl (by (try simp only [List.map_toArray, List.map_cons, List.map_nil]); first | done | rfl | (simp only [List.length_drop, List.length_take]; rfl)) ?_; (with_reducible refine (customsref04_AddMonths.calls k2 a1 x8_2 t210 t211 _ A10.out).mono ?_); rintro e w14 ⟨rfl, hb⟩; refine ⟨_, rfl, ?_⟩; have n0_ := Aside0.mk (below_step (by repeat (first | (with_reducible first | exact HB.out | apply below_alloc | apply pw_below_drewN | apply below_drew1) | exact HB.out)) hb); clear HB; have HB := n0_; clear n0_; (try clear hb); (try clear hb2); (try clear hk); (try clear hi)))
                go_ret2
                exact ⟨by first | rfl | (simp [errW_none, errW_some] <;> rfl) | (simp only [← hji13]; first | rfl | (simp [errW_none, errW_some] <;> rfl)) | (simp [*, errW_none, errW_some] <;> rfl), by repeat (first | (with_reducible first | exact HB.out | apply below_alloc | apply pw_below_drewN | apply below_drew1) | exact HB.out)⟩
              · rw [if_neg c12] at H
                have c12b0 : decide (a2 < t210) = false := decide_eq_false c12
                clear c12
                have H' := Aside0.mk H
                clear H
                go_wp2_with (first | ((with_reducible refine gate_callee (f := 21) rfl ?_); refine goesL_ (some 33) rfl rfl Tryd.func21 (by kernel_rfl) rfl #[.int .i64 a1, .int .i64 x8_2] rfl (by (try simp only [List.map_toArray, List.map_cons, List.map_nil]); first | done | rfl | (simp only [List.length_drop, List.length_take]; rfl)) ?_; (with_reducible refine (customsref04_AddMonths.calls k2 a1 x8_2 t210 t211 _ A10.out).mono ?_); rintro e w15 ⟨rfl, hb⟩; refine ⟨_, rfl, ?_⟩; have n0_ := Aside0.mk (below_step (by repeat (first | (with_reducible first | exact HB.out | apply below_alloc | apply pw_below_drewN | apply below_drew1) | exact HB.out)) hb); clear HB; have HB := n0_; clear n0_; (try clear hb); (try clear hb2); (try clear hk); (try clear hi)))
                go_roundg k2
                case measure => have := HJ3.out; have := HK2.out; omega
                case rel => exact ⟨(wrap64 (x8_2 + 1)), (by first | rfl | (simp; done) | (simp [*]; done)), H', ⟨by have := HJ3.out; have := HK2.out; omega⟩, ⟨by repeat (first | (with_reducible first | exact HB.out | apply below_alloc | apply pw_below_drewN | apply below_drew1) | exact HB.out)⟩⟩
            · rw [if_neg c11] at H
              have c11b0 : (t211 == 0) = false := beq_eq_false_iff_ne.mpr c11
              have c11b1 : (t211 != 0) = true := bne_iff_ne.mpr c11
              obtain ⟨ji16, hji16⟩ : ∃ j_ : Int, (mn a0 (wrap64 (Int.tdiv (wrap64 ((wrap64 (a0 * 3)) * x8_2)) 100))) = j_ := ⟨_, rfl⟩
              replace H : (some (ji16, 0)) = some (r1, r2) := by first | (rw [hji16] at H; exact H) | (simp only [hji16] at H ⊢; exact H)
              (try rw [hji16] at A10)
              have hji16_ : (if (wrap64 (Int.tdiv (wrap64 ((wrap64 (a0 * 3)) * x8_2)) 100)) < a0 then (wrap64 (Int.tdiv (wrap64 ((wrap64 (a0 * 3)) * x8_2)) 100)) else a0) = ji16 := hji16
              simp only [Option.some.injEq, Prod.mk.injEq] at H
              obtain ⟨rfl, rfl⟩ := H
              go_wp2_with (first | ((with_reducible refine gate_callee (f := 21) rfl ?_); refine goesL_ (some 33) rfl rfl Tryd.func21 (by kernel_rfl) rfl #[.int .i64 a1, .int .i64 x8_2] rfl (by (try simp only [List.map_toArray, List.map_cons, List.map_nil]); first | done | rfl | (simp only [List.length_drop, List.length_take]; rfl)) ?_; (with_reducible refine (customsref04_AddMonths.calls k2 a1 x8_2 t210 t211 _ A10.out).mono ?_); rintro e w17 ⟨rfl, hb⟩; refine ⟨_, rfl, ?_⟩; have n0_ := Aside0.mk (below_step (by repeat (first | (with_reducible first | exact HB.out | apply below_alloc | apply pw_below_drewN | apply below_drew1) | exact HB.out)) hb); clear HB; have HB := n0_; clear n0_; (try clear hb); (try clear hb2); (try clear hk); (try clear hi)))
              go_ret2
              exact ⟨by first | rfl | (simp [errW_none, errW_some] <;> rfl) | (simp only [← hji16]; first | rfl | (simp [errW_none, errW_some] <;> rfl)) | (simp [*, errW_none, errW_some] <;> rfl), by repeat (first | (with_reducible first | exact HB.out | apply below_alloc | apply pw_below_drewN | apply below_drew1) | exact HB.out)⟩

/-! ### customslaw28_PositionRelief: function 5 -/
def customslaw28_PositionRelief.f (k : Nat) (a0 : Int) (a1 : Int) (a2 : Int) (a3 : Bool) : Option (Bool) := if a3 = true then ((position_Relief.f k a0 a1 a2).bind fun bt212 => ((customsref27_Relief.f k a0 a1 a2).bind fun bt214 => (if bt212.1 = bt214.1 then (if bt212.2 = bt214.2 then ((customslaw28_awake.f k).bind fun t216 => (some t216)) else (some false)) else (some false)))) else ((customsmade_Within.f a0 100000).bind fun t217 => ((customsmade_Within.f a1 35000).bind fun t218 => ((customsmade_Within.f a2 1500).bind fun t219 => ((position_Relief.f k t217 t218 (wrap64 (t218 + t219))).bind fun bt220 => ((customsref27_Relief.f k t217 t218 (wrap64 (t218 + t219))).bind fun bt222 => (if bt220.1 = bt222.1 then (if bt220.2 = bt222.2 then ((customslaw28_awake.f k).bind fun t224 => (some t224)) else (some false)) else (some false)))))))
theorem customslaw28_PositionRelief.mono : ∀ a0 a1 a2 a3 k, LeO (customslaw28_PositionRelief.f k a0 a1 a2 a3) (customslaw28_PositionRelief.f (k + 1) a0 a1 a2 a3) := by
  intro a0 a1 a2 a3 k
  unfold customslaw28_PositionRelief.f
  repeat' first
      | (with_reducible exact customslaw28_awake.mono _)
      | (with_reducible exact customsref27_Relief.mono _ _ _ _)
      | (with_reducible exact position_Relief.mono _ _ _ _)
      | (with_reducible exact LeO.refl _)
      | (with_reducible exact LeO.none _)
      | (with_reducible refine LeO.ite ?_ ?_)
      | (with_reducible refine LeO.bind ?_ (fun _ => ?_))
      | exact customslaw28_awake.mono _
      | exact customsref27_Relief.mono _ _ _ _
      | exact position_Relief.mono _ _ _ _
      | exact LeO.none _
      | refine LeO.ite ?_ ?_
      | refine LeO.bind ?_ (fun _ => ?_)
set_option maxHeartbeats 8000000 in
set_option maxRecDepth 100000 in
theorem customslaw28_PositionRelief.calls (k : Nat) (a0 : Int) (a1 : Int) (a2 : Int) (a3 : Bool) (r : Bool) (w : World) (hGL : GL w) (h : customslaw28_PositionRelief.f k a0 a1 a2 a3 = some r) :
    Calls Tryd.prog 5 #[.int .i64 a0, .int .i64 a1, .int .i64 a2, .bool a3] w fun e w' => e = .returned (.bool r) ∧ Below w.heap.size w w' := by
  have HB := Aside0.mk (Below.refl w.heap.size w)
  have H : (if a3 = true then ((position_Relief.f k a0 a1 a2).bind fun bt212 => ((customsref27_Relief.f k a0 a1 a2).bind fun bt214 => (if bt212.1 = bt214.1 then (if bt212.2 = bt214.2 then ((customslaw28_awake.f k).bind fun t216 => (some t216)) else (some false)) else (some false)))) else ((customsmade_Within.f a0 100000).bind fun t217 => ((customsmade_Within.f a1 35000).bind fun t218 => ((customsmade_Within.f a2 1500).bind fun t219 => ((position_Relief.f k t217 t218 (wrap64 (t218 + t219))).bind fun bt220 => ((customsref27_Relief.f k t217 t218 (wrap64 (t218 + t219))).bind fun bt222 => (if bt220.1 = bt222.1 then (if bt220.2 = bt222.2 then ((customslaw28_awake.f k).bind fun t224 => (some t224)) else (some false)) else (some false)))))))) = some r := h
  clear h
  by_cases c5 : a3 = true
  · subst c5
    have H1 : ((position_Relief.f k a0 a1 a2).bind fun bt212 => ((customsref27_Relief.f k a0 a1 a2).bind fun bt214 => (if bt212.1 = bt214.1 then (if bt212.2 = bt214.2 then ((customslaw28_awake.f k).bind fun t216 => (some t216)) else (some false)) else (some false)))) = some r := by rw [if_pos rfl] at H; exact H
    clear H
    have H := H1
    clear H1
    replace H := Option.bind_eq_some_iff.mp H
    obtain ⟨⟨t212, t213⟩, A60, H⟩ := H
    replace H : ((customsref27_Relief.f k a0 a1 a2).bind fun bt214 => (if t212 = bt214.1 then (if t213 = bt214.2 then ((customslaw28_awake.f k).bind fun t216 => (some t216)) else (some false)) else (some false))) = some r := H
    have A6 := Aside0.mk A60
    clear A60
    replace H := Option.bind_eq_some_iff.mp H
    obtain ⟨⟨t214, t215⟩, A70, H⟩ := H
    replace H : (if t212 = t214 then (if t213 = t215 then ((customslaw28_awake.f k).bind fun t216 => (some t216)) else (some false)) else (some false)) = some r := H
    have A7 := Aside0.mk A70
    clear A70
    by_cases c8 : t212 = t214
    · rw [if_pos c8] at H
      have c8b0 : (t212 == t214) = true := beq_iff_eq.mpr c8
      have c8b1 : (t212 != t214) = false := bne_eq_false_iff_eq.mpr c8
      clear c8
      by_cases c9 : t213 = t215
      · rw [if_pos c9] at H
        have c9b0 : (t213 == t215) = true := beq_iff_eq.mpr c9
        have c9b1 : (t213 != t215) = false := bne_eq_false_iff_eq.mpr c9
        clear c9
        replace H := Option.bind_eq_some_iff.mp H
        obtain ⟨t216, A100, H⟩ := H
        replace H : (some t216) = some r := H
        have A10 := Aside0.mk A100
        clear A100
        obtain rfl := Option.some.inj H
        go_enter Tryd.func5, Tryd.ntmps5
        go_wp2_with (first | ((with_reducible refine gate_callee (f := 12) rfl ?_); refine goesL_ (some 27) rfl rfl Tryd.func12 (by kernel_rfl) rfl #[.int .i64 a0, .int .i64 a1, .int .i64 a2] rfl (by (try simp only [List.map_toArray, List.map_cons, List.map_nil]); first | done | rfl | (simp only [List.length_drop, List.length_take]; rfl)) ?_; (with_reducible refine (position_Relief.calls k a0 a1 a2 t212 t213 _ ?side1 A6.out).mono ?_); (case side1 => first | (with_reducible exact hGL) | exact GL.below hGL (by repeat (first | (with_reducible first | exact HB.out | apply below_alloc | apply pw_below_drewN | apply below_drew1) | exact HB.out)) | (repeat (first | exact hGL | apply GL.drewN | apply GL.drew))); rintro e w11 ⟨rfl, hb⟩; refine ⟨_, rfl, ?_⟩; have n0_ := Aside0.mk (below_step (by repeat (first | (with_reducible first | exact HB.out | apply below_alloc | apply pw_below_drewN | apply below_drew1) | exact HB.out)) hb); clear HB; have HB := n0_; clear n0_; (try clear hb); (try clear hb2); (try clear hk); (try clear hi)) | ((with_reducible refine gate_callee (f := 13) rfl ?_); refine goesL_ (some 34) rfl rfl Tryd.func13 (by kernel_rfl) rfl #[.int .i64 a0, .int .i64 a1, .int .i64 a2] rfl (by (try simp only [List.map_toArray, List.map_cons, List.map_nil]); first | done | rfl | (simp only [List.length_drop, List.length_take]; rfl)) ?_; (with_reducible refine (customsref27_Relief.calls k a0 a1 a2 t214 t215 _ A7.out).mono ?_); rintro e w12 ⟨rfl, hb⟩; refine ⟨_, rfl, ?_⟩; have n0_ := Aside0.mk (below_step (by repeat (first | (with_reducible first | exact HB.out | apply below_alloc | apply pw_below_drewN | apply below_drew1) | exact HB.out)) hb); clear HB; have HB := n0_; clear n0_; (try clear hb); (try clear hb2); (try clear hk); (try clear hi)) | (go_at_call 11; (with_reducible refine (customslaw28_awake.calls k  t216 _ ?side1 A10.out).mono ?_); (case side1 => first | (with_reducible exact hGL) | exact GL.below hGL (by repeat (first | (with_reducible first | exact HB.out | apply below_alloc | apply pw_below_drewN | apply below_drew1) | exact HB.out)) | (repeat (first | exact hGL | apply GL.drewN | apply GL.drew))); rintro e w13 ⟨rfl, hb⟩; have n0_ := Aside0.mk (below_step (by repeat (first | (with_reducible first | exact HB.out | apply below_alloc | apply pw_below_drewN | apply below_drew1) | exact HB.out)) hb); clear HB; have HB := n0_; clear n0_; (try clear hb); (try clear hb2); (try clear hk); (try clear hi)))
        go_ret
        exact ⟨by first | rfl | (simp [errW_none, errW_some] <;> rfl) | (simp [*, errW_none, errW_some] <;> rfl), by repeat (first | (with_reducible first | exact HB.out | apply below_alloc | apply pw_below_drewN | apply below_drew1) | exact HB.out)⟩
      · rw [if_neg c9] at H
        have c9b0 : (t213 == t215) = false := beq_eq_false_iff_ne.mpr c9
        have c9b1 : (t213 != t215) = true := bne_iff_ne.mpr c9
        obtain rfl := Option.some.inj H
        go_enter Tryd.func5, Tryd.ntmps5
        go_wp2_with (first | ((with_reducible refine gate_callee (f := 12) rfl ?_); refine goesL_ (some 27) rfl rfl Tryd.func12 (by kernel_rfl) rfl #[.int .i64 a0, .int .i64 a1, .int .i64 a2] rfl (by (try simp only [List.map_toArray, List.map_cons, List.map_nil]); first | done | rfl | (simp only [List.length_drop, List.length_take]; rfl)) ?_; (with_reducible refine (position_Relief.calls k a0 a1 a2 t212 t213 _ ?side1 A6.out).mono ?_); (case side1 => first | (with_reducible exact hGL) | exact GL.below hGL (by repeat (first | (with_reducible first | exact HB.out | apply below_alloc | apply pw_below_drewN | apply below_drew1) | exact HB.out)) | (repeat (first | exact hGL | apply GL.drewN | apply GL.drew))); rintro e w14 ⟨rfl, hb⟩; refine ⟨_, rfl, ?_⟩; have n0_ := Aside0.mk (below_step (by repeat (first | (with_reducible first | exact HB.out | apply below_alloc | apply pw_below_drewN | apply below_drew1) | exact HB.out)) hb); clear HB; have HB := n0_; clear n0_; (try clear hb); (try clear hb2); (try clear hk); (try clear hi)) | ((with_reducible refine gate_callee (f := 13) rfl ?_); refine goesL_ (some 34) rfl rfl Tryd.func13 (by kernel_rfl) rfl #[.int .i64 a0, .int .i64 a1, .int .i64 a2] rfl (by (try simp only [List.map_toArray, List.map_cons, List.map_nil]); first | done | rfl | (simp only [List.length_drop, List.length_take]; rfl)) ?_; (with_reducible refine (customsref27_Relief.calls k a0 a1 a2 t214 t215 _ A7.out).mono ?_); rintro e w15 ⟨rfl, hb⟩; refine ⟨_, rfl, ?_⟩; have n0_ := Aside0.mk (below_step (by repeat (first | (with_reducible first | exact HB.out | apply below_alloc | apply pw_below_drewN | apply below_drew1) | exact HB.out)) hb); clear HB; have HB := n0_; clear n0_; (try clear hb); (try clear hb2); (try clear hk); (try clear hi)))
        go_ret
        exact ⟨by first | rfl | (simp [errW_none, errW_some] <;> rfl) | (simp [*, errW_none, errW_some] <;> rfl), by repeat (first | (with_reducible first | exact HB.out | apply below_alloc | apply pw_below_drewN | apply below_drew1) | exact HB.out)⟩
    · rw [if_neg c8] at H
      have c8b0 : (t212 == t214) = false := beq_eq_false_iff_ne.mpr c8
      have c8b1 : (t212 != t214) = true := bne_iff_ne.mpr c8
      obtain rfl := Option.some.inj H
      go_enter Tryd.func5, Tryd.ntmps5
      go_wp2_with (first | ((with_reducible refine gate_callee (f := 12) rfl ?_); refine goesL_ (some 27) rfl rfl Tryd.func12 (by kernel_rfl) rfl #[.int .i64 a0, .int .i64 a1, .int .i64 a2] rfl (by (try simp only [List.map_toArray, List.map_cons, List.map_nil]); first | done | rfl | (simp only [List.length_drop, List.length_take]; rfl)) ?_; (with_reducible refine (position_Relief.calls k a0 a1 a2 t212 t213 _ ?side1 A6.out).mono ?_); (case side1 => first | (with_reducible exact hGL) | exact GL.below hGL (by repeat (first | (with_reducible first | exact HB.out | apply below_alloc | apply pw_below_drewN | apply below_drew1) | exact HB.out)) | (repeat (first | exact hGL | apply GL.drewN | apply GL.drew))); rintro e w16 ⟨rfl, hb⟩; refine ⟨_, rfl, ?_⟩; have n0_ := Aside0.mk (below_step (by repeat (first | (with_reducible first | exact HB.out | apply below_alloc | apply pw_below_drewN | apply below_drew1) | exact HB.out)) hb); clear HB; have HB := n0_; clear n0_; (try clear hb); (try clear hb2); (try clear hk); (try clear hi)) | ((with_reducible refine gate_callee (f := 13) rfl ?_); refine goesL_ (some 34) rfl rfl Tryd.func13 (by kernel_rfl) rfl #[.int .i64 a0, .int .i64 a1, .int .i64 a2] rfl (by (try simp only [List.map_toArray, List.map_cons, List.map_nil]); first | done | rfl | (simp only [List.length_drop, List.length_take]; rfl)) ?_; (with_reducible refine (customsref27_Relief.calls k a0 a1 a2 t214 t215 _ A7.out).mono ?_); rintro e w17 ⟨rfl, hb⟩; refine ⟨_, rfl, ?_⟩; have n0_ := Aside0.mk (below_step (by repeat (first | (with_reducible first | exact HB.out | apply below_alloc | apply pw_below_drewN | apply below_drew1) | exact HB.out)) hb); clear HB; have HB := n0_; clear n0_; (try clear hb); (try clear hb2); (try clear hk); (try clear hi)))
      go_ret
      exact ⟨by first | rfl | (simp [errW_none, errW_some] <;> rfl) | (simp [*, errW_none, errW_some] <;> rfl), by repeat (first | (with_reducible first | exact HB.out | apply below_alloc | apply pw_below_drewN | apply below_drew1) | exact HB.out)⟩
  · replace c5 := Bool.eq_false_iff.mpr c5
    subst c5
    have H1 : ((customsmade_Within.f a0 100000).bind fun t217 => ((customsmade_Within.f a1 35000).bind fun t218 => ((customsmade_Within.f a2 1500).bind fun t219 => ((position_Relief.f k t217 t218 (wrap64 (t218 + t219))).bind fun bt220 => ((customsref27_Relief.f k t217 t218 (wrap64 (t218 + t219))).bind fun bt222 => (if bt220.1 = bt222.1 then (if bt220.2 = bt222.2 then ((customslaw28_awake.f k).bind fun t224 => (some t224)) else (some false)) else (some false))))))) = some r := by rw [if_neg (show ¬ (false = true) by decide)] at H; exact H
    clear H
    have H := H1
    clear H1
    replace H := Option.bind_eq_some_iff.mp H
    obtain ⟨t217, A180, H⟩ := H
    replace H : ((customsmade_Within.f a1 35000).bind fun t218 => ((customsmade_Within.f a2 1500).bind fun t219 => ((position_Relief.f k t217 t218 (wrap64 (t218 + t219))).bind fun bt220 => ((customsref27_Relief.f k t217 t218 (wrap64 (t218 + t219))).bind fun bt222 => (if bt220.1 = bt222.1 then (if bt220.2 = bt222.2 then ((customslaw28_awake.f k).bind fun t224 => (some t224)) else (some false)) else (some false)))))) = some r := H
    have A18 := Aside0.mk A180
    clear A180
    replace H := Option.bind_eq_some_iff.mp H
    obtain ⟨t218, A190, H⟩ := H
    replace H : ((customsmade_Within.f a2 1500).bind fun t219 => ((position_Relief.f k t217 t218 (wrap64 (t218 + t219))).bind fun bt220 => ((customsref27_Relief.f k t217 t218 (wrap64 (t218 + t219))).bind fun bt222 => (if bt220.1 = bt222.1 then (if bt220.2 = bt222.2 then ((customslaw28_awake.f k).bind fun t224 => (some t224)) else (some false)) else (some false))))) = some r := H
    have A19 := Aside0.mk A190
    clear A190
    replace H := Option.bind_eq_some_iff.mp H
    obtain ⟨t219, A200, H⟩ := H
    replace H : ((position_Relief.f k t217 t218 (wrap64 (t218 + t219))).bind fun bt220 => ((customsref27_Relief.f k t217 t218 (wrap64 (t218 + t219))).bind fun bt222 => (if bt220.1 = bt222.1 then (if bt220.2 = bt222.2 then ((customslaw28_awake.f k).bind fun t224 => (some t224)) else (some false)) else (some false)))) = some r := H
    have A20 := Aside0.mk A200
    clear A200
    replace H := Option.bind_eq_some_iff.mp H
    obtain ⟨⟨t220, t221⟩, A210, H⟩ := H
    replace H : ((customsref27_Relief.f k t217 t218 (wrap64 (t218 + t219))).bind fun bt222 => (if t220 = bt222.1 then (if t221 = bt222.2 then ((customslaw28_awake.f k).bind fun t224 => (some t224)) else (some false)) else (some false))) = some r := H
    have A21 := Aside0.mk A210
    clear A210
    replace H := Option.bind_eq_some_iff.mp H
    obtain ⟨⟨t222, t223⟩, A220, H⟩ := H
    replace H : (if t220 = t222 then (if t221 = t223 then ((customslaw28_awake.f k).bind fun t224 => (some t224)) else (some false)) else (some false)) = some r := H
    have A22 := Aside0.mk A220
    clear A220
    by_cases c23 : t220 = t222
    · rw [if_pos c23] at H
      have c23b0 : (t220 == t222) = true := beq_iff_eq.mpr c23
      have c23b1 : (t220 != t222) = false := bne_eq_false_iff_eq.mpr c23
      clear c23
      by_cases c24 : t221 = t223
      · rw [if_pos c24] at H
        have c24b0 : (t221 == t223) = true := beq_iff_eq.mpr c24
        have c24b1 : (t221 != t223) = false := bne_eq_false_iff_eq.mpr c24
        clear c24
        replace H := Option.bind_eq_some_iff.mp H
        obtain ⟨t224, A250, H⟩ := H
        replace H : (some t224) = some r := H
        have A25 := Aside0.mk A250
        clear A250
        obtain rfl := Option.some.inj H
        go_enter Tryd.func5, Tryd.ntmps5
        go_wp2_with (first | ((with_reducible refine gate_callee (f := 8) rfl ?_); refine goesL_ (some 16) rfl rfl Tryd.func8 (by kernel_rfl) rfl #[.int .i64 a0, .int .i64 100000] rfl (by (try simp only [List.map_toArray, List.map_cons, List.map_nil]); first | done | rfl | (simp only [List.length_drop, List.length_take]; rfl)) ?_; (with_reducible refine (customsmade_Within.calls a0 100000 t217 _ A18.out).mono ?_); rintro e w' ⟨rfl, ⟨nd, rfl⟩⟩; refine ⟨_, rfl, ?_⟩) | ((with_reducible refine gate_callee (f := 8) rfl ?_); refine goesL_ (some 18) rfl rfl Tryd.func8 (by kernel_rfl) rfl #[.int .i64 a1, .int .i64 35000] rfl (by (try simp only [List.map_toArray, List.map_cons, List.map_nil]); first | done | rfl | (simp only [List.length_drop, List.length_take]; rfl)) ?_; (with_reducible refine (customsmade_Within.calls a1 35000 t218 _ A19.out).mono ?_); rintro e w' ⟨rfl, ⟨nd, rfl⟩⟩; refine ⟨_, rfl, ?_⟩) | ((with_reducible refine gate_callee (f := 8) rfl ?_); refine goesL_ (some 21) rfl rfl Tryd.func8 (by kernel_rfl) rfl #[.int .i64 a2, .int .i64 1500] rfl (by (try simp only [List.map_toArray, List.map_cons, List.map_nil]); first | done | rfl | (simp only [List.length_drop, List.length_take]; rfl)) ?_; (with_reducible refine (customsmade_Within.calls a2 1500 t219 _ A20.out).mono ?_); rintro e w' ⟨rfl, ⟨nd, rfl⟩⟩; refine ⟨_, rfl, ?_⟩) | ((with_reducible refine gate_callee (f := 12) rfl ?_); refine goesL_ (some 27) rfl rfl Tryd.func12 (by kernel_rfl) rfl #[.int .i64 t217, .int .i64 t218, .int .i64 (wrap64 (t218 + t219))] rfl (by (try simp only [List.map_toArray, List.map_cons, List.map_nil]); first | done | rfl | (simp only [List.length_drop, List.length_take]; rfl)) ?_; (with_reducible refine (position_Relief.calls k t217 t218 (wrap64 (t218 + t219)) t220 t221 _ ?side1 A21.out).mono ?_); (case side1 => first | (with_reducible exact hGL) | exact GL.below hGL (by repeat (first | (with_reducible first | exact HB.out | apply below_alloc | apply pw_below_drewN | apply below_drew1) | exact HB.out)) | (repeat (first | exact hGL | apply GL.drewN | apply GL.drew))); rintro e w26 ⟨rfl, hb⟩; refine ⟨_, rfl, ?_⟩; have n0_ := Aside0.mk (below_step (by repeat (first | (with_reducible first | exact HB.out | apply below_alloc | apply pw_below_drewN | apply below_drew1) | exact HB.out)) hb); clear HB; have HB := n0_; clear n0_; (try clear hb); (try clear hb2); (try clear hk); (try clear hi)) | ((with_reducible refine gate_callee (f := 13) rfl ?_); refine goesL_ (some 34) rfl rfl Tryd.func13 (by kernel_rfl) rfl #[.int .i64 t217, .int .i64 t218, .int .i64 (wrap64 (t218 + t219))] rfl (by (try simp only [List.map_toArray, List.map_cons, List.map_nil]); first | done | rfl | (simp only [List.length_drop, List.length_take]; rfl)) ?_; (with_reducible refine (customsref27_Relief.calls k t217 t218 (wrap64 (t218 + t219)) t222 t223 _ A22.out).mono ?_); rintro e w27 ⟨rfl, hb⟩; refine ⟨_, rfl, ?_⟩; have n0_ := Aside0.mk (below_step (by repeat (first | (with_reducible first | exact HB.out | apply below_alloc | apply pw_below_drewN | apply below_drew1) | exact HB.out)) hb); clear HB; have HB := n0_; clear n0_; (try clear hb); (try clear hb2); (try clear hk); (try clear hi)) | (go_at_call 11; (with_reducible refine (customslaw28_awake.calls k  t224 _ ?side1 A25.out).mono ?_); (case side1 => first | (with_reducible exact hGL) | exact GL.below hGL (by repeat (first | (with_reducible first | exact HB.out | apply below_alloc | apply pw_below_drewN | apply below_drew1) | exact HB.out)) | (repeat (first | exact hGL | apply GL.drewN | apply GL.drew))); rintro e w28 ⟨rfl, hb⟩; have n0_ := Aside0.mk (below_step (by repeat (first | (with_reducible first | exact HB.out | apply below_alloc | apply pw_below_drewN | apply below_drew1) | exact HB.out)) hb); clear HB; have HB := n0_; clear n0_; (try clear hb); (try clear hb2); (try clear hk); (try clear hi)))
        go_ret
        exact ⟨by first | rfl | (simp [errW_none, errW_some] <;> rfl) | (simp [*, errW_none, errW_some] <;> rfl), by repeat (first | (with_reducible first | exact HB.out | apply below_alloc | apply pw_below_drewN | apply below_drew1) | exact HB.out)⟩
      · rw [if_neg c24] at H
        have c24b0 : (t221 == t223) = false := beq_eq_false_iff_ne.mpr c24
        have c24b1 : (t221 != t223) = true := bne_iff_ne.mpr c24
        obtain rfl := Option.some.inj H
        go_enter Tryd.func5, Tryd.ntmps5
        go_wp2_with (first | ((with_reducible refine gate_callee (f := 8) rfl ?_); refine goesL_ (some 16) rfl rfl Tryd.func8 (by kernel_rfl) rfl #[.int .i64 a0, .int .i64 100000] rfl (by (try simp only [List.map_toArray, List.map_cons, List.map_nil]); first | done | rfl | (simp only [List.length_drop, List.length_take]; rfl)) ?_; (with_reducible refine (customsmade_Within.calls a0 100000 t217 _ A18.out).mono ?_); rintro e w' ⟨rfl, ⟨nd, rfl⟩⟩; refine ⟨_, rfl, ?_⟩) | ((with_reducible refine gate_callee (f := 8) rfl ?_); refine goesL_ (some 18) rfl rfl Tryd.func8 (by kernel_rfl) rfl #[.int .i64 a1, .int .i64 35000] rfl (by (try simp only [List.map_toArray, List.map_cons, List.map_nil]); first | done | rfl | (simp only [List.length_drop, List.length_take]; rfl)) ?_; (with_reducible refine (customsmade_Within.calls a1 35000 t218 _ A19.out).mono ?_); rintro e w' ⟨rfl, ⟨nd, rfl⟩⟩; refine ⟨_, rfl, ?_⟩) | ((with_reducible refine gate_callee (f := 8) rfl ?_); refine goesL_ (some 21) rfl rfl Tryd.func8 (by kernel_rfl) rfl #[.int .i64 a2, .int .i64 1500] rfl (by (try simp only [List.map_toArray, List.map_cons, List.map_nil]); first | done | rfl | (simp only [List.length_drop, List.length_take]; rfl)) ?_; (with_reducible refine (customsmade_Within.calls a2 1500 t219 _ A20.out).mono ?_); rintro e w' ⟨rfl, ⟨nd, rfl⟩⟩; refine ⟨_, rfl, ?_⟩) | ((with_reducible refine gate_callee (f := 12) rfl ?_); refine goesL_ (some 27) rfl rfl Tryd.func12 (by kernel_rfl) rfl #[.int .i64 t217, .int .i64 t218, .int .i64 (wrap64 (t218 + t219))] rfl (by (try simp only [List.map_toArray, List.map_cons, List.map_nil]); first | done | rfl | (simp only [List.length_drop, List.length_take]; rfl)) ?_; (with_reducible refine (position_Relief.calls k t217 t218 (wrap64 (t218 + t219)) t220 t221 _ ?side1 A21.out).mono ?_); (case side1 => first | (with_reducible exact hGL) | exact GL.below hGL (by repeat (first | (with_reducible first | exact HB.out | apply below_alloc | apply pw_below_drewN | apply below_drew1) | exact HB.out)) | (repeat (first | exact hGL | apply GL.drewN | apply GL.drew))); rintro e w29 ⟨rfl, hb⟩; refine ⟨_, rfl, ?_⟩; have n0_ := Aside0.mk (below_step (by repeat (first | (with_reducible first | exact HB.out | apply below_alloc | apply pw_below_drewN | apply below_drew1) | exact HB.out)) hb); clear HB; have HB := n0_; clear n0_; (try clear hb); (try clear hb2); (try clear hk); (try clear hi)) | ((with_reducible refine gate_callee (f := 13) rfl ?_); refine goesL_ (some 34) rfl rfl Tryd.func13 (by kernel_rfl) rfl #[.int .i64 t217, .int .i64 t218, .int .i64 (wrap64 (t218 + t219))] rfl (by (try simp only [List.map_toArray, List.map_cons, List.map_nil]); first | done | rfl | (simp only [List.length_drop, List.length_take]; rfl)) ?_; (with_reducible refine (customsref27_Relief.calls k t217 t218 (wrap64 (t218 + t219)) t222 t223 _ A22.out).mono ?_); rintro e w30 ⟨rfl, hb⟩; refine ⟨_, rfl, ?_⟩; have n0_ := Aside0.mk (below_step (by repeat (first | (with_reducible first | exact HB.out | apply below_alloc | apply pw_below_drewN | apply below_drew1) | exact HB.out)) hb); clear HB; have HB := n0_; clear n0_; (try clear hb); (try clear hb2); (try clear hk); (try clear hi)))
        go_ret
        exact ⟨by first | rfl | (simp [errW_none, errW_some] <;> rfl) | (simp [*, errW_none, errW_some] <;> rfl), by repeat (first | (with_reducible first | exact HB.out | apply below_alloc | apply pw_below_drewN | apply below_drew1) | exact HB.out)⟩
    · rw [if_neg c23] at H
      have c23b0 : (t220 == t222) = false := beq_eq_false_iff_ne.mpr c23
      have c23b1 : (t220 != t222) = true := bne_iff_ne.mpr c23
      obtain rfl := Option.some.inj H
      go_enter Tryd.func5, Tryd.ntmps5
      go_wp2_with (first | ((with_reducible refine gate_callee (f := 8) rfl ?_); refine goesL_ (some 16) rfl rfl Tryd.func8 (by kernel_rfl) rfl #[.int .i64 a0, .int .i64 100000] rfl (by (try simp only [List.map_toArray, List.map_cons, List.map_nil]); first | done | rfl | (simp only [List.length_drop, List.length_take]; rfl)) ?_; (with_reducible refine (customsmade_Within.calls a0 100000 t217 _ A18.out).mono ?_); rintro e w' ⟨rfl, ⟨nd, rfl⟩⟩; refine ⟨_, rfl, ?_⟩) | ((with_reducible refine gate_callee (f := 8) rfl ?_); refine goesL_ (some 18) rfl rfl Tryd.func8 (by kernel_rfl) rfl #[.int .i64 a1, .int .i64 35000] rfl (by (try simp only [List.map_toArray, List.map_cons, List.map_nil]); first | done | rfl | (simp only [List.length_drop, List.length_take]; rfl)) ?_; (with_reducible refine (customsmade_Within.calls a1 35000 t218 _ A19.out).mono ?_); rintro e w' ⟨rfl, ⟨nd, rfl⟩⟩; refine ⟨_, rfl, ?_⟩) | ((with_reducible refine gate_callee (f := 8) rfl ?_); refine goesL_ (some 21) rfl rfl Tryd.func8 (by kernel_rfl) rfl #[.int .i64 a2, .int .i64 1500] rfl (by (try simp only [List.map_toArray, List.map_cons, List.map_nil]); first | done | rfl | (simp only [List.length_drop, List.length_take]; rfl)) ?_; (with_reducible refine (customsmade_Within.calls a2 1500 t219 _ A20.out).mono ?_); rintro e w' ⟨rfl, ⟨nd, rfl⟩⟩; refine ⟨_, rfl, ?_⟩) | ((with_reducible refine gate_callee (f := 12) rfl ?_); refine goesL_ (some 27) rfl rfl Tryd.func12 (by kernel_rfl) rfl #[.int .i64 t217, .int .i64 t218, .int .i64 (wrap64 (t218 + t219))] rfl (by (try simp only [List.map_toArray, List.map_cons, List.map_nil]); first | done | rfl | (simp only [List.length_drop, List.length_take]; rfl)) ?_; (with_reducible refine (position_Relief.calls k t217 t218 (wrap64 (t218 + t219)) t220 t221 _ ?side1 A21.out).mono ?_); (case side1 => first | (with_reducible exact hGL) | exact GL.below hGL (by repeat (first | (with_reducible first | exact HB.out | apply below_alloc | apply pw_below_drewN | apply below_drew1) | exact HB.out)) | (repeat (first | exact hGL | apply GL.drewN | apply GL.drew))); rintro e w31 ⟨rfl, hb⟩; refine ⟨_, rfl, ?_⟩; have n0_ := Aside0.mk (below_step (by repeat (first | (with_reducible first | exact HB.out | apply below_alloc | apply pw_below_drewN | apply below_drew1) | exact HB.out)) hb); clear HB; have HB := n0_; clear n0_; (try clear hb); (try clear hb2); (try clear hk); (try clear hi)) | ((with_reducible refine gate_callee (f := 13) rfl ?_); refine goesL_ (some 34) rfl rfl Tryd.func13 (by kernel_rfl) rfl #[.int .i64 t217, .int .i64 t218, .int .i64 (wrap64 (t218 + t219))] rfl (by (try simp only [List.map_toArray, List.map_cons, List.map_nil]); first | done | rfl | (simp only [List.length_drop, List.length_take]; rfl)) ?_; (with_reducible refine (customsref27_Relief.calls k t217 t218 (wrap64 (t218 + t219)) t222 t223 _ A22.out).mono ?_); rintro e w32 ⟨rfl, hb⟩; refine ⟨_, rfl, ?_⟩; have n0_ := Aside0.mk (below_step (by repeat (first | (with_reducible first | exact HB.out | apply below_alloc | apply pw_below_drewN | apply below_drew1) | exact HB.out)) hb); clear HB; have HB := n0_; clear n0_; (try clear hb); (try clear hb2); (try clear hk); (try clear hi)))
      go_ret
      exact ⟨by first | rfl | (simp [errW_none, errW_some] <;> rfl) | (simp [*, errW_none, errW_some] <;> rfl), by repeat (first | (with_reducible first | exact HB.out | apply below_alloc | apply pw_below_drewN | apply below_drew1) | exact HB.out)⟩

end Go.Proofs.YtbhknenjcbinaaaDoor.PB
