-- Written by a program of this claim (wip/tools: mkprint.py, pr.sh) out of the translation: plain functions and their contracts. Lean checks every line.
import Derived.Test.YtakhjhiofmgpnaaPAx0
import Derived.Test.YtakhjhiofmgpnaaPAx1
import Derived.Test.YtakhjhiofmgpnaaPAx8
namespace Go.Proofs.Ytakhjhiofmgpnaa.PA
open Go.RowKit Go.Proofs.YtakhjhiofmgpnaaW.PrintWords Go.Proofs.YtakhjhiofmgpnaaW.PrintLast Go.Proofs.YtakhjhiofmgpnaaW.PrintMore Go.Proofs.Ytakhjhiofmgpnaa.G
attribute [local go_sem] max2_int min2_int max_two min_two max_three min_three max_four min_four   -- for this text's walks alone
set_option linter.unusedVariables false
set_option linter.unusedSimpArgs false

attribute [local go_sem high] eqA39
/-! ### customsref21_Total: function 14 -/
def customsref21_Total.l0 : Nat → Int → Int → Int → Int → Int → List (S39) → Option (Int)
  | 0, _, _, _, _, _, _ => none
  | k + 1, x3, x4, x198000, x198001, x198002, x198003 => if x4 < (x198003.length : Int) then (if 0 ≤ x4 then (customsref21_Total.l0 k (wrap64 (x3 + ((rd_T39 x198003 x4).f1))) (wrap64 (x4 + 1)) x198000 x198001 x198002 x198003) else (none)) else (some x3)
def customsref21_Total.f (k : Nat) (a0_0 : Int) (a0_1 : Int) (a0_2 : Int) (l0_3 : List (S39)) : Option (Int) := (customsref21_ValidGuarantee.f k a0_0 a0_1 a0_2 l0_3).bind fun t198 => (if t198 = 0 then (customsref21_Total.l0 k 0 0 a0_0 a0_1 a0_2 l0_3) else (some 0))
theorem customsref21_Total.mono_l : ∀ k, (∀ y0 y1 y2 y3 y4 y5, LeO (customsref21_Total.l0 k y0 y1 y2 y3 y4 y5) (customsref21_Total.l0 (k + 1) y0 y1 y2 y3 y4 y5))
  | 0 => fun _ _ _ _ _ _ r h => by simp [customsref21_Total.l0] at h
  | k + 1 => by
    have ih0 := customsref21_Total.mono_l k
    · intro y0 y1 y2 y3 y4 y5
      unfold customsref21_Total.l0
      repeat' first
      | (with_reducible exact ih0 _ _ _ _ _ _)
      | (with_reducible exact customsref21_ValidGuarantee.mono _ _ _ _ _)
      | (with_reducible exact LeO.refl _)
      | (with_reducible exact LeO.none _)
      | (with_reducible refine LeO.ite ?_ ?_)
      | (with_reducible refine LeO.bind ?_ (fun _ => ?_))
      | exact ih0 _ _ _ _ _ _
      | exact customsref21_ValidGuarantee.mono _ _ _ _ _
      | exact LeO.none _
      | refine LeO.ite ?_ ?_
      | refine LeO.bind ?_ (fun _ => ?_)
theorem customsref21_Total.mono : ∀ a0 a1 a2 a3 k, LeO (customsref21_Total.f k a0 a1 a2 a3) (customsref21_Total.f (k + 1) a0 a1 a2 a3) := by
  intro a0 a1 a2 a3 k
  have ih0 := customsref21_Total.mono_l k
  unfold customsref21_Total.f
  repeat' first
      | (with_reducible exact ih0 _ _ _ _ _ _)
      | (with_reducible exact customsref21_ValidGuarantee.mono _ _ _ _ _)
      | (with_reducible exact LeO.refl _)
      | (with_reducible exact LeO.none _)
      | (with_reducible refine LeO.ite ?_ ?_)
      | (with_reducible refine LeO.bind ?_ (fun _ => ?_))
      | exact ih0 _ _ _ _ _ _
      | exact customsref21_ValidGuarantee.mono _ _ _ _ _
      | exact LeO.none _
      | refine LeO.ite ?_ ?_
      | refine LeO.bind ?_ (fun _ => ?_)
set_option maxHeartbeats 8000000 in
set_option maxRecDepth 100000 in
theorem customsref21_Total.calls (k : Nat) (a0_0 : Int) (a0_1 : Int) (a0_2 : Int) (A0_3 : Option Addr) (c0_3 : Nat) (l0_3 : List (S39)) (r : Int) (w : World) (hr0_3 : Kd.C k39 w A0_3 l0_3.length l0_3) (hc0_3 : l0_3.length ≤ c0_3) (h : customsref21_Total.f k a0_0 a0_1 a0_2 l0_3 = some r) :
    Calls Try.prog 14 #[.agg #[.int .i64 a0_0, .int .i64 a0_1, .int .i64 a0_2, .slice A0_3 l0_3.length c0_3]] w fun e w' => e = .returned (.int .i64 r) ∧ Below w.heap.size w w' := by
  have hu25 := Try.underlying25
  have HR0_3 := Aside0.mk hr0_3
  have HC0_3 := Aside0.mk hc0_3
  clear hr0_3 hc0_3
  have HB := Aside0.mk (Below.refl w.heap.size w)
  have H : ((customsref21_ValidGuarantee.f k a0_0 a0_1 a0_2 l0_3).bind fun t198 => (if t198 = 0 then (customsref21_Total.l0 k 0 0 a0_0 a0_1 a0_2 l0_3) else (some 0))) = some r := h
  clear h
  replace H := Option.bind_eq_some_iff.mp H
  obtain ⟨t198, A20, H⟩ := H
  replace H : (if t198 = 0 then (customsref21_Total.l0 k 0 0 a0_0 a0_1 a0_2 l0_3) else (some 0)) = some r := H
  have A2 := Aside0.mk A20
  clear A20
  by_cases c3 : t198 = 0
  · rw [if_pos c3] at H
    have c3b0 : (t198 == 0) = true := beq_iff_eq.mpr c3
    have c3b1 : (t198 != 0) = false := bne_eq_false_iff_eq.mpr c3
    clear c3
    have H' := Aside0.mk H
    clear H
    go_enter Try.func14, Try.ntmps14
    go_wp2_with (first | ((with_reducible refine gate_dst (N := 1) rfl ?_); refine box_event ?hg (N := 1) ?hd (cs := #[.int .i64 a0_0, .int .i64 a0_1, .int .i64 a0_2, .slice A0_3 l0_3.length c0_3]) (t := 25) ?hr ?_; (case hd => rfl); (case hg => rfl); (case hr => first | (go_simp; done) | (go_simp; rfl)); intro gb197 hg w4 hbox hb; have n0_ := Aside0.mk (below_step (by repeat (first | (with_reducible first | exact HB.out | apply below_alloc | apply pw_below_drewN | apply below_drew1) | exact HB.out)) hb); have n1_ := Aside0.mk (hbox); have n2_ := Aside0.mk ((by rw [hg]; exact (below_size (by repeat (first | (with_reducible first | exact HB.out | apply below_alloc | apply pw_below_drewN | apply below_drew1) | exact HB.out))) : w.heap.size ≤ gb197)); have n3_ := Aside0.mk ((by rw [hg]; exact (below_size (by repeat (first | (with_reducible first | exact HB.out | apply below_alloc | apply pw_below_drewN | apply below_drew1) | exact HB.out))) : w.heap.size ≤ gb197)); clear HB; have HB := n0_; have BK197 := n1_; have GW197 := n2_; have GE197 := n3_; clear n0_ n1_ n2_ n3_; clear hb hbox hg; have hcz5_0 : w4.cell? ⟨gb197, 0, none⟩ = some (.int .i64 a0_0) := (blk_cell BK197.out 0).trans rfl; have hcz5_1 : w4.cell? ⟨gb197, 1, none⟩ = some (.int .i64 a0_1) := (blk_cell BK197.out 1).trans rfl; have hcz5_2 : w4.cell? ⟨gb197, 2, none⟩ = some (.int .i64 a0_2) := (blk_cell BK197.out 2).trans rfl; have hcz5_3 : w4.cell? ⟨gb197, 3, none⟩ = some (.slice A0_3 l0_3.length c0_3) := (blk_cell BK197.out 3).trans rfl; have hfz5_0 := blk_frozen BK197.out 0; have hfz5_1 := blk_frozen BK197.out 1; have hfz5_2 := blk_frozen BK197.out 2; have hfz5_3 := blk_frozen BK197.out 3) | ((with_reducible refine gate_callee (f := 12) rfl ?_); refine goesL_ (some 6) rfl rfl Try.func12 (by kernel_rfl) rfl #[.agg #[.int .i64 a0_0, .int .i64 a0_1, .int .i64 a0_2, .slice A0_3 l0_3.length c0_3]] rfl (by (try simp only [List.map_toArray, List.map_cons, List.map_nil]); first | done | rfl | (simp only [List.length_drop, List.length_take]; rfl)) ?_; (with_reducible refine (customsref21_ValidGuarantee.calls k a0_0 a0_1 a0_2 _ _ l0_3 t198 _ ?side1 ?side2 A2.out).mono ?_); (case side1 => repeat (first | exact (Kd.C_below HR0_3.out HB.out) | (with_reducible refine Kd.C_alloc ?_ _) | (with_reducible refine Kd.C_drewN ?_ _) | (with_reducible refine Kd.C_drew ?_))); (case side2 => exact HC0_3.out); rintro e w6 ⟨rfl, hb⟩; refine ⟨_, rfl, ?_⟩; have n0_ := Aside0.mk (blk_below (g := gb197) (o := .cells #[.int .i64 a0_0, .int .i64 a0_1, .int .i64 a0_2, .slice A0_3 l0_3.length c0_3] 25 (0, 0)) (by (with_reducible repeat (first | refine blk_drewN ?_ _ | refine blk_drew ?_ | refine blk_alloc ?_ _)); exact BK197.out) hb); have n1_ := Aside0.mk (below_step (by repeat (first | (with_reducible first | exact HB.out | apply below_alloc | apply pw_below_drewN | apply below_drew1 | refine below_set ?_ GE197.out) | exact HB.out)) hb); clear BK197; clear HB; have BK197 := n0_; have HB := n1_; clear n0_ n1_; (try clear hb); (try clear hb2); (try clear hk); (try clear hi)))
    go_loopg [3, 4] k (fun kq v3 v4 w' => ∃ (x3_1 : Int) (x4_1 : Int), v3 = .int .i64 x3_1 ∧ v4 = .int .i64 x4_1 ∧ Aside0 (customsref21_Total.l0 kq x3_1 x4_1 a0_0 a0_1 a0_2 l0_3 = some r) ∧ Aside0 (kq ≤ k) ∧ Aside0 (w'.heap[gb197]? = some (.cells #[.int .i64 a0_0, .int .i64 a0_1, .int .i64 a0_2, (.slice A0_3 l0_3.length c0_3)] 25 (0, 0))) ∧ Aside0 (Below w.heap.size w w'))
    case atStart => exact ⟨(0), (0), (by first | rfl | (simp; done) | (simp [*]; done)), (by first | rfl | (simp; done) | (simp [*]; done)), H', ⟨Nat.le_refl _⟩, ⟨by (with_reducible repeat (first | refine blk_drewN ?_ _ | refine blk_drew ?_ | refine blk_alloc ?_ _)); exact BK197.out⟩, ⟨by repeat (first | (with_reducible first | exact HB.out | apply below_alloc | apply pw_below_drewN | apply below_drew1 | refine below_set ?_ GE197.out) | exact HB.out)⟩⟩
    case round =>
      clear H'
      try clear c1
      try clear p2
      try clear c3
      try clear c3b0
      try clear c3b1
      try clear hcz5_0
      try clear hcz5_1
      try clear hcz5_2
      try clear hcz5_3
      try clear hfz5_0
      try clear hfz5_1
      try clear hfz5_2
      try clear hfz5_3
      obtain ⟨x3_1, x4_1, rfl, rfl, HA, HK1, BK197, HB⟩ := hrel
      cases gk with
      | zero => exact absurd HA.out (by simp [customsref21_Total.l0])
      | succ k1 =>
        have H := HA.out
        clear HA
        simp only [customsref21_Total.l0] at H
        by_cases c7 : x4_1 < (l0_3.length : Int)
        · rw [if_pos c7] at H
          have c7b0 : decide (x4_1 < (l0_3.length : Int)) = true := decide_eq_true c7
          clear c7
          by_cases c8 : 0 ≤ x4_1
          · rw [if_pos c8] at H
            have c8b0 : decide (0 ≤ x4_1) = true := decide_eq_true c8
            clear c8
            have H' := Aside0.mk H
            clear H
            have hcz9_0 : wr.cell? ⟨gb197, 0, none⟩ = some (.int .i64 a0_0) := (blk_cell BK197.out 0).trans rfl
            have hcz9_1 : wr.cell? ⟨gb197, 1, none⟩ = some (.int .i64 a0_1) := (blk_cell BK197.out 1).trans rfl
            have hcz9_2 : wr.cell? ⟨gb197, 2, none⟩ = some (.int .i64 a0_2) := (blk_cell BK197.out 2).trans rfl
            have hcz9_3 : wr.cell? ⟨gb197, 3, none⟩ = some (.slice A0_3 l0_3.length c0_3) := (blk_cell BK197.out 3).trans rfl
            have hfz9_0 := blk_frozen BK197.out 0
            have hfz9_1 := blk_frozen BK197.out 1
            have hfz9_2 := blk_frozen BK197.out 2
            have hfz9_3 := blk_frozen BK197.out 3
            have p199 : 0 ≤ (x4_1 : Int) := of_decide_eq_true (by first | (with_reducible assumption) | assumption)
            have q199 : x4_1 < (l0_3.length : Int) := of_decide_eq_true (by first | (with_reducible assumption) | assumption)
            obtain ⟨ad199, e199, hx199_0, hx199_1⟩ := at_T39 HR0_3.out x4_1 p199 q199
            cases e199
            replace hx199_0 := (HB.out.cell (World.block_lt_of_cell? w _ hx199_0)).trans hx199_0
            replace hx199_1 := (HB.out.cell (World.block_lt_of_cell? w _ hx199_1)).trans hx199_1
            replace p199 := eq_true p199
            replace q199 := eq_true q199
            go_wp2
            go_roundg k1
            case measure => have := HK1.out; omega
            case rel => exact ⟨(wrap64 (x3_1 + ((rd_T39 l0_3 x4_1).f1))), (wrap64 (x4_1 + 1)), (by first | rfl | (simp; done) | (simp [*]; done)), (by first | rfl | (simp; done) | (simp [*]; done)), H', ⟨by have := HK1.out; omega⟩, ⟨by (with_reducible repeat (first | refine blk_drewN ?_ _ | refine blk_drew ?_ | refine blk_alloc ?_ _)); exact BK197.out⟩, ⟨by repeat (first | (with_reducible first | exact HB.out | apply below_alloc | apply pw_below_drewN | apply below_drew1 | refine below_set ?_ GE197.out) | exact HB.out)⟩⟩
          · rw [if_neg c8] at H
            exact absurd H (by simp)
        · rw [if_neg c7] at H
          have c7b0 : decide (x4_1 < (l0_3.length : Int)) = false := decide_eq_false c7
          clear c7
          obtain rfl := Option.some.inj H
          have hcz10_0 : wr.cell? ⟨gb197, 0, none⟩ = some (.int .i64 a0_0) := (blk_cell BK197.out 0).trans rfl
          have hcz10_1 : wr.cell? ⟨gb197, 1, none⟩ = some (.int .i64 a0_1) := (blk_cell BK197.out 1).trans rfl
          have hcz10_2 : wr.cell? ⟨gb197, 2, none⟩ = some (.int .i64 a0_2) := (blk_cell BK197.out 2).trans rfl
          have hcz10_3 : wr.cell? ⟨gb197, 3, none⟩ = some (.slice A0_3 l0_3.length c0_3) := (blk_cell BK197.out 3).trans rfl
          have hfz10_0 := blk_frozen BK197.out 0
          have hfz10_1 := blk_frozen BK197.out 1
          have hfz10_2 := blk_frozen BK197.out 2
          have hfz10_3 := blk_frozen BK197.out 3
          go_wp2
          go_ret
          exact ⟨by first | rfl | (simp [errW_none, errW_some] <;> rfl) | (simp [*, errW_none, errW_some] <;> rfl), by repeat (first | (with_reducible first | exact HB.out | apply below_alloc | apply pw_below_drewN | apply below_drew1 | refine below_set ?_ GE197.out) | exact HB.out)⟩
  · rw [if_neg c3] at H
    have c3b0 : (t198 == 0) = false := beq_eq_false_iff_ne.mpr c3
    have c3b1 : (t198 != 0) = true := bne_iff_ne.mpr c3
    obtain rfl := Option.some.inj H
    go_enter Try.func14, Try.ntmps14
    go_wp2_with (first | ((with_reducible refine gate_dst (N := 1) rfl ?_); refine box_event ?hg (N := 1) ?hd (cs := #[.int .i64 a0_0, .int .i64 a0_1, .int .i64 a0_2, .slice A0_3 l0_3.length c0_3]) (t := 25) ?hr ?_; (case hd => rfl); (case hg => rfl); (case hr => first | (go_simp; done) | (go_simp; rfl)); intro gb197 hg w11 hbox hb; have n0_ := Aside0.mk (below_step (by repeat (first | (with_reducible first | exact HB.out | apply below_alloc | apply pw_below_drewN | apply below_drew1) | exact HB.out)) hb); have n1_ := Aside0.mk (hbox); have n2_ := Aside0.mk ((by rw [hg]; exact (below_size (by repeat (first | (with_reducible first | exact HB.out | apply below_alloc | apply pw_below_drewN | apply below_drew1) | exact HB.out))) : w.heap.size ≤ gb197)); have n3_ := Aside0.mk ((by rw [hg]; exact (below_size (by repeat (first | (with_reducible first | exact HB.out | apply below_alloc | apply pw_below_drewN | apply below_drew1) | exact HB.out))) : w.heap.size ≤ gb197)); clear HB; have HB := n0_; have BK197 := n1_; have GW197 := n2_; have GE197 := n3_; clear n0_ n1_ n2_ n3_; clear hb hbox hg; have hcz12_0 : w11.cell? ⟨gb197, 0, none⟩ = some (.int .i64 a0_0) := (blk_cell BK197.out 0).trans rfl; have hcz12_1 : w11.cell? ⟨gb197, 1, none⟩ = some (.int .i64 a0_1) := (blk_cell BK197.out 1).trans rfl; have hcz12_2 : w11.cell? ⟨gb197, 2, none⟩ = some (.int .i64 a0_2) := (blk_cell BK197.out 2).trans rfl; have hcz12_3 : w11.cell? ⟨gb197, 3, none⟩ = some (.slice A0_3 l0_3.length c0_3) := (blk_cell BK197.out 3).trans rfl; have hfz12_0 := blk_frozen BK197.out 0; have hfz12_1 := blk_frozen BK197.out 1; have hfz12_2 := blk_frozen BK197.out 2; have hfz12_3 := blk_frozen BK197.out 3) | ((with_reducible refine gate_callee (f := 12) rfl ?_); refine goesL_ (some 6) rfl rfl Try.func12 (by kernel_rfl) rfl #[.agg #[.int .i64 a0_0, .int .i64 a0_1, .int .i64 a0_2, .slice A0_3 l0_3.length c0_3]] rfl (by (try simp only [List.map_toArray, List.map_cons, List.map_nil]); first | done | rfl | (simp only [List.length_drop, List.length_take]; rfl)) ?_; (with_reducible refine (customsref21_ValidGuarantee.calls k a0_0 a0_1 a0_2 _ _ l0_3 t198 _ ?side1 ?side2 A2.out).mono ?_); (case side1 => repeat (first | exact (Kd.C_below HR0_3.out HB.out) | (with_reducible refine Kd.C_alloc ?_ _) | (with_reducible refine Kd.C_drewN ?_ _) | (with_reducible refine Kd.C_drew ?_))); (case side2 => exact HC0_3.out); rintro e w13 ⟨rfl, hb⟩; refine ⟨_, rfl, ?_⟩; have n0_ := Aside0.mk (blk_below (g := gb197) (o := .cells #[.int .i64 a0_0, .int .i64 a0_1, .int .i64 a0_2, .slice A0_3 l0_3.length c0_3] 25 (0, 0)) (by (with_reducible repeat (first | refine blk_drewN ?_ _ | refine blk_drew ?_ | refine blk_alloc ?_ _)); exact BK197.out) hb); have n1_ := Aside0.mk (below_step (by repeat (first | (with_reducible first | exact HB.out | apply below_alloc | apply pw_below_drewN | apply below_drew1 | refine below_set ?_ GE197.out) | exact HB.out)) hb); clear BK197; clear HB; have BK197 := n0_; have HB := n1_; clear n0_ n1_; (try clear hb); (try clear hb2); (try clear hk); (try clear hi)))
    go_ret
    exact ⟨by first | rfl | (simp [errW_none, errW_some] <;> rfl) | (simp [*, errW_none, errW_some] <;> rfl), by repeat (first | (with_reducible first | exact HB.out | apply below_alloc | apply pw_below_drewN | apply below_drew1 | refine below_set ?_ GE197.out) | exact HB.out)⟩

/-! ### customsref21_Required: function 18 -/
def customsref21_Required.f (a0_0 : Int) (a0_1 : Int) (a0_2 : Int) (l0_3 : List (S39)) (a1 : Int) : Option (Int × Int) := if a0_2 < 0 then (some (0, 2)) else (if a0_2 > 1000000 then (some (0, 2)) else (if a1 < 0 then (some (0, 2)) else (if a1 > 1000000000000 then (some (0, 2)) else (some (wrap64 (Int.tdiv (wrap64 ((wrap64 ((wrap64 (a1 * a0_2)) + 1000000)) - 1)) 1000000), 0)))))
set_option maxHeartbeats 8000000 in
set_option maxRecDepth 100000 in
theorem customsref21_Required.calls (a0_0 : Int) (a0_1 : Int) (a0_2 : Int) (A0_3 : Option Addr) (c0_3 : Nat) (l0_3 : List (S39)) (a1 : Int) (r1 : Int) (r2 : Int) (w : World) (hr0_3 : Kd.C k39 w A0_3 l0_3.length l0_3) (hc0_3 : l0_3.length ≤ c0_3) (h : customsref21_Required.f a0_0 a0_1 a0_2 l0_3 a1 = some (r1, r2)) :
    Calls Try.prog 18 #[.agg #[.int .i64 a0_0, .int .i64 a0_1, .int .i64 a0_2, .slice A0_3 l0_3.length c0_3], .int .i64 a1] w fun e w' => e = .returned (.tuple #[.int .i64 r1, .int .i64 r2]) ∧ Below w.heap.size w w' := by
  have hu25 := Try.underlying25
  have HR0_3 := Aside0.mk hr0_3
  have HC0_3 := Aside0.mk hc0_3
  clear hr0_3 hc0_3
  have HB := Aside0.mk (Below.refl w.heap.size w)
  have H : (if a0_2 < 0 then (some (0, 2)) else (if a0_2 > 1000000 then (some (0, 2)) else (if a1 < 0 then (some (0, 2)) else (if a1 > 1000000000000 then (some (0, 2)) else (some (wrap64 (Int.tdiv (wrap64 ((wrap64 ((wrap64 (a1 * a0_2)) + 1000000)) - 1)) 1000000), 0)))))) = some (r1, r2) := h
  clear h
  by_cases c3 : a0_2 < 0
  · rw [if_pos c3] at H
    have c3b0 : decide (a0_2 < 0) = true := decide_eq_true c3
    clear c3
    simp only [Option.some.injEq, Prod.mk.injEq] at H
    obtain ⟨rfl, rfl⟩ := H
    go_enter Try.func18, Try.ntmps18
    go_wp2_with (first | ((with_reducible refine gate_dst (N := 2) rfl ?_); refine box_event ?hg (N := 2) ?hd (cs := #[.int .i64 a0_0, .int .i64 a0_1, .int .i64 a0_2, .slice A0_3 l0_3.length c0_3]) (t := 25) ?hr ?_; (case hd => rfl); (case hg => rfl); (case hr => first | (go_simp; done) | (go_simp; rfl)); intro gb200 hg w4 hbox hb; have n0_ := Aside0.mk (below_step (by repeat (first | (with_reducible first | exact HB.out | apply below_alloc | apply pw_below_drewN | apply below_drew1) | exact HB.out)) hb); have n1_ := Aside0.mk (hbox); have n2_ := Aside0.mk ((by rw [hg]; exact (below_size (by repeat (first | (with_reducible first | exact HB.out | apply below_alloc | apply pw_below_drewN | apply below_drew1) | exact HB.out))) : w.heap.size ≤ gb200)); have n3_ := Aside0.mk ((by rw [hg]; exact (below_size (by repeat (first | (with_reducible first | exact HB.out | apply below_alloc | apply pw_below_drewN | apply below_drew1) | exact HB.out))) : w.heap.size ≤ gb200)); clear HB; have HB := n0_; have BK200 := n1_; have GW200 := n2_; have GE200 := n3_; clear n0_ n1_ n2_ n3_; clear hb hbox hg; have hcz5_0 : w4.cell? ⟨gb200, 0, none⟩ = some (.int .i64 a0_0) := (blk_cell BK200.out 0).trans rfl; have hcz5_1 : w4.cell? ⟨gb200, 1, none⟩ = some (.int .i64 a0_1) := (blk_cell BK200.out 1).trans rfl; have hcz5_2 : w4.cell? ⟨gb200, 2, none⟩ = some (.int .i64 a0_2) := (blk_cell BK200.out 2).trans rfl; have hcz5_3 : w4.cell? ⟨gb200, 3, none⟩ = some (.slice A0_3 l0_3.length c0_3) := (blk_cell BK200.out 3).trans rfl; have hfz5_0 := blk_frozen BK200.out 0; have hfz5_1 := blk_frozen BK200.out 1; have hfz5_2 := blk_frozen BK200.out 2; have hfz5_3 := blk_frozen BK200.out 3))
    go_ret2
    exact ⟨by first | rfl | (simp [errW_none, errW_some] <;> rfl) | (simp [*, errW_none, errW_some] <;> rfl), by repeat (first | (with_reducible first | exact HB.out | apply below_alloc | apply pw_below_drewN | apply below_drew1 | refine below_set ?_ GE200.out) | exact HB.out)⟩
  · rw [if_neg c3] at H
    have c3b0 : decide (a0_2 < 0) = false := decide_eq_false c3
    clear c3
    by_cases c6 : a0_2 > 1000000
    · rw [if_pos c6] at H
      have c6b0 : decide (1000000 < a0_2) = true := decide_eq_true c6
      clear c6
      simp only [Option.some.injEq, Prod.mk.injEq] at H
      obtain ⟨rfl, rfl⟩ := H
      go_enter Try.func18, Try.ntmps18
      go_wp2_with (first | ((with_reducible refine gate_dst (N := 2) rfl ?_); refine box_event ?hg (N := 2) ?hd (cs := #[.int .i64 a0_0, .int .i64 a0_1, .int .i64 a0_2, .slice A0_3 l0_3.length c0_3]) (t := 25) ?hr ?_; (case hd => rfl); (case hg => rfl); (case hr => first | (go_simp; done) | (go_simp; rfl)); intro gb200 hg w7 hbox hb; have n0_ := Aside0.mk (below_step (by repeat (first | (with_reducible first | exact HB.out | apply below_alloc | apply pw_below_drewN | apply below_drew1) | exact HB.out)) hb); have n1_ := Aside0.mk (hbox); have n2_ := Aside0.mk ((by rw [hg]; exact (below_size (by repeat (first | (with_reducible first | exact HB.out | apply below_alloc | apply pw_below_drewN | apply below_drew1) | exact HB.out))) : w.heap.size ≤ gb200)); have n3_ := Aside0.mk ((by rw [hg]; exact (below_size (by repeat (first | (with_reducible first | exact HB.out | apply below_alloc | apply pw_below_drewN | apply below_drew1) | exact HB.out))) : w.heap.size ≤ gb200)); clear HB; have HB := n0_; have BK200 := n1_; have GW200 := n2_; have GE200 := n3_; clear n0_ n1_ n2_ n3_; clear hb hbox hg; have hcz8_0 : w7.cell? ⟨gb200, 0, none⟩ = some (.int .i64 a0_0) := (blk_cell BK200.out 0).trans rfl; have hcz8_1 : w7.cell? ⟨gb200, 1, none⟩ = some (.int .i64 a0_1) := (blk_cell BK200.out 1).trans rfl; have hcz8_2 : w7.cell? ⟨gb200, 2, none⟩ = some (.int .i64 a0_2) := (blk_cell BK200.out 2).trans rfl; have hcz8_3 : w7.cell? ⟨gb200, 3, none⟩ = some (.slice A0_3 l0_3.length c0_3) := (blk_cell BK200.out 3).trans rfl; have hfz8_0 := blk_frozen BK200.out 0; have hfz8_1 := blk_frozen BK200.out 1; have hfz8_2 := blk_frozen BK200.out 2; have hfz8_3 := blk_frozen BK200.out 3))
      go_ret2
      exact ⟨by first | rfl | (simp [errW_none, errW_some] <;> rfl) | (simp [*, errW_none, errW_some] <;> rfl), by repeat (first | (with_reducible first | exact HB.out | apply below_alloc | apply pw_below_drewN | apply below_drew1 | refine below_set ?_ GE200.out) | exact HB.out)⟩
    · rw [if_neg c6] at H
      have c6b0 : decide (1000000 < a0_2) = false := decide_eq_false c6
      clear c6
      by_cases c9 : a1 < 0
      · rw [if_pos c9] at H
        have c9b0 : decide (a1 < 0) = true := decide_eq_true c9
        clear c9
        simp only [Option.some.injEq, Prod.mk.injEq] at H
        obtain ⟨rfl, rfl⟩ := H
        go_enter Try.func18, Try.ntmps18
        go_wp2_with (first | ((with_reducible refine gate_dst (N := 2) rfl ?_); refine box_event ?hg (N := 2) ?hd (cs := #[.int .i64 a0_0, .int .i64 a0_1, .int .i64 a0_2, .slice A0_3 l0_3.length c0_3]) (t := 25) ?hr ?_; (case hd => rfl); (case hg => rfl); (case hr => first | (go_simp; done) | (go_simp; rfl)); intro gb200 hg w10 hbox hb; have n0_ := Aside0.mk (below_step (by repeat (first | (with_reducible first | exact HB.out | apply below_alloc | apply pw_below_drewN | apply below_drew1) | exact HB.out)) hb); have n1_ := Aside0.mk (hbox); have n2_ := Aside0.mk ((by rw [hg]; exact (below_size (by repeat (first | (with_reducible first | exact HB.out | apply below_alloc | apply pw_below_drewN | apply below_drew1) | exact HB.out))) : w.heap.size ≤ gb200)); have n3_ := Aside0.mk ((by rw [hg]; exact (below_size (by repeat (first | (with_reducible first | exact HB.out | apply below_alloc | apply pw_below_drewN | apply below_drew1) | exact HB.out))) : w.heap.size ≤ gb200)); clear HB; have HB := n0_; have BK200 := n1_; have GW200 := n2_; have GE200 := n3_; clear n0_ n1_ n2_ n3_; clear hb hbox hg; have hcz11_0 : w10.cell? ⟨gb200, 0, none⟩ = some (.int .i64 a0_0) := (blk_cell BK200.out 0).trans rfl; have hcz11_1 : w10.cell? ⟨gb200, 1, none⟩ = some (.int .i64 a0_1) := (blk_cell BK200.out 1).trans rfl; have hcz11_2 : w10.cell? ⟨gb200, 2, none⟩ = some (.int .i64 a0_2) := (blk_cell BK200.out 2).trans rfl; have hcz11_3 : w10.cell? ⟨gb200, 3, none⟩ = some (.slice A0_3 l0_3.length c0_3) := (blk_cell BK200.out 3).trans rfl; have hfz11_0 := blk_frozen BK200.out 0; have hfz11_1 := blk_frozen BK200.out 1; have hfz11_2 := blk_frozen BK200.out 2; have hfz11_3 := blk_frozen BK200.out 3))
        go_ret2
        exact ⟨by first | rfl | (simp [errW_none, errW_some] <;> rfl) | (simp [*, errW_none, errW_some] <;> rfl), by repeat (first | (with_reducible first | exact HB.out | apply below_alloc | apply pw_below_drewN | apply below_drew1 | refine below_set ?_ GE200.out) | exact HB.out)⟩
      · rw [if_neg c9] at H
        have c9b0 : decide (a1 < 0) = false := decide_eq_false c9
        clear c9
        by_cases c12 : a1 > 1000000000000
        · rw [if_pos c12] at H
          have c12b0 : decide (1000000000000 < a1) = true := decide_eq_true c12
          clear c12
          simp only [Option.some.injEq, Prod.mk.injEq] at H
          obtain ⟨rfl, rfl⟩ := H
          go_enter Try.func18, Try.ntmps18
          go_wp2_with (first | ((with_reducible refine gate_dst (N := 2) rfl ?_); refine box_event ?hg (N := 2) ?hd (cs := #[.int .i64 a0_0, .int .i64 a0_1, .int .i64 a0_2, .slice A0_3 l0_3.length c0_3]) (t := 25) ?hr ?_; (case hd => rfl); (case hg => rfl); (case hr => first | (go_simp; done) | (go_simp; rfl)); intro gb200 hg w13 hbox hb; have n0_ := Aside0.mk (below_step (by repeat (first | (with_reducible first | exact HB.out | apply below_alloc | apply pw_below_drewN | apply below_drew1) | exact HB.out)) hb); have n1_ := Aside0.mk (hbox); have n2_ := Aside0.mk ((by rw [hg]; exact (below_size (by repeat (first | (with_reducible first | exact HB.out | apply below_alloc | apply pw_below_drewN | apply below_drew1) | exact HB.out))) : w.heap.size ≤ gb200)); have n3_ := Aside0.mk ((by rw [hg]; exact (below_size (by repeat (first | (with_reducible first | exact HB.out | apply below_alloc | apply pw_below_drewN | apply below_drew1) | exact HB.out))) : w.heap.size ≤ gb200)); clear HB; have HB := n0_; have BK200 := n1_; have GW200 := n2_; have GE200 := n3_; clear n0_ n1_ n2_ n3_; clear hb hbox hg; have hcz14_0 : w13.cell? ⟨gb200, 0, none⟩ = some (.int .i64 a0_0) := (blk_cell BK200.out 0).trans rfl; have hcz14_1 : w13.cell? ⟨gb200, 1, none⟩ = some (.int .i64 a0_1) := (blk_cell BK200.out 1).trans rfl; have hcz14_2 : w13.cell? ⟨gb200, 2, none⟩ = some (.int .i64 a0_2) := (blk_cell BK200.out 2).trans rfl; have hcz14_3 : w13.cell? ⟨gb200, 3, none⟩ = some (.slice A0_3 l0_3.length c0_3) := (blk_cell BK200.out 3).trans rfl; have hfz14_0 := blk_frozen BK200.out 0; have hfz14_1 := blk_frozen BK200.out 1; have hfz14_2 := blk_frozen BK200.out 2; have hfz14_3 := blk_frozen BK200.out 3))
          go_ret2
          exact ⟨by first | rfl | (simp [errW_none, errW_some] <;> rfl) | (simp [*, errW_none, errW_some] <;> rfl), by repeat (first | (with_reducible first | exact HB.out | apply below_alloc | apply pw_below_drewN | apply below_drew1 | refine below_set ?_ GE200.out) | exact HB.out)⟩
        · rw [if_neg c12] at H
          have c12b0 : decide (1000000000000 < a1) = false := decide_eq_false c12
          clear c12
          simp only [Option.some.injEq, Prod.mk.injEq] at H
          obtain ⟨rfl, rfl⟩ := H
          go_enter Try.func18, Try.ntmps18
          go_wp2_with (first | ((with_reducible refine gate_dst (N := 2) rfl ?_); refine box_event ?hg (N := 2) ?hd (cs := #[.int .i64 a0_0, .int .i64 a0_1, .int .i64 a0_2, .slice A0_3 l0_3.length c0_3]) (t := 25) ?hr ?_; (case hd => rfl); (case hg => rfl); (case hr => first | (go_simp; done) | (go_simp; rfl)); intro gb200 hg w15 hbox hb; have n0_ := Aside0.mk (below_step (by repeat (first | (with_reducible first | exact HB.out | apply below_alloc | apply pw_below_drewN | apply below_drew1) | exact HB.out)) hb); have n1_ := Aside0.mk (hbox); have n2_ := Aside0.mk ((by rw [hg]; exact (below_size (by repeat (first | (with_reducible first | exact HB.out | apply below_alloc | apply pw_below_drewN | apply below_drew1) | exact HB.out))) : w.heap.size ≤ gb200)); have n3_ := Aside0.mk ((by rw [hg]; exact (below_size (by repeat (first | (with_reducible first | exact HB.out | apply below_alloc | apply pw_below_drewN | apply below_drew1) | exact HB.out))) : w.heap.size ≤ gb200)); clear HB; have HB := n0_; have BK200 := n1_; have GW200 := n2_; have GE200 := n3_; clear n0_ n1_ n2_ n3_; clear hb hbox hg; have hcz16_0 : w15.cell? ⟨gb200, 0, none⟩ = some (.int .i64 a0_0) := (blk_cell BK200.out 0).trans rfl; have hcz16_1 : w15.cell? ⟨gb200, 1, none⟩ = some (.int .i64 a0_1) := (blk_cell BK200.out 1).trans rfl; have hcz16_2 : w15.cell? ⟨gb200, 2, none⟩ = some (.int .i64 a0_2) := (blk_cell BK200.out 2).trans rfl; have hcz16_3 : w15.cell? ⟨gb200, 3, none⟩ = some (.slice A0_3 l0_3.length c0_3) := (blk_cell BK200.out 3).trans rfl; have hfz16_0 := blk_frozen BK200.out 0; have hfz16_1 := blk_frozen BK200.out 1; have hfz16_2 := blk_frozen BK200.out 2; have hfz16_3 := blk_frozen BK200.out 3))
          go_ret2
          exact ⟨by first | rfl | (simp [errW_none, errW_some] <;> rfl) | (simp [*, errW_none, errW_some] <;> rfl), by repeat (first | (with_reducible first | exact HB.out | apply below_alloc | apply pw_below_drewN | apply below_drew1 | refine below_set ?_ GE200.out) | exact HB.out)⟩

/-! ### customsref21_SameReservations: function 41 -/
def customsref21_SameReservations.l0 : Nat → List (S39) → List (S39) → Int → Option (Bool)
  | 0, _, _, _ => none
  | k + 1, x0, x1, x5 => if x5 < (x0.length : Int) then (if 0 ≤ x5 then (if x5 < (x1.length : Int) then (if (!(((rd_T39 x0 x5).f0) == ((rd_T39 x1 x5).f0)) || (!(((rd_T39 x0 x5).f1) == ((rd_T39 x1 x5).f1)))) = true then (some false) else (customsref21_SameReservations.l0 k x0 x1 (wrap64 (x5 + 1)))) else (none)) else (none)) else (some true)
def customsref21_SameReservations.f (k : Nat) (l0 : List (S39)) (l1 : List (S39)) : Option (Bool) := if (l0.length : Int) = (l1.length : Int) then (customsref21_SameReservations.l0 k l0 l1 0) else (some false)
theorem customsref21_SameReservations.mono_l : ∀ k, (∀ y0 y1 y2, LeO (customsref21_SameReservations.l0 k y0 y1 y2) (customsref21_SameReservations.l0 (k + 1) y0 y1 y2))
  | 0 => fun _ _ _ r h => by simp [customsref21_SameReservations.l0] at h
  | k + 1 => by
    have ih0 := customsref21_SameReservations.mono_l k
    · intro y0 y1 y2
      unfold customsref21_SameReservations.l0
      repeat' first
      | (with_reducible exact ih0 _ _ _)
      | (with_reducible exact LeO.refl _)
      | (with_reducible exact LeO.none _)
      | (with_reducible refine LeO.ite ?_ ?_)
      | (with_reducible refine LeO.bind ?_ (fun _ => ?_))
      | exact ih0 _ _ _
      | exact LeO.none _
      | refine LeO.ite ?_ ?_
      | refine LeO.bind ?_ (fun _ => ?_)
theorem customsref21_SameReservations.mono : ∀ a0 a1 k, LeO (customsref21_SameReservations.f k a0 a1) (customsref21_SameReservations.f (k + 1) a0 a1) := by
  intro a0 a1 k
  have ih0 := customsref21_SameReservations.mono_l k
  unfold customsref21_SameReservations.f
  repeat' first
      | (with_reducible exact ih0 _ _ _)
      | (with_reducible exact LeO.refl _)
      | (with_reducible exact LeO.none _)
      | (with_reducible refine LeO.ite ?_ ?_)
      | (with_reducible refine LeO.bind ?_ (fun _ => ?_))
      | exact ih0 _ _ _
      | exact LeO.none _
      | refine LeO.ite ?_ ?_
      | refine LeO.bind ?_ (fun _ => ?_)
set_option maxHeartbeats 8000000 in
set_option maxRecDepth 100000 in
theorem customsref21_SameReservations.calls (k : Nat) (A0 : Option Addr) (c0 : Nat) (l0 : List (S39)) (A1 : Option Addr) (c1 : Nat) (l1 : List (S39)) (r : Bool) (w : World) (hr0 : Kd.C k39 w A0 l0.length l0) (hc0 : l0.length ≤ c0) (hr1 : Kd.C k39 w A1 l1.length l1) (hc1 : l1.length ≤ c1) (h : customsref21_SameReservations.f k l0 l1 = some r) :
    Calls Try.prog 41 #[.slice A0 l0.length c0, .slice A1 l1.length c1] w fun e w' => e = .returned (.bool r) ∧ Drawn0 w w' := by
  have hu39 := Try.underlying39
  have HR0 := Aside0.mk hr0
  have HC0 := Aside0.mk hc0
  clear hr0 hc0
  have HR1 := Aside0.mk hr1
  have HC1 := Aside0.mk hc1
  clear hr1 hc1
  have H : (if (l0.length : Int) = (l1.length : Int) then (customsref21_SameReservations.l0 k l0 l1 0) else (some false)) = some r := h
  clear h
  by_cases c3 : (l0.length : Int) = (l1.length : Int)
  · rw [if_pos c3] at H
    have c3b0 : ((l0.length : Int) == (l1.length : Int)) = true := beq_iff_eq.mpr c3
    have c3b1 : ((l0.length : Int) != (l1.length : Int)) = false := bne_eq_false_iff_eq.mpr c3
    have c3b2 : (l0.length == l1.length) = true := by first | simpa using c3 | (simp at c3 ⊢; omega)
    clear c3
    have H' := Aside0.mk H
    clear H
    go_enter Try.func41, Try.ntmps41
    go_wp2
    repeat (go_quiet (fail); try go_wp2)
    go_loopg [5] k (fun kq v5 w' => ∃ (x5_1 : Int), v5 = .int .i64 x5_1 ∧ Aside0 (customsref21_SameReservations.l0 kq l0 l1 x5_1 = some r) ∧ Aside0 (kq ≤ k) ∧ Drawn0 w w')
    case atStart => exact ⟨(0), (by first | rfl | (simp; done) | (simp [*]; done)), H', ⟨Nat.le_refl _⟩, by repeat (first | exact Drawn0.refl _ | apply Drawn0.step)⟩
    case round =>
      clear H'
      try clear c1
      try clear p2
      try clear c3
      try clear c3b0
      try clear c3b1
      try clear c3b2
      obtain ⟨x5_1, rfl, HA, HK1, ⟨m1, rfl⟩⟩ := hrel
      cases gk with
      | zero => exact absurd HA.out (by simp [customsref21_SameReservations.l0])
      | succ k1 =>
        have H := HA.out
        clear HA
        simp only [customsref21_SameReservations.l0] at H
        by_cases c4 : x5_1 < (l0.length : Int)
        · rw [if_pos c4] at H
          have c4b0 : decide (x5_1 < (l0.length : Int)) = true := decide_eq_true c4
          clear c4
          by_cases c5 : 0 ≤ x5_1
          · rw [if_pos c5] at H
            have c5b0 : decide (0 ≤ x5_1) = true := decide_eq_true c5
            clear c5
            by_cases c6 : x5_1 < (l1.length : Int)
            · rw [if_pos c6] at H
              have c6b0 : decide (x5_1 < (l1.length : Int)) = true := decide_eq_true c6
              clear c6
              by_cases c7 : (!(((rd_T39 l0 x5_1).f0) == ((rd_T39 l1 x5_1).f0)) || (!(((rd_T39 l0 x5_1).f1) == ((rd_T39 l1 x5_1).f1)))) = true
              · rw [if_pos c7] at H
                have c7b0 : (!(((rd_T39 l0 x5_1).f0) == ((rd_T39 l1 x5_1).f0)) || (!(((rd_T39 l0 x5_1).f1) == ((rd_T39 l1 x5_1).f1)))) = true := c7
                clear c7
                obtain rfl := Option.some.inj H
                have p201 : 0 ≤ (x5_1 : Int) := of_decide_eq_true (by first | (with_reducible assumption) | assumption)
                have q201 : x5_1 < (l0.length : Int) := of_decide_eq_true (by first | (with_reducible assumption) | assumption)
                obtain ⟨ad201, e201, hx201_0, hx201_1⟩ := at_T39 HR0.out x5_1 p201 q201
                cases e201
                replace p201 := eq_true p201
                replace q201 := eq_true q201
                have p202 : 0 ≤ (x5_1 : Int) := of_decide_eq_true (by first | (with_reducible assumption) | assumption)
                have q202 : x5_1 < (l1.length : Int) := of_decide_eq_true (by first | (with_reducible assumption) | assumption)
                obtain ⟨ad202, e202, hx202_0, hx202_1⟩ := at_T39 HR1.out x5_1 p202 q202
                cases e202
                replace p202 := eq_true p202
                replace q202 := eq_true q202
                go_wp2
                repeat (go_quiet (fail); try go_wp2)
                go_ret
                exact ⟨by first | rfl | (simp; done) | (simp [*]; done), by repeat (first | exact Drawn0.refl _ | apply Drawn0.step)⟩
              · rw [if_neg c7] at H
                have c7b0 : (!(((rd_T39 l0 x5_1).f0) == ((rd_T39 l1 x5_1).f0)) || (!(((rd_T39 l0 x5_1).f1) == ((rd_T39 l1 x5_1).f1)))) = false := by simpa using c7
                clear c7
                have H' := Aside0.mk H
                clear H
                have p201 : 0 ≤ (x5_1 : Int) := of_decide_eq_true (by first | (with_reducible assumption) | assumption)
                have q201 : x5_1 < (l0.length : Int) := of_decide_eq_true (by first | (with_reducible assumption) | assumption)
                obtain ⟨ad201, e201, hx201_0, hx201_1⟩ := at_T39 HR0.out x5_1 p201 q201
                cases e201
                replace p201 := eq_true p201
                replace q201 := eq_true q201
                have p202 : 0 ≤ (x5_1 : Int) := of_decide_eq_true (by first | (with_reducible assumption) | assumption)
                have q202 : x5_1 < (l1.length : Int) := of_decide_eq_true (by first | (with_reducible assumption) | assumption)
                obtain ⟨ad202, e202, hx202_0, hx202_1⟩ := at_T39 HR1.out x5_1 p202 q202
                cases e202
                replace p202 := eq_true p202
                replace q202 := eq_true q202
                go_wp2
                repeat (go_quiet (fail); try go_wp2)
                go_roundg k1
                case measure => have := HK1.out; omega
                case rel => exact ⟨(wrap64 (x5_1 + 1)), (by first | rfl | (simp; done) | (simp [*]; done)), H', ⟨by have := HK1.out; omega⟩, by repeat (first | exact Drawn0.refl _ | apply Drawn0.step)⟩
            · rw [if_neg c6] at H
              exact absurd H (by simp)
          · rw [if_neg c5] at H
            exact absurd H (by simp)
        · rw [if_neg c4] at H
          have c4b0 : decide (x5_1 < (l0.length : Int)) = false := decide_eq_false c4
          clear c4
          obtain rfl := Option.some.inj H
          go_wp2
          repeat (go_quiet (fail); try go_wp2)
          go_ret
          exact ⟨by first | rfl | (simp; done) | (simp [*]; done), by repeat (first | exact Drawn0.refl _ | apply Drawn0.step)⟩
  · rw [if_neg c3] at H
    have c3b0 : ((l0.length : Int) == (l1.length : Int)) = false := beq_eq_false_iff_ne.mpr c3
    have c3b1 : ((l0.length : Int) != (l1.length : Int)) = true := bne_iff_ne.mpr c3
    have c3b2 : (l0.length == l1.length) = false := by first | simpa using c3 | (simp at c3 ⊢; omega)
    obtain rfl := Option.some.inj H
    go_enter Try.func41, Try.ntmps41
    go_wp2
    repeat (go_quiet (fail); try go_wp2)
    go_ret
    exact ⟨by first | rfl | (simp; done) | (simp [*]; done), by repeat (first | exact Drawn0.refl _ | apply Drawn0.step)⟩

/-! ### customsref21_SameGuarantee: function 21 -/
def customsref21_SameGuarantee.f (k : Nat) (a0_0 : Int) (a0_1 : Int) (a0_2 : Int) (l0_3 : List (S39)) (a1_0 : Int) (a1_1 : Int) (a1_2 : Int) (l1_3 : List (S39)) : Option (Bool) := if a0_0 = a1_0 then (if a0_1 = a1_1 then (if a0_2 = a1_2 then ((customsref21_SameReservations.f k l0_3 l1_3).bind fun t205 => (some t205)) else (some false)) else (some false)) else (some false)
theorem customsref21_SameGuarantee.mono : ∀ a0 a1 a2 a3 a4 a5 a6 a7 k, LeO (customsref21_SameGuarantee.f k a0 a1 a2 a3 a4 a5 a6 a7) (customsref21_SameGuarantee.f (k + 1) a0 a1 a2 a3 a4 a5 a6 a7) := by
  intro a0 a1 a2 a3 a4 a5 a6 a7 k
  unfold customsref21_SameGuarantee.f
  repeat' first
      | (with_reducible exact customsref21_SameReservations.mono _ _ _)
      | (with_reducible exact LeO.refl _)
      | (with_reducible exact LeO.none _)
      | (with_reducible refine LeO.ite ?_ ?_)
      | (with_reducible refine LeO.bind ?_ (fun _ => ?_))
      | exact customsref21_SameReservations.mono _ _ _
      | exact LeO.none _
      | refine LeO.ite ?_ ?_
      | refine LeO.bind ?_ (fun _ => ?_)
set_option maxHeartbeats 8000000 in
set_option maxRecDepth 100000 in
theorem customsref21_SameGuarantee.calls (k : Nat) (a0_0 : Int) (a0_1 : Int) (a0_2 : Int) (A0_3 : Option Addr) (c0_3 : Nat) (l0_3 : List (S39)) (a1_0 : Int) (a1_1 : Int) (a1_2 : Int) (A1_3 : Option Addr) (c1_3 : Nat) (l1_3 : List (S39)) (r : Bool) (w : World) (hr0_3 : Kd.C k39 w A0_3 l0_3.length l0_3) (hc0_3 : l0_3.length ≤ c0_3) (hr1_3 : Kd.C k39 w A1_3 l1_3.length l1_3) (hc1_3 : l1_3.length ≤ c1_3) (h : customsref21_SameGuarantee.f k a0_0 a0_1 a0_2 l0_3 a1_0 a1_1 a1_2 l1_3 = some r) :
    Calls Try.prog 21 #[.agg #[.int .i64 a0_0, .int .i64 a0_1, .int .i64 a0_2, .slice A0_3 l0_3.length c0_3], .agg #[.int .i64 a1_0, .int .i64 a1_1, .int .i64 a1_2, .slice A1_3 l1_3.length c1_3]] w fun e w' => e = .returned (.bool r) ∧ Below w.heap.size w w' := by
  have hu25 := Try.underlying25
  have HR0_3 := Aside0.mk hr0_3
  have HC0_3 := Aside0.mk hc0_3
  clear hr0_3 hc0_3
  have HR1_3 := Aside0.mk hr1_3
  have HC1_3 := Aside0.mk hc1_3
  clear hr1_3 hc1_3
  have HB := Aside0.mk (Below.refl w.heap.size w)
  have H : (if a0_0 = a1_0 then (if a0_1 = a1_1 then (if a0_2 = a1_2 then ((customsref21_SameReservations.f k l0_3 l1_3).bind fun t205 => (some t205)) else (some false)) else (some false)) else (some false)) = some r := h
  clear h
  by_cases c3 : a0_0 = a1_0
  · rw [if_pos c3] at H
    have c3b0 : (a0_0 == a1_0) = true := beq_iff_eq.mpr c3
    have c3b1 : (a0_0 != a1_0) = false := bne_eq_false_iff_eq.mpr c3
    clear c3
    by_cases c4 : a0_1 = a1_1
    · rw [if_pos c4] at H
      have c4b0 : (a0_1 == a1_1) = true := beq_iff_eq.mpr c4
      have c4b1 : (a0_1 != a1_1) = false := bne_eq_false_iff_eq.mpr c4
      clear c4
      by_cases c5 : a0_2 = a1_2
      · rw [if_pos c5] at H
        have c5b0 : (a0_2 == a1_2) = true := beq_iff_eq.mpr c5
        have c5b1 : (a0_2 != a1_2) = false := bne_eq_false_iff_eq.mpr c5
        clear c5
        replace H := Option.bind_eq_some_iff.mp H
        obtain ⟨t205, A60, H⟩ := H
        replace H : (some t205) = some r := H
        have A6 := Aside0.mk A60
        clear A60
        obtain rfl := Option.some.inj H
        go_enter Try.func21, Try.ntmps21
        go_wp2_with (first | ((with_reducible refine gate_dst (N := 2) rfl ?_); refine box_event ?hg (N := 2) ?hd (cs := #[.int .i64 a0_0, .int .i64 a0_1, .int .i64 a0_2, .slice A0_3 l0_3.length c0_3]) (t := 25) ?hr ?_; (case hd => rfl); (case hg => rfl); (case hr => first | (go_simp; done) | (go_simp; rfl)); intro gb203 hg w7 hbox hb; have n0_ := Aside0.mk (below_step (by repeat (first | (with_reducible first | exact HB.out | apply below_alloc | apply pw_below_drewN | apply below_drew1) | exact HB.out)) hb); have n1_ := Aside0.mk (hbox); have n2_ := Aside0.mk ((by rw [hg]; exact (below_size (by repeat (first | (with_reducible first | exact HB.out | apply below_alloc | apply pw_below_drewN | apply below_drew1) | exact HB.out))) : w.heap.size ≤ gb203)); have n3_ := Aside0.mk ((by rw [hg]; exact (below_size (by repeat (first | (with_reducible first | exact HB.out | apply below_alloc | apply pw_below_drewN | apply below_drew1) | exact HB.out))) : w.heap.size ≤ gb203)); clear HB; have HB := n0_; have BK203 := n1_; have GW203 := n2_; have GE203 := n3_; clear n0_ n1_ n2_ n3_; clear hb hbox hg) | ((with_reducible refine gate_dst (N := 3) rfl ?_); refine box_event ?hg (N := 3) ?hd (cs := #[.int .i64 a1_0, .int .i64 a1_1, .int .i64 a1_2, .slice A1_3 l1_3.length c1_3]) (t := 25) ?hr ?_; (case hd => rfl); (case hg => rfl); (case hr => first | (go_simp; done) | (go_simp; rfl)); intro gb204 hg w8 hbox hb; have n0_ := Aside0.mk (blk_below (g := gb203) (o := .cells #[.int .i64 a0_0, .int .i64 a0_1, .int .i64 a0_2, .slice A0_3 l0_3.length c0_3] 25 (0, 0)) (by (with_reducible repeat (first | refine blk_drewN ?_ _ | refine blk_drew ?_ | refine blk_alloc ?_ _)); exact BK203.out) hb); have n1_ := Aside0.mk (below_step (by repeat (first | (with_reducible first | exact HB.out | apply below_alloc | apply pw_below_drewN | apply below_drew1 | refine below_set ?_ GE203.out) | exact HB.out)) hb); have n2_ := Aside0.mk (hbox); have n3_ := Aside0.mk ((by rw [hg]; exact (below_size (by repeat (first | (with_reducible first | exact HB.out | apply below_alloc | apply pw_below_drewN | apply below_drew1 | refine below_set ?_ GE203.out) | exact HB.out))) : w.heap.size ≤ gb204)); have n4_ := Aside0.mk ((by rw [hg]; exact (below_size (by repeat (first | (with_reducible first | exact HB.out | apply below_alloc | apply pw_below_drewN | apply below_drew1 | refine below_set ?_ GE203.out) | exact HB.out))) : w.heap.size ≤ gb204)); have n5_ := Aside0.mk ((by rw [hg]; exact Nat.ne_of_lt (blk_lt (g := gb203) (o := .cells #[.int .i64 a0_0, .int .i64 a0_1, .int .i64 a0_2, .slice A0_3 l0_3.length c0_3] 25 (0, 0)) (by (with_reducible repeat (first | refine blk_drewN ?_ _ | refine blk_drew ?_ | refine blk_alloc ?_ _)); exact BK203.out)) : gb203 ≠ gb204)); have n6_ := Aside0.mk ((by rw [hg]; exact Nat.ne_of_gt (blk_lt (g := gb203) (o := .cells #[.int .i64 a0_0, .int .i64 a0_1, .int .i64 a0_2, .slice A0_3 l0_3.length c0_3] 25 (0, 0)) (by (with_reducible repeat (first | refine blk_drewN ?_ _ | refine blk_drew ?_ | refine blk_alloc ?_ _)); exact BK203.out)) : gb204 ≠ gb203)); clear BK203; clear HB; have BK203 := n0_; have HB := n1_; have BK204 := n2_; have GW204 := n3_; have GE204 := n4_; have NB203_204 := n5_; have NB204_203 := n6_; clear n0_ n1_ n2_ n3_ n4_ n5_ n6_; clear hb hbox hg; have hnb9 := NB203_204.out; have hnc9 := NB204_203.out; have hcz10_0 : w8.cell? ⟨gb203, 0, none⟩ = some (.int .i64 a0_0) := (blk_cell BK203.out 0).trans rfl; have hcz10_1 : w8.cell? ⟨gb203, 1, none⟩ = some (.int .i64 a0_1) := (blk_cell BK203.out 1).trans rfl; have hcz10_2 : w8.cell? ⟨gb203, 2, none⟩ = some (.int .i64 a0_2) := (blk_cell BK203.out 2).trans rfl; have hcz10_3 : w8.cell? ⟨gb203, 3, none⟩ = some (.slice A0_3 l0_3.length c0_3) := (blk_cell BK203.out 3).trans rfl; have hfz10_0 := blk_frozen BK203.out 0; have hfz10_1 := blk_frozen BK203.out 1; have hfz10_2 := blk_frozen BK203.out 2; have hfz10_3 := blk_frozen BK203.out 3; have hcz11_0 : w8.cell? ⟨gb204, 0, none⟩ = some (.int .i64 a1_0) := (blk_cell BK204.out 0).trans rfl; have hcz11_1 : w8.cell? ⟨gb204, 1, none⟩ = some (.int .i64 a1_1) := (blk_cell BK204.out 1).trans rfl; have hcz11_2 : w8.cell? ⟨gb204, 2, none⟩ = some (.int .i64 a1_2) := (blk_cell BK204.out 2).trans rfl; have hcz11_3 : w8.cell? ⟨gb204, 3, none⟩ = some (.slice A1_3 l1_3.length c1_3) := (blk_cell BK204.out 3).trans rfl; have hfz11_0 := blk_frozen BK204.out 0; have hfz11_1 := blk_frozen BK204.out 1; have hfz11_2 := blk_frozen BK204.out 2; have hfz11_3 := blk_frozen BK204.out 3) | (go_at_call 41; (with_reducible refine (customsref21_SameReservations.calls k _ _ l0_3 _ _ l1_3 t205 _ ?side1 ?side2 ?side3 ?side4 A6.out).mono ?_); (case side1 => repeat (first | exact (Kd.C_below HR0_3.out HB.out) | (with_reducible refine Kd.C_alloc ?_ _) | (with_reducible refine Kd.C_drewN ?_ _) | (with_reducible refine Kd.C_drew ?_))); (case side2 => exact HC0_3.out); (case side3 => repeat (first | exact (Kd.C_below HR1_3.out HB.out) | (with_reducible refine Kd.C_alloc ?_ _) | (with_reducible refine Kd.C_drewN ?_ _) | (with_reducible refine Kd.C_drew ?_))); (case side4 => exact HC1_3.out); rintro e w' ⟨rfl, ⟨nd, rfl⟩⟩))
        go_ret
        exact ⟨by first | rfl | (simp [errW_none, errW_some] <;> rfl) | (simp [*, errW_none, errW_some] <;> rfl), by repeat (first | (with_reducible first | exact HB.out | apply below_alloc | apply pw_below_drewN | apply below_drew1 | refine below_set ?_ GE203.out | refine below_set ?_ GE204.out) | exact HB.out)⟩
      · rw [if_neg c5] at H
        have c5b0 : (a0_2 == a1_2) = false := beq_eq_false_iff_ne.mpr c5
        have c5b1 : (a0_2 != a1_2) = true := bne_iff_ne.mpr c5
        obtain rfl := Option.some.inj H
        go_enter Try.func21, Try.ntmps21
        go_wp2_with (first | ((with_reducible refine gate_dst (N := 2) rfl ?_); refine box_event ?hg (N := 2) ?hd (cs := #[.int .i64 a0_0, .int .i64 a0_1, .int .i64 a0_2, .slice A0_3 l0_3.length c0_3]) (t := 25) ?hr ?_; (case hd => rfl); (case hg => rfl); (case hr => first | (go_simp; done) | (go_simp; rfl)); intro gb203 hg w12 hbox hb; have n0_ := Aside0.mk (below_step (by repeat (first | (with_reducible first | exact HB.out | apply below_alloc | apply pw_below_drewN | apply below_drew1) | exact HB.out)) hb); have n1_ := Aside0.mk (hbox); have n2_ := Aside0.mk ((by rw [hg]; exact (below_size (by repeat (first | (with_reducible first | exact HB.out | apply below_alloc | apply pw_below_drewN | apply below_drew1) | exact HB.out))) : w.heap.size ≤ gb203)); have n3_ := Aside0.mk ((by rw [hg]; exact (below_size (by repeat (first | (with_reducible first | exact HB.out | apply below_alloc | apply pw_below_drewN | apply below_drew1) | exact HB.out))) : w.heap.size ≤ gb203)); clear HB; have HB := n0_; have BK203 := n1_; have GW203 := n2_; have GE203 := n3_; clear n0_ n1_ n2_ n3_; clear hb hbox hg) | ((with_reducible refine gate_dst (N := 3) rfl ?_); refine box_event ?hg (N := 3) ?hd (cs := #[.int .i64 a1_0, .int .i64 a1_1, .int .i64 a1_2, .slice A1_3 l1_3.length c1_3]) (t := 25) ?hr ?_; (case hd => rfl); (case hg => rfl); (case hr => first | (go_simp; done) | (go_simp; rfl)); intro gb204 hg w13 hbox hb; have n0_ := Aside0.mk (blk_below (g := gb203) (o := .cells #[.int .i64 a0_0, .int .i64 a0_1, .int .i64 a0_2, .slice A0_3 l0_3.length c0_3] 25 (0, 0)) (by (with_reducible repeat (first | refine blk_drewN ?_ _ | refine blk_drew ?_ | refine blk_alloc ?_ _)); exact BK203.out) hb); have n1_ := Aside0.mk (below_step (by repeat (first | (with_reducible first | exact HB.out | apply below_alloc | apply pw_below_drewN | apply below_drew1 | refine below_set ?_ GE203.out) | exact HB.out)) hb); have n2_ := Aside0.mk (hbox); have n3_ := Aside0.mk ((by rw [hg]; exact (below_size (by repeat (first | (with_reducible first | exact HB.out | apply below_alloc | apply pw_below_drewN | apply below_drew1 | refine below_set ?_ GE203.out) | exact HB.out))) : w.heap.size ≤ gb204)); have n4_ := Aside0.mk ((by rw [hg]; exact (below_size (by repeat (first | (with_reducible first | exact HB.out | apply below_alloc | apply pw_below_drewN | apply below_drew1 | refine below_set ?_ GE203.out) | exact HB.out))) : w.heap.size ≤ gb204)); have n5_ := Aside0.mk ((by rw [hg]; exact Nat.ne_of_lt (blk_lt (g := gb203) (o := .cells #[.int .i64 a0_0, .int .i64 a0_1, .int .i64 a0_2, .slice A0_3 l0_3.length c0_3] 25 (0, 0)) (by (with_reducible repeat (first | refine blk_drewN ?_ _ | refine blk_drew ?_ | refine blk_alloc ?_ _)); exact BK203.out)) : gb203 ≠ gb204)); have n6_ := Aside0.mk ((by rw [hg]; exact Nat.ne_of_gt (blk_lt (g := gb203) (o := .cells #[.int .i64 a0_0, .int .i64 a0_1, .int .i64 a0_2, .slice A0_3 l0_3.length c0_3] 25 (0, 0)) (by (with_reducible repeat (first | refine blk_drewN ?_ _ | refine blk_drew ?_ | refine blk_alloc ?_ _)); exact BK203.out)) : gb204 ≠ gb203)); clear BK203; clear HB; have BK203 := n0_; have HB := n1_; have BK204 := n2_; have GW204 := n3_; have GE204 := n4_; have NB203_204 := n5_; have NB204_203 := n6_; clear n0_ n1_ n2_ n3_ n4_ n5_ n6_; clear hb hbox hg; have hnb14 := NB203_204.out; have hnc14 := NB204_203.out; have hcz15_0 : w13.cell? ⟨gb203, 0, none⟩ = some (.int .i64 a0_0) := (blk_cell BK203.out 0).trans rfl; have hcz15_1 : w13.cell? ⟨gb203, 1, none⟩ = some (.int .i64 a0_1) := (blk_cell BK203.out 1).trans rfl; have hcz15_2 : w13.cell? ⟨gb203, 2, none⟩ = some (.int .i64 a0_2) := (blk_cell BK203.out 2).trans rfl; have hcz15_3 : w13.cell? ⟨gb203, 3, none⟩ = some (.slice A0_3 l0_3.length c0_3) := (blk_cell BK203.out 3).trans rfl; have hfz15_0 := blk_frozen BK203.out 0; have hfz15_1 := blk_frozen BK203.out 1; have hfz15_2 := blk_frozen BK203.out 2; have hfz15_3 := blk_frozen BK203.out 3; have hcz16_0 : w13.cell? ⟨gb204, 0, none⟩ = some (.int .i64 a1_0) := (blk_cell BK204.out 0).trans rfl; have hcz16_1 : w13.cell? ⟨gb204, 1, none⟩ = some (.int .i64 a1_1) := (blk_cell BK204.out 1).trans rfl; have hcz16_2 : w13.cell? ⟨gb204, 2, none⟩ = some (.int .i64 a1_2) := (blk_cell BK204.out 2).trans rfl; have hcz16_3 : w13.cell? ⟨gb204, 3, none⟩ = some (.slice A1_3 l1_3.length c1_3) := (blk_cell BK204.out 3).trans rfl; have hfz16_0 := blk_frozen BK204.out 0; have hfz16_1 := blk_frozen BK204.out 1; have hfz16_2 := blk_frozen BK204.out 2; have hfz16_3 := blk_frozen BK204.out 3))
        go_ret
        exact ⟨by first | rfl | (simp [errW_none, errW_some] <;> rfl) | (simp [*, errW_none, errW_some] <;> rfl), by repeat (first | (with_reducible first | exact HB.out | apply below_alloc | apply pw_below_drewN | apply below_drew1 | refine below_set ?_ GE203.out | refine below_set ?_ GE204.out) | exact HB.out)⟩
    · rw [if_neg c4] at H
      have c4b0 : (a0_1 == a1_1) = false := beq_eq_false_iff_ne.mpr c4
      have c4b1 : (a0_1 != a1_1) = true := bne_iff_ne.mpr c4
      obtain rfl := Option.some.inj H
      go_enter Try.func21, Try.ntmps21
      go_wp2_with (first | ((with_reducible refine gate_dst (N := 2) rfl ?_); refine box_event ?hg (N := 2) ?hd (cs := #[.int .i64 a0_0, .int .i64 a0_1, .int .i64 a0_2, .slice A0_3 l0_3.length c0_3]) (t := 25) ?hr ?_; (case hd => rfl); (case hg => rfl); (case hr => first | (go_simp; done) | (go_simp; rfl)); intro gb203 hg w17 hbox hb; have n0_ := Aside0.mk (below_step (by repeat (first | (with_reducible first | exact HB.out | apply below_alloc | apply pw_below_drewN | apply below_drew1) | exact HB.out)) hb); have n1_ := Aside0.mk (hbox); have n2_ := Aside0.mk ((by rw [hg]; exact (below_size (by repeat (first | (with_reducible first | exact HB.out | apply below_alloc | apply pw_below_drewN | apply below_drew1) | exact HB.out))) : w.heap.size ≤ gb203)); have n3_ := Aside0.mk ((by rw [hg]; exact (below_size (by repeat (first | (with_reducible first | exact HB.out | apply below_alloc | apply pw_below_drewN | apply below_drew1) | exact HB.out))) : w.heap.size ≤ gb203)); clear HB; have HB := n0_; have BK203 := n1_; have GW203 := n2_; have GE203 := n3_; clear n0_ n1_ n2_ n3_; clear hb hbox hg) | ((with_reducible refine gate_dst (N := 3) rfl ?_); refine box_event ?hg (N := 3) ?hd (cs := #[.int .i64 a1_0, .int .i64 a1_1, .int .i64 a1_2, .slice A1_3 l1_3.length c1_3]) (t := 25) ?hr ?_; (case hd => rfl); (case hg => rfl); (case hr => first | (go_simp; done) | (go_simp; rfl)); intro gb204 hg w18 hbox hb; have n0_ := Aside0.mk (blk_below (g := gb203) (o := .cells #[.int .i64 a0_0, .int .i64 a0_1, .int .i64 a0_2, .slice A0_3 l0_3.length c0_3] 25 (0, 0)) (by (with_reducible repeat (first | refine blk_drewN ?_ _ | refine blk_drew ?_ | refine blk_alloc ?_ _)); exact BK203.out) hb); have n1_ := Aside0.mk (below_step (by repeat (first | (with_reducible first | exact HB.out | apply below_alloc | apply pw_below_drewN | apply below_drew1 | refine below_set ?_ GE203.out) | exact HB.out)) hb); have n2_ := Aside0.mk (hbox); have n3_ := Aside0.mk ((by rw [hg]; exact (below_size (by repeat (first | (with_reducible first | exact HB.out | apply below_alloc | apply pw_below_drewN | apply below_drew1 | refine below_set ?_ GE203.out) | exact HB.out))) : w.heap.size ≤ gb204)); have n4_ := Aside0.mk ((by rw [hg]; exact (below_size (by repeat (first | (with_reducible first | exact HB.out | apply below_alloc | apply pw_below_drewN | apply below_drew1 | refine below_set ?_ GE203.out) | exact HB.out))) : w.heap.size ≤ gb204)); have n5_ := Aside0.mk ((by rw [hg]; exact Nat.ne_of_lt (blk_lt (g := gb203) (o := .cells #[.int .i64 a0_0, .int .i64 a0_1, .int .i64 a0_2, .slice A0_3 l0_3.length c0_3] 25 (0, 0)) (by (with_reducible repeat (first | refine blk_drewN ?_ _ | refine blk_drew ?_ | refine blk_alloc ?_ _)); exact BK203.out)) : gb203 ≠ gb204)); have n6_ := Aside0.mk ((by rw [hg]; exact Nat.ne_of_gt (blk_lt (g := gb203) (o := .cells #[.int .i64 a0_0, .int .i64 a0_1, .int .i64 a0_2, .slice A0_3 l0_3.length c0_3] 25 (0, 0)) (by (with_reducible repeat (first | refine blk_drewN ?_ _ | refine blk_drew ?_ | refine blk_alloc ?_ _)); exact BK203.out)) : gb204 ≠ gb203)); clear BK203; clear HB; have BK203 := n0_; have HB := n1_; have BK204 := n2_; have GW204 := n3_; have GE204 := n4_; have NB203_204 := n5_; have NB204_203 := n6_; clear n0_ n1_ n2_ n3_ n4_ n5_ n6_; clear hb hbox hg; have hnb19 := NB203_204.out; have hnc19 := NB204_203.out; have hcz20_0 : w18.cell? ⟨gb203, 0, none⟩ = some (.int .i64 a0_0) := (blk_cell BK203.out 0).trans rfl; have hcz20_1 : w18.cell? ⟨gb203, 1, none⟩ = some (.int .i64 a0_1) := (blk_cell BK203.out 1).trans rfl; have hcz20_2 : w18.cell? ⟨gb203, 2, none⟩ = some (.int .i64 a0_2) := (blk_cell BK203.out 2).trans rfl; have hcz20_3 : w18.cell? ⟨gb203, 3, none⟩ = some (.slice A0_3 l0_3.length c0_3) := (blk_cell BK203.out 3).trans rfl; have hfz20_0 := blk_frozen BK203.out 0; have hfz20_1 := blk_frozen BK203.out 1; have hfz20_2 := blk_frozen BK203.out 2; have hfz20_3 := blk_frozen BK203.out 3; have hcz21_0 : w18.cell? ⟨gb204, 0, none⟩ = some (.int .i64 a1_0) := (blk_cell BK204.out 0).trans rfl; have hcz21_1 : w18.cell? ⟨gb204, 1, none⟩ = some (.int .i64 a1_1) := (blk_cell BK204.out 1).trans rfl; have hcz21_2 : w18.cell? ⟨gb204, 2, none⟩ = some (.int .i64 a1_2) := (blk_cell BK204.out 2).trans rfl; have hcz21_3 : w18.cell? ⟨gb204, 3, none⟩ = some (.slice A1_3 l1_3.length c1_3) := (blk_cell BK204.out 3).trans rfl; have hfz21_0 := blk_frozen BK204.out 0; have hfz21_1 := blk_frozen BK204.out 1; have hfz21_2 := blk_frozen BK204.out 2; have hfz21_3 := blk_frozen BK204.out 3))
      go_ret
      exact ⟨by first | rfl | (simp [errW_none, errW_some] <;> rfl) | (simp [*, errW_none, errW_some] <;> rfl), by repeat (first | (with_reducible first | exact HB.out | apply below_alloc | apply pw_below_drewN | apply below_drew1 | refine below_set ?_ GE203.out | refine below_set ?_ GE204.out) | exact HB.out)⟩
  · rw [if_neg c3] at H
    have c3b0 : (a0_0 == a1_0) = false := beq_eq_false_iff_ne.mpr c3
    have c3b1 : (a0_0 != a1_0) = true := bne_iff_ne.mpr c3
    obtain rfl := Option.some.inj H
    go_enter Try.func21, Try.ntmps21
    go_wp2_with (first | ((with_reducible refine gate_dst (N := 2) rfl ?_); refine box_event ?hg (N := 2) ?hd (cs := #[.int .i64 a0_0, .int .i64 a0_1, .int .i64 a0_2, .slice A0_3 l0_3.length c0_3]) (t := 25) ?hr ?_; (case hd => rfl); (case hg => rfl); (case hr => first | (go_simp; done) | (go_simp; rfl)); intro gb203 hg w22 hbox hb; have n0_ := Aside0.mk (below_step (by repeat (first | (with_reducible first | exact HB.out | apply below_alloc | apply pw_below_drewN | apply below_drew1) | exact HB.out)) hb); have n1_ := Aside0.mk (hbox); have n2_ := Aside0.mk ((by rw [hg]; exact (below_size (by repeat (first | (with_reducible first | exact HB.out | apply below_alloc | apply pw_below_drewN | apply below_drew1) | exact HB.out))) : w.heap.size ≤ gb203)); have n3_ := Aside0.mk ((by rw [hg]; exact (below_size (by repeat (first | (with_reducible first | exact HB.out | apply below_alloc | apply pw_below_drewN | apply below_drew1) | exact HB.out))) : w.heap.size ≤ gb203)); clear HB; have HB := n0_; have BK203 := n1_; have GW203 := n2_; have GE203 := n3_; clear n0_ n1_ n2_ n3_; clear hb hbox hg) | ((with_reducible refine gate_dst (N := 3) rfl ?_); refine box_event ?hg (N := 3) ?hd (cs := #[.int .i64 a1_0, .int .i64 a1_1, .int .i64 a1_2, .slice A1_3 l1_3.length c1_3]) (t := 25) ?hr ?_; (case hd => rfl); (case hg => rfl); (case hr => first | (go_simp; done) | (go_simp; rfl)); intro gb204 hg w23 hbox hb; have n0_ := Aside0.mk (blk_below (g := gb203) (o := .cells #[.int .i64 a0_0, .int .i64 a0_1, .int .i64 a0_2, .slice A0_3 l0_3.length c0_3] 25 (0, 0)) (by (with_reducible repeat (first | refine blk_drewN ?_ _ | refine blk_drew ?_ | refine blk_alloc ?_ _)); exact BK203.out) hb); have n1_ := Aside0.mk (below_step (by repeat (first | (with_reducible first | exact HB.out | apply below_alloc | apply pw_below_drewN | apply below_drew1 | refine below_set ?_ GE203.out) | exact HB.out)) hb); have n2_ := Aside0.mk (hbox); have n3_ := Aside0.mk ((by rw [hg]; exact (below_size (by repeat (first | (with_reducible first | exact HB.out | apply below_alloc | apply pw_below_drewN | apply below_drew1 | refine below_set ?_ GE203.out) | exact HB.out))) : w.heap.size ≤ gb204)); have n4_ := Aside0.mk ((by rw [hg]; exact (below_size (by repeat (first | (with_reducible first | exact HB.out | apply below_alloc | apply pw_below_drewN | apply below_drew1 | refine below_set ?_ GE203.out) | exact HB.out))) : w.heap.size ≤ gb204)); have n5_ := Aside0.mk ((by rw [hg]; exact Nat.ne_of_lt (blk_lt (g := gb203) (o := .cells #[.int .i64 a0_0, .int .i64 a0_1, .int .i64 a0_2, .slice A0_3 l0_3.length c0_3] 25 (0, 0)) (by (with_reducible repeat (first | refine blk_drewN ?_ _ | refine blk_drew ?_ | refine blk_alloc ?_ _)); exact BK203.out)) : gb203 ≠ gb204)); have n6_ := Aside0.mk ((by rw [hg]; exact Nat.ne_of_gt (blk_lt (g := gb203) (o := .cells #[.int .i64 a0_0, .int .i64 a0_1, .int .i64 a0_2, .slice A0_3 l0_3.length c0_3] 25 (0, 0)) (by (with_reducible repeat (first | refine blk_drewN ?_ _ | refine blk_drew ?_ | refine blk_alloc ?_ _)); exact BK203.out)) : gb204 ≠ gb203)); clear BK203; clear HB; have BK203 := n0_; have HB := n1_; have BK204 := n2_; have GW204 := n3_; have GE204 := n4_; have NB203_204 := n5_; have NB204_203 := n6_; clear n0_ n1_ n2_ n3_ n4_ n5_ n6_; clear hb hbox hg; have hnb24 := NB203_204.out; have hnc24 := NB204_203.out; have hcz25_0 : w23.cell? ⟨gb203, 0, none⟩ = some (.int .i64 a0_0) := (blk_cell BK203.out 0).trans rfl; have hcz25_1 : w23.cell? ⟨gb203, 1, none⟩ = some (.int .i64 a0_1) := (blk_cell BK203.out 1).trans rfl; have hcz25_2 : w23.cell? ⟨gb203, 2, none⟩ = some (.int .i64 a0_2) := (blk_cell BK203.out 2).trans rfl; have hcz25_3 : w23.cell? ⟨gb203, 3, none⟩ = some (.slice A0_3 l0_3.length c0_3) := (blk_cell BK203.out 3).trans rfl; have hfz25_0 := blk_frozen BK203.out 0; have hfz25_1 := blk_frozen BK203.out 1; have hfz25_2 := blk_frozen BK203.out 2; have hfz25_3 := blk_frozen BK203.out 3; have hcz26_0 : w23.cell? ⟨gb204, 0, none⟩ = some (.int .i64 a1_0) := (blk_cell BK204.out 0).trans rfl; have hcz26_1 : w23.cell? ⟨gb204, 1, none⟩ = some (.int .i64 a1_1) := (blk_cell BK204.out 1).trans rfl; have hcz26_2 : w23.cell? ⟨gb204, 2, none⟩ = some (.int .i64 a1_2) := (blk_cell BK204.out 2).trans rfl; have hcz26_3 : w23.cell? ⟨gb204, 3, none⟩ = some (.slice A1_3 l1_3.length c1_3) := (blk_cell BK204.out 3).trans rfl; have hfz26_0 := blk_frozen BK204.out 0; have hfz26_1 := blk_frozen BK204.out 1; have hfz26_2 := blk_frozen BK204.out 2; have hfz26_3 := blk_frozen BK204.out 3))
    go_ret
    exact ⟨by first | rfl | (simp [errW_none, errW_some] <;> rfl) | (simp [*, errW_none, errW_some] <;> rfl), by repeat (first | (with_reducible first | exact HB.out | apply below_alloc | apply pw_below_drewN | apply below_drew1 | refine below_set ?_ GE203.out | refine below_set ?_ GE204.out) | exact HB.out)⟩

/-! ### customsref21_without: function 42 -/
def customsref21_without.l0 : Nat → List (S39) → Int → List (S39) → Int → Int → Option ((List (S39)) × Int)
  | 0, _, _, _, _, _ => none
  | k + 1, x0, x1, x6, x7, x8 => if x8 < (x0.length : Int) then (if 0 ≤ x8 then (if ((rd_T39 x0 x8).f0) = x1 then (customsref21_without.l0 k x0 x1 x6 ((rd_T39 x0 x8).f1) (wrap64 (x8 + 1))) else (if x6.length < 8796093022208 then (customsref21_without.l0 k x0 x1 (x6 ++ [(⟨(rd_T39 x0 x8).f0, (rd_T39 x0 x8).f1⟩ : S39)]) x7 (wrap64 (x8 + 1))) else (none))) else (none)) else (some (x6, x7))
def customsref21_without.f (k : Nat) (l0 : List (S39)) (a1 : Int) : Option ((List (S39)) × Int) := customsref21_without.l0 k l0 a1 ([] : List (S39)) (-1) 0
theorem customsref21_without.mono_l : ∀ k, (∀ y0 y1 y2 y3 y4, LeO (customsref21_without.l0 k y0 y1 y2 y3 y4) (customsref21_without.l0 (k + 1) y0 y1 y2 y3 y4))
  | 0 => fun _ _ _ _ _ r h => by simp [customsref21_without.l0] at h
  | k + 1 => by
    have ih0 := customsref21_without.mono_l k
    · intro y0 y1 y2 y3 y4
      unfold customsref21_without.l0
      repeat' first
      | (with_reducible exact ih0 _ _ _ _ _)
      | (with_reducible exact LeO.refl _)
      | (with_reducible exact LeO.none _)
      | (with_reducible refine LeO.ite ?_ ?_)
      | (with_reducible refine LeO.bind ?_ (fun _ => ?_))
      | exact ih0 _ _ _ _ _
      | exact LeO.none _
      | refine LeO.ite ?_ ?_
      | refine LeO.bind ?_ (fun _ => ?_)
theorem customsref21_without.mono : ∀ a0 a1 k, LeO (customsref21_without.f k a0 a1) (customsref21_without.f (k + 1) a0 a1) := by
  intro a0 a1 k
  have ih0 := customsref21_without.mono_l k
  unfold customsref21_without.f
  repeat' first
      | (with_reducible exact ih0 _ _ _ _ _)
      | (with_reducible exact LeO.refl _)
      | (with_reducible exact LeO.none _)
      | (with_reducible refine LeO.ite ?_ ?_)
      | (with_reducible refine LeO.bind ?_ (fun _ => ?_))
      | exact ih0 _ _ _ _ _
      | exact LeO.none _
      | refine LeO.ite ?_ ?_
      | refine LeO.bind ?_ (fun _ => ?_)
set_option maxHeartbeats 8000000 in
set_option maxRecDepth 100000 in
theorem customsref21_without.calls (k : Nat) (A0 : Option Addr) (c0 : Nat) (l0 : List (S39)) (a1 : Int) (r1 : List (S39)) (r2 : Int) (w : World) (hr0 : Kd.C k39 w A0 l0.length l0) (hc0 : l0.length ≤ c0) (h : customsref21_without.f k l0 a1 = some (r1, r2)) :
    Calls Try.prog 42 #[.slice A0 l0.length c0, .int .i64 a1] w fun e w' => ∃ v0_ : Value, e = .returned (.tuple #[v0_, .int .i64 r2]) ∧ Kd.R k39 39 w' w.heap.size (fun _ => True) v0_ r1 ∧ Below w.heap.size w w' := by
  have hu39 := Try.underlying39
  have HR0 := Aside0.mk hr0
  have HC0 := Aside0.mk hc0
  clear hr0 hc0
  have HB := Aside0.mk (Below.refl w.heap.size w)
  have H : (customsref21_without.l0 k l0 a1 ([] : List (S39)) (-1) 0) = some (r1, r2) := h
  clear h
  have H' := Aside0.mk H
  clear H
  go_enter Try.func42, Try.ntmps42
  go_wp2
  go_loopg [6, 7, 8] k (fun kq v6 v7 v8 w' => ∃ (x6_1 : List (S39)) (x7_1 : Int) (x8_1 : Int), v7 = .int .i64 x7_1 ∧ v8 = .int .i64 x8_1 ∧ Aside0 (customsref21_without.l0 kq l0 a1 x6_1 x7_1 x8_1 = some (r1, r2)) ∧ Aside0 (kq ≤ k) ∧ Aside0 (Kd.R k39 39 w' w.heap.size (fun _ => True) v6 x6_1) ∧ Aside0 (Below w.heap.size w w'))
  case atStart => exact ⟨(([] : List (S39))), ((-1)), (0), (by first | rfl | (simp; done) | (simp [*]; done)), (by first | rfl | (simp; done) | (simp [*]; done)), H', ⟨Nat.le_refl _⟩, ⟨by first | exact Kd.R_nil _ _ _ _ _ | exact Kd.N_nil _ _ _ _ _ | exact Kd.V_nil _ _ _ _ _ | exact Kd.Q_nil _ _ _ _ _ | exact Kd.S_nil _ _ _ _ _⟩, ⟨by repeat (first | (with_reducible first | exact HB.out | apply below_alloc | apply pw_below_drewN | apply below_drew1) | exact HB.out)⟩⟩
  case round =>
    clear H'
    try clear p2
    obtain ⟨x6_1, x7_1, x8_1, rfl, rfl, HA, HK1, HO_6, HB⟩ := hrel
    cases gk with
    | zero => exact absurd HA.out (by simp [customsref21_without.l0])
    | succ k1 =>
      have H := HA.out
      clear HA
      simp only [customsref21_without.l0] at H
      by_cases c3 : x8_1 < (l0.length : Int)
      · rw [if_pos c3] at H
        have c3b0 : decide (x8_1 < (l0.length : Int)) = true := decide_eq_true c3
        clear c3
        by_cases c4 : 0 ≤ x8_1
        · rw [if_pos c4] at H
          have c4b0 : decide (0 ≤ x8_1) = true := decide_eq_true c4
          clear c4
          by_cases c5 : ((rd_T39 l0 x8_1).f0) = a1
          · rw [if_pos c5] at H
            have c5b0 : (((rd_T39 l0 x8_1).f0) == a1) = true := beq_iff_eq.mpr c5
            have c5b1 : (((rd_T39 l0 x8_1).f0) != a1) = false := bne_eq_false_iff_eq.mpr c5
            clear c5
            have H' := Aside0.mk H
            clear H
            have p206 : 0 ≤ (x8_1 : Int) := of_decide_eq_true (by first | (with_reducible assumption) | assumption)
            have q206 : x8_1 < (l0.length : Int) := of_decide_eq_true (by first | (with_reducible assumption) | assumption)
            obtain ⟨ad206, e206, hx206_0, hx206_1⟩ := at_T39 HR0.out x8_1 p206 q206
            cases e206
            replace hx206_0 := (HB.out.cell (World.block_lt_of_cell? w _ hx206_0)).trans hx206_0
            replace hx206_1 := (HB.out.cell (World.block_lt_of_cell? w _ hx206_1)).trans hx206_1
            replace p206 := eq_true p206
            replace q206 := eq_true q206
            have p207 : 0 ≤ (x8_1 : Int) := of_decide_eq_true (by first | (with_reducible assumption) | assumption)
            have q207 : x8_1 < (l0.length : Int) := of_decide_eq_true (by first | (with_reducible assumption) | assumption)
            obtain ⟨ad207, e207, hx207_0, hx207_1⟩ := at_T39 HR0.out x8_1 p207 q207
            obtain rfl : ad206 = ad207 := (by injection e207)
            replace hx207_0 := (HB.out.cell (World.block_lt_of_cell? w _ hx207_0)).trans hx207_0
            replace hx207_1 := (HB.out.cell (World.block_lt_of_cell? w _ hx207_1)).trans hx207_1
            replace p207 := eq_true p207
            replace q207 := eq_true q207
            go_wp2
            go_roundg k1
            case measure => have := HK1.out; omega
            case rel => exact ⟨(x6_1), ((rd_T39 l0 x8_1).f1), (wrap64 (x8_1 + 1)), (by first | rfl | (simp; done) | (simp [*]; done)), (by first | rfl | (simp; done) | (simp [*]; done)), H', ⟨by have := HK1.out; omega⟩, ⟨by (with_reducible repeat (first | apply Kd.R_alloc | apply Kd.R_drewN | apply Kd.R_drew)); exact HO_6.out⟩, ⟨by repeat (first | (with_reducible first | exact HB.out | apply below_alloc | apply pw_below_drewN | apply below_drew1) | exact HB.out)⟩⟩
          · rw [if_neg c5] at H
            have c5b0 : (((rd_T39 l0 x8_1).f0) == a1) = false := beq_eq_false_iff_ne.mpr c5
            have c5b1 : (((rd_T39 l0 x8_1).f0) != a1) = true := bne_iff_ne.mpr c5
            by_cases c6 : x6_1.length < 8796093022208
            · rw [if_pos c6] at H
              have LMc6 := Aside0.mk c6
              clear c6
              obtain ⟨y209, hy209⟩ : ∃ y_ : List (S39), y_ = (x6_1 ++ [(⟨(rd_T39 l0 x8_1).f0, (rd_T39 l0 x8_1).f1⟩ : S39)]) := ⟨_, rfl⟩
              replace H : (customsref21_without.l0 k1 l0 a1 y209 x7_1 (wrap64 (x8_1 + 1))) = some (r1, r2) := by first | (rw [hy209]; with_reducible exact H) | (have H2_ := (Option.bind_some _ _).symm.trans H; rw [hy209]; with_reducible exact H2_) | (have H2_ := (Option.bind_some _ _).symm.trans H; with_reducible exact H2_) | with_reducible exact H | (rw [hy209]; exact H) | exact H
              have Ny209 := Aside0.mk hy209
              clear hy209
              have H' := Aside0.mk H
              clear H
              have p206 : 0 ≤ (x8_1 : Int) := of_decide_eq_true (by first | (with_reducible assumption) | assumption)
              have q206 : x8_1 < (l0.length : Int) := of_decide_eq_true (by first | (with_reducible assumption) | assumption)
              obtain ⟨ad206, e206, hx206_0, hx206_1⟩ := at_T39 HR0.out x8_1 p206 q206
              cases e206
              replace hx206_0 := (HB.out.cell (World.block_lt_of_cell? w _ hx206_0)).trans hx206_0
              replace hx206_1 := (HB.out.cell (World.block_lt_of_cell? w _ hx206_1)).trans hx206_1
              replace p206 := eq_true p206
              replace q206 := eq_true q206
              have p208 : 0 ≤ (x8_1 : Int) := of_decide_eq_true (by first | (with_reducible assumption) | assumption)
              have q208 : x8_1 < (l0.length : Int) := of_decide_eq_true (by first | (with_reducible assumption) | assumption)
              obtain ⟨ad208, e208, hx208_0, hx208_1⟩ := at_T39 HR0.out x8_1 p208 q208
              obtain rfl : ad206 = ad208 := (by injection e208)
              replace hx208_0 := (HB.out.cell (World.block_lt_of_cell? w _ hx208_0)).trans hx208_0
              replace hx208_1 := (HB.out.cell (World.block_lt_of_cell? w _ hx208_1)).trans hx208_1
              replace p208 := eq_true p208
              replace q208 := eq_true q208
              go_wp2_with (first | ((with_reducible refine gate_builtin (b := .append) (xs := #[.tmp 27, .tmp 32]) rfl ?_); at_builtin; refine Kd.R_append k39 (w0 := w) w.heap.size rfl (.tmp 27) (.tmp 32) 23 39 (.agg #[(.int .i64 0), (.int .i64 0)]) 16 rfl Try.underlying23 info39 rfl (by decide) (by omega) u6 x6_1 (⟨(rd_T39 l0 x8_1).f0, (rd_T39 l0 x8_1).f1⟩ : S39) [.int .i64 ((rd_T39 l0 x8_1).f0), .int .i64 ((rd_T39 l0 x8_1).f1)] (fun _ => True) (fun _ => False) rfl rfl ?aP (fun _ hk => hk.elim) ?aF ?aO ?aB ?aS ?aL ?_; (case aP => exact k39_mkM _ _ _ (⟨(rd_T39 l0 x8_1).f0, (rd_T39 l0 x8_1).f1⟩ : S39)); (case aB => exact (by repeat (first | (with_reducible first | exact HB.out | apply below_alloc | apply pw_below_drewN | apply below_drew1) | exact HB.out))); (case aF => exact (fun _ _ => trivial)); (case aO => exact (by (with_reducible repeat (first | apply Kd.R_alloc | apply Kd.R_drewN | apply Kd.R_drew)); exact HO_6.out)); (case aS => exact (below_size (by repeat (first | (with_reducible first | exact HB.out | apply below_alloc | apply pw_below_drewN | apply below_drew1) | exact HB.out)))); (case aL => have := LMc6.out; omega); intro v210 w7 ho hb hg hat; rw [← Ny209.out] at ho; have n0_ := Aside0.mk (hb); have n1_ := Aside0.mk (ho); clear HB; clear HO_6; have HB := n0_; have HO211 := n1_; clear n0_ n1_; clear ho hb hg hat))
              go_roundg k1
              case measure => have := HK1.out; omega
              case rel => exact ⟨(y209), (x7_1), (wrap64 (x8_1 + 1)), (by first | rfl | (simp; done) | (simp [*]; done)), (by first | rfl | (simp; done) | (simp [*]; done)), H', ⟨by have := HK1.out; omega⟩, ⟨by (with_reducible repeat (first | apply Kd.R_alloc | apply Kd.R_drewN | apply Kd.R_drew)); exact HO211.out⟩, ⟨by repeat (first | (with_reducible first | exact HB.out | apply below_alloc | apply pw_below_drewN | apply below_drew1) | exact HB.out)⟩⟩
            · rw [if_neg c6] at H
              exact absurd H (by simp)
        · rw [if_neg c4] at H
          exact absurd H (by simp)
      · rw [if_neg c3] at H
        have c3b0 : decide (x8_1 < (l0.length : Int)) = false := decide_eq_false c3
        clear c3
        simp only [Option.some.injEq, Prod.mk.injEq] at H
        obtain ⟨rfl, rfl⟩ := H
        go_wp2
        go_ret2
        exact ⟨_, by first | rfl | (simp [errW_none, errW_some] <;> rfl) | (simp [*, errW_none, errW_some] <;> rfl), by (with_reducible repeat (first | apply Kd.R_alloc | apply Kd.R_drewN | apply Kd.R_drew)); exact HO_6.out, by repeat (first | (with_reducible first | exact HB.out | apply below_alloc | apply pw_below_drewN | apply below_drew1) | exact HB.out)⟩

end Go.Proofs.Ytakhjhiofmgpnaa.PA
