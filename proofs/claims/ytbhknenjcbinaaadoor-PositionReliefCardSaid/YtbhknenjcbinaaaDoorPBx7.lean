-- Written by a program of this claim (wip/tools: mkprint.py, pr.sh) out of the translation: plain functions and their contracts. Lean checks every line.
import Derived.Test.YtbhknenjcbinaaaDoorPBx0
import Derived.Test.YtbhknenjcbinaaaDoorPBx2
import Derived.Test.YtbhknenjcbinaaaDoorPBx6
namespace Go.Proofs.YtbhknenjcbinaaaDoor.PB
open Go.RowKit Go.Proofs.YtbhknenjcbinaaaDoorW.PrintWords Go.Proofs.YtbhknenjcbinaaaDoorW.PrintLast Go.Proofs.YtbhknenjcbinaaaDoorW.PrintMore Go.Proofs.YtbhknenjcbinaaaDoor.PA Go.Proofs.YtbhknenjcbinaaaDoor.G
attribute [local go_sem] max2_int min2_int max_two min_two max_three min_three max_four min_four   -- for this text's walks alone
set_option linter.unusedVariables false
set_option linter.unusedSimpArgs false

/-! ### customslaw28_PositionSum: function 4 -/
def customslaw28_PositionSum.j0 : Nat → Int → Int → Int → Bool → Int → Int → Int → Int → Option (Bool)
  | 0, _, _, _, _, _, _, _, _ => none
  | k + 1, x0, x1, x2, x59, x189000, x189001, x189002, x189003 => if x59 = true then (some false) else (if x0 = 2 then (if x189001 ≤ x2 then (if x189002 = 0 then (if x189003 = 0 then ((customslaw28_awake.f k).bind fun t189 => (some t189)) else (some false)) else (some false)) else (some false)) else (if x189000 = x1 then ((customslaw28_awake.f k).bind fun t190 => (some t190)) else (if x189001 = x1 then ((customslaw28_awake.f k).bind fun t191 => (some t191)) else (if x189002 = x1 then ((customslaw28_awake.f k).bind fun t192 => (some t192)) else (if x189003 = x1 then ((customslaw28_awake.f k).bind fun t193 => (some t193)) else (some false))))))
def customslaw28_PositionSum.f (k : Nat) (a0 : Int) (a1 : Int) (a2 : Int) : Option (Bool) := (customsmade_Within.f a0 13).bind fun t180 => ((customsmade_Within.f a1 64000000000001).bind fun t181 => ((customsmade_Within.f a2 1000000000001).bind fun t182 => ((position_Of.f (wrap64 (1 + t180)) t181 t182).bind fun bt183 => (if bt183.2.2.2.2 = 0 then (if bt183.1 < 0 then (customslaw28_PositionSum.j0 k (wrap64 (1 + t180)) t181 t182 true bt183.1 bt183.2.1 bt183.2.2.1 bt183.2.2.2.1) else (if bt183.2.1 < 0 then (customslaw28_PositionSum.j0 k (wrap64 (1 + t180)) t181 t182 true bt183.1 bt183.2.1 bt183.2.2.1 bt183.2.2.2.1) else (if bt183.2.2.1 < 0 then (customslaw28_PositionSum.j0 k (wrap64 (1 + t180)) t181 t182 true bt183.1 bt183.2.1 bt183.2.2.1 bt183.2.2.2.1) else (if bt183.2.2.2.1 < 0 then (customslaw28_PositionSum.j0 k (wrap64 (1 + t180)) t181 t182 true bt183.1 bt183.2.1 bt183.2.2.1 bt183.2.2.2.1) else (customslaw28_PositionSum.j0 k (wrap64 (1 + t180)) t181 t182 ((wrap64 ((wrap64 ((wrap64 (bt183.1 + bt183.2.1)) + bt183.2.2.1)) + bt183.2.2.2.1)) != t181) bt183.1 bt183.2.1 bt183.2.2.1 bt183.2.2.2.1))))) else (customslaw28_PositionSum.j0 k (wrap64 (1 + t180)) t181 t182 true bt183.1 bt183.2.1 bt183.2.2.1 bt183.2.2.2.1)))))
theorem customslaw28_PositionSum.mono_l : ∀ k, (∀ y0 y1 y2 y3 y4 y5 y6 y7, LeO (customslaw28_PositionSum.j0 k y0 y1 y2 y3 y4 y5 y6 y7) (customslaw28_PositionSum.j0 (k + 1) y0 y1 y2 y3 y4 y5 y6 y7))
  | 0 => fun _ _ _ _ _ _ _ _ r h => by simp [customslaw28_PositionSum.j0] at h
  | k + 1 => by
    have ih0 := customslaw28_PositionSum.mono_l k
    · intro y0 y1 y2 y3 y4 y5 y6 y7
      unfold customslaw28_PositionSum.j0
      repeat' first
      | (with_reducible exact ih0 _ _ _ _ _ _ _ _)
      | (with_reducible exact customslaw28_awake.mono _)
      | (with_reducible exact LeO.refl _)
      | (with_reducible exact LeO.none _)
      | (with_reducible refine LeO.ite ?_ ?_)
      | (with_reducible refine LeO.bind ?_ (fun _ => ?_))
      | exact ih0 _ _ _ _ _ _ _ _
      | exact customslaw28_awake.mono _
      | exact LeO.none _
      | refine LeO.ite ?_ ?_
      | refine LeO.bind ?_ (fun _ => ?_)
theorem customslaw28_PositionSum.mono : ∀ a0 a1 a2 k, LeO (customslaw28_PositionSum.f k a0 a1 a2) (customslaw28_PositionSum.f (k + 1) a0 a1 a2) := by
  intro a0 a1 a2 k
  have ih0 := customslaw28_PositionSum.mono_l k
  unfold customslaw28_PositionSum.f
  repeat' first
      | (with_reducible exact ih0 _ _ _ _ _ _ _ _)
      | (with_reducible exact customslaw28_awake.mono _)
      | (with_reducible exact LeO.refl _)
      | (with_reducible exact LeO.none _)
      | (with_reducible refine LeO.ite ?_ ?_)
      | (with_reducible refine LeO.bind ?_ (fun _ => ?_))
      | exact ih0 _ _ _ _ _ _ _ _
      | exact customslaw28_awake.mono _
      | exact LeO.none _
      | refine LeO.ite ?_ ?_
      | refine LeO.bind ?_ (fun _ => ?_)
set_option maxHeartbeats 8000000 in
set_option maxRecDepth 100000 in
theorem customslaw28_PositionSum.calls (k : Nat) (a0 : Int) (a1 : Int) (a2 : Int) (r : Bool) (w : World) (hGL : GL w) (h : customslaw28_PositionSum.f k a0 a1 a2 = some r) :
    Calls Tryd.prog 4 #[.int .i64 a0, .int .i64 a1, .int .i64 a2] w fun e w' => e = .returned (.bool r) ∧ Below w.heap.size w w' := by
  have hu24 := Tryd.underlying24
  have HB := Aside0.mk (Below.refl w.heap.size w)
  have H : ((customsmade_Within.f a0 13).bind fun t180 => ((customsmade_Within.f a1 64000000000001).bind fun t181 => ((customsmade_Within.f a2 1000000000001).bind fun t182 => ((position_Of.f (wrap64 (1 + t180)) t181 t182).bind fun bt183 => (if bt183.2.2.2.2 = 0 then (if bt183.1 < 0 then (customslaw28_PositionSum.j0 k (wrap64 (1 + t180)) t181 t182 true bt183.1 bt183.2.1 bt183.2.2.1 bt183.2.2.2.1) else (if bt183.2.1 < 0 then (customslaw28_PositionSum.j0 k (wrap64 (1 + t180)) t181 t182 true bt183.1 bt183.2.1 bt183.2.2.1 bt183.2.2.2.1) else (if bt183.2.2.1 < 0 then (customslaw28_PositionSum.j0 k (wrap64 (1 + t180)) t181 t182 true bt183.1 bt183.2.1 bt183.2.2.1 bt183.2.2.2.1) else (if bt183.2.2.2.1 < 0 then (customslaw28_PositionSum.j0 k (wrap64 (1 + t180)) t181 t182 true bt183.1 bt183.2.1 bt183.2.2.1 bt183.2.2.2.1) else (customslaw28_PositionSum.j0 k (wrap64 (1 + t180)) t181 t182 ((wrap64 ((wrap64 ((wrap64 (bt183.1 + bt183.2.1)) + bt183.2.2.1)) + bt183.2.2.2.1)) != t181) bt183.1 bt183.2.1 bt183.2.2.1 bt183.2.2.2.1))))) else (customslaw28_PositionSum.j0 k (wrap64 (1 + t180)) t181 t182 true bt183.1 bt183.2.1 bt183.2.2.1 bt183.2.2.2.1)))))) = some r := h
  clear h
  replace H := Option.bind_eq_some_iff.mp H
  obtain ⟨t180, A40, H⟩ := H
  replace H : ((customsmade_Within.f a1 64000000000001).bind fun t181 => ((customsmade_Within.f a2 1000000000001).bind fun t182 => ((position_Of.f (wrap64 (1 + t180)) t181 t182).bind fun bt183 => (if bt183.2.2.2.2 = 0 then (if bt183.1 < 0 then (customslaw28_PositionSum.j0 k (wrap64 (1 + t180)) t181 t182 true bt183.1 bt183.2.1 bt183.2.2.1 bt183.2.2.2.1) else (if bt183.2.1 < 0 then (customslaw28_PositionSum.j0 k (wrap64 (1 + t180)) t181 t182 true bt183.1 bt183.2.1 bt183.2.2.1 bt183.2.2.2.1) else (if bt183.2.2.1 < 0 then (customslaw28_PositionSum.j0 k (wrap64 (1 + t180)) t181 t182 true bt183.1 bt183.2.1 bt183.2.2.1 bt183.2.2.2.1) else (if bt183.2.2.2.1 < 0 then (customslaw28_PositionSum.j0 k (wrap64 (1 + t180)) t181 t182 true bt183.1 bt183.2.1 bt183.2.2.1 bt183.2.2.2.1) else (customslaw28_PositionSum.j0 k (wrap64 (1 + t180)) t181 t182 ((wrap64 ((wrap64 ((wrap64 (bt183.1 + bt183.2.1)) + bt183.2.2.1)) + bt183.2.2.2.1)) != t181) bt183.1 bt183.2.1 bt183.2.2.1 bt183.2.2.2.1))))) else (customslaw28_PositionSum.j0 k (wrap64 (1 + t180)) t181 t182 true bt183.1 bt183.2.1 bt183.2.2.1 bt183.2.2.2.1))))) = some r := H
  have A4 := Aside0.mk A40
  clear A40
  replace H := Option.bind_eq_some_iff.mp H
  obtain ⟨t181, A50, H⟩ := H
  replace H : ((customsmade_Within.f a2 1000000000001).bind fun t182 => ((position_Of.f (wrap64 (1 + t180)) t181 t182).bind fun bt183 => (if bt183.2.2.2.2 = 0 then (if bt183.1 < 0 then (customslaw28_PositionSum.j0 k (wrap64 (1 + t180)) t181 t182 true bt183.1 bt183.2.1 bt183.2.2.1 bt183.2.2.2.1) else (if bt183.2.1 < 0 then (customslaw28_PositionSum.j0 k (wrap64 (1 + t180)) t181 t182 true bt183.1 bt183.2.1 bt183.2.2.1 bt183.2.2.2.1) else (if bt183.2.2.1 < 0 then (customslaw28_PositionSum.j0 k (wrap64 (1 + t180)) t181 t182 true bt183.1 bt183.2.1 bt183.2.2.1 bt183.2.2.2.1) else (if bt183.2.2.2.1 < 0 then (customslaw28_PositionSum.j0 k (wrap64 (1 + t180)) t181 t182 true bt183.1 bt183.2.1 bt183.2.2.1 bt183.2.2.2.1) else (customslaw28_PositionSum.j0 k (wrap64 (1 + t180)) t181 t182 ((wrap64 ((wrap64 ((wrap64 (bt183.1 + bt183.2.1)) + bt183.2.2.1)) + bt183.2.2.2.1)) != t181) bt183.1 bt183.2.1 bt183.2.2.1 bt183.2.2.2.1))))) else (customslaw28_PositionSum.j0 k (wrap64 (1 + t180)) t181 t182 true bt183.1 bt183.2.1 bt183.2.2.1 bt183.2.2.2.1)))) = some r := H
  have A5 := Aside0.mk A50
  clear A50
  replace H := Option.bind_eq_some_iff.mp H
  obtain ⟨t182, A60, H⟩ := H
  replace H : ((position_Of.f (wrap64 (1 + t180)) t181 t182).bind fun bt183 => (if bt183.2.2.2.2 = 0 then (if bt183.1 < 0 then (customslaw28_PositionSum.j0 k (wrap64 (1 + t180)) t181 t182 true bt183.1 bt183.2.1 bt183.2.2.1 bt183.2.2.2.1) else (if bt183.2.1 < 0 then (customslaw28_PositionSum.j0 k (wrap64 (1 + t180)) t181 t182 true bt183.1 bt183.2.1 bt183.2.2.1 bt183.2.2.2.1) else (if bt183.2.2.1 < 0 then (customslaw28_PositionSum.j0 k (wrap64 (1 + t180)) t181 t182 true bt183.1 bt183.2.1 bt183.2.2.1 bt183.2.2.2.1) else (if bt183.2.2.2.1 < 0 then (customslaw28_PositionSum.j0 k (wrap64 (1 + t180)) t181 t182 true bt183.1 bt183.2.1 bt183.2.2.1 bt183.2.2.2.1) else (customslaw28_PositionSum.j0 k (wrap64 (1 + t180)) t181 t182 ((wrap64 ((wrap64 ((wrap64 (bt183.1 + bt183.2.1)) + bt183.2.2.1)) + bt183.2.2.2.1)) != t181) bt183.1 bt183.2.1 bt183.2.2.1 bt183.2.2.2.1))))) else (customslaw28_PositionSum.j0 k (wrap64 (1 + t180)) t181 t182 true bt183.1 bt183.2.1 bt183.2.2.1 bt183.2.2.2.1))) = some r := H
  have A6 := Aside0.mk A60
  clear A60
  replace H := Option.bind_eq_some_iff.mp H
  obtain ⟨⟨t183, t184, t185, t186, t187⟩, A70, H⟩ := H
  replace H : (if t187 = 0 then (if t183 < 0 then (customslaw28_PositionSum.j0 k (wrap64 (1 + t180)) t181 t182 true t183 t184 t185 t186) else (if t184 < 0 then (customslaw28_PositionSum.j0 k (wrap64 (1 + t180)) t181 t182 true t183 t184 t185 t186) else (if t185 < 0 then (customslaw28_PositionSum.j0 k (wrap64 (1 + t180)) t181 t182 true t183 t184 t185 t186) else (if t186 < 0 then (customslaw28_PositionSum.j0 k (wrap64 (1 + t180)) t181 t182 true t183 t184 t185 t186) else (customslaw28_PositionSum.j0 k (wrap64 (1 + t180)) t181 t182 ((wrap64 ((wrap64 ((wrap64 (t183 + t184)) + t185)) + t186)) != t181) t183 t184 t185 t186))))) else (customslaw28_PositionSum.j0 k (wrap64 (1 + t180)) t181 t182 true t183 t184 t185 t186)) = some r := H
  have A7 := Aside0.mk A70
  clear A70
  have HC8 := Aside0.mk H
  clear H
  go_enter Tryd.func4, Tryd.ntmps4
  go_upto_region 4 with (first | ((with_reducible refine gate_callee (f := 8) rfl ?_); refine goesL_ (some 10) rfl rfl Tryd.func8 (by kernel_rfl) rfl #[.int .i64 a0, .int .i64 13] rfl (by (try simp only [List.map_toArray, List.map_cons, List.map_nil]); first | done | rfl | (simp only [List.length_drop, List.length_take]; rfl)) ?_; (with_reducible refine (customsmade_Within.calls a0 13 t180 _ A4.out).mono ?_); rintro e w' ⟨rfl, ⟨nd, rfl⟩⟩; refine ⟨_, rfl, ?_⟩) | ((with_reducible refine gate_callee (f := 8) rfl ?_); refine goesL_ (some 13) rfl rfl Tryd.func8 (by kernel_rfl) rfl #[.int .i64 a1, .int .i64 64000000000001] rfl (by (try simp only [List.map_toArray, List.map_cons, List.map_nil]); first | done | rfl | (simp only [List.length_drop, List.length_take]; rfl)) ?_; (with_reducible refine (customsmade_Within.calls a1 64000000000001 t181 _ A5.out).mono ?_); rintro e w' ⟨rfl, ⟨nd, rfl⟩⟩; refine ⟨_, rfl, ?_⟩) | ((with_reducible refine gate_callee (f := 8) rfl ?_); refine goesL_ (some 15) rfl rfl Tryd.func8 (by kernel_rfl) rfl #[.int .i64 a2, .int .i64 1000000000001] rfl (by (try simp only [List.map_toArray, List.map_cons, List.map_nil]); first | done | rfl | (simp only [List.length_drop, List.length_take]; rfl)) ?_; (with_reducible refine (customsmade_Within.calls a2 1000000000001 t182 _ A6.out).mono ?_); rintro e w' ⟨rfl, ⟨nd, rfl⟩⟩; refine ⟨_, rfl, ?_⟩) | ((with_reducible refine gate_callee (f := 9) rfl ?_); refine goesL_ (some 20) rfl rfl Tryd.func9 (by kernel_rfl) rfl #[.int .i64 (wrap64 (1 + t180)), .int .i64 t181, .int .i64 t182] rfl (by (try simp only [List.map_toArray, List.map_cons, List.map_nil]); first | done | rfl | (simp only [List.length_drop, List.length_take]; rfl)) ?_; (with_reducible refine (position_Of.calls (wrap64 (1 + t180)) t181 t182 t183 t184 t185 t186 t187 _ A7.out).mono ?_); rintro e w9 ⟨rfl, hb⟩; refine ⟨_, rfl, ?_⟩; have n0_ := Aside0.mk (below_step (by repeat (first | (with_reducible first | exact HB.out | apply below_alloc | apply pw_below_drewN | apply below_drew1) | exact HB.out)) hb); clear HB; have HB := n0_; clear n0_; (try clear hb); (try clear hb2); (try clear hk); (try clear hi)) | ((with_reducible refine gate_dst (N := 7) rfl ?_); refine box_event ?hg (N := 7) ?hd (cs := #[.int .i64 0, .int .i64 0, .int .i64 0, .int .i64 0]) (t := 24) ?hr ?_; (case hd => rfl); (case hg => rfl); (case hr => first | (go_simp; done) | (go_simp; rfl)); intro gb188 hg w10 hbox hb; have n0_ := Aside0.mk (below_step (by repeat (first | (with_reducible first | exact HB.out | apply below_alloc | apply pw_below_drewN | apply below_drew1) | exact HB.out)) hb); have n1_ := Aside0.mk (hbox); have n2_ := Aside0.mk ((by rw [hg]; exact (below_size (by repeat (first | (with_reducible first | exact HB.out | apply below_alloc | apply pw_below_drewN | apply below_drew1) | exact HB.out))) : w.heap.size ≤ gb188)); have n3_ := Aside0.mk ((by rw [hg]; exact (below_size (by repeat (first | (with_reducible first | exact HB.out | apply below_alloc | apply pw_below_drewN | apply below_drew1) | exact HB.out))) : w.heap.size ≤ gb188)); clear HB; have HB := n0_; have BK188 := n1_; have GW188 := n2_; have GE188 := n3_; clear n0_ n1_ n2_ n3_; clear hb hbox hg; have hcz11_0 : w10.cell? ⟨gb188, 0, none⟩ = some (.int .i64 0) := (blk_cell BK188.out 0).trans rfl; have hcz11_1 : w10.cell? ⟨gb188, 1, none⟩ = some (.int .i64 0) := (blk_cell BK188.out 1).trans rfl; have hcz11_2 : w10.cell? ⟨gb188, 2, none⟩ = some (.int .i64 0) := (blk_cell BK188.out 2).trans rfl; have hcz11_3 : w10.cell? ⟨gb188, 3, none⟩ = some (.int .i64 0) := (blk_cell BK188.out 3).trans rfl; have hfz11_0 := blk_frozen BK188.out 0; have hfz11_1 := blk_frozen BK188.out 1; have hfz11_2 := blk_frozen BK188.out 2; have hfz11_3 := blk_frozen BK188.out 3))
  (try simp only [Act.put, List.setIfInBounds_toArray, List.set_cons_zero, List.set_cons_succ])
  go_cut [59] (fun v59 wc => ∃ (kq : Nat) (x59_7 : Bool), v59 = .bool x59_7 ∧ Aside0 (customslaw28_PositionSum.j0 kq (wrap64 (1 + t180)) t181 t182 x59_7 t183 t184 t185 t186 = some r) ∧ Aside0 (kq ≤ k) ∧ Aside0 (wc.heap[gb188]? = some (.cells #[.int .i64 t183, .int .i64 t184, .int .i64 t185, .int .i64 t186] 24 (0, 0))) ∧ Aside0 (Below w.heap.size w wc))
  case first =>
    have H := HC8.out
    clear HC8
    by_cases c12 : t187 = 0
    · rw [if_pos c12] at H
      have c12b0 : (t187 == 0) = true := beq_iff_eq.mpr c12
      have c12b1 : (t187 != 0) = false := bne_eq_false_iff_eq.mpr c12
      clear c12
      (first | rw [c12b0] | (simp only [i64_w, i32_w]; rw [c12b0]) | skip)
      by_cases c13 : t183 < 0
      · rw [if_pos c13] at H
        have c13b0 : decide (t183 < 0) = true := decide_eq_true c13
        clear c13
        have H' := Aside0.mk H
        clear H
        have hcz14_0 : w10.cell? ⟨gb188, 0, none⟩ = some (.int .i64 0) := (blk_cell BK188.out 0).trans rfl
        have hcz14_1 : w10.cell? ⟨gb188, 1, none⟩ = some (.int .i64 0) := (blk_cell BK188.out 1).trans rfl
        have hcz14_2 : w10.cell? ⟨gb188, 2, none⟩ = some (.int .i64 0) := (blk_cell BK188.out 2).trans rfl
        have hcz14_3 : w10.cell? ⟨gb188, 3, none⟩ = some (.int .i64 0) := (blk_cell BK188.out 3).trans rfl
        have hfz14_0 := blk_frozen BK188.out 0
        have hfz14_1 := blk_frozen BK188.out 1
        have hfz14_2 := blk_frozen BK188.out 2
        have hfz14_3 := blk_frozen BK188.out 3
        go_wp2
        go_meet
        case rel => exact ⟨_, (true), (by first | rfl | (simp; done) | (simp [*]; done)), H', ⟨by first | omega | exact Nat.le_refl _⟩, ⟨by (with_reducible repeat (first | refine blk_drewN ?_ _ | refine blk_drew ?_ | refine blk_alloc ?_ _)); refine blk_put (cs := #[.int .i64 t183, .int .i64 t184, .int .i64 t185, .int .i64 0]) ?_ 3 _ rfl; (with_reducible repeat (first | refine blk_drewN ?_ _ | refine blk_drew ?_ | refine blk_alloc ?_ _)); refine blk_put (cs := #[.int .i64 t183, .int .i64 t184, .int .i64 0, .int .i64 0]) ?_ 2 _ rfl; (with_reducible repeat (first | refine blk_drewN ?_ _ | refine blk_drew ?_ | refine blk_alloc ?_ _)); refine blk_put (cs := #[.int .i64 t183, .int .i64 0, .int .i64 0, .int .i64 0]) ?_ 1 _ rfl; (with_reducible repeat (first | refine blk_drewN ?_ _ | refine blk_drew ?_ | refine blk_alloc ?_ _)); refine blk_put (cs := #[.int .i64 0, .int .i64 0, .int .i64 0, .int .i64 0]) ?_ 0 _ rfl; (with_reducible repeat (first | refine blk_drewN ?_ _ | refine blk_drew ?_ | refine blk_alloc ?_ _)); exact BK188.out⟩, ⟨by repeat (first | (with_reducible first | exact HB.out | apply below_alloc | apply pw_below_drewN | apply below_drew1 | refine below_set ?_ GE188.out) | exact HB.out)⟩⟩
      · rw [if_neg c13] at H
        have c13b0 : decide (t183 < 0) = false := decide_eq_false c13
        clear c13
        by_cases c15 : t184 < 0
        · rw [if_pos c15] at H
          have c15b0 : decide (t184 < 0) = true := decide_eq_true c15
          clear c15
          have H' := Aside0.mk H
          clear H
          have hcz16_0 : w10.cell? ⟨gb188, 0, none⟩ = some (.int .i64 0) := (blk_cell BK188.out 0).trans rfl
          have hcz16_1 : w10.cell? ⟨gb188, 1, none⟩ = some (.int .i64 0) := (blk_cell BK188.out 1).trans rfl
          have hcz16_2 : w10.cell? ⟨gb188, 2, none⟩ = some (.int .i64 0) := (blk_cell BK188.out 2).trans rfl
          have hcz16_3 : w10.cell? ⟨gb188, 3, none⟩ = some (.int .i64 0) := (blk_cell BK188.out 3).trans rfl
          have hfz16_0 := blk_frozen BK188.out 0
          have hfz16_1 := blk_frozen BK188.out 1
          have hfz16_2 := blk_frozen BK188.out 2
          have hfz16_3 := blk_frozen BK188.out 3
          go_wp2
          go_meet
          case rel => exact ⟨_, (true), (by first | rfl | (simp; done) | (simp [*]; done)), H', ⟨by first | omega | exact Nat.le_refl _⟩, ⟨by (with_reducible repeat (first | refine blk_drewN ?_ _ | refine blk_drew ?_ | refine blk_alloc ?_ _)); refine blk_put (cs := #[.int .i64 t183, .int .i64 t184, .int .i64 t185, .int .i64 0]) ?_ 3 _ rfl; (with_reducible repeat (first | refine blk_drewN ?_ _ | refine blk_drew ?_ | refine blk_alloc ?_ _)); refine blk_put (cs := #[.int .i64 t183, .int .i64 t184, .int .i64 0, .int .i64 0]) ?_ 2 _ rfl; (with_reducible repeat (first | refine blk_drewN ?_ _ | refine blk_drew ?_ | refine blk_alloc ?_ _)); refine blk_put (cs := #[.int .i64 t183, .int .i64 0, .int .i64 0, .int .i64 0]) ?_ 1 _ rfl; (with_reducible repeat (first | refine blk_drewN ?_ _ | refine blk_drew ?_ | refine blk_alloc ?_ _)); refine blk_put (cs := #[.int .i64 0, .int .i64 0, .int .i64 0, .int .i64 0]) ?_ 0 _ rfl; (with_reducible repeat (first | refine blk_drewN ?_ _ | refine blk_drew ?_ | refine blk_alloc ?_ _)); exact BK188.out⟩, ⟨by repeat (first | (with_reducible first | exact HB.out | apply below_alloc | apply pw_below_drewN | apply below_drew1 | refine below_set ?_ GE188.out) | exact HB.out)⟩⟩
        · rw [if_neg c15] at H
          have c15b0 : decide (t184 < 0) = false := decide_eq_false c15
          clear c15
          by_cases c17 : t185 < 0
          · rw [if_pos c17] at H
            have c17b0 : decide (t185 < 0) = true := decide_eq_true c17
            clear c17
            have H' := Aside0.mk H
            clear H
            have hcz18_0 : w10.cell? ⟨gb188, 0, none⟩ = some (.int .i64 0) := (blk_cell BK188.out 0).trans rfl
            have hcz18_1 : w10.cell? ⟨gb188, 1, none⟩ = some (.int .i64 0) := (blk_cell BK188.out 1).trans rfl
            have hcz18_2 : w10.cell? ⟨gb188, 2, none⟩ = some (.int .i64 0) := (blk_cell BK188.out 2).trans rfl
            have hcz18_3 : w10.cell? ⟨gb188, 3, none⟩ = some (.int .i64 0) := (blk_cell BK188.out 3).trans rfl
            have hfz18_0 := blk_frozen BK188.out 0
            have hfz18_1 := blk_frozen BK188.out 1
            have hfz18_2 := blk_frozen BK188.out 2
            have hfz18_3 := blk_frozen BK188.out 3
            go_wp2
            go_meet
            case rel => exact ⟨_, (true), (by first | rfl | (simp; done) | (simp [*]; done)), H', ⟨by first | omega | exact Nat.le_refl _⟩, ⟨by (with_reducible repeat (first | refine blk_drewN ?_ _ | refine blk_drew ?_ | refine blk_alloc ?_ _)); refine blk_put (cs := #[.int .i64 t183, .int .i64 t184, .int .i64 t185, .int .i64 0]) ?_ 3 _ rfl; (with_reducible repeat (first | refine blk_drewN ?_ _ | refine blk_drew ?_ | refine blk_alloc ?_ _)); refine blk_put (cs := #[.int .i64 t183, .int .i64 t184, .int .i64 0, .int .i64 0]) ?_ 2 _ rfl; (with_reducible repeat (first | refine blk_drewN ?_ _ | refine blk_drew ?_ | refine blk_alloc ?_ _)); refine blk_put (cs := #[.int .i64 t183, .int .i64 0, .int .i64 0, .int .i64 0]) ?_ 1 _ rfl; (with_reducible repeat (first | refine blk_drewN ?_ _ | refine blk_drew ?_ | refine blk_alloc ?_ _)); refine blk_put (cs := #[.int .i64 0, .int .i64 0, .int .i64 0, .int .i64 0]) ?_ 0 _ rfl; (with_reducible repeat (first | refine blk_drewN ?_ _ | refine blk_drew ?_ | refine blk_alloc ?_ _)); exact BK188.out⟩, ⟨by repeat (first | (with_reducible first | exact HB.out | apply below_alloc | apply pw_below_drewN | apply below_drew1 | refine below_set ?_ GE188.out) | exact HB.out)⟩⟩
          · rw [if_neg c17] at H
            have c17b0 : decide (t185 < 0) = false := decide_eq_false c17
            clear c17
            by_cases c19 : t186 < 0
            · rw [if_pos c19] at H
              have c19b0 : decide (t186 < 0) = true := decide_eq_true c19
              clear c19
              have H' := Aside0.mk H
              clear H
              have hcz20_0 : w10.cell? ⟨gb188, 0, none⟩ = some (.int .i64 0) := (blk_cell BK188.out 0).trans rfl
              have hcz20_1 : w10.cell? ⟨gb188, 1, none⟩ = some (.int .i64 0) := (blk_cell BK188.out 1).trans rfl
              have hcz20_2 : w10.cell? ⟨gb188, 2, none⟩ = some (.int .i64 0) := (blk_cell BK188.out 2).trans rfl
              have hcz20_3 : w10.cell? ⟨gb188, 3, none⟩ = some (.int .i64 0) := (blk_cell BK188.out 3).trans rfl
              have hfz20_0 := blk_frozen BK188.out 0
              have hfz20_1 := blk_frozen BK188.out 1
              have hfz20_2 := blk_frozen BK188.out 2
              have hfz20_3 := blk_frozen BK188.out 3
              go_wp2
              go_meet
              case rel => exact ⟨_, (true), (by first | rfl | (simp; done) | (simp [*]; done)), H', ⟨by first | omega | exact Nat.le_refl _⟩, ⟨by (with_reducible repeat (first | refine blk_drewN ?_ _ | refine blk_drew ?_ | refine blk_alloc ?_ _)); refine blk_put (cs := #[.int .i64 t183, .int .i64 t184, .int .i64 t185, .int .i64 0]) ?_ 3 _ rfl; (with_reducible repeat (first | refine blk_drewN ?_ _ | refine blk_drew ?_ | refine blk_alloc ?_ _)); refine blk_put (cs := #[.int .i64 t183, .int .i64 t184, .int .i64 0, .int .i64 0]) ?_ 2 _ rfl; (with_reducible repeat (first | refine blk_drewN ?_ _ | refine blk_drew ?_ | refine blk_alloc ?_ _)); refine blk_put (cs := #[.int .i64 t183, .int .i64 0, .int .i64 0, .int .i64 0]) ?_ 1 _ rfl; (with_reducible repeat (first | refine blk_drewN ?_ _ | refine blk_drew ?_ | refine blk_alloc ?_ _)); refine blk_put (cs := #[.int .i64 0, .int .i64 0, .int .i64 0, .int .i64 0]) ?_ 0 _ rfl; (with_reducible repeat (first | refine blk_drewN ?_ _ | refine blk_drew ?_ | refine blk_alloc ?_ _)); exact BK188.out⟩, ⟨by repeat (first | (with_reducible first | exact HB.out | apply below_alloc | apply pw_below_drewN | apply below_drew1 | refine below_set ?_ GE188.out) | exact HB.out)⟩⟩
            · rw [if_neg c19] at H
              have c19b0 : decide (t186 < 0) = false := decide_eq_false c19
              clear c19
              have H' := Aside0.mk H
              clear H
              have hcz21_0 : w10.cell? ⟨gb188, 0, none⟩ = some (.int .i64 0) := (blk_cell BK188.out 0).trans rfl
              have hcz21_1 : w10.cell? ⟨gb188, 1, none⟩ = some (.int .i64 0) := (blk_cell BK188.out 1).trans rfl
              have hcz21_2 : w10.cell? ⟨gb188, 2, none⟩ = some (.int .i64 0) := (blk_cell BK188.out 2).trans rfl
              have hcz21_3 : w10.cell? ⟨gb188, 3, none⟩ = some (.int .i64 0) := (blk_cell BK188.out 3).trans rfl
              have hfz21_0 := blk_frozen BK188.out 0
              have hfz21_1 := blk_frozen BK188.out 1
              have hfz21_2 := blk_frozen BK188.out 2
              have hfz21_3 := blk_frozen BK188.out 3
              go_wp2
              go_meet
              case rel => exact ⟨_, (((wrap64 ((wrap64 ((wrap64 (t183 + t184)) + t185)) + t186)) != t181)), (by first | rfl | (simp; done) | (simp [*]; done)), H', ⟨by first | omega | exact Nat.le_refl _⟩, ⟨by (with_reducible repeat (first | refine blk_drewN ?_ _ | refine blk_drew ?_ | refine blk_alloc ?_ _)); refine blk_put (cs := #[.int .i64 t183, .int .i64 t184, .int .i64 t185, .int .i64 0]) ?_ 3 _ rfl; (with_reducible repeat (first | refine blk_drewN ?_ _ | refine blk_drew ?_ | refine blk_alloc ?_ _)); refine blk_put (cs := #[.int .i64 t183, .int .i64 t184, .int .i64 0, .int .i64 0]) ?_ 2 _ rfl; (with_reducible repeat (first | refine blk_drewN ?_ _ | refine blk_drew ?_ | refine blk_alloc ?_ _)); refine blk_put (cs := #[.int .i64 t183, .int .i64 0, .int .i64 0, .int .i64 0]) ?_ 1 _ rfl; (with_reducible repeat (first | refine blk_drewN ?_ _ | refine blk_drew ?_ | refine blk_alloc ?_ _)); refine blk_put (cs := #[.int .i64 0, .int .i64 0, .int .i64 0, .int .i64 0]) ?_ 0 _ rfl; (with_reducible repeat (first | refine blk_drewN ?_ _ | refine blk_drew ?_ | refine blk_alloc ?_ _)); exact BK188.out⟩, ⟨by repeat (first | (with_reducible first | exact HB.out | apply below_alloc | apply pw_below_drewN | apply below_drew1 | refine below_set ?_ GE188.out) | exact HB.out)⟩⟩
    · rw [if_neg c12] at H
      have c12b0 : (t187 == 0) = false := beq_eq_false_iff_ne.mpr c12
      have c12b1 : (t187 != 0) = true := bne_iff_ne.mpr c12
      (first | rw [c12b0] | (simp only [i64_w, i32_w]; rw [c12b0]) | skip)
      have H' := Aside0.mk H
      clear H
      go_wp2
      go_meet
      case rel => exact ⟨_, (true), (by first | rfl | (simp; done) | (simp [*]; done)), H', ⟨by first | omega | exact Nat.le_refl _⟩, ⟨by (with_reducible repeat (first | refine blk_drewN ?_ _ | refine blk_drew ?_ | refine blk_alloc ?_ _)); refine blk_put (cs := #[.int .i64 t183, .int .i64 t184, .int .i64 t185, .int .i64 0]) ?_ 3 _ rfl; (with_reducible repeat (first | refine blk_drewN ?_ _ | refine blk_drew ?_ | refine blk_alloc ?_ _)); refine blk_put (cs := #[.int .i64 t183, .int .i64 t184, .int .i64 0, .int .i64 0]) ?_ 2 _ rfl; (with_reducible repeat (first | refine blk_drewN ?_ _ | refine blk_drew ?_ | refine blk_alloc ?_ _)); refine blk_put (cs := #[.int .i64 t183, .int .i64 0, .int .i64 0, .int .i64 0]) ?_ 1 _ rfl; (with_reducible repeat (first | refine blk_drewN ?_ _ | refine blk_drew ?_ | refine blk_alloc ?_ _)); refine blk_put (cs := #[.int .i64 0, .int .i64 0, .int .i64 0, .int .i64 0]) ?_ 0 _ rfl; (with_reducible repeat (first | refine blk_drewN ?_ _ | refine blk_drew ?_ | refine blk_alloc ?_ _)); exact BK188.out⟩, ⟨by repeat (first | (with_reducible first | exact HB.out | apply below_alloc | apply pw_below_drewN | apply below_drew1 | refine below_set ?_ GE188.out) | exact HB.out)⟩⟩
  case rest =>
    clear HC8
    try clear c1
    try clear p2
    try clear c4
    try clear p6
    try clear c8
    try clear c9
    try clear c12
    try clear c12b0
    try clear c12b1
    try clear c13
    try clear c13b0
    try clear c15
    try clear c15b0
    try clear c17
    try clear c17b0
    try clear c19
    try clear c19b0
    try clear hcz11_0
    try clear hcz11_1
    try clear hcz11_2
    try clear hcz11_3
    try clear hcz14_0
    try clear hcz14_1
    try clear hcz14_2
    try clear hcz14_3
    try clear hcz16_0
    try clear hcz16_1
    try clear hcz16_2
    try clear hcz16_3
    try clear hcz18_0
    try clear hcz18_1
    try clear hcz18_2
    try clear hcz18_3
    try clear hcz20_0
    try clear hcz20_1
    try clear hcz20_2
    try clear hcz20_3
    try clear hcz21_0
    try clear hcz21_1
    try clear hcz21_2
    try clear hcz21_3
    try clear hfz11_0
    try clear hfz11_1
    try clear hfz11_2
    try clear hfz11_3
    try clear hfz14_0
    try clear hfz14_1
    try clear hfz14_2
    try clear hfz14_3
    try clear hfz16_0
    try clear hfz16_1
    try clear hfz16_2
    try clear hfz16_3
    try clear hfz18_0
    try clear hfz18_1
    try clear hfz18_2
    try clear hfz18_3
    try clear hfz20_0
    try clear hfz20_1
    try clear hfz20_2
    try clear hfz20_3
    try clear hfz21_0
    try clear hfz21_1
    try clear hfz21_2
    try clear hfz21_3
    obtain ⟨kq, x59_7, rfl, HA, HJ7, BK188, HB⟩ := hcut
    cases kq with
    | zero => exact absurd HA.out (by simp [customslaw28_PositionSum.j0])
    | succ kj7 =>
      have H := HA.out
      clear HA
      simp only [customslaw28_PositionSum.j0] at H
      by_cases c22 : x59_7 = true
      · subst c22
        have H1 : (some false) = some r := by rw [if_pos rfl] at H; exact H
        clear H
        have H := H1
        clear H1
        obtain rfl := Option.some.inj H
        go_wp2
        go_ret
        exact ⟨by first | rfl | (simp [errW_none, errW_some] <;> rfl) | (simp [*, errW_none, errW_some] <;> rfl), by repeat (first | (with_reducible first | exact HB.out | apply below_alloc | apply pw_below_drewN | apply below_drew1 | refine below_set ?_ GE188.out) | exact HB.out)⟩
      · replace c22 := Bool.eq_false_iff.mpr c22
        subst c22
        have H1 : (if (wrap64 (1 + t180)) = 2 then (if t184 ≤ t182 then (if t185 = 0 then (if t186 = 0 then ((customslaw28_awake.f kj7).bind fun t189 => (some t189)) else (some false)) else (some false)) else (some false)) else (if t183 = t181 then ((customslaw28_awake.f kj7).bind fun t190 => (some t190)) else (if t184 = t181 then ((customslaw28_awake.f kj7).bind fun t191 => (some t191)) else (if t185 = t181 then ((customslaw28_awake.f kj7).bind fun t192 => (some t192)) else (if t186 = t181 then ((customslaw28_awake.f kj7).bind fun t193 => (some t193)) else (some false)))))) = some r := by rw [if_neg (show ¬ (false = true) by decide)] at H; exact H
        clear H
        have H := H1
        clear H1
        by_cases c23 : (wrap64 (1 + t180)) = 2
        · rw [if_pos c23] at H
          have c23b0 : ((wrap64 (1 + t180)) == 2) = true := beq_iff_eq.mpr c23
          have c23b1 : ((wrap64 (1 + t180)) != 2) = false := bne_eq_false_iff_eq.mpr c23
          clear c23
          by_cases c24 : t184 ≤ t182
          · rw [if_pos c24] at H
            have c24b0 : decide (t184 ≤ t182) = true := decide_eq_true c24
            clear c24
            by_cases c25 : t185 = 0
            · rw [if_pos c25] at H
              have c25b0 : (t185 == 0) = true := beq_iff_eq.mpr c25
              have c25b1 : (t185 != 0) = false := bne_eq_false_iff_eq.mpr c25
              clear c25
              by_cases c26 : t186 = 0
              · rw [if_pos c26] at H
                have c26b0 : (t186 == 0) = true := beq_iff_eq.mpr c26
                have c26b1 : (t186 != 0) = false := bne_eq_false_iff_eq.mpr c26
                clear c26
                replace H := Option.bind_eq_some_iff.mp H
                obtain ⟨t189, A270, H⟩ := H
                replace H : (some t189) = some r := H
                have A27 := Aside0.mk A270
                clear A270
                obtain rfl := Option.some.inj H
                have hcz28_0 : wc.cell? ⟨gb188, 0, none⟩ = some (.int .i64 t183) := (blk_cell BK188.out 0).trans rfl
                have hcz28_1 : wc.cell? ⟨gb188, 1, none⟩ = some (.int .i64 t184) := (blk_cell BK188.out 1).trans rfl
                have hcz28_2 : wc.cell? ⟨gb188, 2, none⟩ = some (.int .i64 t185) := (blk_cell BK188.out 2).trans rfl
                have hcz28_3 : wc.cell? ⟨gb188, 3, none⟩ = some (.int .i64 t186) := (blk_cell BK188.out 3).trans rfl
                have hfz28_0 := blk_frozen BK188.out 0
                have hfz28_1 := blk_frozen BK188.out 1
                have hfz28_2 := blk_frozen BK188.out 2
                have hfz28_3 := blk_frozen BK188.out 3
                go_wp2_with (first | (go_at_call 11; (with_reducible refine (customslaw28_awake.calls kj7  t189 _ ?side1 A27.out).mono ?_); (case side1 => first | (with_reducible exact hGL) | exact GL.below hGL (by repeat (first | (with_reducible first | exact HB.out | apply below_alloc | apply pw_below_drewN | apply below_drew1 | refine below_set ?_ GE188.out) | exact HB.out)) | (repeat (first | exact hGL | apply GL.drewN | apply GL.drew))); rintro e w29 ⟨rfl, hb⟩; have n0_ := Aside0.mk (blk_below (g := gb188) (o := .cells #[.int .i64 t183, .int .i64 t184, .int .i64 t185, .int .i64 t186] 24 (0, 0)) (by (with_reducible repeat (first | refine blk_drewN ?_ _ | refine blk_drew ?_ | refine blk_alloc ?_ _)); exact BK188.out) hb); have n1_ := Aside0.mk (below_step (by repeat (first | (with_reducible first | exact HB.out | apply below_alloc | apply pw_below_drewN | apply below_drew1 | refine below_set ?_ GE188.out) | exact HB.out)) hb); clear BK188; clear HB; have BK188 := n0_; have HB := n1_; clear n0_ n1_; (try clear hb); (try clear hb2); (try clear hk); (try clear hi)))
                go_ret
                exact ⟨by first | rfl | (simp [errW_none, errW_some] <;> rfl) | (simp [*, errW_none, errW_some] <;> rfl), by repeat (first | (with_reducible first | exact HB.out | apply below_alloc | apply pw_below_drewN | apply below_drew1 | refine below_set ?_ GE188.out) | exact HB.out)⟩
              · rw [if_neg c26] at H
                have c26b0 : (t186 == 0) = false := beq_eq_false_iff_ne.mpr c26
                have c26b1 : (t186 != 0) = true := bne_iff_ne.mpr c26
                obtain rfl := Option.some.inj H
                have hcz30_0 : wc.cell? ⟨gb188, 0, none⟩ = some (.int .i64 t183) := (blk_cell BK188.out 0).trans rfl
                have hcz30_1 : wc.cell? ⟨gb188, 1, none⟩ = some (.int .i64 t184) := (blk_cell BK188.out 1).trans rfl
                have hcz30_2 : wc.cell? ⟨gb188, 2, none⟩ = some (.int .i64 t185) := (blk_cell BK188.out 2).trans rfl
                have hcz30_3 : wc.cell? ⟨gb188, 3, none⟩ = some (.int .i64 t186) := (blk_cell BK188.out 3).trans rfl
                have hfz30_0 := blk_frozen BK188.out 0
                have hfz30_1 := blk_frozen BK188.out 1
                have hfz30_2 := blk_frozen BK188.out 2
                have hfz30_3 := blk_frozen BK188.out 3
                go_wp2
                go_ret
                exact ⟨by first | rfl | (simp [errW_none, errW_some] <;> rfl) | (simp [*, errW_none, errW_some] <;> rfl), by repeat (first | (with_reducible first | exact HB.out | apply below_alloc | apply pw_below_drewN | apply below_drew1 | refine below_set ?_ GE188.out) | exact HB.out)⟩
            · rw [if_neg c25] at H
              have c25b0 : (t185 == 0) = false := beq_eq_false_iff_ne.mpr c25
              have c25b1 : (t185 != 0) = true := bne_iff_ne.mpr c25
              obtain rfl := Option.some.inj H
              have hcz31_0 : wc.cell? ⟨gb188, 0, none⟩ = some (.int .i64 t183) := (blk_cell BK188.out 0).trans rfl
              have hcz31_1 : wc.cell? ⟨gb188, 1, none⟩ = some (.int .i64 t184) := (blk_cell BK188.out 1).trans rfl
              have hcz31_2 : wc.cell? ⟨gb188, 2, none⟩ = some (.int .i64 t185) := (blk_cell BK188.out 2).trans rfl
              have hcz31_3 : wc.cell? ⟨gb188, 3, none⟩ = some (.int .i64 t186) := (blk_cell BK188.out 3).trans rfl
              have hfz31_0 := blk_frozen BK188.out 0
              have hfz31_1 := blk_frozen BK188.out 1
              have hfz31_2 := blk_frozen BK188.out 2
              have hfz31_3 := blk_frozen BK188.out 3
              go_wp2
              go_ret
              exact ⟨by first | rfl | (simp [errW_none, errW_some] <;> rfl) | (simp [*, errW_none, errW_some] <;> rfl), by repeat (first | (with_reducible first | exact HB.out | apply below_alloc | apply pw_below_drewN | apply below_drew1 | refine below_set ?_ GE188.out) | exact HB.out)⟩
          · rw [if_neg c24] at H
            have c24b0 : decide (t184 ≤ t182) = false := decide_eq_false c24
            clear c24
            obtain rfl := Option.some.inj H
            have hcz32_0 : wc.cell? ⟨gb188, 0, none⟩ = some (.int .i64 t183) := (blk_cell BK188.out 0).trans rfl
            have hcz32_1 : wc.cell? ⟨gb188, 1, none⟩ = some (.int .i64 t184) := (blk_cell BK188.out 1).trans rfl
            have hcz32_2 : wc.cell? ⟨gb188, 2, none⟩ = some (.int .i64 t185) := (blk_cell BK188.out 2).trans rfl
            have hcz32_3 : wc.cell? ⟨gb188, 3, none⟩ = some (.int .i64 t186) := (blk_cell BK188.out 3).trans rfl
            have hfz32_0 := blk_frozen BK188.out 0
            have hfz32_1 := blk_frozen BK188.out 1
            have hfz32_2 := blk_frozen BK188.out 2
            have hfz32_3 := blk_frozen BK188.out 3
            go_wp2
            go_ret
            exact ⟨by first | rfl | (simp [errW_none, errW_some] <;> rfl) | (simp [*, errW_none, errW_some] <;> rfl), by repeat (first | (with_reducible first | exact HB.out | apply below_alloc | apply pw_below_drewN | apply below_drew1 | refine below_set ?_ GE188.out) | exact HB.out)⟩
        · rw [if_neg c23] at H
          have c23b0 : ((wrap64 (1 + t180)) == 2) = false := beq_eq_false_iff_ne.mpr c23
          have c23b1 : ((wrap64 (1 + t180)) != 2) = true := bne_iff_ne.mpr c23
          by_cases c33 : t183 = t181
          · rw [if_pos c33] at H
            have c33b0 : (t183 == t181) = true := beq_iff_eq.mpr c33
            have c33b1 : (t183 != t181) = false := bne_eq_false_iff_eq.mpr c33
            clear c33
            replace H := Option.bind_eq_some_iff.mp H
            obtain ⟨t190, A340, H⟩ := H
            replace H : (some t190) = some r := H
            have A34 := Aside0.mk A340
            clear A340
            obtain rfl := Option.some.inj H
            have hcz35_0 : wc.cell? ⟨gb188, 0, none⟩ = some (.int .i64 t183) := (blk_cell BK188.out 0).trans rfl
            have hcz35_1 : wc.cell? ⟨gb188, 1, none⟩ = some (.int .i64 t184) := (blk_cell BK188.out 1).trans rfl
            have hcz35_2 : wc.cell? ⟨gb188, 2, none⟩ = some (.int .i64 t185) := (blk_cell BK188.out 2).trans rfl
            have hcz35_3 : wc.cell? ⟨gb188, 3, none⟩ = some (.int .i64 t186) := (blk_cell BK188.out 3).trans rfl
            have hfz35_0 := blk_frozen BK188.out 0
            have hfz35_1 := blk_frozen BK188.out 1
            have hfz35_2 := blk_frozen BK188.out 2
            have hfz35_3 := blk_frozen BK188.out 3
            go_wp2_with (first | (go_at_call 11; (with_reducible refine (customslaw28_awake.calls kj7  t190 _ ?side1 A34.out).mono ?_); (case side1 => first | (with_reducible exact hGL) | exact GL.below hGL (by repeat (first | (with_reducible first | exact HB.out | apply below_alloc | apply pw_below_drewN | apply below_drew1 | refine below_set ?_ GE188.out) | exact HB.out)) | (repeat (first | exact hGL | apply GL.drewN | apply GL.drew))); rintro e w36 ⟨rfl, hb⟩; have n0_ := Aside0.mk (blk_below (g := gb188) (o := .cells #[.int .i64 t183, .int .i64 t184, .int .i64 t185, .int .i64 t186] 24 (0, 0)) (by (with_reducible repeat (first | refine blk_drewN ?_ _ | refine blk_drew ?_ | refine blk_alloc ?_ _)); exact BK188.out) hb); have n1_ := Aside0.mk (below_step (by repeat (first | (with_reducible first | exact HB.out | apply below_alloc | apply pw_below_drewN | apply below_drew1 | refine below_set ?_ GE188.out) | exact HB.out)) hb); clear BK188; clear HB; have BK188 := n0_; have HB := n1_; clear n0_ n1_; (try clear hb); (try clear hb2); (try clear hk); (try clear hi)))
            go_ret
            exact ⟨by first | rfl | (simp [errW_none, errW_some] <;> rfl) | (simp [*, errW_none, errW_some] <;> rfl), by repeat (first | (with_reducible first | exact HB.out | apply below_alloc | apply pw_below_drewN | apply below_drew1 | refine below_set ?_ GE188.out) | exact HB.out)⟩
          · rw [if_neg c33] at H
            have c33b0 : (t183 == t181) = false := beq_eq_false_iff_ne.mpr c33
            have c33b1 : (t183 != t181) = true := bne_iff_ne.mpr c33
            by_cases c37 : t184 = t181
            · rw [if_pos c37] at H
              have c37b0 : (t184 == t181) = true := beq_iff_eq.mpr c37
              have c37b1 : (t184 != t181) = false := bne_eq_false_iff_eq.mpr c37
              clear c37
              replace H := Option.bind_eq_some_iff.mp H
              obtain ⟨t191, A380, H⟩ := H
              replace H : (some t191) = some r := H
              have A38 := Aside0.mk A380
              clear A380
              obtain rfl := Option.some.inj H
              have hcz39_0 : wc.cell? ⟨gb188, 0, none⟩ = some (.int .i64 t183) := (blk_cell BK188.out 0).trans rfl
              have hcz39_1 : wc.cell? ⟨gb188, 1, none⟩ = some (.int .i64 t184) := (blk_cell BK188.out 1).trans rfl
              have hcz39_2 : wc.cell? ⟨gb188, 2, none⟩ = some (.int .i64 t185) := (blk_cell BK188.out 2).trans rfl
              have hcz39_3 : wc.cell? ⟨gb188, 3, none⟩ = some (.int .i64 t186) := (blk_cell BK188.out 3).trans rfl
              have hfz39_0 := blk_frozen BK188.out 0
              have hfz39_1 := blk_frozen BK188.out 1
              have hfz39_2 := blk_frozen BK188.out 2
              have hfz39_3 := blk_frozen BK188.out 3
              go_wp2_with (first | (go_at_call 11; (with_reducible refine (customslaw28_awake.calls kj7  t191 _ ?side1 A38.out).mono ?_); (case side1 => first | (with_reducible exact hGL) | exact GL.below hGL (by repeat (first | (with_reducible first | exact HB.out | apply below_alloc | apply pw_below_drewN | apply below_drew1 | refine below_set ?_ GE188.out) | exact HB.out)) | (repeat (first | exact hGL | apply GL.drewN | apply GL.drew))); rintro e w40 ⟨rfl, hb⟩; have n0_ := Aside0.mk (blk_below (g := gb188) (o := .cells #[.int .i64 t183, .int .i64 t184, .int .i64 t185, .int .i64 t186] 24 (0, 0)) (by (with_reducible repeat (first | refine blk_drewN ?_ _ | refine blk_drew ?_ | refine blk_alloc ?_ _)); exact BK188.out) hb); have n1_ := Aside0.mk (below_step (by repeat (first | (with_reducible first | exact HB.out | apply below_alloc | apply pw_below_drewN | apply below_drew1 | refine below_set ?_ GE188.out) | exact HB.out)) hb); clear BK188; clear HB; have BK188 := n0_; have HB := n1_; clear n0_ n1_; (try clear hb); (try clear hb2); (try clear hk); (try clear hi)))
              go_ret
              exact ⟨by first | rfl | (simp [errW_none, errW_some] <;> rfl) | (simp [*, errW_none, errW_some] <;> rfl), by repeat (first | (with_reducible first | exact HB.out | apply below_alloc | apply pw_below_drewN | apply below_drew1 | refine below_set ?_ GE188.out) | exact HB.out)⟩
            · rw [if_neg c37] at H
              have c37b0 : (t184 == t181) = false := beq_eq_false_iff_ne.mpr c37
              have c37b1 : (t184 != t181) = true := bne_iff_ne.mpr c37
              by_cases c41 : t185 = t181
              · rw [if_pos c41] at H
                have c41b0 : (t185 == t181) = true := beq_iff_eq.mpr c41
                have c41b1 : (t185 != t181) = false := bne_eq_false_iff_eq.mpr c41
                clear c41
                replace H := Option.bind_eq_some_iff.mp H
                obtain ⟨t192, A420, H⟩ := H
                replace H : (some t192) = some r := H
                have A42 := Aside0.mk A420
                clear A420
                obtain rfl := Option.some.inj H
                have hcz43_0 : wc.cell? ⟨gb188, 0, none⟩ = some (.int .i64 t183) := (blk_cell BK188.out 0).trans rfl
                have hcz43_1 : wc.cell? ⟨gb188, 1, none⟩ = some (.int .i64 t184) := (blk_cell BK188.out 1).trans rfl
                have hcz43_2 : wc.cell? ⟨gb188, 2, none⟩ = some (.int .i64 t185) := (blk_cell BK188.out 2).trans rfl
                have hcz43_3 : wc.cell? ⟨gb188, 3, none⟩ = some (.int .i64 t186) := (blk_cell BK188.out 3).trans rfl
                have hfz43_0 := blk_frozen BK188.out 0
                have hfz43_1 := blk_frozen BK188.out 1
                have hfz43_2 := blk_frozen BK188.out 2
                have hfz43_3 := blk_frozen BK188.out 3
                go_wp2_with (first | (go_at_call 11; (with_reducible refine (customslaw28_awake.calls kj7  t192 _ ?side1 A42.out).mono ?_); (case side1 => first | (with_reducible exact hGL) | exact GL.below hGL (by repeat (first | (with_reducible first | exact HB.out | apply below_alloc | apply pw_below_drewN | apply below_drew1 | refine below_set ?_ GE188.out) | exact HB.out)) | (repeat (first | exact hGL | apply GL.drewN | apply GL.drew))); rintro e w44 ⟨rfl, hb⟩; have n0_ := Aside0.mk (blk_below (g := gb188) (o := .cells #[.int .i64 t183, .int .i64 t184, .int .i64 t185, .int .i64 t186] 24 (0, 0)) (by (with_reducible repeat (first | refine blk_drewN ?_ _ | refine blk_drew ?_ | refine blk_alloc ?_ _)); exact BK188.out) hb); have n1_ := Aside0.mk (below_step (by repeat (first | (with_reducible first | exact HB.out | apply below_alloc | apply pw_below_drewN | apply below_drew1 | refine below_set ?_ GE188.out) | exact HB.out)) hb); clear BK188; clear HB; have BK188 := n0_; have HB := n1_; clear n0_ n1_; (try clear hb); (try clear hb2); (try clear hk); (try clear hi)))
                go_ret
                exact ⟨by first | rfl | (simp [errW_none, errW_some] <;> rfl) | (simp [*, errW_none, errW_some] <;> rfl), by repeat (first | (with_reducible first | exact HB.out | apply below_alloc | apply pw_below_drewN | apply below_drew1 | refine below_set ?_ GE188.out) | exact HB.out)⟩
              · rw [if_neg c41] at H
                have c41b0 : (t185 == t181) = false := beq_eq_false_iff_ne.mpr c41
                have c41b1 : (t185 != t181) = true := bne_iff_ne.mpr c41
                by_cases c45 : t186 = t181
                · rw [if_pos c45] at H
                  have c45b0 : (t186 == t181) = true := beq_iff_eq.mpr c45
                  have c45b1 : (t186 != t181) = false := bne_eq_false_iff_eq.mpr c45
                  clear c45
                  replace H := Option.bind_eq_some_iff.mp H
                  obtain ⟨t193, A460, H⟩ := H
                  replace H : (some t193) = some r := H
                  have A46 := Aside0.mk A460
                  clear A460
                  obtain rfl := Option.some.inj H
                  have hcz47_0 : wc.cell? ⟨gb188, 0, none⟩ = some (.int .i64 t183) := (blk_cell BK188.out 0).trans rfl
                  have hcz47_1 : wc.cell? ⟨gb188, 1, none⟩ = some (.int .i64 t184) := (blk_cell BK188.out 1).trans rfl
                  have hcz47_2 : wc.cell? ⟨gb188, 2, none⟩ = some (.int .i64 t185) := (blk_cell BK188.out 2).trans rfl
                  have hcz47_3 : wc.cell? ⟨gb188, 3, none⟩ = some (.int .i64 t186) := (blk_cell BK188.out 3).trans rfl
                  have hfz47_0 := blk_frozen BK188.out 0
                  have hfz47_1 := blk_frozen BK188.out 1
                  have hfz47_2 := blk_frozen BK188.out 2
                  have hfz47_3 := blk_frozen BK188.out 3
                  go_wp2_with (first | (go_at_call 11; (with_reducible refine (customslaw28_awake.calls kj7  t193 _ ?side1 A46.out).mono ?_); (case side1 => first | (with_reducible exact hGL) | exact GL.below hGL (by repeat (first | (with_reducible first | exact HB.out | apply below_alloc | apply pw_below_drewN | apply below_drew1 | refine below_set ?_ GE188.out) | exact HB.out)) | (repeat (first | exact hGL | apply GL.drewN | apply GL.drew))); rintro e w48 ⟨rfl, hb⟩; have n0_ := Aside0.mk (blk_below (g := gb188) (o := .cells #[.int .i64 t183, .int .i64 t184, .int .i64 t185, .int .i64 t186] 24 (0, 0)) (by (with_reducible repeat (first | refine blk_drewN ?_ _ | refine blk_drew ?_ | refine blk_alloc ?_ _)); exact BK188.out) hb); have n1_ := Aside0.mk (below_step (by repeat (first | (with_reducible first | exact HB.out | apply below_alloc | apply pw_below_drewN | apply below_drew1 | refine below_set ?_ GE188.out) | exact HB.out)) hb); clear BK188; clear HB; have BK188 := n0_; have HB := n1_; clear n0_ n1_; (try clear hb); (try clear hb2); (try clear hk); (try clear hi)))
                  go_ret
                  exact ⟨by first | rfl | (simp [errW_none, errW_some] <;> rfl) | (simp [*, errW_none, errW_some] <;> rfl), by repeat (first | (with_reducible first | exact HB.out | apply below_alloc | apply pw_below_drewN | apply below_drew1 | refine below_set ?_ GE188.out) | exact HB.out)⟩
                · rw [if_neg c45] at H
                  have c45b0 : (t186 == t181) = false := beq_eq_false_iff_ne.mpr c45
                  have c45b1 : (t186 != t181) = true := bne_iff_ne.mpr c45
                  obtain rfl := Option.some.inj H
                  have hcz49_0 : wc.cell? ⟨gb188, 0, none⟩ = some (.int .i64 t183) := (blk_cell BK188.out 0).trans rfl
                  have hcz49_1 : wc.cell? ⟨gb188, 1, none⟩ = some (.int .i64 t184) := (blk_cell BK188.out 1).trans rfl
                  have hcz49_2 : wc.cell? ⟨gb188, 2, none⟩ = some (.int .i64 t185) := (blk_cell BK188.out 2).trans rfl
                  have hcz49_3 : wc.cell? ⟨gb188, 3, none⟩ = some (.int .i64 t186) := (blk_cell BK188.out 3).trans rfl
                  have hfz49_0 := blk_frozen BK188.out 0
                  have hfz49_1 := blk_frozen BK188.out 1
                  have hfz49_2 := blk_frozen BK188.out 2
                  have hfz49_3 := blk_frozen BK188.out 3
                  go_wp2
                  go_ret
                  exact ⟨by first | rfl | (simp [errW_none, errW_some] <;> rfl) | (simp [*, errW_none, errW_some] <;> rfl), by repeat (first | (with_reducible first | exact HB.out | apply below_alloc | apply pw_below_drewN | apply below_drew1 | refine below_set ?_ GE188.out) | exact HB.out)⟩

/-! ### customsref04_Long: function 27 -/
def customsref04_Long.f (a0 : Int) (a1 : Int) : Option (Int) := if a1 = 2 then (if (Int.tmod a0 4) = 0 then (if (Int.tmod a0 100) = 0 then (if (Int.tmod a0 400) = 0 then (some 29) else (some 28)) else (some 29)) else (some 28)) else (if a1 = 4 then (some 30) else (if a1 = 6 then (some 30) else (if a1 = 9 then (some 30) else (if a1 = 11 then (some 30) else (some 31)))))
set_option maxHeartbeats 8000000 in
set_option maxRecDepth 100000 in
theorem customsref04_Long.calls (a0 : Int) (a1 : Int) (r : Int) (w : World) (h : customsref04_Long.f a0 a1 = some r) :
    Calls Tryd.prog 27 #[.int .i64 a0, .int .i64 a1] w fun e w' => e = .returned (.int .i64 r) ∧ Drawn0 w w' := by
  have H : (if a1 = 2 then (if (Int.tmod a0 4) = 0 then (if (Int.tmod a0 100) = 0 then (if (Int.tmod a0 400) = 0 then (some 29) else (some 28)) else (some 29)) else (some 28)) else (if a1 = 4 then (some 30) else (if a1 = 6 then (some 30) else (if a1 = 9 then (some 30) else (if a1 = 11 then (some 30) else (some 31)))))) = some r := h
  clear h
  by_cases c3 : a1 = 2
  · rw [if_pos c3] at H
    have c3b0 : (a1 == 2) = true := beq_iff_eq.mpr c3
    have c3b1 : (a1 != 2) = false := bne_eq_false_iff_eq.mpr c3
    clear c3
    by_cases c4 : (Int.tmod a0 4) = 0
    · rw [if_pos c4] at H
      have c4b0 : ((Int.tmod a0 4) == 0) = true := beq_iff_eq.mpr c4
      have c4b1 : ((Int.tmod a0 4) != 0) = false := bne_eq_false_iff_eq.mpr c4
      clear c4
      by_cases c5 : (Int.tmod a0 100) = 0
      · rw [if_pos c5] at H
        have c5b0 : ((Int.tmod a0 100) == 0) = true := beq_iff_eq.mpr c5
        have c5b1 : ((Int.tmod a0 100) != 0) = false := bne_eq_false_iff_eq.mpr c5
        clear c5
        by_cases c6 : (Int.tmod a0 400) = 0
        · rw [if_pos c6] at H
          have c6b0 : ((Int.tmod a0 400) == 0) = true := beq_iff_eq.mpr c6
          have c6b1 : ((Int.tmod a0 400) != 0) = false := bne_eq_false_iff_eq.mpr c6
          clear c6
          obtain rfl := Option.some.inj H
          go_enter Tryd.func27, Tryd.ntmps27
          go_wp2
          go_ret
          exact ⟨by first | rfl | (simp; done) | (simp [*]; done), by repeat (first | exact Drawn0.refl _ | apply Drawn0.step)⟩
        · rw [if_neg c6] at H
          have c6b0 : ((Int.tmod a0 400) == 0) = false := beq_eq_false_iff_ne.mpr c6
          have c6b1 : ((Int.tmod a0 400) != 0) = true := bne_iff_ne.mpr c6
          obtain rfl := Option.some.inj H
          go_enter Tryd.func27, Tryd.ntmps27
          go_wp2
          go_ret
          exact ⟨by first | rfl | (simp; done) | (simp [*]; done), by repeat (first | exact Drawn0.refl _ | apply Drawn0.step)⟩
      · rw [if_neg c5] at H
        have c5b0 : ((Int.tmod a0 100) == 0) = false := beq_eq_false_iff_ne.mpr c5
        have c5b1 : ((Int.tmod a0 100) != 0) = true := bne_iff_ne.mpr c5
        obtain rfl := Option.some.inj H
        go_enter Tryd.func27, Tryd.ntmps27
        go_wp2
        go_ret
        exact ⟨by first | rfl | (simp; done) | (simp [*]; done), by repeat (first | exact Drawn0.refl _ | apply Drawn0.step)⟩
    · rw [if_neg c4] at H
      have c4b0 : ((Int.tmod a0 4) == 0) = false := beq_eq_false_iff_ne.mpr c4
      have c4b1 : ((Int.tmod a0 4) != 0) = true := bne_iff_ne.mpr c4
      obtain rfl := Option.some.inj H
      go_enter Tryd.func27, Tryd.ntmps27
      go_wp2
      go_ret
      exact ⟨by first | rfl | (simp; done) | (simp [*]; done), by repeat (first | exact Drawn0.refl _ | apply Drawn0.step)⟩
  · rw [if_neg c3] at H
    have c3b0 : (a1 == 2) = false := beq_eq_false_iff_ne.mpr c3
    have c3b1 : (a1 != 2) = true := bne_iff_ne.mpr c3
    by_cases c7 : a1 = 4
    · rw [if_pos c7] at H
      have c7b0 : (a1 == 4) = true := beq_iff_eq.mpr c7
      have c7b1 : (a1 != 4) = false := bne_eq_false_iff_eq.mpr c7
      clear c7
      obtain rfl := Option.some.inj H
      go_enter Tryd.func27, Tryd.ntmps27
      go_wp2
      go_ret
      exact ⟨by first | rfl | (simp; done) | (simp [*]; done), by repeat (first | exact Drawn0.refl _ | apply Drawn0.step)⟩
    · rw [if_neg c7] at H
      have c7b0 : (a1 == 4) = false := beq_eq_false_iff_ne.mpr c7
      have c7b1 : (a1 != 4) = true := bne_iff_ne.mpr c7
      by_cases c8 : a1 = 6
      · rw [if_pos c8] at H
        have c8b0 : (a1 == 6) = true := beq_iff_eq.mpr c8
        have c8b1 : (a1 != 6) = false := bne_eq_false_iff_eq.mpr c8
        clear c8
        obtain rfl := Option.some.inj H
        go_enter Tryd.func27, Tryd.ntmps27
        go_wp2
        go_ret
        exact ⟨by first | rfl | (simp; done) | (simp [*]; done), by repeat (first | exact Drawn0.refl _ | apply Drawn0.step)⟩
      · rw [if_neg c8] at H
        have c8b0 : (a1 == 6) = false := beq_eq_false_iff_ne.mpr c8
        have c8b1 : (a1 != 6) = true := bne_iff_ne.mpr c8
        by_cases c9 : a1 = 9
        · rw [if_pos c9] at H
          have c9b0 : (a1 == 9) = true := beq_iff_eq.mpr c9
          have c9b1 : (a1 != 9) = false := bne_eq_false_iff_eq.mpr c9
          clear c9
          obtain rfl := Option.some.inj H
          go_enter Tryd.func27, Tryd.ntmps27
          go_wp2
          go_ret
          exact ⟨by first | rfl | (simp; done) | (simp [*]; done), by repeat (first | exact Drawn0.refl _ | apply Drawn0.step)⟩
        · rw [if_neg c9] at H
          have c9b0 : (a1 == 9) = false := beq_eq_false_iff_ne.mpr c9
          have c9b1 : (a1 != 9) = true := bne_iff_ne.mpr c9
          by_cases c10 : a1 = 11
          · rw [if_pos c10] at H
            have c10b0 : (a1 == 11) = true := beq_iff_eq.mpr c10
            have c10b1 : (a1 != 11) = false := bne_eq_false_iff_eq.mpr c10
            clear c10
            obtain rfl := Option.some.inj H
            go_enter Tryd.func27, Tryd.ntmps27
            go_wp2
            go_ret
            exact ⟨by first | rfl | (simp; done) | (simp [*]; done), by repeat (first | exact Drawn0.refl _ | apply Drawn0.step)⟩
          · rw [if_neg c10] at H
            have c10b0 : (a1 == 11) = false := beq_eq_false_iff_ne.mpr c10
            have c10b1 : (a1 != 11) = true := bne_iff_ne.mpr c10
            obtain rfl := Option.some.inj H
            go_enter Tryd.func27, Tryd.ntmps27
            go_wp2
            go_ret
            exact ⟨by first | rfl | (simp; done) | (simp [*]; done), by repeat (first | exact Drawn0.refl _ | apply Drawn0.step)⟩

/-! ### customsref04_Day: function 35 -/
def customsref04_Day.f (a0 : Int) : Option (Bool) := if a0 ≥ 0 then (some (decide (a0 ≤ 36524))) else (some false)
set_option maxHeartbeats 8000000 in
set_option maxRecDepth 100000 in
theorem customsref04_Day.calls (a0 : Int) (r : Bool) (w : World) (h : customsref04_Day.f a0 = some r) :
    Calls Tryd.prog 35 #[.int .i64 a0] w fun e w' => e = .returned (.bool r) ∧ Drawn0 w w' := by
  have H : (if a0 ≥ 0 then (some (decide (a0 ≤ 36524))) else (some false)) = some r := h
  clear h
  by_cases c2 : a0 ≥ 0
  · rw [if_pos c2] at H
    have c2b0 : decide (0 ≤ a0) = true := decide_eq_true c2
    clear c2
    obtain rfl := Option.some.inj H
    go_enter Tryd.func35, Tryd.ntmps35
    go_wp2
    go_ret
    exact ⟨by first | rfl | (simp; done) | (simp [*]; done), by repeat (first | exact Drawn0.refl _ | apply Drawn0.step)⟩
  · rw [if_neg c2] at H
    have c2b0 : decide (0 ≤ a0) = false := decide_eq_false c2
    clear c2
    obtain rfl := Option.some.inj H
    go_enter Tryd.func35, Tryd.ntmps35
    go_wp2
    go_ret
    exact ⟨by first | rfl | (simp; done) | (simp [*]; done), by repeat (first | exact Drawn0.refl _ | apply Drawn0.step)⟩

/-! ### customsref04_Of: function 26 -/
def customsref04_Of.l0 : Nat → Int → Int → Int → Option (Int × Int × Int × Int)
  | 0, _, _, _ => none
  | k + 1, x0, x4, x5 => (customsref04_Long.f x4 x5).bind fun t196 => (if x0 ≥ t196 then ((customsref04_Long.f x4 x5).bind fun t197 => (if (wrap64 (x5 + 1)) > 12 then (customsref04_Of.l0 k (wrap64 (x0 - t197)) (wrap64 (x4 + 1)) 1) else (customsref04_Of.l0 k (wrap64 (x0 - t197)) x4 (wrap64 (x5 + 1))))) else (some (x4, x5, wrap64 (x0 + 1), 0)))
def customsref04_Of.f (k : Nat) (a0 : Int) : Option (Int × Int × Int × Int) := (customsref04_Day.f a0).bind fun t195 => (if t195 = true then (customsref04_Of.l0 k a0 2000 1) else (some (0, 0, 0, 2)))
theorem customsref04_Of.mono_l : ∀ k, (∀ y0 y1 y2, LeO (customsref04_Of.l0 k y0 y1 y2) (customsref04_Of.l0 (k + 1) y0 y1 y2))
  | 0 => fun _ _ _ r h => by simp [customsref04_Of.l0] at h
  | k + 1 => by
    have ih0 := customsref04_Of.mono_l k
    · intro y0 y1 y2
      unfold customsref04_Of.l0
      repeat' first
      | (with_reducible exact ih0 _ _ _)
      | (with_reducible exact LeO.refl _)
      | (with_reducible exact LeO.none _)
      | (with_reducible refine LeO.ite ?_ ?_)
      | (with_reducible refine LeO.bind ?_ (fun _ => ?_))
      | exact ih0 _ _ _
      | exact LeO.none _
      | refine LeO.ite ?_ ?_
      | refine LeO.bind ?_ (fun _ => ?_)
theorem customsref04_Of.mono : ∀ a0 k, LeO (customsref04_Of.f k a0) (customsref04_Of.f (k + 1) a0) := by
  intro a0 k
  have ih0 := customsref04_Of.mono_l k
  unfold customsref04_Of.f
  repeat' first
      | (with_reducible exact ih0 _ _ _)
      | (with_reducible exact LeO.refl _)
      | (with_reducible exact LeO.none _)
      | (with_reducible refine LeO.ite ?_ ?_)
      | (with_reducible refine LeO.bind ?_ (fun _ => ?_))
      | exact ih0 _ _ _
      | exact LeO.none _
      | refine LeO.ite ?_ ?_
      | refine LeO.bind ?_ (fun _ => ?_)
set_option maxHeartbeats 8000000 in
set_option maxRecDepth 100000 in
theorem customsref04_Of.calls (k : Nat) (a0 : Int) (r1 : Int) (r2 : Int) (r3 : Int) (r4 : Int) (w : World) (h : customsref04_Of.f k a0 = some (r1, r2, r3, r4)) :
    Calls Tryd.prog 26 #[.int .i64 a0] w fun e w' => e = .returned (.tuple #[.agg #[.int .i64 r1, .int .i64 r2, .int .i64 r3], .int .i64 r4]) ∧ Below w.heap.size w w' := by
  have hu50 := Tryd.underlying50
  have HB := Aside0.mk (Below.refl w.heap.size w)
  have H : ((customsref04_Day.f a0).bind fun t195 => (if t195 = true then (customsref04_Of.l0 k a0 2000 1) else (some (0, 0, 0, 2)))) = some (r1, r2, r3, r4) := h
  clear h
  replace H := Option.bind_eq_some_iff.mp H
  obtain ⟨t195, A20, H⟩ := H
  replace H : (if t195 = true then (customsref04_Of.l0 k a0 2000 1) else (some (0, 0, 0, 2))) = some (r1, r2, r3, r4) := H
  have A2 := Aside0.mk A20
  clear A20
  by_cases c3 : t195 = true
  · subst c3
    have H1 : (customsref04_Of.l0 k a0 2000 1) = some (r1, r2, r3, r4) := by rw [if_pos rfl] at H; exact H
    clear H
    have H := H1
    clear H1
    have H' := Aside0.mk H
    clear H
    go_enter Tryd.func26, Tryd.ntmps26
    go_wp2_with (first | ((with_reducible refine gate_dst (N := 2) rfl ?_); refine box_event ?hg (N := 2) ?hd (cs := #[.int .i64 0, .int .i64 0, .int .i64 0]) (t := 50) ?hr ?_; (case hd => rfl); (case hg => rfl); (case hr => first | (go_simp; done) | (go_simp; rfl)); intro gb194 hg w4 hbox hb; have n0_ := Aside0.mk (below_step (by repeat (first | (with_reducible first | exact HB.out | apply below_alloc | apply pw_below_drewN | apply below_drew1) | exact HB.out)) hb); have n1_ := Aside0.mk (hbox); have n2_ := Aside0.mk ((by rw [hg]; exact (below_size (by repeat (first | (with_reducible first | exact HB.out | apply below_alloc | apply pw_below_drewN | apply below_drew1) | exact HB.out))) : w.heap.size ≤ gb194)); have n3_ := Aside0.mk ((by rw [hg]; exact (below_size (by repeat (first | (with_reducible first | exact HB.out | apply below_alloc | apply pw_below_drewN | apply below_drew1) | exact HB.out))) : w.heap.size ≤ gb194)); clear HB; have HB := n0_; have BK194 := n1_; have GW194 := n2_; have GE194 := n3_; clear n0_ n1_ n2_ n3_; clear hb hbox hg) | ((with_reducible refine gate_callee (f := 35) rfl ?_); refine goesL_ (some 7) rfl rfl Tryd.func35 (by kernel_rfl) rfl #[.int .i64 a0] rfl (by (try simp only [List.map_toArray, List.map_cons, List.map_nil]); first | done | rfl | (simp only [List.length_drop, List.length_take]; rfl)) ?_; (with_reducible refine (customsref04_Day.calls a0 true _ A2.out).mono ?_); rintro e w' ⟨rfl, ⟨nd, rfl⟩⟩; refine ⟨_, rfl, ?_⟩))
    go_loopg [0, 4, 5] k (fun kq v0 v4 v5 w' => ∃ (x0_1 : Int) (x4_1 : Int) (x5_1 : Int), v0 = .int .i64 x0_1 ∧ v4 = .int .i64 x4_1 ∧ v5 = .int .i64 x5_1 ∧ Aside0 (customsref04_Of.l0 kq x0_1 x4_1 x5_1 = some (r1, r2, r3, r4)) ∧ Aside0 (kq ≤ k) ∧ Aside0 (w'.heap[gb194]? = some (.cells #[.int .i64 0, .int .i64 0, .int .i64 0] 50 (0, 0))) ∧ Aside0 (Below w.heap.size w w'))
    case atStart => exact ⟨(a0), (2000), (1), (by first | rfl | (simp; done) | (simp [*]; done)), (by first | rfl | (simp; done) | (simp [*]; done)), (by first | rfl | (simp; done) | (simp [*]; done)), H', ⟨Nat.le_refl _⟩, ⟨by (with_reducible repeat (first | refine blk_drewN ?_ _ | refine blk_drew ?_ | refine blk_alloc ?_ _)); exact BK194.out⟩, ⟨by repeat (first | (with_reducible first | exact HB.out | apply below_alloc | apply pw_below_drewN | apply below_drew1 | refine below_set ?_ GE194.out) | exact HB.out)⟩⟩
    case round =>
      clear H'
      try clear c2
      try clear p2
      try clear c3
      obtain ⟨x0_1, x4_1, x5_1, rfl, rfl, rfl, HA, HK1, BK194, HB⟩ := hrel
      cases gk with
      | zero => exact absurd HA.out (by simp [customsref04_Of.l0])
      | succ k1 =>
        have H := HA.out
        clear HA
        simp only [customsref04_Of.l0] at H
        replace H := Option.bind_eq_some_iff.mp H
        obtain ⟨t196, A50, H⟩ := H
        replace H : (if x0_1 ≥ t196 then ((customsref04_Long.f x4_1 x5_1).bind fun t197 => (if (wrap64 (x5_1 + 1)) > 12 then (customsref04_Of.l0 k1 (wrap64 (x0_1 - t197)) (wrap64 (x4_1 + 1)) 1) else (customsref04_Of.l0 k1 (wrap64 (x0_1 - t197)) x4_1 (wrap64 (x5_1 + 1))))) else (some (x4_1, x5_1, wrap64 (x0_1 + 1), 0))) = some (r1, r2, r3, r4) := H
        have A5 := Aside0.mk A50
        clear A50
        by_cases c6 : x0_1 ≥ t196
        · rw [if_pos c6] at H
          have c6b0 : decide (t196 ≤ x0_1) = true := decide_eq_true c6
          clear c6
          replace H := Option.bind_eq_some_iff.mp H
          obtain ⟨t197, A70, H⟩ := H
          replace H : (if (wrap64 (x5_1 + 1)) > 12 then (customsref04_Of.l0 k1 (wrap64 (x0_1 - t197)) (wrap64 (x4_1 + 1)) 1) else (customsref04_Of.l0 k1 (wrap64 (x0_1 - t197)) x4_1 (wrap64 (x5_1 + 1)))) = some (r1, r2, r3, r4) := H
          have A7 := Aside0.mk A70
          clear A70
          by_cases c8 : (wrap64 (x5_1 + 1)) > 12
          · rw [if_pos c8] at H
            have c8b0 : decide (12 < (wrap64 (x5_1 + 1))) = true := decide_eq_true c8
            clear c8
            have H' := Aside0.mk H
            clear H
            go_wp2_with (first | ((with_reducible refine gate_callee (f := 27) rfl ?_); refine goesL_ (some 13) rfl rfl Tryd.func27 (by kernel_rfl) rfl #[.int .i64 x4_1, .int .i64 x5_1] rfl (by (try simp only [List.map_toArray, List.map_cons, List.map_nil]); first | done | rfl | (simp only [List.length_drop, List.length_take]; rfl)) ?_; (with_reducible refine (customsref04_Long.calls x4_1 x5_1 t196 _ A5.out).mono ?_); rintro e w' ⟨rfl, ⟨nd, rfl⟩⟩; refine ⟨_, rfl, ?_⟩) | ((with_reducible refine gate_callee (f := 27) rfl ?_); refine goesL_ (some 18) rfl rfl Tryd.func27 (by kernel_rfl) rfl #[.int .i64 x4_1, .int .i64 x5_1] rfl (by (try simp only [List.map_toArray, List.map_cons, List.map_nil]); first | done | rfl | (simp only [List.length_drop, List.length_take]; rfl)) ?_; (with_reducible refine (customsref04_Long.calls x4_1 x5_1 t197 _ A7.out).mono ?_); rintro e w' ⟨rfl, ⟨nd, rfl⟩⟩; refine ⟨_, rfl, ?_⟩))
            go_roundg k1
            case measure => have := HK1.out; omega
            case rel => exact ⟨(wrap64 (x0_1 - t197)), (wrap64 (x4_1 + 1)), (1), (by first | rfl | (simp; done) | (simp [*]; done)), (by first | rfl | (simp; done) | (simp [*]; done)), (by first | rfl | (simp; done) | (simp [*]; done)), H', ⟨by have := HK1.out; omega⟩, ⟨by (with_reducible repeat (first | refine blk_drewN ?_ _ | refine blk_drew ?_ | refine blk_alloc ?_ _)); exact BK194.out⟩, ⟨by repeat (first | (with_reducible first | exact HB.out | apply below_alloc | apply pw_below_drewN | apply below_drew1 | refine below_set ?_ GE194.out) | exact HB.out)⟩⟩
          · rw [if_neg c8] at H
            have c8b0 : decide (12 < (wrap64 (x5_1 + 1))) = false := decide_eq_false c8
            clear c8
            have H' := Aside0.mk H
            clear H
            go_wp2_with (first | ((with_reducible refine gate_callee (f := 27) rfl ?_); refine goesL_ (some 13) rfl rfl Tryd.func27 (by kernel_rfl) rfl #[.int .i64 x4_1, .int .i64 x5_1] rfl (by (try simp only [List.map_toArray, List.map_cons, List.map_nil]); first | done | rfl | (simp only [List.length_drop, List.length_take]; rfl)) ?_; (with_reducible refine (customsref04_Long.calls x4_1 x5_1 t196 _ A5.out).mono ?_); rintro e w' ⟨rfl, ⟨nd, rfl⟩⟩; refine ⟨_, rfl, ?_⟩) | ((with_reducible refine gate_callee (f := 27) rfl ?_); refine goesL_ (some 18) rfl rfl Tryd.func27 (by kernel_rfl) rfl #[.int .i64 x4_1, .int .i64 x5_1] rfl (by (try simp only [List.map_toArray, List.map_cons, List.map_nil]); first | done | rfl | (simp only [List.length_drop, List.length_take]; rfl)) ?_; (with_reducible refine (customsref04_Long.calls x4_1 x5_1 t197 _ A7.out).mono ?_); rintro e w' ⟨rfl, ⟨nd, rfl⟩⟩; refine ⟨_, rfl, ?_⟩))
            go_roundg k1
            case measure => have := HK1.out; omega
            case rel => exact ⟨(wrap64 (x0_1 - t197)), (x4_1), (wrap64 (x5_1 + 1)), (by first | rfl | (simp; done) | (simp [*]; done)), (by first | rfl | (simp; done) | (simp [*]; done)), (by first | rfl | (simp; done) | (simp [*]; done)), H', ⟨by have := HK1.out; omega⟩, ⟨by (with_reducible repeat (first | refine blk_drewN ?_ _ | refine blk_drew ?_ | refine blk_alloc ?_ _)); exact BK194.out⟩, ⟨by repeat (first | (with_reducible first | exact HB.out | apply below_alloc | apply pw_below_drewN | apply below_drew1 | refine below_set ?_ GE194.out) | exact HB.out)⟩⟩
        · rw [if_neg c6] at H
          have c6b0 : decide (t196 ≤ x0_1) = false := decide_eq_false c6
          clear c6
          simp only [Option.some.injEq, Prod.mk.injEq] at H
          obtain ⟨rfl, rfl, rfl, rfl⟩ := H
          go_wp2_with (first | ((with_reducible refine gate_callee (f := 27) rfl ?_); refine goesL_ (some 13) rfl rfl Tryd.func27 (by kernel_rfl) rfl #[.int .i64 x4_1, .int .i64 x5_1] rfl (by (try simp only [List.map_toArray, List.map_cons, List.map_nil]); first | done | rfl | (simp only [List.length_drop, List.length_take]; rfl)) ?_; (with_reducible refine (customsref04_Long.calls x4_1 x5_1 t196 _ A5.out).mono ?_); rintro e w' ⟨rfl, ⟨nd, rfl⟩⟩; refine ⟨_, rfl, ?_⟩; (try (rw [drewN_self wr]; generalize hq_ : World.drewN wr _ = wr; have n0_ : Aside0 (wr.heap[gb194]? = some (.cells #[.int .i64 0, .int .i64 0, .int .i64 0] 50 (0, 0))) := ⟨by rw [← hq_]; exact (by (with_reducible repeat (first | refine blk_drewN ?_ _ | refine blk_drew ?_ | refine blk_alloc ?_ _)); exact BK194.out)⟩; have n1_ : Aside0 (Below w.heap.size w wr) := ⟨by rw [← hq_]; exact (by repeat (first | (with_reducible first | exact HB.out | apply below_alloc | apply pw_below_drewN | apply below_drew1 | refine below_set ?_ GE194.out) | exact HB.out))⟩; clear BK194 HB hq_; have BK194 := n0_; have HB := n1_; clear n0_ n1_)); have hcz9_0 : wr.cell? ⟨gb194, 0, none⟩ = some (.int .i64 0) := (blk_cell BK194.out 0).trans rfl; have hcz9_1 : wr.cell? ⟨gb194, 1, none⟩ = some (.int .i64 0) := (blk_cell BK194.out 1).trans rfl; have hcz9_2 : wr.cell? ⟨gb194, 2, none⟩ = some (.int .i64 0) := (blk_cell BK194.out 2).trans rfl; have hfz9_0 := blk_frozen BK194.out 0; have hfz9_1 := blk_frozen BK194.out 1; have hfz9_2 := blk_frozen BK194.out 2))
          refine bodyPost_ret (results_ct rfl _ _ gb194 50 #[.int .i64 x4_1, .int .i64 x5_1, .int .i64 (wrap64 (x0_1 + 1))] (0, 0) _ rfl (by (with_reducible repeat (first | refine blk_drewN ?_ _ | refine blk_drew ?_ | refine blk_alloc ?_ _)); refine blk_put (cs := #[.int .i64 x4_1, .int .i64 x5_1, .int .i64 0]) ?_ 2 _ rfl; (with_reducible repeat (first | refine blk_drewN ?_ _ | refine blk_drew ?_ | refine blk_alloc ?_ _)); refine blk_put (cs := #[.int .i64 x4_1, .int .i64 0, .int .i64 0]) ?_ 1 _ rfl; (with_reducible repeat (first | refine blk_drewN ?_ _ | refine blk_drew ?_ | refine blk_alloc ?_ _)); refine blk_put (cs := #[.int .i64 0, .int .i64 0, .int .i64 0]) ?_ 0 _ rfl; (with_reducible repeat (first | refine blk_drewN ?_ _ | refine blk_drew ?_ | refine blk_alloc ?_ _)); exact BK194.out) Tryd.underlying50 rfl (by kernel_rfl)) rfl ?_
          exact ⟨by first | rfl | (simp [errW_none, errW_some] <;> rfl) | (simp [*, errW_none, errW_some] <;> rfl), by repeat (first | (with_reducible first | exact HB.out | apply below_alloc | apply pw_below_drewN | apply below_drew1 | refine below_set ?_ GE194.out) | exact HB.out)⟩
  · replace c3 := Bool.eq_false_iff.mpr c3
    subst c3
    have H1 : (some (0, 0, 0, 2)) = some (r1, r2, r3, r4) := by rw [if_neg (show ¬ (false = true) by decide)] at H; exact H
    clear H
    have H := H1
    clear H1
    simp only [Option.some.injEq, Prod.mk.injEq] at H
    obtain ⟨rfl, rfl, rfl, rfl⟩ := H
    go_enter Tryd.func26, Tryd.ntmps26
    go_wp2_with (first | ((with_reducible refine gate_dst (N := 2) rfl ?_); refine box_event ?hg (N := 2) ?hd (cs := #[.int .i64 0, .int .i64 0, .int .i64 0]) (t := 50) ?hr ?_; (case hd => rfl); (case hg => rfl); (case hr => first | (go_simp; done) | (go_simp; rfl)); intro gb194 hg w10 hbox hb; have n0_ := Aside0.mk (below_step (by repeat (first | (with_reducible first | exact HB.out | apply below_alloc | apply pw_below_drewN | apply below_drew1) | exact HB.out)) hb); have n1_ := Aside0.mk (hbox); have n2_ := Aside0.mk ((by rw [hg]; exact (below_size (by repeat (first | (with_reducible first | exact HB.out | apply below_alloc | apply pw_below_drewN | apply below_drew1) | exact HB.out))) : w.heap.size ≤ gb194)); have n3_ := Aside0.mk ((by rw [hg]; exact (below_size (by repeat (first | (with_reducible first | exact HB.out | apply below_alloc | apply pw_below_drewN | apply below_drew1) | exact HB.out))) : w.heap.size ≤ gb194)); clear HB; have HB := n0_; have BK194 := n1_; have GW194 := n2_; have GE194 := n3_; clear n0_ n1_ n2_ n3_; clear hb hbox hg) | ((with_reducible refine gate_callee (f := 35) rfl ?_); refine goesL_ (some 7) rfl rfl Tryd.func35 (by kernel_rfl) rfl #[.int .i64 a0] rfl (by (try simp only [List.map_toArray, List.map_cons, List.map_nil]); first | done | rfl | (simp only [List.length_drop, List.length_take]; rfl)) ?_; (with_reducible refine (customsref04_Day.calls a0 false _ A2.out).mono ?_); rintro e w' ⟨rfl, ⟨nd, rfl⟩⟩; refine ⟨_, rfl, ?_⟩; (try (rw [drewN_self w10]; generalize hq_ : World.drewN w10 _ = w10; have n0_ : Aside0 (w10.heap[gb194]? = some (.cells #[.int .i64 0, .int .i64 0, .int .i64 0] 50 (0, 0))) := ⟨by rw [← hq_]; exact (by (with_reducible repeat (first | refine blk_drewN ?_ _ | refine blk_drew ?_ | refine blk_alloc ?_ _)); exact BK194.out)⟩; have n1_ : Aside0 (Below w.heap.size w w10) := ⟨by rw [← hq_]; exact (by repeat (first | (with_reducible first | exact HB.out | apply below_alloc | apply pw_below_drewN | apply below_drew1 | refine below_set ?_ GE194.out) | exact HB.out))⟩; clear BK194 HB hq_; have BK194 := n0_; have HB := n1_; clear n0_ n1_)); have hcz11_0 : w10.cell? ⟨gb194, 0, none⟩ = some (.int .i64 0) := (blk_cell BK194.out 0).trans rfl; have hcz11_1 : w10.cell? ⟨gb194, 1, none⟩ = some (.int .i64 0) := (blk_cell BK194.out 1).trans rfl; have hcz11_2 : w10.cell? ⟨gb194, 2, none⟩ = some (.int .i64 0) := (blk_cell BK194.out 2).trans rfl; have hfz11_0 := blk_frozen BK194.out 0; have hfz11_1 := blk_frozen BK194.out 1; have hfz11_2 := blk_frozen BK194.out 2))
    refine bodyPost_ret (results_ct rfl _ _ gb194 50 #[.int .i64 0, .int .i64 0, .int .i64 0] (0, 0) _ rfl (by (with_reducible repeat (first | refine blk_drewN ?_ _ | refine blk_drew ?_ | refine blk_alloc ?_ _)); refine blk_put (cs := #[.int .i64 0, .int .i64 0, .int .i64 0]) ?_ 2 _ rfl; (with_reducible repeat (first | refine blk_drewN ?_ _ | refine blk_drew ?_ | refine blk_alloc ?_ _)); refine blk_put (cs := #[.int .i64 0, .int .i64 0, .int .i64 0]) ?_ 1 _ rfl; (with_reducible repeat (first | refine blk_drewN ?_ _ | refine blk_drew ?_ | refine blk_alloc ?_ _)); refine blk_put (cs := #[.int .i64 0, .int .i64 0, .int .i64 0]) ?_ 0 _ rfl; (with_reducible repeat (first | refine blk_drewN ?_ _ | refine blk_drew ?_ | refine blk_alloc ?_ _)); exact BK194.out) Tryd.underlying50 rfl (by kernel_rfl)) rfl ?_
    exact ⟨by first | rfl | (simp [errW_none, errW_some] <;> rfl) | (simp [*, errW_none, errW_some] <;> rfl), by repeat (first | (with_reducible first | exact HB.out | apply below_alloc | apply pw_below_drewN | apply below_drew1 | refine below_set ?_ GE194.out) | exact HB.out)⟩

end Go.Proofs.YtbhknenjcbinaaaDoor.PB
