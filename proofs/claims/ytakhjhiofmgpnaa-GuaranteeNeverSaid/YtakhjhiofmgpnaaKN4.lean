/- Part 4 of the proof of guaranteeNever_holds: texts of this claim, printed and by hand, cut to what it needs (wip/tools/link.py). Lean checks every line. -/
import Derived.Test.YtakhjhiofmgpnaaKN3
-- Written by a program of this claim (wip/tools: mkprint.py, pr.sh) out of the translation: plain functions and their contracts. Lean checks every line.
namespace Go.Proofs.Ytakhjhiofmgpnaa.PB
open Go.RowKit Go.Proofs.YtakhjhiofmgpnaaW.PrintWords Go.Proofs.YtakhjhiofmgpnaaW.PrintLast Go.Proofs.YtakhjhiofmgpnaaW.PrintMore Go.Proofs.Ytakhjhiofmgpnaa.G Go.Proofs.Ytakhjhiofmgpnaa.PA
attribute [local go_sem] max2_int min2_int max_two min_two max_three min_three max_four min_four   -- for this text's walks alone
set_option linter.unusedVariables false
set_option linter.unusedSimpArgs false
def guarantee_Set.j0 : Nat → Int → Int → Int → Bool → Bool → Int → Int → Int → List (S39) → Option (Int × Int × Int × (List (S39)) × Int)
 | 0, _, _, _, _, _, _, _, _, _ => none
 | k + 1, x1, x9, x11, x12, x47, x102000, x102001, x102002, x102003 => if x47 = true then (some (0, 0, 0, ([] : List (S39)), 8)) else ((slices_Clone.f x102003).bind fun t109 => (if x12 = true then (if 0 ≤ x11 then (if x11 < (t109.length : Int) then ((some (t109.set (x11 : Int).toNat (⟨(rd_T39 t109 x11).f0, x9⟩ : S39) : List (S39))).bind fun y112 => ((guarantee_sum.f k y112).bind fun t113 => (if t113 > x102001 then (some (0, 0, 0, ([] : List (S39)), 16)) else (some (x102000, x102001, x102002, y112, 0))))) else (none)) else (none)) else ((slices_Insert.f t109 x11 (([(⟨x1, 0⟩ : S39)] : List (S39)))).bind fun t117 => (if 0 ≤ x11 then (if x11 < (t117.length : Int) then ((some (t117.set (x11 : Int).toNat (⟨(rd_T39 t117 x11).f0, x9⟩ : S39) : List (S39))).bind fun y120 => ((guarantee_sum.f k y120).bind fun t121 => (if t121 > x102001 then (some (0, 0, 0, ([] : List (S39)), 16)) else (some (x102000, x102001, x102002, y120, 0))))) else (none)) else (none)))))
def guarantee_Set.f (k : Nat) (a0_0 : Int) (a0_1 : Int) (a0_2 : Int) (l0_3 : List (S39)) (a1 : Int) (a2 : Int) : Option (Int × Int × Int × (List (S39)) × Int) := (guarantee_Validate.f k a0_0 a0_1 a0_2 l0_3).bind fun t103 => (if t103 = 0 then ((guarantee_within_int.f a1 1 1000000).bind fun t104 => (if t104 = true then ((guarantee_Required.f k a0_0 a0_1 a0_2 l0_3 a2).bind fun bt105 => (if bt105.2 = 0 then ((guarantee_find.f l0_3 a1).bind fun bt107 => (if bt107.2 = true then (guarantee_Set.j0 k a1 bt105.1 bt107.1 bt107.2 false a0_0 a0_1 a0_2 l0_3) else (guarantee_Set.j0 k a1 bt105.1 bt107.1 bt107.2 ((l0_3.length : Int) == 64) a0_0 a0_1 a0_2 l0_3))) else (some (0, 0, 0, ([] : List (S39)), bt105.2)))) else (some (0, 0, 0, ([] : List (S39)), 2)))) else (some (0, 0, 0, ([] : List (S39)), t103)))
theorem guarantee_Set.mono_l : ∀ k, (∀ y0 y1 y2 y3 y4 y5 y6 y7 y8, LeO (guarantee_Set.j0 k y0 y1 y2 y3 y4 y5 y6 y7 y8) (guarantee_Set.j0 (k + 1) y0 y1 y2 y3 y4 y5 y6 y7 y8))
 | 0 => fun _ _ _ _ _ _ _ _ _ r h => by simp [guarantee_Set.j0] at h
 | k + 1 => by
  have ih0 := guarantee_Set.mono_l k
  ·intro y0 y1 y2 y3 y4 y5 y6 y7 y8
   unfold guarantee_Set.j0
   repeat' first
   | (with_reducible exact ih0 _ _ _ _ _ _ _ _ _)
   | (with_reducible exact guarantee_Required.mono _ _ _ _ _ _)
   | (with_reducible exact guarantee_Validate.mono _ _ _ _ _)
   | (with_reducible exact guarantee_sum.mono _ _)
   | (with_reducible exact LeO.refl _)
   | (with_reducible exact LeO.none _)
   | (with_reducible refine LeO.ite ?_ ?_)
   | (with_reducible refine LeO.bind ?_ (fun _ => ?_))
theorem guarantee_Set.mono : ∀ a0 a1 a2 a3 a4 a5 k, LeO (guarantee_Set.f k a0 a1 a2 a3 a4 a5) (guarantee_Set.f (k + 1) a0 a1 a2 a3 a4 a5) := by
 intro a0 a1 a2 a3 a4 a5 k
 have ih0 := guarantee_Set.mono_l k
 unfold guarantee_Set.f
 repeat' first
   | (with_reducible exact ih0 _ _ _ _ _ _ _ _ _)
   | (with_reducible exact guarantee_Required.mono _ _ _ _ _ _)
   | (with_reducible exact guarantee_Validate.mono _ _ _ _ _)
   | (with_reducible exact guarantee_sum.mono _ _)
   | (with_reducible exact LeO.refl _)
   | (with_reducible exact LeO.none _)
   | (with_reducible refine LeO.ite ?_ ?_)
   | (with_reducible refine LeO.bind ?_ (fun _ => ?_))
set_option maxHeartbeats 8000000 in
set_option maxRecDepth 100000 in
theorem guarantee_Set.calls (k : Nat) (a0_0 : Int) (a0_1 : Int) (a0_2 : Int) (A0_3 : Option Addr) (c0_3 : Nat) (l0_3 : List (S39)) (a1 : Int) (a2 : Int) (r1 : Int) (r2 : Int) (r3 : Int) (r4 : List (S39)) (r5 : Int) (w : World) (hr0_3 : Kd.C k39 w A0_3 l0_3.length l0_3) (hc0_3 : l0_3.length ≤ c0_3) (h : guarantee_Set.f k a0_0 a0_1 a0_2 l0_3 a1 a2 = some (r1, r2, r3, r4, r5)) :
  Calls Try.prog 19 #[.agg #[.int .i64 a0_0, .int .i64 a0_1, .int .i64 a0_2, .slice A0_3 l0_3.length c0_3], .int .i64 a1, .int .i64 a2] w fun e w' => ∃ v3_ : Value, e = .returned (.tuple #[.agg #[.int .i64 r1, .int .i64 r2, .int .i64 r3, v3_], .int .i64 r5]) ∧ Kd.R k39 39 w' w.heap.size (fun _ => True) v3_ r4 ∧ Below w.heap.size w w' := by
 have hu25 := Try.underlying25
 have hu39 := Try.underlying39
 have HR0_3 := Aside0.mk hr0_3
 have HC0_3 := Aside0.mk hc0_3
 clear hr0_3 hc0_3
 have HB := Aside0.mk (Below.refl w.heap.size w)
 have H : ((guarantee_Validate.f k a0_0 a0_1 a0_2 l0_3).bind fun t103 => (if t103 = 0 then ((guarantee_within_int.f a1 1 1000000).bind fun t104 => (if t104 = true then ((guarantee_Required.f k a0_0 a0_1 a0_2 l0_3 a2).bind fun bt105 => (if bt105.2 = 0 then ((guarantee_find.f l0_3 a1).bind fun bt107 => (if bt107.2 = true then (guarantee_Set.j0 k a1 bt105.1 bt107.1 bt107.2 false a0_0 a0_1 a0_2 l0_3) else (guarantee_Set.j0 k a1 bt105.1 bt107.1 bt107.2 ((l0_3.length : Int) == 64) a0_0 a0_1 a0_2 l0_3))) else (some (0, 0, 0, ([] : List (S39)), bt105.2)))) else (some (0, 0, 0, ([] : List (S39)), 2)))) else (some (0, 0, 0, ([] : List (S39)), t103)))) = some (r1, r2, r3, r4, r5) := h
 clear h
 replace H := Option.bind_eq_some_iff.mp H
 obtain ⟨t103, A40, H⟩ := H
 replace H : (if t103 = 0 then ((guarantee_within_int.f a1 1 1000000).bind fun t104 => (if t104 = true then ((guarantee_Required.f k a0_0 a0_1 a0_2 l0_3 a2).bind fun bt105 => (if bt105.2 = 0 then ((guarantee_find.f l0_3 a1).bind fun bt107 => (if bt107.2 = true then (guarantee_Set.j0 k a1 bt105.1 bt107.1 bt107.2 false a0_0 a0_1 a0_2 l0_3) else (guarantee_Set.j0 k a1 bt105.1 bt107.1 bt107.2 ((l0_3.length : Int) == 64) a0_0 a0_1 a0_2 l0_3))) else (some (0, 0, 0, ([] : List (S39)), bt105.2)))) else (some (0, 0, 0, ([] : List (S39)), 2)))) else (some (0, 0, 0, ([] : List (S39)), t103))) = some (r1, r2, r3, r4, r5) := H
 have A4 := Aside0.mk A40
 clear A40
 by_cases c5 : t103 = 0
 ·rw [if_pos c5] at H
  have c5b0 : (t103 == 0) = true := beq_iff_eq.mpr c5
  have c5b1 : (t103 != 0) = false := bne_eq_false_iff_eq.mpr c5
  clear c5
  replace H := Option.bind_eq_some_iff.mp H
  obtain ⟨t104, A60, H⟩ := H
  replace H : (if t104 = true then ((guarantee_Required.f k a0_0 a0_1 a0_2 l0_3 a2).bind fun bt105 => (if bt105.2 = 0 then ((guarantee_find.f l0_3 a1).bind fun bt107 => (if bt107.2 = true then (guarantee_Set.j0 k a1 bt105.1 bt107.1 bt107.2 false a0_0 a0_1 a0_2 l0_3) else (guarantee_Set.j0 k a1 bt105.1 bt107.1 bt107.2 ((l0_3.length : Int) == 64) a0_0 a0_1 a0_2 l0_3))) else (some (0, 0, 0, ([] : List (S39)), bt105.2)))) else (some (0, 0, 0, ([] : List (S39)), 2))) = some (r1, r2, r3, r4, r5) := H
  have A6 := Aside0.mk A60
  clear A60
  by_cases c7 : t104 = true
  ·subst c7
   have H1 : ((guarantee_Required.f k a0_0 a0_1 a0_2 l0_3 a2).bind fun bt105 => (if bt105.2 = 0 then ((guarantee_find.f l0_3 a1).bind fun bt107 => (if bt107.2 = true then (guarantee_Set.j0 k a1 bt105.1 bt107.1 bt107.2 false a0_0 a0_1 a0_2 l0_3) else (guarantee_Set.j0 k a1 bt105.1 bt107.1 bt107.2 ((l0_3.length : Int) == 64) a0_0 a0_1 a0_2 l0_3))) else (some (0, 0, 0, ([] : List (S39)), bt105.2)))) = some (r1, r2, r3, r4, r5) := by rw [if_pos rfl] at H; exact H
   clear H
   have H := H1
   clear H1
   replace H := Option.bind_eq_some_iff.mp H
   obtain ⟨⟨t105, t106⟩, A80, H⟩ := H
   replace H : (if t106 = 0 then ((guarantee_find.f l0_3 a1).bind fun bt107 => (if bt107.2 = true then (guarantee_Set.j0 k a1 t105 bt107.1 bt107.2 false a0_0 a0_1 a0_2 l0_3) else (guarantee_Set.j0 k a1 t105 bt107.1 bt107.2 ((l0_3.length : Int) == 64) a0_0 a0_1 a0_2 l0_3))) else (some (0, 0, 0, ([] : List (S39)), t106))) = some (r1, r2, r3, r4, r5) := H
   have A8 := Aside0.mk A80
   clear A80
   by_cases c9 : t106 = 0
   ·rw [if_pos c9] at H
    have c9b0 : (t106 == 0) = true := beq_iff_eq.mpr c9
    have c9b1 : (t106 != 0) = false := bne_eq_false_iff_eq.mpr c9
    clear c9
    replace H := Option.bind_eq_some_iff.mp H
    obtain ⟨⟨t107, t108⟩, A100, H⟩ := H
    replace H : (if t108 = true then (guarantee_Set.j0 k a1 t105 t107 t108 false a0_0 a0_1 a0_2 l0_3) else (guarantee_Set.j0 k a1 t105 t107 t108 ((l0_3.length : Int) == 64) a0_0 a0_1 a0_2 l0_3)) = some (r1, r2, r3, r4, r5) := H
    have A10 := Aside0.mk A100
    clear A100
    have HC11 := Aside0.mk H
    clear H
    go_enter Try.func19, Try.ntmps19
    go_upto_region 10 with (first | ((with_reducible refine gate_dst (N := 3) rfl ?_); refine box_event ?hg (N := 3) ?hd (cs := #[.int .i64 a0_0, .int .i64 a0_1, .int .i64 a0_2, .slice A0_3 l0_3.length c0_3]) (t := 25) ?hr ?_; (case hd => rfl); (case hg => rfl); (case hr => first | (go_simp; done) | (go_simp; rfl)); intro gb101 hg w12 hbox hb; have qb_ := below_both (by repeat (first | (with_reducible first | exact HB.out | apply below_alloc | apply pw_below_drewN | apply below_drew1) | exact HB.out)) hb; have n0_ := Aside0.mk (qb_.1); have n1_ := Aside0.mk (hbox); have n2_ := Aside0.mk ((by rw [hg]; exact qb_.2 : w.heap.size ≤ gb101)); have n3_ := n2_; clear HB; have HB := n0_; have BK101 := n1_; have GW101 := n2_; have GE101 := n3_; clear qb_; clear n0_ n1_ n2_ n3_; clear hb hbox hg) | ((with_reducible refine gate_dst (N := 6) rfl ?_); refine box_event ?hg (N := 6) ?hd (cs := #[.int .i64 0, .int .i64 0, .int .i64 0, .slice none 0 0]) (t := 25) ?hr ?_; (case hd => rfl); (case hg => rfl); (case hr => first | (go_simp; done) | (go_simp; rfl)); intro gb102 hg w13 hbox hb; have qb_ := below_both (by repeat (first | (with_reducible first | exact HB.out | apply below_alloc | apply pw_below_drewN | apply below_drew1 | refine below_set ?_ GE101.out) | exact HB.out)) hb; have q1_ := blk_below2 (g := gb101) (o := .cells #[.int .i64 a0_0, .int .i64 a0_1, .int .i64 a0_2, .slice A0_3 l0_3.length c0_3] 25 (0, 0)) (by (with_reducible repeat (first | refine blk_drewN ?_ _ | refine blk_drew ?_ | refine blk_alloc ?_ _)); exact BK101.out) hb; have n0_ := Aside0.mk (q1_.1); have n1_ := Aside0.mk (qb_.1); have n2_ := Aside0.mk (hbox); have n3_ := Aside0.mk ((by rw [hg]; exact qb_.2 : w.heap.size ≤ gb102)); have n4_ := n3_; have n5_ := Aside0.mk ((by rw [hg]; exact Nat.ne_of_lt q1_.2 : gb101 ≠ gb102)); have n6_ := Aside0.mk (Ne.symm n5_.out); clear BK101; clear HB; have BK101 := n0_; have HB := n1_; have BK102 := n2_; have GW102 := n3_; have GE102 := n4_; have NB101_102 := n5_; have NB102_101 := n6_; clear q1_; clear qb_; clear n0_ n1_ n2_ n3_ n4_ n5_ n6_; clear hb hbox hg; have hnb14 := NB101_102.out; have hnc14 := NB102_101.out; have hcz15_0 : w13.cell? ⟨gb101, 0, none⟩ = some (.int .i64 a0_0) := (blk_cell BK101.out 0).trans rfl; have hcz15_1 : w13.cell? ⟨gb101, 1, none⟩ = some (.int .i64 a0_1) := (blk_cell BK101.out 1).trans rfl; have hcz15_2 : w13.cell? ⟨gb101, 2, none⟩ = some (.int .i64 a0_2) := (blk_cell BK101.out 2).trans rfl; have hcz15_3 : w13.cell? ⟨gb101, 3, none⟩ = some (.slice A0_3 l0_3.length c0_3) := (blk_cell BK101.out 3).trans rfl; have hfz15_0 := blk_frozen BK101.out 0; have hfz15_1 := blk_frozen BK101.out 1; have hfz15_2 := blk_frozen BK101.out 2; have hfz15_3 := blk_frozen BK101.out 3) | ((with_reducible refine gate_callee (f := 11) rfl ?_); refine goesL_ (some 14) rfl rfl Try.func11 (by kernel_rfl) rfl #[.agg #[.int .i64 a0_0, .int .i64 a0_1, .int .i64 a0_2, .slice A0_3 l0_3.length c0_3]] rfl (by (try simp only [List.map_toArray, List.map_cons, List.map_nil]); first | done | rfl | (simp only [List.length_drop, List.length_take]; rfl)) ?_; (with_reducible refine (guarantee_Validate.calls k a0_0 a0_1 a0_2 _ _ l0_3 t103 _ ?side1 ?side2 A4.out).mono ?_); (case side1 => repeat (first | exact (Kd.C_below HR0_3.out HB.out) | (with_reducible refine Kd.C_alloc ?_ _) | (with_reducible refine Kd.C_drewN ?_ _) | (with_reducible refine Kd.C_drew ?_))); (case side2 => exact HC0_3.out); rintro e w16 ⟨rfl, hb⟩; refine ⟨_, rfl, ?_⟩; have n0_ := Aside0.mk (blk_below (g := gb101) (o := .cells #[.int .i64 a0_0, .int .i64 a0_1, .int .i64 a0_2, .slice A0_3 l0_3.length c0_3] 25 (0, 0)) (by (with_reducible repeat (first | refine blk_drewN ?_ _ | refine blk_drew ?_ | refine blk_alloc ?_ _)); exact BK101.out) hb); have n1_ := Aside0.mk (blk_below (g := gb102) (o := .cells #[.int .i64 0, .int .i64 0, .int .i64 0, .slice none 0 0] 25 (0, 0)) (by (with_reducible repeat (first | refine blk_drewN ?_ _ | refine blk_drew ?_ | refine blk_alloc ?_ _)); exact BK102.out) hb); have n2_ := Aside0.mk (below_step (by repeat (first | (with_reducible first | exact HB.out | apply below_alloc | apply pw_below_drewN | apply below_drew1 | refine below_set ?_ GE101.out | refine below_set ?_ GE102.out) | exact HB.out)) hb); clear BK101; clear BK102; clear HB; have BK101 := n0_; have BK102 := n1_; have HB := n2_; clear n0_ n1_ n2_; (try clear hb); (try clear hb2); (try clear hk); (try clear hi)) | ((with_reducible refine gate_callee (f := 34) rfl ?_); refine goesL_ (some 20) rfl rfl Try.func34 (by kernel_rfl) rfl #[.int .i64 a1, .int .i64 1, .int .i64 1000000] rfl (by (try simp only [List.map_toArray, List.map_cons, List.map_nil]); first | done | rfl | (simp only [List.length_drop, List.length_take]; rfl)) ?_; (with_reducible refine (guarantee_within_int.calls a1 1 1000000 true _ A6.out).mono ?_); rintro e w' ⟨rfl, ⟨nd, rfl⟩⟩; refine ⟨_, rfl, ?_⟩; have hcz17_0 : w16.cell? ⟨gb101, 0, none⟩ = some (.int .i64 a0_0) := (blk_cell BK101.out 0).trans rfl; have hcz17_1 : w16.cell? ⟨gb101, 1, none⟩ = some (.int .i64 a0_1) := (blk_cell BK101.out 1).trans rfl; have hcz17_2 : w16.cell? ⟨gb101, 2, none⟩ = some (.int .i64 a0_2) := (blk_cell BK101.out 2).trans rfl; have hcz17_3 : w16.cell? ⟨gb101, 3, none⟩ = some (.slice A0_3 l0_3.length c0_3) := (blk_cell BK101.out 3).trans rfl; have hfz17_0 := blk_frozen BK101.out 0; have hfz17_1 := blk_frozen BK101.out 1; have hfz17_2 := blk_frozen BK101.out 2; have hfz17_3 := blk_frozen BK101.out 3) | ((with_reducible refine gate_callee (f := 17) rfl ?_); refine goesL_ (some 26) rfl rfl Try.func17 (by kernel_rfl) rfl #[.agg #[.int .i64 a0_0, .int .i64 a0_1, .int .i64 a0_2, .slice A0_3 l0_3.length c0_3], .int .i64 a2] rfl (by (try simp only [List.map_toArray, List.map_cons, List.map_nil]); first | done | rfl | (simp only [List.length_drop, List.length_take]; rfl)) ?_; (with_reducible refine (guarantee_Required.calls k a0_0 a0_1 a0_2 _ _ l0_3 a2 t105 t106 _ ?side1 ?side2 A8.out).mono ?_); (case side1 => repeat (first | exact (Kd.C_below HR0_3.out (by repeat (first | (with_reducible first | exact HB.out | apply below_alloc | apply pw_below_drewN | apply below_drew1 | refine below_set ?_ GE101.out | refine below_set ?_ GE102.out) | exact HB.out))) | (with_reducible refine Kd.C_alloc ?_ _) | (with_reducible refine Kd.C_drewN ?_ _) | (with_reducible refine Kd.C_drew ?_))); (case side2 => exact HC0_3.out); rintro e w18 ⟨rfl, hb⟩; refine ⟨_, rfl, ?_⟩; have n0_ := Aside0.mk (blk_below (g := gb101) (o := .cells #[.int .i64 a0_0, .int .i64 a0_1, .int .i64 a0_2, .slice A0_3 l0_3.length c0_3] 25 (0, 0)) (by (with_reducible repeat (first | refine blk_drewN ?_ _ | refine blk_drew ?_ | refine blk_alloc ?_ _)); exact BK101.out) hb); have n1_ := Aside0.mk (blk_below (g := gb102) (o := .cells #[.int .i64 0, .int .i64 0, .int .i64 0, .slice none 0 0] 25 (0, 0)) (by (with_reducible repeat (first | refine blk_drewN ?_ _ | refine blk_drew ?_ | refine blk_alloc ?_ _)); exact BK102.out) hb); have n2_ := Aside0.mk (below_step (by repeat (first | (with_reducible first | exact HB.out | apply below_alloc | apply pw_below_drewN | apply below_drew1 | refine below_set ?_ GE101.out | refine below_set ?_ GE102.out) | exact HB.out)) hb); clear BK101; clear BK102; clear HB; have BK101 := n0_; have BK102 := n1_; have HB := n2_; clear n0_ n1_ n2_; (try clear hb); (try clear hb2); (try clear hk); (try clear hi); have hcz19_0 : w18.cell? ⟨gb101, 0, none⟩ = some (.int .i64 a0_0) := (blk_cell BK101.out 0).trans rfl; have hcz19_1 : w18.cell? ⟨gb101, 1, none⟩ = some (.int .i64 a0_1) := (blk_cell BK101.out 1).trans rfl; have hcz19_2 : w18.cell? ⟨gb101, 2, none⟩ = some (.int .i64 a0_2) := (blk_cell BK101.out 2).trans rfl; have hcz19_3 : w18.cell? ⟨gb101, 3, none⟩ = some (.slice A0_3 l0_3.length c0_3) := (blk_cell BK101.out 3).trans rfl; have hfz19_0 := blk_frozen BK101.out 0; have hfz19_1 := blk_frozen BK101.out 1; have hfz19_2 := blk_frozen BK101.out 2; have hfz19_3 := blk_frozen BK101.out 3) | ((with_reducible refine gate_callee (f := 37) rfl ?_); refine goesL_ (some 37) rfl rfl Try.func37 (by kernel_rfl) rfl #[.slice A0_3 l0_3.length c0_3, .int .i64 a1] rfl (by (try simp only [List.map_toArray, List.map_cons, List.map_nil]); first | done | rfl | (simp only [List.length_drop, List.length_take]; rfl)) ?_; (with_reducible refine (guarantee_find.calls _ _ l0_3 a1 t107 t108 _ ?side1 ?side2 A10.out).mono ?_); (case side1 => repeat (first | exact (Kd.C_below HR0_3.out HB.out) | (with_reducible refine Kd.C_alloc ?_ _) | (with_reducible refine Kd.C_drewN ?_ _) | (with_reducible refine Kd.C_drew ?_))); (case side2 => exact HC0_3.out); rintro e w20 ⟨rfl, hb⟩; refine ⟨_, rfl, ?_⟩; have n0_ := Aside0.mk (blk_below (g := gb101) (o := .cells #[.int .i64 a0_0, .int .i64 a0_1, .int .i64 a0_2, .slice A0_3 l0_3.length c0_3] 25 (0, 0)) (by (with_reducible repeat (first | refine blk_drewN ?_ _ | refine blk_drew ?_ | refine blk_alloc ?_ _)); exact BK101.out) hb); have n1_ := Aside0.mk (blk_below (g := gb102) (o := .cells #[.int .i64 0, .int .i64 0, .int .i64 0, .slice none 0 0] 25 (0, 0)) (by (with_reducible repeat (first | refine blk_drewN ?_ _ | refine blk_drew ?_ | refine blk_alloc ?_ _)); exact BK102.out) hb); have n2_ := Aside0.mk (below_step (by repeat (first | (with_reducible first | exact HB.out | apply below_alloc | apply pw_below_drewN | apply below_drew1 | refine below_set ?_ GE101.out | refine below_set ?_ GE102.out) | exact HB.out)) hb); clear BK101; clear BK102; clear HB; have BK101 := n0_; have BK102 := n1_; have HB := n2_; clear n0_ n1_ n2_; (try clear hb); (try clear hb2); (try clear hk); (try clear hi)))
    (try simp only [Act.put, List.setIfInBounds_toArray, List.set_cons_zero, List.set_cons_succ])
    go_cut [47] (fun v47 wc => ∃ (kq : Nat) (x47_10 : Bool), v47 = .bool x47_10 ∧ Aside0 (guarantee_Set.j0 kq a1 t105 t107 t108 x47_10 a0_0 a0_1 a0_2 l0_3 = some (r1, r2, r3, r4, r5)) ∧ Aside0 (kq ≤ k) ∧ Aside0 (wc.heap[gb101]? = some (.cells #[.int .i64 a0_0, .int .i64 a0_1, .int .i64 a0_2, (.slice A0_3 l0_3.length c0_3)] 25 (0, 0))) ∧ Aside0 (wc.heap[gb102]? = some (.cells #[.int .i64 0, .int .i64 0, .int .i64 0, (.slice none 0 0)] 25 (0, 0))) ∧ Aside0 (Below w.heap.size w wc))
    case first =>
     have H := HC11.out
     clear HC11
     by_cases c21 : t108 = true
     ·subst c21
      have H1 : (guarantee_Set.j0 k a1 t105 t107 true false a0_0 a0_1 a0_2 l0_3) = some (r1, r2, r3, r4, r5) := by rw [if_pos rfl] at H; exact H
      clear H
      have H := H1
      clear H1
      have H' := Aside0.mk H
      clear H
      go_wp2
      go_meet
      case rel => exact ⟨_, (false), (by first | rfl | (simp; done) | (simp [*]; done)), H', ⟨by first | omega | exact Nat.le_refl _⟩, ⟨by (with_reducible repeat (first | refine blk_drewN ?_ _ | refine blk_drew ?_ | refine blk_alloc ?_ _)); exact BK101.out⟩, ⟨by (with_reducible repeat (first | refine blk_drewN ?_ _ | refine blk_drew ?_ | refine blk_alloc ?_ _)); exact BK102.out⟩, ⟨by repeat (first | (with_reducible first | exact HB.out | apply below_alloc | apply pw_below_drewN | apply below_drew1 | refine below_set ?_ GE101.out | refine below_set ?_ GE102.out) | exact HB.out)⟩⟩
     ·replace c21 := Bool.eq_false_iff.mpr c21
      subst c21
      have H1 : (guarantee_Set.j0 k a1 t105 t107 false ((l0_3.length : Int) == 64) a0_0 a0_1 a0_2 l0_3) = some (r1, r2, r3, r4, r5) := by rw [if_neg (show ¬ (false = true) by decide)] at H; exact H
      clear H
      have H := H1
      clear H1
      have H' := Aside0.mk H
      clear H
      have hnb22 := NB101_102.out
      have hnc22 := NB102_101.out
      have hcz23_0 : w20.cell? ⟨gb101, 0, none⟩ = some (.int .i64 a0_0) := (blk_cell BK101.out 0).trans rfl
      have hcz23_1 : w20.cell? ⟨gb101, 1, none⟩ = some (.int .i64 a0_1) := (blk_cell BK101.out 1).trans rfl
      have hcz23_2 : w20.cell? ⟨gb101, 2, none⟩ = some (.int .i64 a0_2) := (blk_cell BK101.out 2).trans rfl
      have hcz23_3 : w20.cell? ⟨gb101, 3, none⟩ = some (.slice A0_3 l0_3.length c0_3) := (blk_cell BK101.out 3).trans rfl
      have hfz23_0 := blk_frozen BK101.out 0
      have hfz23_1 := blk_frozen BK101.out 1
      have hfz23_2 := blk_frozen BK101.out 2
      have hfz23_3 := blk_frozen BK101.out 3
      go_wp2
      go_meet
      case rel => exact ⟨_, (((l0_3.length : Int) == 64)), (by first | rfl | (simp; done) | (simp [*]; done)), H', ⟨by first | omega | exact Nat.le_refl _⟩, ⟨by (with_reducible repeat (first | refine blk_drewN ?_ _ | refine blk_drew ?_ | refine blk_alloc ?_ _)); exact BK101.out⟩, ⟨by (with_reducible repeat (first | refine blk_drewN ?_ _ | refine blk_drew ?_ | refine blk_alloc ?_ _)); exact BK102.out⟩, ⟨by repeat (first | (with_reducible first | exact HB.out | apply below_alloc | apply pw_below_drewN | apply below_drew1 | refine below_set ?_ GE101.out | refine below_set ?_ GE102.out) | exact HB.out)⟩⟩
    case rest =>
     clear HC11
     try clear c1
     try clear c2
     try clear p2
     try clear c3
     try clear c5
     try clear c5b0
     try clear c5b1
     try clear c7
     try clear c9
     try clear c9b0
     try clear c9b1
     try clear c11
     try clear c14
     try clear c17
     try clear c19
     try clear c21
     try clear c22
     try clear hcz15_0
     try clear hcz15_1
     try clear hcz15_2
     try clear hcz15_3
     try clear hcz17_0
     try clear hcz17_1
     try clear hcz17_2
     try clear hcz17_3
     try clear hcz19_0
     try clear hcz19_1
     try clear hcz19_2
     try clear hcz19_3
     try clear hcz23_0
     try clear hcz23_1
     try clear hcz23_2
     try clear hcz23_3
     try clear hfz15_0
     try clear hfz15_1
     try clear hfz15_2
     try clear hfz15_3
     try clear hfz17_0
     try clear hfz17_1
     try clear hfz17_2
     try clear hfz17_3
     try clear hfz19_0
     try clear hfz19_1
     try clear hfz19_2
     try clear hfz19_3
     try clear hfz23_0
     try clear hfz23_1
     try clear hfz23_2
     try clear hfz23_3
     obtain ⟨kq, x47_10, rfl, HA, HJ10, BK101, BK102, HB⟩ := hcut
     cases kq with
     | zero => exact absurd HA.out (by simp [guarantee_Set.j0])
     | succ kj10 =>
      have H := HA.out
      clear HA
      simp only [guarantee_Set.j0] at H
      by_cases c24 : x47_10 = true
      ·subst c24
       have H1 : (some (0, 0, 0, ([] : List (S39)), 8)) = some (r1, r2, r3, r4, r5) := by rw [if_pos rfl] at H; exact H
       clear H
       have H := H1
       clear H1
       simp only [Option.some.injEq, Prod.mk.injEq] at H
       obtain ⟨rfl, rfl, rfl, rfl, rfl⟩ := H
       have hnb25 := NB102_101.out
       have hnc25 := NB101_102.out
       have hcz26_0 : wc.cell? ⟨gb102, 0, none⟩ = some (.int .i64 0) := (blk_cell BK102.out 0).trans rfl
       have hcz26_1 : wc.cell? ⟨gb102, 1, none⟩ = some (.int .i64 0) := (blk_cell BK102.out 1).trans rfl
       have hcz26_2 : wc.cell? ⟨gb102, 2, none⟩ = some (.int .i64 0) := (blk_cell BK102.out 2).trans rfl
       have hcz26_3 : wc.cell? ⟨gb102, 3, none⟩ = some (.slice none 0 0) := (blk_cell BK102.out 3).trans rfl
       have hfz26_0 := blk_frozen BK102.out 0
       have hfz26_1 := blk_frozen BK102.out 1
       have hfz26_2 := blk_frozen BK102.out 2
       have hfz26_3 := blk_frozen BK102.out 3
       go_wp2
       refine bodyPost_ret (results_ct rfl _ _ gb102 25 #[.int .i64 0, .int .i64 0, .int .i64 0, .slice none 0 0] (0, 0) _ rfl (by (with_reducible repeat (first | refine blk_drewN ?_ _ | refine blk_drew ?_ | refine blk_alloc ?_ _)); refine blk_put (cs := #[.int .i64 0, .int .i64 0, .int .i64 0, .slice none 0 0]) ?_ 3 _ rfl; refine blk_put (cs := #[.int .i64 0, .int .i64 0, .int .i64 0, .slice none 0 0]) ?_ 2 _ rfl; refine blk_put (cs := #[.int .i64 0, .int .i64 0, .int .i64 0, .slice none 0 0]) ?_ 1 _ rfl; refine blk_put (cs := #[.int .i64 0, .int .i64 0, .int .i64 0, .slice none 0 0]) ?_ 0 _ rfl; (with_reducible repeat (first | refine blk_drewN ?_ _ | refine blk_drew ?_ | refine blk_alloc ?_ _)); exact BK102.out) Try.underlying25 rfl (by kernel_rfl)) rfl ?_
       exact ⟨_, by first | rfl | (simp [errW_none, errW_some] <;> rfl) | (simp [*, errW_none, errW_some] <;> rfl), by first | exact Kd.R_nil _ _ _ _ _ | exact Kd.N_nil _ _ _ _ _ | exact Kd.V_nil _ _ _ _ _ | exact Kd.Q_nil _ _ _ _ _ | exact Kd.S_nil _ _ _ _ _, by repeat (first | (with_reducible first | exact HB.out | apply below_alloc | apply pw_below_drewN | apply below_drew1 | refine below_set ?_ GE101.out | refine below_set ?_ GE102.out) | exact HB.out)⟩
      ·replace c24 := Bool.eq_false_iff.mpr c24
       subst c24
       have H1 : ((slices_Clone.f l0_3).bind fun t109 => (if t108 = true then (if 0 ≤ t107 then (if t107 < (t109.length : Int) then ((some (t109.set (t107 : Int).toNat (⟨(rd_T39 t109 t107).f0, t105⟩ : S39) : List (S39))).bind fun y112 => ((guarantee_sum.f kj10 y112).bind fun t113 => (if t113 > a0_1 then (some (0, 0, 0, ([] : List (S39)), 16)) else (some (a0_0, a0_1, a0_2, y112, 0))))) else (none)) else (none)) else ((slices_Insert.f t109 t107 (([(⟨a1, 0⟩ : S39)] : List (S39)))).bind fun t117 => (if 0 ≤ t107 then (if t107 < (t117.length : Int) then ((some (t117.set (t107 : Int).toNat (⟨(rd_T39 t117 t107).f0, t105⟩ : S39) : List (S39))).bind fun y120 => ((guarantee_sum.f kj10 y120).bind fun t121 => (if t121 > a0_1 then (some (0, 0, 0, ([] : List (S39)), 16)) else (some (a0_0, a0_1, a0_2, y120, 0))))) else (none)) else (none))))) = some (r1, r2, r3, r4, r5) := by rw [if_neg (show ¬ (false = true) by decide)] at H; exact H
       clear H
       have H := H1
       clear H1
       replace H := Option.bind_eq_some_iff.mp H
       obtain ⟨t109, A270, H⟩ := H
       replace H : (if t108 = true then (if 0 ≤ t107 then (if t107 < (t109.length : Int) then ((some (t109.set (t107 : Int).toNat (⟨(rd_T39 t109 t107).f0, t105⟩ : S39) : List (S39))).bind fun y112 => ((guarantee_sum.f kj10 y112).bind fun t113 => (if t113 > a0_1 then (some (0, 0, 0, ([] : List (S39)), 16)) else (some (a0_0, a0_1, a0_2, y112, 0))))) else (none)) else (none)) else ((slices_Insert.f t109 t107 (([(⟨a1, 0⟩ : S39)] : List (S39)))).bind fun t117 => (if 0 ≤ t107 then (if t107 < (t117.length : Int) then ((some (t117.set (t107 : Int).toNat (⟨(rd_T39 t117 t107).f0, t105⟩ : S39) : List (S39))).bind fun y120 => ((guarantee_sum.f kj10 y120).bind fun t121 => (if t121 > a0_1 then (some (0, 0, 0, ([] : List (S39)), 16)) else (some (a0_0, a0_1, a0_2, y120, 0))))) else (none)) else (none)))) = some (r1, r2, r3, r4, r5) := H
       have A27 := Aside0.mk A270
       clear A270
       by_cases c28 : t108 = true
       ·subst c28
        have H1 : (if 0 ≤ t107 then (if t107 < (t109.length : Int) then ((some (t109.set (t107 : Int).toNat (⟨(rd_T39 t109 t107).f0, t105⟩ : S39) : List (S39))).bind fun y112 => ((guarantee_sum.f kj10 y112).bind fun t113 => (if t113 > a0_1 then (some (0, 0, 0, ([] : List (S39)), 16)) else (some (a0_0, a0_1, a0_2, y112, 0))))) else (none)) else (none)) = some (r1, r2, r3, r4, r5) := by rw [if_pos rfl] at H; exact H
        clear H
        have H := H1
        clear H1
        by_cases c29 : 0 ≤ t107
        ·rw [if_pos c29] at H
         have c29b0 : decide (0 ≤ t107) = true := decide_eq_true c29
         clear c29
         by_cases c30 : t107 < (t109.length : Int)
         ·rw [if_pos c30] at H
          have c30b0 : decide (t107 < (t109.length : Int)) = true := decide_eq_true c30
          clear c30
          obtain ⟨y112, hy112⟩ : ∃ y_ : List (S39), y_ = (t109.set (t107 : Int).toNat (⟨(rd_T39 t109 t107).f0, t105⟩ : S39)) := ⟨_, rfl⟩
          replace H : ((guarantee_sum.f kj10 y112).bind fun t113 => (if t113 > a0_1 then (some (0, 0, 0, ([] : List (S39)), 16)) else (some (a0_0, a0_1, a0_2, y112, 0)))) = some (r1, r2, r3, r4, r5) := by first | (rw [hy112]; with_reducible exact H) | (have H2_ := (Option.bind_some _ _).symm.trans H; rw [hy112]; with_reducible exact H2_) | (have H2_ := (Option.bind_some _ _).symm.trans H; with_reducible exact H2_) | with_reducible exact H | (rw [hy112]; exact H) | exact H
          have Ny112 := Aside0.mk hy112
          clear hy112
          replace H := Option.bind_eq_some_iff.mp H
          obtain ⟨t113, A320, H⟩ := H
          replace H : (if t113 > a0_1 then (some (0, 0, 0, ([] : List (S39)), 16)) else (some (a0_0, a0_1, a0_2, y112, 0))) = some (r1, r2, r3, r4, r5) := H
          have A32 := Aside0.mk A320
          clear A320
          by_cases c33 : t113 > a0_1
          ·rw [if_pos c33] at H
           have c33b0 : decide (a0_1 < t113) = true := decide_eq_true c33
           clear c33
           simp only [Option.some.injEq, Prod.mk.injEq] at H
           obtain ⟨rfl, rfl, rfl, rfl, rfl⟩ := H
           have hnb34 := NB101_102.out
           have hnc34 := NB102_101.out
           have hcz35_0 : wc.cell? ⟨gb101, 0, none⟩ = some (.int .i64 a0_0) := (blk_cell BK101.out 0).trans rfl
           have hcz35_1 : wc.cell? ⟨gb101, 1, none⟩ = some (.int .i64 a0_1) := (blk_cell BK101.out 1).trans rfl
           have hcz35_2 : wc.cell? ⟨gb101, 2, none⟩ = some (.int .i64 a0_2) := (blk_cell BK101.out 2).trans rfl
           have hcz35_3 : wc.cell? ⟨gb101, 3, none⟩ = some (.slice A0_3 l0_3.length c0_3) := (blk_cell BK101.out 3).trans rfl
           have hfz35_0 := blk_frozen BK101.out 0
           have hfz35_1 := blk_frozen BK101.out 1
           have hfz35_2 := blk_frozen BK101.out 2
           have hfz35_3 := blk_frozen BK101.out 3
           try go_wp2_with (first | ((with_reducible refine gate_callee (f := 38) rfl ?_); refine goesL_ (some 51) rfl rfl Try.func38 (by kernel_rfl) rfl #[.slice A0_3 l0_3.length c0_3] rfl (by (try simp only [List.map_toArray, List.map_cons, List.map_nil]); first | done | rfl | (simp only [List.length_drop, List.length_take]; rfl)) ?_; (with_reducible refine (slices_Clone.calls _ _ l0_3 t109 _ ?side1 ?side2 A27.out).mono ?_); (case side1 => repeat (first | exact (Kd.C_below HR0_3.out HB.out) | (with_reducible refine Kd.C_alloc ?_ _) | (with_reducible refine Kd.C_drewN ?_ _) | (with_reducible refine Kd.C_drew ?_))); (case side2 => exact HC0_3.out); rintro e w36 ⟨v110, rfl, ho0, hb⟩; refine ⟨_, rfl, ?_⟩; have qb_ := below_both (by repeat (first | (with_reducible first | exact HB.out | apply below_alloc | apply pw_below_drewN | apply below_drew1 | refine below_set ?_ GE101.out | refine below_set ?_ GE102.out) | exact HB.out)) hb; have n0_ := Aside0.mk (Kd.R_lower ho0 qb_.2); have n1_ := Aside0.mk (blk_below (g := gb101) (o := .cells #[.int .i64 a0_0, .int .i64 a0_1, .int .i64 a0_2, .slice A0_3 l0_3.length c0_3] 25 (0, 0)) (by (with_reducible repeat (first | refine blk_drewN ?_ _ | refine blk_drew ?_ | refine blk_alloc ?_ _)); exact BK101.out) hb); have n2_ := Aside0.mk (blk_below (g := gb102) (o := .cells #[.int .i64 0, .int .i64 0, .int .i64 0, .slice none 0 0] 25 (0, 0)) (by (with_reducible repeat (first | refine blk_drewN ?_ _ | refine blk_drew ?_ | refine blk_alloc ?_ _)); exact BK102.out) hb); have n3_ := Aside0.mk (qb_.1); clear BK101; clear BK102; clear HB; have HO111 := n0_; have BK101 := n1_; have BK102 := n2_; have HB := n3_; clear qb_; clear n0_ n1_ n2_ n3_; (try clear hb); (try clear hb2); (try clear hk); (try clear hi); (try clear ho0); obtain ⟨Ao37, co37, eo37⟩ := Kd.R_slice HO111.out; subst eo37; have hcz38_0 : w36.cell? ⟨gb101, 0, none⟩ = some (.int .i64 a0_0) := (blk_cell BK101.out 0).trans rfl; have hcz38_1 : w36.cell? ⟨gb101, 1, none⟩ = some (.int .i64 a0_1) := (blk_cell BK101.out 1).trans rfl; have hcz38_2 : w36.cell? ⟨gb101, 2, none⟩ = some (.int .i64 a0_2) := (blk_cell BK101.out 2).trans rfl; have hcz38_3 : w36.cell? ⟨gb101, 3, none⟩ = some (.slice A0_3 l0_3.length c0_3) := (blk_cell BK101.out 3).trans rfl; have hfz38_0 := blk_frozen BK101.out 0; have hfz38_1 := blk_frozen BK101.out 1; have hfz38_2 := blk_frozen BK101.out 2; have hfz38_3 := blk_frozen BK101.out 3) | ((with_reducible refine gate_store (t := 23) (p := 52) rfl ?_); refine store_event (t := 23) (p := 52) (v := ?vo_w39) (w1 := (w36.setCell ⟨gb101, 3, none⟩ (.slice Ao37 t109.length co37))) ?hg ?ho ?hn ?hr ?_; (case ho => rfl); (case hg => rfl); (case hn => rfl); (case hr => first | (go_simp; done) | (go_simp; rfl)); intro w39 hw; have n0_ : Aside0 (Kd.R k39 39 w39 w.heap.size (fun _ => True) (.slice Ao37 t109.length co37) t109) := ⟨(by rw [hw]; exact (by (with_reducible repeat (first | apply Kd.R_alloc | apply Kd.R_drewN | apply Kd.R_drew)); exact Kd.R_mono (Kd.R_far (p := ⟨gb101, 3, none⟩) (Kd.R_types HO111.out BK101.out (by decide)) (fun _ hk => hk.2) (.slice Ao37 t109.length co37)) (fun _ hk => trivial)))⟩; have n1_ : Aside0 (w39.heap[gb101]? = some (.cells #[.int .i64 a0_0, .int .i64 a0_1, .int .i64 a0_2, .slice Ao37 t109.length co37] 25 (0, 0))) := ⟨(by rw [hw]; exact (by (with_reducible repeat (first | refine blk_drewN ?_ _ | refine blk_drew ?_ | refine blk_alloc ?_ _)); refine blk_put (cs := #[.int .i64 a0_0, .int .i64 a0_1, .int .i64 a0_2, .slice A0_3 l0_3.length c0_3]) ?_ 3 _ rfl; (with_reducible repeat (first | refine blk_drewN ?_ _ | refine blk_drew ?_ | refine blk_alloc ?_ _)); exact BK101.out))⟩; have n2_ : Aside0 (w39.heap[gb102]? = some (.cells #[.int .i64 0, .int .i64 0, .int .i64 0, .slice none 0 0] 25 (0, 0))) := ⟨(by rw [hw]; exact (by (with_reducible repeat (first | refine blk_drewN ?_ _ | refine blk_drew ?_ | refine blk_alloc ?_ _)); refine blk_far ?_ NB102_101.out _; (with_reducible repeat (first | refine blk_drewN ?_ _ | refine blk_drew ?_ | refine blk_alloc ?_ _)); exact BK102.out))⟩; have n3_ : Aside0 (Below w.heap.size w w39) := ⟨(by rw [hw]; exact (by repeat (first | (with_reducible first | exact HB.out | apply below_alloc | apply pw_below_drewN | apply below_drew1 | refine below_set ?_ GE101.out | refine below_set ?_ GE102.out) | exact HB.out)))⟩; clear hw; clear HO111; clear BK101; clear BK102; clear HB; have HO111 := n0_; have BK101 := n1_; have BK102 := n2_; have HB := n3_; clear n0_ n1_ n2_ n3_; have hcz40_0 : w39.cell? ⟨gb101, 0, none⟩ = some (.int .i64 a0_0) := (blk_cell BK101.out 0).trans rfl; have hcz40_1 : w39.cell? ⟨gb101, 1, none⟩ = some (.int .i64 a0_1) := (blk_cell BK101.out 1).trans rfl; have hcz40_2 : w39.cell? ⟨gb101, 2, none⟩ = some (.int .i64 a0_2) := (blk_cell BK101.out 2).trans rfl; have hcz40_3 : w39.cell? ⟨gb101, 3, none⟩ = some (.slice Ao37 t109.length co37) := (blk_cell BK101.out 3).trans rfl; have hfz40_0 := blk_frozen BK101.out 0; have hfz40_1 := blk_frozen BK101.out 1; have hfz40_2 := blk_frozen BK101.out 2; have hfz40_3 := blk_frozen BK101.out 3; have p31 : 0 ≤ (t107 : Int) := of_decide_eq_true (by first | (with_reducible assumption) | assumption); have q31 : (t107 : Int) < ((t109.length : Int) : Int) := of_decide_eq_true (by first | (with_reducible assumption) | assumption); obtain ⟨go31, co31, eo31, gb31, gl31, cl31, HG31⟩ := Kd.R_form HO111.out (by omega); (first | cases eo31 | (injection eo31 with ea_ en_ ec_; (first | subst ea_ | (injection ea_ with ea_; subst ea_)); subst ec_; clear en_)); have GB31 := Aside0.mk gb31; have GG31 := Aside0.mk HG31; clear gb31 gl31 HG31; obtain ⟨ce31, hcl31, hM31, hcc31, hfr31⟩ := Kd.R_elem HO111.out z39 (t107 : Int) p31 q31; obtain rfl := k39_openM hM31; have hx31_0 : w39.cell? ⟨go31, (t107 : Int).toNat * 2, none⟩ = some (.int .i64 ((rd_T39 t109 t107).f0)) := hcc31 0 _ rfl; have hx31_1 : w39.cell? ⟨go31, (t107 : Int).toNat * 2 + 1, none⟩ = some (.int .i64 ((rd_T39 t109 t107).f1)) := hcc31 1 _ rfl; have hf31_0 : w39.frozen? ⟨go31, (t107 : Int).toNat * 2, none⟩ = false := hfr31 0; have hf31_1 : w39.frozen? ⟨go31, (t107 : Int).toNat * 2 + 1, none⟩ = false := hfr31 1; clear hcl31 hcc31 hfr31 hM31; replace p31 := eq_true p31; replace q31 := eq_true q31; have HX41 := Aside0.mk (show Kd.R k39 39 w39 w.heap.size (fun _ => True) (.slice (some ⟨go31, 0, none⟩) t109.length co37) t109 from (by (with_reducible repeat (first | apply Kd.R_alloc | apply Kd.R_drewN | apply Kd.R_drew)); exact HO111.out)); obtain ⟨ce41, hcl41, hM41, hcc41, hfr41⟩ := Kd.R_elem HX41.out z39 (t107 : Int) (of_decide_eq_true (by first | (with_reducible assumption) | assumption)) (by have h_ : (t107 : Int) < ((t109.length : Int) : Int) := of_decide_eq_true (by first | (with_reducible assumption) | assumption); first | exact h_ | (have e_ := (Kd.R_reads' HO111.out).1; omega) | simpa using h_); obtain rfl := k39_openM hM41; have HP41 := Kd.R_seg HX41.out (t107 : Int) (of_decide_eq_true (by first | (with_reducible assumption) | assumption)) (by have h_ : (t107 : Int) < ((t109.length : Int) : Int) := of_decide_eq_true (by first | (with_reducible assumption) | assumption); first | exact h_ | (have e_ := (Kd.R_reads' HO111.out).1; omega) | simpa using h_) (seg := [.int .i64 t105]) (j := 1) hcl41 hcc41 (show 2 ≤ 2 from by decide) (x' := (⟨(rd_T39 t109 t107).f0, t105⟩ : S39)) (k39_mkM _ _ _ (⟨(rd_T39 t109 t107).f0, t105⟩ : S39) ) (fun _ hk => hk); have hx41_1 := hcc41 1 _ rfl; (try simp only [show (k39).sz = 2 from rfl, Nat.mul_one, Nat.add_zero] at hx41_1); have hf41_1 := hfr41 1; (try simp only [show (k39).sz = 2 from rfl, Nat.mul_one, Nat.add_zero] at hf41_1); clear hcl41 hcc41 hfr41 hM41) | ((with_reducible refine gate_store (t := 3) (p := 68) rfl ?_); refine store_event (t := 3) (p := 68) (v := ?vo_w42) (w1 := (w39.setCell ⟨go31, (t107 : Int).toNat * 2 + 1, none⟩ (.int .i64 t105))) ?hg ?ho ?hn ?hr ?_; (case ho => rfl); (case hg => rfl); (case hn => rfl); (case hr => first | (go_simp; done) | (go_simp; rfl)); intro w42 hw; have hg : w39.grownBy w42 (some go31) := (by rw [hw]; exact HP41.2); have hp_ : Kd.R k39 39 w42 w.heap.size (fun _ => True) (.slice (some ⟨go31, 0, none⟩) t109.length co37) y112 := (by rw [hw, Ny112.out]; exact HP41.1); clear HP41; have n0_ := Aside0.mk (blk_grown (g := gb101) (o := .cells #[.int .i64 a0_0, .int .i64 a0_1, .int .i64 a0_2, .slice (some ⟨go31, 0, none⟩) t109.length co37] 25 (0, 0)) (by (with_reducible repeat (first | refine blk_drewN ?_ _ | refine blk_drew ?_ | refine blk_alloc ?_ _)); exact BK101.out) hg (Kd.R_ne HO111.out BK101.out (by decide))); have n1_ := Aside0.mk (blk_grown (g := gb102) (o := .cells #[.int .i64 0, .int .i64 0, .int .i64 0, .slice none 0 0] 25 (0, 0)) (by (with_reducible repeat (first | refine blk_drewN ?_ _ | refine blk_drew ?_ | refine blk_alloc ?_ _)); exact BK102.out) hg (Kd.R_ne HO111.out BK102.out (by decide))); have n2_ := Aside0.mk (hp_); have n3_ := Aside0.mk ((by rw [hw]; exact below_set (HB.out) GB31.out : Below w.heap.size w w42)); clear BK101; clear BK102; clear HO111; clear HB; have BK101 := n0_; have BK102 := n1_; have HO111 := n2_; have HB := n3_; clear n0_ n1_ n2_ n3_; clear hg hw hp_))
           have n0_ := Aside0.mk (Kd.R_drew HO111.out)
           have n1_ := Aside0.mk (blk_drew BK101.out)
           have n2_ := Aside0.mk (blk_drew BK102.out)
           have n3_ := Aside0.mk (below_drew1 HB.out)
           clear HO111
           clear BK101
           clear BK102
           clear HB
           have HO111 := n0_
           have BK101 := n1_
           have BK102 := n2_
           have HB := n3_
           clear n0_ n1_ n2_ n3_
           refine start_ (n := 6) (S := fun w' => w'.cell? ⟨gb101, 0, none⟩ = some (.int .i64 a0_0) ∧ w'.cell? ⟨gb101, 1, none⟩ = some (.int .i64 a0_1) ∧ w'.cell? ⟨gb101, 2, none⟩ = some (.int .i64 a0_2) ∧ w'.cell? ⟨gb101, 3, none⟩ = some (.slice (some ⟨go31, 0, none⟩) t109.length co37)) (ds := []) #[false, false, false, false, false, false] (by kernel_rfl) rfl rfl ⟨(blk_cell BK101.out 0).trans rfl, (blk_cell BK101.out 1).trans rfl, (blk_cell BK101.out 2).trans rfl, (blk_cell BK101.out 3).trans rfl⟩ (fun hHeld => ?_)
           generalize w42.drew = w43 at HO111 BK101 BK102 HB hHeld ⊢
           refine pure_ (i := 0) (N := some 69) (v := ?_) (a' := ?_) #[true, false, false, false, false, false] rfl rfl (by kernel_rfl) (fun _ _ _ h => h) (Or.inl ⟨by rfl, ?_⟩) ?_ ?_
           rotate_left
           ·intro w'
            go_simp
            with_reducible rfl
           rotate_left
           ·simp only [Act.put, List.setIfInBounds_toArray, List.set_cons_zero, List.set_cons_succ, i64_w, i32_w]
            rfl
           refine pure_ (i := 3) (N := some 72) (v := ?_) (a' := ?_) #[true, false, false, true, false, false] rfl rfl (by kernel_rfl) (fun _ _ _ h => h) (Or.inl ⟨by rfl, ?_⟩) ?_ ?_
           rotate_left
           ·intro w'
            go_simp
            with_reducible rfl
           rotate_left
           ·simp only [Act.put, List.setIfInBounds_toArray, List.set_cons_zero, List.set_cons_succ, i64_w, i32_w]
            rfl
           refine take_ (i := 1) (N := some 70) (v := ?_) (a' := ?_) #[true, true, false, true, false, false] rfl rfl (by kernel_rfl) (fun _ _ _ h => h) (Or.inl ⟨by rfl, ?_⟩) hHeld ?_ ?_
           rotate_left
           ·rintro w' ⟨s0, s1, s2, s3⟩
            go_simp
            with_reducible rfl
           rotate_left
           ·simp only [Act.put, List.setIfInBounds_toArray, List.set_cons_zero, List.set_cons_succ, i64_w, i32_w]
            rfl
           refine take_ (i := 4) (N := some 73) (v := ?_) (a' := ?_) #[true, true, false, true, true, false] rfl rfl (by kernel_rfl) (fun _ _ _ h => h) (Or.inl ⟨by rfl, ?_⟩) hHeld ?_ ?_
           rotate_left
           ·rintro w' ⟨s0, s1, s2, s3⟩
            go_simp
            with_reducible rfl
           rotate_left
           ·simp only [Act.put, List.setIfInBounds_toArray, List.set_cons_zero, List.set_cons_succ, i64_w, i32_w]
            rfl
           refine one_ (i := 2) (N := some 71) #[true, true, true, true, true, false] rfl rfl (by kernel_rfl) (by decide) (fun K hK => ?_)
           refine goes_ Try.func35 (by kernel_rfl) rfl #[.slice (some ⟨go31, 0, none⟩) y112.length co37] (by rfl) rfl rfl (by (try simp only [List.map_toArray, List.map_cons, List.map_nil]); first | done | (rw [show y112.length = t109.length from (Kd.R_reads' HO111.out).1.symm] <;> rfl) | rfl | (simp only [List.length_drop, List.length_take]; rfl)) ?_
           with_reducible refine (guarantee_sum.calls kj10 _ _ y112 t113 _ ?side1 ?side2 A32.out).mono ?_
           (case side1 => repeat (first | exact (Kd.R_reads' HO111.out).2.2 | (with_reducible refine Kd.C_alloc ?_ _) | (with_reducible refine Kd.C_drewN ?_ _) | (with_reducible refine Kd.C_drew ?_)))
           (case side2 => rw [show y112.length = t109.length from (Kd.R_reads' HO111.out).1.symm]; exact (Kd.R_reads' HO111.out).2.1)
           rintro e w44 ⟨rfl, hb⟩
           refine ⟨_, rfl, ?_⟩
           have n0_ := Aside0.mk (Kd.R_below (by (with_reducible repeat (first | apply Kd.R_alloc | apply Kd.R_drewN | apply Kd.R_drew)); exact HO111.out) hb)
           have n1_ := Aside0.mk (blk_below (g := gb101) (o := .cells #[.int .i64 a0_0, .int .i64 a0_1, .int .i64 a0_2, .slice (some ⟨go31, 0, none⟩) t109.length co37] 25 (0, 0)) (by (with_reducible repeat (first | refine blk_drewN ?_ _ | refine blk_drew ?_ | refine blk_alloc ?_ _)); exact BK101.out) hb)
           have n2_ := Aside0.mk (blk_below (g := gb102) (o := .cells #[.int .i64 0, .int .i64 0, .int .i64 0, .slice none 0 0] 25 (0, 0)) (by (with_reducible repeat (first | refine blk_drewN ?_ _ | refine blk_drew ?_ | refine blk_alloc ?_ _)); exact BK102.out) hb)
           have n3_ := Aside0.mk (below_step (by repeat (first | (with_reducible first | exact HB.out | apply below_alloc | apply pw_below_drewN | apply below_drew1 | refine below_set ?_ GE101.out | refine below_set ?_ GE102.out) | exact HB.out)) hb)
           clear HO111
           clear BK101
           clear BK102
           clear HB
           have HO111 := n0_
           have BK101 := n1_
           have BK102 := n2_
           have HB := n3_
           clear n0_ n1_ n2_ n3_
           (try clear hb)
           (try clear hb2)
           (try clear hk)
           (try clear hi)
           refine hK.out _ _ ⟨(blk_cell BK101.out 0).trans rfl, (blk_cell BK101.out 1).trans rfl, (blk_cell BK101.out 2).trans rfl, (blk_cell BK101.out 3).trans rfl⟩ (fun hHeld => ?_)
           clear hK K
           refine norm_ (a' := ?_) ?_ ?_
           rotate_left
           ·show Act.put _ (some 71) _ = _
            simp only [Act.put, List.setIfInBounds_toArray, List.set_cons_zero, List.set_cons_succ, i64_w, i32_w]
            rfl
           refine pure_ (i := 5) (N := some 74) (v := ?_) (a' := ?_) #[true, true, true, true, true, true] rfl rfl (by kernel_rfl) (fun _ _ _ h => h) (Or.inl ⟨by rfl, ?_⟩) ?_ ?_
           rotate_left
           ·intro w'
            go_simp
            with_reducible rfl
           rotate_left
           ·simp only [Act.put, List.setIfInBounds_toArray, List.set_cons_zero, List.set_cons_succ, i64_w, i32_w]
            rfl
           refine done_ (by kernel_rfl) ?_
           have hcz45_0 : w44.cell? ⟨gb102, 0, none⟩ = some (.int .i64 0) := (blk_cell BK102.out 0).trans rfl
           have hcz45_1 : w44.cell? ⟨gb102, 1, none⟩ = some (.int .i64 0) := (blk_cell BK102.out 1).trans rfl
           have hcz45_2 : w44.cell? ⟨gb102, 2, none⟩ = some (.int .i64 0) := (blk_cell BK102.out 2).trans rfl
           have hcz45_3 : w44.cell? ⟨gb102, 3, none⟩ = some (.slice none 0 0) := (blk_cell BK102.out 3).trans rfl
           have hfz45_0 := blk_frozen BK102.out 0
           have hfz45_1 := blk_frozen BK102.out 1
           have hfz45_2 := blk_frozen BK102.out 2
           have hfz45_3 := blk_frozen BK102.out 3
           try go_wp2
           refine bodyPost_ret (results_ct rfl _ _ gb102 25 #[.int .i64 0, .int .i64 0, .int .i64 0, .slice none 0 0] (0, 0) _ rfl (by (with_reducible repeat (first | refine blk_drewN ?_ _ | refine blk_drew ?_ | refine blk_alloc ?_ _)); refine blk_put (cs := #[.int .i64 0, .int .i64 0, .int .i64 0, .slice none 0 0]) ?_ 3 _ rfl; refine blk_put (cs := #[.int .i64 0, .int .i64 0, .int .i64 0, .slice none 0 0]) ?_ 2 _ rfl; refine blk_put (cs := #[.int .i64 0, .int .i64 0, .int .i64 0, .slice none 0 0]) ?_ 1 _ rfl; refine blk_put (cs := #[.int .i64 0, .int .i64 0, .int .i64 0, .slice none 0 0]) ?_ 0 _ rfl; (with_reducible repeat (first | refine blk_drewN ?_ _ | refine blk_drew ?_ | refine blk_alloc ?_ _)); exact BK102.out) Try.underlying25 rfl (by kernel_rfl)) rfl ?_
           exact ⟨_, by first | rfl | (simp [errW_none, errW_some] <;> rfl) | (simp [*, errW_none, errW_some] <;> rfl), by first | exact Kd.R_nil _ _ _ _ _ | exact Kd.N_nil _ _ _ _ _ | exact Kd.V_nil _ _ _ _ _ | exact Kd.Q_nil _ _ _ _ _ | exact Kd.S_nil _ _ _ _ _, by repeat (first | (with_reducible first | exact HB.out | apply below_alloc | apply pw_below_drewN | apply below_drew1 | refine below_set ?_ GE101.out | refine below_set ?_ GE102.out) | exact HB.out)⟩
          ·rw [if_neg c33] at H
           have c33b0 : decide (a0_1 < t113) = false := decide_eq_false c33
           clear c33
           simp only [Option.some.injEq, Prod.mk.injEq] at H
           obtain ⟨rfl, rfl, rfl, rfl, rfl⟩ := H
           have hnb46 := NB101_102.out
           have hnc46 := NB102_101.out
           have hcz47_0 : wc.cell? ⟨gb101, 0, none⟩ = some (.int .i64 a0_0) := (blk_cell BK101.out 0).trans rfl
           have hcz47_1 : wc.cell? ⟨gb101, 1, none⟩ = some (.int .i64 a0_1) := (blk_cell BK101.out 1).trans rfl
           have hcz47_2 : wc.cell? ⟨gb101, 2, none⟩ = some (.int .i64 a0_2) := (blk_cell BK101.out 2).trans rfl
           have hcz47_3 : wc.cell? ⟨gb101, 3, none⟩ = some (.slice A0_3 l0_3.length c0_3) := (blk_cell BK101.out 3).trans rfl
           have hfz47_0 := blk_frozen BK101.out 0
           have hfz47_1 := blk_frozen BK101.out 1
           have hfz47_2 := blk_frozen BK101.out 2
           have hfz47_3 := blk_frozen BK101.out 3
           try go_wp2_with (first | ((with_reducible refine gate_callee (f := 38) rfl ?_); refine goesL_ (some 51) rfl rfl Try.func38 (by kernel_rfl) rfl #[.slice A0_3 l0_3.length c0_3] rfl (by (try simp only [List.map_toArray, List.map_cons, List.map_nil]); first | done | rfl | (simp only [List.length_drop, List.length_take]; rfl)) ?_; (with_reducible refine (slices_Clone.calls _ _ l0_3 t109 _ ?side1 ?side2 A27.out).mono ?_); (case side1 => repeat (first | exact (Kd.C_below HR0_3.out HB.out) | (with_reducible refine Kd.C_alloc ?_ _) | (with_reducible refine Kd.C_drewN ?_ _) | (with_reducible refine Kd.C_drew ?_))); (case side2 => exact HC0_3.out); rintro e w48 ⟨v110, rfl, ho0, hb⟩; refine ⟨_, rfl, ?_⟩; have qb_ := below_both (by repeat (first | (with_reducible first | exact HB.out | apply below_alloc | apply pw_below_drewN | apply below_drew1 | refine below_set ?_ GE101.out | refine below_set ?_ GE102.out) | exact HB.out)) hb; have n0_ := Aside0.mk (Kd.R_lower ho0 qb_.2); have n1_ := Aside0.mk (blk_below (g := gb101) (o := .cells #[.int .i64 a0_0, .int .i64 a0_1, .int .i64 a0_2, .slice A0_3 l0_3.length c0_3] 25 (0, 0)) (by (with_reducible repeat (first | refine blk_drewN ?_ _ | refine blk_drew ?_ | refine blk_alloc ?_ _)); exact BK101.out) hb); have n2_ := Aside0.mk (blk_below (g := gb102) (o := .cells #[.int .i64 0, .int .i64 0, .int .i64 0, .slice none 0 0] 25 (0, 0)) (by (with_reducible repeat (first | refine blk_drewN ?_ _ | refine blk_drew ?_ | refine blk_alloc ?_ _)); exact BK102.out) hb); have n3_ := Aside0.mk (qb_.1); clear BK101; clear BK102; clear HB; have HO111 := n0_; have BK101 := n1_; have BK102 := n2_; have HB := n3_; clear qb_; clear n0_ n1_ n2_ n3_; (try clear hb); (try clear hb2); (try clear hk); (try clear hi); (try clear ho0); obtain ⟨Ao49, co49, eo49⟩ := Kd.R_slice HO111.out; subst eo49; have hcz50_0 : w48.cell? ⟨gb101, 0, none⟩ = some (.int .i64 a0_0) := (blk_cell BK101.out 0).trans rfl; have hcz50_1 : w48.cell? ⟨gb101, 1, none⟩ = some (.int .i64 a0_1) := (blk_cell BK101.out 1).trans rfl; have hcz50_2 : w48.cell? ⟨gb101, 2, none⟩ = some (.int .i64 a0_2) := (blk_cell BK101.out 2).trans rfl; have hcz50_3 : w48.cell? ⟨gb101, 3, none⟩ = some (.slice A0_3 l0_3.length c0_3) := (blk_cell BK101.out 3).trans rfl; have hfz50_0 := blk_frozen BK101.out 0; have hfz50_1 := blk_frozen BK101.out 1; have hfz50_2 := blk_frozen BK101.out 2; have hfz50_3 := blk_frozen BK101.out 3) | ((with_reducible refine gate_store (t := 23) (p := 52) rfl ?_); refine store_event (t := 23) (p := 52) (v := ?vo_w51) (w1 := (w48.setCell ⟨gb101, 3, none⟩ (.slice Ao49 t109.length co49))) ?hg ?ho ?hn ?hr ?_; (case ho => rfl); (case hg => rfl); (case hn => rfl); (case hr => first | (go_simp; done) | (go_simp; rfl)); intro w51 hw; have n0_ : Aside0 (Kd.R k39 39 w51 w.heap.size (fun _ => True) (.slice Ao49 t109.length co49) t109) := ⟨(by rw [hw]; exact (by (with_reducible repeat (first | apply Kd.R_alloc | apply Kd.R_drewN | apply Kd.R_drew)); exact Kd.R_mono (Kd.R_far (p := ⟨gb101, 3, none⟩) (Kd.R_types HO111.out BK101.out (by decide)) (fun _ hk => hk.2) (.slice Ao49 t109.length co49)) (fun _ hk => trivial)))⟩; have n1_ : Aside0 (w51.heap[gb101]? = some (.cells #[.int .i64 a0_0, .int .i64 a0_1, .int .i64 a0_2, .slice Ao49 t109.length co49] 25 (0, 0))) := ⟨(by rw [hw]; exact (by (with_reducible repeat (first | refine blk_drewN ?_ _ | refine blk_drew ?_ | refine blk_alloc ?_ _)); refine blk_put (cs := #[.int .i64 a0_0, .int .i64 a0_1, .int .i64 a0_2, .slice A0_3 l0_3.length c0_3]) ?_ 3 _ rfl; (with_reducible repeat (first | refine blk_drewN ?_ _ | refine blk_drew ?_ | refine blk_alloc ?_ _)); exact BK101.out))⟩; have n2_ : Aside0 (w51.heap[gb102]? = some (.cells #[.int .i64 0, .int .i64 0, .int .i64 0, .slice none 0 0] 25 (0, 0))) := ⟨(by rw [hw]; exact (by (with_reducible repeat (first | refine blk_drewN ?_ _ | refine blk_drew ?_ | refine blk_alloc ?_ _)); refine blk_far ?_ NB102_101.out _; (with_reducible repeat (first | refine blk_drewN ?_ _ | refine blk_drew ?_ | refine blk_alloc ?_ _)); exact BK102.out))⟩; have n3_ : Aside0 (Below w.heap.size w w51) := ⟨(by rw [hw]; exact (by repeat (first | (with_reducible first | exact HB.out | apply below_alloc | apply pw_below_drewN | apply below_drew1 | refine below_set ?_ GE101.out | refine below_set ?_ GE102.out) | exact HB.out)))⟩; clear hw; clear HO111; clear BK101; clear BK102; clear HB; have HO111 := n0_; have BK101 := n1_; have BK102 := n2_; have HB := n3_; clear n0_ n1_ n2_ n3_; have hcz52_0 : w51.cell? ⟨gb101, 0, none⟩ = some (.int .i64 a0_0) := (blk_cell BK101.out 0).trans rfl; have hcz52_1 : w51.cell? ⟨gb101, 1, none⟩ = some (.int .i64 a0_1) := (blk_cell BK101.out 1).trans rfl; have hcz52_2 : w51.cell? ⟨gb101, 2, none⟩ = some (.int .i64 a0_2) := (blk_cell BK101.out 2).trans rfl; have hcz52_3 : w51.cell? ⟨gb101, 3, none⟩ = some (.slice Ao49 t109.length co49) := (blk_cell BK101.out 3).trans rfl; have hfz52_0 := blk_frozen BK101.out 0; have hfz52_1 := blk_frozen BK101.out 1; have hfz52_2 := blk_frozen BK101.out 2; have hfz52_3 := blk_frozen BK101.out 3; have p31 : 0 ≤ (t107 : Int) := of_decide_eq_true (by first | (with_reducible assumption) | assumption); have q31 : (t107 : Int) < ((t109.length : Int) : Int) := of_decide_eq_true (by first | (with_reducible assumption) | assumption); obtain ⟨go31, co31, eo31, gb31, gl31, cl31, HG31⟩ := Kd.R_form HO111.out (by omega); (first | cases eo31 | (injection eo31 with ea_ en_ ec_; (first | subst ea_ | (injection ea_ with ea_; subst ea_)); subst ec_; clear en_)); have GB31 := Aside0.mk gb31; have GG31 := Aside0.mk HG31; clear gb31 gl31 HG31; obtain ⟨ce31, hcl31, hM31, hcc31, hfr31⟩ := Kd.R_elem HO111.out z39 (t107 : Int) p31 q31; obtain rfl := k39_openM hM31; have hx31_0 : w51.cell? ⟨go31, (t107 : Int).toNat * 2, none⟩ = some (.int .i64 ((rd_T39 t109 t107).f0)) := hcc31 0 _ rfl; have hx31_1 : w51.cell? ⟨go31, (t107 : Int).toNat * 2 + 1, none⟩ = some (.int .i64 ((rd_T39 t109 t107).f1)) := hcc31 1 _ rfl; have hf31_0 : w51.frozen? ⟨go31, (t107 : Int).toNat * 2, none⟩ = false := hfr31 0; have hf31_1 : w51.frozen? ⟨go31, (t107 : Int).toNat * 2 + 1, none⟩ = false := hfr31 1; clear hcl31 hcc31 hfr31 hM31; replace p31 := eq_true p31; replace q31 := eq_true q31; have HX53 := Aside0.mk (show Kd.R k39 39 w51 w.heap.size (fun _ => True) (.slice (some ⟨go31, 0, none⟩) t109.length co49) t109 from (by (with_reducible repeat (first | apply Kd.R_alloc | apply Kd.R_drewN | apply Kd.R_drew)); exact HO111.out)); obtain ⟨ce53, hcl53, hM53, hcc53, hfr53⟩ := Kd.R_elem HX53.out z39 (t107 : Int) (of_decide_eq_true (by first | (with_reducible assumption) | assumption)) (by have h_ : (t107 : Int) < ((t109.length : Int) : Int) := of_decide_eq_true (by first | (with_reducible assumption) | assumption); first | exact h_ | (have e_ := (Kd.R_reads' HO111.out).1; omega) | simpa using h_); obtain rfl := k39_openM hM53; have HP53 := Kd.R_seg HX53.out (t107 : Int) (of_decide_eq_true (by first | (with_reducible assumption) | assumption)) (by have h_ : (t107 : Int) < ((t109.length : Int) : Int) := of_decide_eq_true (by first | (with_reducible assumption) | assumption); first | exact h_ | (have e_ := (Kd.R_reads' HO111.out).1; omega) | simpa using h_) (seg := [.int .i64 t105]) (j := 1) hcl53 hcc53 (show 2 ≤ 2 from by decide) (x' := (⟨(rd_T39 t109 t107).f0, t105⟩ : S39)) (k39_mkM _ _ _ (⟨(rd_T39 t109 t107).f0, t105⟩ : S39) ) (fun _ hk => hk); have hx53_1 := hcc53 1 _ rfl; (try simp only [show (k39).sz = 2 from rfl, Nat.mul_one, Nat.add_zero] at hx53_1); have hf53_1 := hfr53 1; (try simp only [show (k39).sz = 2 from rfl, Nat.mul_one, Nat.add_zero] at hf53_1); clear hcl53 hcc53 hfr53 hM53) | ((with_reducible refine gate_store (t := 3) (p := 68) rfl ?_); refine store_event (t := 3) (p := 68) (v := ?vo_w54) (w1 := (w51.setCell ⟨go31, (t107 : Int).toNat * 2 + 1, none⟩ (.int .i64 t105))) ?hg ?ho ?hn ?hr ?_; (case ho => rfl); (case hg => rfl); (case hn => rfl); (case hr => first | (go_simp; done) | (go_simp; rfl)); intro w54 hw; have hg : w51.grownBy w54 (some go31) := (by rw [hw]; exact HP53.2); have hp_ : Kd.R k39 39 w54 w.heap.size (fun _ => True) (.slice (some ⟨go31, 0, none⟩) t109.length co49) y112 := (by rw [hw, Ny112.out]; exact HP53.1); clear HP53; have n0_ := Aside0.mk (blk_grown (g := gb101) (o := .cells #[.int .i64 a0_0, .int .i64 a0_1, .int .i64 a0_2, .slice (some ⟨go31, 0, none⟩) t109.length co49] 25 (0, 0)) (by (with_reducible repeat (first | refine blk_drewN ?_ _ | refine blk_drew ?_ | refine blk_alloc ?_ _)); exact BK101.out) hg (Kd.R_ne HO111.out BK101.out (by decide))); have n1_ := Aside0.mk (blk_grown (g := gb102) (o := .cells #[.int .i64 0, .int .i64 0, .int .i64 0, .slice none 0 0] 25 (0, 0)) (by (with_reducible repeat (first | refine blk_drewN ?_ _ | refine blk_drew ?_ | refine blk_alloc ?_ _)); exact BK102.out) hg (Kd.R_ne HO111.out BK102.out (by decide))); have n2_ := Aside0.mk (hp_); have n3_ := Aside0.mk ((by rw [hw]; exact below_set (HB.out) GB31.out : Below w.heap.size w w54)); clear BK101; clear BK102; clear HO111; clear HB; have BK101 := n0_; have BK102 := n1_; have HO111 := n2_; have HB := n3_; clear n0_ n1_ n2_ n3_; clear hg hw hp_))
           have n0_ := Aside0.mk (Kd.R_drew HO111.out)
           have n1_ := Aside0.mk (blk_drew BK101.out)
           have n2_ := Aside0.mk (blk_drew BK102.out)
           have n3_ := Aside0.mk (below_drew1 HB.out)
           clear HO111
           clear BK101
           clear BK102
           clear HB
           have HO111 := n0_
           have BK101 := n1_
           have BK102 := n2_
           have HB := n3_
           clear n0_ n1_ n2_ n3_
           refine start_ (n := 6) (S := fun w' => w'.cell? ⟨gb101, 0, none⟩ = some (.int .i64 a0_0) ∧ w'.cell? ⟨gb101, 1, none⟩ = some (.int .i64 a0_1) ∧ w'.cell? ⟨gb101, 2, none⟩ = some (.int .i64 a0_2) ∧ w'.cell? ⟨gb101, 3, none⟩ = some (.slice (some ⟨go31, 0, none⟩) t109.length co49)) (ds := []) #[false, false, false, false, false, false] (by kernel_rfl) rfl rfl ⟨(blk_cell BK101.out 0).trans rfl, (blk_cell BK101.out 1).trans rfl, (blk_cell BK101.out 2).trans rfl, (blk_cell BK101.out 3).trans rfl⟩ (fun hHeld => ?_)
           generalize w54.drew = w55 at HO111 BK101 BK102 HB hHeld ⊢
           refine pure_ (i := 0) (N := some 69) (v := ?_) (a' := ?_) #[true, false, false, false, false, false] rfl rfl (by kernel_rfl) (fun _ _ _ h => h) (Or.inl ⟨by rfl, ?_⟩) ?_ ?_
           rotate_left
           ·intro w'
            go_simp
            with_reducible rfl
           rotate_left
           ·simp only [Act.put, List.setIfInBounds_toArray, List.set_cons_zero, List.set_cons_succ, i64_w, i32_w]
            rfl
           refine pure_ (i := 3) (N := some 72) (v := ?_) (a' := ?_) #[true, false, false, true, false, false] rfl rfl (by kernel_rfl) (fun _ _ _ h => h) (Or.inl ⟨by rfl, ?_⟩) ?_ ?_
           rotate_left
           ·intro w'
            go_simp
            with_reducible rfl
           rotate_left
           ·simp only [Act.put, List.setIfInBounds_toArray, List.set_cons_zero, List.set_cons_succ, i64_w, i32_w]
            rfl
           refine take_ (i := 1) (N := some 70) (v := ?_) (a' := ?_) #[true, true, false, true, false, false] rfl rfl (by kernel_rfl) (fun _ _ _ h => h) (Or.inl ⟨by rfl, ?_⟩) hHeld ?_ ?_
           rotate_left
           ·rintro w' ⟨s0, s1, s2, s3⟩
            go_simp
            with_reducible rfl
           rotate_left
           ·simp only [Act.put, List.setIfInBounds_toArray, List.set_cons_zero, List.set_cons_succ, i64_w, i32_w]
            rfl
           refine take_ (i := 4) (N := some 73) (v := ?_) (a' := ?_) #[true, true, false, true, true, false] rfl rfl (by kernel_rfl) (fun _ _ _ h => h) (Or.inl ⟨by rfl, ?_⟩) hHeld ?_ ?_
           rotate_left
           ·rintro w' ⟨s0, s1, s2, s3⟩
            go_simp
            with_reducible rfl
           rotate_left
           ·simp only [Act.put, List.setIfInBounds_toArray, List.set_cons_zero, List.set_cons_succ, i64_w, i32_w]
            rfl
           refine one_ (i := 2) (N := some 71) #[true, true, true, true, true, false] rfl rfl (by kernel_rfl) (by decide) (fun K hK => ?_)
           refine goes_ Try.func35 (by kernel_rfl) rfl #[.slice (some ⟨go31, 0, none⟩) y112.length co49] (by rfl) rfl rfl (by (try simp only [List.map_toArray, List.map_cons, List.map_nil]); first | done | (rw [show y112.length = t109.length from (Kd.R_reads' HO111.out).1.symm] <;> rfl) | rfl | (simp only [List.length_drop, List.length_take]; rfl)) ?_
           with_reducible refine (guarantee_sum.calls kj10 _ _ y112 t113 _ ?side1 ?side2 A32.out).mono ?_
           (case side1 => repeat (first | exact (Kd.R_reads' HO111.out).2.2 | (with_reducible refine Kd.C_alloc ?_ _) | (with_reducible refine Kd.C_drewN ?_ _) | (with_reducible refine Kd.C_drew ?_)))
           (case side2 => rw [show y112.length = t109.length from (Kd.R_reads' HO111.out).1.symm]; exact (Kd.R_reads' HO111.out).2.1)
           rintro e w56 ⟨rfl, hb⟩
           refine ⟨_, rfl, ?_⟩
           have n0_ := Aside0.mk (Kd.R_below (by (with_reducible repeat (first | apply Kd.R_alloc | apply Kd.R_drewN | apply Kd.R_drew)); exact HO111.out) hb)
           have n1_ := Aside0.mk (blk_below (g := gb101) (o := .cells #[.int .i64 a0_0, .int .i64 a0_1, .int .i64 a0_2, .slice (some ⟨go31, 0, none⟩) t109.length co49] 25 (0, 0)) (by (with_reducible repeat (first | refine blk_drewN ?_ _ | refine blk_drew ?_ | refine blk_alloc ?_ _)); exact BK101.out) hb)
           have n2_ := Aside0.mk (blk_below (g := gb102) (o := .cells #[.int .i64 0, .int .i64 0, .int .i64 0, .slice none 0 0] 25 (0, 0)) (by (with_reducible repeat (first | refine blk_drewN ?_ _ | refine blk_drew ?_ | refine blk_alloc ?_ _)); exact BK102.out) hb)
           have n3_ := Aside0.mk (below_step (by repeat (first | (with_reducible first | exact HB.out | apply below_alloc | apply pw_below_drewN | apply below_drew1 | refine below_set ?_ GE101.out | refine below_set ?_ GE102.out) | exact HB.out)) hb)
           clear HO111
           clear BK101
           clear BK102
           clear HB
           have HO111 := n0_
           have BK101 := n1_
           have BK102 := n2_
           have HB := n3_
           clear n0_ n1_ n2_ n3_
           (try clear hb)
           (try clear hb2)
           (try clear hk)
           (try clear hi)
           refine hK.out _ _ ⟨(blk_cell BK101.out 0).trans rfl, (blk_cell BK101.out 1).trans rfl, (blk_cell BK101.out 2).trans rfl, (blk_cell BK101.out 3).trans rfl⟩ (fun hHeld => ?_)
           clear hK K
           refine norm_ (a' := ?_) ?_ ?_
           rotate_left
           ·show Act.put _ (some 71) _ = _
            simp only [Act.put, List.setIfInBounds_toArray, List.set_cons_zero, List.set_cons_succ, i64_w, i32_w]
            rfl
           refine pure_ (i := 5) (N := some 74) (v := ?_) (a' := ?_) #[true, true, true, true, true, true] rfl rfl (by kernel_rfl) (fun _ _ _ h => h) (Or.inl ⟨by rfl, ?_⟩) ?_ ?_
           rotate_left
           ·intro w'
            go_simp
            with_reducible rfl
           rotate_left
           ·simp only [Act.put, List.setIfInBounds_toArray, List.set_cons_zero, List.set_cons_succ, i64_w, i32_w]
            rfl
           refine done_ (by kernel_rfl) ?_
           have hcz57_0 : w56.cell? ⟨gb101, 0, none⟩ = some (.int .i64 a0_0) := (blk_cell BK101.out 0).trans rfl
           have hcz57_1 : w56.cell? ⟨gb101, 1, none⟩ = some (.int .i64 a0_1) := (blk_cell BK101.out 1).trans rfl
           have hcz57_2 : w56.cell? ⟨gb101, 2, none⟩ = some (.int .i64 a0_2) := (blk_cell BK101.out 2).trans rfl
           have hcz57_3 : w56.cell? ⟨gb101, 3, none⟩ = some (.slice (some ⟨go31, 0, none⟩) t109.length co49) := (blk_cell BK101.out 3).trans rfl
           have hfz57_0 := blk_frozen BK101.out 0
           have hfz57_1 := blk_frozen BK101.out 1
           have hfz57_2 := blk_frozen BK101.out 2
           have hfz57_3 := blk_frozen BK101.out 3
           have hcz58_0 : w56.cell? ⟨gb102, 0, none⟩ = some (.int .i64 0) := (blk_cell BK102.out 0).trans rfl
           have hcz58_1 : w56.cell? ⟨gb102, 1, none⟩ = some (.int .i64 0) := (blk_cell BK102.out 1).trans rfl
           have hcz58_2 : w56.cell? ⟨gb102, 2, none⟩ = some (.int .i64 0) := (blk_cell BK102.out 2).trans rfl
           have hcz58_3 : w56.cell? ⟨gb102, 3, none⟩ = some (.slice none 0 0) := (blk_cell BK102.out 3).trans rfl
           have hfz58_0 := blk_frozen BK102.out 0
           have hfz58_1 := blk_frozen BK102.out 1
           have hfz58_2 := blk_frozen BK102.out 2
           have hfz58_3 := blk_frozen BK102.out 3
           try go_wp2
           refine bodyPost_ret (results_ct rfl _ _ gb102 25 #[.int .i64 a0_0, .int .i64 a0_1, .int .i64 a0_2, .slice (some ⟨go31, 0, none⟩) t109.length co49] (0, 0) _ rfl (by (with_reducible repeat (first | refine blk_drewN ?_ _ | refine blk_drew ?_ | refine blk_alloc ?_ _)); refine blk_put (cs := #[.int .i64 a0_0, .int .i64 a0_1, .int .i64 a0_2, .slice none 0 0]) ?_ 3 _ rfl; refine blk_put (cs := #[.int .i64 a0_0, .int .i64 a0_1, .int .i64 0, .slice none 0 0]) ?_ 2 _ rfl; refine blk_put (cs := #[.int .i64 a0_0, .int .i64 0, .int .i64 0, .slice none 0 0]) ?_ 1 _ rfl; refine blk_put (cs := #[.int .i64 0, .int .i64 0, .int .i64 0, .slice none 0 0]) ?_ 0 _ rfl; (with_reducible repeat (first | refine blk_drewN ?_ _ | refine blk_drew ?_ | refine blk_alloc ?_ _)); exact BK102.out) Try.underlying25 rfl (by kernel_rfl)) rfl ?_
           exact ⟨_, by first | rfl | (simp [errW_none, errW_some] <;> rfl) | (simp [*, errW_none, errW_some] <;> rfl), by (with_reducible repeat (first | apply Kd.R_alloc | apply Kd.R_drewN | apply Kd.R_drew)); exact Kd.R_mono (Kd.R_far (p := ⟨gb102, 3, none⟩) (Kd.R_far (p := ⟨gb102, 2, none⟩) (Kd.R_far (p := ⟨gb102, 1, none⟩) (Kd.R_far (p := ⟨gb102, 0, none⟩) (Kd.R_types HO111.out BK102.out (by decide)) (fun _ hk => hk.2) (.int .i64 a0_0)) (fun _ hk => hk.2) (.int .i64 a0_1)) (fun _ hk => hk.2) (.int .i64 a0_2)) (fun _ hk => hk.2) (.slice (some ⟨go31, 0, none⟩) t109.length co49)) (fun _ hk => trivial), by repeat (first | (with_reducible first | exact HB.out | apply below_alloc | apply pw_below_drewN | apply below_drew1 | refine below_set ?_ GE101.out | refine below_set ?_ GE102.out) | exact HB.out)⟩
         ·rw [if_neg c30] at H
          exact absurd H (by simp)
        ·rw [if_neg c29] at H
         exact absurd H (by simp)
       ·replace c28 := Bool.eq_false_iff.mpr c28
        subst c28
        have H1 : ((slices_Insert.f t109 t107 (([(⟨a1, 0⟩ : S39)] : List (S39)))).bind fun t117 => (if 0 ≤ t107 then (if t107 < (t117.length : Int) then ((some (t117.set (t107 : Int).toNat (⟨(rd_T39 t117 t107).f0, t105⟩ : S39) : List (S39))).bind fun y120 => ((guarantee_sum.f kj10 y120).bind fun t121 => (if t121 > a0_1 then (some (0, 0, 0, ([] : List (S39)), 16)) else (some (a0_0, a0_1, a0_2, y120, 0))))) else (none)) else (none))) = some (r1, r2, r3, r4, r5) := by rw [if_neg (show ¬ (false = true) by decide)] at H; exact H
        clear H
        have H := H1
        clear H1
        obtain ⟨y114, hy114⟩ : ∃ y_ : List (S39), y_ = (([(⟨a1, 0⟩ : S39)] : List (S39))) := ⟨_, rfl⟩
        replace H : ((slices_Insert.f t109 t107 y114).bind fun t117 => (if 0 ≤ t107 then (if t107 < (t117.length : Int) then ((some (t117.set (t107 : Int).toNat (⟨(rd_T39 t117 t107).f0, t105⟩ : S39) : List (S39))).bind fun y120 => ((guarantee_sum.f kj10 y120).bind fun t121 => (if t121 > a0_1 then (some (0, 0, 0, ([] : List (S39)), 16)) else (some (a0_0, a0_1, a0_2, y120, 0))))) else (none)) else (none))) = some (r1, r2, r3, r4, r5) := by first | (rw [hy114]; with_reducible exact H) | (have H2_ := (Option.bind_some _ _).symm.trans H; rw [hy114]; with_reducible exact H2_) | (have H2_ := (Option.bind_some _ _).symm.trans H; with_reducible exact H2_) | with_reducible exact H | (rw [hy114]; exact H) | exact H
        have Ny114 := Aside0.mk hy114
        clear hy114
        replace H := Option.bind_eq_some_iff.mp H
        obtain ⟨t117, A590, H⟩ := H
        replace H : (if 0 ≤ t107 then (if t107 < (t117.length : Int) then ((some (t117.set (t107 : Int).toNat (⟨(rd_T39 t117 t107).f0, t105⟩ : S39) : List (S39))).bind fun y120 => ((guarantee_sum.f kj10 y120).bind fun t121 => (if t121 > a0_1 then (some (0, 0, 0, ([] : List (S39)), 16)) else (some (a0_0, a0_1, a0_2, y120, 0))))) else (none)) else (none)) = some (r1, r2, r3, r4, r5) := H
        have A59 := Aside0.mk A590
        clear A590
        by_cases c60 : 0 ≤ t107
        ·rw [if_pos c60] at H
         have c60b0 : decide (0 ≤ t107) = true := decide_eq_true c60
         clear c60
         by_cases c61 : t107 < (t117.length : Int)
         ·rw [if_pos c61] at H
          have c61b0 : decide (t107 < (t117.length : Int)) = true := decide_eq_true c61
          clear c61
          obtain ⟨y120, hy120⟩ : ∃ y_ : List (S39), y_ = (t117.set (t107 : Int).toNat (⟨(rd_T39 t117 t107).f0, t105⟩ : S39)) := ⟨_, rfl⟩
          replace H : ((guarantee_sum.f kj10 y120).bind fun t121 => (if t121 > a0_1 then (some (0, 0, 0, ([] : List (S39)), 16)) else (some (a0_0, a0_1, a0_2, y120, 0)))) = some (r1, r2, r3, r4, r5) := by first | (rw [hy120]; with_reducible exact H) | (have H2_ := (Option.bind_some _ _).symm.trans H; rw [hy120]; with_reducible exact H2_) | (have H2_ := (Option.bind_some _ _).symm.trans H; with_reducible exact H2_) | with_reducible exact H | (rw [hy120]; exact H) | exact H
          have Ny120 := Aside0.mk hy120
          clear hy120
          replace H := Option.bind_eq_some_iff.mp H
          obtain ⟨t121, A630, H⟩ := H
          replace H : (if t121 > a0_1 then (some (0, 0, 0, ([] : List (S39)), 16)) else (some (a0_0, a0_1, a0_2, y120, 0))) = some (r1, r2, r3, r4, r5) := H
          have A63 := Aside0.mk A630
          clear A630
          by_cases c64 : t121 > a0_1
          ·rw [if_pos c64] at H
           have c64b0 : decide (a0_1 < t121) = true := decide_eq_true c64
           clear c64
           simp only [Option.some.injEq, Prod.mk.injEq] at H
           obtain ⟨rfl, rfl, rfl, rfl, rfl⟩ := H
           have hnb65 := NB101_102.out
           have hnc65 := NB102_101.out
           have hcz66_0 : wc.cell? ⟨gb101, 0, none⟩ = some (.int .i64 a0_0) := (blk_cell BK101.out 0).trans rfl
           have hcz66_1 : wc.cell? ⟨gb101, 1, none⟩ = some (.int .i64 a0_1) := (blk_cell BK101.out 1).trans rfl
           have hcz66_2 : wc.cell? ⟨gb101, 2, none⟩ = some (.int .i64 a0_2) := (blk_cell BK101.out 2).trans rfl
           have hcz66_3 : wc.cell? ⟨gb101, 3, none⟩ = some (.slice A0_3 l0_3.length c0_3) := (blk_cell BK101.out 3).trans rfl
           have hfz66_0 := blk_frozen BK101.out 0
           have hfz66_1 := blk_frozen BK101.out 1
           have hfz66_2 := blk_frozen BK101.out 2
           have hfz66_3 := blk_frozen BK101.out 3
           try go_wp2_with (first | ((with_reducible refine gate_callee (f := 38) rfl ?_); refine goesL_ (some 51) rfl rfl Try.func38 (by kernel_rfl) rfl #[.slice A0_3 l0_3.length c0_3] rfl (by (try simp only [List.map_toArray, List.map_cons, List.map_nil]); first | done | rfl | (simp only [List.length_drop, List.length_take]; rfl)) ?_; (with_reducible refine (slices_Clone.calls _ _ l0_3 t109 _ ?side1 ?side2 A27.out).mono ?_); (case side1 => repeat (first | exact (Kd.C_below HR0_3.out HB.out) | (with_reducible refine Kd.C_alloc ?_ _) | (with_reducible refine Kd.C_drewN ?_ _) | (with_reducible refine Kd.C_drew ?_))); (case side2 => exact HC0_3.out); rintro e w67 ⟨v110, rfl, ho0, hb⟩; refine ⟨_, rfl, ?_⟩; have qb_ := below_both (by repeat (first | (with_reducible first | exact HB.out | apply below_alloc | apply pw_below_drewN | apply below_drew1 | refine below_set ?_ GE101.out | refine below_set ?_ GE102.out) | exact HB.out)) hb; have n0_ := Aside0.mk (Kd.R_lower ho0 qb_.2); have n1_ := Aside0.mk (blk_below (g := gb101) (o := .cells #[.int .i64 a0_0, .int .i64 a0_1, .int .i64 a0_2, .slice A0_3 l0_3.length c0_3] 25 (0, 0)) (by (with_reducible repeat (first | refine blk_drewN ?_ _ | refine blk_drew ?_ | refine blk_alloc ?_ _)); exact BK101.out) hb); have n2_ := Aside0.mk (blk_below (g := gb102) (o := .cells #[.int .i64 0, .int .i64 0, .int .i64 0, .slice none 0 0] 25 (0, 0)) (by (with_reducible repeat (first | refine blk_drewN ?_ _ | refine blk_drew ?_ | refine blk_alloc ?_ _)); exact BK102.out) hb); have n3_ := Aside0.mk (qb_.1); clear BK101; clear BK102; clear HB; have HO111 := n0_; have BK101 := n1_; have BK102 := n2_; have HB := n3_; clear qb_; clear n0_ n1_ n2_ n3_; (try clear hb); (try clear hb2); (try clear hk); (try clear hi); (try clear ho0); obtain ⟨Ao68, co68, eo68⟩ := Kd.R_slice HO111.out; subst eo68; have hcz69_0 : w67.cell? ⟨gb101, 0, none⟩ = some (.int .i64 a0_0) := (blk_cell BK101.out 0).trans rfl; have hcz69_1 : w67.cell? ⟨gb101, 1, none⟩ = some (.int .i64 a0_1) := (blk_cell BK101.out 1).trans rfl; have hcz69_2 : w67.cell? ⟨gb101, 2, none⟩ = some (.int .i64 a0_2) := (blk_cell BK101.out 2).trans rfl; have hcz69_3 : w67.cell? ⟨gb101, 3, none⟩ = some (.slice A0_3 l0_3.length c0_3) := (blk_cell BK101.out 3).trans rfl; have hfz69_0 := blk_frozen BK101.out 0; have hfz69_1 := blk_frozen BK101.out 1; have hfz69_2 := blk_frozen BK101.out 2; have hfz69_3 := blk_frozen BK101.out 3) | ((with_reducible refine gate_dst (N := 60) rfl ?_); refine Kd.R_lit k39 _ 39 ?hg (N := 60) ?hd (xs := ([(⟨a1, 0⟩ : S39)] : List (S39))) (inner := [.int .i64 a1, .int .i64 0]) (ok := fun _ => True) (okp := fun _ => True) ?hr ?hp (fun _ hk => hk) trivial (Below.refl _ _) (Nat.le_refl _) (by simp) ?_; (case hd => rfl); (case hg => rfl); (case hr => first | (go_simp; done) | (go_simp; rfl)); (case hp => exact (Reps.c2 (show Kd.M k39 _ _ _ (⟨a1, 0⟩ : S39) [.int .i64 a1, .int .i64 0] from (k39_mkM _ _ _ (⟨a1, 0⟩ : S39) )) (Reps.none _ _))); intro v115 w70 ho71 hb hg_ hnew_; clear hg_ hnew_; (first | rw [← Ny114.out] at ho71 | (simp only [Int.reduceToNat] at ho71; rw [← Ny114.out] at ho71)); have qb_ := below_both (by repeat (first | (with_reducible first | exact HB.out | apply below_alloc | apply pw_below_drewN | apply below_drew1 | refine below_set ?_ GE101.out | refine below_set ?_ GE102.out) | exact HB.out)) hb; have q1_ := Kd.R_elder2 (by (with_reducible repeat (first | apply Kd.R_alloc | apply Kd.R_drewN | apply Kd.R_drew)); exact (Kd.R_mono (Kd.R_far (p := ⟨gb101, 3, none⟩) (Kd.R_types HO111.out BK101.out (by decide)) (fun _ hk => hk.2) (.slice Ao68 t109.length co68)) (fun _ h_ => h_.1))) (Kd.R_base ho71) hb; have n0_ := Aside0.mk (q1_.1); have n1_ := Aside0.mk (Kd.R_lower (Kd.R_new' ho71 q1_.2) qb_.2); have n2_ := Aside0.mk (blk_below (g := gb101) (o := .cells #[.int .i64 a0_0, .int .i64 a0_1, .int .i64 a0_2, .slice Ao68 t109.length co68] 25 (0, 0)) (by (with_reducible repeat (first | refine blk_drewN ?_ _ | refine blk_drew ?_ | refine blk_alloc ?_ _)); refine blk_put (cs := #[.int .i64 a0_0, .int .i64 a0_1, .int .i64 a0_2, .slice A0_3 l0_3.length c0_3]) ?_ 3 _ rfl; (with_reducible repeat (first | refine blk_drewN ?_ _ | refine blk_drew ?_ | refine blk_alloc ?_ _)); exact BK101.out) hb); have n3_ := Aside0.mk (blk_below (g := gb102) (o := .cells #[.int .i64 0, .int .i64 0, .int .i64 0, .slice none 0 0] 25 (0, 0)) (by (with_reducible repeat (first | refine blk_drewN ?_ _ | refine blk_drew ?_ | refine blk_alloc ?_ _)); refine blk_far ?_ NB102_101.out _; (with_reducible repeat (first | refine blk_drewN ?_ _ | refine blk_drew ?_ | refine blk_alloc ?_ _)); exact BK102.out) hb); have n4_ := Aside0.mk (qb_.1); clear HO111; clear BK101; clear BK102; clear HB; have HO111 := n0_; have HO116 := n1_; have BK101 := n2_; have BK102 := n3_; have HB := n4_; clear q1_; clear qb_; clear n0_ n1_ n2_ n3_ n4_; clear hb ho71; obtain ⟨Ao72, co72, eo72⟩ := Kd.R_slice HO116.out; subst eo72) | ((with_reducible refine gate_callee (f := 39) rfl ?_); refine goesL_ (some 61) rfl rfl Try.func39 (by kernel_rfl) rfl #[.slice Ao68 t109.length co68, .int .i64 t107, .slice Ao72 y114.length co72] rfl (by (try simp only [List.map_toArray, List.map_cons, List.map_nil]); first | done | rfl | (simp only [List.length_drop, List.length_take]; rfl)) ?_; (with_reducible refine (slices_Insert.calls (fun k_ => some k_ = (.slice Ao68 t109.length co68 : Value).ownBlock) (.slice Ao68 t109.length co68) t109 t107 (fun k_ => some k_ = (.slice Ao72 y114.length co72 : Value).ownBlock) (.slice Ao72 y114.length co72) y114 t117 w _ ?side1 ?side2 ?side3 ?side4 ?side5 A59.out).mono ?_); (case side1 => repeat (first | (with_reducible first | exact HB.out | apply below_alloc | apply pw_below_drewN | apply below_drew1 | refine below_set ?_ GE101.out | refine below_set ?_ GE102.out) | exact HB.out)); (case side2 => exact Kd.R_tight rfl HO111.out); (case side3 => exact fun k_ e_ => (HO111.out.1 k_ e_.symm).2); (case side4 => exact Kd.R_tight rfl HO116.out); (case side5 => exact fun k_ e_ => (HO116.out.1 k_ e_.symm).2); rintro e w73 ⟨v118, rfl, ho0, hb, hkp⟩; refine ⟨_, rfl, ?_⟩; have n0_ := Aside0.mk (blk_kept (by (with_reducible repeat (first | refine blk_drewN ?_ _ | refine blk_drew ?_ | refine blk_alloc ?_ _)); exact BK101.out) hkp (fun hs_ => Or.elim hs_ (fun e_ => (fun e_ => (Kd.R_ne HO111.out BK101.out (by decide)) e_) e_) (fun e_ => (fun e_ => (Kd.R_ne HO116.out BK101.out (by decide)) e_) e_))); have n1_ := Aside0.mk (blk_kept (by (with_reducible repeat (first | refine blk_drewN ?_ _ | refine blk_drew ?_ | refine blk_alloc ?_ _)); exact BK102.out) hkp (fun hs_ => Or.elim hs_ (fun e_ => (fun e_ => (Kd.R_ne HO111.out BK102.out (by decide)) e_) e_) (fun e_ => (fun e_ => (Kd.R_ne HO116.out BK102.out (by decide)) e_) e_))); have n2_ := Aside0.mk (Kd.R_mono (ok' := fun k_ => True) ho0 (fun k_ hk_ => trivial)); have n3_ := Aside0.mk (hb); clear BK101; clear BK102; clear HB; clear HO111; clear HO116; have BK101 := n0_; have BK102 := n1_; have HO119 := n2_; have HB := n3_; clear n0_ n1_ n2_ n3_; (try clear hb); (try clear hkp); (try clear ho0); obtain ⟨Ao74, co74, eo74⟩ := Kd.R_slice HO119.out; subst eo74; have hcz75_0 : w73.cell? ⟨gb101, 0, none⟩ = some (.int .i64 a0_0) := (blk_cell BK101.out 0).trans rfl; have hcz75_1 : w73.cell? ⟨gb101, 1, none⟩ = some (.int .i64 a0_1) := (blk_cell BK101.out 1).trans rfl; have hcz75_2 : w73.cell? ⟨gb101, 2, none⟩ = some (.int .i64 a0_2) := (blk_cell BK101.out 2).trans rfl; have hcz75_3 : w73.cell? ⟨gb101, 3, none⟩ = some (.slice Ao68 t109.length co68) := (blk_cell BK101.out 3).trans rfl; have hfz75_0 := blk_frozen BK101.out 0; have hfz75_1 := blk_frozen BK101.out 1; have hfz75_2 := blk_frozen BK101.out 2; have hfz75_3 := blk_frozen BK101.out 3) | ((with_reducible refine gate_store (t := 23) (p := 62) rfl ?_); refine store_event (t := 23) (p := 62) (v := ?vo_w76) (w1 := (w73.setCell ⟨gb101, 3, none⟩ (.slice Ao74 t117.length co74))) ?hg ?ho ?hn ?hr ?_; (case ho => rfl); (case hg => rfl); (case hn => rfl); (case hr => first | (go_simp; done) | (go_simp; rfl)); intro w76 hw; have n0_ : Aside0 (Kd.R k39 39 w76 w.heap.size (fun _ => True) (.slice Ao74 t117.length co74) t117) := ⟨(by rw [hw]; exact (by (with_reducible repeat (first | apply Kd.R_alloc | apply Kd.R_drewN | apply Kd.R_drew)); exact Kd.R_mono (Kd.R_far (p := ⟨gb101, 3, none⟩) (Kd.R_types HO119.out BK101.out (by decide)) (fun _ hk => hk.2) (.slice Ao74 t117.length co74)) (fun _ hk => trivial)))⟩; have n1_ : Aside0 (w76.heap[gb101]? = some (.cells #[.int .i64 a0_0, .int .i64 a0_1, .int .i64 a0_2, .slice Ao74 t117.length co74] 25 (0, 0))) := ⟨(by rw [hw]; exact (by (with_reducible repeat (first | refine blk_drewN ?_ _ | refine blk_drew ?_ | refine blk_alloc ?_ _)); refine blk_put (cs := #[.int .i64 a0_0, .int .i64 a0_1, .int .i64 a0_2, .slice Ao68 t109.length co68]) ?_ 3 _ rfl; (with_reducible repeat (first | refine blk_drewN ?_ _ | refine blk_drew ?_ | refine blk_alloc ?_ _)); exact BK101.out))⟩; have n2_ : Aside0 (w76.heap[gb102]? = some (.cells #[.int .i64 0, .int .i64 0, .int .i64 0, .slice none 0 0] 25 (0, 0))) := ⟨(by rw [hw]; exact (by (with_reducible repeat (first | refine blk_drewN ?_ _ | refine blk_drew ?_ | refine blk_alloc ?_ _)); refine blk_far ?_ NB102_101.out _; (with_reducible repeat (first | refine blk_drewN ?_ _ | refine blk_drew ?_ | refine blk_alloc ?_ _)); exact BK102.out))⟩; have n3_ : Aside0 (Below w.heap.size w w76) := ⟨(by rw [hw]; exact (by repeat (first | (with_reducible first | exact HB.out | apply below_alloc | apply pw_below_drewN | apply below_drew1 | refine below_set ?_ GE101.out | refine below_set ?_ GE102.out) | exact HB.out)))⟩; clear hw; clear HO119; clear BK101; clear BK102; clear HB; have HO119 := n0_; have BK101 := n1_; have BK102 := n2_; have HB := n3_; clear n0_ n1_ n2_ n3_; have hcz77_0 : w76.cell? ⟨gb101, 0, none⟩ = some (.int .i64 a0_0) := (blk_cell BK101.out 0).trans rfl; have hcz77_1 : w76.cell? ⟨gb101, 1, none⟩ = some (.int .i64 a0_1) := (blk_cell BK101.out 1).trans rfl; have hcz77_2 : w76.cell? ⟨gb101, 2, none⟩ = some (.int .i64 a0_2) := (blk_cell BK101.out 2).trans rfl; have hcz77_3 : w76.cell? ⟨gb101, 3, none⟩ = some (.slice Ao74 t117.length co74) := (blk_cell BK101.out 3).trans rfl; have hfz77_0 := blk_frozen BK101.out 0; have hfz77_1 := blk_frozen BK101.out 1; have hfz77_2 := blk_frozen BK101.out 2; have hfz77_3 := blk_frozen BK101.out 3; have p62 : 0 ≤ (t107 : Int) := of_decide_eq_true (by first | (with_reducible assumption) | assumption); have q62 : (t107 : Int) < ((t117.length : Int) : Int) := of_decide_eq_true (by first | (with_reducible assumption) | assumption); obtain ⟨go62, co62, eo62, gb62, gl62, cl62, HG62⟩ := Kd.R_form HO119.out (by omega); (first | cases eo62 | (injection eo62 with ea_ en_ ec_; (first | subst ea_ | (injection ea_ with ea_; subst ea_)); subst ec_; clear en_)); have GB62 := Aside0.mk gb62; have GG62 := Aside0.mk HG62; clear gb62 gl62 HG62; obtain ⟨ce62, hcl62, hM62, hcc62, hfr62⟩ := Kd.R_elem HO119.out z39 (t107 : Int) p62 q62; obtain rfl := k39_openM hM62; have hx62_0 : w76.cell? ⟨go62, (t107 : Int).toNat * 2, none⟩ = some (.int .i64 ((rd_T39 t117 t107).f0)) := hcc62 0 _ rfl; have hx62_1 : w76.cell? ⟨go62, (t107 : Int).toNat * 2 + 1, none⟩ = some (.int .i64 ((rd_T39 t117 t107).f1)) := hcc62 1 _ rfl; have hf62_0 : w76.frozen? ⟨go62, (t107 : Int).toNat * 2, none⟩ = false := hfr62 0; have hf62_1 : w76.frozen? ⟨go62, (t107 : Int).toNat * 2 + 1, none⟩ = false := hfr62 1; clear hcl62 hcc62 hfr62 hM62; replace p62 := eq_true p62; replace q62 := eq_true q62; have HX78 := Aside0.mk (show Kd.R k39 39 w76 w.heap.size (fun _ => True) (.slice (some ⟨go62, 0, none⟩) t117.length co74) t117 from (by (with_reducible repeat (first | apply Kd.R_alloc | apply Kd.R_drewN | apply Kd.R_drew)); exact HO119.out)); obtain ⟨ce78, hcl78, hM78, hcc78, hfr78⟩ := Kd.R_elem HX78.out z39 (t107 : Int) (of_decide_eq_true (by first | (with_reducible assumption) | assumption)) (by have h_ : (t107 : Int) < ((t117.length : Int) : Int) := of_decide_eq_true (by first | (with_reducible assumption) | assumption); first | exact h_ | (have e_ := (Kd.R_reads' HO119.out).1; omega) | simpa using h_); obtain rfl := k39_openM hM78; have HP78 := Kd.R_seg HX78.out (t107 : Int) (of_decide_eq_true (by first | (with_reducible assumption) | assumption)) (by have h_ : (t107 : Int) < ((t117.length : Int) : Int) := of_decide_eq_true (by first | (with_reducible assumption) | assumption); first | exact h_ | (have e_ := (Kd.R_reads' HO119.out).1; omega) | simpa using h_) (seg := [.int .i64 t105]) (j := 1) hcl78 hcc78 (show 2 ≤ 2 from by decide) (x' := (⟨(rd_T39 t117 t107).f0, t105⟩ : S39)) (k39_mkM _ _ _ (⟨(rd_T39 t117 t107).f0, t105⟩ : S39) ) (fun _ hk => hk); have hx78_1 := hcc78 1 _ rfl; (try simp only [show (k39).sz = 2 from rfl, Nat.mul_one, Nat.add_zero] at hx78_1); have hf78_1 := hfr78 1; (try simp only [show (k39).sz = 2 from rfl, Nat.mul_one, Nat.add_zero] at hf78_1); clear hcl78 hcc78 hfr78 hM78) | ((with_reducible refine gate_store (t := 3) (p := 68) rfl ?_); refine store_event (t := 3) (p := 68) (v := ?vo_w79) (w1 := (w76.setCell ⟨go62, (t107 : Int).toNat * 2 + 1, none⟩ (.int .i64 t105))) ?hg ?ho ?hn ?hr ?_; (case ho => rfl); (case hg => rfl); (case hn => rfl); (case hr => first | (go_simp; done) | (go_simp; rfl)); intro w79 hw; have hg : w76.grownBy w79 (some go62) := (by rw [hw]; exact HP78.2); have hp_ : Kd.R k39 39 w79 w.heap.size (fun _ => True) (.slice (some ⟨go62, 0, none⟩) t117.length co74) y120 := (by rw [hw, Ny120.out]; exact HP78.1); clear HP78; have n0_ := Aside0.mk (blk_grown (g := gb101) (o := .cells #[.int .i64 a0_0, .int .i64 a0_1, .int .i64 a0_2, .slice (some ⟨go62, 0, none⟩) t117.length co74] 25 (0, 0)) (by (with_reducible repeat (first | refine blk_drewN ?_ _ | refine blk_drew ?_ | refine blk_alloc ?_ _)); exact BK101.out) hg (Kd.R_ne HO119.out BK101.out (by decide))); have n1_ := Aside0.mk (blk_grown (g := gb102) (o := .cells #[.int .i64 0, .int .i64 0, .int .i64 0, .slice none 0 0] 25 (0, 0)) (by (with_reducible repeat (first | refine blk_drewN ?_ _ | refine blk_drew ?_ | refine blk_alloc ?_ _)); exact BK102.out) hg (Kd.R_ne HO119.out BK102.out (by decide))); have n2_ := Aside0.mk (hp_); have n3_ := Aside0.mk ((by rw [hw]; exact below_set (HB.out) GB62.out : Below w.heap.size w w79)); clear BK101; clear BK102; clear HO119; clear HB; have BK101 := n0_; have BK102 := n1_; have HO119 := n2_; have HB := n3_; clear n0_ n1_ n2_ n3_; clear hg hw hp_))
           have n0_ := Aside0.mk (Kd.R_drew HO119.out)
           have n1_ := Aside0.mk (blk_drew BK101.out)
           have n2_ := Aside0.mk (blk_drew BK102.out)
           have n3_ := Aside0.mk (below_drew1 HB.out)
           clear HO119
           clear BK101
           clear BK102
           clear HB
           have HO119 := n0_
           have BK101 := n1_
           have BK102 := n2_
           have HB := n3_
           clear n0_ n1_ n2_ n3_
           refine start_ (n := 6) (S := fun w' => w'.cell? ⟨gb101, 0, none⟩ = some (.int .i64 a0_0) ∧ w'.cell? ⟨gb101, 1, none⟩ = some (.int .i64 a0_1) ∧ w'.cell? ⟨gb101, 2, none⟩ = some (.int .i64 a0_2) ∧ w'.cell? ⟨gb101, 3, none⟩ = some (.slice (some ⟨go62, 0, none⟩) t117.length co74)) (ds := []) #[false, false, false, false, false, false] (by kernel_rfl) rfl rfl ⟨(blk_cell BK101.out 0).trans rfl, (blk_cell BK101.out 1).trans rfl, (blk_cell BK101.out 2).trans rfl, (blk_cell BK101.out 3).trans rfl⟩ (fun hHeld => ?_)
           generalize w79.drew = w80 at HO119 BK101 BK102 HB hHeld ⊢
           refine pure_ (i := 0) (N := some 69) (v := ?_) (a' := ?_) #[true, false, false, false, false, false] rfl rfl (by kernel_rfl) (fun _ _ _ h => h) (Or.inl ⟨by rfl, ?_⟩) ?_ ?_
           rotate_left
           ·intro w'
            go_simp
            with_reducible rfl
           rotate_left
           ·simp only [Act.put, List.setIfInBounds_toArray, List.set_cons_zero, List.set_cons_succ, i64_w, i32_w]
            rfl
           refine pure_ (i := 3) (N := some 72) (v := ?_) (a' := ?_) #[true, false, false, true, false, false] rfl rfl (by kernel_rfl) (fun _ _ _ h => h) (Or.inl ⟨by rfl, ?_⟩) ?_ ?_
           rotate_left
           ·intro w'
            go_simp
            with_reducible rfl
           rotate_left
           ·simp only [Act.put, List.setIfInBounds_toArray, List.set_cons_zero, List.set_cons_succ, i64_w, i32_w]
            rfl
           refine take_ (i := 1) (N := some 70) (v := ?_) (a' := ?_) #[true, true, false, true, false, false] rfl rfl (by kernel_rfl) (fun _ _ _ h => h) (Or.inl ⟨by rfl, ?_⟩) hHeld ?_ ?_
           rotate_left
           ·rintro w' ⟨s0, s1, s2, s3⟩
            go_simp
            with_reducible rfl
           rotate_left
           ·simp only [Act.put, List.setIfInBounds_toArray, List.set_cons_zero, List.set_cons_succ, i64_w, i32_w]
            rfl
           refine take_ (i := 4) (N := some 73) (v := ?_) (a' := ?_) #[true, true, false, true, true, false] rfl rfl (by kernel_rfl) (fun _ _ _ h => h) (Or.inl ⟨by rfl, ?_⟩) hHeld ?_ ?_
           rotate_left
           ·rintro w' ⟨s0, s1, s2, s3⟩
            go_simp
            with_reducible rfl
           rotate_left
           ·simp only [Act.put, List.setIfInBounds_toArray, List.set_cons_zero, List.set_cons_succ, i64_w, i32_w]
            rfl
           refine one_ (i := 2) (N := some 71) #[true, true, true, true, true, false] rfl rfl (by kernel_rfl) (by decide) (fun K hK => ?_)
           refine goes_ Try.func35 (by kernel_rfl) rfl #[.slice (some ⟨go62, 0, none⟩) y120.length co74] (by rfl) rfl rfl (by (try simp only [List.map_toArray, List.map_cons, List.map_nil]); first | done | (rw [show y120.length = t117.length from (Kd.R_reads' HO119.out).1.symm] <;> rfl) | rfl | (simp only [List.length_drop, List.length_take]; rfl)) ?_
           with_reducible refine (guarantee_sum.calls kj10 _ _ y120 t121 _ ?side1 ?side2 A63.out).mono ?_
           (case side1 => repeat (first | exact (Kd.R_reads' HO119.out).2.2 | (with_reducible refine Kd.C_alloc ?_ _) | (with_reducible refine Kd.C_drewN ?_ _) | (with_reducible refine Kd.C_drew ?_)))
           (case side2 => rw [show y120.length = t117.length from (Kd.R_reads' HO119.out).1.symm]; exact (Kd.R_reads' HO119.out).2.1)
           rintro e w81 ⟨rfl, hb⟩
           refine ⟨_, rfl, ?_⟩
           have n0_ := Aside0.mk (Kd.R_below (by (with_reducible repeat (first | apply Kd.R_alloc | apply Kd.R_drewN | apply Kd.R_drew)); exact HO119.out) hb)
           have n1_ := Aside0.mk (blk_below (g := gb101) (o := .cells #[.int .i64 a0_0, .int .i64 a0_1, .int .i64 a0_2, .slice (some ⟨go62, 0, none⟩) t117.length co74] 25 (0, 0)) (by (with_reducible repeat (first | refine blk_drewN ?_ _ | refine blk_drew ?_ | refine blk_alloc ?_ _)); exact BK101.out) hb)
           have n2_ := Aside0.mk (blk_below (g := gb102) (o := .cells #[.int .i64 0, .int .i64 0, .int .i64 0, .slice none 0 0] 25 (0, 0)) (by (with_reducible repeat (first | refine blk_drewN ?_ _ | refine blk_drew ?_ | refine blk_alloc ?_ _)); exact BK102.out) hb)
           have n3_ := Aside0.mk (below_step (by repeat (first | (with_reducible first | exact HB.out | apply below_alloc | apply pw_below_drewN | apply below_drew1 | refine below_set ?_ GE101.out | refine below_set ?_ GE102.out) | exact HB.out)) hb)
           clear HO119
           clear BK101
           clear BK102
           clear HB
           have HO119 := n0_
           have BK101 := n1_
           have BK102 := n2_
           have HB := n3_
           clear n0_ n1_ n2_ n3_
           (try clear hb)
           (try clear hb2)
           (try clear hk)
           (try clear hi)
           refine hK.out _ _ ⟨(blk_cell BK101.out 0).trans rfl, (blk_cell BK101.out 1).trans rfl, (blk_cell BK101.out 2).trans rfl, (blk_cell BK101.out 3).trans rfl⟩ (fun hHeld => ?_)
           clear hK K
           refine norm_ (a' := ?_) ?_ ?_
           rotate_left
           ·show Act.put _ (some 71) _ = _
            simp only [Act.put, List.setIfInBounds_toArray, List.set_cons_zero, List.set_cons_succ, i64_w, i32_w]
            rfl
           refine pure_ (i := 5) (N := some 74) (v := ?_) (a' := ?_) #[true, true, true, true, true, true] rfl rfl (by kernel_rfl) (fun _ _ _ h => h) (Or.inl ⟨by rfl, ?_⟩) ?_ ?_
           rotate_left
           ·intro w'
            go_simp
            with_reducible rfl
           rotate_left
           ·simp only [Act.put, List.setIfInBounds_toArray, List.set_cons_zero, List.set_cons_succ, i64_w, i32_w]
            rfl
           refine done_ (by kernel_rfl) ?_
           have hcz82_0 : w81.cell? ⟨gb102, 0, none⟩ = some (.int .i64 0) := (blk_cell BK102.out 0).trans rfl
           have hcz82_1 : w81.cell? ⟨gb102, 1, none⟩ = some (.int .i64 0) := (blk_cell BK102.out 1).trans rfl
           have hcz82_2 : w81.cell? ⟨gb102, 2, none⟩ = some (.int .i64 0) := (blk_cell BK102.out 2).trans rfl
           have hcz82_3 : w81.cell? ⟨gb102, 3, none⟩ = some (.slice none 0 0) := (blk_cell BK102.out 3).trans rfl
           have hfz82_0 := blk_frozen BK102.out 0
           have hfz82_1 := blk_frozen BK102.out 1
           have hfz82_2 := blk_frozen BK102.out 2
           have hfz82_3 := blk_frozen BK102.out 3
           try go_wp2
           refine bodyPost_ret (results_ct rfl _ _ gb102 25 #[.int .i64 0, .int .i64 0, .int .i64 0, .slice none 0 0] (0, 0) _ rfl (by (with_reducible repeat (first | refine blk_drewN ?_ _ | refine blk_drew ?_ | refine blk_alloc ?_ _)); refine blk_put (cs := #[.int .i64 0, .int .i64 0, .int .i64 0, .slice none 0 0]) ?_ 3 _ rfl; refine blk_put (cs := #[.int .i64 0, .int .i64 0, .int .i64 0, .slice none 0 0]) ?_ 2 _ rfl; refine blk_put (cs := #[.int .i64 0, .int .i64 0, .int .i64 0, .slice none 0 0]) ?_ 1 _ rfl; refine blk_put (cs := #[.int .i64 0, .int .i64 0, .int .i64 0, .slice none 0 0]) ?_ 0 _ rfl; (with_reducible repeat (first | refine blk_drewN ?_ _ | refine blk_drew ?_ | refine blk_alloc ?_ _)); exact BK102.out) Try.underlying25 rfl (by kernel_rfl)) rfl ?_
           exact ⟨_, by first | rfl | (simp [errW_none, errW_some] <;> rfl) | (simp [*, errW_none, errW_some] <;> rfl), by first | exact Kd.R_nil _ _ _ _ _ | exact Kd.N_nil _ _ _ _ _ | exact Kd.V_nil _ _ _ _ _ | exact Kd.Q_nil _ _ _ _ _ | exact Kd.S_nil _ _ _ _ _, by repeat (first | (with_reducible first | exact HB.out | apply below_alloc | apply pw_below_drewN | apply below_drew1 | refine below_set ?_ GE101.out | refine below_set ?_ GE102.out) | exact HB.out)⟩
          ·rw [if_neg c64] at H
           have c64b0 : decide (a0_1 < t121) = false := decide_eq_false c64
           clear c64
           simp only [Option.some.injEq, Prod.mk.injEq] at H
           obtain ⟨rfl, rfl, rfl, rfl, rfl⟩ := H
           have hnb83 := NB101_102.out
           have hnc83 := NB102_101.out
           have hcz84_0 : wc.cell? ⟨gb101, 0, none⟩ = some (.int .i64 a0_0) := (blk_cell BK101.out 0).trans rfl
           have hcz84_1 : wc.cell? ⟨gb101, 1, none⟩ = some (.int .i64 a0_1) := (blk_cell BK101.out 1).trans rfl
           have hcz84_2 : wc.cell? ⟨gb101, 2, none⟩ = some (.int .i64 a0_2) := (blk_cell BK101.out 2).trans rfl
           have hcz84_3 : wc.cell? ⟨gb101, 3, none⟩ = some (.slice A0_3 l0_3.length c0_3) := (blk_cell BK101.out 3).trans rfl
           have hfz84_0 := blk_frozen BK101.out 0
           have hfz84_1 := blk_frozen BK101.out 1
           have hfz84_2 := blk_frozen BK101.out 2
           have hfz84_3 := blk_frozen BK101.out 3
           try go_wp2_with (first | ((with_reducible refine gate_callee (f := 38) rfl ?_); refine goesL_ (some 51) rfl rfl Try.func38 (by kernel_rfl) rfl #[.slice A0_3 l0_3.length c0_3] rfl (by (try simp only [List.map_toArray, List.map_cons, List.map_nil]); first | done | rfl | (simp only [List.length_drop, List.length_take]; rfl)) ?_; (with_reducible refine (slices_Clone.calls _ _ l0_3 t109 _ ?side1 ?side2 A27.out).mono ?_); (case side1 => repeat (first | exact (Kd.C_below HR0_3.out HB.out) | (with_reducible refine Kd.C_alloc ?_ _) | (with_reducible refine Kd.C_drewN ?_ _) | (with_reducible refine Kd.C_drew ?_))); (case side2 => exact HC0_3.out); rintro e w85 ⟨v110, rfl, ho0, hb⟩; refine ⟨_, rfl, ?_⟩; have qb_ := below_both (by repeat (first | (with_reducible first | exact HB.out | apply below_alloc | apply pw_below_drewN | apply below_drew1 | refine below_set ?_ GE101.out | refine below_set ?_ GE102.out) | exact HB.out)) hb; have n0_ := Aside0.mk (Kd.R_lower ho0 qb_.2); have n1_ := Aside0.mk (blk_below (g := gb101) (o := .cells #[.int .i64 a0_0, .int .i64 a0_1, .int .i64 a0_2, .slice A0_3 l0_3.length c0_3] 25 (0, 0)) (by (with_reducible repeat (first | refine blk_drewN ?_ _ | refine blk_drew ?_ | refine blk_alloc ?_ _)); exact BK101.out) hb); have n2_ := Aside0.mk (blk_below (g := gb102) (o := .cells #[.int .i64 0, .int .i64 0, .int .i64 0, .slice none 0 0] 25 (0, 0)) (by (with_reducible repeat (first | refine blk_drewN ?_ _ | refine blk_drew ?_ | refine blk_alloc ?_ _)); exact BK102.out) hb); have n3_ := Aside0.mk (qb_.1); clear BK101; clear BK102; clear HB; have HO111 := n0_; have BK101 := n1_; have BK102 := n2_; have HB := n3_; clear qb_; clear n0_ n1_ n2_ n3_; (try clear hb); (try clear hb2); (try clear hk); (try clear hi); (try clear ho0); obtain ⟨Ao86, co86, eo86⟩ := Kd.R_slice HO111.out; subst eo86; have hcz87_0 : w85.cell? ⟨gb101, 0, none⟩ = some (.int .i64 a0_0) := (blk_cell BK101.out 0).trans rfl; have hcz87_1 : w85.cell? ⟨gb101, 1, none⟩ = some (.int .i64 a0_1) := (blk_cell BK101.out 1).trans rfl; have hcz87_2 : w85.cell? ⟨gb101, 2, none⟩ = some (.int .i64 a0_2) := (blk_cell BK101.out 2).trans rfl; have hcz87_3 : w85.cell? ⟨gb101, 3, none⟩ = some (.slice A0_3 l0_3.length c0_3) := (blk_cell BK101.out 3).trans rfl; have hfz87_0 := blk_frozen BK101.out 0; have hfz87_1 := blk_frozen BK101.out 1; have hfz87_2 := blk_frozen BK101.out 2; have hfz87_3 := blk_frozen BK101.out 3) | ((with_reducible refine gate_dst (N := 60) rfl ?_); refine Kd.R_lit k39 _ 39 ?hg (N := 60) ?hd (xs := ([(⟨a1, 0⟩ : S39)] : List (S39))) (inner := [.int .i64 a1, .int .i64 0]) (ok := fun _ => True) (okp := fun _ => True) ?hr ?hp (fun _ hk => hk) trivial (Below.refl _ _) (Nat.le_refl _) (by simp) ?_; (case hd => rfl); (case hg => rfl); (case hr => first | (go_simp; done) | (go_simp; rfl)); (case hp => exact (Reps.c2 (show Kd.M k39 _ _ _ (⟨a1, 0⟩ : S39) [.int .i64 a1, .int .i64 0] from (k39_mkM _ _ _ (⟨a1, 0⟩ : S39) )) (Reps.none _ _))); intro v115 w88 ho89 hb hg_ hnew_; clear hg_ hnew_; (first | rw [← Ny114.out] at ho89 | (simp only [Int.reduceToNat] at ho89; rw [← Ny114.out] at ho89)); have qb_ := below_both (by repeat (first | (with_reducible first | exact HB.out | apply below_alloc | apply pw_below_drewN | apply below_drew1 | refine below_set ?_ GE101.out | refine below_set ?_ GE102.out) | exact HB.out)) hb; have q1_ := Kd.R_elder2 (by (with_reducible repeat (first | apply Kd.R_alloc | apply Kd.R_drewN | apply Kd.R_drew)); exact (Kd.R_mono (Kd.R_far (p := ⟨gb101, 3, none⟩) (Kd.R_types HO111.out BK101.out (by decide)) (fun _ hk => hk.2) (.slice Ao86 t109.length co86)) (fun _ h_ => h_.1))) (Kd.R_base ho89) hb; have n0_ := Aside0.mk (q1_.1); have n1_ := Aside0.mk (Kd.R_lower (Kd.R_new' ho89 q1_.2) qb_.2); have n2_ := Aside0.mk (blk_below (g := gb101) (o := .cells #[.int .i64 a0_0, .int .i64 a0_1, .int .i64 a0_2, .slice Ao86 t109.length co86] 25 (0, 0)) (by (with_reducible repeat (first | refine blk_drewN ?_ _ | refine blk_drew ?_ | refine blk_alloc ?_ _)); refine blk_put (cs := #[.int .i64 a0_0, .int .i64 a0_1, .int .i64 a0_2, .slice A0_3 l0_3.length c0_3]) ?_ 3 _ rfl; (with_reducible repeat (first | refine blk_drewN ?_ _ | refine blk_drew ?_ | refine blk_alloc ?_ _)); exact BK101.out) hb); have n3_ := Aside0.mk (blk_below (g := gb102) (o := .cells #[.int .i64 0, .int .i64 0, .int .i64 0, .slice none 0 0] 25 (0, 0)) (by (with_reducible repeat (first | refine blk_drewN ?_ _ | refine blk_drew ?_ | refine blk_alloc ?_ _)); refine blk_far ?_ NB102_101.out _; (with_reducible repeat (first | refine blk_drewN ?_ _ | refine blk_drew ?_ | refine blk_alloc ?_ _)); exact BK102.out) hb); have n4_ := Aside0.mk (qb_.1); clear HO111; clear BK101; clear BK102; clear HB; have HO111 := n0_; have HO116 := n1_; have BK101 := n2_; have BK102 := n3_; have HB := n4_; clear q1_; clear qb_; clear n0_ n1_ n2_ n3_ n4_; clear hb ho89; obtain ⟨Ao90, co90, eo90⟩ := Kd.R_slice HO116.out; subst eo90) | ((with_reducible refine gate_callee (f := 39) rfl ?_); refine goesL_ (some 61) rfl rfl Try.func39 (by kernel_rfl) rfl #[.slice Ao86 t109.length co86, .int .i64 t107, .slice Ao90 y114.length co90] rfl (by (try simp only [List.map_toArray, List.map_cons, List.map_nil]); first | done | rfl | (simp only [List.length_drop, List.length_take]; rfl)) ?_; (with_reducible refine (slices_Insert.calls (fun k_ => some k_ = (.slice Ao86 t109.length co86 : Value).ownBlock) (.slice Ao86 t109.length co86) t109 t107 (fun k_ => some k_ = (.slice Ao90 y114.length co90 : Value).ownBlock) (.slice Ao90 y114.length co90) y114 t117 w _ ?side1 ?side2 ?side3 ?side4 ?side5 A59.out).mono ?_); (case side1 => repeat (first | (with_reducible first | exact HB.out | apply below_alloc | apply pw_below_drewN | apply below_drew1 | refine below_set ?_ GE101.out | refine below_set ?_ GE102.out) | exact HB.out)); (case side2 => exact Kd.R_tight rfl HO111.out); (case side3 => exact fun k_ e_ => (HO111.out.1 k_ e_.symm).2); (case side4 => exact Kd.R_tight rfl HO116.out); (case side5 => exact fun k_ e_ => (HO116.out.1 k_ e_.symm).2); rintro e w91 ⟨v118, rfl, ho0, hb, hkp⟩; refine ⟨_, rfl, ?_⟩; have n0_ := Aside0.mk (blk_kept (by (with_reducible repeat (first | refine blk_drewN ?_ _ | refine blk_drew ?_ | refine blk_alloc ?_ _)); exact BK101.out) hkp (fun hs_ => Or.elim hs_ (fun e_ => (fun e_ => (Kd.R_ne HO111.out BK101.out (by decide)) e_) e_) (fun e_ => (fun e_ => (Kd.R_ne HO116.out BK101.out (by decide)) e_) e_))); have n1_ := Aside0.mk (blk_kept (by (with_reducible repeat (first | refine blk_drewN ?_ _ | refine blk_drew ?_ | refine blk_alloc ?_ _)); exact BK102.out) hkp (fun hs_ => Or.elim hs_ (fun e_ => (fun e_ => (Kd.R_ne HO111.out BK102.out (by decide)) e_) e_) (fun e_ => (fun e_ => (Kd.R_ne HO116.out BK102.out (by decide)) e_) e_))); have n2_ := Aside0.mk (Kd.R_mono (ok' := fun k_ => True) ho0 (fun k_ hk_ => trivial)); have n3_ := Aside0.mk (hb); clear BK101; clear BK102; clear HB; clear HO111; clear HO116; have BK101 := n0_; have BK102 := n1_; have HO119 := n2_; have HB := n3_; clear n0_ n1_ n2_ n3_; (try clear hb); (try clear hkp); (try clear ho0); obtain ⟨Ao92, co92, eo92⟩ := Kd.R_slice HO119.out; subst eo92; have hcz93_0 : w91.cell? ⟨gb101, 0, none⟩ = some (.int .i64 a0_0) := (blk_cell BK101.out 0).trans rfl; have hcz93_1 : w91.cell? ⟨gb101, 1, none⟩ = some (.int .i64 a0_1) := (blk_cell BK101.out 1).trans rfl; have hcz93_2 : w91.cell? ⟨gb101, 2, none⟩ = some (.int .i64 a0_2) := (blk_cell BK101.out 2).trans rfl; have hcz93_3 : w91.cell? ⟨gb101, 3, none⟩ = some (.slice Ao86 t109.length co86) := (blk_cell BK101.out 3).trans rfl; have hfz93_0 := blk_frozen BK101.out 0; have hfz93_1 := blk_frozen BK101.out 1; have hfz93_2 := blk_frozen BK101.out 2; have hfz93_3 := blk_frozen BK101.out 3) | ((with_reducible refine gate_store (t := 23) (p := 62) rfl ?_); refine store_event (t := 23) (p := 62) (v := ?vo_w94) (w1 := (w91.setCell ⟨gb101, 3, none⟩ (.slice Ao92 t117.length co92))) ?hg ?ho ?hn ?hr ?_; (case ho => rfl); (case hg => rfl); (case hn => rfl); (case hr => first | (go_simp; done) | (go_simp; rfl)); intro w94 hw; have n0_ : Aside0 (Kd.R k39 39 w94 w.heap.size (fun _ => True) (.slice Ao92 t117.length co92) t117) := ⟨(by rw [hw]; exact (by (with_reducible repeat (first | apply Kd.R_alloc | apply Kd.R_drewN | apply Kd.R_drew)); exact Kd.R_mono (Kd.R_far (p := ⟨gb101, 3, none⟩) (Kd.R_types HO119.out BK101.out (by decide)) (fun _ hk => hk.2) (.slice Ao92 t117.length co92)) (fun _ hk => trivial)))⟩; have n1_ : Aside0 (w94.heap[gb101]? = some (.cells #[.int .i64 a0_0, .int .i64 a0_1, .int .i64 a0_2, .slice Ao92 t117.length co92] 25 (0, 0))) := ⟨(by rw [hw]; exact (by (with_reducible repeat (first | refine blk_drewN ?_ _ | refine blk_drew ?_ | refine blk_alloc ?_ _)); refine blk_put (cs := #[.int .i64 a0_0, .int .i64 a0_1, .int .i64 a0_2, .slice Ao86 t109.length co86]) ?_ 3 _ rfl; (with_reducible repeat (first | refine blk_drewN ?_ _ | refine blk_drew ?_ | refine blk_alloc ?_ _)); exact BK101.out))⟩; have n2_ : Aside0 (w94.heap[gb102]? = some (.cells #[.int .i64 0, .int .i64 0, .int .i64 0, .slice none 0 0] 25 (0, 0))) := ⟨(by rw [hw]; exact (by (with_reducible repeat (first | refine blk_drewN ?_ _ | refine blk_drew ?_ | refine blk_alloc ?_ _)); refine blk_far ?_ NB102_101.out _; (with_reducible repeat (first | refine blk_drewN ?_ _ | refine blk_drew ?_ | refine blk_alloc ?_ _)); exact BK102.out))⟩; have n3_ : Aside0 (Below w.heap.size w w94) := ⟨(by rw [hw]; exact (by repeat (first | (with_reducible first | exact HB.out | apply below_alloc | apply pw_below_drewN | apply below_drew1 | refine below_set ?_ GE101.out | refine below_set ?_ GE102.out) | exact HB.out)))⟩; clear hw; clear HO119; clear BK101; clear BK102; clear HB; have HO119 := n0_; have BK101 := n1_; have BK102 := n2_; have HB := n3_; clear n0_ n1_ n2_ n3_; have hcz95_0 : w94.cell? ⟨gb101, 0, none⟩ = some (.int .i64 a0_0) := (blk_cell BK101.out 0).trans rfl; have hcz95_1 : w94.cell? ⟨gb101, 1, none⟩ = some (.int .i64 a0_1) := (blk_cell BK101.out 1).trans rfl; have hcz95_2 : w94.cell? ⟨gb101, 2, none⟩ = some (.int .i64 a0_2) := (blk_cell BK101.out 2).trans rfl; have hcz95_3 : w94.cell? ⟨gb101, 3, none⟩ = some (.slice Ao92 t117.length co92) := (blk_cell BK101.out 3).trans rfl; have hfz95_0 := blk_frozen BK101.out 0; have hfz95_1 := blk_frozen BK101.out 1; have hfz95_2 := blk_frozen BK101.out 2; have hfz95_3 := blk_frozen BK101.out 3; have p62 : 0 ≤ (t107 : Int) := of_decide_eq_true (by first | (with_reducible assumption) | assumption); have q62 : (t107 : Int) < ((t117.length : Int) : Int) := of_decide_eq_true (by first | (with_reducible assumption) | assumption); obtain ⟨go62, co62, eo62, gb62, gl62, cl62, HG62⟩ := Kd.R_form HO119.out (by omega); (first | cases eo62 | (injection eo62 with ea_ en_ ec_; (first | subst ea_ | (injection ea_ with ea_; subst ea_)); subst ec_; clear en_)); have GB62 := Aside0.mk gb62; have GG62 := Aside0.mk HG62; clear gb62 gl62 HG62; obtain ⟨ce62, hcl62, hM62, hcc62, hfr62⟩ := Kd.R_elem HO119.out z39 (t107 : Int) p62 q62; obtain rfl := k39_openM hM62; have hx62_0 : w94.cell? ⟨go62, (t107 : Int).toNat * 2, none⟩ = some (.int .i64 ((rd_T39 t117 t107).f0)) := hcc62 0 _ rfl; have hx62_1 : w94.cell? ⟨go62, (t107 : Int).toNat * 2 + 1, none⟩ = some (.int .i64 ((rd_T39 t117 t107).f1)) := hcc62 1 _ rfl; have hf62_0 : w94.frozen? ⟨go62, (t107 : Int).toNat * 2, none⟩ = false := hfr62 0; have hf62_1 : w94.frozen? ⟨go62, (t107 : Int).toNat * 2 + 1, none⟩ = false := hfr62 1; clear hcl62 hcc62 hfr62 hM62; replace p62 := eq_true p62; replace q62 := eq_true q62; have HX96 := Aside0.mk (show Kd.R k39 39 w94 w.heap.size (fun _ => True) (.slice (some ⟨go62, 0, none⟩) t117.length co92) t117 from (by (with_reducible repeat (first | apply Kd.R_alloc | apply Kd.R_drewN | apply Kd.R_drew)); exact HO119.out)); obtain ⟨ce96, hcl96, hM96, hcc96, hfr96⟩ := Kd.R_elem HX96.out z39 (t107 : Int) (of_decide_eq_true (by first | (with_reducible assumption) | assumption)) (by have h_ : (t107 : Int) < ((t117.length : Int) : Int) := of_decide_eq_true (by first | (with_reducible assumption) | assumption); first | exact h_ | (have e_ := (Kd.R_reads' HO119.out).1; omega) | simpa using h_); obtain rfl := k39_openM hM96; have HP96 := Kd.R_seg HX96.out (t107 : Int) (of_decide_eq_true (by first | (with_reducible assumption) | assumption)) (by have h_ : (t107 : Int) < ((t117.length : Int) : Int) := of_decide_eq_true (by first | (with_reducible assumption) | assumption); first | exact h_ | (have e_ := (Kd.R_reads' HO119.out).1; omega) | simpa using h_) (seg := [.int .i64 t105]) (j := 1) hcl96 hcc96 (show 2 ≤ 2 from by decide) (x' := (⟨(rd_T39 t117 t107).f0, t105⟩ : S39)) (k39_mkM _ _ _ (⟨(rd_T39 t117 t107).f0, t105⟩ : S39) ) (fun _ hk => hk); have hx96_1 := hcc96 1 _ rfl; (try simp only [show (k39).sz = 2 from rfl, Nat.mul_one, Nat.add_zero] at hx96_1); have hf96_1 := hfr96 1; (try simp only [show (k39).sz = 2 from rfl, Nat.mul_one, Nat.add_zero] at hf96_1); clear hcl96 hcc96 hfr96 hM96) | ((with_reducible refine gate_store (t := 3) (p := 68) rfl ?_); refine store_event (t := 3) (p := 68) (v := ?vo_w97) (w1 := (w94.setCell ⟨go62, (t107 : Int).toNat * 2 + 1, none⟩ (.int .i64 t105))) ?hg ?ho ?hn ?hr ?_; (case ho => rfl); (case hg => rfl); (case hn => rfl); (case hr => first | (go_simp; done) | (go_simp; rfl)); intro w97 hw; have hg : w94.grownBy w97 (some go62) := (by rw [hw]; exact HP96.2); have hp_ : Kd.R k39 39 w97 w.heap.size (fun _ => True) (.slice (some ⟨go62, 0, none⟩) t117.length co92) y120 := (by rw [hw, Ny120.out]; exact HP96.1); clear HP96; have n0_ := Aside0.mk (blk_grown (g := gb101) (o := .cells #[.int .i64 a0_0, .int .i64 a0_1, .int .i64 a0_2, .slice (some ⟨go62, 0, none⟩) t117.length co92] 25 (0, 0)) (by (with_reducible repeat (first | refine blk_drewN ?_ _ | refine blk_drew ?_ | refine blk_alloc ?_ _)); exact BK101.out) hg (Kd.R_ne HO119.out BK101.out (by decide))); have n1_ := Aside0.mk (blk_grown (g := gb102) (o := .cells #[.int .i64 0, .int .i64 0, .int .i64 0, .slice none 0 0] 25 (0, 0)) (by (with_reducible repeat (first | refine blk_drewN ?_ _ | refine blk_drew ?_ | refine blk_alloc ?_ _)); exact BK102.out) hg (Kd.R_ne HO119.out BK102.out (by decide))); have n2_ := Aside0.mk (hp_); have n3_ := Aside0.mk ((by rw [hw]; exact below_set (HB.out) GB62.out : Below w.heap.size w w97)); clear BK101; clear BK102; clear HO119; clear HB; have BK101 := n0_; have BK102 := n1_; have HO119 := n2_; have HB := n3_; clear n0_ n1_ n2_ n3_; clear hg hw hp_))
           have n0_ := Aside0.mk (Kd.R_drew HO119.out)
           have n1_ := Aside0.mk (blk_drew BK101.out)
           have n2_ := Aside0.mk (blk_drew BK102.out)
           have n3_ := Aside0.mk (below_drew1 HB.out)
           clear HO119
           clear BK101
           clear BK102
           clear HB
           have HO119 := n0_
           have BK101 := n1_
           have BK102 := n2_
           have HB := n3_
           clear n0_ n1_ n2_ n3_
           refine start_ (n := 6) (S := fun w' => w'.cell? ⟨gb101, 0, none⟩ = some (.int .i64 a0_0) ∧ w'.cell? ⟨gb101, 1, none⟩ = some (.int .i64 a0_1) ∧ w'.cell? ⟨gb101, 2, none⟩ = some (.int .i64 a0_2) ∧ w'.cell? ⟨gb101, 3, none⟩ = some (.slice (some ⟨go62, 0, none⟩) t117.length co92)) (ds := []) #[false, false, false, false, false, false] (by kernel_rfl) rfl rfl ⟨(blk_cell BK101.out 0).trans rfl, (blk_cell BK101.out 1).trans rfl, (blk_cell BK101.out 2).trans rfl, (blk_cell BK101.out 3).trans rfl⟩ (fun hHeld => ?_)
           generalize w97.drew = w98 at HO119 BK101 BK102 HB hHeld ⊢
           refine pure_ (i := 0) (N := some 69) (v := ?_) (a' := ?_) #[true, false, false, false, false, false] rfl rfl (by kernel_rfl) (fun _ _ _ h => h) (Or.inl ⟨by rfl, ?_⟩) ?_ ?_
           rotate_left
           ·intro w'
            go_simp
            with_reducible rfl
           rotate_left
           ·simp only [Act.put, List.setIfInBounds_toArray, List.set_cons_zero, List.set_cons_succ, i64_w, i32_w]
            rfl
           refine pure_ (i := 3) (N := some 72) (v := ?_) (a' := ?_) #[true, false, false, true, false, false] rfl rfl (by kernel_rfl) (fun _ _ _ h => h) (Or.inl ⟨by rfl, ?_⟩) ?_ ?_
           rotate_left
           ·intro w'
            go_simp
            with_reducible rfl
           rotate_left
           ·simp only [Act.put, List.setIfInBounds_toArray, List.set_cons_zero, List.set_cons_succ, i64_w, i32_w]
            rfl
           refine take_ (i := 1) (N := some 70) (v := ?_) (a' := ?_) #[true, true, false, true, false, false] rfl rfl (by kernel_rfl) (fun _ _ _ h => h) (Or.inl ⟨by rfl, ?_⟩) hHeld ?_ ?_
           rotate_left
           ·rintro w' ⟨s0, s1, s2, s3⟩
            go_simp
            with_reducible rfl
           rotate_left
           ·simp only [Act.put, List.setIfInBounds_toArray, List.set_cons_zero, List.set_cons_succ, i64_w, i32_w]
            rfl
           refine take_ (i := 4) (N := some 73) (v := ?_) (a' := ?_) #[true, true, false, true, true, false] rfl rfl (by kernel_rfl) (fun _ _ _ h => h) (Or.inl ⟨by rfl, ?_⟩) hHeld ?_ ?_
           rotate_left
           ·rintro w' ⟨s0, s1, s2, s3⟩
            go_simp
            with_reducible rfl
           rotate_left
           ·simp only [Act.put, List.setIfInBounds_toArray, List.set_cons_zero, List.set_cons_succ, i64_w, i32_w]
            rfl
           refine one_ (i := 2) (N := some 71) #[true, true, true, true, true, false] rfl rfl (by kernel_rfl) (by decide) (fun K hK => ?_)
           refine goes_ Try.func35 (by kernel_rfl) rfl #[.slice (some ⟨go62, 0, none⟩) y120.length co92] (by rfl) rfl rfl (by (try simp only [List.map_toArray, List.map_cons, List.map_nil]); first | done | (rw [show y120.length = t117.length from (Kd.R_reads' HO119.out).1.symm] <;> rfl) | rfl | (simp only [List.length_drop, List.length_take]; rfl)) ?_
           with_reducible refine (guarantee_sum.calls kj10 _ _ y120 t121 _ ?side1 ?side2 A63.out).mono ?_
           (case side1 => repeat (first | exact (Kd.R_reads' HO119.out).2.2 | (with_reducible refine Kd.C_alloc ?_ _) | (with_reducible refine Kd.C_drewN ?_ _) | (with_reducible refine Kd.C_drew ?_)))
           (case side2 => rw [show y120.length = t117.length from (Kd.R_reads' HO119.out).1.symm]; exact (Kd.R_reads' HO119.out).2.1)
           rintro e w99 ⟨rfl, hb⟩
           refine ⟨_, rfl, ?_⟩
           have n0_ := Aside0.mk (Kd.R_below (by (with_reducible repeat (first | apply Kd.R_alloc | apply Kd.R_drewN | apply Kd.R_drew)); exact HO119.out) hb)
           have n1_ := Aside0.mk (blk_below (g := gb101) (o := .cells #[.int .i64 a0_0, .int .i64 a0_1, .int .i64 a0_2, .slice (some ⟨go62, 0, none⟩) t117.length co92] 25 (0, 0)) (by (with_reducible repeat (first | refine blk_drewN ?_ _ | refine blk_drew ?_ | refine blk_alloc ?_ _)); exact BK101.out) hb)
           have n2_ := Aside0.mk (blk_below (g := gb102) (o := .cells #[.int .i64 0, .int .i64 0, .int .i64 0, .slice none 0 0] 25 (0, 0)) (by (with_reducible repeat (first | refine blk_drewN ?_ _ | refine blk_drew ?_ | refine blk_alloc ?_ _)); exact BK102.out) hb)
           have n3_ := Aside0.mk (below_step (by repeat (first | (with_reducible first | exact HB.out | apply below_alloc | apply pw_below_drewN | apply below_drew1 | refine below_set ?_ GE101.out | refine below_set ?_ GE102.out) | exact HB.out)) hb)
           clear HO119
           clear BK101
           clear BK102
           clear HB
           have HO119 := n0_
           have BK101 := n1_
           have BK102 := n2_
           have HB := n3_
           clear n0_ n1_ n2_ n3_
           (try clear hb)
           (try clear hb2)
           (try clear hk)
           (try clear hi)
           refine hK.out _ _ ⟨(blk_cell BK101.out 0).trans rfl, (blk_cell BK101.out 1).trans rfl, (blk_cell BK101.out 2).trans rfl, (blk_cell BK101.out 3).trans rfl⟩ (fun hHeld => ?_)
           clear hK K
           refine norm_ (a' := ?_) ?_ ?_
           rotate_left
           ·show Act.put _ (some 71) _ = _
            simp only [Act.put, List.setIfInBounds_toArray, List.set_cons_zero, List.set_cons_succ, i64_w, i32_w]
            rfl
           refine pure_ (i := 5) (N := some 74) (v := ?_) (a' := ?_) #[true, true, true, true, true, true] rfl rfl (by kernel_rfl) (fun _ _ _ h => h) (Or.inl ⟨by rfl, ?_⟩) ?_ ?_
           rotate_left
           ·intro w'
            go_simp
            with_reducible rfl
           rotate_left
           ·simp only [Act.put, List.setIfInBounds_toArray, List.set_cons_zero, List.set_cons_succ, i64_w, i32_w]
            rfl
           refine done_ (by kernel_rfl) ?_
           have hcz100_0 : w99.cell? ⟨gb101, 0, none⟩ = some (.int .i64 a0_0) := (blk_cell BK101.out 0).trans rfl
           have hcz100_1 : w99.cell? ⟨gb101, 1, none⟩ = some (.int .i64 a0_1) := (blk_cell BK101.out 1).trans rfl
           have hcz100_2 : w99.cell? ⟨gb101, 2, none⟩ = some (.int .i64 a0_2) := (blk_cell BK101.out 2).trans rfl
           have hcz100_3 : w99.cell? ⟨gb101, 3, none⟩ = some (.slice (some ⟨go62, 0, none⟩) t117.length co92) := (blk_cell BK101.out 3).trans rfl
           have hfz100_0 := blk_frozen BK101.out 0
           have hfz100_1 := blk_frozen BK101.out 1
           have hfz100_2 := blk_frozen BK101.out 2
           have hfz100_3 := blk_frozen BK101.out 3
           have hcz101_0 : w99.cell? ⟨gb102, 0, none⟩ = some (.int .i64 0) := (blk_cell BK102.out 0).trans rfl
           have hcz101_1 : w99.cell? ⟨gb102, 1, none⟩ = some (.int .i64 0) := (blk_cell BK102.out 1).trans rfl
           have hcz101_2 : w99.cell? ⟨gb102, 2, none⟩ = some (.int .i64 0) := (blk_cell BK102.out 2).trans rfl
           have hcz101_3 : w99.cell? ⟨gb102, 3, none⟩ = some (.slice none 0 0) := (blk_cell BK102.out 3).trans rfl
           have hfz101_0 := blk_frozen BK102.out 0
           have hfz101_1 := blk_frozen BK102.out 1
           have hfz101_2 := blk_frozen BK102.out 2
           have hfz101_3 := blk_frozen BK102.out 3
           try go_wp2
           refine bodyPost_ret (results_ct rfl _ _ gb102 25 #[.int .i64 a0_0, .int .i64 a0_1, .int .i64 a0_2, .slice (some ⟨go62, 0, none⟩) t117.length co92] (0, 0) _ rfl (by (with_reducible repeat (first | refine blk_drewN ?_ _ | refine blk_drew ?_ | refine blk_alloc ?_ _)); refine blk_put (cs := #[.int .i64 a0_0, .int .i64 a0_1, .int .i64 a0_2, .slice none 0 0]) ?_ 3 _ rfl; refine blk_put (cs := #[.int .i64 a0_0, .int .i64 a0_1, .int .i64 0, .slice none 0 0]) ?_ 2 _ rfl; refine blk_put (cs := #[.int .i64 a0_0, .int .i64 0, .int .i64 0, .slice none 0 0]) ?_ 1 _ rfl; refine blk_put (cs := #[.int .i64 0, .int .i64 0, .int .i64 0, .slice none 0 0]) ?_ 0 _ rfl; (with_reducible repeat (first | refine blk_drewN ?_ _ | refine blk_drew ?_ | refine blk_alloc ?_ _)); exact BK102.out) Try.underlying25 rfl (by kernel_rfl)) rfl ?_
           exact ⟨_, by first | rfl | (simp [errW_none, errW_some] <;> rfl) | (simp [*, errW_none, errW_some] <;> rfl), by (with_reducible repeat (first | apply Kd.R_alloc | apply Kd.R_drewN | apply Kd.R_drew)); exact Kd.R_mono (Kd.R_far (p := ⟨gb102, 3, none⟩) (Kd.R_far (p := ⟨gb102, 2, none⟩) (Kd.R_far (p := ⟨gb102, 1, none⟩) (Kd.R_far (p := ⟨gb102, 0, none⟩) (Kd.R_types HO119.out BK102.out (by decide)) (fun _ hk => hk.2) (.int .i64 a0_0)) (fun _ hk => hk.2) (.int .i64 a0_1)) (fun _ hk => hk.2) (.int .i64 a0_2)) (fun _ hk => hk.2) (.slice (some ⟨go62, 0, none⟩) t117.length co92)) (fun _ hk => trivial), by repeat (first | (with_reducible first | exact HB.out | apply below_alloc | apply pw_below_drewN | apply below_drew1 | refine below_set ?_ GE101.out | refine below_set ?_ GE102.out) | exact HB.out)⟩
         ·rw [if_neg c61] at H
          exact absurd H (by simp)
        ·rw [if_neg c60] at H
         exact absurd H (by simp)
   ·rw [if_neg c9] at H
    have c9b0 : (t106 == 0) = false := beq_eq_false_iff_ne.mpr c9
    have c9b1 : (t106 != 0) = true := bne_iff_ne.mpr c9
    simp only [Option.some.injEq, Prod.mk.injEq] at H
    obtain ⟨rfl, rfl, rfl, rfl, rfl⟩ := H
    go_enter Try.func19, Try.ntmps19
    go_wp2_with (first | ((with_reducible refine gate_dst (N := 3) rfl ?_); refine box_event ?hg (N := 3) ?hd (cs := #[.int .i64 a0_0, .int .i64 a0_1, .int .i64 a0_2, .slice A0_3 l0_3.length c0_3]) (t := 25) ?hr ?_; (case hd => rfl); (case hg => rfl); (case hr => first | (go_simp; done) | (go_simp; rfl)); intro gb101 hg w102 hbox hb; have qb_ := below_both (by repeat (first | (with_reducible first | exact HB.out | apply below_alloc | apply pw_below_drewN | apply below_drew1) | exact HB.out)) hb; have n0_ := Aside0.mk (qb_.1); have n1_ := Aside0.mk (hbox); have n3_ := Aside0.mk ((by rw [hg]; exact qb_.2 : w.heap.size ≤ gb101)); clear HB; have HB := n0_; have BK101 := n1_; have GE101 := n3_; clear qb_; clear n0_ n1_ n3_; clear hb hbox hg) | ((with_reducible refine gate_dst (N := 6) rfl ?_); refine box_event ?hg (N := 6) ?hd (cs := #[.int .i64 0, .int .i64 0, .int .i64 0, .slice none 0 0]) (t := 25) ?hr ?_; (case hd => rfl); (case hg => rfl); (case hr => first | (go_simp; done) | (go_simp; rfl)); intro gb102 hg w103 hbox hb; have qb_ := below_both (by repeat (first | (with_reducible first | exact HB.out | apply below_alloc | apply pw_below_drewN | apply below_drew1 | refine below_set ?_ GE101.out) | exact HB.out)) hb; have q1_ := blk_below2 (g := gb101) (o := .cells #[.int .i64 a0_0, .int .i64 a0_1, .int .i64 a0_2, .slice A0_3 l0_3.length c0_3] 25 (0, 0)) (by (with_reducible repeat (first | refine blk_drewN ?_ _ | refine blk_drew ?_ | refine blk_alloc ?_ _)); exact BK101.out) hb; have n0_ := Aside0.mk (q1_.1); have n1_ := Aside0.mk (qb_.1); have n2_ := Aside0.mk (hbox); have n4_ := Aside0.mk ((by rw [hg]; exact qb_.2 : w.heap.size ≤ gb102)); have n5_ := Aside0.mk ((by rw [hg]; exact Nat.ne_of_lt q1_.2 : gb101 ≠ gb102)); have n6_ := Aside0.mk (Ne.symm n5_.out); clear BK101; clear HB; have BK101 := n0_; have HB := n1_; have BK102 := n2_; have GE102 := n4_; have NB101_102 := n5_; have NB102_101 := n6_; clear q1_; clear qb_; clear n0_ n1_ n2_ n4_ n5_ n6_; clear hb hbox hg; have hnb104 := NB101_102.out; have hnc104 := NB102_101.out; have hcz105_0 : w103.cell? ⟨gb101, 0, none⟩ = some (.int .i64 a0_0) := (blk_cell BK101.out 0).trans rfl; have hcz105_1 : w103.cell? ⟨gb101, 1, none⟩ = some (.int .i64 a0_1) := (blk_cell BK101.out 1).trans rfl; have hcz105_2 : w103.cell? ⟨gb101, 2, none⟩ = some (.int .i64 a0_2) := (blk_cell BK101.out 2).trans rfl; have hcz105_3 : w103.cell? ⟨gb101, 3, none⟩ = some (.slice A0_3 l0_3.length c0_3) := (blk_cell BK101.out 3).trans rfl; have hfz105_0 := blk_frozen BK101.out 0; have hfz105_1 := blk_frozen BK101.out 1; have hfz105_2 := blk_frozen BK101.out 2; have hfz105_3 := blk_frozen BK101.out 3) | ((with_reducible refine gate_callee (f := 11) rfl ?_); refine goesL_ (some 14) rfl rfl Try.func11 (by kernel_rfl) rfl #[.agg #[.int .i64 a0_0, .int .i64 a0_1, .int .i64 a0_2, .slice A0_3 l0_3.length c0_3]] rfl (by (try simp only [List.map_toArray, List.map_cons, List.map_nil]); first | done | rfl | (simp only [List.length_drop, List.length_take]; rfl)) ?_; (with_reducible refine (guarantee_Validate.calls k a0_0 a0_1 a0_2 _ _ l0_3 t103 _ ?side1 ?side2 A4.out).mono ?_); (case side1 => repeat (first | exact (Kd.C_below HR0_3.out HB.out) | (with_reducible refine Kd.C_alloc ?_ _) | (with_reducible refine Kd.C_drewN ?_ _) | (with_reducible refine Kd.C_drew ?_))); (case side2 => exact HC0_3.out); rintro e w106 ⟨rfl, hb⟩; refine ⟨_, rfl, ?_⟩; have n0_ := Aside0.mk (blk_below (g := gb101) (o := .cells #[.int .i64 a0_0, .int .i64 a0_1, .int .i64 a0_2, .slice A0_3 l0_3.length c0_3] 25 (0, 0)) (by (with_reducible repeat (first | refine blk_drewN ?_ _ | refine blk_drew ?_ | refine blk_alloc ?_ _)); exact BK101.out) hb); have n1_ := Aside0.mk (blk_below (g := gb102) (o := .cells #[.int .i64 0, .int .i64 0, .int .i64 0, .slice none 0 0] 25 (0, 0)) (by (with_reducible repeat (first | refine blk_drewN ?_ _ | refine blk_drew ?_ | refine blk_alloc ?_ _)); exact BK102.out) hb); have n2_ := Aside0.mk (below_step (by repeat (first | (with_reducible first | exact HB.out | apply below_alloc | apply pw_below_drewN | apply below_drew1 | refine below_set ?_ GE101.out | refine below_set ?_ GE102.out) | exact HB.out)) hb); clear BK101; clear BK102; clear HB; have BK101 := n0_; have BK102 := n1_; have HB := n2_; clear n0_ n1_ n2_; (try clear hb); (try clear hb2); (try clear hk); (try clear hi)) | ((with_reducible refine gate_callee (f := 34) rfl ?_); refine goesL_ (some 20) rfl rfl Try.func34 (by kernel_rfl) rfl #[.int .i64 a1, .int .i64 1, .int .i64 1000000] rfl (by (try simp only [List.map_toArray, List.map_cons, List.map_nil]); first | done | rfl | (simp only [List.length_drop, List.length_take]; rfl)) ?_; (with_reducible refine (guarantee_within_int.calls a1 1 1000000 true _ A6.out).mono ?_); rintro e w' ⟨rfl, ⟨nd, rfl⟩⟩; refine ⟨_, rfl, ?_⟩; (try (rw [drewN_self w106]; generalize hq_ : World.drewN w106 _ = w106; have n0_ : Aside0 (w106.heap[gb101]? = some (.cells #[.int .i64 a0_0, .int .i64 a0_1, .int .i64 a0_2, .slice A0_3 l0_3.length c0_3] 25 (0, 0))) := ⟨by rw [← hq_]; exact (by (with_reducible repeat (first | refine blk_drewN ?_ _ | refine blk_drew ?_ | refine blk_alloc ?_ _)); exact BK101.out)⟩; have n1_ : Aside0 (w106.heap[gb102]? = some (.cells #[.int .i64 0, .int .i64 0, .int .i64 0, .slice none 0 0] 25 (0, 0))) := ⟨by rw [← hq_]; exact (by (with_reducible repeat (first | refine blk_drewN ?_ _ | refine blk_drew ?_ | refine blk_alloc ?_ _)); exact BK102.out)⟩; have n2_ : Aside0 (Below w.heap.size w w106) := ⟨by rw [← hq_]; exact (by repeat (first | (with_reducible first | exact HB.out | apply below_alloc | apply pw_below_drewN | apply below_drew1 | refine below_set ?_ GE101.out | refine below_set ?_ GE102.out) | exact HB.out))⟩; clear BK101 BK102 HB hq_; have BK101 := n0_; have BK102 := n1_; have HB := n2_; clear n0_ n1_ n2_)); have hcz107_0 : w106.cell? ⟨gb101, 0, none⟩ = some (.int .i64 a0_0) := (blk_cell BK101.out 0).trans rfl; have hcz107_1 : w106.cell? ⟨gb101, 1, none⟩ = some (.int .i64 a0_1) := (blk_cell BK101.out 1).trans rfl; have hcz107_2 : w106.cell? ⟨gb101, 2, none⟩ = some (.int .i64 a0_2) := (blk_cell BK101.out 2).trans rfl; have hcz107_3 : w106.cell? ⟨gb101, 3, none⟩ = some (.slice A0_3 l0_3.length c0_3) := (blk_cell BK101.out 3).trans rfl; have hfz107_0 := blk_frozen BK101.out 0; have hfz107_1 := blk_frozen BK101.out 1; have hfz107_2 := blk_frozen BK101.out 2; have hfz107_3 := blk_frozen BK101.out 3) | ((with_reducible refine gate_callee (f := 17) rfl ?_); refine goesL_ (some 26) rfl rfl Try.func17 (by kernel_rfl) rfl #[.agg #[.int .i64 a0_0, .int .i64 a0_1, .int .i64 a0_2, .slice A0_3 l0_3.length c0_3], .int .i64 a2] rfl (by (try simp only [List.map_toArray, List.map_cons, List.map_nil]); first | done | rfl | (simp only [List.length_drop, List.length_take]; rfl)) ?_; (with_reducible refine (guarantee_Required.calls k a0_0 a0_1 a0_2 _ _ l0_3 a2 t105 t106 _ ?side1 ?side2 A8.out).mono ?_); (case side1 => repeat (first | exact (Kd.C_below HR0_3.out HB.out) | (with_reducible refine Kd.C_alloc ?_ _) | (with_reducible refine Kd.C_drewN ?_ _) | (with_reducible refine Kd.C_drew ?_))); (case side2 => exact HC0_3.out); rintro e w108 ⟨rfl, hb⟩; refine ⟨_, rfl, ?_⟩; have n1_ := Aside0.mk (blk_below (g := gb102) (o := .cells #[.int .i64 0, .int .i64 0, .int .i64 0, .slice none 0 0] 25 (0, 0)) (by (with_reducible repeat (first | refine blk_drewN ?_ _ | refine blk_drew ?_ | refine blk_alloc ?_ _)); exact BK102.out) hb); have n2_ := Aside0.mk (below_step (by repeat (first | (with_reducible first | exact HB.out | apply below_alloc | apply pw_below_drewN | apply below_drew1 | refine below_set ?_ GE101.out | refine below_set ?_ GE102.out) | exact HB.out)) hb); (try clear BK101); clear BK102; clear HB; have BK102 := n1_; have HB := n2_; clear n1_ n2_; (try clear hb); (try clear hb2); (try clear hk); (try clear hi); have hcz109_0 : w108.cell? ⟨gb102, 0, none⟩ = some (.int .i64 0) := (blk_cell BK102.out 0).trans rfl; have hcz109_1 : w108.cell? ⟨gb102, 1, none⟩ = some (.int .i64 0) := (blk_cell BK102.out 1).trans rfl; have hcz109_2 : w108.cell? ⟨gb102, 2, none⟩ = some (.int .i64 0) := (blk_cell BK102.out 2).trans rfl; have hcz109_3 : w108.cell? ⟨gb102, 3, none⟩ = some (.slice none 0 0) := (blk_cell BK102.out 3).trans rfl; have hfz109_0 := blk_frozen BK102.out 0; have hfz109_1 := blk_frozen BK102.out 1; have hfz109_2 := blk_frozen BK102.out 2; have hfz109_3 := blk_frozen BK102.out 3))
    refine bodyPost_ret (results_ct rfl _ _ gb102 25 #[.int .i64 0, .int .i64 0, .int .i64 0, .slice none 0 0] (0, 0) _ rfl (by (with_reducible repeat (first | refine blk_drewN ?_ _ | refine blk_drew ?_ | refine blk_alloc ?_ _)); refine blk_put (cs := #[.int .i64 0, .int .i64 0, .int .i64 0, .slice none 0 0]) ?_ 3 _ rfl; refine blk_put (cs := #[.int .i64 0, .int .i64 0, .int .i64 0, .slice none 0 0]) ?_ 2 _ rfl; refine blk_put (cs := #[.int .i64 0, .int .i64 0, .int .i64 0, .slice none 0 0]) ?_ 1 _ rfl; refine blk_put (cs := #[.int .i64 0, .int .i64 0, .int .i64 0, .slice none 0 0]) ?_ 0 _ rfl; (with_reducible repeat (first | refine blk_drewN ?_ _ | refine blk_drew ?_ | refine blk_alloc ?_ _)); exact BK102.out) Try.underlying25 rfl (by kernel_rfl)) rfl ?_
    exact ⟨_, by first | rfl | (simp [errW_none, errW_some] <;> rfl) | (simp [*, errW_none, errW_some] <;> rfl), by first | exact Kd.R_nil _ _ _ _ _ | exact Kd.N_nil _ _ _ _ _ | exact Kd.V_nil _ _ _ _ _ | exact Kd.Q_nil _ _ _ _ _ | exact Kd.S_nil _ _ _ _ _, by repeat (first | (with_reducible first | exact HB.out | apply below_alloc | apply pw_below_drewN | apply below_drew1 | refine below_set ?_ GE101.out | refine below_set ?_ GE102.out) | exact HB.out)⟩
  ·replace c7 := Bool.eq_false_iff.mpr c7
   subst c7
   have H1 : (some (0, 0, 0, ([] : List (S39)), 2)) = some (r1, r2, r3, r4, r5) := by rw [if_neg (show ¬ (false = true) by decide)] at H; exact H
   clear H
   have H := H1
   clear H1
   simp only [Option.some.injEq, Prod.mk.injEq] at H
   obtain ⟨rfl, rfl, rfl, rfl, rfl⟩ := H
   go_enter Try.func19, Try.ntmps19
   go_wp2_with (first | ((with_reducible refine gate_dst (N := 3) rfl ?_); refine box_event ?hg (N := 3) ?hd (cs := #[.int .i64 a0_0, .int .i64 a0_1, .int .i64 a0_2, .slice A0_3 l0_3.length c0_3]) (t := 25) ?hr ?_; (case hd => rfl); (case hg => rfl); (case hr => first | (go_simp; done) | (go_simp; rfl)); intro gb101 hg w110 hbox hb; have qb_ := below_both (by repeat (first | (with_reducible first | exact HB.out | apply below_alloc | apply pw_below_drewN | apply below_drew1) | exact HB.out)) hb; have n0_ := Aside0.mk (qb_.1); have n1_ := Aside0.mk (hbox); have n3_ := Aside0.mk ((by rw [hg]; exact qb_.2 : w.heap.size ≤ gb101)); clear HB; have HB := n0_; have BK101 := n1_; have GE101 := n3_; clear qb_; clear n0_ n1_ n3_; clear hb hbox hg) | ((with_reducible refine gate_dst (N := 6) rfl ?_); refine box_event ?hg (N := 6) ?hd (cs := #[.int .i64 0, .int .i64 0, .int .i64 0, .slice none 0 0]) (t := 25) ?hr ?_; (case hd => rfl); (case hg => rfl); (case hr => first | (go_simp; done) | (go_simp; rfl)); intro gb102 hg w111 hbox hb; have qb_ := below_both (by repeat (first | (with_reducible first | exact HB.out | apply below_alloc | apply pw_below_drewN | apply below_drew1 | refine below_set ?_ GE101.out) | exact HB.out)) hb; have q1_ := blk_below2 (g := gb101) (o := .cells #[.int .i64 a0_0, .int .i64 a0_1, .int .i64 a0_2, .slice A0_3 l0_3.length c0_3] 25 (0, 0)) (by (with_reducible repeat (first | refine blk_drewN ?_ _ | refine blk_drew ?_ | refine blk_alloc ?_ _)); exact BK101.out) hb; have n0_ := Aside0.mk (q1_.1); have n1_ := Aside0.mk (qb_.1); have n2_ := Aside0.mk (hbox); have n4_ := Aside0.mk ((by rw [hg]; exact qb_.2 : w.heap.size ≤ gb102)); have n5_ := Aside0.mk ((by rw [hg]; exact Nat.ne_of_lt q1_.2 : gb101 ≠ gb102)); have n6_ := Aside0.mk (Ne.symm n5_.out); clear BK101; clear HB; have BK101 := n0_; have HB := n1_; have BK102 := n2_; have GE102 := n4_; have NB101_102 := n5_; have NB102_101 := n6_; clear q1_; clear qb_; clear n0_ n1_ n2_ n4_ n5_ n6_; clear hb hbox hg; have hnb112 := NB101_102.out; have hnc112 := NB102_101.out; have hcz113_0 : w111.cell? ⟨gb101, 0, none⟩ = some (.int .i64 a0_0) := (blk_cell BK101.out 0).trans rfl; have hcz113_1 : w111.cell? ⟨gb101, 1, none⟩ = some (.int .i64 a0_1) := (blk_cell BK101.out 1).trans rfl; have hcz113_2 : w111.cell? ⟨gb101, 2, none⟩ = some (.int .i64 a0_2) := (blk_cell BK101.out 2).trans rfl; have hcz113_3 : w111.cell? ⟨gb101, 3, none⟩ = some (.slice A0_3 l0_3.length c0_3) := (blk_cell BK101.out 3).trans rfl; have hfz113_0 := blk_frozen BK101.out 0; have hfz113_1 := blk_frozen BK101.out 1; have hfz113_2 := blk_frozen BK101.out 2; have hfz113_3 := blk_frozen BK101.out 3) | ((with_reducible refine gate_callee (f := 11) rfl ?_); refine goesL_ (some 14) rfl rfl Try.func11 (by kernel_rfl) rfl #[.agg #[.int .i64 a0_0, .int .i64 a0_1, .int .i64 a0_2, .slice A0_3 l0_3.length c0_3]] rfl (by (try simp only [List.map_toArray, List.map_cons, List.map_nil]); first | done | rfl | (simp only [List.length_drop, List.length_take]; rfl)) ?_; (with_reducible refine (guarantee_Validate.calls k a0_0 a0_1 a0_2 _ _ l0_3 t103 _ ?side1 ?side2 A4.out).mono ?_); (case side1 => repeat (first | exact (Kd.C_below HR0_3.out HB.out) | (with_reducible refine Kd.C_alloc ?_ _) | (with_reducible refine Kd.C_drewN ?_ _) | (with_reducible refine Kd.C_drew ?_))); (case side2 => exact HC0_3.out); rintro e w114 ⟨rfl, hb⟩; refine ⟨_, rfl, ?_⟩; have n0_ := Aside0.mk (blk_below (g := gb101) (o := .cells #[.int .i64 a0_0, .int .i64 a0_1, .int .i64 a0_2, .slice A0_3 l0_3.length c0_3] 25 (0, 0)) (by (with_reducible repeat (first | refine blk_drewN ?_ _ | refine blk_drew ?_ | refine blk_alloc ?_ _)); exact BK101.out) hb); have n1_ := Aside0.mk (blk_below (g := gb102) (o := .cells #[.int .i64 0, .int .i64 0, .int .i64 0, .slice none 0 0] 25 (0, 0)) (by (with_reducible repeat (first | refine blk_drewN ?_ _ | refine blk_drew ?_ | refine blk_alloc ?_ _)); exact BK102.out) hb); have n2_ := Aside0.mk (below_step (by repeat (first | (with_reducible first | exact HB.out | apply below_alloc | apply pw_below_drewN | apply below_drew1 | refine below_set ?_ GE101.out | refine below_set ?_ GE102.out) | exact HB.out)) hb); clear BK101; clear BK102; clear HB; have BK101 := n0_; have BK102 := n1_; have HB := n2_; clear n0_ n1_ n2_; (try clear hb); (try clear hb2); (try clear hk); (try clear hi)) | ((with_reducible refine gate_callee (f := 34) rfl ?_); refine goesL_ (some 20) rfl rfl Try.func34 (by kernel_rfl) rfl #[.int .i64 a1, .int .i64 1, .int .i64 1000000] rfl (by (try simp only [List.map_toArray, List.map_cons, List.map_nil]); first | done | rfl | (simp only [List.length_drop, List.length_take]; rfl)) ?_; (with_reducible refine (guarantee_within_int.calls a1 1 1000000 false _ A6.out).mono ?_); rintro e w' ⟨rfl, ⟨nd, rfl⟩⟩; refine ⟨_, rfl, ?_⟩; (try (rw [drewN_self w114]; generalize hq_ : World.drewN w114 _ = w114; have n0_ : Aside0 (w114.heap[gb101]? = some (.cells #[.int .i64 a0_0, .int .i64 a0_1, .int .i64 a0_2, .slice A0_3 l0_3.length c0_3] 25 (0, 0))) := ⟨by rw [← hq_]; exact (by (with_reducible repeat (first | refine blk_drewN ?_ _ | refine blk_drew ?_ | refine blk_alloc ?_ _)); exact BK101.out)⟩; have n1_ : Aside0 (w114.heap[gb102]? = some (.cells #[.int .i64 0, .int .i64 0, .int .i64 0, .slice none 0 0] 25 (0, 0))) := ⟨by rw [← hq_]; exact (by (with_reducible repeat (first | refine blk_drewN ?_ _ | refine blk_drew ?_ | refine blk_alloc ?_ _)); exact BK102.out)⟩; have n2_ : Aside0 (Below w.heap.size w w114) := ⟨by rw [← hq_]; exact (by repeat (first | (with_reducible first | exact HB.out | apply below_alloc | apply pw_below_drewN | apply below_drew1 | refine below_set ?_ GE101.out | refine below_set ?_ GE102.out) | exact HB.out))⟩; clear BK101 BK102 HB hq_; have BK101 := n0_; have BK102 := n1_; have HB := n2_; clear n0_ n1_ n2_)); have hcz115_0 : w114.cell? ⟨gb102, 0, none⟩ = some (.int .i64 0) := (blk_cell BK102.out 0).trans rfl; have hcz115_1 : w114.cell? ⟨gb102, 1, none⟩ = some (.int .i64 0) := (blk_cell BK102.out 1).trans rfl; have hcz115_2 : w114.cell? ⟨gb102, 2, none⟩ = some (.int .i64 0) := (blk_cell BK102.out 2).trans rfl; have hcz115_3 : w114.cell? ⟨gb102, 3, none⟩ = some (.slice none 0 0) := (blk_cell BK102.out 3).trans rfl; have hfz115_0 := blk_frozen BK102.out 0; have hfz115_1 := blk_frozen BK102.out 1; have hfz115_2 := blk_frozen BK102.out 2; have hfz115_3 := blk_frozen BK102.out 3))
   refine bodyPost_ret (results_ct rfl _ _ gb102 25 #[.int .i64 0, .int .i64 0, .int .i64 0, .slice none 0 0] (0, 0) _ rfl (by (with_reducible repeat (first | refine blk_drewN ?_ _ | refine blk_drew ?_ | refine blk_alloc ?_ _)); refine blk_put (cs := #[.int .i64 0, .int .i64 0, .int .i64 0, .slice none 0 0]) ?_ 3 _ rfl; refine blk_put (cs := #[.int .i64 0, .int .i64 0, .int .i64 0, .slice none 0 0]) ?_ 2 _ rfl; refine blk_put (cs := #[.int .i64 0, .int .i64 0, .int .i64 0, .slice none 0 0]) ?_ 1 _ rfl; refine blk_put (cs := #[.int .i64 0, .int .i64 0, .int .i64 0, .slice none 0 0]) ?_ 0 _ rfl; (with_reducible repeat (first | refine blk_drewN ?_ _ | refine blk_drew ?_ | refine blk_alloc ?_ _)); exact BK102.out) Try.underlying25 rfl (by kernel_rfl)) rfl ?_
   exact ⟨_, by first | rfl | (simp [errW_none, errW_some] <;> rfl) | (simp [*, errW_none, errW_some] <;> rfl), by first | exact Kd.R_nil _ _ _ _ _ | exact Kd.N_nil _ _ _ _ _ | exact Kd.V_nil _ _ _ _ _ | exact Kd.Q_nil _ _ _ _ _ | exact Kd.S_nil _ _ _ _ _, by repeat (first | (with_reducible first | exact HB.out | apply below_alloc | apply pw_below_drewN | apply below_drew1 | refine below_set ?_ GE101.out | refine below_set ?_ GE102.out) | exact HB.out)⟩
 ·rw [if_neg c5] at H
  have c5b0 : (t103 == 0) = false := beq_eq_false_iff_ne.mpr c5
  have c5b1 : (t103 != 0) = true := bne_iff_ne.mpr c5
  simp only [Option.some.injEq, Prod.mk.injEq] at H
  obtain ⟨rfl, rfl, rfl, rfl, rfl⟩ := H
  go_enter Try.func19, Try.ntmps19
  go_wp2_with (first | ((with_reducible refine gate_dst (N := 3) rfl ?_); refine box_event ?hg (N := 3) ?hd (cs := #[.int .i64 a0_0, .int .i64 a0_1, .int .i64 a0_2, .slice A0_3 l0_3.length c0_3]) (t := 25) ?hr ?_; (case hd => rfl); (case hg => rfl); (case hr => first | (go_simp; done) | (go_simp; rfl)); intro gb101 hg w116 hbox hb; have qb_ := below_both (by repeat (first | (with_reducible first | exact HB.out | apply below_alloc | apply pw_below_drewN | apply below_drew1) | exact HB.out)) hb; have n0_ := Aside0.mk (qb_.1); have n1_ := Aside0.mk (hbox); have n3_ := Aside0.mk ((by rw [hg]; exact qb_.2 : w.heap.size ≤ gb101)); clear HB; have HB := n0_; have BK101 := n1_; have GE101 := n3_; clear qb_; clear n0_ n1_ n3_; clear hb hbox hg) | ((with_reducible refine gate_dst (N := 6) rfl ?_); refine box_event ?hg (N := 6) ?hd (cs := #[.int .i64 0, .int .i64 0, .int .i64 0, .slice none 0 0]) (t := 25) ?hr ?_; (case hd => rfl); (case hg => rfl); (case hr => first | (go_simp; done) | (go_simp; rfl)); intro gb102 hg w117 hbox hb; have qb_ := below_both (by repeat (first | (with_reducible first | exact HB.out | apply below_alloc | apply pw_below_drewN | apply below_drew1 | refine below_set ?_ GE101.out) | exact HB.out)) hb; have q1_ := blk_below2 (g := gb101) (o := .cells #[.int .i64 a0_0, .int .i64 a0_1, .int .i64 a0_2, .slice A0_3 l0_3.length c0_3] 25 (0, 0)) (by (with_reducible repeat (first | refine blk_drewN ?_ _ | refine blk_drew ?_ | refine blk_alloc ?_ _)); exact BK101.out) hb; have n0_ := Aside0.mk (q1_.1); have n1_ := Aside0.mk (qb_.1); have n2_ := Aside0.mk (hbox); have n4_ := Aside0.mk ((by rw [hg]; exact qb_.2 : w.heap.size ≤ gb102)); have n5_ := Aside0.mk ((by rw [hg]; exact Nat.ne_of_lt q1_.2 : gb101 ≠ gb102)); have n6_ := Aside0.mk (Ne.symm n5_.out); clear BK101; clear HB; have BK101 := n0_; have HB := n1_; have BK102 := n2_; have GE102 := n4_; have NB101_102 := n5_; have NB102_101 := n6_; clear q1_; clear qb_; clear n0_ n1_ n2_ n4_ n5_ n6_; clear hb hbox hg; have hnb118 := NB101_102.out; have hnc118 := NB102_101.out; have hcz119_0 : w117.cell? ⟨gb101, 0, none⟩ = some (.int .i64 a0_0) := (blk_cell BK101.out 0).trans rfl; have hcz119_1 : w117.cell? ⟨gb101, 1, none⟩ = some (.int .i64 a0_1) := (blk_cell BK101.out 1).trans rfl; have hcz119_2 : w117.cell? ⟨gb101, 2, none⟩ = some (.int .i64 a0_2) := (blk_cell BK101.out 2).trans rfl; have hcz119_3 : w117.cell? ⟨gb101, 3, none⟩ = some (.slice A0_3 l0_3.length c0_3) := (blk_cell BK101.out 3).trans rfl; have hfz119_0 := blk_frozen BK101.out 0; have hfz119_1 := blk_frozen BK101.out 1; have hfz119_2 := blk_frozen BK101.out 2; have hfz119_3 := blk_frozen BK101.out 3) | ((with_reducible refine gate_callee (f := 11) rfl ?_); refine goesL_ (some 14) rfl rfl Try.func11 (by kernel_rfl) rfl #[.agg #[.int .i64 a0_0, .int .i64 a0_1, .int .i64 a0_2, .slice A0_3 l0_3.length c0_3]] rfl (by (try simp only [List.map_toArray, List.map_cons, List.map_nil]); first | done | rfl | (simp only [List.length_drop, List.length_take]; rfl)) ?_; (with_reducible refine (guarantee_Validate.calls k a0_0 a0_1 a0_2 _ _ l0_3 t103 _ ?side1 ?side2 A4.out).mono ?_); (case side1 => repeat (first | exact (Kd.C_below HR0_3.out HB.out) | (with_reducible refine Kd.C_alloc ?_ _) | (with_reducible refine Kd.C_drewN ?_ _) | (with_reducible refine Kd.C_drew ?_))); (case side2 => exact HC0_3.out); rintro e w120 ⟨rfl, hb⟩; refine ⟨_, rfl, ?_⟩; have n1_ := Aside0.mk (blk_below (g := gb102) (o := .cells #[.int .i64 0, .int .i64 0, .int .i64 0, .slice none 0 0] 25 (0, 0)) (by (with_reducible repeat (first | refine blk_drewN ?_ _ | refine blk_drew ?_ | refine blk_alloc ?_ _)); exact BK102.out) hb); have n2_ := Aside0.mk (below_step (by repeat (first | (with_reducible first | exact HB.out | apply below_alloc | apply pw_below_drewN | apply below_drew1 | refine below_set ?_ GE101.out | refine below_set ?_ GE102.out) | exact HB.out)) hb); (try clear BK101); clear BK102; clear HB; have BK102 := n1_; have HB := n2_; clear n1_ n2_; (try clear hb); (try clear hb2); (try clear hk); (try clear hi); have hcz121_0 : w120.cell? ⟨gb102, 0, none⟩ = some (.int .i64 0) := (blk_cell BK102.out 0).trans rfl; have hcz121_1 : w120.cell? ⟨gb102, 1, none⟩ = some (.int .i64 0) := (blk_cell BK102.out 1).trans rfl; have hcz121_2 : w120.cell? ⟨gb102, 2, none⟩ = some (.int .i64 0) := (blk_cell BK102.out 2).trans rfl; have hcz121_3 : w120.cell? ⟨gb102, 3, none⟩ = some (.slice none 0 0) := (blk_cell BK102.out 3).trans rfl; have hfz121_0 := blk_frozen BK102.out 0; have hfz121_1 := blk_frozen BK102.out 1; have hfz121_2 := blk_frozen BK102.out 2; have hfz121_3 := blk_frozen BK102.out 3))
  refine bodyPost_ret (results_ct rfl _ _ gb102 25 #[.int .i64 0, .int .i64 0, .int .i64 0, .slice none 0 0] (0, 0) _ rfl (by (with_reducible repeat (first | refine blk_drewN ?_ _ | refine blk_drew ?_ | refine blk_alloc ?_ _)); refine blk_put (cs := #[.int .i64 0, .int .i64 0, .int .i64 0, .slice none 0 0]) ?_ 3 _ rfl; refine blk_put (cs := #[.int .i64 0, .int .i64 0, .int .i64 0, .slice none 0 0]) ?_ 2 _ rfl; refine blk_put (cs := #[.int .i64 0, .int .i64 0, .int .i64 0, .slice none 0 0]) ?_ 1 _ rfl; refine blk_put (cs := #[.int .i64 0, .int .i64 0, .int .i64 0, .slice none 0 0]) ?_ 0 _ rfl; (with_reducible repeat (first | refine blk_drewN ?_ _ | refine blk_drew ?_ | refine blk_alloc ?_ _)); exact BK102.out) Try.underlying25 rfl (by kernel_rfl)) rfl ?_
  exact ⟨_, by first | rfl | (simp [errW_none, errW_some] <;> rfl) | (simp [*, errW_none, errW_some] <;> rfl), by first | exact Kd.R_nil _ _ _ _ _ | exact Kd.N_nil _ _ _ _ _ | exact Kd.V_nil _ _ _ _ _ | exact Kd.Q_nil _ _ _ _ _ | exact Kd.S_nil _ _ _ _ _, by repeat (first | (with_reducible first | exact HB.out | apply below_alloc | apply pw_below_drewN | apply below_drew1 | refine below_set ?_ GE101.out | refine below_set ?_ GE102.out) | exact HB.out)⟩
def customslaw23_awake.f (k : Nat)  : Option (Bool) := (guarantee_Set.f k 1 100 500000 ([] : List (S39)) 1 101).bind fun bt122 => ((guarantee_Set.f k bt122.1 bt122.2.1 bt122.2.2.1 bt122.2.2.2.1 2 101).bind fun bt130 => (if bt122.2.2.2.2 = 0 then (if bt130.2.2.2.2 = 16 then ((guarantee_Total.f k bt122.1 bt122.2.1 bt122.2.2.1 bt122.2.2.2.1).bind fun t138 => (some (t138 == 51))) else (some false)) else (some false)))
theorem customslaw23_awake.mono : ∀ k, LeO (customslaw23_awake.f k ) (customslaw23_awake.f (k + 1) ) := by
 intro  k
 unfold customslaw23_awake.f
 repeat' first
   | (with_reducible exact guarantee_Set.mono _ _ _ _ _ _ _)
   | (with_reducible exact guarantee_Total.mono _ _ _ _ _)
   | (with_reducible exact LeO.refl _)
   | (with_reducible exact LeO.none _)
   | (with_reducible refine LeO.ite ?_ ?_)
   | (with_reducible refine LeO.bind ?_ (fun _ => ?_))
set_option maxHeartbeats 8000000 in
set_option maxRecDepth 100000 in
theorem customslaw23_awake.calls (k : Nat)  (r : Bool) (w : World) (h : customslaw23_awake.f k  = some r) :
  Calls Try.prog 15 #[] w fun e w' => e = .returned (.bool r) ∧ Below w.heap.size w w' := by
 have hu25 := Try.underlying25
 have HB := Aside0.mk (Below.refl w.heap.size w)
 have H : ((guarantee_Set.f k 1 100 500000 ([] : List (S39)) 1 101).bind fun bt122 => ((guarantee_Set.f k bt122.1 bt122.2.1 bt122.2.2.1 bt122.2.2.2.1 2 101).bind fun bt130 => (if bt122.2.2.2.2 = 0 then (if bt130.2.2.2.2 = 16 then ((guarantee_Total.f k bt122.1 bt122.2.1 bt122.2.2.1 bt122.2.2.2.1).bind fun t138 => (some (t138 == 51))) else (some false)) else (some false)))) = some r := h
 clear h
 replace H := Option.bind_eq_some_iff.mp H
 obtain ⟨⟨t122, t123, t124, t125, t128⟩, A10, H⟩ := H
 replace H : ((guarantee_Set.f k t122 t123 t124 t125 2 101).bind fun bt130 => (if t128 = 0 then (if bt130.2.2.2.2 = 16 then ((guarantee_Total.f k t122 t123 t124 t125).bind fun t138 => (some (t138 == 51))) else (some false)) else (some false))) = some r := H
 have A1 := Aside0.mk A10
 clear A10
 replace H := Option.bind_eq_some_iff.mp H
 obtain ⟨⟨t130, t131, t132, t133, t136⟩, A20, H⟩ := H
 replace H : (if t128 = 0 then (if t136 = 16 then ((guarantee_Total.f k t122 t123 t124 t125).bind fun t138 => (some (t138 == 51))) else (some false)) else (some false)) = some r := H
 have A2 := Aside0.mk A20
 clear A20
 by_cases c3 : t128 = 0
 ·rw [if_pos c3] at H
  have c3b0 : (t128 == 0) = true := beq_iff_eq.mpr c3
  have c3b1 : (t128 != 0) = false := bne_eq_false_iff_eq.mpr c3
  clear c3
  by_cases c4 : t136 = 16
  ·rw [if_pos c4] at H
   have c4b0 : (t136 == 16) = true := beq_iff_eq.mpr c4
   have c4b1 : (t136 != 16) = false := bne_eq_false_iff_eq.mpr c4
   clear c4
   replace H := Option.bind_eq_some_iff.mp H
   obtain ⟨t138, A50, H⟩ := H
   replace H : (some (t138 == 51)) = some r := H
   have A5 := Aside0.mk A50
   clear A50
   obtain rfl := Option.some.inj H
   go_enter Try.func15, Try.ntmps15
   go_wp2_with (first | ((with_reducible refine gate_callee (f := 19) rfl ?_); refine goesL_ (some 7) rfl rfl Try.func19 (by kernel_rfl) rfl #[.agg #[.int .i64 1, .int .i64 100, .int .i64 500000, .slice none 0 0], .int .i64 1, .int .i64 101] rfl (by (try simp only [List.map_toArray, List.map_cons, List.map_nil]); first | done | rfl | (simp only [List.length_drop, List.length_take]; rfl)) ?_; (refine (guarantee_Set.calls k 1 100 500000 _ _ ([] : List (S39)) 1 101 t122 t123 t124 t125 t128 _ ?side1 ?side2 A1.out).mono ?_); (case side1 => exact Kd.C_nil _ _); (case side2 => exact Nat.le_refl _); rintro e w6 ⟨v126, rfl, ho0, hb⟩; refine ⟨_, rfl, ?_⟩; have qb_ := below_both (by repeat (first | (with_reducible first | exact HB.out | apply below_alloc | apply pw_below_drewN | apply below_drew1) | exact HB.out)) hb; have n0_ := Aside0.mk (Kd.R_lower ho0 qb_.2); have n1_ := Aside0.mk (qb_.1); clear HB; have HO127 := n0_; have HB := n1_; clear qb_; clear n0_ n1_; (try clear hb); (try clear hb2); (try clear hk); (try clear hi); (try clear ho0)) | ((with_reducible refine gate_dst (N := 1) rfl ?_); refine box_event ?hg (N := 1) ?hd (cs := #[.int .i64 0, .int .i64 0, .int .i64 0, .slice none 0 0]) (t := 25) ?hr ?_; (case hd => rfl); (case hg => rfl); (case hr => first | (go_simp; done) | (go_simp; rfl)); intro gb129 hg w7 hbox hb; have qb_ := below_both (by repeat (first | (with_reducible first | exact HB.out | apply below_alloc | apply pw_below_drewN | apply below_drew1) | exact HB.out)) hb; have n0_ := Aside0.mk (Kd.R_below (by (with_reducible repeat (first | apply Kd.R_alloc | apply Kd.R_drewN | apply Kd.R_drew)); exact HO127.out) hb); have n1_ := Aside0.mk (qb_.1); have n2_ := Aside0.mk (hbox); have n4_ := Aside0.mk ((by rw [hg]; exact qb_.2 : w.heap.size ≤ gb129)); clear HO127; clear HB; have HO127 := n0_; have HB := n1_; have BK129 := n2_; have GE129 := n4_; clear qb_; clear n0_ n1_ n2_ n4_; clear hb hbox hg; have hcz8_0 : w7.cell? ⟨gb129, 0, none⟩ = some (.int .i64 0) := (blk_cell BK129.out 0).trans rfl; have hcz8_1 : w7.cell? ⟨gb129, 1, none⟩ = some (.int .i64 0) := (blk_cell BK129.out 1).trans rfl; have hcz8_2 : w7.cell? ⟨gb129, 2, none⟩ = some (.int .i64 0) := (blk_cell BK129.out 2).trans rfl; have hcz8_3 : w7.cell? ⟨gb129, 3, none⟩ = some (.slice none 0 0) := (blk_cell BK129.out 3).trans rfl; have hfz8_0 := blk_frozen BK129.out 0; have hfz8_1 := blk_frozen BK129.out 1; have hfz8_2 := blk_frozen BK129.out 2; have hfz8_3 := blk_frozen BK129.out 3; obtain ⟨Ao9, co9, eo9⟩ := Kd.R_slice HO127.out; subst eo9) | ((with_reducible refine gate_callee (f := 19) rfl ?_); refine goesL_ (some 12) rfl rfl Try.func19 (by kernel_rfl) rfl #[.agg #[.int .i64 t122, .int .i64 t123, .int .i64 t124, .slice Ao9 t125.length co9], .int .i64 2, .int .i64 101] rfl (by (try simp only [List.map_toArray, List.map_cons, List.map_nil]); first | done | rfl | (simp only [List.length_drop, List.length_take]; rfl)) ?_; (with_reducible refine (guarantee_Set.calls k t122 t123 t124 _ _ t125 2 101 t130 t131 t132 t133 t136 _ ?side1 ?side2 A2.out).mono ?_); (case side1 => refine (Kd.R_reads' (e := 39) (base := w.heap.size) (ok := fun k_ => True) (n := t125.length) (c := co9) ?_).2.2; exact (by (with_reducible repeat (first | apply Kd.R_alloc | apply Kd.R_drewN | apply Kd.R_drew)); exact (Kd.R_mono (Kd.R_far (p := ⟨gb129, 3, none⟩) (Kd.R_far (p := ⟨gb129, 2, none⟩) (Kd.R_far (p := ⟨gb129, 1, none⟩) (Kd.R_far (p := ⟨gb129, 0, none⟩) (Kd.R_types HO127.out BK129.out (by decide)) (fun _ hk => hk.2) (.int .i64 t122)) (fun _ hk => hk.2) (.int .i64 t123)) (fun _ hk => hk.2) (.int .i64 t124)) (fun _ hk => hk.2) (.slice Ao9 t125.length co9)) (fun _ h_ => h_.1)))); (case side2 => exact (Kd.R_reads' HO127.out).2.1); rintro e w10 ⟨v134, rfl, ho0, hb⟩; refine ⟨_, rfl, ?_⟩; have qb_ := below_both (by repeat (first | (with_reducible first | exact HB.out | apply below_alloc | apply pw_below_drewN | apply below_drew1 | refine below_set ?_ GE129.out) | exact HB.out)) hb; have q1_ := Kd.R_elder2 (by (with_reducible repeat (first | apply Kd.R_alloc | apply Kd.R_drewN | apply Kd.R_drew)); exact (Kd.R_mono (Kd.R_far (p := ⟨gb129, 3, none⟩) (Kd.R_far (p := ⟨gb129, 2, none⟩) (Kd.R_far (p := ⟨gb129, 1, none⟩) (Kd.R_far (p := ⟨gb129, 0, none⟩) (Kd.R_types HO127.out BK129.out (by decide)) (fun _ hk => hk.2) (.int .i64 t122)) (fun _ hk => hk.2) (.int .i64 t123)) (fun _ hk => hk.2) (.int .i64 t124)) (fun _ hk => hk.2) (.slice Ao9 t125.length co9)) (fun _ h_ => h_.1))) (Kd.R_base ho0) hb; have n0_ := Aside0.mk (q1_.1); have n1_ := Aside0.mk (Kd.R_lower (Kd.R_new' ho0 q1_.2) qb_.2); have n2_ := Aside0.mk (blk_below (g := gb129) (o := .cells #[.int .i64 t122, .int .i64 t123, .int .i64 t124, .slice Ao9 t125.length co9] 25 (0, 0)) (by (with_reducible repeat (first | refine blk_drewN ?_ _ | refine blk_drew ?_ | refine blk_alloc ?_ _)); refine blk_put (cs := #[.int .i64 t122, .int .i64 t123, .int .i64 t124, .slice none 0 0]) ?_ 3 _ rfl; refine blk_put (cs := #[.int .i64 t122, .int .i64 t123, .int .i64 0, .slice none 0 0]) ?_ 2 _ rfl; refine blk_put (cs := #[.int .i64 t122, .int .i64 0, .int .i64 0, .slice none 0 0]) ?_ 1 _ rfl; refine blk_put (cs := #[.int .i64 0, .int .i64 0, .int .i64 0, .slice none 0 0]) ?_ 0 _ rfl; (with_reducible repeat (first | refine blk_drewN ?_ _ | refine blk_drew ?_ | refine blk_alloc ?_ _)); exact BK129.out) hb); have n3_ := Aside0.mk (qb_.1); clear HO127; clear BK129; clear HB; have HO127 := n0_; have HO135 := n1_; have BK129 := n2_; have HB := n3_; clear q1_; clear qb_; clear n0_ n1_ n2_ n3_; (try clear hb); (try clear hb2); (try clear hk); (try clear hi); (try clear ho0)) | ((with_reducible refine gate_dst (N := 3) rfl ?_); refine box_event ?hg (N := 3) ?hd (cs := #[.int .i64 0, .int .i64 0, .int .i64 0, .slice none 0 0]) (t := 25) ?hr ?_; (case hd => rfl); (case hg => rfl); (case hr => first | (go_simp; done) | (go_simp; rfl)); intro gb137 hg w11 hbox hb; have qb_ := below_both (by repeat (first | (with_reducible first | exact HB.out | apply below_alloc | apply pw_below_drewN | apply below_drew1 | refine below_set ?_ GE129.out) | exact HB.out)) hb; have n0_ := Aside0.mk (Kd.R_below (by (with_reducible repeat (first | apply Kd.R_alloc | apply Kd.R_drewN | apply Kd.R_drew)); exact HO127.out) hb); have n1_ := Aside0.mk (Kd.R_below (by (with_reducible repeat (first | apply Kd.R_alloc | apply Kd.R_drewN | apply Kd.R_drew)); exact HO135.out) hb); have q1_ := blk_below2 (g := gb129) (o := .cells #[.int .i64 t122, .int .i64 t123, .int .i64 t124, .slice Ao9 t125.length co9] 25 (0, 0)) (by (with_reducible repeat (first | refine blk_drewN ?_ _ | refine blk_drew ?_ | refine blk_alloc ?_ _)); exact BK129.out) hb; have n2_ := Aside0.mk (q1_.1); have n3_ := Aside0.mk (qb_.1); have n4_ := Aside0.mk (hbox); have n6_ := Aside0.mk ((by rw [hg]; exact qb_.2 : w.heap.size ≤ gb137)); have n7_ := Aside0.mk ((by rw [hg]; exact Nat.ne_of_lt q1_.2 : gb129 ≠ gb137)); have n8_ := Aside0.mk (Ne.symm n7_.out); clear HO127; clear HO135; clear BK129; clear HB; have HO127 := n0_; have HO135 := n1_; have BK129 := n2_; have HB := n3_; have BK137 := n4_; have GE137 := n6_; have NB129_137 := n7_; have NB137_129 := n8_; clear q1_; clear qb_; clear n0_ n1_ n2_ n3_ n4_ n6_ n7_ n8_; clear hb hbox hg; have hnb12 := NB137_129.out; have hnc12 := NB129_137.out; have hcz13_0 : w11.cell? ⟨gb137, 0, none⟩ = some (.int .i64 0) := (blk_cell BK137.out 0).trans rfl; have hcz13_1 : w11.cell? ⟨gb137, 1, none⟩ = some (.int .i64 0) := (blk_cell BK137.out 1).trans rfl; have hcz13_2 : w11.cell? ⟨gb137, 2, none⟩ = some (.int .i64 0) := (blk_cell BK137.out 2).trans rfl; have hcz13_3 : w11.cell? ⟨gb137, 3, none⟩ = some (.slice none 0 0) := (blk_cell BK137.out 3).trans rfl; have hfz13_0 := blk_frozen BK137.out 0; have hfz13_1 := blk_frozen BK137.out 1; have hfz13_2 := blk_frozen BK137.out 2; have hfz13_3 := blk_frozen BK137.out 3; obtain ⟨Ao14, co14, eo14⟩ := Kd.R_slice HO135.out; subst eo14; have hcz15_0 : w11.cell? ⟨gb129, 0, none⟩ = some (.int .i64 t122) := (blk_cell BK129.out 0).trans rfl; have hcz15_1 : w11.cell? ⟨gb129, 1, none⟩ = some (.int .i64 t123) := (blk_cell BK129.out 1).trans rfl; have hcz15_2 : w11.cell? ⟨gb129, 2, none⟩ = some (.int .i64 t124) := (blk_cell BK129.out 2).trans rfl; have hcz15_3 : w11.cell? ⟨gb129, 3, none⟩ = some (.slice Ao9 t125.length co9) := (blk_cell BK129.out 3).trans rfl; have hfz15_0 := blk_frozen BK129.out 0; have hfz15_1 := blk_frozen BK129.out 1; have hfz15_2 := blk_frozen BK129.out 2; have hfz15_3 := blk_frozen BK129.out 3) | (go_at_call 13; (with_reducible refine (guarantee_Total.calls k t122 t123 t124 _ _ t125 t138 _ ?side1 ?side2 A5.out).mono ?_); (case side1 => refine (Kd.R_reads' (e := 39) (base := w.heap.size) (ok := fun k_ => (True ∧ some k_ ≠ (.slice Ao14 t133.length co14 : Value).ownBlock)) (n := t125.length) (c := co9) ?_).2.2; exact (by (with_reducible repeat (first | apply Kd.R_alloc | apply Kd.R_drewN | apply Kd.R_drew)); exact (Kd.R_mono (Kd.R_far (p := ⟨gb137, 3, none⟩) (Kd.R_far (p := ⟨gb137, 2, none⟩) (Kd.R_far (p := ⟨gb137, 1, none⟩) (Kd.R_far (p := ⟨gb137, 0, none⟩) (Kd.R_types HO127.out BK137.out (by decide)) (fun _ hk => hk.2) (.int .i64 t130)) (fun _ hk => hk.2) (.int .i64 t131)) (fun _ hk => hk.2) (.int .i64 t132)) (fun _ hk => hk.2) (.slice Ao14 t133.length co14)) (fun _ h_ => h_.1)))); (case side2 => exact (Kd.R_reads' HO127.out).2.1); rintro e w16 ⟨rfl, hb⟩; have n4_ := Aside0.mk (below_step (by repeat (first | (with_reducible first | exact HB.out | apply below_alloc | apply pw_below_drewN | apply below_drew1 | refine below_set ?_ GE129.out | refine below_set ?_ GE137.out) | exact HB.out)) hb); (try clear HO127); (try clear HO135); (try clear BK129); (try clear BK137); clear HB; have HB := n4_; clear n4_; (try clear hb); (try clear hb2); (try clear hk); (try clear hi)))
   go_ret
   exact ⟨by first | rfl | (simp [errW_none, errW_some] <;> rfl) | (simp [*, errW_none, errW_some] <;> rfl), by repeat (first | (with_reducible first | exact HB.out | apply below_alloc | apply pw_below_drewN | apply below_drew1 | refine below_set ?_ GE129.out | refine below_set ?_ GE137.out) | exact HB.out)⟩
  ·rw [if_neg c4] at H
   have c4b0 : (t136 == 16) = false := beq_eq_false_iff_ne.mpr c4
   have c4b1 : (t136 != 16) = true := bne_iff_ne.mpr c4
   obtain rfl := Option.some.inj H
   go_enter Try.func15, Try.ntmps15
   go_wp2_with (first | ((with_reducible refine gate_callee (f := 19) rfl ?_); refine goesL_ (some 7) rfl rfl Try.func19 (by kernel_rfl) rfl #[.agg #[.int .i64 1, .int .i64 100, .int .i64 500000, .slice none 0 0], .int .i64 1, .int .i64 101] rfl (by (try simp only [List.map_toArray, List.map_cons, List.map_nil]); first | done | rfl | (simp only [List.length_drop, List.length_take]; rfl)) ?_; (refine (guarantee_Set.calls k 1 100 500000 _ _ ([] : List (S39)) 1 101 t122 t123 t124 t125 t128 _ ?side1 ?side2 A1.out).mono ?_); (case side1 => exact Kd.C_nil _ _); (case side2 => exact Nat.le_refl _); rintro e w17 ⟨v126, rfl, ho0, hb⟩; refine ⟨_, rfl, ?_⟩; have qb_ := below_both (by repeat (first | (with_reducible first | exact HB.out | apply below_alloc | apply pw_below_drewN | apply below_drew1) | exact HB.out)) hb; have n0_ := Aside0.mk (Kd.R_lower ho0 qb_.2); have n1_ := Aside0.mk (qb_.1); clear HB; have HO127 := n0_; have HB := n1_; clear qb_; clear n0_ n1_; (try clear hb); (try clear hb2); (try clear hk); (try clear hi); (try clear ho0)) | ((with_reducible refine gate_dst (N := 1) rfl ?_); refine box_event ?hg (N := 1) ?hd (cs := #[.int .i64 0, .int .i64 0, .int .i64 0, .slice none 0 0]) (t := 25) ?hr ?_; (case hd => rfl); (case hg => rfl); (case hr => first | (go_simp; done) | (go_simp; rfl)); intro gb129 hg w18 hbox hb; have qb_ := below_both (by repeat (first | (with_reducible first | exact HB.out | apply below_alloc | apply pw_below_drewN | apply below_drew1) | exact HB.out)) hb; have n0_ := Aside0.mk (Kd.R_below (by (with_reducible repeat (first | apply Kd.R_alloc | apply Kd.R_drewN | apply Kd.R_drew)); exact HO127.out) hb); have n1_ := Aside0.mk (qb_.1); have n2_ := Aside0.mk (hbox); have n4_ := Aside0.mk ((by rw [hg]; exact qb_.2 : w.heap.size ≤ gb129)); clear HO127; clear HB; have HO127 := n0_; have HB := n1_; have BK129 := n2_; have GE129 := n4_; clear qb_; clear n0_ n1_ n2_ n4_; clear hb hbox hg; have hcz19_0 : w18.cell? ⟨gb129, 0, none⟩ = some (.int .i64 0) := (blk_cell BK129.out 0).trans rfl; have hcz19_1 : w18.cell? ⟨gb129, 1, none⟩ = some (.int .i64 0) := (blk_cell BK129.out 1).trans rfl; have hcz19_2 : w18.cell? ⟨gb129, 2, none⟩ = some (.int .i64 0) := (blk_cell BK129.out 2).trans rfl; have hcz19_3 : w18.cell? ⟨gb129, 3, none⟩ = some (.slice none 0 0) := (blk_cell BK129.out 3).trans rfl; have hfz19_0 := blk_frozen BK129.out 0; have hfz19_1 := blk_frozen BK129.out 1; have hfz19_2 := blk_frozen BK129.out 2; have hfz19_3 := blk_frozen BK129.out 3; obtain ⟨Ao20, co20, eo20⟩ := Kd.R_slice HO127.out; subst eo20) | ((with_reducible refine gate_callee (f := 19) rfl ?_); refine goesL_ (some 12) rfl rfl Try.func19 (by kernel_rfl) rfl #[.agg #[.int .i64 t122, .int .i64 t123, .int .i64 t124, .slice Ao20 t125.length co20], .int .i64 2, .int .i64 101] rfl (by (try simp only [List.map_toArray, List.map_cons, List.map_nil]); first | done | rfl | (simp only [List.length_drop, List.length_take]; rfl)) ?_; (with_reducible refine (guarantee_Set.calls k t122 t123 t124 _ _ t125 2 101 t130 t131 t132 t133 t136 _ ?side1 ?side2 A2.out).mono ?_); (case side1 => refine (Kd.R_reads' (e := 39) (base := w.heap.size) (ok := fun k_ => True) (n := t125.length) (c := co20) ?_).2.2; exact (by (with_reducible repeat (first | apply Kd.R_alloc | apply Kd.R_drewN | apply Kd.R_drew)); exact (Kd.R_mono (Kd.R_far (p := ⟨gb129, 3, none⟩) (Kd.R_far (p := ⟨gb129, 2, none⟩) (Kd.R_far (p := ⟨gb129, 1, none⟩) (Kd.R_far (p := ⟨gb129, 0, none⟩) (Kd.R_types HO127.out BK129.out (by decide)) (fun _ hk => hk.2) (.int .i64 t122)) (fun _ hk => hk.2) (.int .i64 t123)) (fun _ hk => hk.2) (.int .i64 t124)) (fun _ hk => hk.2) (.slice Ao20 t125.length co20)) (fun _ h_ => h_.1)))); (case side2 => exact (Kd.R_reads' HO127.out).2.1); rintro e w21 ⟨v134, rfl, ho0, hb⟩; refine ⟨_, rfl, ?_⟩; have n1_ := Aside0.mk (Kd.R_lower (Kd.R_new' ho0 (Kd.R_lt (by (with_reducible repeat (first | apply Kd.R_alloc | apply Kd.R_drewN | apply Kd.R_drew)); exact (Kd.R_mono (Kd.R_far (p := ⟨gb129, 3, none⟩) (Kd.R_far (p := ⟨gb129, 2, none⟩) (Kd.R_far (p := ⟨gb129, 1, none⟩) (Kd.R_far (p := ⟨gb129, 0, none⟩) (Kd.R_types HO127.out BK129.out (by decide)) (fun _ hk => hk.2) (.int .i64 t122)) (fun _ hk => hk.2) (.int .i64 t123)) (fun _ hk => hk.2) (.int .i64 t124)) (fun _ hk => hk.2) (.slice Ao20 t125.length co20)) (fun _ h_ => h_.1))))) (below_size (by repeat (first | (with_reducible first | exact HB.out | apply below_alloc | apply pw_below_drewN | apply below_drew1 | refine below_set ?_ GE129.out) | exact HB.out)))); have n2_ := Aside0.mk (blk_below (g := gb129) (o := .cells #[.int .i64 t122, .int .i64 t123, .int .i64 t124, .slice Ao20 t125.length co20] 25 (0, 0)) (by (with_reducible repeat (first | refine blk_drewN ?_ _ | refine blk_drew ?_ | refine blk_alloc ?_ _)); refine blk_put (cs := #[.int .i64 t122, .int .i64 t123, .int .i64 t124, .slice none 0 0]) ?_ 3 _ rfl; refine blk_put (cs := #[.int .i64 t122, .int .i64 t123, .int .i64 0, .slice none 0 0]) ?_ 2 _ rfl; refine blk_put (cs := #[.int .i64 t122, .int .i64 0, .int .i64 0, .slice none 0 0]) ?_ 1 _ rfl; refine blk_put (cs := #[.int .i64 0, .int .i64 0, .int .i64 0, .slice none 0 0]) ?_ 0 _ rfl; (with_reducible repeat (first | refine blk_drewN ?_ _ | refine blk_drew ?_ | refine blk_alloc ?_ _)); exact BK129.out) hb); have n3_ := Aside0.mk (below_step (by repeat (first | (with_reducible first | exact HB.out | apply below_alloc | apply pw_below_drewN | apply below_drew1 | refine below_set ?_ GE129.out) | exact HB.out)) hb); (try clear HO127); clear BK129; clear HB; have HO135 := n1_; have BK129 := n2_; have HB := n3_; clear n1_ n2_ n3_; (try clear hb); (try clear hb2); (try clear hk); (try clear hi); (try clear ho0)) | ((with_reducible refine gate_dst (N := 3) rfl ?_); refine box_event ?hg (N := 3) ?hd (cs := #[.int .i64 0, .int .i64 0, .int .i64 0, .slice none 0 0]) (t := 25) ?hr ?_; (case hd => rfl); (case hg => rfl); (case hr => first | (go_simp; done) | (go_simp; rfl)); intro gb137 hg w22 hbox hb; have n1_ := Aside0.mk (Kd.R_below (by (with_reducible repeat (first | apply Kd.R_alloc | apply Kd.R_drewN | apply Kd.R_drew)); exact HO135.out) hb); have n3_ := Aside0.mk (below_step (by repeat (first | (with_reducible first | exact HB.out | apply below_alloc | apply pw_below_drewN | apply below_drew1 | refine below_set ?_ GE129.out) | exact HB.out)) hb); have n4_ := Aside0.mk (hbox); have n6_ := Aside0.mk ((by rw [hg]; exact (below_size (by repeat (first | (with_reducible first | exact HB.out | apply below_alloc | apply pw_below_drewN | apply below_drew1 | refine below_set ?_ GE129.out) | exact HB.out))) : w.heap.size ≤ gb137)); have n7_ := Aside0.mk ((by rw [hg]; exact Nat.ne_of_lt (blk_lt (g := gb129) (o := .cells #[.int .i64 t122, .int .i64 t123, .int .i64 t124, .slice Ao20 t125.length co20] 25 (0, 0)) (by (with_reducible repeat (first | refine blk_drewN ?_ _ | refine blk_drew ?_ | refine blk_alloc ?_ _)); exact BK129.out)) : gb129 ≠ gb137)); have n8_ := Aside0.mk ((by rw [hg]; exact Nat.ne_of_gt (blk_lt (g := gb129) (o := .cells #[.int .i64 t122, .int .i64 t123, .int .i64 t124, .slice Ao20 t125.length co20] 25 (0, 0)) (by (with_reducible repeat (first | refine blk_drewN ?_ _ | refine blk_drew ?_ | refine blk_alloc ?_ _)); exact BK129.out)) : gb137 ≠ gb129)); (try clear HO127); clear HO135; (try clear BK129); clear HB; have HO135 := n1_; have HB := n3_; have BK137 := n4_; have GE137 := n6_; have NB129_137 := n7_; have NB137_129 := n8_; clear n1_ n3_ n4_ n6_ n7_ n8_; clear hb hbox hg; have hnb23 := NB137_129.out; have hnc23 := NB129_137.out; have hcz24_0 : w22.cell? ⟨gb137, 0, none⟩ = some (.int .i64 0) := (blk_cell BK137.out 0).trans rfl; have hcz24_1 : w22.cell? ⟨gb137, 1, none⟩ = some (.int .i64 0) := (blk_cell BK137.out 1).trans rfl; have hcz24_2 : w22.cell? ⟨gb137, 2, none⟩ = some (.int .i64 0) := (blk_cell BK137.out 2).trans rfl; have hcz24_3 : w22.cell? ⟨gb137, 3, none⟩ = some (.slice none 0 0) := (blk_cell BK137.out 3).trans rfl; have hfz24_0 := blk_frozen BK137.out 0; have hfz24_1 := blk_frozen BK137.out 1; have hfz24_2 := blk_frozen BK137.out 2; have hfz24_3 := blk_frozen BK137.out 3; obtain ⟨Ao25, co25, eo25⟩ := Kd.R_slice HO135.out; subst eo25))
   go_ret
   exact ⟨by first | rfl | (simp [errW_none, errW_some] <;> rfl) | (simp [*, errW_none, errW_some] <;> rfl), by repeat (first | (with_reducible first | exact HB.out | apply below_alloc | apply pw_below_drewN | apply below_drew1 | refine below_set ?_ GE129.out | refine below_set ?_ GE137.out) | exact HB.out)⟩
 ·rw [if_neg c3] at H
  have c3b0 : (t128 == 0) = false := beq_eq_false_iff_ne.mpr c3
  have c3b1 : (t128 != 0) = true := bne_iff_ne.mpr c3
  obtain rfl := Option.some.inj H
  go_enter Try.func15, Try.ntmps15
  go_wp2_with (first | ((with_reducible refine gate_callee (f := 19) rfl ?_); refine goesL_ (some 7) rfl rfl Try.func19 (by kernel_rfl) rfl #[.agg #[.int .i64 1, .int .i64 100, .int .i64 500000, .slice none 0 0], .int .i64 1, .int .i64 101] rfl (by (try simp only [List.map_toArray, List.map_cons, List.map_nil]); first | done | rfl | (simp only [List.length_drop, List.length_take]; rfl)) ?_; (refine (guarantee_Set.calls k 1 100 500000 _ _ ([] : List (S39)) 1 101 t122 t123 t124 t125 t128 _ ?side1 ?side2 A1.out).mono ?_); (case side1 => exact Kd.C_nil _ _); (case side2 => exact Nat.le_refl _); rintro e w26 ⟨v126, rfl, ho0, hb⟩; refine ⟨_, rfl, ?_⟩; have qb_ := below_both (by repeat (first | (with_reducible first | exact HB.out | apply below_alloc | apply pw_below_drewN | apply below_drew1) | exact HB.out)) hb; have n0_ := Aside0.mk (Kd.R_lower ho0 qb_.2); have n1_ := Aside0.mk (qb_.1); clear HB; have HO127 := n0_; have HB := n1_; clear qb_; clear n0_ n1_; (try clear hb); (try clear hb2); (try clear hk); (try clear hi); (try clear ho0)) | ((with_reducible refine gate_dst (N := 1) rfl ?_); refine box_event ?hg (N := 1) ?hd (cs := #[.int .i64 0, .int .i64 0, .int .i64 0, .slice none 0 0]) (t := 25) ?hr ?_; (case hd => rfl); (case hg => rfl); (case hr => first | (go_simp; done) | (go_simp; rfl)); intro gb129 hg w27 hbox hb; have qb_ := below_both (by repeat (first | (with_reducible first | exact HB.out | apply below_alloc | apply pw_below_drewN | apply below_drew1) | exact HB.out)) hb; have n0_ := Aside0.mk (Kd.R_below (by (with_reducible repeat (first | apply Kd.R_alloc | apply Kd.R_drewN | apply Kd.R_drew)); exact HO127.out) hb); have n1_ := Aside0.mk (qb_.1); have n2_ := Aside0.mk (hbox); have n4_ := Aside0.mk ((by rw [hg]; exact qb_.2 : w.heap.size ≤ gb129)); clear HO127; clear HB; have HO127 := n0_; have HB := n1_; have BK129 := n2_; have GE129 := n4_; clear qb_; clear n0_ n1_ n2_ n4_; clear hb hbox hg; have hcz28_0 : w27.cell? ⟨gb129, 0, none⟩ = some (.int .i64 0) := (blk_cell BK129.out 0).trans rfl; have hcz28_1 : w27.cell? ⟨gb129, 1, none⟩ = some (.int .i64 0) := (blk_cell BK129.out 1).trans rfl; have hcz28_2 : w27.cell? ⟨gb129, 2, none⟩ = some (.int .i64 0) := (blk_cell BK129.out 2).trans rfl; have hcz28_3 : w27.cell? ⟨gb129, 3, none⟩ = some (.slice none 0 0) := (blk_cell BK129.out 3).trans rfl; have hfz28_0 := blk_frozen BK129.out 0; have hfz28_1 := blk_frozen BK129.out 1; have hfz28_2 := blk_frozen BK129.out 2; have hfz28_3 := blk_frozen BK129.out 3; obtain ⟨Ao29, co29, eo29⟩ := Kd.R_slice HO127.out; subst eo29) | ((with_reducible refine gate_callee (f := 19) rfl ?_); refine goesL_ (some 12) rfl rfl Try.func19 (by kernel_rfl) rfl #[.agg #[.int .i64 t122, .int .i64 t123, .int .i64 t124, .slice Ao29 t125.length co29], .int .i64 2, .int .i64 101] rfl (by (try simp only [List.map_toArray, List.map_cons, List.map_nil]); first | done | rfl | (simp only [List.length_drop, List.length_take]; rfl)) ?_; (with_reducible refine (guarantee_Set.calls k t122 t123 t124 _ _ t125 2 101 t130 t131 t132 t133 t136 _ ?side1 ?side2 A2.out).mono ?_); (case side1 => refine (Kd.R_reads' (e := 39) (base := w.heap.size) (ok := fun k_ => True) (n := t125.length) (c := co29) ?_).2.2; exact (by (with_reducible repeat (first | apply Kd.R_alloc | apply Kd.R_drewN | apply Kd.R_drew)); exact (Kd.R_mono (Kd.R_far (p := ⟨gb129, 3, none⟩) (Kd.R_far (p := ⟨gb129, 2, none⟩) (Kd.R_far (p := ⟨gb129, 1, none⟩) (Kd.R_far (p := ⟨gb129, 0, none⟩) (Kd.R_types HO127.out BK129.out (by decide)) (fun _ hk => hk.2) (.int .i64 t122)) (fun _ hk => hk.2) (.int .i64 t123)) (fun _ hk => hk.2) (.int .i64 t124)) (fun _ hk => hk.2) (.slice Ao29 t125.length co29)) (fun _ h_ => h_.1)))); (case side2 => exact (Kd.R_reads' HO127.out).2.1); rintro e w30 ⟨v134, rfl, ho0, hb⟩; refine ⟨_, rfl, ?_⟩; have n1_ := Aside0.mk (Kd.R_lower (Kd.R_new' ho0 (Kd.R_lt (by (with_reducible repeat (first | apply Kd.R_alloc | apply Kd.R_drewN | apply Kd.R_drew)); exact (Kd.R_mono (Kd.R_far (p := ⟨gb129, 3, none⟩) (Kd.R_far (p := ⟨gb129, 2, none⟩) (Kd.R_far (p := ⟨gb129, 1, none⟩) (Kd.R_far (p := ⟨gb129, 0, none⟩) (Kd.R_types HO127.out BK129.out (by decide)) (fun _ hk => hk.2) (.int .i64 t122)) (fun _ hk => hk.2) (.int .i64 t123)) (fun _ hk => hk.2) (.int .i64 t124)) (fun _ hk => hk.2) (.slice Ao29 t125.length co29)) (fun _ h_ => h_.1))))) (below_size (by repeat (first | (with_reducible first | exact HB.out | apply below_alloc | apply pw_below_drewN | apply below_drew1 | refine below_set ?_ GE129.out) | exact HB.out)))); have n2_ := Aside0.mk (blk_below (g := gb129) (o := .cells #[.int .i64 t122, .int .i64 t123, .int .i64 t124, .slice Ao29 t125.length co29] 25 (0, 0)) (by (with_reducible repeat (first | refine blk_drewN ?_ _ | refine blk_drew ?_ | refine blk_alloc ?_ _)); refine blk_put (cs := #[.int .i64 t122, .int .i64 t123, .int .i64 t124, .slice none 0 0]) ?_ 3 _ rfl; refine blk_put (cs := #[.int .i64 t122, .int .i64 t123, .int .i64 0, .slice none 0 0]) ?_ 2 _ rfl; refine blk_put (cs := #[.int .i64 t122, .int .i64 0, .int .i64 0, .slice none 0 0]) ?_ 1 _ rfl; refine blk_put (cs := #[.int .i64 0, .int .i64 0, .int .i64 0, .slice none 0 0]) ?_ 0 _ rfl; (with_reducible repeat (first | refine blk_drewN ?_ _ | refine blk_drew ?_ | refine blk_alloc ?_ _)); exact BK129.out) hb); have n3_ := Aside0.mk (below_step (by repeat (first | (with_reducible first | exact HB.out | apply below_alloc | apply pw_below_drewN | apply below_drew1 | refine below_set ?_ GE129.out) | exact HB.out)) hb); (try clear HO127); clear BK129; clear HB; have HO135 := n1_; have BK129 := n2_; have HB := n3_; clear n1_ n2_ n3_; (try clear hb); (try clear hb2); (try clear hk); (try clear hi); (try clear ho0)) | ((with_reducible refine gate_dst (N := 3) rfl ?_); refine box_event ?hg (N := 3) ?hd (cs := #[.int .i64 0, .int .i64 0, .int .i64 0, .slice none 0 0]) (t := 25) ?hr ?_; (case hd => rfl); (case hg => rfl); (case hr => first | (go_simp; done) | (go_simp; rfl)); intro gb137 hg w31 hbox hb; have n1_ := Aside0.mk (Kd.R_below (by (with_reducible repeat (first | apply Kd.R_alloc | apply Kd.R_drewN | apply Kd.R_drew)); exact HO135.out) hb); have n3_ := Aside0.mk (below_step (by repeat (first | (with_reducible first | exact HB.out | apply below_alloc | apply pw_below_drewN | apply below_drew1 | refine below_set ?_ GE129.out) | exact HB.out)) hb); have n4_ := Aside0.mk (hbox); have n6_ := Aside0.mk ((by rw [hg]; exact (below_size (by repeat (first | (with_reducible first | exact HB.out | apply below_alloc | apply pw_below_drewN | apply below_drew1 | refine below_set ?_ GE129.out) | exact HB.out))) : w.heap.size ≤ gb137)); have n7_ := Aside0.mk ((by rw [hg]; exact Nat.ne_of_lt (blk_lt (g := gb129) (o := .cells #[.int .i64 t122, .int .i64 t123, .int .i64 t124, .slice Ao29 t125.length co29] 25 (0, 0)) (by (with_reducible repeat (first | refine blk_drewN ?_ _ | refine blk_drew ?_ | refine blk_alloc ?_ _)); exact BK129.out)) : gb129 ≠ gb137)); have n8_ := Aside0.mk ((by rw [hg]; exact Nat.ne_of_gt (blk_lt (g := gb129) (o := .cells #[.int .i64 t122, .int .i64 t123, .int .i64 t124, .slice Ao29 t125.length co29] 25 (0, 0)) (by (with_reducible repeat (first | refine blk_drewN ?_ _ | refine blk_drew ?_ | refine blk_alloc ?_ _)); exact BK129.out)) : gb137 ≠ gb129)); (try clear HO127); clear HO135; (try clear BK129); clear HB; have HO135 := n1_; have HB := n3_; have BK137 := n4_; have GE137 := n6_; have NB129_137 := n7_; have NB137_129 := n8_; clear n1_ n3_ n4_ n6_ n7_ n8_; clear hb hbox hg; have hnb32 := NB137_129.out; have hnc32 := NB129_137.out; have hcz33_0 : w31.cell? ⟨gb137, 0, none⟩ = some (.int .i64 0) := (blk_cell BK137.out 0).trans rfl; have hcz33_1 : w31.cell? ⟨gb137, 1, none⟩ = some (.int .i64 0) := (blk_cell BK137.out 1).trans rfl; have hcz33_2 : w31.cell? ⟨gb137, 2, none⟩ = some (.int .i64 0) := (blk_cell BK137.out 2).trans rfl; have hcz33_3 : w31.cell? ⟨gb137, 3, none⟩ = some (.slice none 0 0) := (blk_cell BK137.out 3).trans rfl; have hfz33_0 := blk_frozen BK137.out 0; have hfz33_1 := blk_frozen BK137.out 1; have hfz33_2 := blk_frozen BK137.out 2; have hfz33_3 := blk_frozen BK137.out 3; obtain ⟨Ao34, co34, eo34⟩ := Kd.R_slice HO135.out; subst eo34))
  go_ret
  exact ⟨by first | rfl | (simp [errW_none, errW_some] <;> rfl) | (simp [*, errW_none, errW_some] <;> rfl), by repeat (first | (with_reducible first | exact HB.out | apply below_alloc | apply pw_below_drewN | apply below_drew1 | refine below_set ?_ GE129.out | refine below_set ?_ GE137.out) | exact HB.out)⟩
end Go.Proofs.Ytakhjhiofmgpnaa.PB
/- The law GuaranteeRequired in plain Lean: what is required is the least number that is not below the level's share. -/
namespace Go.Proofs.Ytakhjhiofmgpnaa.E
set_option linter.unusedVariables false
set_option linter.unusedSimpArgs false
open Go.RowKit Go.Proofs.YtakhjhiofmgpnaaW.PrintWords Go.Proofs.YtakhjhiofmgpnaaW.PrintLast Go.Proofs.YtakhjhiofmgpnaaW.PrintMore Go.Proofs.Ytakhjhiofmgpnaa.PA Go.Proofs.Ytakhjhiofmgpnaa.PB
theorem awake_ev : Ev (fun k => customslaw23_awake.f k) true :=
  Ev.of (fun k => customslaw23_awake.mono k) (show customslaw23_awake.f 300 = some true by decide +kernel)
/-- What an amount requires at a level: the share, rounded up. -/
def need (a lev : Int) : Int := (a * lev + 999999) / 1000000
theorem prod_range {a lev : Int} (a0 : 0 ≤ a) (a1 : a ≤ 1000000000000) (b0 : 0 ≤ lev) (b1 : lev ≤ 1000000) : 0 ≤ a * lev ∧ a * lev ≤ 1000000000000000000 := by
  have h1 := Int.mul_nonneg a0 b0
  have h2 := Int.mul_le_mul a1 b1 b0 (by omega : (0 : Int) ≤ 1000000000000)
  omega
theorem need_range {a lev : Int} (a0 : 0 ≤ a) (a1 : a ≤ 1000000000000) (b0 : 0 ≤ lev) (b1 : lev ≤ 1000000) : 0 ≤ need a lev ∧ need a lev ≤ 1000000000000 ∧ a * lev ≤ need a lev * 1000000 ∧ (need a lev - 1) * 1000000 < a * lev := by
  have := prod_range a0 a1 b0 b1
  unfold need
  omega
theorem rounded_up (p : Int) (p0 : 0 ≤ p) : rounded p 1000000 1 = (p + 999999) / 1000000 := by
  unfold rounded goesUp
  simp only [if_true, decide_eq_true_eq]
  split <;> omega
theorem within_in {a lo hi : Int} (h : lo ≤ a ∧ a ≤ hi) : guarantee_within_int.f a lo hi = some true := by
  unfold guarantee_within_int.f
  rw [if_pos (by omega)]
  simp [h.2]
theorem within_out {a lo hi : Int} (h : ¬ (lo ≤ a ∧ a ≤ hi)) : guarantee_within_int.f a lo hi = some false := by
  unfold guarantee_within_int.f
  by_cases h1 : a ≥ lo
  · rw [if_pos h1]
    simp
    omega
  · rw [if_neg h1]
theorem required_in (x0 x1 lev : Int) (l : List S39) (a : Int) (a0 : 0 ≤ a) (a1 : a ≤ 1000000000000) (b0 : 0 ≤ lev) (b1 : lev ≤ 1000000) : Ev (fun k => guarantee_Required.f k x0 x1 lev l a) (need a lev, 0) := by
  have hp := prod_range a0 a1 b0 b1
  have hn := need_range a0 a1 b0 b1
  have hr := rounded_up (a * lev) hp.1
  unfold guarantee_Required.f
  refine evBind0 (within_in ⟨b0, b1⟩) (evPos rfl (evBind0 (within_in ⟨a0, a1⟩) (evPos rfl ?_)))
  rw [w_id a0 (by omega), w_id b0 (by omega)]
  refine evBind (muldiv_ev a lev 1000000 1 a0 (by omega) b0 (by omega) (by omega) (by omega) (by omega) (by omega) (by rw [hr]; omega)) (evNow ?_)
  show some (wrap64 (rounded (a * lev) 1000000 1), (0 : Int)) = _
  rw [hr, wrap64_id (by omega) (by omega)]
  rfl
theorem required_out (x0 x1 lev : Int) (l : List S39) (a : Int) (h : ¬ ((0 ≤ lev ∧ lev ≤ 1000000) ∧ 0 ≤ a ∧ a ≤ 1000000000000)) : Ev (fun k => guarantee_Required.f k x0 x1 lev l a) (0, 2) := by
  unfold guarantee_Required.f
  by_cases h1 : 0 ≤ lev ∧ lev ≤ 1000000
  · refine evBind0 (within_in h1) (evPos rfl (evBind0 (within_out (fun h2 => h ⟨h1, h2⟩)) (evNeg (by simp) (evNow rfl))))
  · exact evBind0 (within_out h1) (evNeg (by simp) (evNow rfl))
theorem refrequired_in (x0 x1 lev : Int) (l : List S39) (a : Int) (a0 : 0 ≤ a) (a1 : a ≤ 1000000000000) (b0 : 0 ≤ lev) (b1 : lev ≤ 1000000) : customsref21_Required.f x0 x1 lev l a = some (need a lev, 0) := by
  have hp := prod_range a0 a1 b0 b1
  unfold customsref21_Required.f
  rw [if_neg (by omega), if_neg (by omega), if_neg (by omega), if_neg (by omega)]
  have e1 : wrap64 (a * lev) = a * lev := wrap64_id (by omega) (by omega)
  have e2 : wrap64 (a * lev + 1000000) = a * lev + 1000000 := wrap64_id (by omega) (by omega)
  have e3 : wrap64 (a * lev + 1000000 - 1) = a * lev + 999999 := by rw [wrap64_id (by omega) (by omega)]; omega
  rw [e1, e2, e3, Int.tdiv_eq_ediv_of_nonneg (by omega), wrap64_id (by omega) (by omega)]
  rfl
end Go.Proofs.Ytakhjhiofmgpnaa.E
/- Validate and Total of a guarantee, in plain Lean: both the program's and the reference's answer is 'vf'; the sum is 'psum'. -/
namespace Go.Proofs.Ytakhjhiofmgpnaa.E
set_option linter.unusedVariables false
set_option linter.unusedSimpArgs false
open Go.RowKit Go.Proofs.YtakhjhiofmgpnaaW.PrintWords Go.Proofs.YtakhjhiofmgpnaaW.PrintLast Go.Proofs.YtakhjhiofmgpnaaW.PrintMore Go.Proofs.Ytakhjhiofmgpnaa.PA Go.Proofs.Ytakhjhiofmgpnaa.PB
def at_ (l : List S39) (i : Nat) : S39 := rd_T39 l (i : Int)
def okE (u : S39) : Prop := (1 ≤ u.f0 ∧ u.f0 ≤ 1000000) ∧ 0 ≤ u.f1 ∧ u.f1 ≤ 1000000000000
def allOk (l : List S39) : Prop := ∀ j, j < l.length → okE (at_ l j)
def asc (l : List S39) : Prop := ∀ j, j + 1 < l.length → (at_ l j).f0 < (at_ l (j + 1)).f0
def psum (l : List S39) : Nat → Int
  | 0 => 0
  | i + 1 => psum l i + (at_ l i).f1
def tot (l : List S39) : Int := psum l l.length
theorem psum_range {l : List S39} (h : allOk l) : ∀ i, i ≤ l.length → 0 ≤ psum l i ∧ psum l i ≤ i * 1000000000000
  | 0, _ => by simp [psum]
  | i + 1, hi => by
    have := psum_range h i (by omega)
    have h1 := (h i (by omega)).2
    simp only [psum]
    omega
def headOk (a b c : Int) : Prop := (1 ≤ a ∧ a ≤ 1000000) ∧ (0 ≤ b ∧ b ≤ 1000000000000) ∧ 0 ≤ c ∧ c ≤ 1000000
open Classical in
noncomputable def vf (a b c : Int) (l : List S39) : Int :=
  if ¬ headOk a b c then 2 else if l.length > 64 then 8 else if ¬ allOk l then 2 else if ¬ asc l then 9 else if tot l > b then 16 else 0
theorem vf_zero {a b c : Int} {l : List S39} : vf a b c l = 0 ↔ headOk a b c ∧ l.length ≤ 64 ∧ allOk l ∧ asc l ∧ tot l ≤ b := by
  unfold vf
  by_cases h1 : headOk a b c
  · by_cases h2 : l.length > 64
    · simp [h1, h2] <;> omega
    · by_cases h3 : allOk l
      · by_cases h4 : asc l
        · by_cases h5 : tot l > b
          · simp [h1, h2, h3, h4, h5] <;> omega
          · simp [h1, h2, h3, h4, h5] <;> omega
        · simp [h1, h2, h3, h4]
      · simp [h1, h2, h3]
  · simp [h1]
theorem sum_ev {l : List S39} (h : allOk l) (hl : l.length ≤ 64) : Ev (fun k => guarantee_sum.f k l) (tot l) := by
  have key : ∀ (n i : Nat), i + n = l.length → Ev (fun k => guarantee_sum.l0 k (psum l i) l (l.length : Int) (i : Int)) (tot l) := by
    intro n
    induction n with
    | zero =>
      intro i hi
      refine evShift ?_
      simp only [guarantee_sum.l0]
      refine evNeg (by omega) (evNow ?_)
      rw [tot, ← hi]; rfl
    | succ n ih =>
      intro i hi
      refine evShift ?_
      simp only [guarantee_sum.l0]
      refine evPos (by omega) (evPos (by omega) (evPos (by omega) ?_))
      have h0 := psum_range h i (by omega)
      have h1 := (h i (by omega)).2
      have e1 : wrap64 (psum l i + (rd_T39 l (i : Int)).f1) = psum l (i + 1) := by
        have : (rd_T39 l (i : Int)).f1 = (at_ l i).f1 := rfl
        rw [this, wrap64_id (by omega) (by omega)]; rfl
      have e2 : wrap64 ((i : Int) + 1) = ((i + 1 : Nat) : Int) := by rw [wrap64_id (by omega) (by omega)]; omega
      rw [e1, e2]
      exact ih (i + 1) (by omega)
  exact key l.length 0 (by omega)
theorem val_l1 {a b c R : Int} {l : List S39} (hl : l.length ≤ 64) (hbad : ¬ asc l → R = 9) (hgood : asc l → Ev (fun k => (guarantee_sum.f k l).bind fun t => (if t > b then (some 16) else (some 0))) R) :
    Ev (fun k => guarantee_Validate.l1 k 1 a b c l) R := by
  have key : ∀ (n i : Nat), i + n = max l.length 1 → 1 ≤ i → (∀ j, j + 1 < i → (at_ l j).f0 < (at_ l (j + 1)).f0) → Ev (fun k => guarantee_Validate.l1 k (i : Int) a b c l) R := by
    intro n
    induction n with
    | zero =>
      intro i hi h1 hp
      refine evShift ?_
      simp only [guarantee_Validate.l1]
      exact evNeg (by omega) (hgood (fun j hj => hp j (by omega)))
    | succ n ih =>
      intro i hi h1 hp
      refine evShift ?_
      simp only [guarantee_Validate.l1]
      have e0 : wrap64 ((i : Int) - 1) = ((i - 1 : Nat) : Int) := by rw [wrap64_id (by omega) (by omega)]; omega
      have e2 : wrap64 ((i : Int) + 1) = ((i + 1 : Nat) : Int) := by rw [wrap64_id (by omega) (by omega)]; omega
      rw [e0, e2]
      refine evPos (by omega) (evPos (by omega) (evPos (by omega) (evPos (by omega) ?_)))
      refine evIf (fun hle => ?_) (fun hgt => ?_)
      · refine evNow ?_
        rw [hbad (fun ha => ?_)]
        have := ha (i - 1) (by omega)
        rw [show i - 1 + 1 = i by omega] at this
        exact absurd hle (by show ¬ (at_ l i).f0 ≤ (at_ l (i - 1)).f0; omega)
      · refine ih (i + 1) (by omega) (by omega) (fun j hj => ?_)
        by_cases hj2 : j + 1 < i
        · exact hp j hj2
        · obtain rfl : j = i - 1 := by omega
          rw [show i - 1 + 1 = i by omega]
          have : ¬ (at_ l i).f0 ≤ (at_ l (i - 1)).f0 := hgt
          omega
  exact key (max l.length 1 - 1) 1 (by omega) (by omega) (fun j hj => by omega)
theorem val_l0 {a b c R : Int} {l : List S39} (hl : l.length ≤ 64) (hbad : ¬ allOk l → R = 2) (hgood : allOk l → Ev (fun k => guarantee_Validate.l1 k 1 a b c l) R) :
    Ev (fun k => guarantee_Validate.l0 k l (l.length : Int) 0 a b c l) R := by
  have key : ∀ (n i : Nat), i + n = l.length → (∀ j, j < i → okE (at_ l j)) → Ev (fun k => guarantee_Validate.l0 k l (l.length : Int) (i : Int) a b c l) R := by
    intro n
    induction n with
    | zero =>
      intro i hi hp
      refine evShift ?_
      simp only [guarantee_Validate.l0]
      exact evNeg (by omega) (hgood (fun j hj => hp j (by omega)))
    | succ n ih =>
      intro i hi hp
      refine evShift ?_
      simp only [guarantee_Validate.l0]
      have e2 : wrap64 ((i : Int) + 1) = ((i + 1 : Nat) : Int) := by rw [wrap64_id (by omega) (by omega)]; omega
      rw [e2]
      refine evPos (by omega) (evPos (by omega) (evPos (by omega) ?_))
      by_cases h0 : 1 ≤ (at_ l i).f0 ∧ (at_ l i).f0 ≤ 1000000
      · refine evBind0 (within_in h0) (evPos rfl ?_)
        by_cases h1 : 0 ≤ (at_ l i).f1 ∧ (at_ l i).f1 ≤ 1000000000000
        · refine evBind0 (within_in h1) (evPos rfl (ih (i + 1) (by omega) (fun j hj => ?_)))
          by_cases hj2 : j < i
          · exact hp j hj2
          · obtain rfl : j = i := by omega
            exact ⟨h0, h1⟩
        · refine evBind0 (within_out h1) (evNeg (by simp) (evNow ?_))
          rw [hbad (fun ha => h1 (ha i (by omega)).2)]
      · refine evBind0 (within_out h0) (evNeg (by simp) (evNow ?_))
        rw [hbad (fun ha => h0 (ha i (by omega)).1)]
  exact key l.length 0 (by omega) (fun j hj => by omega)
theorem validate_ev (a b c : Int) (l : List S39) : Ev (fun k => guarantee_Validate.f k a b c l) (vf a b c l) := by
  have bad : ¬ headOk a b c → Ev (fun k => guarantee_Validate.j0 k true a b c l) (vf a b c l) := fun h => by
    refine evShift ?_
    simp only [guarantee_Validate.j0]
    refine evPos (by simp) (evNow ?_)
    simp [vf, h]
  unfold guarantee_Validate.f
  by_cases h1 : 1 ≤ a ∧ a ≤ 1000000
  case neg => exact evBind0 (within_out h1) (evNeg (by simp) (bad (fun h => h1 h.1)))
  refine evBind0 (within_in h1) (evPos rfl ?_)
  by_cases h2 : 0 ≤ b ∧ b ≤ 1000000000000
  case neg => exact evBind0 (within_out h2) (evNeg (by simp) (bad (fun h => h2 h.2.1)))
  refine evBind0 (within_in h2) (evPos rfl ?_)
  by_cases h3 : 0 ≤ c ∧ c ≤ 1000000
  case neg => exact evBind0 (within_out h3) (bad (fun h => h3 h.2.2))
  refine evBind0 (within_in h3) (evShift ?_)
  have hh : headOk a b c := ⟨h1, h2, h3⟩
  simp only [guarantee_Validate.j0]
  refine evNeg (by simp) (evIf (fun h => evNow ?_) (fun h => ?_))
  · simp [vf, hh, show l.length > 64 by omega]
  · have hl : l.length ≤ 64 := by omega
    have hl' : ¬ l.length > 64 := by omega
    refine val_l0 hl (fun hb => by simp [vf, hh, hl', hb]) (fun ha => val_l1 hl (fun hb => by simp [vf, hh, hl', ha, hb]) (fun hs => ?_))
    refine evBind (sum_ev ha hl) (evIf (fun h => evNow ?_) (fun h => evNow ?_))
    · simp [vf, hh, hl', ha, hs, h]
    · simp [vf, hh, hl', ha, hs, h]
theorem ref_l1 {a b c s R : Int} {l : List S39} (hl : l.length ≤ 64) (hbad : ¬ asc l → R = 9) (hgood : asc l → R = if s > b then 16 else 0) :
    Ev (fun k => customsref21_ValidGuarantee.l1 k s 1 a b c l) R := by
  have key : ∀ (n i : Nat), i + n = max l.length 1 → 1 ≤ i → (∀ j, j + 1 < i → (at_ l j).f0 < (at_ l (j + 1)).f0) → Ev (fun k => customsref21_ValidGuarantee.l1 k s (i : Int) a b c l) R := by
    intro n
    induction n with
    | zero =>
      intro i hi h1 hp
      refine evShift ?_
      simp only [customsref21_ValidGuarantee.l1]
      refine evNeg (by omega) ?_
      rw [hgood (fun j hj => hp j (by omega))]
      exact evIf (fun h => evNow (by rw [if_pos h])) (fun h => evNow (by rw [if_neg h]))
    | succ n ih =>
      intro i hi h1 hp
      refine evShift ?_
      simp only [customsref21_ValidGuarantee.l1]
      have e0 : wrap64 ((i : Int) - 1) = ((i - 1 : Nat) : Int) := by rw [wrap64_id (by omega) (by omega)]; omega
      have e2 : wrap64 ((i : Int) + 1) = ((i + 1 : Nat) : Int) := by rw [wrap64_id (by omega) (by omega)]; omega
      rw [e0, e2]
      refine evPos (by omega) (evPos (by omega) (evPos (by omega) (evPos (by omega) ?_)))
      refine evIf (fun hle => ?_) (fun hgt => ?_)
      · refine evNow ?_
        rw [hbad (fun ha => ?_)]
        have := ha (i - 1) (by omega)
        rw [show i - 1 + 1 = i by omega] at this
        exact absurd hle (by show ¬ (at_ l i).f0 ≤ (at_ l (i - 1)).f0; omega)
      · refine ih (i + 1) (by omega) (by omega) (fun j hj => ?_)
        by_cases hj2 : j + 1 < i
        · exact hp j hj2
        · obtain rfl : j = i - 1 := by omega
          rw [show i - 1 + 1 = i by omega]
          have : ¬ (at_ l i).f0 ≤ (at_ l (i - 1)).f0 := hgt
          omega
  exact key (max l.length 1 - 1) 1 (by omega) (by omega) (fun j hj => by omega)
theorem psum_part {l : List S39} : ∀ i, i ≤ l.length → (∀ j, j < i → okE (at_ l j)) → 0 ≤ psum l i ∧ psum l i ≤ i * 1000000000000
  | 0, _, _ => by simp [psum]
  | i + 1, hi, h => by
    have := psum_part i (by omega) (fun j hj => h j (by omega))
    have h1 := (h i (by omega)).2
    simp only [psum]
    omega
theorem ref_l0 {a b c R : Int} {l : List S39} (hl : l.length ≤ 64) (hbad : ¬ allOk l → R = 2) (hgood : allOk l → Ev (fun k => customsref21_ValidGuarantee.l1 k (tot l) 1 a b c l) R) :
    Ev (fun k => customsref21_ValidGuarantee.l0 k 0 0 a b c l) R := by
  have key : ∀ (n i : Nat), i + n = l.length → (∀ j, j < i → okE (at_ l j)) → Ev (fun k => customsref21_ValidGuarantee.l0 k (psum l i) (i : Int) a b c l) R := by
    intro n
    induction n with
    | zero =>
      intro i hi hp
      refine evShift ?_
      simp only [customsref21_ValidGuarantee.l0]
      obtain rfl : i = l.length := by omega
      exact evNeg (by omega) (hgood (fun j hj => hp j (by omega)))
    | succ n ih =>
      intro i hi hp
      refine evShift ?_
      simp only [customsref21_ValidGuarantee.l0]
      have e2 : wrap64 ((i : Int) + 1) = ((i + 1 : Nat) : Int) := by rw [wrap64_id (by omega) (by omega)]; omega
      rw [e2]
      have hq := psum_part i (by omega) hp
      refine evPos (by omega) (evPos (by omega) ?_)
      show Ev (fun k => if (at_ l i).f0 < 1 then some 2 else (if (at_ l i).f0 > 1000000 then some 2 else (if (at_ l i).f1 < 0 then some 2 else (if (at_ l i).f1 > 1000000000000 then some 2 else customsref21_ValidGuarantee.l0 k (wrap64 (psum l i + (at_ l i).f1)) ((i + 1 : Nat) : Int) a b c l)))) R
      refine evIf (fun h => evNow ?_) (fun h1 => evIf (fun h => evNow ?_) (fun h2 => evIf (fun h => evNow ?_) (fun h3 => evIf (fun h => evNow ?_) (fun h4 => ?_))))
      · rw [hbad (fun ha => by have := (ha i (by omega)).1; omega)]
      · rw [hbad (fun ha => by have := (ha i (by omega)).1; omega)]
      · rw [hbad (fun ha => by have := (ha i (by omega)).2; omega)]
      · rw [hbad (fun ha => by have := (ha i (by omega)).2; omega)]
      · rw [wrap64_id (by omega) (by omega)]
        refine ih (i + 1) (by omega) (fun j hj => ?_)
        by_cases hj2 : j < i
        · exact hp j hj2
        · obtain rfl : j = i := by omega
          exact ⟨by omega, by omega⟩
  exact key l.length 0 (by omega) (fun j hj => by omega)
theorem refvalid_ev (a b c : Int) (l : List S39) : Ev (fun k => customsref21_ValidGuarantee.f k a b c l) (vf a b c l) := by
  have bad : ¬ headOk a b c → Ev (fun k => customsref21_ValidGuarantee.j0 k true a b c l) (vf a b c l) := fun h => by
    refine evShift ?_
    simp only [customsref21_ValidGuarantee.j0]
    refine evPos (by simp) (evNow ?_)
    simp [vf, h]
  unfold customsref21_ValidGuarantee.f
  refine evIf (fun h => bad (fun g => by have := g.1; omega)) (fun h1 => evIf (fun h => bad (fun g => by have := g.1; omega)) (fun h2 => evIf (fun h => bad (fun g => by have := g.2.1; omega)) (fun h3 => evIf (fun h => bad (fun g => by have := g.2.1; omega)) (fun h4 => evIf (fun h => bad (fun g => by have := g.2.2; omega)) (fun h5 => ?_)))))
  by_cases h6 : c > 1000000
  · rw [decide_eq_true h6]
    exact bad (fun g => by have := g.2.2; omega)
  · rw [decide_eq_false h6]
    refine evShift ?_
    have hh : headOk a b c := ⟨by omega, by omega, by omega⟩
    simp only [customsref21_ValidGuarantee.j0]
    refine evNeg (by simp) (evIf (fun h => evNow ?_) (fun h => ?_))
    · simp [vf, hh, show l.length > 64 by omega]
    · have hl : l.length ≤ 64 := by omega
      have hl' : ¬ l.length > 64 := by omega
      refine ref_l0 hl (fun hb => by simp [vf, hh, hl', hb]) (fun ha => ref_l1 hl (fun hb => by simp [vf, hh, hl', ha, hb]) (fun hs => ?_))
      simp [vf, hh, hl', ha, hs]
/-- The sum of a valid guarantee's reservations; 0 of another one. -/
noncomputable def tf (a b c : Int) (l : List S39) : Int := if vf a b c l = 0 then tot l else 0
theorem total_ev (a b c : Int) (l : List S39) : Ev (fun k => guarantee_Total.f k a b c l) (tf a b c l) := by
  unfold guarantee_Total.f
  refine evBind (validate_ev a b c l) (evIf (fun h => ?_) (fun h => evNow ?_))
  · have hv := vf_zero.1 h
    refine evBind (sum_ev hv.2.2.1 hv.2.1) (evNow ?_)
    simp [tf, h]
  · simp [tf, h]
theorem reftotal_ev (a b c : Int) (l : List S39) : Ev (fun k => customsref21_Total.f k a b c l) (tf a b c l) := by
  unfold customsref21_Total.f
  refine evBind (refvalid_ev a b c l) (evIf (fun h => ?_) (fun h => evNow ?_))
  · have hv := vf_zero.1 h
    have hl := hv.2.1
    have key : ∀ (n i : Nat), i + n = l.length → Ev (fun k => customsref21_Total.l0 k (psum l i) (i : Int) a b c l) (tf a b c l) := by
      intro n
      induction n with
      | zero =>
        intro i hi
        refine evShift ?_
        simp only [customsref21_Total.l0]
        refine evNeg (by omega) (evNow ?_)
        obtain rfl : i = l.length := by omega
        simp [tf, h, tot]
      | succ n ih =>
        intro i hi
        refine evShift ?_
        simp only [customsref21_Total.l0]
        refine evPos (by omega) (evPos (by omega) ?_)
        have h0 := psum_range hv.2.2.1 i (by omega)
        have h1 := (hv.2.2.1 i (by omega)).2
        have e1 : wrap64 (psum l i + (rd_T39 l (i : Int)).f1) = psum l (i + 1) := by
          have : (rd_T39 l (i : Int)).f1 = (at_ l i).f1 := rfl
          rw [this, wrap64_id (by omega) (by omega)]; rfl
        have e2 : wrap64 ((i : Int) + 1) = ((i + 1 : Nat) : Int) := by rw [wrap64_id (by omega) (by omega)]; omega
        rw [e1, e2]
        exact ih (i + 1) (by omega)
    exact key l.length 0 (by omega)
  · simp [tf, h]
end Go.Proofs.Ytakhjhiofmgpnaa.E
/- The guarantees that are made of numbers: each is valid; its movements are small. -/
namespace Go.Proofs.Ytakhjhiofmgpnaa.E
set_option linter.unusedVariables false
set_option linter.unusedSimpArgs false
open Go.RowKit Go.Proofs.YtakhjhiofmgpnaaW.PrintWords Go.Proofs.YtakhjhiofmgpnaaW.PrintLast Go.Proofs.YtakhjhiofmgpnaaW.PrintMore Go.Proofs.Ytakhjhiofmgpnaa.G Go.Proofs.Ytakhjhiofmgpnaa.PA Go.Proofs.Ytakhjhiofmgpnaa.PB
theorem next_some (s : List Int) (hs : s.length ≤ 1000) (i n : Int) (i0 : 0 ≤ i) (i1 : i ≤ s.length) (hn : 0 < n) (hb : n ≤ 4611686018427387904) :
    ∃ r j, customsmade_Source_Next.f s i n = some (r, j) ∧ 0 ≤ r ∧ r < n ∧ 0 ≤ j ∧ j ≤ s.length := by
  unfold customsmade_Source_Next.f
  by_cases h : i ≥ (s.length : Int)
  · exact ⟨0, i, by rw [if_pos h], by omega, by omega, i0, i1⟩
  · have e1 : wrap64 (i + 1) = i + 1 := wrap64_id (by omega) (by omega)
    have e2 : wrap64 (i + 1 - 1) = i := by rw [wrap64_id (by omega) (by omega)]; omega
    rw [if_neg h, e1, e2, if_pos i0, if_pos (by omega)]
    obtain ⟨r, h1, h2, h3⟩ := within_some (rd s i) n hn hb
    exact ⟨r, i + 1, by rw [h1]; rfl, h2, h3, by omega, by omega⟩
theorem small_some (s : List Int) (hs : s.length ≤ 1000) (i a b : Int) (i0 : 0 ≤ i) (i1 : i ≤ s.length) (ha : 0 < a) (hab : a ≤ b) (hb : b ≤ 4611686018427387904) :
    ∃ r j, customsmade_Small.f s i a b = some (r, j) ∧ 0 ≤ r ∧ r < b ∧ 0 ≤ j ∧ j ≤ s.length := by
  unfold customsmade_Small.f
  obtain ⟨r, j, h1, h2, h3, h4, h5⟩ := next_some s hs i 5 i0 i1 (by omega) (by omega)
  rw [h1]
  show ∃ r' j', (if r = 4 then _ else _) = _ ∧ _
  by_cases h : r = 4
  · rw [if_pos h]
    obtain ⟨r2, j2, g1, g2, g3, g4, g5⟩ := next_some s hs j b h4 h5 (by omega) hb
    exact ⟨r2, j2, by rw [g1]; rfl, g2, g3, g4, g5⟩
  · rw [if_neg h]
    obtain ⟨r2, j2, g1, g2, g3, g4, g5⟩ := next_some s hs j a h4 h5 ha (by omega)
    exact ⟨r2, j2, by rw [g1]; rfl, g2, by omega, g4, g5⟩
theorem at_old {u : List S39} {v : S39} {j : Nat} (h : j < u.length) : at_ (u ++ [v]) j = at_ u j := by
  unfold at_ rd_T39
  simp [List.getD_eq_getElem?_getD, List.getElem?_append_left h]
theorem at_new {u : List S39} {v : S39} : at_ (u ++ [v]) u.length = v := by
  unfold at_ rd_T39
  simp [List.getD_eq_getElem?_getD]
theorem psum_old {u : List S39} {v : S39} : ∀ j, j ≤ u.length → psum (u ++ [v]) j = psum u j
  | 0, _ => rfl
  | j + 1, h => by rw [psum, psum, psum_old j (by omega), at_old (by omega)]
theorem tot_snoc {u : List S39} {v : S39} : tot (u ++ [v]) = tot u + v.f1 := by
  unfold tot
  rw [List.length_append, List.length_singleton, psum, psum_old _ (Nat.le_refl _), at_new]
/-- What holds of a guarantee that is made: it is valid, its movements and amounts are small. -/
structure Made (a b c : Int) (u : List S39) : Prop where
  id : 1 ≤ a ∧ a ≤ 9
  ref : tot u ≤ b ∧ b ≤ tot u + 1000000
  level : 0 ≤ c ∧ c ≤ 1000000
  len : u.length ≤ 10
  small : ∀ j, j < u.length → 1 ≤ (at_ u j).f0 ∧ (at_ u j).f0 ≤ 20 ∧ 0 ≤ (at_ u j).f1 ∧ (at_ u j).f1 < 10000
  asc : asc u
theorem small_tot {u : List S39} (h : ∀ j, j < u.length → 0 ≤ (at_ u j).f1 ∧ (at_ u j).f1 < 10000) : ∀ j, j ≤ u.length → 0 ≤ psum u j ∧ psum u j ≤ j * 10000
  | 0, _ => by simp [psum]
  | j + 1, hj => by
    have := small_tot h j (by omega)
    have h1 := h j (by omega)
    simp only [psum]
    omega
theorem Made.tot_range {a b c : Int} {u : List S39} (h : Made a b c u) : 0 ≤ tot u ∧ tot u ≤ 100000 := by
  have := small_tot (fun j hj => (h.small j hj).2.2) u.length (Nat.le_refl _)
  have := h.len
  unfold tot
  omega
theorem Made.ok {a b c : Int} {u : List S39} (h : Made a b c u) : allOk u := fun j hj => by
  have := h.small j hj
  exact ⟨by omega, by omega⟩
theorem Made.valid {a b c : Int} {u : List S39} (h : Made a b c u) : vf a b c u = 0 := by
  have h1 := h.tot_range
  have h2 := h.ref
  have h3 := h.id
  have h4 := h.len
  exact vf_zero.2 ⟨⟨by omega, by omega, h.level⟩, by omega, h.ok, h.asc, h2.1⟩
theorem made_loop (s : List Int) (hs : s.length ≤ 1000) (a c : Int) (ha : 1 ≤ a ∧ a ≤ 9) (hc : 0 ≤ c ∧ c ≤ 1000000) :
    ∀ (n : Nat) (x i : Int) (u : List S39), u.length + n = 10 → 0 ≤ i → i ≤ s.length → 0 ≤ x → x ≤ 2 * (u.length : Int) → (∀ j, j < u.length → 1 ≤ (at_ u j).f0 ∧ (at_ u j).f0 ≤ x ∧ 0 ≤ (at_ u j).f1 ∧ (at_ u j).f1 < 10000) → E.asc u →
      ∃ b v, Ev (fun k => customsmade_Guarantee.l0 k x s i a (tot u) c u) (a, b, c, v) ∧ Made a b c v := by
  have fin : ∀ (x i : Int) (u : List S39), u.length ≤ 10 → 0 ≤ i → i ≤ s.length → 0 ≤ x → x ≤ 2 * (u.length : Int) → (∀ j, j < u.length → 1 ≤ (at_ u j).f0 ∧ (at_ u j).f0 ≤ x ∧ 0 ≤ (at_ u j).f1 ∧ (at_ u j).f1 < 10000) → E.asc u →
      ∃ b v, Ev (fun k => customsmade_Guarantee.j1 k x false s i a (tot u) c u) (a, b, c, v) ∧ Made a b c v := by
    intro x i u hu i0 i1 x0 x1 hsm has
    obtain ⟨r, j, h1, h2, h3, _, _⟩ := small_some s hs i 100 1000000 i0 i1 (by omega) (by omega) (by omega)
    have ht := small_tot (fun j hj => (hsm j hj).2.2) u.length (Nat.le_refl _)
    have ht2 : tot u = psum u u.length := rfl
    refine ⟨tot u + r, u, ?_, ⟨ha, by omega, hc, hu, fun j hj => by have := hsm j hj; omega, has⟩⟩
    refine evShift ?_
    simp only [customsmade_Guarantee.j1]
    refine evNeg (by simp) (evBind0 h1 (evNow ?_))
    show some (a, wrap64 (tot u + r), c, u) = _
    rw [wrap64_id (by omega) (by omega)]
  intro n
  induction n with
  | zero =>
    intro x i u hu i0 i1 x0 x1 hsm has
    obtain ⟨b, v, h1, h2⟩ := fin x i u (by omega) i0 i1 x0 x1 hsm has
    refine ⟨b, v, evShift ?_, h2⟩
    simp only [customsmade_Guarantee.l0]
    refine evBind0 rfl (evIf (fun h => ?_) (fun h => h1))
    show Ev (fun k => customsmade_Guarantee.j1 k x (decide ((u.length : Int) < 10)) s i a (tot u) c u) _
    rw [decide_eq_false (by omega)]
    exact h1
  | succ n ih =>
    intro x i u hu i0 i1 x0 x1 hsm has
    by_cases hl : i < (s.length : Int)
    · obtain ⟨r1, j1, g1, g2, g3, g4, g5⟩ := next_some s hs i 2 i0 i1 (by omega) (by omega)
      obtain ⟨r2, j2, q1, q2, q3, q4, q5⟩ := small_some s hs j1 60 10000 g4 g5 (by omega) (by omega) (by omega)
      have ht := small_tot (fun j hj => (hsm j hj).2.2) u.length (Nat.le_refl _)
      have ht2 : tot u = psum u u.length := rfl
      have hle : (u ++ [(⟨x + 1 + r1, r2⟩ : S39)]).length = u.length + 1 := by simp
      obtain ⟨b, v, h1, h2⟩ := ih (x + 1 + r1) j2 (u ++ [⟨x + 1 + r1, r2⟩]) (by omega) q4 q5 (by omega) (by rw [hle]; omega)
        (fun j hj => by
          by_cases hj2 : j < u.length
          · rw [at_old hj2]; have := hsm j hj2; omega
          · obtain rfl : j = u.length := by omega
            rw [at_new]
            exact ⟨by show 1 ≤ x + 1 + r1; omega, Int.le_refl _, q2, q3⟩)
        (fun j hj => by
          by_cases hj2 : j + 1 < u.length
          · rw [at_old (by omega), at_old hj2]; exact has j hj2
          · have : j + 1 = u.length := by omega
            rw [this, at_new, at_old (by omega)]
            have := hsm j (by omega)
            show (at_ u j).f0 < x + 1 + r1
            omega)
      refine ⟨b, v, evShift ?_, h2⟩
      simp only [customsmade_Guarantee.l0]
      refine evBind0 rfl (evPos (decide_eq_true hl) ?_)
      show Ev (fun k => customsmade_Guarantee.j1 k x (decide ((u.length : Int) < 10)) s i a (tot u) c u) _
      rw [decide_eq_true (by omega)]
      refine evShift ?_
      simp only [customsmade_Guarantee.j1]
      refine evPos (by simp) (evBind0 g1 (evBind0 q1 (evPos (by omega) ?_)))
      show Ev (fun k => customsmade_Guarantee.l0 k (wrap64 (wrap64 (x + 1) + r1)) s j2 a (wrap64 (tot u + r2)) c (u ++ [⟨wrap64 (wrap64 (x + 1) + r1), r2⟩])) _
      rw [wrap64_id (x := x + 1) (by omega) (by omega), wrap64_id (x := x + 1 + r1) (by omega) (by omega), wrap64_id (x := tot u + r2) (by omega) (by omega)]
      rw [tot_snoc] at h1
      exact h1
    · obtain ⟨b, v, h1, h2⟩ := fin x i u (by omega) i0 i1 x0 x1 hsm has
      refine ⟨b, v, evShift ?_, h2⟩
      simp only [customsmade_Guarantee.l0]
      exact evBind0 rfl (evNeg (by simpa using hl) h1)
theorem made_ev (l : List Int) : ∃ a b c u, Ev (fun k => customsmade_Guarantee.f k l) (a, b, c, u) ∧ Made a b c u := by
  obtain ⟨s, h1, hs⟩ : ∃ s, customsmade_Cut.f l 40 = some s ∧ s.length ≤ 1000 := by
    unfold customsmade_Cut.f
    by_cases h : (l.length : Int) > 40
    · exact ⟨l.take 40, by rw [if_pos h, if_pos (by omega)]; rfl, by rw [List.length_take]; omega⟩
    · exact ⟨l, by rw [if_neg h], by omega⟩
  obtain ⟨r1, j1, g1, g2, g3, g4, g5⟩ := next_some s hs 0 9 (by omega) (by omega) (by omega) (by omega)
  obtain ⟨r2, j2, q1, q2, q3, q4, q5⟩ := next_some s hs j1 5 g4 g5 (by omega) (by omega)
  have hc : 0 ≤ rd [0, 300000, 500000, 999999, 1000000] r2 ∧ rd [0, 300000, 500000, 999999, 1000000] r2 ≤ 1000000 := by
    have : r2 = 0 ∨ r2 = 1 ∨ r2 = 2 ∨ r2 = 3 ∨ r2 = 4 := by omega
    rcases this with rfl | rfl | rfl | rfl | rfl <;> decide
  obtain ⟨b, v, h2, h3⟩ := made_loop s hs (1 + r1) (rd [0, 300000, 500000, 999999, 1000000] r2) (by omega) hc 10 0 j2 [] (by simp) q4 q5 (by omega) (by simp) (fun j hj => by simp at hj) (fun j hj => by simp at hj)
  refine ⟨_, b, _, v, ?_, h3⟩
  unfold customsmade_Guarantee.f
  refine evBind0 h1 (evBind0 g1 (evBind0 rfl (evBind0 q1 (evPos q2 (evPos (by show r2 < ((5 : Nat) : Int); omega) ?_)))))
  show Ev (fun k => customsmade_Guarantee.l0 k 0 s j2 (wrap64 (1 + r1)) 0 _ []) _
  rw [wrap64_id (x := 1 + r1) (by omega) (by omega)]
  exact h2
end Go.Proofs.Ytakhjhiofmgpnaa.E
/- The search, and two lists that are the same, in plain Lean. -/
namespace Go.Proofs.Ytakhjhiofmgpnaa.E
set_option linter.unusedVariables false
set_option linter.unusedSimpArgs false
open Go.RowKit Go.Proofs.YtakhjhiofmgpnaaW.PrintWords Go.Proofs.YtakhjhiofmgpnaaW.PrintLast Go.Proofs.YtakhjhiofmgpnaaW.PrintMore Go.Proofs.Ytakhjhiofmgpnaa.G Go.Proofs.Ytakhjhiofmgpnaa.PA Go.Proofs.Ytakhjhiofmgpnaa.PB
theorem asc_le {l : List S39} (h : asc l) {i j : Nat} (hij : i ≤ j) (hj : j < l.length) : (at_ l i).f0 ≤ (at_ l j).f0 := by
  induction j with
  | zero => obtain rfl : i = 0 := by omega
            exact Int.le_refl _
  | succ j ih =>
    by_cases he : i = j + 1
    · subst he; exact Int.le_refl _
    · have := ih (by omega) (by omega)
      have := h j hj
      omega
theorem bsi_spec {l : List S39} (ha : asc l) (ho : allOk l) (m : Int) (hm : -4611686018427387904 ≤ m ∧ m ≤ 4611686018427387904) :
    ∀ (k i j : Nat), i ≤ j → j ≤ l.length → j - i ≤ k → (∀ t, t < i → (at_ l t).f0 < m) → (∀ t, j ≤ t → t < l.length → m ≤ (at_ l t).f0) →
      (∀ t, t < bsi l m k i j → (at_ l t).f0 < m) ∧ (∀ t, bsi l m k i j ≤ t → t < l.length → m ≤ (at_ l t).f0) ∧ bsi l m k i j ≤ l.length := by
  intro k
  induction k with
  | zero =>
    intro i j hij hj hk h1 h2
    obtain rfl : i = j := by omega
    exact ⟨h1, h2, hj⟩
  | succ k ih =>
    intro i j hij hj hk h1 h2
    rw [bsi]
    by_cases hlt : i < j
    · rw [if_pos hlt]
      have hb := (ho ((i + j) / 2) (by omega)).1
      show _ ∧ _ ∧ _
      have e : wrap64 ((rd_T39 l (((i + j) / 2 : Nat) : Int)).f0 - m) = (at_ l ((i + j) / 2)).f0 - m := wrap64_id (by show _ ≤ (at_ l ((i + j) / 2)).f0 - m; omega) (by show (at_ l ((i + j) / 2)).f0 - m ≤ _; omega)
      rw [e]
      by_cases hc : (at_ l ((i + j) / 2)).f0 - m < 0
      · rw [if_pos hc]
        exact ih _ _ (by omega) hj (by omega) (fun t ht => by have := asc_le ha (show t ≤ (i + j) / 2 by omega) (by omega); omega) h2
      · rw [if_neg hc]
        exact ih _ _ (by omega) (by omega) (by omega) h1 (fun t ht ht2 => by have := asc_le ha (show (i + j) / 2 ≤ t by omega) ht2; omega)
    · rw [if_neg hlt]
      obtain rfl : i = j := by omega
      exact ⟨h1, h2, hj⟩
theorem find_at {l : List S39} (ha : asc l) (ho : allOk l) (hl : l.length ≤ 100) (m : Int) (hm : -4611686018427387904 ≤ m ∧ m ≤ 4611686018427387904) :
    ∃ p : Nat, guarantee_find.f l m = some ((p : Int), decide (p < l.length) && decide ((at_ l p).f0 = m)) ∧ p ≤ l.length ∧ (∀ t, t < p → (at_ l t).f0 < m) ∧ (∀ t, p ≤ t → t < l.length → m ≤ (at_ l t).f0) := by
  obtain ⟨h1, h2, h3⟩ := bsi_spec ha ho m hm l.length 0 l.length (by omega) (by omega) (by omega) (fun t ht => by omega) (fun t ht h => by omega)
  refine ⟨bsi l m l.length 0 l.length, ?_, h3, h1, h2⟩
  unfold guarantee_find.f
  rw [if_pos (by omega)]
  congr 2
  generalize bsi l m l.length 0 l.length = p at h1 h2 h3
  by_cases hp : p < l.length
  · have hb := (ho p hp).1
    have e : wrap64 ((rd_T39 l (p : Int)).f0 - m) = (at_ l p).f0 - m := wrap64_id (by show _ ≤ (at_ l p).f0 - m; omega) (by show (at_ l p).f0 - m ≤ _; omega)
    rw [e]
    congr 1
    rw [decide_eq_decide]
    omega
  · simp [hp]
theorem same_ev (l : List S39) (hl : l.length ≤ 100) : Ev (fun k => customsref21_SameReservations.f k l l) true := by
  unfold customsref21_SameReservations.f
  refine evPos rfl ?_
  have key : ∀ (n i : Nat), i + n = l.length → Ev (fun k => customsref21_SameReservations.l0 k l l (i : Int)) true := by
    intro n
    induction n with
    | zero =>
      intro i hi
      refine evShift ?_
      simp only [customsref21_SameReservations.l0]
      exact evNeg (by omega) (evNow rfl)
    | succ n ih =>
      intro i hi
      refine evShift ?_
      simp only [customsref21_SameReservations.l0]
      have e2 : wrap64 ((i : Int) + 1) = ((i + 1 : Nat) : Int) := by rw [wrap64_id (by omega) (by omega)]; omega
      rw [e2]
      exact evPos (by omega) (evPos (by omega) (evPos (by omega) (evNeg (by simp) (ih (i + 1) (by omega)))))
  exact key l.length 0 (by omega)
theorem sameg_ev (a b c : Int) (l : List S39) (hl : l.length ≤ 100) : Ev (fun k => customsref21_SameGuarantee.f k a b c l a b c l) true := by
  unfold customsref21_SameGuarantee.f
  exact evPos rfl (evPos rfl (evPos rfl (evBind (same_ev l hl) (evNow rfl))))
end Go.Proofs.Ytakhjhiofmgpnaa.E
/- Set on a valid guarantee, in plain Lean; the law GuaranteeRefused. -/
namespace Go.Proofs.Ytakhjhiofmgpnaa.E
set_option linter.unusedVariables false
set_option linter.unusedSimpArgs false
open Go.RowKit Go.Proofs.YtakhjhiofmgpnaaW.PrintWords Go.Proofs.YtakhjhiofmgpnaaW.PrintLast Go.Proofs.YtakhjhiofmgpnaaW.PrintMore Go.Proofs.Ytakhjhiofmgpnaa.G Go.Proofs.Ytakhjhiofmgpnaa.PA Go.Proofs.Ytakhjhiofmgpnaa.PB
/-- The list with one reservation in the place of those from p up to q. -/
def put (u : List S39) (p q : Nat) (x : S39) : List S39 := u.take p ++ x :: u.drop q
theorem at_get {u : List S39} {j : Nat} (h : j < u.length) : at_ u j = u[j] := by
  unfold at_ rd_T39
  simp [List.getD_eq_getElem?_getD, h]
theorem put_len {u : List S39} {p q : Nat} {x : S39} (hp : p ≤ u.length) (hq : q ≤ u.length) : (put u p q x).length = p + 1 + (u.length - q) := by
  unfold put; simp; omega
theorem put_lo {u : List S39} {p q : Nat} {x : S39} (hp : p ≤ u.length) {j : Nat} (h : j < p) : at_ (put u p q x) j = at_ u j := by
  unfold at_ rd_T39 put
  simp only [List.getD_eq_getElem?_getD, Int.toNat_natCast]
  rw [List.getElem?_append_left (by simp; omega), List.getElem?_take, if_pos h]
theorem put_mid {u : List S39} {p q : Nat} {x : S39} (hp : p ≤ u.length) : at_ (put u p q x) p = x := by
  unfold at_ rd_T39 put
  simp only [List.getD_eq_getElem?_getD, Int.toNat_natCast]
  rw [List.getElem?_append_right (by simp; omega)]
  simp [Nat.min_eq_left hp]
theorem put_hi {u : List S39} {p q : Nat} {x : S39} (hp : p ≤ u.length) (d : Nat) : at_ (put u p q x) (p + 1 + d) = at_ u (q + d) := by
  unfold at_ rd_T39 put
  simp only [List.getD_eq_getElem?_getD, Int.toNat_natCast]
  rw [List.getElem?_append_right (by simp; omega)]
  have : p + 1 + d - (u.take p).length = d + 1 := by simp; omega
  rw [this, List.getElem?_cons_succ, List.getElem?_drop]
/-- The sum of the amounts of all movements but one, up to a place. -/
def oth (u : List S39) (m : Int) : Nat → Int
  | 0 => 0
  | i + 1 => if (at_ u i).f0 = m then oth u m i else oth u m i + (at_ u i).f1
theorem oth_range {u : List S39} (h : allOk u) (m : Int) : ∀ i, i ≤ u.length → 0 ≤ oth u m i ∧ oth u m i ≤ i * 1000000000000
  | 0, _ => by simp [oth]
  | i + 1, hi => by
    have := oth_range h m i (by omega)
    have h1 := (h i (by omega)).2
    simp only [oth]
    split <;> omega
theorem oth_all {u : List S39} {m : Int} : ∀ i, (∀ j, j < i → (at_ u j).f0 ≠ m) → oth u m i = psum u i
  | 0, _ => rfl
  | i + 1, h => by rw [oth, psum, if_neg (h i (by omega)), oth_all i (fun j hj => h j (by omega))]
/-- Where a movement stands, or would stand. -/
structure Place (u : List S39) (m : Int) (p q : Nat) : Prop where
  le : p ≤ u.length
  qle : q ≤ u.length
  pq : (q = p ∧ ∀ j, j < u.length → (at_ u j).f0 ≠ m) ∨ (q = p + 1 ∧ (at_ u p).f0 = m)
  lo : ∀ j, j < p → (at_ u j).f0 < m
  hi : ∀ j, q ≤ j → j < u.length → m < (at_ u j).f0
theorem psum_split {u : List S39} {m : Int} {p q : Nat} (h : Place u m p q) {n : Int} : ∀ d, q + d ≤ u.length → psum (put u p q ⟨m, n⟩) (p + 1 + d) = oth u m (q + d) + n
  | 0, hd => by
    have h1 : ∀ i, i ≤ p → psum (put u p q ⟨m, n⟩) i = psum u i := by
      intro i
      induction i with
      | zero => intro _; rfl
      | succ i ih => intro hi; rw [psum, psum, ih (by omega), put_lo h.le (by omega)]
    show psum (put u p q ⟨m, n⟩) (p + 1) = oth u m q + n
    rw [psum, h1 p (Nat.le_refl _), put_mid h.le]
    have h2 : oth u m p = psum u p := oth_all p (fun j hj => by have := h.lo j hj; omega)
    rcases h.pq with ⟨rfl, _⟩ | ⟨rfl, hm⟩
    · rw [h2]
    · rw [oth, if_pos hm, h2]
  | d + 1, hd => by
    show psum (put u p q ⟨m, n⟩) (p + 1 + d + 1) = oth u m (q + d + 1) + n
    rw [psum, psum_split h d (by omega), put_hi h.le, oth, if_neg (by have := h.hi (q + d) (by omega) (by omega); omega)]
    omega
theorem put_tot {u : List S39} {m : Int} {p q : Nat} (h : Place u m p q) {n : Int} : tot (put u p q ⟨m, n⟩) = oth u m u.length + n := by
  have := psum_split h (n := n) (u.length - q) (by have := h.qle; omega)
  rw [show q + (u.length - q) = u.length by have := h.qle; omega] at this
  rw [tot, put_len h.le h.qle]
  exact this
theorem put_ok {u : List S39} {m n : Int} {p q : Nat} (h : Place u m p q) (ho : allOk u) (hm : 1 ≤ m ∧ m ≤ 1000000) (hn : 0 ≤ n ∧ n ≤ 1000000000000) : allOk (put u p q ⟨m, n⟩) := fun j hj => by
  rw [put_len h.le h.qle] at hj
  rcases Nat.lt_trichotomy j p with h1 | h1 | h1
  · rw [put_lo h.le h1]; exact ho j (by have := h.le; omega)
  · subst h1; rw [put_mid h.le]; exact ⟨hm, hn⟩
  · obtain ⟨d, rfl⟩ : ∃ d, j = p + 1 + d := ⟨j - (p + 1), by omega⟩
    rw [put_hi h.le]; exact ho _ (by omega)
theorem put_asc {u : List S39} {m n : Int} {p q : Nat} (h : Place u m p q) (ha : asc u) : asc (put u p q ⟨m, n⟩) := fun j hj => by
  rw [put_len h.le h.qle] at hj
  rcases Nat.lt_trichotomy (j + 1) p with h1 | h1 | h1
  · rw [put_lo h.le (by omega), put_lo h.le h1]; exact ha j (by have := h.le; omega)
  · have e : at_ (put u p q ⟨m, n⟩) (j + 1) = ⟨m, n⟩ := by rw [h1]; exact put_mid h.le
    rw [put_lo h.le (by omega), e]; exact h.lo j (by omega)
  · by_cases h2 : j = p
    · subst h2
      have e : at_ (put u j q ⟨m, n⟩) (j + 1) = at_ u q := put_hi h.le 0
      rw [put_mid h.le, e]; exact h.hi q (Nat.le_refl _) (by omega)
    · obtain ⟨d, rfl⟩ : ∃ d, j = p + 1 + d := ⟨j - (p + 1), by omega⟩
      rw [put_hi h.le, show p + 1 + d + 1 = p + 1 + (d + 1) by omega, put_hi h.le]
      exact ha (q + d) (by omega)
theorem find_place {l : List S39} (ha : asc l) (ho : allOk l) (hl : l.length ≤ 100) (m : Int) (hm : -4611686018427387904 ≤ m ∧ m ≤ 4611686018427387904) :
    ∃ p q : Nat, Place l m p q ∧ guarantee_find.f l m = some ((p : Int), decide (q = p + 1)) := by
  obtain ⟨p, hf, hp, h1, h2⟩ := find_at ha ho hl m hm
  by_cases h : p < l.length ∧ (at_ l p).f0 = m
  · refine ⟨p, p + 1, ⟨hp, by omega, .inr ⟨rfl, h.2⟩, h1, fun j hj hjl => ?_⟩, by rw [hf]; simp [h.1, h.2]⟩
    have := asc_le ha (show p + 1 ≤ j by omega) hjl
    have := ha p (by omega)
    omega
  · refine ⟨p, p, ⟨hp, hp, .inl ⟨rfl, fun j hj => ?_⟩, h1, fun j hj hjl => ?_⟩, by rw [hf]; simp; intro h3 h4; exact h ⟨h3, h4⟩⟩
    · by_cases hjp : j < p
      · have := h1 j hjp; omega
      · intro he
        have hpl : p < l.length := by omega
        have h5 := h2 p (Nat.le_refl _) hpl
        have h6 := asc_le ha (show p ≤ j by omega) hj
        exact h ⟨hpl, by omega⟩
    · have h5 := h2 p (Nat.le_refl _) (by omega)
      have h6 := asc_le ha hj hjl
      have : (at_ l p).f0 ≠ m := fun e => h ⟨by omega, e⟩
      omega
end Go.Proofs.Ytakhjhiofmgpnaa.E
-- Written by a program of this claim (wip/tools: mkprint.py, pr.sh) out of the translation: plain functions and their contracts. Lean checks every line.
namespace Go.Proofs.Ytakhjhiofmgpnaa.PA
open Go.RowKit Go.Proofs.YtakhjhiofmgpnaaW.PrintWords Go.Proofs.YtakhjhiofmgpnaaW.PrintLast Go.Proofs.YtakhjhiofmgpnaaW.PrintMore Go.Proofs.Ytakhjhiofmgpnaa.G
attribute [local go_sem] max2_int min2_int max_two min_two max_three min_three max_four min_four   -- for this text's walks alone
set_option linter.unusedVariables false
set_option linter.unusedSimpArgs false
def customsref21_Insert.l0 : Nat → List (S39) → Int → Int → Int → Option ((List (S39)))
 | 0, _, _, _, _ => none
 | k + 1, x0, x5, x213000, x213001 => if x5 < (x0.length : Int) then (if 0 ≤ x5 then (if ((rd_T39 x0 x5).f0) < x213000 then (customsref21_Insert.l0 k x0 (wrap64 (x5 + 1)) x213000 x213001) else ((some (([] : List (S39)) : List (S39))).bind fun y214 => (if x5 ≤ (x0.length : Int) then ((some (x0.take (x5 : Int).toNat : List (S39))).bind fun y217 => (if y214.length + y217.length < 8796093022208 then ((some (y214 ++ y217 : List (S39))).bind fun y221 => ((some (([(⟨x213000, x213001⟩ : S39)] : List (S39)) : List (S39))).bind fun y224 => (if y221.length + y224.length < 8796093022208 then ((some (y221 ++ y224 : List (S39))).bind fun y227 => ((some (x0.drop (x5 : Int).toNat : List (S39))).bind fun y230 => (if y227.length + y230.length < 8796093022208 then (some (y227 ++ y230)) else (none)))) else (none)))) else (none))) else (none)))) else (none)) else ((some (([] : List (S39)) : List (S39))).bind fun y237 => (if 0 ≤ x5 then (if x5 ≤ (x0.length : Int) then ((some (x0.take (x5 : Int).toNat : List (S39))).bind fun y240 => (if y237.length + y240.length < 8796093022208 then ((some (y237 ++ y240 : List (S39))).bind fun y244 => ((some (([(⟨x213000, x213001⟩ : S39)] : List (S39)) : List (S39))).bind fun y247 => (if y244.length + y247.length < 8796093022208 then ((some (y244 ++ y247 : List (S39))).bind fun y250 => ((some (x0.drop (x5 : Int).toNat : List (S39))).bind fun y253 => (if y250.length + y253.length < 8796093022208 then (some (y250 ++ y253)) else (none)))) else (none)))) else (none))) else (none)) else (none)))
def customsref21_Insert.f (k : Nat) (l0 : List (S39)) (a1_0 : Int) (a1_1 : Int) : Option ((List (S39))) := customsref21_Insert.l0 k l0 0 a1_0 a1_1
end Go.Proofs.Ytakhjhiofmgpnaa.PA
-- Written by a program of this claim (wip/tools: mkprint.py, pr.sh) out of the translation: plain functions and their contracts. Lean checks every line.
namespace Go.Proofs.Ytakhjhiofmgpnaa.PA
open Go.RowKit Go.Proofs.YtakhjhiofmgpnaaW.PrintWords Go.Proofs.YtakhjhiofmgpnaaW.PrintLast Go.Proofs.YtakhjhiofmgpnaaW.PrintMore Go.Proofs.Ytakhjhiofmgpnaa.G
attribute [local go_sem] max2_int min2_int max_two min_two max_three min_three max_four min_four   -- for this text's walks alone
set_option linter.unusedVariables false
set_option linter.unusedSimpArgs false
mutual
def customsref21_Set.j0 : Nat → Int → Int → Bool → Int → Int → Int → List (S39) → Option (Int × Int × Int × (List (S39)) × Int)
 | 0, _, _, _, _, _, _, _ => none
 | k + 1, x1, x2, x32, x261000, x261001, x261002, x261003 => if x32 = true then (some (0, 0, 0, ([] : List (S39)), 2)) else ((customsref21_without.f k x261003 x1).bind fun bt263 => (if bt263.2 < 0 then (customsref21_Set.j1 k x1 x2 bt263.1 (decide ((x261003.length : Int) ≥ 64)) x261000 x261001 x261002 x261003) else (customsref21_Set.j1 k x1 x2 bt263.1 false x261000 x261001 x261002 x261003)))
def customsref21_Set.j1 : Nat → Int → Int → List (S39) → Bool → Int → Int → Int → List (S39) → Option (Int × Int × Int × (List (S39)) × Int)
 | 0, _, _, _, _, _, _, _, _ => none
 | k + 1, x1, x2, x9, x48, x261000, x261001, x261002, x261003 => if x48 = true then (some (0, 0, 0, ([] : List (S39)), 8)) else ((customsref21_Required.f x261000 x261001 x261002 x261003 x2).bind fun bt267 => ((customsref21_Total.f k x261000 x261001 x261002 x9).bind fun t269 => (if (wrap64 (t269 + bt267.1)) > x261001 then (some (0, 0, 0, ([] : List (S39)), 16)) else ((customsref21_Insert.f k x9 x1 bt267.1).bind fun t270 => (some (x261000, x261001, x261002, t270, 0))))))
end
def customsref21_Set.f (k : Nat) (a0_0 : Int) (a0_1 : Int) (a0_2 : Int) (l0_3 : List (S39)) (a1 : Int) (a2 : Int) : Option (Int × Int × Int × (List (S39)) × Int) := (customsref21_ValidGuarantee.f k a0_0 a0_1 a0_2 l0_3).bind fun t262 => (if t262 = 0 then (if a1 < 1 then (customsref21_Set.j0 k a1 a2 true a0_0 a0_1 a0_2 l0_3) else (if a1 > 1000000 then (customsref21_Set.j0 k a1 a2 true a0_0 a0_1 a0_2 l0_3) else (if a2 < 0 then (customsref21_Set.j0 k a1 a2 true a0_0 a0_1 a0_2 l0_3) else (customsref21_Set.j0 k a1 a2 (decide (a2 > 1000000000000)) a0_0 a0_1 a0_2 l0_3)))) else (some (0, 0, 0, ([] : List (S39)), t262)))
def customsref21_Release.f (k : Nat) (a0_0 : Int) (a0_1 : Int) (a0_2 : Int) (l0_3 : List (S39)) (a1 : Int) : Option (Int × Int × Int × (List (S39)) × Int) := (customsref21_ValidGuarantee.f k a0_0 a0_1 a0_2 l0_3).bind fun t275 => (if t275 = 0 then ((customsref21_without.f k l0_3 a1).bind fun bt276 => (if bt276.2 < 0 then (some (0, 0, 0, ([] : List (S39)), 6)) else (some (a0_0, a0_1, a0_2, bt276.1, 0)))) else (some (0, 0, 0, ([] : List (S39)), t275)))
end Go.Proofs.Ytakhjhiofmgpnaa.PA
-- Written by a program of this claim (wip/tools: mkprint.py, pr.sh) out of the translation: plain functions and their contracts. Lean checks every line.
namespace Go.Proofs.Ytakhjhiofmgpnaa.PA
open Go.RowKit Go.Proofs.YtakhjhiofmgpnaaW.PrintWords Go.Proofs.YtakhjhiofmgpnaaW.PrintLast Go.Proofs.YtakhjhiofmgpnaaW.PrintMore Go.Proofs.Ytakhjhiofmgpnaa.G
attribute [local go_sem] max2_int min2_int max_two min_two max_three min_three max_four min_four   -- for this text's walks alone
set_option linter.unusedVariables false
set_option linter.unusedSimpArgs false
def customsref21_Resize.j0 : Nat → Int → Bool → Int → Int → Int → List (S39) → Option (Int × Int × Int × (List (S39)) × Int)
 | 0, _, _, _, _, _, _ => none
 | k + 1, x1, x18, x281000, x281001, x281002, x281003 => if x18 = true then (some (0, 0, 0, ([] : List (S39)), 2)) else ((customsref21_Total.f k x281000 x281001 x281002 x281003).bind fun t283 => (if t283 > x1 then (some (0, 0, 0, ([] : List (S39)), 16)) else ((some (([] : List (S39)) : List (S39))).bind fun y284 => (if y284.length + x281003.length < 8796093022208 then (some (x281000, x1, x281002, (y284 ++ x281003), 0)) else (none)))))
def customsref21_Resize.f (k : Nat) (a0_0 : Int) (a0_1 : Int) (a0_2 : Int) (l0_3 : List (S39)) (a1 : Int) : Option (Int × Int × Int × (List (S39)) × Int) := (customsref21_ValidGuarantee.f k a0_0 a0_1 a0_2 l0_3).bind fun t282 => (if t282 = 0 then (if a1 < 0 then (customsref21_Resize.j0 k a1 true a0_0 a0_1 a0_2 l0_3) else (customsref21_Resize.j0 k a1 (decide (a1 > 1000000000000)) a0_0 a0_1 a0_2 l0_3)) else (some (0, 0, 0, ([] : List (S39)), t282)))
def customslaw23_sameErrors.l0 : Nat → List Int → List Int → Int → Option (Bool)
 | 0, _, _, _ => none
 | k + 1, x0, x1, x5 => if x5 < (x0.length : Int) then (if 0 ≤ x5 then (if x5 < (x1.length : Int) then (if (rd x0 x5) = (rd x1 x5) then (customslaw23_sameErrors.l0 k x0 x1 (wrap64 (x5 + 1))) else (some false)) else (none)) else (none)) else (some true)
def customslaw23_sameErrors.f (k : Nat) (l0 : List Int) (l1 : List Int) : Option (Bool) := if (l0.length : Int) = (l1.length : Int) then (customslaw23_sameErrors.l0 k l0 l1 0) else (some false)
end Go.Proofs.Ytakhjhiofmgpnaa.PA
/- The reference's Set, Release and Resize in plain Lean. -/
namespace Go.Proofs.Ytakhjhiofmgpnaa.E
set_option linter.unusedVariables false
set_option linter.unusedSimpArgs false
open Go.RowKit Go.Proofs.YtakhjhiofmgpnaaW.PrintWords Go.Proofs.YtakhjhiofmgpnaaW.PrintLast Go.Proofs.YtakhjhiofmgpnaaW.PrintMore Go.Proofs.Ytakhjhiofmgpnaa.G Go.Proofs.Ytakhjhiofmgpnaa.PA Go.Proofs.Ytakhjhiofmgpnaa.PB
/-- The list without what stands from p up to q. -/
def cut (u : List S39) (p q : Nat) : List S39 := u.take p ++ u.drop q
theorem cut_len {u : List S39} {p q : Nat} (hp : p ≤ u.length) (hq : q ≤ u.length) : (cut u p q).length = p + (u.length - q) := by
  simp [cut]; omega
theorem cut_lo {u : List S39} {p q : Nat} (hp : p ≤ u.length) {j : Nat} (h : j < p) : at_ (cut u p q) j = at_ u j := by
  have hl : j < (u.take p ++ u.drop q).length := by simp; omega
  show at_ (u.take p ++ u.drop q) j = at_ u j
  rw [at_get hl, at_get (show j < u.length by omega)]
  rw [List.getElem_append_left (by simp; omega), List.getElem_take]
theorem cut_hi {u : List S39} {p q : Nat} (hp : p ≤ u.length) {d : Nat} (hd : q + d < u.length) : at_ (cut u p q) (p + d) = at_ u (q + d) := by
  have hl : p + d < (u.take p ++ u.drop q).length := by simp; omega
  show at_ (u.take p ++ u.drop q) (p + d) = at_ u (q + d)
  rw [at_get hl, at_get hd]
  rw [List.getElem_append_right (by simp; omega), List.getElem_drop]
  congr 1
  simp; omega
theorem cut_psum {u : List S39} {m : Int} {p q : Nat} (h : Place u m p q) : ∀ d, q + d ≤ u.length → psum (cut u p q) (p + d) = oth u m (q + d)
  | 0, hd => by
    have h1 : ∀ i, i ≤ p → psum (cut u p q) i = psum u i := by
      intro i
      induction i with
      | zero => intro _; rfl
      | succ i ih => intro hi; rw [psum, psum, ih (by omega), cut_lo h.le (by omega)]
    show psum (cut u p q) p = oth u m q
    rw [h1 p (Nat.le_refl _)]
    have h2 : oth u m p = psum u p := oth_all p (fun j hj => by have := h.lo j hj; omega)
    rcases h.pq with ⟨rfl, _⟩ | ⟨rfl, hm⟩
    · rw [h2]
    · rw [oth, if_pos hm, h2]
  | d + 1, hd => by
    show psum (cut u p q) (p + d + 1) = oth u m (q + d + 1)
    rw [psum, cut_psum h d (by omega), cut_hi h.le (by omega), oth, if_neg (by have := h.hi (q + d) (by omega) (by omega); omega)]
theorem cut_tot {u : List S39} {m : Int} {p q : Nat} (h : Place u m p q) : tot (cut u p q) = oth u m u.length := by
  have := cut_psum h (u.length - q) (by have := h.qle; omega)
  rw [show q + (u.length - q) = u.length by have := h.qle; omega] at this
  rw [tot, cut_len h.le h.qle]
  exact this
theorem cut_ok {u : List S39} {m : Int} {p q : Nat} (h : Place u m p q) (ho : allOk u) : allOk (cut u p q) := fun j hj => by
  rw [cut_len h.le h.qle] at hj
  by_cases h1 : j < p
  · rw [cut_lo h.le h1]; exact ho j (by have := h.le; omega)
  · obtain ⟨d, rfl⟩ : ∃ d, j = p + d := ⟨j - p, by omega⟩
    rw [cut_hi h.le (by omega)]; exact ho _ (by omega)
theorem cut_asc {u : List S39} {m : Int} {p q : Nat} (h : Place u m p q) (ha : asc u) : asc (cut u p q) := fun j hj => by
  rw [cut_len h.le h.qle] at hj
  by_cases h1 : j + 1 < p
  · rw [cut_lo h.le (by omega), cut_lo h.le h1]; exact ha j (by have := h.le; omega)
  · by_cases h2 : j < p
    · have e : at_ (cut u p q) (j + 1) = at_ u q := by
        have := cut_hi (u := u) (p := p) (q := q) h.le (d := 0) (by omega)
        rwa [show p + 0 = j + 1 by omega] at this
      rw [cut_lo h.le h2, e]
      have := h.lo j h2
      have := h.hi q (Nat.le_refl _) (by omega)
      omega
    · obtain ⟨d, rfl⟩ : ∃ d, j = p + d := ⟨j - p, by omega⟩
      rw [cut_hi h.le (by omega), show p + d + 1 = p + (d + 1) by omega, cut_hi h.le (by omega)]
      exact ha (q + d) (by omega)
theorem oth_le {u : List S39} (h : allOk u) (m : Int) : ∀ i, i ≤ u.length → oth u m i ≤ psum u i
  | 0, _ => by simp [oth, psum]
  | i + 1, hi => by
    have := oth_le h m i (by omega)
    have h1 := (h i (by omega)).2
    simp only [oth, psum]
    split <;> omega
theorem cut_vf {a b c : Int} {u : List S39} {m : Int} {p q : Nat} (h : Place u m p q) (hv : vf a b c u = 0) : vf a b c (cut u p q) = 0 := by
  obtain ⟨hh, hlen, ho, ha, htot⟩ := vf_zero.1 hv
  have := oth_le ho m u.length (Nat.le_refl _)
  refine vf_zero.2 ⟨hh, ?_, cut_ok h ho, cut_asc h ha, by rw [cut_tot h]; exact Int.le_trans this htot⟩
  rw [cut_len h.le h.qle]
  have := h.le
  have : p ≤ q := by rcases h.pq with ⟨h, _⟩ | ⟨h, _⟩ <;> omega
  have := h.qle
  omega
/-- What the reference's 'without' keeps, and the amount it finds, up to i. -/
def flt (u : List S39) (m : Int) : Nat → List S39
  | 0 => []
  | i + 1 => if (at_ u i).f0 = m then flt u m i else flt u m i ++ [at_ u i]
def amt (u : List S39) (m : Int) : Nat → Int
  | 0 => -1
  | i + 1 => if (at_ u i).f0 = m then (at_ u i).f1 else amt u m i
theorem flt_len (u : List S39) (m : Int) : ∀ i, (flt u m i).length ≤ i
  | 0 => by simp [flt]
  | i + 1 => by
    have := flt_len u m i
    simp only [flt]
    split
    · omega
    · simp; omega
theorem without_ev {u : List S39} (m : Int) (hl : u.length ≤ 100) : Ev (fun k => customsref21_without.f k u m) (flt u m u.length, amt u m u.length) := by
  unfold customsref21_without.f
  have key : ∀ (r i : Nat), i + r = u.length → Ev (fun k => customsref21_without.l0 k u m (flt u m i) (amt u m i) (i : Int)) (flt u m u.length, amt u m u.length) := by
    intro r
    induction r with
    | zero =>
      intro i hi
      obtain rfl : i = u.length := by omega
      refine evShift ?_
      simp only [customsref21_without.l0]
      exact evNeg (by omega) (evNow rfl)
    | succ r ih =>
      intro i hi
      refine evShift ?_
      simp only [customsref21_without.l0]
      have e2 : wrap64 ((i : Int) + 1) = ((i + 1 : Nat) : Int) := by rw [wrap64_id (by omega) (by omega)]; omega
      rw [e2]
      clear e2
      have := ih (i + 1) (by omega)
      rw [flt, amt] at this
      have hfl := flt_len u m i
      refine evPos (by omega) (evPos (by omega) (evIf (fun hx => ?_) (fun hx => evPos (by omega) ?_)))
      · rw [if_pos (show (at_ u i).f0 = m from hx), if_pos (show (at_ u i).f0 = m from hx)] at this
        exact this
      · rw [if_neg (show ¬ (at_ u i).f0 = m from hx), if_neg (show ¬ (at_ u i).f0 = m from hx)] at this
        exact this
  exact key u.length 0 (by omega)
theorem flt_place {u : List S39} {m : Int} {p q : Nat} (h : Place u m p q) : flt u m u.length = cut u p q ∧ amt u m u.length = (if q = p then -1 else (at_ u p).f1) := by
  have h1 : ∀ i, i ≤ p → flt u m i = u.take i ∧ amt u m i = -1 := by
    intro i
    induction i with
    | zero => intro _; exact ⟨by simp [flt], rfl⟩
    | succ i ih =>
      intro hi
      obtain ⟨e1, e2⟩ := ih (by omega)
      have hne : (at_ u i).f0 ≠ m := by have := h.lo i (by omega); omega
      have hil : i < u.length := by have := h.le; omega
      rw [flt, amt, if_neg hne, if_neg hne, e1, e2, at_get hil, List.take_append_getElem hil]
      exact ⟨rfl, rfl⟩
  have h2 : ∀ d, q + d ≤ u.length → flt u m (q + d) = u.take p ++ (u.drop q).take d ∧ amt u m (q + d) = (if q = p then -1 else (at_ u p).f1) := by
    intro d
    induction d with
    | zero =>
      intro _
      obtain ⟨e1, e2⟩ := h1 p (Nat.le_refl _)
      rcases h.pq with ⟨rfl, _⟩ | ⟨rfl, hm⟩
      · simp [e1, e2]
      · show flt u m (p + 1) = _ ∧ amt u m (p + 1) = _
        rw [flt, amt, if_pos hm, if_pos hm, e1, if_neg (by omega)]
        simp
    | succ d ih =>
      intro hd
      obtain ⟨e1, e2⟩ := ih (by omega)
      have hne : (at_ u (q + d)).f0 ≠ m := by have := h.hi (q + d) (by omega) (by omega); omega
      show flt u m (q + d + 1) = _ ∧ amt u m (q + d + 1) = _
      rw [flt, amt, if_neg hne, if_neg hne, e1, e2, at_get (show q + d < u.length by omega), List.append_assoc]
      refine ⟨?_, rfl⟩
      congr 1
      have hdl : d < (u.drop q).length := by simp; omega
      rw [← List.take_append_getElem hdl, List.getElem_drop]
  have hq := h.qle
  obtain ⟨e1, e2⟩ := h2 (u.length - q) (by omega)
  rw [show q + (u.length - q) = u.length by omega] at e1 e2
  refine ⟨?_, e2⟩
  rw [e1, cut, List.take_of_length_le (l := u.drop q) (by simp)]
theorem insert_ev {u : List S39} {m n : Int} {p q : Nat} (h : Place u m p q) (hl : u.length ≤ 100) : Ev (fun k => customsref21_Insert.f k (cut u p q) m n) (put u p q ⟨m, n⟩) := by
  unfold customsref21_Insert.f
  have hcl := cut_len h.le h.qle
  have hp := h.le
  have hq := h.qle
  have e1 : (cut u p q).take p = u.take p := by unfold cut; rw [List.take_append_of_le_length (by simp; omega), List.take_take, Nat.min_self]
  have e2 : (cut u p q).drop p = u.drop q := by unfold cut; rw [List.drop_append_of_le_length (by simp; omega)]; simp [List.drop_take]
  have fin : (([] : List S39) ++ (cut u p q).take p) ++ [(⟨m, n⟩ : S39)] ++ (cut u p q).drop p = put u p q ⟨m, n⟩ := by rw [e1, e2]; simp [put]
  have key : ∀ (r i : Nat), i + r = p → Ev (fun k => customsref21_Insert.l0 k (cut u p q) (i : Int) m n) (put u p q ⟨m, n⟩) := by
    intro r
    induction r with
    | zero =>
      intro i hi
      obtain rfl : i = p := by omega
      refine evShift ?_
      simp only [customsref21_Insert.l0]
      refine evIf (fun hx => evPos (by omega) (evNeg ?_ ?_)) (fun hx => ?_)
      · have e : at_ (cut u i q) i = at_ u q := cut_hi (u := u) (p := i) (q := q) h.le (d := 0) (by omega)
        show ¬ (at_ (cut u i q) i).f0 < m
        rw [e]
        have := h.hi q (Nat.le_refl _) (by omega)
        omega
      · refine evBind0 rfl (evPos (by omega) (evBind0 rfl (evPos ?_ (evBind0 rfl (evBind0 rfl (evPos ?_ (evBind0 rfl (evBind0 rfl (evPos ?_ (evNow ?_))))))))))
        · simp; omega
        · simp; omega
        · simp; omega
        · rw [Int.toNat_natCast]; exact congrArg some fin
      · refine evBind0 rfl (evPos (by omega) (evPos (by omega) (evBind0 rfl (evPos ?_ (evBind0 rfl (evBind0 rfl (evPos ?_ (evBind0 rfl (evBind0 rfl (evPos ?_ (evNow ?_)))))))))))
        · simp; omega
        · simp; omega
        · simp; omega
        · rw [Int.toNat_natCast]; exact congrArg some fin
    | succ r ih =>
      intro i hi
      refine evShift ?_
      simp only [customsref21_Insert.l0]
      have e2 : wrap64 ((i : Int) + 1) = ((i + 1 : Nat) : Int) := by rw [wrap64_id (by omega) (by omega)]; omega
      rw [e2]
      clear e2
      refine evPos (by omega) (evPos (by omega) (evPos ?_ (ih (i + 1) (by omega))))
      show (at_ (cut u p q) i).f0 < m
      rw [cut_lo h.le (by omega)]
      exact h.lo i (by omega)
  exact key p 0 (by omega)
end Go.Proofs.Ytakhjhiofmgpnaa.E
-- Written by a program of this claim (wip/tools: mkprint.py, pr.sh) out of the translation: plain functions and their contracts. Lean checks every line.
namespace Go.Proofs.Ytakhjhiofmgpnaa.PB
open Go.RowKit Go.Proofs.YtakhjhiofmgpnaaW.PrintWords Go.Proofs.YtakhjhiofmgpnaaW.PrintLast Go.Proofs.YtakhjhiofmgpnaaW.PrintMore Go.Proofs.Ytakhjhiofmgpnaa.G Go.Proofs.Ytakhjhiofmgpnaa.PA
attribute [local go_sem] max2_int min2_int max_two min_two max_three min_three max_four min_four   -- for this text's walks alone
set_option linter.unusedVariables false
set_option linter.unusedSimpArgs false
def guarantee_Release.f (k : Nat) (a0_0 : Int) (a0_1 : Int) (a0_2 : Int) (l0_3 : List (S39)) (a1 : Int) : Option (Int × Int × Int × (List (S39)) × Int) := (guarantee_Validate.f k a0_0 a0_1 a0_2 l0_3).bind fun t197 => (if t197 = 0 then ((guarantee_find.f l0_3 a1).bind fun bt198 => (if bt198.2 = true then ((slices_Clone.f l0_3).bind fun t200 => ((slices_Delete.f t200 bt198.1 (wrap64 (bt198.1 + 1))).bind fun t203 => (some (a0_0, a0_1, a0_2, t203, 0)))) else (some (0, 0, 0, ([] : List (S39)), 6)))) else (some (0, 0, 0, ([] : List (S39)), t197)))
set_option maxHeartbeats 8000000 in
set_option maxRecDepth 100000 in
theorem guarantee_Release.calls (k : Nat) (a0_0 : Int) (a0_1 : Int) (a0_2 : Int) (A0_3 : Option Addr) (c0_3 : Nat) (l0_3 : List (S39)) (a1 : Int) (r1 : Int) (r2 : Int) (r3 : Int) (r4 : List (S39)) (r5 : Int) (w : World) (hr0_3 : Kd.C k39 w A0_3 l0_3.length l0_3) (hc0_3 : l0_3.length ≤ c0_3) (h : guarantee_Release.f k a0_0 a0_1 a0_2 l0_3 a1 = some (r1, r2, r3, r4, r5)) :
  Calls Try.prog 20 #[.agg #[.int .i64 a0_0, .int .i64 a0_1, .int .i64 a0_2, .slice A0_3 l0_3.length c0_3], .int .i64 a1] w fun e w' => ∃ v3_ : Value, e = .returned (.tuple #[.agg #[.int .i64 r1, .int .i64 r2, .int .i64 r3, v3_], .int .i64 r5]) ∧ Kd.R k39 39 w' w.heap.size (fun _ => True) v3_ r4 ∧ Below w.heap.size w w' := by
 have hu25 := Try.underlying25
 have HR0_3 := Aside0.mk hr0_3
 have HC0_3 := Aside0.mk hc0_3
 clear hr0_3 hc0_3
 have HB := Aside0.mk (Below.refl w.heap.size w)
 have H : ((guarantee_Validate.f k a0_0 a0_1 a0_2 l0_3).bind fun t197 => (if t197 = 0 then ((guarantee_find.f l0_3 a1).bind fun bt198 => (if bt198.2 = true then ((slices_Clone.f l0_3).bind fun t200 => ((slices_Delete.f t200 bt198.1 (wrap64 (bt198.1 + 1))).bind fun t203 => (some (a0_0, a0_1, a0_2, t203, 0)))) else (some (0, 0, 0, ([] : List (S39)), 6)))) else (some (0, 0, 0, ([] : List (S39)), t197)))) = some (r1, r2, r3, r4, r5) := h
 clear h
 replace H := Option.bind_eq_some_iff.mp H
 obtain ⟨t197, A30, H⟩ := H
 replace H : (if t197 = 0 then ((guarantee_find.f l0_3 a1).bind fun bt198 => (if bt198.2 = true then ((slices_Clone.f l0_3).bind fun t200 => ((slices_Delete.f t200 bt198.1 (wrap64 (bt198.1 + 1))).bind fun t203 => (some (a0_0, a0_1, a0_2, t203, 0)))) else (some (0, 0, 0, ([] : List (S39)), 6)))) else (some (0, 0, 0, ([] : List (S39)), t197))) = some (r1, r2, r3, r4, r5) := H
 have A3 := Aside0.mk A30
 clear A30
 by_cases c4 : t197 = 0
 ·rw [if_pos c4] at H
  have c4b0 : (t197 == 0) = true := beq_iff_eq.mpr c4
  have c4b1 : (t197 != 0) = false := bne_eq_false_iff_eq.mpr c4
  clear c4
  replace H := Option.bind_eq_some_iff.mp H
  obtain ⟨⟨t198, t199⟩, A50, H⟩ := H
  replace H : (if t199 = true then ((slices_Clone.f l0_3).bind fun t200 => ((slices_Delete.f t200 t198 (wrap64 (t198 + 1))).bind fun t203 => (some (a0_0, a0_1, a0_2, t203, 0)))) else (some (0, 0, 0, ([] : List (S39)), 6))) = some (r1, r2, r3, r4, r5) := H
  have A5 := Aside0.mk A50
  clear A50
  by_cases c6 : t199 = true
  ·subst c6
   have H1 : ((slices_Clone.f l0_3).bind fun t200 => ((slices_Delete.f t200 t198 (wrap64 (t198 + 1))).bind fun t203 => (some (a0_0, a0_1, a0_2, t203, 0)))) = some (r1, r2, r3, r4, r5) := by rw [if_pos rfl] at H; exact H
   clear H
   have H := H1
   clear H1
   replace H := Option.bind_eq_some_iff.mp H
   obtain ⟨t200, A70, H⟩ := H
   replace H : ((slices_Delete.f t200 t198 (wrap64 (t198 + 1))).bind fun t203 => (some (a0_0, a0_1, a0_2, t203, 0))) = some (r1, r2, r3, r4, r5) := H
   have A7 := Aside0.mk A70
   clear A70
   replace H := Option.bind_eq_some_iff.mp H
   obtain ⟨t203, A80, H⟩ := H
   replace H : (some (a0_0, a0_1, a0_2, t203, 0)) = some (r1, r2, r3, r4, r5) := H
   have A8 := Aside0.mk A80
   clear A80
   simp only [Option.some.injEq, Prod.mk.injEq] at H
   obtain ⟨rfl, rfl, rfl, rfl, rfl⟩ := H
   go_enter Try.func20, Try.ntmps20
   go_wp2_with (first | ((with_reducible refine gate_dst (N := 2) rfl ?_); refine box_event ?hg (N := 2) ?hd (cs := #[.int .i64 a0_0, .int .i64 a0_1, .int .i64 a0_2, .slice A0_3 l0_3.length c0_3]) (t := 25) ?hr ?_; (case hd => rfl); (case hg => rfl); (case hr => first | (go_simp; done) | (go_simp; rfl)); intro gb195 hg w9 hbox hb; have qb_ := below_both (by repeat (first | (with_reducible first | exact HB.out | apply below_alloc | apply pw_below_drewN | apply below_drew1) | exact HB.out)) hb; have n0_ := Aside0.mk (qb_.1); have n1_ := Aside0.mk (hbox); have n3_ := Aside0.mk ((by rw [hg]; exact qb_.2 : w.heap.size ≤ gb195)); clear HB; have HB := n0_; have BK195 := n1_; have GE195 := n3_; clear qb_; clear n0_ n1_ n3_; clear hb hbox hg) | ((with_reducible refine gate_dst (N := 4) rfl ?_); refine box_event ?hg (N := 4) ?hd (cs := #[.int .i64 0, .int .i64 0, .int .i64 0, .slice none 0 0]) (t := 25) ?hr ?_; (case hd => rfl); (case hg => rfl); (case hr => first | (go_simp; done) | (go_simp; rfl)); intro gb196 hg w10 hbox hb; have qb_ := below_both (by repeat (first | (with_reducible first | exact HB.out | apply below_alloc | apply pw_below_drewN | apply below_drew1 | refine below_set ?_ GE195.out) | exact HB.out)) hb; have q1_ := blk_below2 (g := gb195) (o := .cells #[.int .i64 a0_0, .int .i64 a0_1, .int .i64 a0_2, .slice A0_3 l0_3.length c0_3] 25 (0, 0)) (by (with_reducible repeat (first | refine blk_drewN ?_ _ | refine blk_drew ?_ | refine blk_alloc ?_ _)); exact BK195.out) hb; have n0_ := Aside0.mk (q1_.1); have n1_ := Aside0.mk (qb_.1); have n2_ := Aside0.mk (hbox); have n4_ := Aside0.mk ((by rw [hg]; exact qb_.2 : w.heap.size ≤ gb196)); have n5_ := Aside0.mk ((by rw [hg]; exact Nat.ne_of_lt q1_.2 : gb195 ≠ gb196)); have n6_ := Aside0.mk (Ne.symm n5_.out); clear BK195; clear HB; have BK195 := n0_; have HB := n1_; have BK196 := n2_; have GE196 := n4_; have NB195_196 := n5_; have NB196_195 := n6_; clear q1_; clear qb_; clear n0_ n1_ n2_ n4_ n5_ n6_; clear hb hbox hg; have hnb11 := NB195_196.out; have hnc11 := NB196_195.out; have hcz12_0 : w10.cell? ⟨gb195, 0, none⟩ = some (.int .i64 a0_0) := (blk_cell BK195.out 0).trans rfl; have hcz12_1 : w10.cell? ⟨gb195, 1, none⟩ = some (.int .i64 a0_1) := (blk_cell BK195.out 1).trans rfl; have hcz12_2 : w10.cell? ⟨gb195, 2, none⟩ = some (.int .i64 a0_2) := (blk_cell BK195.out 2).trans rfl; have hcz12_3 : w10.cell? ⟨gb195, 3, none⟩ = some (.slice A0_3 l0_3.length c0_3) := (blk_cell BK195.out 3).trans rfl; have hfz12_0 := blk_frozen BK195.out 0; have hfz12_1 := blk_frozen BK195.out 1; have hfz12_2 := blk_frozen BK195.out 2; have hfz12_3 := blk_frozen BK195.out 3) | ((with_reducible refine gate_callee (f := 11) rfl ?_); refine goesL_ (some 10) rfl rfl Try.func11 (by kernel_rfl) rfl #[.agg #[.int .i64 a0_0, .int .i64 a0_1, .int .i64 a0_2, .slice A0_3 l0_3.length c0_3]] rfl (by (try simp only [List.map_toArray, List.map_cons, List.map_nil]); first | done | rfl | (simp only [List.length_drop, List.length_take]; rfl)) ?_; (with_reducible refine (guarantee_Validate.calls k a0_0 a0_1 a0_2 _ _ l0_3 t197 _ ?side1 ?side2 A3.out).mono ?_); (case side1 => repeat (first | exact (Kd.C_below HR0_3.out HB.out) | (with_reducible refine Kd.C_alloc ?_ _) | (with_reducible refine Kd.C_drewN ?_ _) | (with_reducible refine Kd.C_drew ?_))); (case side2 => exact HC0_3.out); rintro e w13 ⟨rfl, hb⟩; refine ⟨_, rfl, ?_⟩; have n0_ := Aside0.mk (blk_below (g := gb195) (o := .cells #[.int .i64 a0_0, .int .i64 a0_1, .int .i64 a0_2, .slice A0_3 l0_3.length c0_3] 25 (0, 0)) (by (with_reducible repeat (first | refine blk_drewN ?_ _ | refine blk_drew ?_ | refine blk_alloc ?_ _)); exact BK195.out) hb); have n1_ := Aside0.mk (blk_below (g := gb196) (o := .cells #[.int .i64 0, .int .i64 0, .int .i64 0, .slice none 0 0] 25 (0, 0)) (by (with_reducible repeat (first | refine blk_drewN ?_ _ | refine blk_drew ?_ | refine blk_alloc ?_ _)); exact BK196.out) hb); have n2_ := Aside0.mk (below_step (by repeat (first | (with_reducible first | exact HB.out | apply below_alloc | apply pw_below_drewN | apply below_drew1 | refine below_set ?_ GE195.out | refine below_set ?_ GE196.out) | exact HB.out)) hb); clear BK195; clear BK196; clear HB; have BK195 := n0_; have BK196 := n1_; have HB := n2_; clear n0_ n1_ n2_; (try clear hb); (try clear hb2); (try clear hk); (try clear hi); have hcz14_0 : w13.cell? ⟨gb195, 0, none⟩ = some (.int .i64 a0_0) := (blk_cell BK195.out 0).trans rfl; have hcz14_1 : w13.cell? ⟨gb195, 1, none⟩ = some (.int .i64 a0_1) := (blk_cell BK195.out 1).trans rfl; have hcz14_2 : w13.cell? ⟨gb195, 2, none⟩ = some (.int .i64 a0_2) := (blk_cell BK195.out 2).trans rfl; have hcz14_3 : w13.cell? ⟨gb195, 3, none⟩ = some (.slice A0_3 l0_3.length c0_3) := (blk_cell BK195.out 3).trans rfl; have hfz14_0 := blk_frozen BK195.out 0; have hfz14_1 := blk_frozen BK195.out 1; have hfz14_2 := blk_frozen BK195.out 2; have hfz14_3 := blk_frozen BK195.out 3) | ((with_reducible refine gate_callee (f := 37) rfl ?_); refine goesL_ (some 19) rfl rfl Try.func37 (by kernel_rfl) rfl #[.slice A0_3 l0_3.length c0_3, .int .i64 a1] rfl (by (try simp only [List.map_toArray, List.map_cons, List.map_nil]); first | done | rfl | (simp only [List.length_drop, List.length_take]; rfl)) ?_; (with_reducible refine (guarantee_find.calls _ _ l0_3 a1 t198 true _ ?side1 ?side2 A5.out).mono ?_); (case side1 => repeat (first | exact (Kd.C_below HR0_3.out HB.out) | (with_reducible refine Kd.C_alloc ?_ _) | (with_reducible refine Kd.C_drewN ?_ _) | (with_reducible refine Kd.C_drew ?_))); (case side2 => exact HC0_3.out); rintro e w15 ⟨rfl, hb⟩; refine ⟨_, rfl, ?_⟩; have n0_ := Aside0.mk (blk_below (g := gb195) (o := .cells #[.int .i64 a0_0, .int .i64 a0_1, .int .i64 a0_2, .slice A0_3 l0_3.length c0_3] 25 (0, 0)) (by (with_reducible repeat (first | refine blk_drewN ?_ _ | refine blk_drew ?_ | refine blk_alloc ?_ _)); exact BK195.out) hb); have n1_ := Aside0.mk (blk_below (g := gb196) (o := .cells #[.int .i64 0, .int .i64 0, .int .i64 0, .slice none 0 0] 25 (0, 0)) (by (with_reducible repeat (first | refine blk_drewN ?_ _ | refine blk_drew ?_ | refine blk_alloc ?_ _)); exact BK196.out) hb); have n2_ := Aside0.mk (below_step (by repeat (first | (with_reducible first | exact HB.out | apply below_alloc | apply pw_below_drewN | apply below_drew1 | refine below_set ?_ GE195.out | refine below_set ?_ GE196.out) | exact HB.out)) hb); clear BK195; clear BK196; clear HB; have BK195 := n0_; have BK196 := n1_; have HB := n2_; clear n0_ n1_ n2_; (try clear hb); (try clear hb2); (try clear hk); (try clear hi); have hcz16_0 : w15.cell? ⟨gb195, 0, none⟩ = some (.int .i64 a0_0) := (blk_cell BK195.out 0).trans rfl; have hcz16_1 : w15.cell? ⟨gb195, 1, none⟩ = some (.int .i64 a0_1) := (blk_cell BK195.out 1).trans rfl; have hcz16_2 : w15.cell? ⟨gb195, 2, none⟩ = some (.int .i64 a0_2) := (blk_cell BK195.out 2).trans rfl; have hcz16_3 : w15.cell? ⟨gb195, 3, none⟩ = some (.slice A0_3 l0_3.length c0_3) := (blk_cell BK195.out 3).trans rfl; have hfz16_0 := blk_frozen BK195.out 0; have hfz16_1 := blk_frozen BK195.out 1; have hfz16_2 := blk_frozen BK195.out 2; have hfz16_3 := blk_frozen BK195.out 3) | ((with_reducible refine gate_callee (f := 38) rfl ?_); refine goesL_ (some 27) rfl rfl Try.func38 (by kernel_rfl) rfl #[.slice A0_3 l0_3.length c0_3] rfl (by (try simp only [List.map_toArray, List.map_cons, List.map_nil]); first | done | rfl | (simp only [List.length_drop, List.length_take]; rfl)) ?_; (with_reducible refine (slices_Clone.calls _ _ l0_3 t200 _ ?side1 ?side2 A7.out).mono ?_); (case side1 => repeat (first | exact (Kd.C_below HR0_3.out HB.out) | (with_reducible refine Kd.C_alloc ?_ _) | (with_reducible refine Kd.C_drewN ?_ _) | (with_reducible refine Kd.C_drew ?_))); (case side2 => exact HC0_3.out); rintro e w17 ⟨v201, rfl, ho0, hb⟩; refine ⟨_, rfl, ?_⟩; have qb_ := below_both (by repeat (first | (with_reducible first | exact HB.out | apply below_alloc | apply pw_below_drewN | apply below_drew1 | refine below_set ?_ GE195.out | refine below_set ?_ GE196.out) | exact HB.out)) hb; have n0_ := Aside0.mk (Kd.R_lower ho0 qb_.2); have n1_ := Aside0.mk (blk_below (g := gb195) (o := .cells #[.int .i64 a0_0, .int .i64 a0_1, .int .i64 a0_2, .slice A0_3 l0_3.length c0_3] 25 (0, 0)) (by (with_reducible repeat (first | refine blk_drewN ?_ _ | refine blk_drew ?_ | refine blk_alloc ?_ _)); exact BK195.out) hb); have n2_ := Aside0.mk (blk_below (g := gb196) (o := .cells #[.int .i64 0, .int .i64 0, .int .i64 0, .slice none 0 0] 25 (0, 0)) (by (with_reducible repeat (first | refine blk_drewN ?_ _ | refine blk_drew ?_ | refine blk_alloc ?_ _)); exact BK196.out) hb); have n3_ := Aside0.mk (qb_.1); clear BK195; clear BK196; clear HB; have HO202 := n0_; have BK195 := n1_; have BK196 := n2_; have HB := n3_; clear qb_; clear n0_ n1_ n2_ n3_; (try clear hb); (try clear hb2); (try clear hk); (try clear hi); (try clear ho0); obtain ⟨Ao18, co18, eo18⟩ := Kd.R_slice HO202.out; subst eo18) | ((with_reducible refine gate_callee (f := 40) rfl ?_); refine goesL_ (some 31) rfl rfl Try.func40 (by kernel_rfl) rfl #[.slice Ao18 t200.length co18, .int .i64 t198, .int .i64 (wrap64 (t198 + 1))] rfl (by (try simp only [List.map_toArray, List.map_cons, List.map_nil]); first | done | rfl | (simp only [List.length_drop, List.length_take]; rfl)) ?_; (with_reducible refine (slices_Delete.calls (fun k_ => some k_ = (.slice Ao18 t200.length co18 : Value).ownBlock) (.slice Ao18 t200.length co18) t200 t198 (wrap64 (t198 + 1)) t203 w _ ?side1 ?side2 A8.out).mono ?_); (case side1 => repeat (first | (with_reducible first | exact HB.out | apply below_alloc | apply pw_below_drewN | apply below_drew1 | refine below_set ?_ GE195.out | refine below_set ?_ GE196.out) | exact HB.out)); (case side2 => exact Kd.R_tight rfl HO202.out); rintro e w19 ⟨v204, rfl, ho0, hb, hkp⟩; refine ⟨_, rfl, ?_⟩; have n0_ := Aside0.mk (blk_kept (by (with_reducible repeat (first | refine blk_drewN ?_ _ | refine blk_drew ?_ | refine blk_alloc ?_ _)); exact BK195.out) hkp (fun hs_ => (fun e_ => (Kd.R_ne HO202.out BK195.out (by decide)) e_) hs_)); have n1_ := Aside0.mk (blk_kept (by (with_reducible repeat (first | refine blk_drewN ?_ _ | refine blk_drew ?_ | refine blk_alloc ?_ _)); exact BK196.out) hkp (fun hs_ => (fun e_ => (Kd.R_ne HO202.out BK196.out (by decide)) e_) hs_)); have n2_ := Aside0.mk (Kd.R_mono (ok' := fun k_ => True) ho0 (fun k_ hk_ => trivial)); have n3_ := Aside0.mk (hb); clear BK195; clear BK196; clear HB; clear HO202; have BK195 := n0_; have BK196 := n1_; have HO205 := n2_; have HB := n3_; clear n0_ n1_ n2_ n3_; (try clear hb); (try clear hkp); (try clear ho0); obtain ⟨Ao20, co20, eo20⟩ := Kd.R_slice HO205.out; subst eo20; have hcz21_0 : w19.cell? ⟨gb195, 0, none⟩ = some (.int .i64 a0_0) := (blk_cell BK195.out 0).trans rfl; have hcz21_1 : w19.cell? ⟨gb195, 1, none⟩ = some (.int .i64 a0_1) := (blk_cell BK195.out 1).trans rfl; have hcz21_2 : w19.cell? ⟨gb195, 2, none⟩ = some (.int .i64 a0_2) := (blk_cell BK195.out 2).trans rfl; have hcz21_3 : w19.cell? ⟨gb195, 3, none⟩ = some (.slice A0_3 l0_3.length c0_3) := (blk_cell BK195.out 3).trans rfl; have hfz21_0 := blk_frozen BK195.out 0; have hfz21_1 := blk_frozen BK195.out 1; have hfz21_2 := blk_frozen BK195.out 2; have hfz21_3 := blk_frozen BK195.out 3; have hcz22_0 : w19.cell? ⟨gb196, 0, none⟩ = some (.int .i64 0) := (blk_cell BK196.out 0).trans rfl; have hcz22_1 : w19.cell? ⟨gb196, 1, none⟩ = some (.int .i64 0) := (blk_cell BK196.out 1).trans rfl; have hcz22_2 : w19.cell? ⟨gb196, 2, none⟩ = some (.int .i64 0) := (blk_cell BK196.out 2).trans rfl; have hcz22_3 : w19.cell? ⟨gb196, 3, none⟩ = some (.slice none 0 0) := (blk_cell BK196.out 3).trans rfl; have hfz22_0 := blk_frozen BK196.out 0; have hfz22_1 := blk_frozen BK196.out 1; have hfz22_2 := blk_frozen BK196.out 2; have hfz22_3 := blk_frozen BK196.out 3))
   refine bodyPost_ret (results_ct rfl _ _ gb196 25 #[.int .i64 a0_0, .int .i64 a0_1, .int .i64 a0_2, .slice Ao20 t203.length co20] (0, 0) _ rfl (by (with_reducible repeat (first | refine blk_drewN ?_ _ | refine blk_drew ?_ | refine blk_alloc ?_ _)); refine blk_put (cs := #[.int .i64 a0_0, .int .i64 a0_1, .int .i64 a0_2, .slice none 0 0]) ?_ 3 _ rfl; refine blk_put (cs := #[.int .i64 a0_0, .int .i64 a0_1, .int .i64 0, .slice none 0 0]) ?_ 2 _ rfl; refine blk_put (cs := #[.int .i64 a0_0, .int .i64 0, .int .i64 0, .slice none 0 0]) ?_ 1 _ rfl; refine blk_put (cs := #[.int .i64 0, .int .i64 0, .int .i64 0, .slice none 0 0]) ?_ 0 _ rfl; refine blk_far ?_ NB196_195.out _; (with_reducible repeat (first | refine blk_drewN ?_ _ | refine blk_drew ?_ | refine blk_alloc ?_ _)); exact BK196.out) Try.underlying25 rfl (by kernel_rfl)) rfl ?_
   exact ⟨_, by first | rfl | (simp [errW_none, errW_some] <;> rfl) | (simp [*, errW_none, errW_some] <;> rfl), by (with_reducible repeat (first | apply Kd.R_alloc | apply Kd.R_drewN | apply Kd.R_drew)); exact Kd.R_mono (Kd.R_far (p := ⟨gb196, 3, none⟩) (Kd.R_far (p := ⟨gb196, 2, none⟩) (Kd.R_far (p := ⟨gb196, 1, none⟩) (Kd.R_far (p := ⟨gb196, 0, none⟩) (Kd.R_far (p := ⟨gb195, 3, none⟩) (Kd.R_types (Kd.R_types HO205.out BK195.out (by decide)) BK196.out (by decide)) (fun _ hk => hk.1.2) (.slice Ao20 t203.length co20)) (fun _ hk => hk.2) (.int .i64 a0_0)) (fun _ hk => hk.2) (.int .i64 a0_1)) (fun _ hk => hk.2) (.int .i64 a0_2)) (fun _ hk => hk.2) (.slice Ao20 t203.length co20)) (fun _ hk => trivial), by repeat (first | (with_reducible first | exact HB.out | apply below_alloc | apply pw_below_drewN | apply below_drew1 | refine below_set ?_ GE195.out | refine below_set ?_ GE196.out) | exact HB.out)⟩
  ·replace c6 := Bool.eq_false_iff.mpr c6
   subst c6
   have H1 : (some (0, 0, 0, ([] : List (S39)), 6)) = some (r1, r2, r3, r4, r5) := by rw [if_neg (show ¬ (false = true) by decide)] at H; exact H
   clear H
   have H := H1
   clear H1
   simp only [Option.some.injEq, Prod.mk.injEq] at H
   obtain ⟨rfl, rfl, rfl, rfl, rfl⟩ := H
   go_enter Try.func20, Try.ntmps20
   go_wp2_with (first | ((with_reducible refine gate_dst (N := 2) rfl ?_); refine box_event ?hg (N := 2) ?hd (cs := #[.int .i64 a0_0, .int .i64 a0_1, .int .i64 a0_2, .slice A0_3 l0_3.length c0_3]) (t := 25) ?hr ?_; (case hd => rfl); (case hg => rfl); (case hr => first | (go_simp; done) | (go_simp; rfl)); intro gb195 hg w23 hbox hb; have qb_ := below_both (by repeat (first | (with_reducible first | exact HB.out | apply below_alloc | apply pw_below_drewN | apply below_drew1) | exact HB.out)) hb; have n0_ := Aside0.mk (qb_.1); have n1_ := Aside0.mk (hbox); have n3_ := Aside0.mk ((by rw [hg]; exact qb_.2 : w.heap.size ≤ gb195)); clear HB; have HB := n0_; have BK195 := n1_; have GE195 := n3_; clear qb_; clear n0_ n1_ n3_; clear hb hbox hg) | ((with_reducible refine gate_dst (N := 4) rfl ?_); refine box_event ?hg (N := 4) ?hd (cs := #[.int .i64 0, .int .i64 0, .int .i64 0, .slice none 0 0]) (t := 25) ?hr ?_; (case hd => rfl); (case hg => rfl); (case hr => first | (go_simp; done) | (go_simp; rfl)); intro gb196 hg w24 hbox hb; have qb_ := below_both (by repeat (first | (with_reducible first | exact HB.out | apply below_alloc | apply pw_below_drewN | apply below_drew1 | refine below_set ?_ GE195.out) | exact HB.out)) hb; have q1_ := blk_below2 (g := gb195) (o := .cells #[.int .i64 a0_0, .int .i64 a0_1, .int .i64 a0_2, .slice A0_3 l0_3.length c0_3] 25 (0, 0)) (by (with_reducible repeat (first | refine blk_drewN ?_ _ | refine blk_drew ?_ | refine blk_alloc ?_ _)); exact BK195.out) hb; have n0_ := Aside0.mk (q1_.1); have n1_ := Aside0.mk (qb_.1); have n2_ := Aside0.mk (hbox); have n4_ := Aside0.mk ((by rw [hg]; exact qb_.2 : w.heap.size ≤ gb196)); have n5_ := Aside0.mk ((by rw [hg]; exact Nat.ne_of_lt q1_.2 : gb195 ≠ gb196)); have n6_ := Aside0.mk (Ne.symm n5_.out); clear BK195; clear HB; have BK195 := n0_; have HB := n1_; have BK196 := n2_; have GE196 := n4_; have NB195_196 := n5_; have NB196_195 := n6_; clear q1_; clear qb_; clear n0_ n1_ n2_ n4_ n5_ n6_; clear hb hbox hg; have hnb25 := NB195_196.out; have hnc25 := NB196_195.out; have hcz26_0 : w24.cell? ⟨gb195, 0, none⟩ = some (.int .i64 a0_0) := (blk_cell BK195.out 0).trans rfl; have hcz26_1 : w24.cell? ⟨gb195, 1, none⟩ = some (.int .i64 a0_1) := (blk_cell BK195.out 1).trans rfl; have hcz26_2 : w24.cell? ⟨gb195, 2, none⟩ = some (.int .i64 a0_2) := (blk_cell BK195.out 2).trans rfl; have hcz26_3 : w24.cell? ⟨gb195, 3, none⟩ = some (.slice A0_3 l0_3.length c0_3) := (blk_cell BK195.out 3).trans rfl; have hfz26_0 := blk_frozen BK195.out 0; have hfz26_1 := blk_frozen BK195.out 1; have hfz26_2 := blk_frozen BK195.out 2; have hfz26_3 := blk_frozen BK195.out 3) | ((with_reducible refine gate_callee (f := 11) rfl ?_); refine goesL_ (some 10) rfl rfl Try.func11 (by kernel_rfl) rfl #[.agg #[.int .i64 a0_0, .int .i64 a0_1, .int .i64 a0_2, .slice A0_3 l0_3.length c0_3]] rfl (by (try simp only [List.map_toArray, List.map_cons, List.map_nil]); first | done | rfl | (simp only [List.length_drop, List.length_take]; rfl)) ?_; (with_reducible refine (guarantee_Validate.calls k a0_0 a0_1 a0_2 _ _ l0_3 t197 _ ?side1 ?side2 A3.out).mono ?_); (case side1 => repeat (first | exact (Kd.C_below HR0_3.out HB.out) | (with_reducible refine Kd.C_alloc ?_ _) | (with_reducible refine Kd.C_drewN ?_ _) | (with_reducible refine Kd.C_drew ?_))); (case side2 => exact HC0_3.out); rintro e w27 ⟨rfl, hb⟩; refine ⟨_, rfl, ?_⟩; have n0_ := Aside0.mk (blk_below (g := gb195) (o := .cells #[.int .i64 a0_0, .int .i64 a0_1, .int .i64 a0_2, .slice A0_3 l0_3.length c0_3] 25 (0, 0)) (by (with_reducible repeat (first | refine blk_drewN ?_ _ | refine blk_drew ?_ | refine blk_alloc ?_ _)); exact BK195.out) hb); have n1_ := Aside0.mk (blk_below (g := gb196) (o := .cells #[.int .i64 0, .int .i64 0, .int .i64 0, .slice none 0 0] 25 (0, 0)) (by (with_reducible repeat (first | refine blk_drewN ?_ _ | refine blk_drew ?_ | refine blk_alloc ?_ _)); exact BK196.out) hb); have n2_ := Aside0.mk (below_step (by repeat (first | (with_reducible first | exact HB.out | apply below_alloc | apply pw_below_drewN | apply below_drew1 | refine below_set ?_ GE195.out | refine below_set ?_ GE196.out) | exact HB.out)) hb); clear BK195; clear BK196; clear HB; have BK195 := n0_; have BK196 := n1_; have HB := n2_; clear n0_ n1_ n2_; (try clear hb); (try clear hb2); (try clear hk); (try clear hi); have hcz28_0 : w27.cell? ⟨gb195, 0, none⟩ = some (.int .i64 a0_0) := (blk_cell BK195.out 0).trans rfl; have hcz28_1 : w27.cell? ⟨gb195, 1, none⟩ = some (.int .i64 a0_1) := (blk_cell BK195.out 1).trans rfl; have hcz28_2 : w27.cell? ⟨gb195, 2, none⟩ = some (.int .i64 a0_2) := (blk_cell BK195.out 2).trans rfl; have hcz28_3 : w27.cell? ⟨gb195, 3, none⟩ = some (.slice A0_3 l0_3.length c0_3) := (blk_cell BK195.out 3).trans rfl; have hfz28_0 := blk_frozen BK195.out 0; have hfz28_1 := blk_frozen BK195.out 1; have hfz28_2 := blk_frozen BK195.out 2; have hfz28_3 := blk_frozen BK195.out 3) | ((with_reducible refine gate_callee (f := 37) rfl ?_); refine goesL_ (some 19) rfl rfl Try.func37 (by kernel_rfl) rfl #[.slice A0_3 l0_3.length c0_3, .int .i64 a1] rfl (by (try simp only [List.map_toArray, List.map_cons, List.map_nil]); first | done | rfl | (simp only [List.length_drop, List.length_take]; rfl)) ?_; (with_reducible refine (guarantee_find.calls _ _ l0_3 a1 t198 false _ ?side1 ?side2 A5.out).mono ?_); (case side1 => repeat (first | exact (Kd.C_below HR0_3.out HB.out) | (with_reducible refine Kd.C_alloc ?_ _) | (with_reducible refine Kd.C_drewN ?_ _) | (with_reducible refine Kd.C_drew ?_))); (case side2 => exact HC0_3.out); rintro e w29 ⟨rfl, hb⟩; refine ⟨_, rfl, ?_⟩; have n1_ := Aside0.mk (blk_below (g := gb196) (o := .cells #[.int .i64 0, .int .i64 0, .int .i64 0, .slice none 0 0] 25 (0, 0)) (by (with_reducible repeat (first | refine blk_drewN ?_ _ | refine blk_drew ?_ | refine blk_alloc ?_ _)); exact BK196.out) hb); have n2_ := Aside0.mk (below_step (by repeat (first | (with_reducible first | exact HB.out | apply below_alloc | apply pw_below_drewN | apply below_drew1 | refine below_set ?_ GE195.out | refine below_set ?_ GE196.out) | exact HB.out)) hb); (try clear BK195); clear BK196; clear HB; have BK196 := n1_; have HB := n2_; clear n1_ n2_; (try clear hb); (try clear hb2); (try clear hk); (try clear hi); have hcz30_0 : w29.cell? ⟨gb196, 0, none⟩ = some (.int .i64 0) := (blk_cell BK196.out 0).trans rfl; have hcz30_1 : w29.cell? ⟨gb196, 1, none⟩ = some (.int .i64 0) := (blk_cell BK196.out 1).trans rfl; have hcz30_2 : w29.cell? ⟨gb196, 2, none⟩ = some (.int .i64 0) := (blk_cell BK196.out 2).trans rfl; have hcz30_3 : w29.cell? ⟨gb196, 3, none⟩ = some (.slice none 0 0) := (blk_cell BK196.out 3).trans rfl; have hfz30_0 := blk_frozen BK196.out 0; have hfz30_1 := blk_frozen BK196.out 1; have hfz30_2 := blk_frozen BK196.out 2; have hfz30_3 := blk_frozen BK196.out 3))
   refine bodyPost_ret (results_ct rfl _ _ gb196 25 #[.int .i64 0, .int .i64 0, .int .i64 0, .slice none 0 0] (0, 0) _ rfl (by (with_reducible repeat (first | refine blk_drewN ?_ _ | refine blk_drew ?_ | refine blk_alloc ?_ _)); refine blk_put (cs := #[.int .i64 0, .int .i64 0, .int .i64 0, .slice none 0 0]) ?_ 3 _ rfl; refine blk_put (cs := #[.int .i64 0, .int .i64 0, .int .i64 0, .slice none 0 0]) ?_ 2 _ rfl; refine blk_put (cs := #[.int .i64 0, .int .i64 0, .int .i64 0, .slice none 0 0]) ?_ 1 _ rfl; refine blk_put (cs := #[.int .i64 0, .int .i64 0, .int .i64 0, .slice none 0 0]) ?_ 0 _ rfl; (with_reducible repeat (first | refine blk_drewN ?_ _ | refine blk_drew ?_ | refine blk_alloc ?_ _)); exact BK196.out) Try.underlying25 rfl (by kernel_rfl)) rfl ?_
   exact ⟨_, by first | rfl | (simp [errW_none, errW_some] <;> rfl) | (simp [*, errW_none, errW_some] <;> rfl), by first | exact Kd.R_nil _ _ _ _ _ | exact Kd.N_nil _ _ _ _ _ | exact Kd.V_nil _ _ _ _ _ | exact Kd.Q_nil _ _ _ _ _ | exact Kd.S_nil _ _ _ _ _, by repeat (first | (with_reducible first | exact HB.out | apply below_alloc | apply pw_below_drewN | apply below_drew1 | refine below_set ?_ GE195.out | refine below_set ?_ GE196.out) | exact HB.out)⟩
 ·rw [if_neg c4] at H
  have c4b0 : (t197 == 0) = false := beq_eq_false_iff_ne.mpr c4
  have c4b1 : (t197 != 0) = true := bne_iff_ne.mpr c4
  simp only [Option.some.injEq, Prod.mk.injEq] at H
  obtain ⟨rfl, rfl, rfl, rfl, rfl⟩ := H
  go_enter Try.func20, Try.ntmps20
  go_wp2_with (first | ((with_reducible refine gate_dst (N := 2) rfl ?_); refine box_event ?hg (N := 2) ?hd (cs := #[.int .i64 a0_0, .int .i64 a0_1, .int .i64 a0_2, .slice A0_3 l0_3.length c0_3]) (t := 25) ?hr ?_; (case hd => rfl); (case hg => rfl); (case hr => first | (go_simp; done) | (go_simp; rfl)); intro gb195 hg w31 hbox hb; have qb_ := below_both (by repeat (first | (with_reducible first | exact HB.out | apply below_alloc | apply pw_below_drewN | apply below_drew1) | exact HB.out)) hb; have n0_ := Aside0.mk (qb_.1); have n1_ := Aside0.mk (hbox); have n3_ := Aside0.mk ((by rw [hg]; exact qb_.2 : w.heap.size ≤ gb195)); clear HB; have HB := n0_; have BK195 := n1_; have GE195 := n3_; clear qb_; clear n0_ n1_ n3_; clear hb hbox hg) | ((with_reducible refine gate_dst (N := 4) rfl ?_); refine box_event ?hg (N := 4) ?hd (cs := #[.int .i64 0, .int .i64 0, .int .i64 0, .slice none 0 0]) (t := 25) ?hr ?_; (case hd => rfl); (case hg => rfl); (case hr => first | (go_simp; done) | (go_simp; rfl)); intro gb196 hg w32 hbox hb; have qb_ := below_both (by repeat (first | (with_reducible first | exact HB.out | apply below_alloc | apply pw_below_drewN | apply below_drew1 | refine below_set ?_ GE195.out) | exact HB.out)) hb; have q1_ := blk_below2 (g := gb195) (o := .cells #[.int .i64 a0_0, .int .i64 a0_1, .int .i64 a0_2, .slice A0_3 l0_3.length c0_3] 25 (0, 0)) (by (with_reducible repeat (first | refine blk_drewN ?_ _ | refine blk_drew ?_ | refine blk_alloc ?_ _)); exact BK195.out) hb; have n0_ := Aside0.mk (q1_.1); have n1_ := Aside0.mk (qb_.1); have n2_ := Aside0.mk (hbox); have n4_ := Aside0.mk ((by rw [hg]; exact qb_.2 : w.heap.size ≤ gb196)); have n5_ := Aside0.mk ((by rw [hg]; exact Nat.ne_of_lt q1_.2 : gb195 ≠ gb196)); have n6_ := Aside0.mk (Ne.symm n5_.out); clear BK195; clear HB; have BK195 := n0_; have HB := n1_; have BK196 := n2_; have GE196 := n4_; have NB195_196 := n5_; have NB196_195 := n6_; clear q1_; clear qb_; clear n0_ n1_ n2_ n4_ n5_ n6_; clear hb hbox hg; have hnb33 := NB195_196.out; have hnc33 := NB196_195.out; have hcz34_0 : w32.cell? ⟨gb195, 0, none⟩ = some (.int .i64 a0_0) := (blk_cell BK195.out 0).trans rfl; have hcz34_1 : w32.cell? ⟨gb195, 1, none⟩ = some (.int .i64 a0_1) := (blk_cell BK195.out 1).trans rfl; have hcz34_2 : w32.cell? ⟨gb195, 2, none⟩ = some (.int .i64 a0_2) := (blk_cell BK195.out 2).trans rfl; have hcz34_3 : w32.cell? ⟨gb195, 3, none⟩ = some (.slice A0_3 l0_3.length c0_3) := (blk_cell BK195.out 3).trans rfl; have hfz34_0 := blk_frozen BK195.out 0; have hfz34_1 := blk_frozen BK195.out 1; have hfz34_2 := blk_frozen BK195.out 2; have hfz34_3 := blk_frozen BK195.out 3) | ((with_reducible refine gate_callee (f := 11) rfl ?_); refine goesL_ (some 10) rfl rfl Try.func11 (by kernel_rfl) rfl #[.agg #[.int .i64 a0_0, .int .i64 a0_1, .int .i64 a0_2, .slice A0_3 l0_3.length c0_3]] rfl (by (try simp only [List.map_toArray, List.map_cons, List.map_nil]); first | done | rfl | (simp only [List.length_drop, List.length_take]; rfl)) ?_; (with_reducible refine (guarantee_Validate.calls k a0_0 a0_1 a0_2 _ _ l0_3 t197 _ ?side1 ?side2 A3.out).mono ?_); (case side1 => repeat (first | exact (Kd.C_below HR0_3.out HB.out) | (with_reducible refine Kd.C_alloc ?_ _) | (with_reducible refine Kd.C_drewN ?_ _) | (with_reducible refine Kd.C_drew ?_))); (case side2 => exact HC0_3.out); rintro e w35 ⟨rfl, hb⟩; refine ⟨_, rfl, ?_⟩; have n1_ := Aside0.mk (blk_below (g := gb196) (o := .cells #[.int .i64 0, .int .i64 0, .int .i64 0, .slice none 0 0] 25 (0, 0)) (by (with_reducible repeat (first | refine blk_drewN ?_ _ | refine blk_drew ?_ | refine blk_alloc ?_ _)); exact BK196.out) hb); have n2_ := Aside0.mk (below_step (by repeat (first | (with_reducible first | exact HB.out | apply below_alloc | apply pw_below_drewN | apply below_drew1 | refine below_set ?_ GE195.out | refine below_set ?_ GE196.out) | exact HB.out)) hb); (try clear BK195); clear BK196; clear HB; have BK196 := n1_; have HB := n2_; clear n1_ n2_; (try clear hb); (try clear hb2); (try clear hk); (try clear hi); have hcz36_0 : w35.cell? ⟨gb196, 0, none⟩ = some (.int .i64 0) := (blk_cell BK196.out 0).trans rfl; have hcz36_1 : w35.cell? ⟨gb196, 1, none⟩ = some (.int .i64 0) := (blk_cell BK196.out 1).trans rfl; have hcz36_2 : w35.cell? ⟨gb196, 2, none⟩ = some (.int .i64 0) := (blk_cell BK196.out 2).trans rfl; have hcz36_3 : w35.cell? ⟨gb196, 3, none⟩ = some (.slice none 0 0) := (blk_cell BK196.out 3).trans rfl; have hfz36_0 := blk_frozen BK196.out 0; have hfz36_1 := blk_frozen BK196.out 1; have hfz36_2 := blk_frozen BK196.out 2; have hfz36_3 := blk_frozen BK196.out 3))
  refine bodyPost_ret (results_ct rfl _ _ gb196 25 #[.int .i64 0, .int .i64 0, .int .i64 0, .slice none 0 0] (0, 0) _ rfl (by (with_reducible repeat (first | refine blk_drewN ?_ _ | refine blk_drew ?_ | refine blk_alloc ?_ _)); refine blk_put (cs := #[.int .i64 0, .int .i64 0, .int .i64 0, .slice none 0 0]) ?_ 3 _ rfl; refine blk_put (cs := #[.int .i64 0, .int .i64 0, .int .i64 0, .slice none 0 0]) ?_ 2 _ rfl; refine blk_put (cs := #[.int .i64 0, .int .i64 0, .int .i64 0, .slice none 0 0]) ?_ 1 _ rfl; refine blk_put (cs := #[.int .i64 0, .int .i64 0, .int .i64 0, .slice none 0 0]) ?_ 0 _ rfl; (with_reducible repeat (first | refine blk_drewN ?_ _ | refine blk_drew ?_ | refine blk_alloc ?_ _)); exact BK196.out) Try.underlying25 rfl (by kernel_rfl)) rfl ?_
  exact ⟨_, by first | rfl | (simp [errW_none, errW_some] <;> rfl) | (simp [*, errW_none, errW_some] <;> rfl), by first | exact Kd.R_nil _ _ _ _ _ | exact Kd.N_nil _ _ _ _ _ | exact Kd.V_nil _ _ _ _ _ | exact Kd.Q_nil _ _ _ _ _ | exact Kd.S_nil _ _ _ _ _, by repeat (first | (with_reducible first | exact HB.out | apply below_alloc | apply pw_below_drewN | apply below_drew1 | refine below_set ?_ GE195.out | refine below_set ?_ GE196.out) | exact HB.out)⟩
end Go.Proofs.Ytakhjhiofmgpnaa.PB
-- Written by a program of this claim (wip/tools: mkprint.py, pr.sh) out of the translation: plain functions and their contracts. Lean checks every line.
namespace Go.Proofs.Ytakhjhiofmgpnaa.PC
open Go.RowKit Go.Proofs.YtakhjhiofmgpnaaW.PrintWords Go.Proofs.YtakhjhiofmgpnaaW.PrintLast Go.Proofs.YtakhjhiofmgpnaaW.PrintMore Go.Proofs.Ytakhjhiofmgpnaa.G Go.Proofs.Ytakhjhiofmgpnaa.PA Go.Proofs.Ytakhjhiofmgpnaa.PB
attribute [local go_sem] max2_int min2_int max_two min_two max_three min_three max_four min_four   -- for this text's walks alone
set_option linter.unusedVariables false
set_option linter.unusedSimpArgs false
def errW : Option Int → Value
 | none => .nilIface
 | some c => .iface 0 (.int .i64 c)
theorem errW_none : errW none = .nilIface := rfl
theorem errW_some (c : Int) : errW (some c) = .iface 0 (.int .i64 c) := rfl
-- the values' own types
end Go.Proofs.Ytakhjhiofmgpnaa.PC
