/- Part 3 of the proof of ledgerFold_holds: texts of this claim, printed and by hand, cut to what it needs (wip/tools/link.py). Lean checks every line. -/
import Derived.Test.YtgedkdofhonicaaKF2
import Derived.Maps.OwnOps
import Derived.Maps.OwnSet
import Derived.RegionTactic
import Derived.BigRegion
import Derived.Shelf.RegionOpenPlain
import Derived.Carry
import Derived.Shelf.SlSortCmp.InsertionK
import Derived.Maps.RangeWalk
import Derived.Shelf.SlSortCmp.NoneTotal
import Derived.Shelf.SortM.Plain
-- Written by a program of this claim (wip/tools: mkprint.py, pr.sh) out of the translation: plain functions and their contracts. Lean checks every line.
namespace Go.Proofs.Ytgedkdofhonicaa.PA
open Go.RowKit Go.Proofs.YtgedkdofhonicaaW.PrintWords Go.Proofs.YtgedkdofhonicaaW.PrintLast Go.Proofs.YtgedkdofhonicaaW.PrintMore Go.Proofs.Ytgedkdofhonicaa.G
attribute [local go_sem] max2_int min2_int max_two min_two max_three min_three max_four min_four   -- for this text's walks alone
set_option linter.unusedVariables false
set_option linter.unusedSimpArgs false
theorem eqA26 (d : Nat) (w : World) (x0 y0 : Int) (x1 y1 : Int) (x2 y2 : Int) (x3 y3 : Int) (x4 y4 : Int) (x5 y5 : Int) :
    (Op.equalIn (d + 2) 26 (.agg #[.int .i64 x0, .int .i64 x1, .int .i64 x2, .int .i64 x3, .int .i64 x4, .int .i64 x5]) (.agg #[.int .i64 y0, .int .i64 y1, .int .i64 y2, .int .i64 y3, .int .i64 y4, .int .i64 y5])).run Try.prog w = .ok (x0 == y0 && (x1 == y1 && (x2 == y2 && (x3 == y3 && (x4 == y4 && (x5 == y5)))))) w := by
  refine eqA_of Try.underlying26 (by kernel_rfl) ?_
  refine eqf_cons (by rfl) (by go_simp; rfl) (by go_simp; rfl) (by go_simp) ?_
  refine eqf_cons (by rfl) (by go_simp; rfl) (by go_simp; rfl) (by go_simp) ?_
  refine eqf_cons (by rfl) (by go_simp; rfl) (by go_simp; rfl) (by go_simp) ?_
  refine eqf_cons (by rfl) (by go_simp; rfl) (by go_simp; rfl) (by go_simp) ?_
  refine eqf_cons (by rfl) (by go_simp; rfl) (by go_simp; rfl) (by go_simp) ?_
  exact eqf_last (by rfl) (by go_simp; rfl) (by go_simp; rfl) (by go_simp)
end Go.Proofs.Ytgedkdofhonicaa.PA
-- Written by a program of this claim (wip/tools: mkprint.py, pr.sh) out of the translation: plain functions and their contracts. Lean checks every line.
namespace Go.Proofs.Ytgedkdofhonicaa.PA
open Go.RowKit Go.Proofs.YtgedkdofhonicaaW.PrintWords Go.Proofs.YtgedkdofhonicaaW.PrintLast Go.Proofs.YtgedkdofhonicaaW.PrintMore Go.Proofs.Ytgedkdofhonicaa.G
attribute [local go_sem] max2_int min2_int max_two min_two max_three min_three max_four min_four   -- for this text's walks alone
set_option linter.unusedVariables false
set_option linter.unusedSimpArgs false
attribute [local go_sem high] eqA26
def customsref27_BalanceAfter.f (a0_0 : Int) (a0_1 : Int) (a0_2 : Int) (a0_3 : Int) (a0_4 : Int) (a1 : Int) (a2 : Int) : Option (Int × Int × Int × Int × Int) := if a1 = 1 then (some (a0_0, wrap64 (a0_1 + a2), a0_2, a0_3, a0_4)) else (if a1 = 2 then (some (a0_0, wrap64 (a0_1 - a2), a0_2, a0_3, a0_4)) else (if a1 = 3 then (some (a0_0, a0_1, wrap64 (a0_2 + a2), a0_3, a0_4)) else (if a1 = 4 then (some (a0_0, a0_1, wrap64 (a0_2 - a2), a0_3, a0_4)) else (if a1 = 5 then (some (a0_0, a0_1, a0_2, wrap64 (a0_3 + a2), a0_4)) else (if a1 = 6 then (some (a0_0, a0_1, a0_2, wrap64 (a0_3 - a2), a0_4)) else (if a1 = 7 then (some (a0_0, a0_1, a0_2, a0_3, wrap64 (a0_4 + a2))) else (if a1 = 8 then (some (a0_0, a0_1, a0_2, a0_3, wrap64 (a0_4 - a2))) else (some (a0_0, a0_1, a0_2, a0_3, a0_4)))))))))
set_option maxHeartbeats 8000000 in
set_option maxRecDepth 100000 in
theorem customsref27_BalanceAfter.calls (a0_0 : Int) (a0_1 : Int) (a0_2 : Int) (a0_3 : Int) (a0_4 : Int) (a1 : Int) (a2 : Int) (r1 : Int) (r2 : Int) (r3 : Int) (r4 : Int) (r5 : Int) (w : World) (h : customsref27_BalanceAfter.f a0_0 a0_1 a0_2 a0_3 a0_4 a1 a2 = some (r1, r2, r3, r4, r5)) :
  Calls Try.prog 15 #[.agg #[.int .i64 a0_0, .int .i64 a0_1, .int .i64 a0_2, .int .i64 a0_3, .int .i64 a0_4], .int .i64 a1, .int .i64 a2] w fun e w' => e = .returned (.agg #[.int .i64 r1, .int .i64 r2, .int .i64 r3, .int .i64 r4, .int .i64 r5]) ∧ Below w.heap.size w w' := by
 have hu37 := Try.underlying37; have HB := Aside0.mk (Below.refl w.heap.size w); have H : (if a1 = 1 then (some (a0_0, wrap64 (a0_1 + a2), a0_2, a0_3, a0_4)) else (if a1 = 2 then (some (a0_0, wrap64 (a0_1 - a2), a0_2, a0_3, a0_4)) else (if a1 = 3 then (some (a0_0, a0_1, wrap64 (a0_2 + a2), a0_3, a0_4)) else (if a1 = 4 then (some (a0_0, a0_1, wrap64 (a0_2 - a2), a0_3, a0_4)) else (if a1 = 5 then (some (a0_0, a0_1, a0_2, wrap64 (a0_3 + a2), a0_4)) else (if a1 = 6 then (some (a0_0, a0_1, a0_2, wrap64 (a0_3 - a2), a0_4)) else (if a1 = 7 then (some (a0_0, a0_1, a0_2, a0_3, wrap64 (a0_4 + a2))) else (if a1 = 8 then (some (a0_0, a0_1, a0_2, a0_3, wrap64 (a0_4 - a2))) else (some (a0_0, a0_1, a0_2, a0_3, a0_4)))))))))) = some (r1, r2, r3, r4, r5) := h; clear h
 by_cases c4 : a1 = 1
 ·rw [if_pos c4] at H
  have c4b0 : (a1 == 1) = true := beq_iff_eq.mpr c4; have c4b1 : (a1 != 1) = false := bne_eq_false_iff_eq.mpr c4; clear c4
  simp only [Option.some.injEq, Prod.mk.injEq] at H
  obtain ⟨rfl, rfl, rfl, rfl, rfl⟩ := H
  go_enter Try.func15, Try.ntmps15
  go_wp2_with (first | ((with_reducible refine gate_dst (N := 3) rfl ?_); refine box_event ?hg (N := 3) ?hd (cs := #[.int .i64 a0_0, .int .i64 a0_1, .int .i64 a0_2, .int .i64 a0_3, .int .i64 a0_4]) (t := 37) ?hr ?_; (case hd => rfl); (case hg => rfl); (case hr => first | (go_simp; done) | (go_simp; rfl)); intro gb127 hg w5 hbox hb; have qb_ := below_both bel hb; have n0_ := Aside0.mk (qb_.1); have n1_ := Aside0.mk (hbox); have n3_ := Aside0.mk ((by rw [hg]; exact qb_.2 : w.heap.size ≤ gb127)); clear HB; have HB := n0_; have BK127 := n1_; have GE127 := n3_; clear qb_; clear n0_ n1_ n3_; clear hb hbox hg) | ((with_reducible refine gate_dst (N := 6) rfl ?_); refine box_event ?hg (N := 6) ?hd (cs := #[.int .i64 0, .int .i64 0, .int .i64 0, .int .i64 0, .int .i64 0]) (t := 37) ?hr ?_; (case hd => rfl); (case hg => rfl); (case hr => first | (go_simp; done) | (go_simp; rfl)); intro gb128 hg w6 hbox hb; have qb_ := below_both bel hb; have q1_ := blk_below2 (g := gb127) (o := .cells #[.int .i64 a0_0, .int .i64 a0_1, .int .i64 a0_2, .int .i64 a0_3, .int .i64 a0_4] 37 (0, 0)) blkx hb; have n0_ := Aside0.mk (q1_.1); have n1_ := Aside0.mk (qb_.1); have n2_ := Aside0.mk (hbox); have n4_ := Aside0.mk ((by rw [hg]; exact qb_.2 : w.heap.size ≤ gb128)); have n5_ := Aside0.mk ((by rw [hg]; exact Nat.ne_of_lt q1_.2 : gb127 ≠ gb128)); have n6_ := Aside0.mk (Ne.symm n5_.out); clear BK127; clear HB; have BK127 := n0_; have HB := n1_; have BK128 := n2_; have GE128 := n4_; have NB127_128 := n5_; have NB128_127 := n6_; clear q1_; clear qb_; clear n0_ n1_ n2_ n4_ n5_ n6_; clear hb hbox hg; have hnb7 := NB127_128.out; have hnc7 := NB128_127.out; obtain ⟨hcz8_0, hcz8_1, hcz8_2, hcz8_3, hcz8_4, hfz8_0, hfz8_1, hfz8_2, hfz8_3, hfz8_4⟩ := cells5 BK127.out; obtain ⟨hcz9_0, hcz9_1, hcz9_2, hcz9_3, hcz9_4, hfz9_0, hfz9_1, hfz9_2, hfz9_3, hfz9_4⟩ := cells5 BK128.out))
  refine bodyPost_ret (results_cell_row rfl _ _ gb128 37 #[.int .i64 a0_0, .int .i64 (wrap64 (a0_1 + a2)), .int .i64 a0_2, .int .i64 a0_3, .int .i64 a0_4] (0, 0) _ rfl (by (with_reducible repeat (first | refine blk_drewN ?_ _ | refine blk_drew ?_ | refine blk_alloc ?_ _)); refine blk_put (cs := #[.int .i64 a0_0, .int .i64 (wrap64 (a0_1 + a2)), .int .i64 a0_2, .int .i64 a0_3, .int .i64 0]) ?_ 4 _ rfl; refine blk_put (cs := #[.int .i64 a0_0, .int .i64 (wrap64 (a0_1 + a2)), .int .i64 a0_2, .int .i64 0, .int .i64 0]) ?_ 3 _ rfl; refine blk_put (cs := #[.int .i64 a0_0, .int .i64 (wrap64 (a0_1 + a2)), .int .i64 0, .int .i64 0, .int .i64 0]) ?_ 2 _ rfl; refine blk_put (cs := #[.int .i64 a0_0, .int .i64 0, .int .i64 0, .int .i64 0, .int .i64 0]) ?_ 1 _ rfl; refine blk_put (cs := #[.int .i64 0, .int .i64 0, .int .i64 0, .int .i64 0, .int .i64 0]) ?_ 0 _ rfl; refine blk_far ?_ NB128_127.out _; (with_reducible repeat (first | refine blk_drewN ?_ _ | refine blk_drew ?_ | refine blk_alloc ?_ _)); exact BK128.out) Try.underlying37 rfl (by kernel_rfl)) rfl ?_
  exact ⟨by first | rfl | (simp [errW_none, errW_some] <;> rfl) | (simp [*, errW_none, errW_some] <;> rfl), bel⟩
 ·rw [if_neg c4] at H
  have c4b0 : (a1 == 1) = false := beq_eq_false_iff_ne.mpr c4; have c4b1 : (a1 != 1) = true := bne_iff_ne.mpr c4
  by_cases c10 : a1 = 2
  ·rw [if_pos c10] at H
   have c10b0 : (a1 == 2) = true := beq_iff_eq.mpr c10; have c10b1 : (a1 != 2) = false := bne_eq_false_iff_eq.mpr c10; clear c10
   simp only [Option.some.injEq, Prod.mk.injEq] at H
   obtain ⟨rfl, rfl, rfl, rfl, rfl⟩ := H
   go_enter Try.func15, Try.ntmps15
   go_wp2_with (first | ((with_reducible refine gate_dst (N := 3) rfl ?_); refine box_event ?hg (N := 3) ?hd (cs := #[.int .i64 a0_0, .int .i64 a0_1, .int .i64 a0_2, .int .i64 a0_3, .int .i64 a0_4]) (t := 37) ?hr ?_; (case hd => rfl); (case hg => rfl); (case hr => first | (go_simp; done) | (go_simp; rfl)); intro gb127 hg w11 hbox hb; have qb_ := below_both bel hb; have n0_ := Aside0.mk (qb_.1); have n1_ := Aside0.mk (hbox); have n3_ := Aside0.mk ((by rw [hg]; exact qb_.2 : w.heap.size ≤ gb127)); clear HB; have HB := n0_; have BK127 := n1_; have GE127 := n3_; clear qb_; clear n0_ n1_ n3_; clear hb hbox hg) | ((with_reducible refine gate_dst (N := 6) rfl ?_); refine box_event ?hg (N := 6) ?hd (cs := #[.int .i64 0, .int .i64 0, .int .i64 0, .int .i64 0, .int .i64 0]) (t := 37) ?hr ?_; (case hd => rfl); (case hg => rfl); (case hr => first | (go_simp; done) | (go_simp; rfl)); intro gb128 hg w12 hbox hb; have qb_ := below_both bel hb; have q1_ := blk_below2 (g := gb127) (o := .cells #[.int .i64 a0_0, .int .i64 a0_1, .int .i64 a0_2, .int .i64 a0_3, .int .i64 a0_4] 37 (0, 0)) blkx hb; have n0_ := Aside0.mk (q1_.1); have n1_ := Aside0.mk (qb_.1); have n2_ := Aside0.mk (hbox); have n4_ := Aside0.mk ((by rw [hg]; exact qb_.2 : w.heap.size ≤ gb128)); have n5_ := Aside0.mk ((by rw [hg]; exact Nat.ne_of_lt q1_.2 : gb127 ≠ gb128)); have n6_ := Aside0.mk (Ne.symm n5_.out); clear BK127; clear HB; have BK127 := n0_; have HB := n1_; have BK128 := n2_; have GE128 := n4_; have NB127_128 := n5_; have NB128_127 := n6_; clear q1_; clear qb_; clear n0_ n1_ n2_ n4_ n5_ n6_; clear hb hbox hg; have hnb13 := NB127_128.out; have hnc13 := NB128_127.out; obtain ⟨hcz14_0, hcz14_1, hcz14_2, hcz14_3, hcz14_4, hfz14_0, hfz14_1, hfz14_2, hfz14_3, hfz14_4⟩ := cells5 BK127.out; obtain ⟨hcz15_0, hcz15_1, hcz15_2, hcz15_3, hcz15_4, hfz15_0, hfz15_1, hfz15_2, hfz15_3, hfz15_4⟩ := cells5 BK128.out))
   refine bodyPost_ret (results_cell_row rfl _ _ gb128 37 #[.int .i64 a0_0, .int .i64 (wrap64 (a0_1 - a2)), .int .i64 a0_2, .int .i64 a0_3, .int .i64 a0_4] (0, 0) _ rfl (by (with_reducible repeat (first | refine blk_drewN ?_ _ | refine blk_drew ?_ | refine blk_alloc ?_ _)); refine blk_put (cs := #[.int .i64 a0_0, .int .i64 (wrap64 (a0_1 - a2)), .int .i64 a0_2, .int .i64 a0_3, .int .i64 0]) ?_ 4 _ rfl; refine blk_put (cs := #[.int .i64 a0_0, .int .i64 (wrap64 (a0_1 - a2)), .int .i64 a0_2, .int .i64 0, .int .i64 0]) ?_ 3 _ rfl; refine blk_put (cs := #[.int .i64 a0_0, .int .i64 (wrap64 (a0_1 - a2)), .int .i64 0, .int .i64 0, .int .i64 0]) ?_ 2 _ rfl; refine blk_put (cs := #[.int .i64 a0_0, .int .i64 0, .int .i64 0, .int .i64 0, .int .i64 0]) ?_ 1 _ rfl; refine blk_put (cs := #[.int .i64 0, .int .i64 0, .int .i64 0, .int .i64 0, .int .i64 0]) ?_ 0 _ rfl; refine blk_far ?_ NB128_127.out _; (with_reducible repeat (first | refine blk_drewN ?_ _ | refine blk_drew ?_ | refine blk_alloc ?_ _)); exact BK128.out) Try.underlying37 rfl (by kernel_rfl)) rfl ?_
   exact ⟨by first | rfl | (simp [errW_none, errW_some] <;> rfl) | (simp [*, errW_none, errW_some] <;> rfl), bel⟩
  ·rw [if_neg c10] at H
   have c10b0 : (a1 == 2) = false := beq_eq_false_iff_ne.mpr c10; have c10b1 : (a1 != 2) = true := bne_iff_ne.mpr c10
   by_cases c16 : a1 = 3
   ·rw [if_pos c16] at H
    have c16b0 : (a1 == 3) = true := beq_iff_eq.mpr c16; have c16b1 : (a1 != 3) = false := bne_eq_false_iff_eq.mpr c16; clear c16
    simp only [Option.some.injEq, Prod.mk.injEq] at H
    obtain ⟨rfl, rfl, rfl, rfl, rfl⟩ := H
    go_enter Try.func15, Try.ntmps15
    go_wp2_with (first | ((with_reducible refine gate_dst (N := 3) rfl ?_); refine box_event ?hg (N := 3) ?hd (cs := #[.int .i64 a0_0, .int .i64 a0_1, .int .i64 a0_2, .int .i64 a0_3, .int .i64 a0_4]) (t := 37) ?hr ?_; (case hd => rfl); (case hg => rfl); (case hr => first | (go_simp; done) | (go_simp; rfl)); intro gb127 hg w17 hbox hb; have qb_ := below_both bel hb; have n0_ := Aside0.mk (qb_.1); have n1_ := Aside0.mk (hbox); have n3_ := Aside0.mk ((by rw [hg]; exact qb_.2 : w.heap.size ≤ gb127)); clear HB; have HB := n0_; have BK127 := n1_; have GE127 := n3_; clear qb_; clear n0_ n1_ n3_; clear hb hbox hg) | ((with_reducible refine gate_dst (N := 6) rfl ?_); refine box_event ?hg (N := 6) ?hd (cs := #[.int .i64 0, .int .i64 0, .int .i64 0, .int .i64 0, .int .i64 0]) (t := 37) ?hr ?_; (case hd => rfl); (case hg => rfl); (case hr => first | (go_simp; done) | (go_simp; rfl)); intro gb128 hg w18 hbox hb; have qb_ := below_both bel hb; have q1_ := blk_below2 (g := gb127) (o := .cells #[.int .i64 a0_0, .int .i64 a0_1, .int .i64 a0_2, .int .i64 a0_3, .int .i64 a0_4] 37 (0, 0)) blkx hb; have n0_ := Aside0.mk (q1_.1); have n1_ := Aside0.mk (qb_.1); have n2_ := Aside0.mk (hbox); have n4_ := Aside0.mk ((by rw [hg]; exact qb_.2 : w.heap.size ≤ gb128)); have n5_ := Aside0.mk ((by rw [hg]; exact Nat.ne_of_lt q1_.2 : gb127 ≠ gb128)); have n6_ := Aside0.mk (Ne.symm n5_.out); clear BK127; clear HB; have BK127 := n0_; have HB := n1_; have BK128 := n2_; have GE128 := n4_; have NB127_128 := n5_; have NB128_127 := n6_; clear q1_; clear qb_; clear n0_ n1_ n2_ n4_ n5_ n6_; clear hb hbox hg; have hnb19 := NB127_128.out; have hnc19 := NB128_127.out; obtain ⟨hcz20_0, hcz20_1, hcz20_2, hcz20_3, hcz20_4, hfz20_0, hfz20_1, hfz20_2, hfz20_3, hfz20_4⟩ := cells5 BK127.out; obtain ⟨hcz21_0, hcz21_1, hcz21_2, hcz21_3, hcz21_4, hfz21_0, hfz21_1, hfz21_2, hfz21_3, hfz21_4⟩ := cells5 BK128.out))
    refine bodyPost_ret (results_cell_row rfl _ _ gb128 37 #[.int .i64 a0_0, .int .i64 a0_1, .int .i64 (wrap64 (a0_2 + a2)), .int .i64 a0_3, .int .i64 a0_4] (0, 0) _ rfl (by (with_reducible repeat (first | refine blk_drewN ?_ _ | refine blk_drew ?_ | refine blk_alloc ?_ _)); refine blk_put (cs := #[.int .i64 a0_0, .int .i64 a0_1, .int .i64 (wrap64 (a0_2 + a2)), .int .i64 a0_3, .int .i64 0]) ?_ 4 _ rfl; refine blk_put (cs := #[.int .i64 a0_0, .int .i64 a0_1, .int .i64 (wrap64 (a0_2 + a2)), .int .i64 0, .int .i64 0]) ?_ 3 _ rfl; refine blk_put (cs := #[.int .i64 a0_0, .int .i64 a0_1, .int .i64 0, .int .i64 0, .int .i64 0]) ?_ 2 _ rfl; refine blk_put (cs := #[.int .i64 a0_0, .int .i64 0, .int .i64 0, .int .i64 0, .int .i64 0]) ?_ 1 _ rfl; refine blk_put (cs := #[.int .i64 0, .int .i64 0, .int .i64 0, .int .i64 0, .int .i64 0]) ?_ 0 _ rfl; refine blk_far ?_ NB128_127.out _; (with_reducible repeat (first | refine blk_drewN ?_ _ | refine blk_drew ?_ | refine blk_alloc ?_ _)); exact BK128.out) Try.underlying37 rfl (by kernel_rfl)) rfl ?_
    exact ⟨by first | rfl | (simp [errW_none, errW_some] <;> rfl) | (simp [*, errW_none, errW_some] <;> rfl), bel⟩
   ·rw [if_neg c16] at H
    have c16b0 : (a1 == 3) = false := beq_eq_false_iff_ne.mpr c16; have c16b1 : (a1 != 3) = true := bne_iff_ne.mpr c16
    by_cases c22 : a1 = 4
    ·rw [if_pos c22] at H
     have c22b0 : (a1 == 4) = true := beq_iff_eq.mpr c22; have c22b1 : (a1 != 4) = false := bne_eq_false_iff_eq.mpr c22; clear c22
     simp only [Option.some.injEq, Prod.mk.injEq] at H
     obtain ⟨rfl, rfl, rfl, rfl, rfl⟩ := H
     go_enter Try.func15, Try.ntmps15
     go_wp2_with (first | ((with_reducible refine gate_dst (N := 3) rfl ?_); refine box_event ?hg (N := 3) ?hd (cs := #[.int .i64 a0_0, .int .i64 a0_1, .int .i64 a0_2, .int .i64 a0_3, .int .i64 a0_4]) (t := 37) ?hr ?_; (case hd => rfl); (case hg => rfl); (case hr => first | (go_simp; done) | (go_simp; rfl)); intro gb127 hg w23 hbox hb; have qb_ := below_both bel hb; have n0_ := Aside0.mk (qb_.1); have n1_ := Aside0.mk (hbox); have n3_ := Aside0.mk ((by rw [hg]; exact qb_.2 : w.heap.size ≤ gb127)); clear HB; have HB := n0_; have BK127 := n1_; have GE127 := n3_; clear qb_; clear n0_ n1_ n3_; clear hb hbox hg) | ((with_reducible refine gate_dst (N := 6) rfl ?_); refine box_event ?hg (N := 6) ?hd (cs := #[.int .i64 0, .int .i64 0, .int .i64 0, .int .i64 0, .int .i64 0]) (t := 37) ?hr ?_; (case hd => rfl); (case hg => rfl); (case hr => first | (go_simp; done) | (go_simp; rfl)); intro gb128 hg w24 hbox hb; have qb_ := below_both bel hb; have q1_ := blk_below2 (g := gb127) (o := .cells #[.int .i64 a0_0, .int .i64 a0_1, .int .i64 a0_2, .int .i64 a0_3, .int .i64 a0_4] 37 (0, 0)) blkx hb; have n0_ := Aside0.mk (q1_.1); have n1_ := Aside0.mk (qb_.1); have n2_ := Aside0.mk (hbox); have n4_ := Aside0.mk ((by rw [hg]; exact qb_.2 : w.heap.size ≤ gb128)); have n5_ := Aside0.mk ((by rw [hg]; exact Nat.ne_of_lt q1_.2 : gb127 ≠ gb128)); have n6_ := Aside0.mk (Ne.symm n5_.out); clear BK127; clear HB; have BK127 := n0_; have HB := n1_; have BK128 := n2_; have GE128 := n4_; have NB127_128 := n5_; have NB128_127 := n6_; clear q1_; clear qb_; clear n0_ n1_ n2_ n4_ n5_ n6_; clear hb hbox hg; have hnb25 := NB127_128.out; have hnc25 := NB128_127.out; obtain ⟨hcz26_0, hcz26_1, hcz26_2, hcz26_3, hcz26_4, hfz26_0, hfz26_1, hfz26_2, hfz26_3, hfz26_4⟩ := cells5 BK127.out; obtain ⟨hcz27_0, hcz27_1, hcz27_2, hcz27_3, hcz27_4, hfz27_0, hfz27_1, hfz27_2, hfz27_3, hfz27_4⟩ := cells5 BK128.out))
     refine bodyPost_ret (results_cell_row rfl _ _ gb128 37 #[.int .i64 a0_0, .int .i64 a0_1, .int .i64 (wrap64 (a0_2 - a2)), .int .i64 a0_3, .int .i64 a0_4] (0, 0) _ rfl (by (with_reducible repeat (first | refine blk_drewN ?_ _ | refine blk_drew ?_ | refine blk_alloc ?_ _)); refine blk_put (cs := #[.int .i64 a0_0, .int .i64 a0_1, .int .i64 (wrap64 (a0_2 - a2)), .int .i64 a0_3, .int .i64 0]) ?_ 4 _ rfl; refine blk_put (cs := #[.int .i64 a0_0, .int .i64 a0_1, .int .i64 (wrap64 (a0_2 - a2)), .int .i64 0, .int .i64 0]) ?_ 3 _ rfl; refine blk_put (cs := #[.int .i64 a0_0, .int .i64 a0_1, .int .i64 0, .int .i64 0, .int .i64 0]) ?_ 2 _ rfl; refine blk_put (cs := #[.int .i64 a0_0, .int .i64 0, .int .i64 0, .int .i64 0, .int .i64 0]) ?_ 1 _ rfl; refine blk_put (cs := #[.int .i64 0, .int .i64 0, .int .i64 0, .int .i64 0, .int .i64 0]) ?_ 0 _ rfl; refine blk_far ?_ NB128_127.out _; (with_reducible repeat (first | refine blk_drewN ?_ _ | refine blk_drew ?_ | refine blk_alloc ?_ _)); exact BK128.out) Try.underlying37 rfl (by kernel_rfl)) rfl ?_
     exact ⟨by first | rfl | (simp [errW_none, errW_some] <;> rfl) | (simp [*, errW_none, errW_some] <;> rfl), bel⟩
    ·rw [if_neg c22] at H
     have c22b0 : (a1 == 4) = false := beq_eq_false_iff_ne.mpr c22; have c22b1 : (a1 != 4) = true := bne_iff_ne.mpr c22
     by_cases c28 : a1 = 5
     ·rw [if_pos c28] at H
      have c28b0 : (a1 == 5) = true := beq_iff_eq.mpr c28; have c28b1 : (a1 != 5) = false := bne_eq_false_iff_eq.mpr c28; clear c28
      simp only [Option.some.injEq, Prod.mk.injEq] at H
      obtain ⟨rfl, rfl, rfl, rfl, rfl⟩ := H
      go_enter Try.func15, Try.ntmps15
      go_wp2_with (first | ((with_reducible refine gate_dst (N := 3) rfl ?_); refine box_event ?hg (N := 3) ?hd (cs := #[.int .i64 a0_0, .int .i64 a0_1, .int .i64 a0_2, .int .i64 a0_3, .int .i64 a0_4]) (t := 37) ?hr ?_; (case hd => rfl); (case hg => rfl); (case hr => first | (go_simp; done) | (go_simp; rfl)); intro gb127 hg w29 hbox hb; have qb_ := below_both bel hb; have n0_ := Aside0.mk (qb_.1); have n1_ := Aside0.mk (hbox); have n3_ := Aside0.mk ((by rw [hg]; exact qb_.2 : w.heap.size ≤ gb127)); clear HB; have HB := n0_; have BK127 := n1_; have GE127 := n3_; clear qb_; clear n0_ n1_ n3_; clear hb hbox hg) | ((with_reducible refine gate_dst (N := 6) rfl ?_); refine box_event ?hg (N := 6) ?hd (cs := #[.int .i64 0, .int .i64 0, .int .i64 0, .int .i64 0, .int .i64 0]) (t := 37) ?hr ?_; (case hd => rfl); (case hg => rfl); (case hr => first | (go_simp; done) | (go_simp; rfl)); intro gb128 hg w30 hbox hb; have qb_ := below_both bel hb; have q1_ := blk_below2 (g := gb127) (o := .cells #[.int .i64 a0_0, .int .i64 a0_1, .int .i64 a0_2, .int .i64 a0_3, .int .i64 a0_4] 37 (0, 0)) blkx hb; have n0_ := Aside0.mk (q1_.1); have n1_ := Aside0.mk (qb_.1); have n2_ := Aside0.mk (hbox); have n4_ := Aside0.mk ((by rw [hg]; exact qb_.2 : w.heap.size ≤ gb128)); have n5_ := Aside0.mk ((by rw [hg]; exact Nat.ne_of_lt q1_.2 : gb127 ≠ gb128)); have n6_ := Aside0.mk (Ne.symm n5_.out); clear BK127; clear HB; have BK127 := n0_; have HB := n1_; have BK128 := n2_; have GE128 := n4_; have NB127_128 := n5_; have NB128_127 := n6_; clear q1_; clear qb_; clear n0_ n1_ n2_ n4_ n5_ n6_; clear hb hbox hg; have hnb31 := NB127_128.out; have hnc31 := NB128_127.out; obtain ⟨hcz32_0, hcz32_1, hcz32_2, hcz32_3, hcz32_4, hfz32_0, hfz32_1, hfz32_2, hfz32_3, hfz32_4⟩ := cells5 BK127.out; obtain ⟨hcz33_0, hcz33_1, hcz33_2, hcz33_3, hcz33_4, hfz33_0, hfz33_1, hfz33_2, hfz33_3, hfz33_4⟩ := cells5 BK128.out))
      refine bodyPost_ret (results_cell_row rfl _ _ gb128 37 #[.int .i64 a0_0, .int .i64 a0_1, .int .i64 a0_2, .int .i64 (wrap64 (a0_3 + a2)), .int .i64 a0_4] (0, 0) _ rfl (by (with_reducible repeat (first | refine blk_drewN ?_ _ | refine blk_drew ?_ | refine blk_alloc ?_ _)); refine blk_put (cs := #[.int .i64 a0_0, .int .i64 a0_1, .int .i64 a0_2, .int .i64 (wrap64 (a0_3 + a2)), .int .i64 0]) ?_ 4 _ rfl; refine blk_put (cs := #[.int .i64 a0_0, .int .i64 a0_1, .int .i64 a0_2, .int .i64 0, .int .i64 0]) ?_ 3 _ rfl; refine blk_put (cs := #[.int .i64 a0_0, .int .i64 a0_1, .int .i64 0, .int .i64 0, .int .i64 0]) ?_ 2 _ rfl; refine blk_put (cs := #[.int .i64 a0_0, .int .i64 0, .int .i64 0, .int .i64 0, .int .i64 0]) ?_ 1 _ rfl; refine blk_put (cs := #[.int .i64 0, .int .i64 0, .int .i64 0, .int .i64 0, .int .i64 0]) ?_ 0 _ rfl; refine blk_far ?_ NB128_127.out _; (with_reducible repeat (first | refine blk_drewN ?_ _ | refine blk_drew ?_ | refine blk_alloc ?_ _)); exact BK128.out) Try.underlying37 rfl (by kernel_rfl)) rfl ?_
      exact ⟨by first | rfl | (simp [errW_none, errW_some] <;> rfl) | (simp [*, errW_none, errW_some] <;> rfl), bel⟩
     ·rw [if_neg c28] at H
      have c28b0 : (a1 == 5) = false := beq_eq_false_iff_ne.mpr c28; have c28b1 : (a1 != 5) = true := bne_iff_ne.mpr c28
      by_cases c34 : a1 = 6
      ·rw [if_pos c34] at H
       have c34b0 : (a1 == 6) = true := beq_iff_eq.mpr c34; have c34b1 : (a1 != 6) = false := bne_eq_false_iff_eq.mpr c34; clear c34
       simp only [Option.some.injEq, Prod.mk.injEq] at H
       obtain ⟨rfl, rfl, rfl, rfl, rfl⟩ := H
       go_enter Try.func15, Try.ntmps15
       go_wp2_with (first | ((with_reducible refine gate_dst (N := 3) rfl ?_); refine box_event ?hg (N := 3) ?hd (cs := #[.int .i64 a0_0, .int .i64 a0_1, .int .i64 a0_2, .int .i64 a0_3, .int .i64 a0_4]) (t := 37) ?hr ?_; (case hd => rfl); (case hg => rfl); (case hr => first | (go_simp; done) | (go_simp; rfl)); intro gb127 hg w35 hbox hb; have qb_ := below_both bel hb; have n0_ := Aside0.mk (qb_.1); have n1_ := Aside0.mk (hbox); have n3_ := Aside0.mk ((by rw [hg]; exact qb_.2 : w.heap.size ≤ gb127)); clear HB; have HB := n0_; have BK127 := n1_; have GE127 := n3_; clear qb_; clear n0_ n1_ n3_; clear hb hbox hg) | ((with_reducible refine gate_dst (N := 6) rfl ?_); refine box_event ?hg (N := 6) ?hd (cs := #[.int .i64 0, .int .i64 0, .int .i64 0, .int .i64 0, .int .i64 0]) (t := 37) ?hr ?_; (case hd => rfl); (case hg => rfl); (case hr => first | (go_simp; done) | (go_simp; rfl)); intro gb128 hg w36 hbox hb; have qb_ := below_both bel hb; have q1_ := blk_below2 (g := gb127) (o := .cells #[.int .i64 a0_0, .int .i64 a0_1, .int .i64 a0_2, .int .i64 a0_3, .int .i64 a0_4] 37 (0, 0)) blkx hb; have n0_ := Aside0.mk (q1_.1); have n1_ := Aside0.mk (qb_.1); have n2_ := Aside0.mk (hbox); have n4_ := Aside0.mk ((by rw [hg]; exact qb_.2 : w.heap.size ≤ gb128)); have n5_ := Aside0.mk ((by rw [hg]; exact Nat.ne_of_lt q1_.2 : gb127 ≠ gb128)); have n6_ := Aside0.mk (Ne.symm n5_.out); clear BK127; clear HB; have BK127 := n0_; have HB := n1_; have BK128 := n2_; have GE128 := n4_; have NB127_128 := n5_; have NB128_127 := n6_; clear q1_; clear qb_; clear n0_ n1_ n2_ n4_ n5_ n6_; clear hb hbox hg; have hnb37 := NB127_128.out; have hnc37 := NB128_127.out; obtain ⟨hcz38_0, hcz38_1, hcz38_2, hcz38_3, hcz38_4, hfz38_0, hfz38_1, hfz38_2, hfz38_3, hfz38_4⟩ := cells5 BK127.out; obtain ⟨hcz39_0, hcz39_1, hcz39_2, hcz39_3, hcz39_4, hfz39_0, hfz39_1, hfz39_2, hfz39_3, hfz39_4⟩ := cells5 BK128.out))
       refine bodyPost_ret (results_cell_row rfl _ _ gb128 37 #[.int .i64 a0_0, .int .i64 a0_1, .int .i64 a0_2, .int .i64 (wrap64 (a0_3 - a2)), .int .i64 a0_4] (0, 0) _ rfl (by (with_reducible repeat (first | refine blk_drewN ?_ _ | refine blk_drew ?_ | refine blk_alloc ?_ _)); refine blk_put (cs := #[.int .i64 a0_0, .int .i64 a0_1, .int .i64 a0_2, .int .i64 (wrap64 (a0_3 - a2)), .int .i64 0]) ?_ 4 _ rfl; refine blk_put (cs := #[.int .i64 a0_0, .int .i64 a0_1, .int .i64 a0_2, .int .i64 0, .int .i64 0]) ?_ 3 _ rfl; refine blk_put (cs := #[.int .i64 a0_0, .int .i64 a0_1, .int .i64 0, .int .i64 0, .int .i64 0]) ?_ 2 _ rfl; refine blk_put (cs := #[.int .i64 a0_0, .int .i64 0, .int .i64 0, .int .i64 0, .int .i64 0]) ?_ 1 _ rfl; refine blk_put (cs := #[.int .i64 0, .int .i64 0, .int .i64 0, .int .i64 0, .int .i64 0]) ?_ 0 _ rfl; refine blk_far ?_ NB128_127.out _; (with_reducible repeat (first | refine blk_drewN ?_ _ | refine blk_drew ?_ | refine blk_alloc ?_ _)); exact BK128.out) Try.underlying37 rfl (by kernel_rfl)) rfl ?_
       exact ⟨by first | rfl | (simp [errW_none, errW_some] <;> rfl) | (simp [*, errW_none, errW_some] <;> rfl), bel⟩
      ·rw [if_neg c34] at H
       have c34b0 : (a1 == 6) = false := beq_eq_false_iff_ne.mpr c34; have c34b1 : (a1 != 6) = true := bne_iff_ne.mpr c34
       by_cases c40 : a1 = 7
       ·rw [if_pos c40] at H
        have c40b0 : (a1 == 7) = true := beq_iff_eq.mpr c40; have c40b1 : (a1 != 7) = false := bne_eq_false_iff_eq.mpr c40; clear c40
        simp only [Option.some.injEq, Prod.mk.injEq] at H
        obtain ⟨rfl, rfl, rfl, rfl, rfl⟩ := H
        go_enter Try.func15, Try.ntmps15
        go_wp2_with (first | ((with_reducible refine gate_dst (N := 3) rfl ?_); refine box_event ?hg (N := 3) ?hd (cs := #[.int .i64 a0_0, .int .i64 a0_1, .int .i64 a0_2, .int .i64 a0_3, .int .i64 a0_4]) (t := 37) ?hr ?_; (case hd => rfl); (case hg => rfl); (case hr => first | (go_simp; done) | (go_simp; rfl)); intro gb127 hg w41 hbox hb; have qb_ := below_both bel hb; have n0_ := Aside0.mk (qb_.1); have n1_ := Aside0.mk (hbox); have n3_ := Aside0.mk ((by rw [hg]; exact qb_.2 : w.heap.size ≤ gb127)); clear HB; have HB := n0_; have BK127 := n1_; have GE127 := n3_; clear qb_; clear n0_ n1_ n3_; clear hb hbox hg) | ((with_reducible refine gate_dst (N := 6) rfl ?_); refine box_event ?hg (N := 6) ?hd (cs := #[.int .i64 0, .int .i64 0, .int .i64 0, .int .i64 0, .int .i64 0]) (t := 37) ?hr ?_; (case hd => rfl); (case hg => rfl); (case hr => first | (go_simp; done) | (go_simp; rfl)); intro gb128 hg w42 hbox hb; have qb_ := below_both bel hb; have q1_ := blk_below2 (g := gb127) (o := .cells #[.int .i64 a0_0, .int .i64 a0_1, .int .i64 a0_2, .int .i64 a0_3, .int .i64 a0_4] 37 (0, 0)) blkx hb; have n0_ := Aside0.mk (q1_.1); have n1_ := Aside0.mk (qb_.1); have n2_ := Aside0.mk (hbox); have n4_ := Aside0.mk ((by rw [hg]; exact qb_.2 : w.heap.size ≤ gb128)); have n5_ := Aside0.mk ((by rw [hg]; exact Nat.ne_of_lt q1_.2 : gb127 ≠ gb128)); have n6_ := Aside0.mk (Ne.symm n5_.out); clear BK127; clear HB; have BK127 := n0_; have HB := n1_; have BK128 := n2_; have GE128 := n4_; have NB127_128 := n5_; have NB128_127 := n6_; clear q1_; clear qb_; clear n0_ n1_ n2_ n4_ n5_ n6_; clear hb hbox hg; have hnb43 := NB127_128.out; have hnc43 := NB128_127.out; obtain ⟨hcz44_0, hcz44_1, hcz44_2, hcz44_3, hcz44_4, hfz44_0, hfz44_1, hfz44_2, hfz44_3, hfz44_4⟩ := cells5 BK127.out; obtain ⟨hcz45_0, hcz45_1, hcz45_2, hcz45_3, hcz45_4, hfz45_0, hfz45_1, hfz45_2, hfz45_3, hfz45_4⟩ := cells5 BK128.out))
        refine bodyPost_ret (results_cell_row rfl _ _ gb128 37 #[.int .i64 a0_0, .int .i64 a0_1, .int .i64 a0_2, .int .i64 a0_3, .int .i64 (wrap64 (a0_4 + a2))] (0, 0) _ rfl (by (with_reducible repeat (first | refine blk_drewN ?_ _ | refine blk_drew ?_ | refine blk_alloc ?_ _)); refine blk_put (cs := #[.int .i64 a0_0, .int .i64 a0_1, .int .i64 a0_2, .int .i64 a0_3, .int .i64 0]) ?_ 4 _ rfl; refine blk_put (cs := #[.int .i64 a0_0, .int .i64 a0_1, .int .i64 a0_2, .int .i64 0, .int .i64 0]) ?_ 3 _ rfl; refine blk_put (cs := #[.int .i64 a0_0, .int .i64 a0_1, .int .i64 0, .int .i64 0, .int .i64 0]) ?_ 2 _ rfl; refine blk_put (cs := #[.int .i64 a0_0, .int .i64 0, .int .i64 0, .int .i64 0, .int .i64 0]) ?_ 1 _ rfl; refine blk_put (cs := #[.int .i64 0, .int .i64 0, .int .i64 0, .int .i64 0, .int .i64 0]) ?_ 0 _ rfl; refine blk_far ?_ NB128_127.out _; (with_reducible repeat (first | refine blk_drewN ?_ _ | refine blk_drew ?_ | refine blk_alloc ?_ _)); exact BK128.out) Try.underlying37 rfl (by kernel_rfl)) rfl ?_
        exact ⟨by first | rfl | (simp [errW_none, errW_some] <;> rfl) | (simp [*, errW_none, errW_some] <;> rfl), bel⟩
       ·rw [if_neg c40] at H
        have c40b0 : (a1 == 7) = false := beq_eq_false_iff_ne.mpr c40; have c40b1 : (a1 != 7) = true := bne_iff_ne.mpr c40
        by_cases c46 : a1 = 8
        ·rw [if_pos c46] at H
         have c46b0 : (a1 == 8) = true := beq_iff_eq.mpr c46; have c46b1 : (a1 != 8) = false := bne_eq_false_iff_eq.mpr c46; clear c46
         simp only [Option.some.injEq, Prod.mk.injEq] at H
         obtain ⟨rfl, rfl, rfl, rfl, rfl⟩ := H
         go_enter Try.func15, Try.ntmps15
         go_wp2_with (first | ((with_reducible refine gate_dst (N := 3) rfl ?_); refine box_event ?hg (N := 3) ?hd (cs := #[.int .i64 a0_0, .int .i64 a0_1, .int .i64 a0_2, .int .i64 a0_3, .int .i64 a0_4]) (t := 37) ?hr ?_; (case hd => rfl); (case hg => rfl); (case hr => first | (go_simp; done) | (go_simp; rfl)); intro gb127 hg w47 hbox hb; have qb_ := below_both bel hb; have n0_ := Aside0.mk (qb_.1); have n1_ := Aside0.mk (hbox); have n3_ := Aside0.mk ((by rw [hg]; exact qb_.2 : w.heap.size ≤ gb127)); clear HB; have HB := n0_; have BK127 := n1_; have GE127 := n3_; clear qb_; clear n0_ n1_ n3_; clear hb hbox hg) | ((with_reducible refine gate_dst (N := 6) rfl ?_); refine box_event ?hg (N := 6) ?hd (cs := #[.int .i64 0, .int .i64 0, .int .i64 0, .int .i64 0, .int .i64 0]) (t := 37) ?hr ?_; (case hd => rfl); (case hg => rfl); (case hr => first | (go_simp; done) | (go_simp; rfl)); intro gb128 hg w48 hbox hb; have qb_ := below_both bel hb; have q1_ := blk_below2 (g := gb127) (o := .cells #[.int .i64 a0_0, .int .i64 a0_1, .int .i64 a0_2, .int .i64 a0_3, .int .i64 a0_4] 37 (0, 0)) blkx hb; have n0_ := Aside0.mk (q1_.1); have n1_ := Aside0.mk (qb_.1); have n2_ := Aside0.mk (hbox); have n4_ := Aside0.mk ((by rw [hg]; exact qb_.2 : w.heap.size ≤ gb128)); have n5_ := Aside0.mk ((by rw [hg]; exact Nat.ne_of_lt q1_.2 : gb127 ≠ gb128)); have n6_ := Aside0.mk (Ne.symm n5_.out); clear BK127; clear HB; have BK127 := n0_; have HB := n1_; have BK128 := n2_; have GE128 := n4_; have NB127_128 := n5_; have NB128_127 := n6_; clear q1_; clear qb_; clear n0_ n1_ n2_ n4_ n5_ n6_; clear hb hbox hg; have hnb49 := NB127_128.out; have hnc49 := NB128_127.out; obtain ⟨hcz50_0, hcz50_1, hcz50_2, hcz50_3, hcz50_4, hfz50_0, hfz50_1, hfz50_2, hfz50_3, hfz50_4⟩ := cells5 BK127.out; obtain ⟨hcz51_0, hcz51_1, hcz51_2, hcz51_3, hcz51_4, hfz51_0, hfz51_1, hfz51_2, hfz51_3, hfz51_4⟩ := cells5 BK128.out))
         refine bodyPost_ret (results_cell_row rfl _ _ gb128 37 #[.int .i64 a0_0, .int .i64 a0_1, .int .i64 a0_2, .int .i64 a0_3, .int .i64 (wrap64 (a0_4 - a2))] (0, 0) _ rfl (by (with_reducible repeat (first | refine blk_drewN ?_ _ | refine blk_drew ?_ | refine blk_alloc ?_ _)); refine blk_put (cs := #[.int .i64 a0_0, .int .i64 a0_1, .int .i64 a0_2, .int .i64 a0_3, .int .i64 0]) ?_ 4 _ rfl; refine blk_put (cs := #[.int .i64 a0_0, .int .i64 a0_1, .int .i64 a0_2, .int .i64 0, .int .i64 0]) ?_ 3 _ rfl; refine blk_put (cs := #[.int .i64 a0_0, .int .i64 a0_1, .int .i64 0, .int .i64 0, .int .i64 0]) ?_ 2 _ rfl; refine blk_put (cs := #[.int .i64 a0_0, .int .i64 0, .int .i64 0, .int .i64 0, .int .i64 0]) ?_ 1 _ rfl; refine blk_put (cs := #[.int .i64 0, .int .i64 0, .int .i64 0, .int .i64 0, .int .i64 0]) ?_ 0 _ rfl; refine blk_far ?_ NB128_127.out _; (with_reducible repeat (first | refine blk_drewN ?_ _ | refine blk_drew ?_ | refine blk_alloc ?_ _)); exact BK128.out) Try.underlying37 rfl (by kernel_rfl)) rfl ?_
         exact ⟨by first | rfl | (simp [errW_none, errW_some] <;> rfl) | (simp [*, errW_none, errW_some] <;> rfl), bel⟩
        ·rw [if_neg c46] at H
         have c46b0 : (a1 == 8) = false := beq_eq_false_iff_ne.mpr c46; have c46b1 : (a1 != 8) = true := bne_iff_ne.mpr c46
         simp only [Option.some.injEq, Prod.mk.injEq] at H
         obtain ⟨rfl, rfl, rfl, rfl, rfl⟩ := H
         go_enter Try.func15, Try.ntmps15
         go_wp2_with (first | ((with_reducible refine gate_dst (N := 3) rfl ?_); refine box_event ?hg (N := 3) ?hd (cs := #[.int .i64 a0_0, .int .i64 a0_1, .int .i64 a0_2, .int .i64 a0_3, .int .i64 a0_4]) (t := 37) ?hr ?_; (case hd => rfl); (case hg => rfl); (case hr => first | (go_simp; done) | (go_simp; rfl)); intro gb127 hg w52 hbox hb; have qb_ := below_both bel hb; have n0_ := Aside0.mk (qb_.1); have n1_ := Aside0.mk (hbox); have n3_ := Aside0.mk ((by rw [hg]; exact qb_.2 : w.heap.size ≤ gb127)); clear HB; have HB := n0_; have BK127 := n1_; have GE127 := n3_; clear qb_; clear n0_ n1_ n3_; clear hb hbox hg) | ((with_reducible refine gate_dst (N := 6) rfl ?_); refine box_event ?hg (N := 6) ?hd (cs := #[.int .i64 0, .int .i64 0, .int .i64 0, .int .i64 0, .int .i64 0]) (t := 37) ?hr ?_; (case hd => rfl); (case hg => rfl); (case hr => first | (go_simp; done) | (go_simp; rfl)); intro gb128 hg w53 hbox hb; have qb_ := below_both bel hb; have q1_ := blk_below2 (g := gb127) (o := .cells #[.int .i64 a0_0, .int .i64 a0_1, .int .i64 a0_2, .int .i64 a0_3, .int .i64 a0_4] 37 (0, 0)) blkx hb; have n0_ := Aside0.mk (q1_.1); have n1_ := Aside0.mk (qb_.1); have n2_ := Aside0.mk (hbox); have n4_ := Aside0.mk ((by rw [hg]; exact qb_.2 : w.heap.size ≤ gb128)); have n5_ := Aside0.mk ((by rw [hg]; exact Nat.ne_of_lt q1_.2 : gb127 ≠ gb128)); have n6_ := Aside0.mk (Ne.symm n5_.out); clear BK127; clear HB; have BK127 := n0_; have HB := n1_; have BK128 := n2_; have GE128 := n4_; have NB127_128 := n5_; have NB128_127 := n6_; clear q1_; clear qb_; clear n0_ n1_ n2_ n4_ n5_ n6_; clear hb hbox hg; have hnb54 := NB127_128.out; have hnc54 := NB128_127.out; obtain ⟨hcz55_0, hcz55_1, hcz55_2, hcz55_3, hcz55_4, hfz55_0, hfz55_1, hfz55_2, hfz55_3, hfz55_4⟩ := cells5 BK127.out; obtain ⟨hcz56_0, hcz56_1, hcz56_2, hcz56_3, hcz56_4, hfz56_0, hfz56_1, hfz56_2, hfz56_3, hfz56_4⟩ := cells5 BK128.out))
         refine bodyPost_ret (results_cell_row rfl _ _ gb128 37 #[.int .i64 a0_0, .int .i64 a0_1, .int .i64 a0_2, .int .i64 a0_3, .int .i64 a0_4] (0, 0) _ rfl (by (with_reducible repeat (first | refine blk_drewN ?_ _ | refine blk_drew ?_ | refine blk_alloc ?_ _)); refine blk_put (cs := #[.int .i64 a0_0, .int .i64 a0_1, .int .i64 a0_2, .int .i64 a0_3, .int .i64 0]) ?_ 4 _ rfl; refine blk_put (cs := #[.int .i64 a0_0, .int .i64 a0_1, .int .i64 a0_2, .int .i64 0, .int .i64 0]) ?_ 3 _ rfl; refine blk_put (cs := #[.int .i64 a0_0, .int .i64 a0_1, .int .i64 0, .int .i64 0, .int .i64 0]) ?_ 2 _ rfl; refine blk_put (cs := #[.int .i64 a0_0, .int .i64 0, .int .i64 0, .int .i64 0, .int .i64 0]) ?_ 1 _ rfl; refine blk_put (cs := #[.int .i64 0, .int .i64 0, .int .i64 0, .int .i64 0, .int .i64 0]) ?_ 0 _ rfl; (with_reducible repeat (first | refine blk_drewN ?_ _ | refine blk_drew ?_ | refine blk_alloc ?_ _)); exact BK128.out) Try.underlying37 rfl (by kernel_rfl)) rfl ?_
         exact ⟨by first | rfl | (simp [errW_none, errW_some] <;> rfl) | (simp [*, errW_none, errW_some] <;> rfl), bel⟩
def customsref27_balance.l0 : Nat → List (S26) → Int → Int → Int → Int → Int → Int → Int → Option (Int × Int × Int × Int × Int)
 | 0, _, _, _, _, _, _, _, _ => none
 | k + 1, x0, x1, x6, x131000, x131001, x131002, x131003, x131004 => if x6 < (x0.length : Int) then (if 0 ≤ x6 then (if ((rd_T26 x0 x6).f3) = x1 then (if ((rd_T26 x0 x6).f2) = 9 then (if 0 ≤ (wrap64 (((rd_T26 x0 x6).f4) - 1)) then (if (wrap64 (((rd_T26 x0 x6).f4) - 1)) < (x0.length : Int) then ((customsref27_BalanceAfter.f x131000 x131001 x131002 x131003 x131004 ((rd_T26 x0 (wrap64 (((rd_T26 x0 x6).f4) - 1))).f2) (wrap64 (-((rd_T26 x0 (wrap64 (((rd_T26 x0 x6).f4) - 1))).f4)))).bind fun bt136 => (customsref27_balance.l0 k x0 x1 (wrap64 (x6 + 1)) bt136.1 bt136.2.1 bt136.2.2.1 bt136.2.2.2.1 bt136.2.2.2.2)) else (none)) else (none)) else ((customsref27_BalanceAfter.f x131000 x131001 x131002 x131003 x131004 ((rd_T26 x0 x6).f2) ((rd_T26 x0 x6).f4)).bind fun bt143 => (customsref27_balance.l0 k x0 x1 (wrap64 (x6 + 1)) bt143.1 bt143.2.1 bt143.2.2.1 bt143.2.2.2.1 bt143.2.2.2.2))) else (customsref27_balance.l0 k x0 x1 (wrap64 (x6 + 1)) x131000 x131001 x131002 x131003 x131004)) else (none)) else (some (x131000, x131001, x131002, x131003, x131004))
def customsref27_balance.f (k : Nat) (l0 : List (S26)) (a1 : Int) : Option (Int × Int × Int × Int × Int) := customsref27_balance.l0 k l0 a1 0 a1 0 0 0 0
def customsref27_balance.T9 : Bool × List (List Nat × List Nat) := (true, [([], []), ([], []), ([], []), ([1, 2], [1, 2]), ([3], [3]), ([4], [4]), ([], []), ([], []), ([6, 7], [6, 7]), ([8], [8]), ([9], [9]), ([0, 5, 10], [0, 5, 10]), ([11, 11, 0, 1, 2, 3, 4, 5, 6, 7, 8, 9, 10, 11], [11])])
def customsref27_balance.B9 : List Nat := [0, 0, 0, 6, 14, 30, 0, 0, 192, 448, 960, 2047, 4095]
theorem customsref27_balance.tab9 : rtab .any (opsOf Try.f39 9) = customsref27_balance.T9 := by kernel_rfl
theorem customsref27_balance.bits9 : waitsOk customsref27_balance.T9.2 customsref27_balance.B9 = true := by kernel_rfl
set_option maxHeartbeats 8000000 in
set_option maxRecDepth 100000 in
theorem customsref27_balance.calls (k : Nat) (A0 : Option Addr) (c0 : Nat) (l0 : List (S26)) (a1 : Int) (r1 : Int) (r2 : Int) (r3 : Int) (r4 : Int) (r5 : Int) (w : World) (hr0 : Kd.C k26 w A0 l0.length l0) (hc0 : l0.length ≤ c0) (h : customsref27_balance.f k l0 a1 = some (r1, r2, r3, r4, r5)) :
  Calls Try.prog 39 #[.slice A0 l0.length c0, .int .i64 a1] w fun e w' => e = .returned (.agg #[.int .i64 r1, .int .i64 r2, .int .i64 r3, .int .i64 r4, .int .i64 r5]) ∧ Below w.heap.size w w' := by
 have hu37 := Try.underlying37; have hu26 := Try.underlying26; have HR0 := Aside0.mk hr0; have HC0 := Aside0.mk hc0; clear hr0 hc0; have HB := Aside0.mk (Below.refl w.heap.size w); have H : (customsref27_balance.l0 k l0 a1 0 a1 0 0 0 0) = some (r1, r2, r3, r4, r5) := h; clear h; have H' := Aside0.mk H; clear H
 go_enter Try.func39, Try.ntmps39
 go_wp2_with (first | ((with_reducible refine gate_dst (N := 4) rfl ?_); refine box_event ?hg (N := 4) ?hd (cs := #[.int .i64 0, .int .i64 0, .int .i64 0, .int .i64 0, .int .i64 0]) (t := 37) ?hr ?_; (case hd => rfl); (case hg => rfl); (case hr => first | (go_simp; done) | (go_simp; rfl)); intro gb129 hg w3 hbox hb; have qb_ := below_both bel hb; have n0_ := Aside0.mk (qb_.1); have n1_ := Aside0.mk (hbox); have n3_ := Aside0.mk ((by rw [hg]; exact qb_.2 : w.heap.size ≤ gb129)); clear HB; have HB := n0_; have BK129 := n1_; have GE129 := n3_; clear qb_; clear n0_ n1_ n3_; clear hb hbox hg) | ((with_reducible refine gate_dst (N := 5) rfl ?_); refine box_event ?hg (N := 5) ?hd (cs := #[.int .i64 0, .int .i64 0, .int .i64 0, .int .i64 0, .int .i64 0]) (t := 37) ?hr ?_; (case hd => rfl); (case hg => rfl); (case hr => first | (go_simp; done) | (go_simp; rfl)); intro gb130 hg w4 hbox hb; have qb_ := below_both bel hb; have q1_ := blk_below2 (g := gb129) (o := .cells #[.int .i64 0, .int .i64 0, .int .i64 0, .int .i64 0, .int .i64 0] 37 (0, 0)) blkx hb; have n0_ := Aside0.mk (q1_.1); have n1_ := Aside0.mk (qb_.1); have n2_ := Aside0.mk (hbox); have n4_ := Aside0.mk ((by rw [hg]; exact qb_.2 : w.heap.size ≤ gb130)); have n5_ := Aside0.mk ((by rw [hg]; exact Nat.ne_of_lt q1_.2 : gb129 ≠ gb130)); have n6_ := Aside0.mk (Ne.symm n5_.out); clear BK129; clear HB; have BK129 := n0_; have HB := n1_; have BK130 := n2_; have GE130 := n4_; have NB129_130 := n5_; have NB130_129 := n6_; clear q1_; clear qb_; clear n0_ n1_ n2_ n4_ n5_ n6_; clear hb hbox hg; have hnb5 := NB130_129.out; have hnc5 := NB129_130.out; obtain ⟨hcz6_0, hcz6_1, hcz6_2, hcz6_3, hcz6_4, hfz6_0, hfz6_1, hfz6_2, hfz6_3, hfz6_4⟩ := cells5 BK130.out))
 go_loopg [6] k (fun kq v6 w' => ∃ (x6_1 : Int) (x131000_1 : Int) (x131001_1 : Int) (x131002_1 : Int) (x131003_1 : Int) (x131004_1 : Int), v6 = .int .i64 x6_1 ∧ Aside0 (customsref27_balance.l0 kq l0 a1 x6_1 x131000_1 x131001_1 x131002_1 x131003_1 x131004_1 = some (r1, r2, r3, r4, r5)) ∧ Aside0 (kq ≤ k) ∧ Aside0 (w'.heap[gb129]? = some (.cells #[.int .i64 0, .int .i64 0, .int .i64 0, .int .i64 0, .int .i64 0] 37 (0, 0))) ∧ Aside0 (w'.heap[gb130]? = some (.cells #[.int .i64 x131000_1, .int .i64 x131001_1, .int .i64 x131002_1, .int .i64 x131003_1, .int .i64 x131004_1] 37 (0, 0))) ∧ Aside0 (Below w.heap.size w w'))
 case atStart => exact ⟨(0), (a1), (0), (0), (0), (0), zPA11, H', ⟨Nat.le_refl _⟩, ⟨by (with_reducible repeat (first | refine blk_drewN ?_ _ | refine blk_drew ?_ | refine blk_alloc ?_ _)); refine blk_far ?_ NB129_130.out _; (with_reducible repeat (first | refine blk_drewN ?_ _ | refine blk_drew ?_ | refine blk_alloc ?_ _)); refine blk_far ?_ NB129_130.out _; (with_reducible repeat (first | refine blk_drewN ?_ _ | refine blk_drew ?_ | refine blk_alloc ?_ _)); refine blk_far ?_ NB129_130.out _; (with_reducible repeat (first | refine blk_drewN ?_ _ | refine blk_drew ?_ | refine blk_alloc ?_ _)); refine blk_far ?_ NB129_130.out _; (with_reducible repeat (first | refine blk_drewN ?_ _ | refine blk_drew ?_ | refine blk_alloc ?_ _)); refine blk_far ?_ NB129_130.out _; (with_reducible repeat (first | refine blk_drewN ?_ _ | refine blk_drew ?_ | refine blk_alloc ?_ _)); exact BK129.out⟩, ⟨by (with_reducible repeat (first | refine blk_drewN ?_ _ | refine blk_drew ?_ | refine blk_alloc ?_ _)); refine blk_put (cs := #[.int .i64 a1, .int .i64 0, .int .i64 0, .int .i64 0, .int .i64 0]) ?_ 4 _ rfl; (with_reducible repeat (first | refine blk_drewN ?_ _ | refine blk_drew ?_ | refine blk_alloc ?_ _)); refine blk_put (cs := #[.int .i64 a1, .int .i64 0, .int .i64 0, .int .i64 0, .int .i64 0]) ?_ 3 _ rfl; (with_reducible repeat (first | refine blk_drewN ?_ _ | refine blk_drew ?_ | refine blk_alloc ?_ _)); refine blk_put (cs := #[.int .i64 a1, .int .i64 0, .int .i64 0, .int .i64 0, .int .i64 0]) ?_ 2 _ rfl; (with_reducible repeat (first | refine blk_drewN ?_ _ | refine blk_drew ?_ | refine blk_alloc ?_ _)); refine blk_put (cs := #[.int .i64 a1, .int .i64 0, .int .i64 0, .int .i64 0, .int .i64 0]) ?_ 1 _ rfl; (with_reducible repeat (first | refine blk_drewN ?_ _ | refine blk_drew ?_ | refine blk_alloc ?_ _)); refine blk_put (cs := #[.int .i64 0, .int .i64 0, .int .i64 0, .int .i64 0, .int .i64 0]) ?_ 0 _ rfl; (with_reducible repeat (first | refine blk_drewN ?_ _ | refine blk_drew ?_ | refine blk_alloc ?_ _)); exact BK130.out⟩, ⟨bel⟩⟩
 case round =>
  clear H'
  try clear p2
  try clear c3
  try clear c5
  try clear hcz6_0
  try clear hcz6_1
  try clear hcz6_2
  try clear hcz6_3
  try clear hcz6_4
  try clear hfz6_0
  try clear hfz6_1
  try clear hfz6_2
  try clear hfz6_3
  try clear hfz6_4
  obtain ⟨x6_1, x131000_1, x131001_1, x131002_1, x131003_1, x131004_1, rfl, HA, HK1, BK129, BK130, HB⟩ := hrel
  cases gk with
  | zero => exact absurd HA.out (by simp [customsref27_balance.l0])
  | succ k1 =>
   have H := HA.out; clear HA
   simp only [customsref27_balance.l0] at H
   by_cases c7 : x6_1 < (l0.length : Int)
   ·rw [if_pos c7] at H
    have c7b0 : decide (x6_1 < (l0.length : Int)) = true := decide_eq_true c7; clear c7
    by_cases c8 : 0 ≤ x6_1
    ·rw [if_pos c8] at H
     have c8b0 : decide (0 ≤ x6_1) = true := decide_eq_true c8; clear c8
     by_cases c9 : ((rd_T26 l0 x6_1).f3) = a1
     ·rw [if_pos c9] at H
      have c9b0 : (((rd_T26 l0 x6_1).f3) == a1) = true := beq_iff_eq.mpr c9; have c9b1 : (((rd_T26 l0 x6_1).f3) != a1) = false := bne_eq_false_iff_eq.mpr c9; clear c9
      by_cases c10 : ((rd_T26 l0 x6_1).f2) = 9
      ·rw [if_pos c10] at H
       have c10b0 : (((rd_T26 l0 x6_1).f2) == 9) = true := beq_iff_eq.mpr c10; have c10b1 : (((rd_T26 l0 x6_1).f2) != 9) = false := bne_eq_false_iff_eq.mpr c10; clear c10; obtain ⟨ji11, hji11⟩ : ∃ j_ : Int, (wrap64 (((rd_T26 l0 x6_1).f4) - 1)) = j_ := ⟨_, rfl⟩
       replace H : (if 0 ≤ (ji11) then (if (ji11) < (l0.length : Int) then ((customsref27_BalanceAfter.f x131000_1 x131001_1 x131002_1 x131003_1 x131004_1 ((rd_T26 l0 (ji11)).f2) (wrap64 (-((rd_T26 l0 (ji11)).f4)))).bind fun bt136 => (customsref27_balance.l0 k1 l0 a1 (wrap64 (x6_1 + 1)) bt136.1 bt136.2.1 bt136.2.2.1 bt136.2.2.2.1 bt136.2.2.2.2)) else (none)) else (none)) = some (r1, r2, r3, r4, r5) := by first | (rw [hji11] at H; exact H) | (simp only [hji11] at H ⊢; exact H)
       have hji11w : (IntKind.i64.wrap (((rd_T26 l0 x6_1).f4) - 1)) = ji11 := (i64_w _).trans hji11
       by_cases c12 : 0 ≤ (ji11)
       ·rw [if_pos c12] at H
        have c12b0 : decide (0 ≤ (ji11)) = true := decide_eq_true c12; clear c12
        by_cases c13 : (ji11) < (l0.length : Int)
        ·rw [if_pos c13] at H
         have c13b0 : decide ((ji11) < (l0.length : Int)) = true := decide_eq_true c13; clear c13; replace H := Option.bind_eq_some_iff.mp H; obtain ⟨⟨t136, t137, t138, t139, t140⟩, A140, H⟩ := H; replace H : (customsref27_balance.l0 k1 l0 a1 (wrap64 (x6_1 + 1)) t136 t137 t138 t139 t140) = some (r1, r2, r3, r4, r5) := H; have A14 := Aside0.mk A140; clear A140; have H' := Aside0.mk H; clear H; have p131 : 0 ≤ (x6_1 : Int) := of_decide_eq_true zPA7; have q131 : x6_1 < (l0.length : Int) := of_decide_eq_true zPA7; obtain ⟨ad131, e131, hx131_0, hx131_1, hx131_2, hx131_3, hx131_4, hx131_5⟩ := at_T26 HR0.out x6_1 p131 q131
         cases e131
         replace hx131_0 := (HB.out.cell (World.block_lt_of_cell? w _ hx131_0)).trans hx131_0; replace hx131_1 := (HB.out.cell (World.block_lt_of_cell? w _ hx131_1)).trans hx131_1; replace hx131_2 := (HB.out.cell (World.block_lt_of_cell? w _ hx131_2)).trans hx131_2; replace hx131_3 := (HB.out.cell (World.block_lt_of_cell? w _ hx131_3)).trans hx131_3; replace hx131_4 := (HB.out.cell (World.block_lt_of_cell? w _ hx131_4)).trans hx131_4; replace hx131_5 := (HB.out.cell (World.block_lt_of_cell? w _ hx131_5)).trans hx131_5; replace p131 := eq_true p131; replace q131 := eq_true q131; have p132 : 0 ≤ (x6_1 : Int) := of_decide_eq_true zPA7; have q132 : x6_1 < (l0.length : Int) := of_decide_eq_true zPA7; obtain ⟨ad132, e132, hx132_0, hx132_1, hx132_2, hx132_3, hx132_4, hx132_5⟩ := at_T26 HR0.out x6_1 p132 q132; obtain rfl : ad131 = ad132 := (by injection e132); replace hx132_0 := (HB.out.cell (World.block_lt_of_cell? w _ hx132_0)).trans hx132_0; replace hx132_1 := (HB.out.cell (World.block_lt_of_cell? w _ hx132_1)).trans hx132_1; replace hx132_2 := (HB.out.cell (World.block_lt_of_cell? w _ hx132_2)).trans hx132_2; replace hx132_3 := (HB.out.cell (World.block_lt_of_cell? w _ hx132_3)).trans hx132_3; replace hx132_4 := (HB.out.cell (World.block_lt_of_cell? w _ hx132_4)).trans hx132_4; replace hx132_5 := (HB.out.cell (World.block_lt_of_cell? w _ hx132_5)).trans hx132_5; replace p132 := eq_true p132; replace q132 := eq_true q132; have p133 : 0 ≤ (x6_1 : Int) := of_decide_eq_true zPA7; have q133 : x6_1 < (l0.length : Int) := of_decide_eq_true zPA7; obtain ⟨ad133, e133, hx133_0, hx133_1, hx133_2, hx133_3, hx133_4, hx133_5⟩ := at_T26 HR0.out x6_1 p133 q133; obtain rfl : ad131 = ad133 := (by injection e133); replace hx133_0 := (HB.out.cell (World.block_lt_of_cell? w _ hx133_0)).trans hx133_0; replace hx133_1 := (HB.out.cell (World.block_lt_of_cell? w _ hx133_1)).trans hx133_1; replace hx133_2 := (HB.out.cell (World.block_lt_of_cell? w _ hx133_2)).trans hx133_2; replace hx133_3 := (HB.out.cell (World.block_lt_of_cell? w _ hx133_3)).trans hx133_3; replace hx133_4 := (HB.out.cell (World.block_lt_of_cell? w _ hx133_4)).trans hx133_4; replace hx133_5 := (HB.out.cell (World.block_lt_of_cell? w _ hx133_5)).trans hx133_5; replace p133 := eq_true p133; replace q133 := eq_true q133; have p134 : 0 ≤ ((ji11) : Int) := of_decide_eq_true zPA7; have q134 : (ji11) < (l0.length : Int) := of_decide_eq_true zPA7; obtain ⟨ad134, e134, hx134_0, hx134_1, hx134_2, hx134_3, hx134_4, hx134_5⟩ := at_T26 HR0.out (ji11) p134 q134; obtain rfl : ad131 = ad134 := (by injection e134); replace hx134_0 := (HB.out.cell (World.block_lt_of_cell? w _ hx134_0)).trans hx134_0; replace hx134_1 := (HB.out.cell (World.block_lt_of_cell? w _ hx134_1)).trans hx134_1; replace hx134_2 := (HB.out.cell (World.block_lt_of_cell? w _ hx134_2)).trans hx134_2; replace hx134_3 := (HB.out.cell (World.block_lt_of_cell? w _ hx134_3)).trans hx134_3; replace hx134_4 := (HB.out.cell (World.block_lt_of_cell? w _ hx134_4)).trans hx134_4; replace hx134_5 := (HB.out.cell (World.block_lt_of_cell? w _ hx134_5)).trans hx134_5; replace p134 := eq_true p134; replace q134 := eq_true q134
         go_wp2_with (first | ((with_reducible refine gate_dst (N := 7) rfl ?_); refine box_event ?hg (N := 7) ?hd (cs := #[.int .i64 0, .int .i64 0, .int .i64 0, .int .i64 0, .int .i64 0, .int .i64 0]) (t := 26) ?hr ?_; (case hd => rfl); (case hg => rfl); (case hr => first | (go_simp; done) | (go_simp; rfl)); intro gb135 hg w15 hbox hb; have qb_ := below_both bel hb; have q1_ := blk_below2 (g := gb129) (o := .cells #[.int .i64 0, .int .i64 0, .int .i64 0, .int .i64 0, .int .i64 0] 37 (0, 0)) blkx hb; have n0_ := Aside0.mk (q1_.1); have q2_ := blk_below2 (g := gb130) (o := .cells #[.int .i64 x131000_1, .int .i64 x131001_1, .int .i64 x131002_1, .int .i64 x131003_1, .int .i64 x131004_1] 37 (0, 0)) blkx hb; have n1_ := Aside0.mk (q2_.1); have n2_ := Aside0.mk (qb_.1); have n3_ := Aside0.mk (hbox); have n5_ := Aside0.mk ((by rw [hg]; exact qb_.2 : w.heap.size ≤ gb135)); have n6_ := Aside0.mk ((by rw [hg]; exact Nat.ne_of_lt q1_.2 : gb129 ≠ gb135)); have n7_ := Aside0.mk (Ne.symm n6_.out); have n8_ := Aside0.mk ((by rw [hg]; exact Nat.ne_of_lt q2_.2 : gb130 ≠ gb135)); have n9_ := Aside0.mk (Ne.symm n8_.out); clear BK129; clear BK130; clear HB; have BK129 := n0_; have BK130 := n1_; have HB := n2_; have BK135 := n3_; have GE135 := n5_; have NB129_135 := n6_; have NB135_129 := n7_; have NB130_135 := n8_; have NB135_130 := n9_; clear q1_ q2_; clear qb_; clear n0_ n1_ n2_ n3_ n5_ n6_ n7_ n8_ n9_; clear hb hbox hg; have hnb16 := NB135_129.out; have hnc16 := NB129_135.out; have hnb17 := NB135_130.out; have hnc17 := NB130_135.out; obtain ⟨hcz18_0, hcz18_1, hcz18_2, hcz18_3, hcz18_4, hcz18_5, hfz18_0, hfz18_1, hfz18_2, hfz18_3, hfz18_4, hfz18_5⟩ := cells6 BK135.out; have hnb19 := NB130_129.out; have hnc19 := NB129_130.out; obtain ⟨hcz20_0, hcz20_1, hcz20_2, hcz20_3, hcz20_4, hfz20_0, hfz20_1, hfz20_2, hfz20_3, hfz20_4⟩ := cells5 BK130.out) | ((with_reducible refine gate_callee (f := 15) rfl ?_); refine goesL_ (some 44) rfl rfl Try.func15 (by kernel_rfl) rfl #[.agg #[.int .i64 x131000_1, .int .i64 x131001_1, .int .i64 x131002_1, .int .i64 x131003_1, .int .i64 x131004_1], .int .i64 ((rd_T26 l0 (ji11)).f2), .int .i64 (wrap64 (-((rd_T26 l0 (ji11)).f4)))] rfl (by (try simp only [List.map_toArray, List.map_cons, List.map_nil]); first | done | (simp only [hji11]; rfl) | rfl | (simp only [List.length_drop, List.length_take]; rfl)) ?_; (with_reducible refine (customsref27_BalanceAfter.calls x131000_1 x131001_1 x131002_1 x131003_1 x131004_1 ((rd_T26 l0 (ji11)).f2) (wrap64 (-((rd_T26 l0 (ji11)).f4))) t136 t137 t138 t139 t140 _ A14.out).mono ?_); rintro e w21 ⟨rfl, hb⟩; refine ⟨_, rfl, ?_⟩; have n0_ := Aside0.mk (blk_below (g := gb129) (o := .cells #[.int .i64 0, .int .i64 0, .int .i64 0, .int .i64 0, .int .i64 0] 37 (0, 0)) blkx hb); have n1_ := Aside0.mk (blk_below (g := gb130) (o := .cells #[.int .i64 x131000_1, .int .i64 x131001_1, .int .i64 x131002_1, .int .i64 x131003_1, .int .i64 x131004_1] 37 (0, 0)) blkx hb); have n3_ := Aside0.mk (below_step bel hb); clear BK129; clear BK130; (try clear BK135); clear HB; have BK129 := n0_; have BK130 := n1_; have HB := n3_; clear n0_ n1_ n3_; (try clear hb); (try clear hb2); (try clear hk); (try clear hi); obtain ⟨hcz22_0, hcz22_1, hcz22_2, hcz22_3, hcz22_4, hfz22_0, hfz22_1, hfz22_2, hfz22_3, hfz22_4⟩ := cells5 BK130.out))
         go_roundg k1
         case measure => have := HK1.out; omega
         case rel => exact ⟨(wrap64 (x6_1 + 1)), (t136), (t137), (t138), (t139), (t140), zPA11, H', ⟨by have := HK1.out; omega⟩, ⟨by (with_reducible repeat (first | refine blk_drewN ?_ _ | refine blk_drew ?_ | refine blk_alloc ?_ _)); refine blk_far ?_ NB129_130.out _; (with_reducible repeat (first | refine blk_drewN ?_ _ | refine blk_drew ?_ | refine blk_alloc ?_ _)); refine blk_far ?_ NB129_130.out _; (with_reducible repeat (first | refine blk_drewN ?_ _ | refine blk_drew ?_ | refine blk_alloc ?_ _)); refine blk_far ?_ NB129_130.out _; (with_reducible repeat (first | refine blk_drewN ?_ _ | refine blk_drew ?_ | refine blk_alloc ?_ _)); refine blk_far ?_ NB129_130.out _; (with_reducible repeat (first | refine blk_drewN ?_ _ | refine blk_drew ?_ | refine blk_alloc ?_ _)); refine blk_far ?_ NB129_130.out _; (with_reducible repeat (first | refine blk_drewN ?_ _ | refine blk_drew ?_ | refine blk_alloc ?_ _)); exact BK129.out⟩, ⟨by (with_reducible repeat (first | refine blk_drewN ?_ _ | refine blk_drew ?_ | refine blk_alloc ?_ _)); refine blk_put (cs := #[.int .i64 t136, .int .i64 t137, .int .i64 t138, .int .i64 t139, .int .i64 x131004_1]) ?_ 4 _ rfl; (with_reducible repeat (first | refine blk_drewN ?_ _ | refine blk_drew ?_ | refine blk_alloc ?_ _)); refine blk_put (cs := #[.int .i64 t136, .int .i64 t137, .int .i64 t138, .int .i64 x131003_1, .int .i64 x131004_1]) ?_ 3 _ rfl; (with_reducible repeat (first | refine blk_drewN ?_ _ | refine blk_drew ?_ | refine blk_alloc ?_ _)); refine blk_put (cs := #[.int .i64 t136, .int .i64 t137, .int .i64 x131002_1, .int .i64 x131003_1, .int .i64 x131004_1]) ?_ 2 _ rfl; (with_reducible repeat (first | refine blk_drewN ?_ _ | refine blk_drew ?_ | refine blk_alloc ?_ _)); refine blk_put (cs := #[.int .i64 t136, .int .i64 x131001_1, .int .i64 x131002_1, .int .i64 x131003_1, .int .i64 x131004_1]) ?_ 1 _ rfl; (with_reducible repeat (first | refine blk_drewN ?_ _ | refine blk_drew ?_ | refine blk_alloc ?_ _)); refine blk_put (cs := #[.int .i64 x131000_1, .int .i64 x131001_1, .int .i64 x131002_1, .int .i64 x131003_1, .int .i64 x131004_1]) ?_ 0 _ rfl; (with_reducible repeat (first | refine blk_drewN ?_ _ | refine blk_drew ?_ | refine blk_alloc ?_ _)); exact BK130.out⟩, ⟨bel⟩⟩
        ·rw [if_neg c13] at H
         exact absurd H (by simp)
       ·rw [if_neg c12] at H
        exact absurd H (by simp)
      ·rw [if_neg c10] at H
       have c10b0 : (((rd_T26 l0 x6_1).f2) == 9) = false := beq_eq_false_iff_ne.mpr c10; have c10b1 : (((rd_T26 l0 x6_1).f2) != 9) = true := bne_iff_ne.mpr c10; replace H := Option.bind_eq_some_iff.mp H; obtain ⟨⟨t143, t144, t145, t146, t147⟩, A230, H⟩ := H; replace H : (customsref27_balance.l0 k1 l0 a1 (wrap64 (x6_1 + 1)) t143 t144 t145 t146 t147) = some (r1, r2, r3, r4, r5) := H; have A23 := Aside0.mk A230; clear A230; have H' := Aside0.mk H; clear H; have p131 : 0 ≤ (x6_1 : Int) := of_decide_eq_true zPA7; have q131 : x6_1 < (l0.length : Int) := of_decide_eq_true zPA7; obtain ⟨ad131, e131, hx131_0, hx131_1, hx131_2, hx131_3, hx131_4, hx131_5⟩ := at_T26 HR0.out x6_1 p131 q131
       cases e131
       replace hx131_0 := (HB.out.cell (World.block_lt_of_cell? w _ hx131_0)).trans hx131_0; replace hx131_1 := (HB.out.cell (World.block_lt_of_cell? w _ hx131_1)).trans hx131_1; replace hx131_2 := (HB.out.cell (World.block_lt_of_cell? w _ hx131_2)).trans hx131_2; replace hx131_3 := (HB.out.cell (World.block_lt_of_cell? w _ hx131_3)).trans hx131_3; replace hx131_4 := (HB.out.cell (World.block_lt_of_cell? w _ hx131_4)).trans hx131_4; replace hx131_5 := (HB.out.cell (World.block_lt_of_cell? w _ hx131_5)).trans hx131_5; replace p131 := eq_true p131; replace q131 := eq_true q131; have p132 : 0 ≤ (x6_1 : Int) := of_decide_eq_true zPA7; have q132 : x6_1 < (l0.length : Int) := of_decide_eq_true zPA7; obtain ⟨ad132, e132, hx132_0, hx132_1, hx132_2, hx132_3, hx132_4, hx132_5⟩ := at_T26 HR0.out x6_1 p132 q132; obtain rfl : ad131 = ad132 := (by injection e132); replace hx132_0 := (HB.out.cell (World.block_lt_of_cell? w _ hx132_0)).trans hx132_0; replace hx132_1 := (HB.out.cell (World.block_lt_of_cell? w _ hx132_1)).trans hx132_1; replace hx132_2 := (HB.out.cell (World.block_lt_of_cell? w _ hx132_2)).trans hx132_2; replace hx132_3 := (HB.out.cell (World.block_lt_of_cell? w _ hx132_3)).trans hx132_3; replace hx132_4 := (HB.out.cell (World.block_lt_of_cell? w _ hx132_4)).trans hx132_4; replace hx132_5 := (HB.out.cell (World.block_lt_of_cell? w _ hx132_5)).trans hx132_5; replace p132 := eq_true p132; replace q132 := eq_true q132
       try go_wp2
       have n0_ := Aside0.mk (blk_drew BK129.out); have n1_ := Aside0.mk (blk_drew BK130.out); have n2_ := Aside0.mk (below_drew1 HB.out); clear BK129; clear BK130; clear HB; have BK129 := n0_; have BK130 := n1_; have HB := n2_; clear n0_ n1_ n2_; have p141 : 0 ≤ (x6_1 : Int) := of_decide_eq_true zPA7; have q141 : x6_1 < (l0.length : Int) := of_decide_eq_true zPA7; obtain ⟨ad141, e141, hx141_0, hx141_1, hx141_2, hx141_3, hx141_4, hx141_5⟩ := at_T26 HR0.out x6_1 p141 q141; have hw141_5 := hx141_5; have hw141_4 := hx141_4; have hw141_3 := hx141_3; have hw141_2 := hx141_2; have hw141_1 := hx141_1; have hw141_0 := hx141_0; obtain rfl : ad131 = ad141 := (by injection e141); replace hx141_0 := (HB.out.cell (World.block_lt_of_cell? w _ hx141_0)).trans hx141_0; replace hx141_1 := (HB.out.cell (World.block_lt_of_cell? w _ hx141_1)).trans hx141_1; replace hx141_2 := (HB.out.cell (World.block_lt_of_cell? w _ hx141_2)).trans hx141_2; replace hx141_3 := (HB.out.cell (World.block_lt_of_cell? w _ hx141_3)).trans hx141_3; replace hx141_4 := (HB.out.cell (World.block_lt_of_cell? w _ hx141_4)).trans hx141_4; replace hx141_5 := (HB.out.cell (World.block_lt_of_cell? w _ hx141_5)).trans hx141_5; replace p141 := eq_true p141; replace q141 := eq_true q141; have p142 : 0 ≤ (x6_1 : Int) := of_decide_eq_true zPA7; have q142 : x6_1 < (l0.length : Int) := of_decide_eq_true zPA7; obtain ⟨ad142, e142, hx142_0, hx142_1, hx142_2, hx142_3, hx142_4, hx142_5⟩ := at_T26 HR0.out x6_1 p142 q142; have hw142_5 := hx142_5; have hw142_4 := hx142_4; have hw142_3 := hx142_3; have hw142_2 := hx142_2; have hw142_1 := hx142_1; have hw142_0 := hx142_0; obtain rfl : ad131 = ad142 := (by injection e142); replace hx142_0 := (HB.out.cell (World.block_lt_of_cell? w _ hx142_0)).trans hx142_0; replace hx142_1 := (HB.out.cell (World.block_lt_of_cell? w _ hx142_1)).trans hx142_1; replace hx142_2 := (HB.out.cell (World.block_lt_of_cell? w _ hx142_2)).trans hx142_2; replace hx142_3 := (HB.out.cell (World.block_lt_of_cell? w _ hx142_3)).trans hx142_3; replace hx142_4 := (HB.out.cell (World.block_lt_of_cell? w _ hx142_4)).trans hx142_4; replace hx142_5 := (HB.out.cell (World.block_lt_of_cell? w _ hx142_5)).trans hx142_5; replace p142 := eq_true p142; replace q142 := eq_true q142
       refine start_ (n := 13) (S := fun w' => w'.cell? ⟨gb130, 0, none⟩ = some (.int .i64 x131000_1) ∧ w'.cell? ⟨gb130, 1, none⟩ = some (.int .i64 x131001_1) ∧ w'.cell? ⟨gb130, 2, none⟩ = some (.int .i64 x131002_1) ∧ w'.cell? ⟨gb130, 3, none⟩ = some (.int .i64 x131003_1) ∧ w'.cell? ⟨gb130, 4, none⟩ = some (.int .i64 x131004_1) ∧ w'.cell? (ad131.add ((x6_1).toNat * 6)) = some (.int .i64 ((rd_T26 l0 x6_1).f0)) ∧ w'.cell? ⟨(ad131.add ((x6_1).toNat * 6)).block, (ad131.add ((x6_1).toNat * 6)).off + 1, none⟩ = some (.int .i64 ((rd_T26 l0 x6_1).f1)) ∧ w'.cell? ⟨(ad131.add ((x6_1).toNat * 6)).block, (ad131.add ((x6_1).toNat * 6)).off + 2, none⟩ = some (.int .i64 ((rd_T26 l0 x6_1).f2)) ∧ w'.cell? ⟨(ad131.add ((x6_1).toNat * 6)).block, (ad131.add ((x6_1).toNat * 6)).off + 3, none⟩ = some (.int .i64 ((rd_T26 l0 x6_1).f3)) ∧ w'.cell? ⟨(ad131.add ((x6_1).toNat * 6)).block, (ad131.add ((x6_1).toNat * 6)).off + 4, none⟩ = some (.int .i64 ((rd_T26 l0 x6_1).f4)) ∧ w'.cell? ⟨(ad131.add ((x6_1).toNat * 6)).block, (ad131.add ((x6_1).toNat * 6)).off + 5, none⟩ = some (.int .i64 ((rd_T26 l0 x6_1).f5)) ∧ w'.cell? (ad131.add ((x6_1).toNat * 6)) = some (.int .i64 ((rd_T26 l0 x6_1).f0)) ∧ w'.cell? ⟨(ad131.add ((x6_1).toNat * 6)).block, (ad131.add ((x6_1).toNat * 6)).off + 1, none⟩ = some (.int .i64 ((rd_T26 l0 x6_1).f1)) ∧ w'.cell? ⟨(ad131.add ((x6_1).toNat * 6)).block, (ad131.add ((x6_1).toNat * 6)).off + 2, none⟩ = some (.int .i64 ((rd_T26 l0 x6_1).f2)) ∧ w'.cell? ⟨(ad131.add ((x6_1).toNat * 6)).block, (ad131.add ((x6_1).toNat * 6)).off + 3, none⟩ = some (.int .i64 ((rd_T26 l0 x6_1).f3)) ∧ w'.cell? ⟨(ad131.add ((x6_1).toNat * 6)).block, (ad131.add ((x6_1).toNat * 6)).off + 4, none⟩ = some (.int .i64 ((rd_T26 l0 x6_1).f4)) ∧ w'.cell? ⟨(ad131.add ((x6_1).toNat * 6)).block, (ad131.add ((x6_1).toNat * 6)).off + 5, none⟩ = some (.int .i64 ((rd_T26 l0 x6_1).f5))) (ds := [12]) #[false, false, false, false, false, false, false, false, false, false, false, false, false] (by kernel_rfl) rfl rfl ⟨(blk_cell BK130.out 0).trans rfl, (blk_cell BK130.out 1).trans rfl, (blk_cell BK130.out 2).trans rfl, (blk_cell BK130.out 3).trans rfl, (blk_cell BK130.out 4).trans rfl, ((HB.out.cell (World.block_lt_of_cell? w _ hw141_0)).trans hw141_0), ((HB.out.cell (World.block_lt_of_cell? w _ hw141_1)).trans hw141_1), ((HB.out.cell (World.block_lt_of_cell? w _ hw141_2)).trans hw141_2), ((HB.out.cell (World.block_lt_of_cell? w _ hw141_3)).trans hw141_3), ((HB.out.cell (World.block_lt_of_cell? w _ hw141_4)).trans hw141_4), ((HB.out.cell (World.block_lt_of_cell? w _ hw141_5)).trans hw141_5), ((HB.out.cell (World.block_lt_of_cell? w _ hw142_0)).trans hw142_0), ((HB.out.cell (World.block_lt_of_cell? w _ hw142_1)).trans hw142_1), ((HB.out.cell (World.block_lt_of_cell? w _ hw142_2)).trans hw142_2), ((HB.out.cell (World.block_lt_of_cell? w _ hw142_3)).trans hw142_3), ((HB.out.cell (World.block_lt_of_cell? w _ hw142_4)).trans hw142_4), ((HB.out.cell (World.block_lt_of_cell? w _ hw142_5)).trans hw142_5)⟩ (fun hHeld => ?_); refine with_tabW customsref27_balance.tab9 customsref27_balance.bits9 (fun HT_ HW_ => ?_)
       generalize wr.drew = w24 at BK129 BK130 HB hx141_0 hx141_1 hx141_2 hx141_3 hx141_4 hx141_5 hx142_0 hx142_1 hx142_2 hx142_3 hx142_4 hx142_5 hHeld ⊢
       refine pure_ (i := 1) (N := some 46) (v := ?_) (a' := ?_) #[false, true, false, false, false, false, false, false, false, false, false, false, false] rfl rfl (any_of HT_.out (by kernel_rfl)) (fun _ _ _ h => h) (Or.inl ⟨by rfl, ?_⟩) ?_ ?_
       rotate_left
       ·intro w'
        go_simp
        with_reducible rfl
       rotate_left
       ·simp only [Act.put, List.setIfInBounds_toArray, List.set_cons_zero, List.set_cons_succ, i64_w, i32_w]
        rfl
       refine pure_ (i := 2) (N := some 47) (v := ?_) (a' := ?_) #[false, true, true, false, false, false, false, false, false, false, false, false, false] rfl rfl (any_of HT_.out (by kernel_rfl)) (fun _ _ _ h => h) (Or.inl ⟨by rfl, ?_⟩) ?_ ?_
       rotate_left
       ·intro w'
        go_simp
        with_reducible rfl
       rotate_left
       ·simp only [Act.put, List.setIfInBounds_toArray, List.set_cons_zero, List.set_cons_succ, i64_w, i32_w]
        rfl
       refine pure_ (i := 3) (N := some 48) (v := ?_) (a' := ?_) #[false, true, true, true, false, false, false, false, false, false, false, false, false] rfl rfl (any_of HT_.out (by kernel_rfl)) (fun _ _ _ h => h) (Or.inl ⟨by rfl, ?_⟩) ?_ ?_
       rotate_left
       ·intro w'
        go_simp
        with_reducible rfl
       rotate_left
       ·simp only [Act.put, List.setIfInBounds_toArray, List.set_cons_zero, List.set_cons_succ, i64_w, i32_w]
        rfl
       refine pure_ (i := 4) (N := some 49) (v := ?_) (a' := ?_) #[false, true, true, true, true, false, false, false, false, false, false, false, false] rfl rfl (any_of HT_.out (by kernel_rfl)) (fun _ _ _ h => h) (Or.inl ⟨by rfl, ?_⟩) ?_ ?_
       rotate_left
       ·intro w'
        go_simp
        with_reducible rfl
       rotate_left
       ·simp only [Act.put, List.setIfInBounds_toArray, List.set_cons_zero, List.set_cons_succ, i64_w, i32_w]
        rfl
       refine pure_ (i := 6) (N := some 51) (v := ?_) (a' := ?_) #[false, true, true, true, true, false, true, false, false, false, false, false, false] rfl rfl (any_of HT_.out (by kernel_rfl)) (fun _ _ _ h => h) (Or.inl ⟨by rfl, ?_⟩) ?_ ?_
       rotate_left
       ·intro w'
        go_simp
        with_reducible rfl
       rotate_left
       ·simp only [Act.put, List.setIfInBounds_toArray, List.set_cons_zero, List.set_cons_succ, i64_w, i32_w]
        rfl
       refine pure_ (i := 7) (N := some 52) (v := ?_) (a' := ?_) #[false, true, true, true, true, false, true, true, false, false, false, false, false] rfl rfl (any_of HT_.out (by kernel_rfl)) (fun _ _ _ h => h) (Or.inl ⟨by rfl, ?_⟩) ?_ ?_
       rotate_left
       ·intro w'
        go_simp
        with_reducible rfl
       rotate_left
       ·simp only [Act.put, List.setIfInBounds_toArray, List.set_cons_zero, List.set_cons_succ, i64_w, i32_w]
        rfl
       refine pure_ (i := 8) (N := some 53) (v := ?_) (a' := ?_) #[false, true, true, true, true, false, true, true, true, false, false, false, false] rfl rfl (any_of HT_.out (by kernel_rfl)) (fun _ _ _ h => h) (Or.inl ⟨by rfl, ?_⟩) ?_ ?_
       rotate_left
       ·intro w'
        go_simp
        with_reducible rfl
       rotate_left
       ·simp only [Act.put, List.setIfInBounds_toArray, List.set_cons_zero, List.set_cons_succ, i64_w, i32_w]
        rfl
       refine pure_ (i := 9) (N := some 54) (v := ?_) (a' := ?_) #[false, true, true, true, true, false, true, true, true, true, false, false, false] rfl rfl (any_of HT_.out (by kernel_rfl)) (fun _ _ _ h => h) (Or.inl ⟨by rfl, ?_⟩) ?_ ?_
       rotate_left
       ·intro w'
        go_simp
        with_reducible rfl
       rotate_left
       ·simp only [Act.put, List.setIfInBounds_toArray, List.set_cons_zero, List.set_cons_succ, i64_w, i32_w]
        rfl
       refine take_ (i := 0) (N := some 45) (v := ?_) (a' := ?_) #[true, true, true, true, true, false, true, true, true, true, false, false, false] rfl rfl (take_ofW HT_.out HW_.out (by kernel_rfl)) (fun _ _ _ h => h) (Or.inl ⟨by rfl, ?_⟩) hHeld ?_ ?_
       rotate_left
       ·rintro w' ⟨s0, s1, s2, s3, s4, s5, s6, s7, s8, s9, s10, s11, s12, s13, s14, s15, s16⟩
        go_simp
        with_reducible rfl
       rotate_left
       ·simp only [Act.put, List.setIfInBounds_toArray, List.set_cons_zero, List.set_cons_succ, i64_w, i32_w]
        rfl
       refine take_ (i := 5) (N := some 50) (v := ?_) (a' := ?_) #[true, true, true, true, true, true, true, true, true, true, false, false, false] rfl rfl (take_ofW HT_.out HW_.out (by kernel_rfl)) (fun _ _ _ h => h) (Or.inl ⟨by rfl, ?_⟩) hHeld ?_ ?_
       rotate_left
       ·rintro w' ⟨s0, s1, s2, s3, s4, s5, s6, s7, s8, s9, s10, s11, s12, s13, s14, s15, s16⟩
        go_simp
        with_reducible rfl
       rotate_left
       ·simp only [Act.put, List.setIfInBounds_toArray, List.set_cons_zero, List.set_cons_succ, i64_w, i32_w]
        rfl
       refine take_ (i := 10) (N := some 55) (v := ?_) (a' := ?_) #[true, true, true, true, true, true, true, true, true, true, true, false, false] rfl rfl (take_ofW HT_.out HW_.out (by kernel_rfl)) (fun _ _ _ h => h) (Or.inl ⟨by rfl, ?_⟩) hHeld ?_ ?_
       rotate_left
       ·rintro w' ⟨s0, s1, s2, s3, s4, s5, s6, s7, s8, s9, s10, s11, s12, s13, s14, s15, s16⟩
        go_simp
        with_reducible rfl
       rotate_left
       ·simp only [Act.put, List.setIfInBounds_toArray, List.set_cons_zero, List.set_cons_succ, i64_w, i32_w]
        rfl
       refine one_ (i := 11) (N := some 56) #[true, true, true, true, true, true, true, true, true, true, true, true, false] rfl rfl (one_of HT_.out (by kernel_rfl)) (by decide) (fun K hK => ?_)
       refine goes_ Try.func15 (by kernel_rfl) rfl #[.agg #[.int .i64 x131000_1, .int .i64 x131001_1, .int .i64 x131002_1, .int .i64 x131003_1, .int .i64 x131004_1], .int .i64 ((rd_T26 l0 x6_1).f2), .int .i64 ((rd_T26 l0 x6_1).f4)] (by rfl) rfl rfl argx ?_
       with_reducible refine (customsref27_BalanceAfter.calls x131000_1 x131001_1 x131002_1 x131003_1 x131004_1 ((rd_T26 l0 x6_1).f2) ((rd_T26 l0 x6_1).f4) t143 t144 t145 t146 t147 _ A23.out).mono ?_
       rintro e w25 ⟨rfl, hb⟩
       refine ⟨_, rfl, ?_⟩
       have n0_ := Aside0.mk (blk_below (g := gb129) (o := .cells #[.int .i64 0, .int .i64 0, .int .i64 0, .int .i64 0, .int .i64 0] 37 (0, 0)) blkx hb); have n1_ := Aside0.mk (blk_below (g := gb130) (o := .cells #[.int .i64 x131000_1, .int .i64 x131001_1, .int .i64 x131002_1, .int .i64 x131003_1, .int .i64 x131004_1] 37 (0, 0)) blkx hb); have n2_ := Aside0.mk (below_step bel hb); clear BK129; clear BK130; clear HB; have BK129 := n0_; have BK130 := n1_; have HB := n2_; clear n0_ n1_ n2_
       (try clear hb)
       (try clear hb2)
       (try clear hk)
       (try clear hi)
       refine hK.out _ _ ⟨(blk_cell BK130.out 0).trans rfl, (blk_cell BK130.out 1).trans rfl, (blk_cell BK130.out 2).trans rfl, (blk_cell BK130.out 3).trans rfl, (blk_cell BK130.out 4).trans rfl, ((HB.out.cell (World.block_lt_of_cell? w _ hw141_0)).trans hw141_0), ((HB.out.cell (World.block_lt_of_cell? w _ hw141_1)).trans hw141_1), ((HB.out.cell (World.block_lt_of_cell? w _ hw141_2)).trans hw141_2), ((HB.out.cell (World.block_lt_of_cell? w _ hw141_3)).trans hw141_3), ((HB.out.cell (World.block_lt_of_cell? w _ hw141_4)).trans hw141_4), ((HB.out.cell (World.block_lt_of_cell? w _ hw141_5)).trans hw141_5), ((HB.out.cell (World.block_lt_of_cell? w _ hw142_0)).trans hw142_0), ((HB.out.cell (World.block_lt_of_cell? w _ hw142_1)).trans hw142_1), ((HB.out.cell (World.block_lt_of_cell? w _ hw142_2)).trans hw142_2), ((HB.out.cell (World.block_lt_of_cell? w _ hw142_3)).trans hw142_3), ((HB.out.cell (World.block_lt_of_cell? w _ hw142_4)).trans hw142_4), ((HB.out.cell (World.block_lt_of_cell? w _ hw142_5)).trans hw142_5)⟩ (fun hHeld => ?_)
       clear hK K
       refine norm_ (a' := ?_) ?_ ?_
       rotate_left
       ·show Act.put _ (some 56) _ = _
        simp only [Act.put, List.setIfInBounds_toArray, List.set_cons_zero, List.set_cons_succ, i64_w, i32_w]
        rfl
       refine last_ (i := 12) (N := none) #[true, true, true, true, true, true, true, true, true, true, true, true, true] rfl rfl (one_of HT_.out (by kernel_rfl)) (by decide) (fun K hK => ?_)
       have hs26 : w25.cell? ⟨gb130, 0, none⟩ = some (.int .i64 x131000_1) := (blk_cell BK130.out 0).trans rfl; have hfs26 := blk_frozen BK130.out 0; have hns26_0 := NB129_130.out; have hms26_0 := NB130_129.out; have hs27 : w25.cell? ⟨gb130, 1, none⟩ = some (.int .i64 x131001_1) := (blk_cell BK130.out 1).trans rfl; have hfs27 := blk_frozen BK130.out 1; have hns27_0 := NB129_130.out; have hms27_0 := NB130_129.out; have hs28 : w25.cell? ⟨gb130, 2, none⟩ = some (.int .i64 x131002_1) := (blk_cell BK130.out 2).trans rfl; have hfs28 := blk_frozen BK130.out 2; have hns28_0 := NB129_130.out; have hms28_0 := NB130_129.out; have hs29 : w25.cell? ⟨gb130, 3, none⟩ = some (.int .i64 x131003_1) := (blk_cell BK130.out 3).trans rfl; have hfs29 := blk_frozen BK130.out 3; have hns29_0 := NB129_130.out; have hms29_0 := NB130_129.out; have hs30 : w25.cell? ⟨gb130, 4, none⟩ = some (.int .i64 x131004_1) := (blk_cell BK130.out 4).trans rfl; have hfs30 := blk_frozen BK130.out 4; have hns30_0 := NB129_130.out; have hms30_0 := NB130_129.out
       refine skip_ (w1 := ?_) (by rfl) rfl ?_ ?_
       rotate_left
       ·go_simp
        rfl
       refine hK.out _ _ ?_
       clear hK K
       refine done_ (done_of HT_.out (by kernel_rfl)) ?_
       try go_wp2
       go_roundg k1
       case measure => have := HK1.out; omega
       case rel => exact ⟨(wrap64 (x6_1 + 1)), (t143), (t144), (t145), (t146), (t147), zPA11, H', ⟨by have := HK1.out; omega⟩, ⟨by (with_reducible repeat (first | refine blk_drewN ?_ _ | refine blk_drew ?_ | refine blk_alloc ?_ _)); refine blk_far ?_ NB129_130.out _; (with_reducible repeat (first | refine blk_drewN ?_ _ | refine blk_drew ?_ | refine blk_alloc ?_ _)); refine blk_far ?_ NB129_130.out _; (with_reducible repeat (first | refine blk_drewN ?_ _ | refine blk_drew ?_ | refine blk_alloc ?_ _)); refine blk_far ?_ NB129_130.out _; (with_reducible repeat (first | refine blk_drewN ?_ _ | refine blk_drew ?_ | refine blk_alloc ?_ _)); refine blk_far ?_ NB129_130.out _; (with_reducible repeat (first | refine blk_drewN ?_ _ | refine blk_drew ?_ | refine blk_alloc ?_ _)); refine blk_far ?_ NB129_130.out _; (with_reducible repeat (first | refine blk_drewN ?_ _ | refine blk_drew ?_ | refine blk_alloc ?_ _)); exact BK129.out⟩, ⟨by (with_reducible repeat (first | refine blk_drewN ?_ _ | refine blk_drew ?_ | refine blk_alloc ?_ _)); refine blk_put (cs := #[.int .i64 t143, .int .i64 t144, .int .i64 t145, .int .i64 t146, .int .i64 x131004_1]) ?_ 4 _ rfl; (with_reducible repeat (first | refine blk_drewN ?_ _ | refine blk_drew ?_ | refine blk_alloc ?_ _)); refine blk_put (cs := #[.int .i64 t143, .int .i64 t144, .int .i64 t145, .int .i64 x131003_1, .int .i64 x131004_1]) ?_ 3 _ rfl; (with_reducible repeat (first | refine blk_drewN ?_ _ | refine blk_drew ?_ | refine blk_alloc ?_ _)); refine blk_put (cs := #[.int .i64 t143, .int .i64 t144, .int .i64 x131002_1, .int .i64 x131003_1, .int .i64 x131004_1]) ?_ 2 _ rfl; (with_reducible repeat (first | refine blk_drewN ?_ _ | refine blk_drew ?_ | refine blk_alloc ?_ _)); refine blk_put (cs := #[.int .i64 t143, .int .i64 x131001_1, .int .i64 x131002_1, .int .i64 x131003_1, .int .i64 x131004_1]) ?_ 1 _ rfl; (with_reducible repeat (first | refine blk_drewN ?_ _ | refine blk_drew ?_ | refine blk_alloc ?_ _)); refine blk_put (cs := #[.int .i64 x131000_1, .int .i64 x131001_1, .int .i64 x131002_1, .int .i64 x131003_1, .int .i64 x131004_1]) ?_ 0 _ rfl; (with_reducible repeat (first | refine blk_drewN ?_ _ | refine blk_drew ?_ | refine blk_alloc ?_ _)); exact BK130.out⟩, ⟨bel⟩⟩
     ·rw [if_neg c9] at H
      have c9b0 : (((rd_T26 l0 x6_1).f3) == a1) = false := beq_eq_false_iff_ne.mpr c9; have c9b1 : (((rd_T26 l0 x6_1).f3) != a1) = true := bne_iff_ne.mpr c9; have H' := Aside0.mk H; clear H; have p131 : 0 ≤ (x6_1 : Int) := of_decide_eq_true zPA7; have q131 : x6_1 < (l0.length : Int) := of_decide_eq_true zPA7; obtain ⟨ad131, e131, hx131_0, hx131_1, hx131_2, hx131_3, hx131_4, hx131_5⟩ := at_T26 HR0.out x6_1 p131 q131
      cases e131
      replace hx131_0 := (HB.out.cell (World.block_lt_of_cell? w _ hx131_0)).trans hx131_0; replace hx131_1 := (HB.out.cell (World.block_lt_of_cell? w _ hx131_1)).trans hx131_1; replace hx131_2 := (HB.out.cell (World.block_lt_of_cell? w _ hx131_2)).trans hx131_2; replace hx131_3 := (HB.out.cell (World.block_lt_of_cell? w _ hx131_3)).trans hx131_3; replace hx131_4 := (HB.out.cell (World.block_lt_of_cell? w _ hx131_4)).trans hx131_4; replace hx131_5 := (HB.out.cell (World.block_lt_of_cell? w _ hx131_5)).trans hx131_5; replace p131 := eq_true p131; replace q131 := eq_true q131
      go_wp2
      go_roundg k1
      case measure => have := HK1.out; omega
      case rel => exact ⟨(wrap64 (x6_1 + 1)), (x131000_1), (x131001_1), (x131002_1), (x131003_1), (x131004_1), zPA11, H', ⟨by have := HK1.out; omega⟩, ⟨by (with_reducible repeat (first | refine blk_drewN ?_ _ | refine blk_drew ?_ | refine blk_alloc ?_ _)); exact BK129.out⟩, ⟨by (with_reducible repeat (first | refine blk_drewN ?_ _ | refine blk_drew ?_ | refine blk_alloc ?_ _)); exact BK130.out⟩, ⟨bel⟩⟩
    ·rw [if_neg c8] at H
     exact absurd H (by simp)
   ·rw [if_neg c7] at H
    have c7b0 : decide (x6_1 < (l0.length : Int)) = false := decide_eq_false c7; clear c7
    simp only [Option.some.injEq, Prod.mk.injEq] at H
    obtain ⟨rfl, rfl, rfl, rfl, rfl⟩ := H; have hnb31 := NB130_129.out; have hnc31 := NB129_130.out; obtain ⟨hcz32_0, hcz32_1, hcz32_2, hcz32_3, hcz32_4, hfz32_0, hfz32_1, hfz32_2, hfz32_3, hfz32_4⟩ := cells5 BK130.out; obtain ⟨hcz33_0, hcz33_1, hcz33_2, hcz33_3, hcz33_4, hfz33_0, hfz33_1, hfz33_2, hfz33_3, hfz33_4⟩ := cells5 BK129.out
    go_wp2
    refine bodyPost_ret (results_cell_row rfl _ _ gb129 37 #[.int .i64 x131000_1, .int .i64 x131001_1, .int .i64 x131002_1, .int .i64 x131003_1, .int .i64 x131004_1] (0, 0) _ rfl (by (with_reducible repeat (first | refine blk_drewN ?_ _ | refine blk_drew ?_ | refine blk_alloc ?_ _)); refine blk_put (cs := #[.int .i64 x131000_1, .int .i64 x131001_1, .int .i64 x131002_1, .int .i64 x131003_1, .int .i64 0]) ?_ 4 _ rfl; refine blk_put (cs := #[.int .i64 x131000_1, .int .i64 x131001_1, .int .i64 x131002_1, .int .i64 0, .int .i64 0]) ?_ 3 _ rfl; refine blk_put (cs := #[.int .i64 x131000_1, .int .i64 x131001_1, .int .i64 0, .int .i64 0, .int .i64 0]) ?_ 2 _ rfl; refine blk_put (cs := #[.int .i64 x131000_1, .int .i64 0, .int .i64 0, .int .i64 0, .int .i64 0]) ?_ 1 _ rfl; refine blk_put (cs := #[.int .i64 0, .int .i64 0, .int .i64 0, .int .i64 0, .int .i64 0]) ?_ 0 _ rfl; (with_reducible repeat (first | refine blk_drewN ?_ _ | refine blk_drew ?_ | refine blk_alloc ?_ _)); exact BK129.out) Try.underlying37 rfl (by kernel_rfl)) rfl ?_
    exact ⟨by first | rfl | (simp [errW_none, errW_some] <;> rfl) | (simp [*, errW_none, errW_some] <;> rfl), bel⟩
-- NOT PRINTED: function 40 (customsref27_may)
-- NOT PRINTED: function 22 (customsref27_Ledger)
-- NOT PRINTED: function 20 (customsref27_Append)
def customsmade_Source_Left.f (s0_0 : List Int) (s0_1 : Int) : Option (Bool × Int) := some (decide (s0_1 < (s0_0.length : Int)), s0_1)
set_option maxHeartbeats 8000000 in
set_option maxRecDepth 100000 in
theorem customsmade_Source_Left.calls (g : Nat) (s0_0 : List Int) (s0_1 : Int) (r1 : Bool) (r2 : Int) (w0 w : World) (hI : IsS30 w0 w g s0_0 s0_1) (hB : Below w0.heap.size w0 w) (h : customsmade_Source_Left.f s0_0 s0_1 = some (r1, r2)) :
  Calls Try.prog 26 #[.pointer (some ⟨g, 0, none⟩)] w fun e w' => e = .returned (.bool r1) ∧ IsS30 w0 w' g s0_0 r2 ∧ Below w0.heap.size w0 w' ∧ KeepBut w w' g none := by
 have HI0 := Aside0.mk hI; have HK := Aside0.mk (KeepBut.refl w g none); have HL := Aside0.mk hB.size; clear hI; have HW0 := Aside0.mk hB.size; have HB := Aside0.mk hB; clear hB; have H : (some (decide (s0_1 < (s0_0.length : Int)), s0_1)) = some (r1, r2) := h; clear h
 simp only [Option.some.injEq, Prod.mk.injEq] at H
 obtain ⟨rfl, rfl⟩ := H; obtain ⟨ASz2_0, cSz2_0, HGz2, hgz2, HSz2_0⟩ := HI0.out; have hcz2_0 := cellS30_0 HGz2; have hcz2_1 := cellS30_1 HGz2; have hfz2_1 := blk_frozen HGz2 1; clear HGz2 hgz2
 go_enter Try.func26, Try.ntmps26
 go_wp2
 repeat (go_quiet (fail); try go_wp2)
 go_ret
 exact ⟨by first | rfl | (simp [errW_none, errW_some] <;> rfl) | (simp [*, errW_none, errW_some] <;> rfl), by repeat (first | (with_reducible first | exact HI0.out | apply IsS30.alloc | apply IsS30.drewN | apply IsS30.drew | apply IsS30.set_1) | exact HI0.out), by repeat (first | (with_reducible first | exact HB.out | apply below_alloc | apply pw_below_drewN | apply below_drew1 | refine below_set ?_ (IsS30.ge HI0.out)) | exact HB.out), by repeat (first | (with_reducible first | exact HK.out | apply KeepBut.set_ | apply keep_drewN | apply keep_drew | apply keep_alloc) | exact HK.out)⟩
-- NOT PRINTED: function 9 (customsmade_Ledger)
def customsmade_Targets.l0 : Nat → List (S37) → Int → List Int → Int → Option ((List (S37)))
 | 0, _, _, _, _ => none
 | k + 1, x4, x5, x209000, x209001 => (customsmade_Source_Left.f x209000 x209001).bind fun bt209 => (if bt209.1 = true then ((customsmade_Source_Next.f x209000 bt209.2 2).bind fun bt211 => ((customsmade_Small.f x209000 bt211.2 60 1000000000000).bind fun bt213 => ((customsmade_Small.f x209000 bt213.2 60 1000000000000).bind fun bt215 => ((customsmade_Source_Next.f x209000 bt215.2 50).bind fun bt217 => ((customsmade_Source_Next.f x209000 bt217.2 30).bind fun bt219 => (if x4.length < 3518437208883 then (customsmade_Targets.l0 k (x4 ++ [(⟨wrap64 ((wrap64 (x5 + 1)) + bt211.1), bt213.1, bt215.1, bt217.1, bt219.1⟩ : S37)]) (wrap64 ((wrap64 (x5 + 1)) + bt211.1)) x209000 bt219.2) else (none))))))) else (some x4))
def customsmade_Targets.f (k : Nat) (l0 : List Int) : Option ((List (S37))) := (customsmade_Cut.f l0 40).bind fun t207 => (customsmade_Targets.l0 k ([] : List (S37)) 0 t207 0)
def customsref27_SameLedger.l0 : Nat → List (S26) → List (S26) → Int → Option (Bool)
 | 0, _, _, _ => none
 | k + 1, x0, x1, x5 => if x5 < (x0.length : Int) then (if 0 ≤ x5 then (if x5 < (x1.length : Int) then (if (!(((rd_T26 x0 x5).f0) == ((rd_T26 x1 x5).f0)) || (!(((rd_T26 x0 x5).f1) == ((rd_T26 x1 x5).f1)) || (!(((rd_T26 x0 x5).f2) == ((rd_T26 x1 x5).f2)) || (!(((rd_T26 x0 x5).f3) == ((rd_T26 x1 x5).f3)) || (!(((rd_T26 x0 x5).f4) == ((rd_T26 x1 x5).f4)) || (!(((rd_T26 x0 x5).f5) == ((rd_T26 x1 x5).f5)))))))) = true then (some false) else (customsref27_SameLedger.l0 k x0 x1 (wrap64 (x5 + 1)))) else (none)) else (none)) else (some true)
def customsref27_SameLedger.f (k : Nat) (l0 : List (S26)) (l1 : List (S26)) : Option (Bool) := if (l0.length : Int) = (l1.length : Int) then (customsref27_SameLedger.l0 k l0 l1 0) else (some false)
set_option maxHeartbeats 8000000 in
set_option maxRecDepth 100000 in
theorem customsref27_SameLedger.calls (k : Nat) (A0 : Option Addr) (c0 : Nat) (l0 : List (S26)) (A1 : Option Addr) (c1 : Nat) (l1 : List (S26)) (r : Bool) (w : World) (hr0 : Kd.C k26 w A0 l0.length l0) (hc0 : l0.length ≤ c0) (hr1 : Kd.C k26 w A1 l1.length l1) (hc1 : l1.length ≤ c1) (h : customsref27_SameLedger.f k l0 l1 = some r) :
  Calls Try.prog 13 #[.slice A0 l0.length c0, .slice A1 l1.length c1] w fun e w' => e = .returned (.bool r) ∧ Drawn0 w w' := by
 have hu26 := Try.underlying26; have HR0 := Aside0.mk hr0; have HC0 := Aside0.mk hc0; clear hr0 hc0; have HR1 := Aside0.mk hr1; have HC1 := Aside0.mk hc1; clear hr1 hc1; have H : (if (l0.length : Int) = (l1.length : Int) then (customsref27_SameLedger.l0 k l0 l1 0) else (some false)) = some r := h; clear h
 by_cases c3 : (l0.length : Int) = (l1.length : Int)
 ·rw [if_pos c3] at H
  have c3b0 : ((l0.length : Int) == (l1.length : Int)) = true := beq_iff_eq.mpr c3; have c3b1 : ((l0.length : Int) != (l1.length : Int)) = false := bne_eq_false_iff_eq.mpr c3
  have c3b2 : (l0.length == l1.length) = true := by first | simpa using c3 | (simp at c3 ⊢; omega)
  clear c3; have H' := Aside0.mk H; clear H
  go_enter Try.func13, Try.ntmps13
  go_wp2
  repeat (go_quiet (fail); try go_wp2)
  go_loopg [5] k (fun kq v5 w' => ∃ (x5_1 : Int), v5 = .int .i64 x5_1 ∧ Aside0 (customsref27_SameLedger.l0 kq l0 l1 x5_1 = some r) ∧ Aside0 (kq ≤ k) ∧ Drawn0 w w')
  case atStart => exact ⟨(0), zPA11, H', ⟨Nat.le_refl _⟩, by repeat (first | exact Drawn0.refl _ | apply Drawn0.step)⟩
  case round =>
   clear H'
   try clear c1
   try clear p2
   try clear c3
   try clear c3b0
   try clear c3b1
   try clear c3b2
   obtain ⟨x5_1, rfl, HA, HK1, ⟨m1, rfl⟩⟩ := hrel
   cases gk with
   | zero => exact absurd HA.out (by simp [customsref27_SameLedger.l0])
   | succ k1 =>
    have H := HA.out; clear HA
    simp only [customsref27_SameLedger.l0] at H
    by_cases c4 : x5_1 < (l0.length : Int)
    ·rw [if_pos c4] at H
     have c4b0 : decide (x5_1 < (l0.length : Int)) = true := decide_eq_true c4; clear c4
     by_cases c5 : 0 ≤ x5_1
     ·rw [if_pos c5] at H
      have c5b0 : decide (0 ≤ x5_1) = true := decide_eq_true c5; clear c5
      by_cases c6 : x5_1 < (l1.length : Int)
      ·rw [if_pos c6] at H
       have c6b0 : decide (x5_1 < (l1.length : Int)) = true := decide_eq_true c6; clear c6
       by_cases c7 : (!(((rd_T26 l0 x5_1).f0) == ((rd_T26 l1 x5_1).f0)) || (!(((rd_T26 l0 x5_1).f1) == ((rd_T26 l1 x5_1).f1)) || (!(((rd_T26 l0 x5_1).f2) == ((rd_T26 l1 x5_1).f2)) || (!(((rd_T26 l0 x5_1).f3) == ((rd_T26 l1 x5_1).f3)) || (!(((rd_T26 l0 x5_1).f4) == ((rd_T26 l1 x5_1).f4)) || (!(((rd_T26 l0 x5_1).f5) == ((rd_T26 l1 x5_1).f5)))))))) = true
       ·rw [if_pos c7] at H
        have c7b0 : (!(((rd_T26 l0 x5_1).f0) == ((rd_T26 l1 x5_1).f0)) || (!(((rd_T26 l0 x5_1).f1) == ((rd_T26 l1 x5_1).f1)) || (!(((rd_T26 l0 x5_1).f2) == ((rd_T26 l1 x5_1).f2)) || (!(((rd_T26 l0 x5_1).f3) == ((rd_T26 l1 x5_1).f3)) || (!(((rd_T26 l0 x5_1).f4) == ((rd_T26 l1 x5_1).f4)) || (!(((rd_T26 l0 x5_1).f5) == ((rd_T26 l1 x5_1).f5)))))))) = true := c7; clear c7; obtain rfl := Option.some.inj H; have p224 : 0 ≤ (x5_1 : Int) := of_decide_eq_true zPA7; have q224 : x5_1 < (l0.length : Int) := of_decide_eq_true zPA7; obtain ⟨ad224, e224, hx224_0, hx224_1, hx224_2, hx224_3, hx224_4, hx224_5⟩ := at_T26 HR0.out x5_1 p224 q224
        cases e224
        replace p224 := eq_true p224; replace q224 := eq_true q224; have p225 : 0 ≤ (x5_1 : Int) := of_decide_eq_true zPA7; have q225 : x5_1 < (l1.length : Int) := of_decide_eq_true zPA7; obtain ⟨ad225, e225, hx225_0, hx225_1, hx225_2, hx225_3, hx225_4, hx225_5⟩ := at_T26 HR1.out x5_1 p225 q225
        cases e225
        replace p225 := eq_true p225; replace q225 := eq_true q225
        go_wp2
        repeat (go_quiet (fail); try go_wp2)
        go_ret
        exact ⟨by first | rfl | (simp; done) | (simp [*]; done), by repeat (first | exact Drawn0.refl _ | apply Drawn0.step)⟩
       ·rw [if_neg c7] at H
        have c7b0 : (!(((rd_T26 l0 x5_1).f0) == ((rd_T26 l1 x5_1).f0)) || (!(((rd_T26 l0 x5_1).f1) == ((rd_T26 l1 x5_1).f1)) || (!(((rd_T26 l0 x5_1).f2) == ((rd_T26 l1 x5_1).f2)) || (!(((rd_T26 l0 x5_1).f3) == ((rd_T26 l1 x5_1).f3)) || (!(((rd_T26 l0 x5_1).f4) == ((rd_T26 l1 x5_1).f4)) || (!(((rd_T26 l0 x5_1).f5) == ((rd_T26 l1 x5_1).f5)))))))) = false := by simpa using c7
        clear c7; have H' := Aside0.mk H; clear H; have p224 : 0 ≤ (x5_1 : Int) := of_decide_eq_true zPA7; have q224 : x5_1 < (l0.length : Int) := of_decide_eq_true zPA7; obtain ⟨ad224, e224, hx224_0, hx224_1, hx224_2, hx224_3, hx224_4, hx224_5⟩ := at_T26 HR0.out x5_1 p224 q224
        cases e224
        replace p224 := eq_true p224; replace q224 := eq_true q224; have p225 : 0 ≤ (x5_1 : Int) := of_decide_eq_true zPA7; have q225 : x5_1 < (l1.length : Int) := of_decide_eq_true zPA7; obtain ⟨ad225, e225, hx225_0, hx225_1, hx225_2, hx225_3, hx225_4, hx225_5⟩ := at_T26 HR1.out x5_1 p225 q225
        cases e225
        replace p225 := eq_true p225; replace q225 := eq_true q225
        go_wp2
        repeat (go_quiet (fail); try go_wp2)
        go_roundg k1
        case measure => have := HK1.out; omega
        case rel => exact ⟨(wrap64 (x5_1 + 1)), zPA11, H', ⟨by have := HK1.out; omega⟩, by repeat (first | exact Drawn0.refl _ | apply Drawn0.step)⟩
      ·rw [if_neg c6] at H
       exact absurd H (by simp)
     ·rw [if_neg c5] at H
      exact absurd H (by simp)
    ·rw [if_neg c4] at H
     have c4b0 : decide (x5_1 < (l0.length : Int)) = false := decide_eq_false c4; clear c4; obtain rfl := Option.some.inj H
     go_wp2
     repeat (go_quiet (fail); try go_wp2)
     go_ret
     exact ⟨by first | rfl | (simp; done) | (simp [*]; done), by repeat (first | exact Drawn0.refl _ | apply Drawn0.step)⟩
 ·rw [if_neg c3] at H
  have c3b0 : ((l0.length : Int) == (l1.length : Int)) = false := beq_eq_false_iff_ne.mpr c3; have c3b1 : ((l0.length : Int) != (l1.length : Int)) = true := bne_iff_ne.mpr c3
  have c3b2 : (l0.length == l1.length) = false := by first | simpa using c3 | (simp at c3 ⊢; omega)
  obtain rfl := Option.some.inj H
  go_enter Try.func13, Try.ntmps13
  go_wp2
  repeat (go_quiet (fail); try go_wp2)
  go_ret
  exact ⟨by first | rfl | (simp; done) | (simp [*]; done), by repeat (first | exact Drawn0.refl _ | apply Drawn0.step)⟩
end Go.Proofs.Ytgedkdofhonicaa.PA
/- Maps of the ledger's books, as functions: a map from lots to variables in memory (or to none), and a map from numbers to bools. -/
namespace Go.Proofs.Ytgedkdofhonicaa.G
open Go.ChangeMaps Go.MapKept
open Go.Maps (Keyed)
set_option linter.unusedVariables false
/-- How a pointer to a variable reads: the number of its block. -/
def ptrR : Value → Option (DataW Unit × List MemPlace)
  | .pointer (some ⟨b, 0, none⟩) => some (.lit (.int .u64 b), [])
  | .pointer none => some (.nil, [])
  | _ => none
def ptrD : Option Nat → DataW Unit
  | none => .nil
  | some b => .lit (.int .u64 b)
def ptrV : Option Nat → Value
  | none => .pointer none
  | some b => .pointer (some ⟨b, 0, none⟩)
theorem ptrR_V (o : Option Nat) : ptrR (ptrV o) = some (ptrD o, []) := by cases o <;> rfl
theorem ptrR_inv {v : Value} {o : Option Nat} {ps : List MemPlace} (h : ptrR v = some (ptrD o, ps)) : v = ptrV o := by
  unfold ptrR at h
  split at h
  · rename_i b
    cases o with
    | none => simp [ptrD] at h
    | some c =>
      simp only [ptrD, Option.some.injEq, Prod.mk.injEq, DataW.lit.injEq, Lit.int.injEq, Int.natCast_inj, true_and] at h
      simp [ptrV, h.1]
  · cases o with
    | none => rfl
    | some c => simp [ptrD] at h
  · cases h
theorem keyed3 : Keyed Try.prog 3 := Maps.int_keyed Try.underlying3
def i64 (x : Int) : Prop := (Lit.int .i64 x).wf = true
theorem i64_mk {x : Int} (h1 : -9223372036854775808 ≤ x) (h2 : x ≤ 9223372036854775807) : i64 x := by
  unfold i64
  simp [Lit.wf, IntKind.min, IntKind.max, IntKind.signed, IntKind.bits]
  omega
/-- What may be a lot. -/
structure lotR (x : Int) : Prop where
  lo : 1 ≤ x
  hi : x ≤ 1000000
theorem lotR.i64 {x : Int} (h : lotR x) : i64 x := i64_mk (by have := h.lo; omega) (by have := h.hi; omega)
/-- How an entry reads where z stands for none. -/
def ptrZ (z : DataW Unit) : Option Nat → DataW Unit
  | none => z
  | some b => .lit (.int .u64 b)
theorem ptrZ_nil (o : Option Nat) : ptrZ .nil o = ptrD o := by cases o <;> rfl
/-- Block b of w is a map of at most n entries, from numbers to variables: f tells the variable's block. -/
def MapP (w : World) (b n : Nat) (f : Int → Option Nat) : Prop := ∃ D, w.ownsMap Try.prog 3 ptrR b n D ∧ (∀ x z, D.atKey (.int .i64 x) z = ptrZ z (f x)) ∧ ∀ x b, f x = some b → lotR x
theorem MapP.made (w : World) : MapP (w.alloc (.map #[] 0)) w.heap.size 0 (fun _ => none) := ⟨_, World.ownsMap_made w _ _ _, fun _ _ => rfl, fun _ _ h => (by cases h)⟩
theorem MapP.kept {w w' : World} {b n : Nat} {f : Int → Option Nat} {row : Option Nat} (h : MapP w b n f) (hg : w.grownBy w' row) (hne : some b ≠ row) : MapP w' b n f := by
  obtain ⟨D, h1, h2⟩ := h
  exact ⟨D, h1.kept hg hne, h2⟩
theorem MapP.mono {w : World} {b n n' : Nat} {f : Int → Option Nat} (h : MapP w b n f) (hn : n ≤ n') : MapP w b n' f := by
  obtain ⟨D, h1, h2⟩ := h
  exact ⟨D, h1.mono hn, h2⟩
theorem MapP.lt {w : World} {b n : Nat} {f : Int → Option Nat} (h : MapP w b n f) : b < w.heap.size := by
  obtain ⟨D, h1, h2⟩ := h
  exact h1.lt
theorem MapP.lookup {w : World} {b n : Nat} {f : Int → Option Nat} (h : MapP w b n f) {x : Int} (hx : i64 x) : (Instr.lookup 59 (.map (some b)) (.int .i64 x) false).run Try.prog w = .ok (ptrV (f x)) w := by
  obtain ⟨D, h1, h2⟩ := h; obtain ⟨v, ps, hr, hv⟩ := h1.lookup keyed3 Try.underlying59 (z := .pointer none) (by kernel_rfl) (zd := .nil) (zp := []) rfl (Maps.keyOf_int_mk Try.underlying3 hx)
  rw [h2.1, ptrZ_nil] at hv
  rw [ptrR_inv hv] at hr
  exact hr
theorem MapP.update {w : World} {b n : Nat} {f : Int → Option Nat} (h : MapP w b n f) (hn : n < maxLen) {x : Int} (hx : lotR x) (o : Nat) :
    ∃ w', (Instr.mapUpdate 59 (.map (some b)) (.int .i64 x) (ptrV (some o))).run Try.prog w = .ok () w' ∧ MapP w' b (n + 1) (fun y => if y = x then some o else f y) ∧ w.grownBy w' (some b) := by
  obtain ⟨D, h1, h2⟩ := h; obtain ⟨w', hr, h3, h4⟩ := h1.update keyed3 Try.underlying59 hn (Maps.keyOf_int_mk Try.underlying3 hx.i64) (ptrR_V (some o))
  refine ⟨w', hr, ⟨_, h3, fun y z => ?_, fun y b' hy => ?_⟩, h4⟩
  rotate_left
  · by_cases hyx : y = x
    · rw [hyx]; exact hx
    · have hy : (if y = x then some o else f y) = some b' := hy
      rw [if_neg hyx] at hy; exact h2.2 y b' hy
  show _ = ptrZ z (if y = x then some o else f y)
  by_cases hy : y = x
  · subst hy
    rw [if_pos rfl, Maps.atKey_put_same h1.isMap (by simp [WideAt.IsKeyLit])]
    rfl
  · rw [if_neg hy, Maps.atKey_put_other (by simpa using hy), h2.1]
theorem MapP.lotR {w : World} {b n : Nat} {f : Int → Option Nat} (h : MapP w b n f) {x : Int} {c : Nat} (hx : f x = some c) : lotR x := by
  obtain ⟨D, h1, h2⟩ := h
  exact h2.2 x c hx
section
variable {ops : Array Oper} {rest : List Oper} {o : Oper} {a : Act} {Q : Exit → Act → World → Prop}
/-- A store into a map at the operation. -/
theorem wp_updateP {w : World} {b n : Nat} {f : Int → Option Nat} (h : MapP w b n f) (hn : n < maxLen) (hg : o.guard = none) (m x v : Operand) (hop : o.op = Op.mapUpdate 59 m x v) (hm : a.eval m = .map (some b)) (y : Int) (hx : a.eval x = .int .i64 y) (hy : lotR y) (p : Nat) (hv : a.eval v = ptrV (some p))
    (hK : ∀ w', MapP w' b (n + 1) (fun z => if z = y then some p else f z) → w.grownBy w' (some b) → wpList Try.prog ops Q rest (a.put o.dst undef) w') : wpList Try.prog ops Q (o :: rest) a w := by
  refine wpList_plain hg fun K' hK' => ?_
  obtain ⟨w', hrun, r1, r2⟩ := h.update hn hy p
  unfold Oper.wp
  simp [execOp, hop, hm, hx, hv, hrun, Result.andThen]
  exact hK' _ _ (hK w' r1 r2)
end
theorem keyed_bool (w : World) : (zeroValue 4).run Try.prog w = .ok (.bool false) w := by kernel_rfl
def MapB (w : World) (b n : Nat) (f : Int → Bool) : Prop := ∃ D : DataW Unit, w.ownsMap Try.prog 3 (plainElem Try.prog 4) b n D ∧ ∀ x, D.atKey (.int .i64 x) (.lit (.bool false)) = .lit (.bool (f x))
theorem MapB.made (w : World) : MapB (w.alloc (.map #[] 0)) w.heap.size 0 (fun _ => false) := ⟨_, World.ownsMap_made w _ _ _, fun _ => rfl⟩
theorem MapB.kept {w w' : World} {b n : Nat} {f : Int → Bool} {row : Option Nat} (h : MapB w b n f) (hg : w.grownBy w' row) (hne : some b ≠ row) : MapB w' b n f := by
  obtain ⟨D, h1, h2⟩ := h
  exact ⟨D, h1.kept hg hne, h2⟩
theorem MapB.mono {w : World} {b n n' : Nat} {f : Int → Bool} (h : MapB w b n f) (hn : n ≤ n') : MapB w b n' f := by
  obtain ⟨D, h1, h2⟩ := h
  exact ⟨D, h1.mono hn, h2⟩
theorem MapB.lt {w : World} {b n : Nat} {f : Int → Bool} (h : MapB w b n f) : b < w.heap.size := by
  obtain ⟨D, h1, h2⟩ := h
  exact h1.lt
theorem boolR_inv {v : Value} {x : Bool} {ps : List MemPlace} (h : plainElem (H := Unit) Try.prog 4 v = some (.lit (.bool x), ps)) : v = .bool x := by
  unfold plainElem at h
  have hb := Try.underlying4
  generalize Try.prog.underlying 4 = d at hb h
  subst hb
  cases v <;> simp_all
theorem MapB.lookup {w : World} {b n : Nat} {f : Int → Bool} (h : MapB w b n f) {x : Int} (hx : i64 x) : (Instr.lookup 60 (.map (some b)) (.int .i64 x) false).run Try.prog w = .ok (.bool (f x)) w := by
  obtain ⟨D, h1, h2⟩ := h; obtain ⟨v, ps, hr, hv⟩ := h1.lookup keyed3 Try.underlying60 (z := .bool false) (keyed_bool w) (zd := .lit (.bool false)) (zp := []) (plainElem_bool Try.underlying4 false) (Maps.keyOf_int_mk Try.underlying3 hx)
  rw [h2] at hv
  rw [boolR_inv hv] at hr
  exact hr
theorem MapB.update {w : World} {b n : Nat} {f : Int → Bool} (h : MapB w b n f) (hn : n < maxLen) {x : Int} (hx : i64 x) (v : Bool) :
    ∃ w', (Instr.mapUpdate 60 (.map (some b)) (.int .i64 x) (.bool v)).run Try.prog w = .ok () w' ∧ MapB w' b (n + 1) (fun y => if y = x then v else f y) ∧ w.grownBy w' (some b) := by
  obtain ⟨D, h1, h2⟩ := h; obtain ⟨w', hr, h3, h4⟩ := h1.update keyed3 Try.underlying60 hn (Maps.keyOf_int_mk Try.underlying3 hx) (plainElem_bool Try.underlying4 v)
  refine ⟨w', hr, ⟨_, h3, fun y => ?_⟩, h4⟩
  show _ = DataW.lit (.bool (if y = x then v else f y))
  by_cases hy : y = x
  · subst hy
    rw [if_pos rfl, Maps.atKey_put_same h1.isMap (by simp [WideAt.IsKeyLit])]
  · rw [if_neg hy, Maps.atKey_put_other (by simpa using hy), h2]
end Go.Proofs.Ytgedkdofhonicaa.G
/- The books of the ledger in memory, and the contract by hand of (*books).balance. -/
namespace Go.Proofs.Ytgedkdofhonicaa.G
open Go.RowKit Go.Proofs.YtgedkdofhonicaaW.PrintWords Go.Proofs.YtgedkdofhonicaaW.PrintLast Go.Proofs.YtgedkdofhonicaaW.PrintMore Go.Proofs.Ytgedkdofhonicaa.PA
set_option linter.unusedVariables false
set_option linter.unusedSimpArgs false
/-- A balance: owed, secured, paid, returned. -/
structure Bal where
  o : Int
  s : Int
  p : Int
  r : Int
def balCells (x : Int) (b : Bal) : Array Value := #[.int .i64 x, .int .i64 b.o, .int .i64 b.s, .int .i64 b.p, .int .i64 b.r]
def noBal : Bal := ⟨0, 0, 0, 0⟩
/-- The books stand in W: the struct in block g, its two maps in blocks m1 and m2, the balances in the blocks that f tells. -/
structure Books (W : World) (base g m1 m2 n : Nat) (f : Int → Option Nat) (bal : Int → Bal) (rev : Int → Bool) (A : Option Addr) (c : Nat) (es : List S26) : Prop where
  cell : W.heap[g]? = some (.cells #[.map (some m1), .map (some m2), .slice A es.length c] 62 (0, 0))
  lots : MapP W m1 n f
  revs : MapB W m2 n rev
  ents : Kd.R k26 26 W base (fun _ => True) (.slice A es.length c) es
  gb : base ≤ g
  m1b : base ≤ m1
  m2b : base ≤ m2
  some_ : ∀ x b, f x = some b → base ≤ b ∧ W.heap[b]? = some (.cells (balCells x (bal x)) 37 (0, 0))
  none_ : ∀ x, f x = none → bal x = noBal
  inj : ∀ x y b, f x = some b → f y = some b → x = y
  ne : m1 ≠ m2
section
variable {W W1 : World} {base g m1 m2 n : Nat} {f : Int → Option Nat} {bal : Int → Bal} {rev : Int → Bool} {A : Option Addr} {c : Nat} {es : List S26}
/-- The books stay while what stands is left as it is. -/
theorem Books.below (h : Books W base g m1 m2 n f bal rev A c es) (hb : Below W.heap.size W W1) : Books W1 base g m1 m2 n f bal rev A c es where
  cell := (hb.block g (blk_lt h.cell)).trans h.cell
  lots := h.lots.kept (grown_of_below hb none) (by simp)
  revs := h.revs.kept (grown_of_below hb none) (by simp)
  ents := Kd.R_below h.ents hb
  gb := h.gb
  m1b := h.m1b
  m2b := h.m2b
  some_ := fun x b hx => ⟨(h.some_ x b hx).1, (hb.block b (blk_lt (h.some_ x b hx).2)).trans (h.some_ x b hx).2⟩
  none_ := h.none_
  inj := h.inj
  ne := h.ne
theorem Books.lt (h : Books W base g m1 m2 n f bal rev A c es) : base ≤ W.heap.size := Nat.le_of_lt (Nat.lt_of_le_of_lt h.gb (blk_lt h.cell))
/-- A lot that had no balance gets a new one: what the store into the map leaves. -/
theorem Books.opened (h : Books W base g m1 m2 n f bal rev A c es) {x : Int} (hx : f x = none) {b : Nat} (hb : base ≤ b) (hnew : ∀ y, f y ≠ some b) (hcell : W.heap[b]? = some (.cells (balCells x noBal) 37 (0, 0)))
    {f' : Int → Option Nat} (hf : ∀ y, f' y = if y = x then some b else f y) (hm : MapP W1 m1 (n + 1) f') (hg : W.grownBy W1 (some m1)) : Books W1 base g m1 m2 (n + 1) f' bal rev A c es := by
  have hl := h.lots
  have hmap : ∃ es' cl, W.heap[m1]? = some (.map es' cl) := by
    obtain ⟨D, ⟨es', cl, h1, _⟩, _⟩ := hl
    exact ⟨es', cl, h1⟩
  obtain ⟨es', cl, hm1⟩ := hmap
  have ne : ∀ {k : Nat} {cs : Array Value} {t : TypeId} {z : Nat × Nat}, W.heap[k]? = some (.cells cs t z) → some k ≠ some m1 := fun hk he => by
    injection he with he
    subst he
    rw [hm1] at hk
    cases hk
  have keep : ∀ {k : Nat} {cs : Array Value} {t : TypeId} {z : Nat × Nat}, W.heap[k]? = some (.cells cs t z) → W1.heap[k]? = some (.cells cs t z) := fun hk => (hg.block _ (blk_lt hk) (ne hk)).trans hk
  refine ⟨keep h.cell, hm, ?_, ?_, h.gb, h.m1b, h.m2b, ?_, ?_, ?_, h.ne⟩
  · exact (h.revs.kept hg (by simpa using h.ne.symm)).mono (Nat.le_succ _)
  · exact Kd.R_mono (Kd.R_move (Kd.R_bound h.ents) (fun k hk => by
      obtain ⟨_, _, _, q, _, cells, hc⟩ := hk
      exact (keep hc).trans hc.symm)) (fun _ _ => trivial)
  · intro y b' hy
    rw [hf] at hy
    by_cases hyx : y = x
    · subst hyx
      rw [if_pos rfl] at hy
      injection hy with hy
      subst hy
      exact ⟨hb, by rw [h.none_ y hx]; exact keep hcell⟩
    · rw [if_neg hyx] at hy
      exact ⟨(h.some_ y b' hy).1, keep (h.some_ y b' hy).2⟩
  · intro y hy
    rw [hf] at hy
    by_cases hyx : y = x
    · rw [if_pos hyx] at hy; cases hy
    · rw [if_neg hyx] at hy; exact h.none_ y hy
  · intro y z b' hy hz
    rw [hf] at hy hz
    by_cases hyx : y = x
    · by_cases hzx : z = x
      · rw [hyx, hzx]
      · rw [if_pos hyx] at hy; rw [if_neg hzx] at hz
        injection hy with hy; subst hy
        exact absurd hz (hnew z)
    · by_cases hzx : z = x
      · rw [if_neg hyx] at hy; rw [if_pos hzx] at hz
        injection hz with hz; subst hz
        exact absurd hy (hnew y)
      · rw [if_neg hyx] at hy; rw [if_neg hzx] at hz; exact h.inj y z b' hy hz
end
end Go.Proofs.Ytgedkdofhonicaa.G
/- The contract by hand of (*books).balance: the variable of a lot's balance, made where there was none. -/
namespace Go.Proofs.Ytgedkdofhonicaa.G
open Go.RowKit Go.Proofs.YtgedkdofhonicaaW.PrintWords Go.Proofs.YtgedkdofhonicaaW.PrintLast Go.Proofs.YtgedkdofhonicaaW.PrintMore Go.Proofs.Ytgedkdofhonicaa.PA
set_option linter.unusedVariables false
set_option linter.unusedSimpArgs false
set_option maxHeartbeats 2000000 in
theorem balance_calls {W : World} {base g m1 m2 n : Nat} {f : Int → Option Nat} {bal : Int → Bal} {rev : Int → Bool} {A : Option Addr} {c : Nat} {es : List S26} (h : Books W base g m1 m2 n f bal rev A c es) (hn : n < maxLen) (x : Int) (hx : lotR x) :
    Calls Try.prog 49 #[.pointer (some ⟨g, 0, none⟩), .int .i64 x] W fun e w' => ∃ f' n' b, e = .returned (.pointer (some ⟨b, 0, none⟩)) ∧ f' x = some b ∧ n' ≤ n + 1 ∧ Books w' base g m1 m2 n' f' bal rev A c es ∧ W.grownBy w' (some m1) := by
  have hu62 := Try.underlying62; have hu37 := Try.underlying37; have hu63 := Try.underlying63; have hc0 : W.cell? ⟨g, 0, none⟩ = some (.map (some m1)) := (blk_cell h.cell 0).trans rfl; have hf0 := blk_frozen h.cell 0; have hl := h.lots.lookup hx.i64
  cases hfx : f x with
  | some b =>
    rw [hfx] at hl
    have HBK := Aside0.mk h; clear h
    simp only [ptrV] at hl
    go_enter Try.func49, Try.ntmps49
    go_wp2
    go_ret
    exact ⟨f, n, b, rfl, hfx, Nat.le_succ n, HBK.out, ⟨rfl, rfl, rfl, Nat.le_refl _, fun _ _ _ => rfl⟩⟩
  | none =>
    rw [hfx] at hl
    have HBK := Aside0.mk h; clear h
    simp only [ptrV] at hl
    go_enter Try.func49, Try.ntmps49
    go_wp2_with (first
      | ((with_reducible refine gate_dst (N := 19) rfl ?_); refine box_event ?hg (N := 19) ?hd (cs := balCells x noBal) (t := 37) ?hr ?_; (case hd => rfl); (case hg => rfl); (case hr => first | (go_simp; done) | (go_simp; rfl)); intro gb hg w1 hbox hb; have HB1 := Aside0.mk hb; have HK1 := Aside0.mk (HBK.out.below hb); have BX := Aside0.mk hbox; have GG := Aside0.mk hg; clear hb hbox hg)
      | (at_mapUpdate; refine wp_updateP HK1.out.lots hn rfl _ _ _ rfl rfl x rfl hx gb rfl ?_; intro w2 hm hg2; have HM := Aside0.mk hm; have HG := Aside0.mk hg2; clear hm hg2; have HK2 := Aside0.mk (HK1.out.opened (W1 := w2) (f' := fun z => if z = x then some gb else f z) hfx (by rw [GG.out]; exact HBK.out.lt) (fun y hy => by have := blk_lt (HBK.out.some_ y gb hy).2; rw [GG.out] at this; omega) BX.out (fun _ => rfl) HM.out HG.out); have hc2 : w2.cell? ⟨g, 0, none⟩ = some (.map (some m1)) := (blk_cell HK2.out.cell 0).trans rfl; have hf2 := blk_frozen HK2.out.cell 0; have hl2 := HK2.out.lots.lookup hx.i64; rw [if_pos rfl] at hl2; simp only [ptrV] at hl2; clear hl))
    go_ret
    refine ⟨_, n + 1, gb, rfl, if_pos rfl, Nat.le_refl _, HK2.out, ?_⟩
    have a := HB1.out; have b := HG.out
    exact ⟨b.os.trans a.os, b.tape.trans a.tape, b.output.trans a.output, Nat.le_trans a.size b.size, fun k hk hne => (b.block k (Nat.lt_of_lt_of_le hk a.size) hne).trans (a.block k hk)⟩
end Go.Proofs.Ytgedkdofhonicaa.G
/- The contract by hand of ledger.fields: the table of a balance's fields. -/
namespace Go.Proofs.Ytgedkdofhonicaa.G
open Go.RowKit Go.Proofs.YtgedkdofhonicaaW.PrintWords Go.Proofs.YtgedkdofhonicaaW.PrintLast Go.Proofs.YtgedkdofhonicaaW.PrintMore Go.Proofs.Ytgedkdofhonicaa.PA
set_option linter.unusedVariables false
set_option linter.unusedSimpArgs false
theorem run_store_func {P : Program} {w : World} {a : Addr} {m : Mode} (f : Fn) (x : Array Value) (y : Array Value) : (store a (.func f x y) m).run P w = stored P w a (.func f x y) m := run_store P w a _ m rfl
attribute [local go_sem] run_store_func
def fieldsV : Value := .agg #[.int .i64 1, .int .i64 2, .func (.func 50) #[] #[], .int .i64 3, .int .i64 4, .func (.func 51) #[] #[], .int .i64 5, .int .i64 6, .func (.func 52) #[] #[], .int .i64 7, .int .i64 8, .func (.func 53) #[] #[]]
set_option maxHeartbeats 4000000 in
set_option maxRecDepth 10000 in
theorem fields_calls (W : World) : Calls Try.prog 44 #[] W fun e w' => e = .returned fieldsV ∧ Below W.heap.size W w' := by
  have hu79 := Try.underlying79; have hu80 := Try.underlying80
  go_enter Try.func44, Try.ntmps44
  go_wp2_with (first
    | ((with_reducible refine gate_dst (N := 0) rfl ?_); refine box_event ?hg (N := 0) ?hd (cs := #[.int .i64 0, .int .i64 0, .nilFunc, .int .i64 0, .int .i64 0, .nilFunc, .int .i64 0, .int .i64 0, .nilFunc, .int .i64 0, .int .i64 0, .nilFunc]) (t := 80) ?hr ?_; (case hd => rfl); (case hg => rfl); (case hr => first | (go_simp; done) | (go_simp; rfl)); intro gb hg w1 hbox hb; have HB1 := Aside0.mk hb; have BK := Aside0.mk hbox; have GG := Aside0.mk hg; clear hb hbox hg; have hc0 : w1.cell? ⟨gb, 0, none⟩ = some (.int .i64 0) := (blk_cell BK.out 0).trans rfl; have hf0 := blk_frozen BK.out 0; have hc1 : w1.cell? ⟨gb, 1, none⟩ = some (.int .i64 0) := (blk_cell BK.out 1).trans rfl; have hf1 := blk_frozen BK.out 1; have hc2 : w1.cell? ⟨gb, 2, none⟩ = some (.nilFunc) := (blk_cell BK.out 2).trans rfl; have hf2 := blk_frozen BK.out 2; have hc3 : w1.cell? ⟨gb, 3, none⟩ = some (.int .i64 0) := (blk_cell BK.out 3).trans rfl; have hf3 := blk_frozen BK.out 3; have hc4 : w1.cell? ⟨gb, 4, none⟩ = some (.int .i64 0) := (blk_cell BK.out 4).trans rfl; have hf4 := blk_frozen BK.out 4; have hc5 : w1.cell? ⟨gb, 5, none⟩ = some (.nilFunc) := (blk_cell BK.out 5).trans rfl; have hf5 := blk_frozen BK.out 5; have hc6 : w1.cell? ⟨gb, 6, none⟩ = some (.int .i64 0) := (blk_cell BK.out 6).trans rfl; have hf6 := blk_frozen BK.out 6; have hc7 : w1.cell? ⟨gb, 7, none⟩ = some (.int .i64 0) := (blk_cell BK.out 7).trans rfl; have hf7 := blk_frozen BK.out 7; have hc8 : w1.cell? ⟨gb, 8, none⟩ = some (.nilFunc) := (blk_cell BK.out 8).trans rfl; have hf8 := blk_frozen BK.out 8; have hc9 : w1.cell? ⟨gb, 9, none⟩ = some (.int .i64 0) := (blk_cell BK.out 9).trans rfl; have hf9 := blk_frozen BK.out 9; have hc10 : w1.cell? ⟨gb, 10, none⟩ = some (.int .i64 0) := (blk_cell BK.out 10).trans rfl; have hf10 := blk_frozen BK.out 10; have hc11 : w1.cell? ⟨gb, 11, none⟩ = some (.nilFunc) := (blk_cell BK.out 11).trans rfl; have hf11 := blk_frozen BK.out 11))
  refine bodyPost_ret (results_cell_row rfl _ _ gb 80 #[.int .i64 1, .int .i64 2, .func (.func 50) #[] #[], .int .i64 3, .int .i64 4, .func (.func 51) #[] #[], .int .i64 5, .int .i64 6, .func (.func 52) #[] #[], .int .i64 7, .int .i64 8, .func (.func 53) #[] #[]] (0, 0) _ rfl (by (with_reducible repeat (first | refine blk_drewN ?_ _ | refine blk_drew ?_ | refine blk_alloc ?_ _)); refine blk_put (cs := #[.int .i64 1, .int .i64 2, .func (.func 50) #[] #[], .int .i64 3, .int .i64 4, .func (.func 51) #[] #[], .int .i64 5, .int .i64 6, .func (.func 52) #[] #[], .int .i64 7, .int .i64 8, .nilFunc]) ?_ 11 _ rfl; (with_reducible repeat (first | refine blk_drewN ?_ _ | refine blk_drew ?_ | refine blk_alloc ?_ _)); refine blk_put (cs := #[.int .i64 1, .int .i64 2, .func (.func 50) #[] #[], .int .i64 3, .int .i64 4, .func (.func 51) #[] #[], .int .i64 5, .int .i64 6, .func (.func 52) #[] #[], .int .i64 7, .int .i64 0, .nilFunc]) ?_ 10 _ rfl; (with_reducible repeat (first | refine blk_drewN ?_ _ | refine blk_drew ?_ | refine blk_alloc ?_ _)); refine blk_put (cs := #[.int .i64 1, .int .i64 2, .func (.func 50) #[] #[], .int .i64 3, .int .i64 4, .func (.func 51) #[] #[], .int .i64 5, .int .i64 6, .func (.func 52) #[] #[], .int .i64 0, .int .i64 0, .nilFunc]) ?_ 9 _ rfl; (with_reducible repeat (first | refine blk_drewN ?_ _ | refine blk_drew ?_ | refine blk_alloc ?_ _)); refine blk_put (cs := #[.int .i64 1, .int .i64 2, .func (.func 50) #[] #[], .int .i64 3, .int .i64 4, .func (.func 51) #[] #[], .int .i64 5, .int .i64 6, .nilFunc, .int .i64 0, .int .i64 0, .nilFunc]) ?_ 8 _ rfl; (with_reducible repeat (first | refine blk_drewN ?_ _ | refine blk_drew ?_ | refine blk_alloc ?_ _)); refine blk_put (cs := #[.int .i64 1, .int .i64 2, .func (.func 50) #[] #[], .int .i64 3, .int .i64 4, .func (.func 51) #[] #[], .int .i64 5, .int .i64 0, .nilFunc, .int .i64 0, .int .i64 0, .nilFunc]) ?_ 7 _ rfl; (with_reducible repeat (first | refine blk_drewN ?_ _ | refine blk_drew ?_ | refine blk_alloc ?_ _)); refine blk_put (cs := #[.int .i64 1, .int .i64 2, .func (.func 50) #[] #[], .int .i64 3, .int .i64 4, .func (.func 51) #[] #[], .int .i64 0, .int .i64 0, .nilFunc, .int .i64 0, .int .i64 0, .nilFunc]) ?_ 6 _ rfl; (with_reducible repeat (first | refine blk_drewN ?_ _ | refine blk_drew ?_ | refine blk_alloc ?_ _)); refine blk_put (cs := #[.int .i64 1, .int .i64 2, .func (.func 50) #[] #[], .int .i64 3, .int .i64 4, .nilFunc, .int .i64 0, .int .i64 0, .nilFunc, .int .i64 0, .int .i64 0, .nilFunc]) ?_ 5 _ rfl; (with_reducible repeat (first | refine blk_drewN ?_ _ | refine blk_drew ?_ | refine blk_alloc ?_ _)); refine blk_put (cs := #[.int .i64 1, .int .i64 2, .func (.func 50) #[] #[], .int .i64 3, .int .i64 0, .nilFunc, .int .i64 0, .int .i64 0, .nilFunc, .int .i64 0, .int .i64 0, .nilFunc]) ?_ 4 _ rfl; (with_reducible repeat (first | refine blk_drewN ?_ _ | refine blk_drew ?_ | refine blk_alloc ?_ _)); refine blk_put (cs := #[.int .i64 1, .int .i64 2, .func (.func 50) #[] #[], .int .i64 0, .int .i64 0, .nilFunc, .int .i64 0, .int .i64 0, .nilFunc, .int .i64 0, .int .i64 0, .nilFunc]) ?_ 3 _ rfl; (with_reducible repeat (first | refine blk_drewN ?_ _ | refine blk_drew ?_ | refine blk_alloc ?_ _)); refine blk_put (cs := #[.int .i64 1, .int .i64 2, .nilFunc, .int .i64 0, .int .i64 0, .nilFunc, .int .i64 0, .int .i64 0, .nilFunc, .int .i64 0, .int .i64 0, .nilFunc]) ?_ 2 _ rfl; (with_reducible repeat (first | refine blk_drewN ?_ _ | refine blk_drew ?_ | refine blk_alloc ?_ _)); refine blk_put (cs := #[.int .i64 1, .int .i64 0, .nilFunc, .int .i64 0, .int .i64 0, .nilFunc, .int .i64 0, .int .i64 0, .nilFunc, .int .i64 0, .int .i64 0, .nilFunc]) ?_ 1 _ rfl; (with_reducible repeat (first | refine blk_drewN ?_ _ | refine blk_drew ?_ | refine blk_alloc ?_ _)); refine blk_put (cs := #[.int .i64 0, .int .i64 0, .nilFunc, .int .i64 0, .int .i64 0, .nilFunc, .int .i64 0, .int .i64 0, .nilFunc, .int .i64 0, .int .i64 0, .nilFunc]) ?_ 0 _ rfl; (with_reducible repeat (first | refine blk_drewN ?_ _ | refine blk_drew ?_ | refine blk_alloc ?_ _)); exact BK.out) Try.underlying80 rfl (by kernel_rfl)) rfl ?_
  refine ⟨rfl, ?_⟩
  repeat (first | (with_reducible first | exact HB1.out | apply below_alloc | apply pw_below_drewN | apply below_drew1) | refine below_set ?_ (Nat.le_of_eq GG.out.symm))
end Go.Proofs.Ytgedkdofhonicaa.G
/- The contract by hand of (*books).effect. -/
namespace Go.Proofs.Ytgedkdofhonicaa.G
open Go.RowKit Go.Proofs.YtgedkdofhonicaaW.PrintWords Go.Proofs.YtgedkdofhonicaaW.PrintLast Go.Proofs.YtgedkdofhonicaaW.PrintMore Go.Proofs.Ytgedkdofhonicaa.PA
set_option linter.unusedVariables false
set_option linter.unusedSimpArgs false
def setBal (bal : Int → Bal) (x : Int) (b : Bal) : Int → Bal := fun y => if y = x then b else bal y
/-- The effect of an entry of kind k, with amount v (its sign in it), on a balance; false: a field is negative. -/
def eff (k v : Int) (b : Bal) : Bal × Bool :=
  if k = 1 then ({ b with o := wrap64 (b.o + v) }, decide (0 ≤ wrap64 (b.o + v))) else
  if k = 2 then ({ b with o := wrap64 (b.o - v) }, decide (0 ≤ wrap64 (b.o - v))) else
  if k = 3 then ({ b with s := wrap64 (b.s + v) }, decide (0 ≤ wrap64 (b.s + v))) else
  if k = 4 then ({ b with s := wrap64 (b.s - v) }, decide (0 ≤ wrap64 (b.s - v))) else
  if k = 5 then ({ b with p := wrap64 (b.p + v) }, decide (0 ≤ wrap64 (b.p + v))) else
  if k = 6 then ({ b with p := wrap64 (b.p - v) }, decide (0 ≤ wrap64 (b.p - v))) else
  if k = 7 then ({ b with r := wrap64 (b.r + v) }, decide (0 ≤ wrap64 (b.r + v))) else
  if k = 8 then ({ b with r := wrap64 (b.r - v) }, decide (0 ≤ wrap64 (b.r - v))) else (b, true)
theorem grown_setCell (W : World) (p : Addr) (u : Value) : W.grownBy (W.setCell p u) (some p.block) := ⟨rfl, rfl, rfl, by simp [World.setCell], fun k _ hne => Below.heap_setCell W p u k (fun e => hne (by rw [e]))⟩
/-- One field of a lot's balance is stored. -/
theorem Books.store {W : World} {base g m1 m2 n : Nat} {f : Int → Option Nat} {bal : Int → Bal} {rev : Int → Bool} {A : Option Addr} {c : Nat} {es : List S26} (h : Books W base g m1 m2 n f bal rev A c es) {x : Int} {b : Nat} (hx : f x = some b) (i : Nat) (v : Int) {nb : Bal}
    (hc : (balCells x (bal x)).setIfInBounds i (.int .i64 v) = balCells x nb) : Books (W.setCell ⟨b, i, none⟩ (.int .i64 v)) base g m1 m2 n f (setBal bal x nb) rev A c es := by
  obtain ⟨hbase, hcell⟩ := h.some_ x b hx
  have ne : ∀ {k : Nat} {cs : Array Value} {t : TypeId} {z : Nat × Nat}, t ≠ 37 → W.heap[k]? = some (.cells cs t z) → k ≠ b := fun ht hk he => by
    subst he
    rw [hcell] at hk
    injection hk with hk
    injection hk with _ hk
    exact ht hk.symm
  have keep : ∀ {k : Nat}, k ≠ b → (W.setCell ⟨b, i, none⟩ (.int .i64 v)).heap[k]? = W.heap[k]? := fun hk => Below.heap_setCell W _ _ _ hk
  have hg := grown_setCell W ⟨b, i, none⟩ (.int .i64 v)
  have hm1 : m1 ≠ b := fun he => by
    obtain ⟨D, ⟨es', cl, h1, _⟩, _⟩ := h.lots
    rw [he, hcell] at h1
    cases h1
  have hm2 : m2 ≠ b := fun he => by
    obtain ⟨D, ⟨es', cl, h1, _⟩, _⟩ := h.revs
    rw [he, hcell] at h1
    cases h1
  refine ⟨(keep (ne (by decide) h.cell)).trans h.cell, h.lots.kept hg (by simpa using hm1), h.revs.kept hg (by simpa using hm2), ?_, h.gb, h.m1b, h.m2b, ?_, ?_, h.inj, h.ne⟩
  · exact Kd.R_mono (Kd.R_far (p := ⟨b, i, none⟩) (Kd.R_types h.ents hcell (by decide)) (fun _ hk => hk.2) (.int .i64 v)) (fun _ _ => trivial)
  · intro y b' hy
    by_cases hyx : y = x
    · subst hyx
      rw [hx] at hy
      injection hy with hy
      subst hy
      refine ⟨hbase, ?_⟩
      show _ = some (Obj.cells (balCells y (setBal bal y nb y)) 37 (0, 0))
      rw [setBal, if_pos rfl, ← hc]
      exact blk_put (cs := balCells y (bal y)) hcell i _ rfl
    · have hne : b' ≠ b := fun he => hyx (h.inj y x b' hy (by rw [he]; exact hx))
      refine ⟨(h.some_ y b' hy).1, ?_⟩
      rw [setBal, if_neg hyx]
      exact (keep hne).trans (h.some_ y b' hy).2
  · intro y hy
    by_cases hyx : y = x
    · subst hyx; rw [hx] at hy; cases hy
    · rw [setBal, if_neg hyx]; exact h.none_ y hy
/-- What a call leaves of what stood ahead of it. -/
def Frame (W W1 : World) : Prop := ∀ (k : Nat) (cs : Array Value) (t : TypeId), t ≠ 37 → W.heap[k]? = some (Obj.cells cs t (0, 0)) → W1.heap[k]? = some (Obj.cells cs t (0, 0))
theorem Frame.below {W W1 W2 : World} (h : Frame W W1) (hb : Below W1.heap.size W1 W2) : Frame W W2 := fun k cs t ht hk => (hb.block k (blk_lt (h k cs t ht hk))).trans (h k cs t ht hk)
theorem after_skip {W wr : World} {base g m1 m2 n : Nat} {f : Int → Option Nat} {bal : Int → Bal} {rev : Int → Bool} {A : Option Addr} {c : Nat} {es : List S26} (hk : Books wr base g m1 m2 n f bal rev A c es) (hb : Below base W wr) (hf : Frame W wr) (o : Obj) :
    Books (wr.alloc o) base g m1 m2 n f bal rev A c es ∧ Below base W (wr.alloc o) ∧ Frame W (wr.alloc o) :=
  ⟨hk.below (below_alloc (Below.refl _ _) o), hb.trans ((below_alloc (Below.refl wr.heap.size wr) o).mono hk.lt), hf.below (below_alloc (Below.refl _ _) o)⟩
theorem after_store {W wr : World} {base g m1 m2 n : Nat} {f : Int → Option Nat} {bal : Int → Bal} {rev : Int → Bool} {A : Option Addr} {c : Nat} {es : List S26} (hk : Books wr base g m1 m2 n f bal rev A c es) (hb : Below base W wr) (hf : Frame W wr) (o : Obj) {x : Int} {b : Nat} (hx : f x = some b) (i : Nat) (v : Int) {nb : Bal}
    (hc : (balCells x (bal x)).setIfInBounds i (.int .i64 v) = balCells x nb) :
    Books (((wr.alloc o).setCell ⟨b, i, none⟩ (.int .i64 v)).drew) base g m1 m2 n f (setBal bal x nb) rev A c es ∧ Below base W (((wr.alloc o).setCell ⟨b, i, none⟩ (.int .i64 v)).drew) ∧ Frame W (((wr.alloc o).setCell ⟨b, i, none⟩ (.int .i64 v)).drew) := by
  obtain ⟨h1, h2, h3⟩ := after_skip hk hb hf o; have h4 := h1.store hx i v hc; obtain ⟨hbase, hcell⟩ := h1.some_ x b hx
  refine ⟨h4.below (below_drew1 (Below.refl _ _)), ?_, ?_⟩
  · have h5 := pw_below_grown h2 (some b) h1.lt (grown_setCell (wr.alloc o) ⟨b, i, none⟩ (.int .i64 v)) (fun k hk => by injection hk with hk; subst hk; exact hbase)
    exact h5.trans ((below_drew1 (Below.refl _ _)).mono h4.lt)
  · refine Frame.below (W1 := (wr.alloc o).setCell ⟨b, i, none⟩ (.int .i64 v)) (fun k cs t ht hk => ?_) (below_drew1 (Below.refl _ _))
    have h6 := h3 k cs t ht hk
    refine (Below.heap_setCell _ _ _ k (fun he => ?_)).trans h6
    have he' : k = b := he; subst he'
    rw [hcell] at h6
    injection h6 with h6
    injection h6 with _ h6
    exact ht h6.symm
theorem frame_store {W : World} {base g m1 m2 n : Nat} {f : Int → Option Nat} {bal : Int → Bal} {rev : Int → Bool} {A : Option Addr} {c : Nat} {es : List S26} (hk : Books W base g m1 m2 n f bal rev A c es) {x : Int} {b i k : Nat} (hx : f x = some b) {v : Value} {cs : Array Value} {t : TypeId} (h : W.heap[k]? = some (Obj.cells cs t (0, 0))) (ht : t ≠ 37) :
    ((W.setCell ⟨b, i, none⟩ v).drew).heap[k]? = some (Obj.cells cs t (0, 0)) := by
  obtain ⟨_, hcell⟩ := hk.some_ x b hx
  refine (Below.heap_setCell _ _ _ k (fun he => ?_)).trans h
  have he' : k = b := he; subst he'
  rw [hcell] at h
  injection h with h
  injection h with _ h
  exact ht h.symm
theorem setBal_same (bal : Int → Bal) (x : Int) : setBal bal x (bal x) = bal := funext fun y => by
  unfold setBal
  split
  · rename_i h; subst h; rfl
  · rfl
theorem eff_low {k v : Int} {b : Bal} (h : k < 1) : eff k v b = (b, true) := by
  unfold eff
  rw [if_neg (by omega), if_neg (by omega), if_neg (by omega), if_neg (by omega), if_neg (by omega), if_neg (by omega), if_neg (by omega), if_neg (by omega)]
theorem eff_high {k v : Int} {b : Bal} (h : 9 ≤ k) : eff k v b = (b, true) := by
  unfold eff
  rw [if_neg (by omega), if_neg (by omega), if_neg (by omega), if_neg (by omega), if_neg (by omega), if_neg (by omega), if_neg (by omega), if_neg (by omega)]
attribute [local go_sem] run_store_func
theorem idx0 (w : World) : (Instr.index 80 fieldsV (.int .i64 0)).run Try.prog w = .ok (.agg #[.int .i64 1, .int .i64 2, .func (.func 50) #[] #[]]) w := by kernel_rfl
theorem idx1 (w : World) : (Instr.index 80 fieldsV (.int .i64 1)).run Try.prog w = .ok (.agg #[.int .i64 3, .int .i64 4, .func (.func 51) #[] #[]]) w := by kernel_rfl
theorem idx2 (w : World) : (Instr.index 80 fieldsV (.int .i64 2)).run Try.prog w = .ok (.agg #[.int .i64 5, .int .i64 6, .func (.func 52) #[] #[]]) w := by kernel_rfl
theorem idx3 (w : World) : (Instr.index 80 fieldsV (.int .i64 3)).run Try.prog w = .ok (.agg #[.int .i64 7, .int .i64 8, .func (.func 53) #[] #[]]) w := by kernel_rfl
attribute [local go_sem] idx0 idx1 idx2 idx3
set_option maxHeartbeats 8000000 in
set_option maxRecDepth 100000 in
theorem effect_calls {W : World} {base g m1 m2 n : Nat} {f : Int → Option Nat} {bal : Int → Bal} {rev : Int → Bool} {A : Option Addr} {c : Nat} {es : List S26} (h : Books W base g m1 m2 n f bal rev A c es) (hn : n < maxLen) (e : S26) (hx : lotR e.f3) (sg : Int) :
    Calls Try.prog 43 #[.pointer (some ⟨g, 0, none⟩), .agg #[.int .i64 e.f0, .int .i64 e.f1, .int .i64 e.f2, .int .i64 e.f3, .int .i64 e.f4, .int .i64 e.f5], .int .i64 sg] W fun r w' =>
      ∃ f' n', r = .returned (.bool (eff e.f2 (wrap64 (sg * e.f4)) (bal e.f3)).2) ∧ n' ≤ n + 1 ∧ Books w' base g m1 m2 n' f' (setBal bal e.f3 (eff e.f2 (wrap64 (sg * e.f4)) (bal e.f3)).1) rev A c es ∧ Below base W w' ∧ Frame W w' := by
  have hu26 := Try.underlying26; have hu37 := Try.underlying37; have hu79 := Try.underlying79; have hu80 := Try.underlying80
  have mixed : Try.prog.follows Departure.mixedOrders = true := by kernel_rfl
  have HBK := Aside0.mk h; clear h
  go_enter Try.func43, Try.ntmps43
  go_wp2_with (first
    | ((with_reducible refine gate_dst (N := 4) rfl ?_); refine box_event ?hg (N := 4) ?hd (cs := #[.int .i64 e.f0, .int .i64 e.f1, .int .i64 e.f2, .int .i64 e.f3, .int .i64 e.f4, .int .i64 e.f5]) (t := 26) ?hr ?_; (case hd => rfl); (case hg => rfl); (case hr => first | (go_simp; done) | (go_simp; rfl)); intro gb hg w1 hbox hb; have HB1 := Aside0.mk hb; have HK1 := Aside0.mk (HBK.out.below hb); have BX := Aside0.mk hbox; clear hb hbox hg; have hc3 : w1.cell? ⟨gb, 3, none⟩ = some (.int .i64 e.f3) := (blk_cell BX.out 3).trans rfl; have hf3 := blk_frozen BX.out 3)
    | ((with_reducible refine gate_callee (f := 49) rfl ?_); refine goesL_ (some 14) rfl rfl Try.func49 (by kernel_rfl) rfl #[.pointer (some ⟨g, 0, none⟩), .int .i64 e.f3] rfl (by (try simp only [List.map_toArray, List.map_cons, List.map_nil]); first | done | rfl) ?_; refine (balance_calls HK1.out hn e.f3 hx).mono ?_; rintro _ w2 ⟨f', n', b, rfl, hf', hn', hbk, hgr⟩; refine ⟨_, rfl, ?_⟩; have HK2 := Aside0.mk hbk; have HG2 := Aside0.mk hgr; have HF2 := Aside0.mk hf'; have HN2 := Aside0.mk hn'; clear hbk hgr hf' hn' hc3 hf3)
    | ((with_reducible refine gate_callee (f := 44) rfl ?_); refine goesL_ (some 15) rfl rfl Try.func44 (by kernel_rfl) rfl #[] rfl (by (try simp only [List.map_toArray, List.map_cons, List.map_nil]); first | done | rfl) ?_; refine (fields_calls _).mono ?_; rintro _ w3 ⟨rfl, hb⟩; refine ⟨_, rfl, ?_⟩; have HB3 := Aside0.mk hb; clear hb))
  generalize hV : wrap64 (sg * e.f4) = V
  have NV := Aside0.mk hV; clear hV; have HK3 := Aside0.mk (HK2.out.below HB3.out)
  have BX2 : w2.heap[gb]? = some (Obj.cells #[.int .i64 e.f0, .int .i64 e.f1, .int .i64 e.f2, .int .i64 e.f3, .int .i64 e.f4, .int .i64 e.f5] 26 (0, 0)) := by
    have hne : some gb ≠ some m1 := fun he => by
      injection he with he
      obtain ⟨D, ⟨es', cl, h1, _⟩, _⟩ := HK1.out.lots
      rw [← he, BX.out] at h1
      cases h1
    exact (HG2.out.block gb (blk_lt BX.out) hne).trans BX.out
  have BX3 := Aside0.mk ((HB3.out.block gb (blk_lt BX2)).trans BX2); clear BX2 BX; have HW2 : Below base W w2 := pw_below_grown (HB1.out.mono HBK.out.lt) (some m1) (Nat.le_trans HBK.out.lt HB1.out.size) HG2.out (fun k hk => by injection hk with hk; subst hk; exact HBK.out.m1b); have HW : Below base W w3 := HW2.trans (HB3.out.mono HK2.out.lt)
  have HFR2 : Frame W w2 := fun k cs t _ hk => by
    have h1 : w1.heap[k]? = some (Obj.cells cs t (0, 0)) := (HB1.out.block k (blk_lt hk)).trans hk
    have hne : some k ≠ some m1 := fun he => by
      injection he with he
      obtain ⟨D, ⟨es', cl, h2, _⟩, _⟩ := HK1.out.lots
      rw [← he, h1] at h2
      cases h2
    exact (HG2.out.block k (blk_lt h1) hne).trans h1
  have HFR : Frame W w3 := HFR2.below HB3.out; clear HW2 HFR2; have HWB := Aside0.mk HW; have HFR3 := Aside0.mk HFR; clear HW HFR
  go_loopg [16] 4 (fun kx v16 wr => ∃ j : Nat, v16 = .int .i64 j ∧ j + kx = 4 ∧ Aside0 (Books wr base g m1 m2 n' f' (setBal bal e.f3 (if e.f2 < 2 * j + 1 then (eff e.f2 V (bal e.f3)).1 else bal e.f3)) rev A c es) ∧ Aside0 (wr.heap[gb]? = some (Obj.cells #[.int .i64 e.f0, .int .i64 e.f1, .int .i64 e.f2, .int .i64 e.f3, .int .i64 e.f4, .int .i64 e.f5] 26 (0, 0))) ∧ Aside0 (Below base W wr) ∧ Aside0 (Frame W wr) ∧ Aside0 (e.f2 < 2 * j + 1 → (eff e.f2 V (bal e.f3)).2 = true))
  case atStart =>
    refine ⟨0, rfl, rfl, ⟨?_⟩, BX3, HWB, HFR3, ⟨fun hk => by rw [eff_low (by omega)]⟩⟩
    have e1 : (if e.f2 < 2 * ((0 : Nat) : Int) + 1 then (eff e.f2 V (bal e.f3)).1 else bal e.f3) = bal e.f3 := by
      split
      · rw [eff_low (by omega)]
      · rfl
    rw [e1, setBal_same]
    exact HK3.out
  case round =>
    clear HK3 BX3 HWB HFR3 HB3 HK2 HG2 HK1 HB1; obtain ⟨j, rfl, hjk, HK, BX, HB, HFR, HT⟩ := hrel
    by_cases hj : j < 4
    · obtain ⟨k1, rfl⟩ : ∃ k1, gk = k1 + 1 := ⟨gk - 1, by omega⟩
      have hj4 : j = 0 ∨ j = 1 ∨ j = 2 ∨ j = 3 := by omega
      rcases hj4 with rfl | rfl | rfl | rfl
      · by_cases h1 : e.f2 = 1
        · have eB : setBal bal e.f3 (if e.f2 < 2 * ((0 : Nat) : Int) + 1 then (eff e.f2 V (bal e.f3)).1 else bal e.f3) = bal := by rw [if_neg (by omega), setBal_same]
          rw [eB] at HK
          have eE : eff e.f2 V (bal e.f3) = ({ bal e.f3 with o := wrap64 ((bal e.f3).o + V) }, decide (0 ≤ wrap64 ((bal e.f3).o + V))) := by rw [h1]; rfl
          have b1 : (e.f2 == 1) = true := beq_iff_eq.mpr h1; have NE := Aside0.mk eE; have NH := Aside0.mk h1; clear eB eE HT h1
          by_cases hs : wrap64 ((bal e.f3).o + V) < 0
          · have bs : decide (wrap64 ((bal e.f3).o + V) < 0) = true := decide_eq_true hs
            have NS := Aside0.mk hs; clear hs; have HA : Below wr.heap.size wr (wr.alloc (Obj.cells #[.int .i64 1, .int .i64 2, .func (.func 50) #[] #[]] 79)) := below_alloc (Below.refl wr.heap.size wr) _; have HK5 := Aside0.mk (HK.out.below HA); have BX5 := Aside0.mk (blk_below BX.out HA); have BB := Aside0.mk (HK5.out.some_ e.f3 b HF2.out).2; have x2 : (wr.alloc (Obj.cells #[.int .i64 1, .int .i64 2, .func (.func 50) #[] #[]] 79)).cell? ⟨gb, 2, none⟩ = some (.int .i64 e.f2) := (blk_cell BX5.out 2).trans rfl; have x4 : (wr.alloc (Obj.cells #[.int .i64 1, .int .i64 2, .func (.func 50) #[] #[]] 79)).cell? ⟨gb, 4, none⟩ = some (.int .i64 e.f4) := (blk_cell BX5.out 4).trans rfl; have x5 := blk_frozen BX5.out 2; have x6 := blk_frozen BX5.out 4; have y1 : (wr.alloc (Obj.cells #[.int .i64 1, .int .i64 2, .func (.func 50) #[] #[]] 79)).cell? ⟨b, 1, none⟩ = some (.int .i64 (bal e.f3).o) := (blk_cell BB.out 1).trans rfl; have y2 := blk_frozen BB.out 1; have eV := NV.out
            go_wp2
            go_region
            go_wp2
            go_ret
            obtain ⟨q1, q2, q3⟩ := after_store HK.out HB.out HFR.out (Obj.cells #[.int .i64 1, .int .i64 2, .func (.func 50) #[] #[]] 79) HF2.out 1 (wrap64 ((bal e.f3).o + V)) (nb := { bal e.f3 with o := wrap64 ((bal e.f3).o + V) }) rfl
            refine ⟨f', n', ?_, HN2.out, ?_, q2, q3⟩
            · rw [NV.out, NE.out]; have := NS.out; simp; omega
            · rw [NV.out, NE.out]; exact q1
          · have bs : decide (wrap64 ((bal e.f3).o + V) < 0) = false := decide_eq_false hs
            have NS := Aside0.mk hs; clear hs; have HA : Below wr.heap.size wr (wr.alloc (Obj.cells #[.int .i64 1, .int .i64 2, .func (.func 50) #[] #[]] 79)) := below_alloc (Below.refl wr.heap.size wr) _; have HK5 := Aside0.mk (HK.out.below HA); have BX5 := Aside0.mk (blk_below BX.out HA); have BB := Aside0.mk (HK5.out.some_ e.f3 b HF2.out).2; have x2 : (wr.alloc (Obj.cells #[.int .i64 1, .int .i64 2, .func (.func 50) #[] #[]] 79)).cell? ⟨gb, 2, none⟩ = some (.int .i64 e.f2) := (blk_cell BX5.out 2).trans rfl; have x4 : (wr.alloc (Obj.cells #[.int .i64 1, .int .i64 2, .func (.func 50) #[] #[]] 79)).cell? ⟨gb, 4, none⟩ = some (.int .i64 e.f4) := (blk_cell BX5.out 4).trans rfl; have x5 := blk_frozen BX5.out 2; have x6 := blk_frozen BX5.out 4; have y1 : (wr.alloc (Obj.cells #[.int .i64 1, .int .i64 2, .func (.func 50) #[] #[]] 79)).cell? ⟨b, 1, none⟩ = some (.int .i64 (bal e.f3).o) := (blk_cell BB.out 1).trans rfl; have y2 := blk_frozen BB.out 1; have eV := NV.out
            go_wp2
            go_region
            go_wp2
            go_roundg k1
            case measure => omega
            case rel =>
              obtain ⟨q1, q2, q3⟩ := after_store HK.out HB.out HFR.out (Obj.cells #[.int .i64 1, .int .i64 2, .func (.func 50) #[] #[]] 79) HF2.out 1 (wrap64 ((bal e.f3).o + V)) (nb := { bal e.f3 with o := wrap64 ((bal e.f3).o + V) }) rfl
              refine ⟨1, rfl, by omega, ⟨?_⟩, ⟨?_⟩, ⟨q2⟩, ⟨q3⟩, ⟨fun _ => ?_⟩⟩
              · rw [if_pos (by have := NH.out; omega), NE.out]; exact q1
              · exact frame_store HK5.out HF2.out BX5.out (by decide)
              · rw [NE.out]; have := NS.out; simp; omega
        · by_cases h2 : e.f2 = 2
          · have eB : setBal bal e.f3 (if e.f2 < 2 * ((0 : Nat) : Int) + 1 then (eff e.f2 V (bal e.f3)).1 else bal e.f3) = bal := by rw [if_neg (by omega), setBal_same]
            rw [eB] at HK
            have eE : eff e.f2 V (bal e.f3) = ({ bal e.f3 with o := wrap64 ((bal e.f3).o - V) }, decide (0 ≤ wrap64 ((bal e.f3).o - V))) := by rw [h2]; rfl
            have b0 : (e.f2 == 1) = false := beq_eq_false_iff_ne.mpr h1; have b1 : (e.f2 == 2) = true := beq_iff_eq.mpr h2; have NE := Aside0.mk eE; have NH := Aside0.mk h2; clear eB eE HT h2 h1
            by_cases hs : wrap64 ((bal e.f3).o - V) < 0
            · have bs : decide (wrap64 ((bal e.f3).o - V) < 0) = true := decide_eq_true hs
              have NS := Aside0.mk hs; clear hs; have HA : Below wr.heap.size wr (wr.alloc (Obj.cells #[.int .i64 1, .int .i64 2, .func (.func 50) #[] #[]] 79)) := below_alloc (Below.refl wr.heap.size wr) _; have HK5 := Aside0.mk (HK.out.below HA); have BX5 := Aside0.mk (blk_below BX.out HA); have BB := Aside0.mk (HK5.out.some_ e.f3 b HF2.out).2; have x2 : (wr.alloc (Obj.cells #[.int .i64 1, .int .i64 2, .func (.func 50) #[] #[]] 79)).cell? ⟨gb, 2, none⟩ = some (.int .i64 e.f2) := (blk_cell BX5.out 2).trans rfl; have x4 : (wr.alloc (Obj.cells #[.int .i64 1, .int .i64 2, .func (.func 50) #[] #[]] 79)).cell? ⟨gb, 4, none⟩ = some (.int .i64 e.f4) := (blk_cell BX5.out 4).trans rfl; have x5 := blk_frozen BX5.out 2; have x6 := blk_frozen BX5.out 4; have y1 : (wr.alloc (Obj.cells #[.int .i64 1, .int .i64 2, .func (.func 50) #[] #[]] 79)).cell? ⟨b, 1, none⟩ = some (.int .i64 (bal e.f3).o) := (blk_cell BB.out 1).trans rfl; have y2 := blk_frozen BB.out 1; have eV := NV.out
              go_wp2
              go_region
              go_wp2
              go_ret
              obtain ⟨q1, q2, q3⟩ := after_store HK.out HB.out HFR.out (Obj.cells #[.int .i64 1, .int .i64 2, .func (.func 50) #[] #[]] 79) HF2.out 1 (wrap64 ((bal e.f3).o - V)) (nb := { bal e.f3 with o := wrap64 ((bal e.f3).o - V) }) rfl
              refine ⟨f', n', ?_, HN2.out, ?_, q2, q3⟩
              · rw [NV.out, NE.out]; have := NS.out; simp; omega
              · rw [NV.out, NE.out]; exact q1
            · have bs : decide (wrap64 ((bal e.f3).o - V) < 0) = false := decide_eq_false hs
              have NS := Aside0.mk hs; clear hs; have HA : Below wr.heap.size wr (wr.alloc (Obj.cells #[.int .i64 1, .int .i64 2, .func (.func 50) #[] #[]] 79)) := below_alloc (Below.refl wr.heap.size wr) _; have HK5 := Aside0.mk (HK.out.below HA); have BX5 := Aside0.mk (blk_below BX.out HA); have BB := Aside0.mk (HK5.out.some_ e.f3 b HF2.out).2; have x2 : (wr.alloc (Obj.cells #[.int .i64 1, .int .i64 2, .func (.func 50) #[] #[]] 79)).cell? ⟨gb, 2, none⟩ = some (.int .i64 e.f2) := (blk_cell BX5.out 2).trans rfl; have x4 : (wr.alloc (Obj.cells #[.int .i64 1, .int .i64 2, .func (.func 50) #[] #[]] 79)).cell? ⟨gb, 4, none⟩ = some (.int .i64 e.f4) := (blk_cell BX5.out 4).trans rfl; have x5 := blk_frozen BX5.out 2; have x6 := blk_frozen BX5.out 4; have y1 : (wr.alloc (Obj.cells #[.int .i64 1, .int .i64 2, .func (.func 50) #[] #[]] 79)).cell? ⟨b, 1, none⟩ = some (.int .i64 (bal e.f3).o) := (blk_cell BB.out 1).trans rfl; have y2 := blk_frozen BB.out 1; have eV := NV.out
              go_wp2
              go_region
              go_wp2
              go_roundg k1
              case measure => omega
              case rel =>
                obtain ⟨q1, q2, q3⟩ := after_store HK.out HB.out HFR.out (Obj.cells #[.int .i64 1, .int .i64 2, .func (.func 50) #[] #[]] 79) HF2.out 1 (wrap64 ((bal e.f3).o - V)) (nb := { bal e.f3 with o := wrap64 ((bal e.f3).o - V) }) rfl
                refine ⟨1, rfl, by omega, ⟨?_⟩, ⟨?_⟩, ⟨q2⟩, ⟨q3⟩, ⟨fun _ => ?_⟩⟩
                · rw [if_pos (by have := NH.out; omega), NE.out]; exact q1
                · exact frame_store HK5.out HF2.out BX5.out (by decide)
                · rw [NE.out]; have := NS.out; simp; omega
          · have NH := Aside0.mk (show e.f2 ≠ 1 ∧ e.f2 ≠ 2 from ⟨h1, h2⟩)
            have b0 : (e.f2 == 1) = false := beq_eq_false_iff_ne.mpr h1; have b1 : (e.f2 == 2) = false := beq_eq_false_iff_ne.mpr h2; clear h1 h2; have HA : Below wr.heap.size wr (wr.alloc (Obj.cells #[.int .i64 1, .int .i64 2, .func (.func 50) #[] #[]] 79)) := below_alloc (Below.refl wr.heap.size wr) _; have HK5 := Aside0.mk (HK.out.below HA); have BX5 := Aside0.mk (blk_below BX.out HA); have BB := Aside0.mk (HK5.out.some_ e.f3 b HF2.out).2; have x2 : (wr.alloc (Obj.cells #[.int .i64 1, .int .i64 2, .func (.func 50) #[] #[]] 79)).cell? ⟨gb, 2, none⟩ = some (.int .i64 e.f2) := (blk_cell BX5.out 2).trans rfl; have x4 : (wr.alloc (Obj.cells #[.int .i64 1, .int .i64 2, .func (.func 50) #[] #[]] 79)).cell? ⟨gb, 4, none⟩ = some (.int .i64 e.f4) := (blk_cell BX5.out 4).trans rfl; have x5 := blk_frozen BX5.out 2; have x6 := blk_frozen BX5.out 4; clear x4 x6
            go_wp2
            go_roundg k1
            case measure => omega
            case rel =>
              obtain ⟨q1, q2, q3⟩ := after_skip HK.out HB.out HFR.out (Obj.cells #[.int .i64 1, .int .i64 2, .func (.func 50) #[] #[]] 79); have hh := NH.out
              have e5 : (if e.f2 < 2 * ((0 : Nat) : Int) + 1 then (eff e.f2 V (bal e.f3)).1 else bal e.f3) = (if e.f2 < 2 * ((1 : Nat) : Int) + 1 then (eff e.f2 V (bal e.f3)).1 else bal e.f3) := by
                by_cases hl : e.f2 < 2 * ((0 : Nat) : Int) + 1
                · rw [if_pos hl, if_pos (by omega)]
                · rw [if_neg hl, if_neg (by omega)]
              rw [e5] at q1
              exact ⟨1, rfl, by omega, ⟨q1⟩, BX5, ⟨q2⟩, ⟨q3⟩, ⟨fun hl => HT.out (by omega)⟩⟩
      · by_cases h3 : e.f2 = 3
        · have eB : setBal bal e.f3 (if e.f2 < 2 * ((1 : Nat) : Int) + 1 then (eff e.f2 V (bal e.f3)).1 else bal e.f3) = bal := by rw [if_neg (by omega), setBal_same]
          rw [eB] at HK
          have eE : eff e.f2 V (bal e.f3) = ({ bal e.f3 with s := wrap64 ((bal e.f3).s + V) }, decide (0 ≤ wrap64 ((bal e.f3).s + V))) := by rw [h3]; rfl
          have b1 : (e.f2 == 3) = true := beq_iff_eq.mpr h3; have NE := Aside0.mk eE; have NH := Aside0.mk h3; clear eB eE HT h3
          by_cases hs : wrap64 ((bal e.f3).s + V) < 0
          · have bs : decide (wrap64 ((bal e.f3).s + V) < 0) = true := decide_eq_true hs
            have NS := Aside0.mk hs; clear hs; have HA : Below wr.heap.size wr (wr.alloc (Obj.cells #[.int .i64 3, .int .i64 4, .func (.func 51) #[] #[]] 79)) := below_alloc (Below.refl wr.heap.size wr) _; have HK5 := Aside0.mk (HK.out.below HA); have BX5 := Aside0.mk (blk_below BX.out HA); have BB := Aside0.mk (HK5.out.some_ e.f3 b HF2.out).2; have x2 : (wr.alloc (Obj.cells #[.int .i64 3, .int .i64 4, .func (.func 51) #[] #[]] 79)).cell? ⟨gb, 2, none⟩ = some (.int .i64 e.f2) := (blk_cell BX5.out 2).trans rfl; have x4 : (wr.alloc (Obj.cells #[.int .i64 3, .int .i64 4, .func (.func 51) #[] #[]] 79)).cell? ⟨gb, 4, none⟩ = some (.int .i64 e.f4) := (blk_cell BX5.out 4).trans rfl; have x5 := blk_frozen BX5.out 2; have x6 := blk_frozen BX5.out 4; have y1 : (wr.alloc (Obj.cells #[.int .i64 3, .int .i64 4, .func (.func 51) #[] #[]] 79)).cell? ⟨b, 2, none⟩ = some (.int .i64 (bal e.f3).s) := (blk_cell BB.out 2).trans rfl; have y2 := blk_frozen BB.out 2; have eV := NV.out
            go_wp2
            go_region
            go_wp2
            go_ret
            obtain ⟨q1, q2, q3⟩ := after_store HK.out HB.out HFR.out (Obj.cells #[.int .i64 3, .int .i64 4, .func (.func 51) #[] #[]] 79) HF2.out 2 (wrap64 ((bal e.f3).s + V)) (nb := { bal e.f3 with s := wrap64 ((bal e.f3).s + V) }) rfl
            refine ⟨f', n', ?_, HN2.out, ?_, q2, q3⟩
            · rw [NV.out, NE.out]; have := NS.out; simp; omega
            · rw [NV.out, NE.out]; exact q1
          · have bs : decide (wrap64 ((bal e.f3).s + V) < 0) = false := decide_eq_false hs
            have NS := Aside0.mk hs; clear hs; have HA : Below wr.heap.size wr (wr.alloc (Obj.cells #[.int .i64 3, .int .i64 4, .func (.func 51) #[] #[]] 79)) := below_alloc (Below.refl wr.heap.size wr) _; have HK5 := Aside0.mk (HK.out.below HA); have BX5 := Aside0.mk (blk_below BX.out HA); have BB := Aside0.mk (HK5.out.some_ e.f3 b HF2.out).2; have x2 : (wr.alloc (Obj.cells #[.int .i64 3, .int .i64 4, .func (.func 51) #[] #[]] 79)).cell? ⟨gb, 2, none⟩ = some (.int .i64 e.f2) := (blk_cell BX5.out 2).trans rfl; have x4 : (wr.alloc (Obj.cells #[.int .i64 3, .int .i64 4, .func (.func 51) #[] #[]] 79)).cell? ⟨gb, 4, none⟩ = some (.int .i64 e.f4) := (blk_cell BX5.out 4).trans rfl; have x5 := blk_frozen BX5.out 2; have x6 := blk_frozen BX5.out 4; have y1 : (wr.alloc (Obj.cells #[.int .i64 3, .int .i64 4, .func (.func 51) #[] #[]] 79)).cell? ⟨b, 2, none⟩ = some (.int .i64 (bal e.f3).s) := (blk_cell BB.out 2).trans rfl; have y2 := blk_frozen BB.out 2; have eV := NV.out
            go_wp2
            go_region
            go_wp2
            go_roundg k1
            case measure => omega
            case rel =>
              obtain ⟨q1, q2, q3⟩ := after_store HK.out HB.out HFR.out (Obj.cells #[.int .i64 3, .int .i64 4, .func (.func 51) #[] #[]] 79) HF2.out 2 (wrap64 ((bal e.f3).s + V)) (nb := { bal e.f3 with s := wrap64 ((bal e.f3).s + V) }) rfl
              refine ⟨2, rfl, by omega, ⟨?_⟩, ⟨?_⟩, ⟨q2⟩, ⟨q3⟩, ⟨fun _ => ?_⟩⟩
              · rw [if_pos (by have := NH.out; omega), NE.out]; exact q1
              · exact frame_store HK5.out HF2.out BX5.out (by decide)
              · rw [NE.out]; have := NS.out; simp; omega
        · by_cases h4 : e.f2 = 4
          · have eB : setBal bal e.f3 (if e.f2 < 2 * ((1 : Nat) : Int) + 1 then (eff e.f2 V (bal e.f3)).1 else bal e.f3) = bal := by rw [if_neg (by omega), setBal_same]
            rw [eB] at HK
            have eE : eff e.f2 V (bal e.f3) = ({ bal e.f3 with s := wrap64 ((bal e.f3).s - V) }, decide (0 ≤ wrap64 ((bal e.f3).s - V))) := by rw [h4]; rfl
            have b0 : (e.f2 == 3) = false := beq_eq_false_iff_ne.mpr h3; have b1 : (e.f2 == 4) = true := beq_iff_eq.mpr h4; have NE := Aside0.mk eE; have NH := Aside0.mk h4; clear eB eE HT h4 h3
            by_cases hs : wrap64 ((bal e.f3).s - V) < 0
            · have bs : decide (wrap64 ((bal e.f3).s - V) < 0) = true := decide_eq_true hs
              have NS := Aside0.mk hs; clear hs; have HA : Below wr.heap.size wr (wr.alloc (Obj.cells #[.int .i64 3, .int .i64 4, .func (.func 51) #[] #[]] 79)) := below_alloc (Below.refl wr.heap.size wr) _; have HK5 := Aside0.mk (HK.out.below HA); have BX5 := Aside0.mk (blk_below BX.out HA); have BB := Aside0.mk (HK5.out.some_ e.f3 b HF2.out).2; have x2 : (wr.alloc (Obj.cells #[.int .i64 3, .int .i64 4, .func (.func 51) #[] #[]] 79)).cell? ⟨gb, 2, none⟩ = some (.int .i64 e.f2) := (blk_cell BX5.out 2).trans rfl; have x4 : (wr.alloc (Obj.cells #[.int .i64 3, .int .i64 4, .func (.func 51) #[] #[]] 79)).cell? ⟨gb, 4, none⟩ = some (.int .i64 e.f4) := (blk_cell BX5.out 4).trans rfl; have x5 := blk_frozen BX5.out 2; have x6 := blk_frozen BX5.out 4; have y1 : (wr.alloc (Obj.cells #[.int .i64 3, .int .i64 4, .func (.func 51) #[] #[]] 79)).cell? ⟨b, 2, none⟩ = some (.int .i64 (bal e.f3).s) := (blk_cell BB.out 2).trans rfl; have y2 := blk_frozen BB.out 2; have eV := NV.out
              go_wp2
              go_region
              go_wp2
              go_ret
              obtain ⟨q1, q2, q3⟩ := after_store HK.out HB.out HFR.out (Obj.cells #[.int .i64 3, .int .i64 4, .func (.func 51) #[] #[]] 79) HF2.out 2 (wrap64 ((bal e.f3).s - V)) (nb := { bal e.f3 with s := wrap64 ((bal e.f3).s - V) }) rfl
              refine ⟨f', n', ?_, HN2.out, ?_, q2, q3⟩
              · rw [NV.out, NE.out]; have := NS.out; simp; omega
              · rw [NV.out, NE.out]; exact q1
            · have bs : decide (wrap64 ((bal e.f3).s - V) < 0) = false := decide_eq_false hs
              have NS := Aside0.mk hs; clear hs; have HA : Below wr.heap.size wr (wr.alloc (Obj.cells #[.int .i64 3, .int .i64 4, .func (.func 51) #[] #[]] 79)) := below_alloc (Below.refl wr.heap.size wr) _; have HK5 := Aside0.mk (HK.out.below HA); have BX5 := Aside0.mk (blk_below BX.out HA); have BB := Aside0.mk (HK5.out.some_ e.f3 b HF2.out).2; have x2 : (wr.alloc (Obj.cells #[.int .i64 3, .int .i64 4, .func (.func 51) #[] #[]] 79)).cell? ⟨gb, 2, none⟩ = some (.int .i64 e.f2) := (blk_cell BX5.out 2).trans rfl; have x4 : (wr.alloc (Obj.cells #[.int .i64 3, .int .i64 4, .func (.func 51) #[] #[]] 79)).cell? ⟨gb, 4, none⟩ = some (.int .i64 e.f4) := (blk_cell BX5.out 4).trans rfl; have x5 := blk_frozen BX5.out 2; have x6 := blk_frozen BX5.out 4; have y1 : (wr.alloc (Obj.cells #[.int .i64 3, .int .i64 4, .func (.func 51) #[] #[]] 79)).cell? ⟨b, 2, none⟩ = some (.int .i64 (bal e.f3).s) := (blk_cell BB.out 2).trans rfl; have y2 := blk_frozen BB.out 2; have eV := NV.out
              go_wp2
              go_region
              go_wp2
              go_roundg k1
              case measure => omega
              case rel =>
                obtain ⟨q1, q2, q3⟩ := after_store HK.out HB.out HFR.out (Obj.cells #[.int .i64 3, .int .i64 4, .func (.func 51) #[] #[]] 79) HF2.out 2 (wrap64 ((bal e.f3).s - V)) (nb := { bal e.f3 with s := wrap64 ((bal e.f3).s - V) }) rfl
                refine ⟨2, rfl, by omega, ⟨?_⟩, ⟨?_⟩, ⟨q2⟩, ⟨q3⟩, ⟨fun _ => ?_⟩⟩
                · rw [if_pos (by have := NH.out; omega), NE.out]; exact q1
                · exact frame_store HK5.out HF2.out BX5.out (by decide)
                · rw [NE.out]; have := NS.out; simp; omega
          · have NH := Aside0.mk (show e.f2 ≠ 3 ∧ e.f2 ≠ 4 from ⟨h3, h4⟩)
            have b0 : (e.f2 == 3) = false := beq_eq_false_iff_ne.mpr h3; have b1 : (e.f2 == 4) = false := beq_eq_false_iff_ne.mpr h4; clear h3 h4; have HA : Below wr.heap.size wr (wr.alloc (Obj.cells #[.int .i64 3, .int .i64 4, .func (.func 51) #[] #[]] 79)) := below_alloc (Below.refl wr.heap.size wr) _; have HK5 := Aside0.mk (HK.out.below HA); have BX5 := Aside0.mk (blk_below BX.out HA); have BB := Aside0.mk (HK5.out.some_ e.f3 b HF2.out).2; have x2 : (wr.alloc (Obj.cells #[.int .i64 3, .int .i64 4, .func (.func 51) #[] #[]] 79)).cell? ⟨gb, 2, none⟩ = some (.int .i64 e.f2) := (blk_cell BX5.out 2).trans rfl; have x4 : (wr.alloc (Obj.cells #[.int .i64 3, .int .i64 4, .func (.func 51) #[] #[]] 79)).cell? ⟨gb, 4, none⟩ = some (.int .i64 e.f4) := (blk_cell BX5.out 4).trans rfl; have x5 := blk_frozen BX5.out 2; have x6 := blk_frozen BX5.out 4; clear x4 x6
            go_wp2
            go_roundg k1
            case measure => omega
            case rel =>
              obtain ⟨q1, q2, q3⟩ := after_skip HK.out HB.out HFR.out (Obj.cells #[.int .i64 3, .int .i64 4, .func (.func 51) #[] #[]] 79); have hh := NH.out
              have e5 : (if e.f2 < 2 * ((1 : Nat) : Int) + 1 then (eff e.f2 V (bal e.f3)).1 else bal e.f3) = (if e.f2 < 2 * ((2 : Nat) : Int) + 1 then (eff e.f2 V (bal e.f3)).1 else bal e.f3) := by
                by_cases hl : e.f2 < 2 * ((1 : Nat) : Int) + 1
                · rw [if_pos hl, if_pos (by omega)]
                · rw [if_neg hl, if_neg (by omega)]
              rw [e5] at q1
              exact ⟨2, rfl, by omega, ⟨q1⟩, BX5, ⟨q2⟩, ⟨q3⟩, ⟨fun hl => HT.out (by omega)⟩⟩
      · by_cases h5 : e.f2 = 5
        · have eB : setBal bal e.f3 (if e.f2 < 2 * ((2 : Nat) : Int) + 1 then (eff e.f2 V (bal e.f3)).1 else bal e.f3) = bal := by rw [if_neg (by omega), setBal_same]
          rw [eB] at HK
          have eE : eff e.f2 V (bal e.f3) = ({ bal e.f3 with p := wrap64 ((bal e.f3).p + V) }, decide (0 ≤ wrap64 ((bal e.f3).p + V))) := by rw [h5]; rfl
          have b1 : (e.f2 == 5) = true := beq_iff_eq.mpr h5; have NE := Aside0.mk eE; have NH := Aside0.mk h5; clear eB eE HT h5
          by_cases hs : wrap64 ((bal e.f3).p + V) < 0
          · have bs : decide (wrap64 ((bal e.f3).p + V) < 0) = true := decide_eq_true hs
            have NS := Aside0.mk hs; clear hs; have HA : Below wr.heap.size wr (wr.alloc (Obj.cells #[.int .i64 5, .int .i64 6, .func (.func 52) #[] #[]] 79)) := below_alloc (Below.refl wr.heap.size wr) _; have HK5 := Aside0.mk (HK.out.below HA); have BX5 := Aside0.mk (blk_below BX.out HA); have BB := Aside0.mk (HK5.out.some_ e.f3 b HF2.out).2; have x2 : (wr.alloc (Obj.cells #[.int .i64 5, .int .i64 6, .func (.func 52) #[] #[]] 79)).cell? ⟨gb, 2, none⟩ = some (.int .i64 e.f2) := (blk_cell BX5.out 2).trans rfl; have x4 : (wr.alloc (Obj.cells #[.int .i64 5, .int .i64 6, .func (.func 52) #[] #[]] 79)).cell? ⟨gb, 4, none⟩ = some (.int .i64 e.f4) := (blk_cell BX5.out 4).trans rfl; have x5 := blk_frozen BX5.out 2; have x6 := blk_frozen BX5.out 4; have y1 : (wr.alloc (Obj.cells #[.int .i64 5, .int .i64 6, .func (.func 52) #[] #[]] 79)).cell? ⟨b, 3, none⟩ = some (.int .i64 (bal e.f3).p) := (blk_cell BB.out 3).trans rfl; have y2 := blk_frozen BB.out 3; have eV := NV.out
            go_wp2
            go_region
            go_wp2
            go_ret
            obtain ⟨q1, q2, q3⟩ := after_store HK.out HB.out HFR.out (Obj.cells #[.int .i64 5, .int .i64 6, .func (.func 52) #[] #[]] 79) HF2.out 3 (wrap64 ((bal e.f3).p + V)) (nb := { bal e.f3 with p := wrap64 ((bal e.f3).p + V) }) rfl
            refine ⟨f', n', ?_, HN2.out, ?_, q2, q3⟩
            · rw [NV.out, NE.out]; have := NS.out; simp; omega
            · rw [NV.out, NE.out]; exact q1
          · have bs : decide (wrap64 ((bal e.f3).p + V) < 0) = false := decide_eq_false hs
            have NS := Aside0.mk hs; clear hs; have HA : Below wr.heap.size wr (wr.alloc (Obj.cells #[.int .i64 5, .int .i64 6, .func (.func 52) #[] #[]] 79)) := below_alloc (Below.refl wr.heap.size wr) _; have HK5 := Aside0.mk (HK.out.below HA); have BX5 := Aside0.mk (blk_below BX.out HA); have BB := Aside0.mk (HK5.out.some_ e.f3 b HF2.out).2; have x2 : (wr.alloc (Obj.cells #[.int .i64 5, .int .i64 6, .func (.func 52) #[] #[]] 79)).cell? ⟨gb, 2, none⟩ = some (.int .i64 e.f2) := (blk_cell BX5.out 2).trans rfl; have x4 : (wr.alloc (Obj.cells #[.int .i64 5, .int .i64 6, .func (.func 52) #[] #[]] 79)).cell? ⟨gb, 4, none⟩ = some (.int .i64 e.f4) := (blk_cell BX5.out 4).trans rfl; have x5 := blk_frozen BX5.out 2; have x6 := blk_frozen BX5.out 4; have y1 : (wr.alloc (Obj.cells #[.int .i64 5, .int .i64 6, .func (.func 52) #[] #[]] 79)).cell? ⟨b, 3, none⟩ = some (.int .i64 (bal e.f3).p) := (blk_cell BB.out 3).trans rfl; have y2 := blk_frozen BB.out 3; have eV := NV.out
            go_wp2
            go_region
            go_wp2
            go_roundg k1
            case measure => omega
            case rel =>
              obtain ⟨q1, q2, q3⟩ := after_store HK.out HB.out HFR.out (Obj.cells #[.int .i64 5, .int .i64 6, .func (.func 52) #[] #[]] 79) HF2.out 3 (wrap64 ((bal e.f3).p + V)) (nb := { bal e.f3 with p := wrap64 ((bal e.f3).p + V) }) rfl
              refine ⟨3, rfl, by omega, ⟨?_⟩, ⟨?_⟩, ⟨q2⟩, ⟨q3⟩, ⟨fun _ => ?_⟩⟩
              · rw [if_pos (by have := NH.out; omega), NE.out]; exact q1
              · exact frame_store HK5.out HF2.out BX5.out (by decide)
              · rw [NE.out]; have := NS.out; simp; omega
        · by_cases h6 : e.f2 = 6
          · have eB : setBal bal e.f3 (if e.f2 < 2 * ((2 : Nat) : Int) + 1 then (eff e.f2 V (bal e.f3)).1 else bal e.f3) = bal := by rw [if_neg (by omega), setBal_same]
            rw [eB] at HK
            have eE : eff e.f2 V (bal e.f3) = ({ bal e.f3 with p := wrap64 ((bal e.f3).p - V) }, decide (0 ≤ wrap64 ((bal e.f3).p - V))) := by rw [h6]; rfl
            have b0 : (e.f2 == 5) = false := beq_eq_false_iff_ne.mpr h5; have b1 : (e.f2 == 6) = true := beq_iff_eq.mpr h6; have NE := Aside0.mk eE; have NH := Aside0.mk h6; clear eB eE HT h6 h5
            by_cases hs : wrap64 ((bal e.f3).p - V) < 0
            · have bs : decide (wrap64 ((bal e.f3).p - V) < 0) = true := decide_eq_true hs
              have NS := Aside0.mk hs; clear hs; have HA : Below wr.heap.size wr (wr.alloc (Obj.cells #[.int .i64 5, .int .i64 6, .func (.func 52) #[] #[]] 79)) := below_alloc (Below.refl wr.heap.size wr) _; have HK5 := Aside0.mk (HK.out.below HA); have BX5 := Aside0.mk (blk_below BX.out HA); have BB := Aside0.mk (HK5.out.some_ e.f3 b HF2.out).2; have x2 : (wr.alloc (Obj.cells #[.int .i64 5, .int .i64 6, .func (.func 52) #[] #[]] 79)).cell? ⟨gb, 2, none⟩ = some (.int .i64 e.f2) := (blk_cell BX5.out 2).trans rfl; have x4 : (wr.alloc (Obj.cells #[.int .i64 5, .int .i64 6, .func (.func 52) #[] #[]] 79)).cell? ⟨gb, 4, none⟩ = some (.int .i64 e.f4) := (blk_cell BX5.out 4).trans rfl; have x5 := blk_frozen BX5.out 2; have x6 := blk_frozen BX5.out 4; have y1 : (wr.alloc (Obj.cells #[.int .i64 5, .int .i64 6, .func (.func 52) #[] #[]] 79)).cell? ⟨b, 3, none⟩ = some (.int .i64 (bal e.f3).p) := (blk_cell BB.out 3).trans rfl; have y2 := blk_frozen BB.out 3; have eV := NV.out
              go_wp2
              go_region
              go_wp2
              go_ret
              obtain ⟨q1, q2, q3⟩ := after_store HK.out HB.out HFR.out (Obj.cells #[.int .i64 5, .int .i64 6, .func (.func 52) #[] #[]] 79) HF2.out 3 (wrap64 ((bal e.f3).p - V)) (nb := { bal e.f3 with p := wrap64 ((bal e.f3).p - V) }) rfl
              refine ⟨f', n', ?_, HN2.out, ?_, q2, q3⟩
              · rw [NV.out, NE.out]; have := NS.out; simp; omega
              · rw [NV.out, NE.out]; exact q1
            · have bs : decide (wrap64 ((bal e.f3).p - V) < 0) = false := decide_eq_false hs
              have NS := Aside0.mk hs; clear hs; have HA : Below wr.heap.size wr (wr.alloc (Obj.cells #[.int .i64 5, .int .i64 6, .func (.func 52) #[] #[]] 79)) := below_alloc (Below.refl wr.heap.size wr) _; have HK5 := Aside0.mk (HK.out.below HA); have BX5 := Aside0.mk (blk_below BX.out HA); have BB := Aside0.mk (HK5.out.some_ e.f3 b HF2.out).2; have x2 : (wr.alloc (Obj.cells #[.int .i64 5, .int .i64 6, .func (.func 52) #[] #[]] 79)).cell? ⟨gb, 2, none⟩ = some (.int .i64 e.f2) := (blk_cell BX5.out 2).trans rfl; have x4 : (wr.alloc (Obj.cells #[.int .i64 5, .int .i64 6, .func (.func 52) #[] #[]] 79)).cell? ⟨gb, 4, none⟩ = some (.int .i64 e.f4) := (blk_cell BX5.out 4).trans rfl; have x5 := blk_frozen BX5.out 2; have x6 := blk_frozen BX5.out 4; have y1 : (wr.alloc (Obj.cells #[.int .i64 5, .int .i64 6, .func (.func 52) #[] #[]] 79)).cell? ⟨b, 3, none⟩ = some (.int .i64 (bal e.f3).p) := (blk_cell BB.out 3).trans rfl; have y2 := blk_frozen BB.out 3; have eV := NV.out
              go_wp2
              go_region
              go_wp2
              go_roundg k1
              case measure => omega
              case rel =>
                obtain ⟨q1, q2, q3⟩ := after_store HK.out HB.out HFR.out (Obj.cells #[.int .i64 5, .int .i64 6, .func (.func 52) #[] #[]] 79) HF2.out 3 (wrap64 ((bal e.f3).p - V)) (nb := { bal e.f3 with p := wrap64 ((bal e.f3).p - V) }) rfl
                refine ⟨3, rfl, by omega, ⟨?_⟩, ⟨?_⟩, ⟨q2⟩, ⟨q3⟩, ⟨fun _ => ?_⟩⟩
                · rw [if_pos (by have := NH.out; omega), NE.out]; exact q1
                · exact frame_store HK5.out HF2.out BX5.out (by decide)
                · rw [NE.out]; have := NS.out; simp; omega
          · have NH := Aside0.mk (show e.f2 ≠ 5 ∧ e.f2 ≠ 6 from ⟨h5, h6⟩)
            have b0 : (e.f2 == 5) = false := beq_eq_false_iff_ne.mpr h5; have b1 : (e.f2 == 6) = false := beq_eq_false_iff_ne.mpr h6; clear h5 h6; have HA : Below wr.heap.size wr (wr.alloc (Obj.cells #[.int .i64 5, .int .i64 6, .func (.func 52) #[] #[]] 79)) := below_alloc (Below.refl wr.heap.size wr) _; have HK5 := Aside0.mk (HK.out.below HA); have BX5 := Aside0.mk (blk_below BX.out HA); have BB := Aside0.mk (HK5.out.some_ e.f3 b HF2.out).2; have x2 : (wr.alloc (Obj.cells #[.int .i64 5, .int .i64 6, .func (.func 52) #[] #[]] 79)).cell? ⟨gb, 2, none⟩ = some (.int .i64 e.f2) := (blk_cell BX5.out 2).trans rfl; have x4 : (wr.alloc (Obj.cells #[.int .i64 5, .int .i64 6, .func (.func 52) #[] #[]] 79)).cell? ⟨gb, 4, none⟩ = some (.int .i64 e.f4) := (blk_cell BX5.out 4).trans rfl; have x5 := blk_frozen BX5.out 2; have x6 := blk_frozen BX5.out 4; clear x4 x6
            go_wp2
            go_roundg k1
            case measure => omega
            case rel =>
              obtain ⟨q1, q2, q3⟩ := after_skip HK.out HB.out HFR.out (Obj.cells #[.int .i64 5, .int .i64 6, .func (.func 52) #[] #[]] 79); have hh := NH.out
              have e5 : (if e.f2 < 2 * ((2 : Nat) : Int) + 1 then (eff e.f2 V (bal e.f3)).1 else bal e.f3) = (if e.f2 < 2 * ((3 : Nat) : Int) + 1 then (eff e.f2 V (bal e.f3)).1 else bal e.f3) := by
                by_cases hl : e.f2 < 2 * ((2 : Nat) : Int) + 1
                · rw [if_pos hl, if_pos (by omega)]
                · rw [if_neg hl, if_neg (by omega)]
              rw [e5] at q1
              exact ⟨3, rfl, by omega, ⟨q1⟩, BX5, ⟨q2⟩, ⟨q3⟩, ⟨fun hl => HT.out (by omega)⟩⟩
      · by_cases h7 : e.f2 = 7
        · have eB : setBal bal e.f3 (if e.f2 < 2 * ((3 : Nat) : Int) + 1 then (eff e.f2 V (bal e.f3)).1 else bal e.f3) = bal := by rw [if_neg (by omega), setBal_same]
          rw [eB] at HK
          have eE : eff e.f2 V (bal e.f3) = ({ bal e.f3 with r := wrap64 ((bal e.f3).r + V) }, decide (0 ≤ wrap64 ((bal e.f3).r + V))) := by rw [h7]; rfl
          have b1 : (e.f2 == 7) = true := beq_iff_eq.mpr h7; have NE := Aside0.mk eE; have NH := Aside0.mk h7; clear eB eE HT h7
          by_cases hs : wrap64 ((bal e.f3).r + V) < 0
          · have bs : decide (wrap64 ((bal e.f3).r + V) < 0) = true := decide_eq_true hs
            have NS := Aside0.mk hs; clear hs; have HA : Below wr.heap.size wr (wr.alloc (Obj.cells #[.int .i64 7, .int .i64 8, .func (.func 53) #[] #[]] 79)) := below_alloc (Below.refl wr.heap.size wr) _; have HK5 := Aside0.mk (HK.out.below HA); have BX5 := Aside0.mk (blk_below BX.out HA); have BB := Aside0.mk (HK5.out.some_ e.f3 b HF2.out).2; have x2 : (wr.alloc (Obj.cells #[.int .i64 7, .int .i64 8, .func (.func 53) #[] #[]] 79)).cell? ⟨gb, 2, none⟩ = some (.int .i64 e.f2) := (blk_cell BX5.out 2).trans rfl; have x4 : (wr.alloc (Obj.cells #[.int .i64 7, .int .i64 8, .func (.func 53) #[] #[]] 79)).cell? ⟨gb, 4, none⟩ = some (.int .i64 e.f4) := (blk_cell BX5.out 4).trans rfl; have x5 := blk_frozen BX5.out 2; have x6 := blk_frozen BX5.out 4; have y1 : (wr.alloc (Obj.cells #[.int .i64 7, .int .i64 8, .func (.func 53) #[] #[]] 79)).cell? ⟨b, 4, none⟩ = some (.int .i64 (bal e.f3).r) := (blk_cell BB.out 4).trans rfl; have y2 := blk_frozen BB.out 4; have eV := NV.out
            go_wp2
            go_region
            go_wp2
            go_ret
            obtain ⟨q1, q2, q3⟩ := after_store HK.out HB.out HFR.out (Obj.cells #[.int .i64 7, .int .i64 8, .func (.func 53) #[] #[]] 79) HF2.out 4 (wrap64 ((bal e.f3).r + V)) (nb := { bal e.f3 with r := wrap64 ((bal e.f3).r + V) }) rfl
            refine ⟨f', n', ?_, HN2.out, ?_, q2, q3⟩
            · rw [NV.out, NE.out]; have := NS.out; simp; omega
            · rw [NV.out, NE.out]; exact q1
          · have bs : decide (wrap64 ((bal e.f3).r + V) < 0) = false := decide_eq_false hs
            have NS := Aside0.mk hs; clear hs; have HA : Below wr.heap.size wr (wr.alloc (Obj.cells #[.int .i64 7, .int .i64 8, .func (.func 53) #[] #[]] 79)) := below_alloc (Below.refl wr.heap.size wr) _; have HK5 := Aside0.mk (HK.out.below HA); have BX5 := Aside0.mk (blk_below BX.out HA); have BB := Aside0.mk (HK5.out.some_ e.f3 b HF2.out).2; have x2 : (wr.alloc (Obj.cells #[.int .i64 7, .int .i64 8, .func (.func 53) #[] #[]] 79)).cell? ⟨gb, 2, none⟩ = some (.int .i64 e.f2) := (blk_cell BX5.out 2).trans rfl; have x4 : (wr.alloc (Obj.cells #[.int .i64 7, .int .i64 8, .func (.func 53) #[] #[]] 79)).cell? ⟨gb, 4, none⟩ = some (.int .i64 e.f4) := (blk_cell BX5.out 4).trans rfl; have x5 := blk_frozen BX5.out 2; have x6 := blk_frozen BX5.out 4; have y1 : (wr.alloc (Obj.cells #[.int .i64 7, .int .i64 8, .func (.func 53) #[] #[]] 79)).cell? ⟨b, 4, none⟩ = some (.int .i64 (bal e.f3).r) := (blk_cell BB.out 4).trans rfl; have y2 := blk_frozen BB.out 4; have eV := NV.out
            go_wp2
            go_region
            go_wp2
            go_roundg k1
            case measure => omega
            case rel =>
              obtain ⟨q1, q2, q3⟩ := after_store HK.out HB.out HFR.out (Obj.cells #[.int .i64 7, .int .i64 8, .func (.func 53) #[] #[]] 79) HF2.out 4 (wrap64 ((bal e.f3).r + V)) (nb := { bal e.f3 with r := wrap64 ((bal e.f3).r + V) }) rfl
              refine ⟨4, rfl, by omega, ⟨?_⟩, ⟨?_⟩, ⟨q2⟩, ⟨q3⟩, ⟨fun _ => ?_⟩⟩
              · rw [if_pos (by have := NH.out; omega), NE.out]; exact q1
              · exact frame_store HK5.out HF2.out BX5.out (by decide)
              · rw [NE.out]; have := NS.out; simp; omega
        · by_cases h8 : e.f2 = 8
          · have eB : setBal bal e.f3 (if e.f2 < 2 * ((3 : Nat) : Int) + 1 then (eff e.f2 V (bal e.f3)).1 else bal e.f3) = bal := by rw [if_neg (by omega), setBal_same]
            rw [eB] at HK
            have eE : eff e.f2 V (bal e.f3) = ({ bal e.f3 with r := wrap64 ((bal e.f3).r - V) }, decide (0 ≤ wrap64 ((bal e.f3).r - V))) := by rw [h8]; rfl
            have b0 : (e.f2 == 7) = false := beq_eq_false_iff_ne.mpr h7; have b1 : (e.f2 == 8) = true := beq_iff_eq.mpr h8; have NE := Aside0.mk eE; have NH := Aside0.mk h8; clear eB eE HT h8 h7
            by_cases hs : wrap64 ((bal e.f3).r - V) < 0
            · have bs : decide (wrap64 ((bal e.f3).r - V) < 0) = true := decide_eq_true hs
              have NS := Aside0.mk hs; clear hs; have HA : Below wr.heap.size wr (wr.alloc (Obj.cells #[.int .i64 7, .int .i64 8, .func (.func 53) #[] #[]] 79)) := below_alloc (Below.refl wr.heap.size wr) _; have HK5 := Aside0.mk (HK.out.below HA); have BX5 := Aside0.mk (blk_below BX.out HA); have BB := Aside0.mk (HK5.out.some_ e.f3 b HF2.out).2; have x2 : (wr.alloc (Obj.cells #[.int .i64 7, .int .i64 8, .func (.func 53) #[] #[]] 79)).cell? ⟨gb, 2, none⟩ = some (.int .i64 e.f2) := (blk_cell BX5.out 2).trans rfl; have x4 : (wr.alloc (Obj.cells #[.int .i64 7, .int .i64 8, .func (.func 53) #[] #[]] 79)).cell? ⟨gb, 4, none⟩ = some (.int .i64 e.f4) := (blk_cell BX5.out 4).trans rfl; have x5 := blk_frozen BX5.out 2; have x6 := blk_frozen BX5.out 4; have y1 : (wr.alloc (Obj.cells #[.int .i64 7, .int .i64 8, .func (.func 53) #[] #[]] 79)).cell? ⟨b, 4, none⟩ = some (.int .i64 (bal e.f3).r) := (blk_cell BB.out 4).trans rfl; have y2 := blk_frozen BB.out 4; have eV := NV.out
              go_wp2
              go_region
              go_wp2
              go_ret
              obtain ⟨q1, q2, q3⟩ := after_store HK.out HB.out HFR.out (Obj.cells #[.int .i64 7, .int .i64 8, .func (.func 53) #[] #[]] 79) HF2.out 4 (wrap64 ((bal e.f3).r - V)) (nb := { bal e.f3 with r := wrap64 ((bal e.f3).r - V) }) rfl
              refine ⟨f', n', ?_, HN2.out, ?_, q2, q3⟩
              · rw [NV.out, NE.out]; have := NS.out; simp; omega
              · rw [NV.out, NE.out]; exact q1
            · have bs : decide (wrap64 ((bal e.f3).r - V) < 0) = false := decide_eq_false hs
              have NS := Aside0.mk hs; clear hs; have HA : Below wr.heap.size wr (wr.alloc (Obj.cells #[.int .i64 7, .int .i64 8, .func (.func 53) #[] #[]] 79)) := below_alloc (Below.refl wr.heap.size wr) _; have HK5 := Aside0.mk (HK.out.below HA); have BX5 := Aside0.mk (blk_below BX.out HA); have BB := Aside0.mk (HK5.out.some_ e.f3 b HF2.out).2; have x2 : (wr.alloc (Obj.cells #[.int .i64 7, .int .i64 8, .func (.func 53) #[] #[]] 79)).cell? ⟨gb, 2, none⟩ = some (.int .i64 e.f2) := (blk_cell BX5.out 2).trans rfl; have x4 : (wr.alloc (Obj.cells #[.int .i64 7, .int .i64 8, .func (.func 53) #[] #[]] 79)).cell? ⟨gb, 4, none⟩ = some (.int .i64 e.f4) := (blk_cell BX5.out 4).trans rfl; have x5 := blk_frozen BX5.out 2; have x6 := blk_frozen BX5.out 4; have y1 : (wr.alloc (Obj.cells #[.int .i64 7, .int .i64 8, .func (.func 53) #[] #[]] 79)).cell? ⟨b, 4, none⟩ = some (.int .i64 (bal e.f3).r) := (blk_cell BB.out 4).trans rfl; have y2 := blk_frozen BB.out 4; have eV := NV.out
              go_wp2
              go_region
              go_wp2
              go_roundg k1
              case measure => omega
              case rel =>
                obtain ⟨q1, q2, q3⟩ := after_store HK.out HB.out HFR.out (Obj.cells #[.int .i64 7, .int .i64 8, .func (.func 53) #[] #[]] 79) HF2.out 4 (wrap64 ((bal e.f3).r - V)) (nb := { bal e.f3 with r := wrap64 ((bal e.f3).r - V) }) rfl
                refine ⟨4, rfl, by omega, ⟨?_⟩, ⟨?_⟩, ⟨q2⟩, ⟨q3⟩, ⟨fun _ => ?_⟩⟩
                · rw [if_pos (by have := NH.out; omega), NE.out]; exact q1
                · exact frame_store HK5.out HF2.out BX5.out (by decide)
                · rw [NE.out]; have := NS.out; simp; omega
          · have NH := Aside0.mk (show e.f2 ≠ 7 ∧ e.f2 ≠ 8 from ⟨h7, h8⟩)
            have b0 : (e.f2 == 7) = false := beq_eq_false_iff_ne.mpr h7; have b1 : (e.f2 == 8) = false := beq_eq_false_iff_ne.mpr h8; clear h7 h8; have HA : Below wr.heap.size wr (wr.alloc (Obj.cells #[.int .i64 7, .int .i64 8, .func (.func 53) #[] #[]] 79)) := below_alloc (Below.refl wr.heap.size wr) _; have HK5 := Aside0.mk (HK.out.below HA); have BX5 := Aside0.mk (blk_below BX.out HA); have BB := Aside0.mk (HK5.out.some_ e.f3 b HF2.out).2; have x2 : (wr.alloc (Obj.cells #[.int .i64 7, .int .i64 8, .func (.func 53) #[] #[]] 79)).cell? ⟨gb, 2, none⟩ = some (.int .i64 e.f2) := (blk_cell BX5.out 2).trans rfl; have x4 : (wr.alloc (Obj.cells #[.int .i64 7, .int .i64 8, .func (.func 53) #[] #[]] 79)).cell? ⟨gb, 4, none⟩ = some (.int .i64 e.f4) := (blk_cell BX5.out 4).trans rfl; have x5 := blk_frozen BX5.out 2; have x6 := blk_frozen BX5.out 4; clear x4 x6
            go_wp2
            go_roundg k1
            case measure => omega
            case rel =>
              obtain ⟨q1, q2, q3⟩ := after_skip HK.out HB.out HFR.out (Obj.cells #[.int .i64 7, .int .i64 8, .func (.func 53) #[] #[]] 79); have hh := NH.out
              have e5 : (if e.f2 < 2 * ((3 : Nat) : Int) + 1 then (eff e.f2 V (bal e.f3)).1 else bal e.f3) = (if e.f2 < 2 * ((4 : Nat) : Int) + 1 then (eff e.f2 V (bal e.f3)).1 else bal e.f3) := by
                by_cases hl : e.f2 < 2 * ((3 : Nat) : Int) + 1
                · rw [if_pos hl, if_pos (by omega)]
                · rw [if_neg hl, if_neg (by omega)]
              rw [e5] at q1
              exact ⟨4, rfl, by omega, ⟨q1⟩, BX5, ⟨q2⟩, ⟨q3⟩, ⟨fun hl => HT.out (by omega)⟩⟩
    · obtain rfl : j = 4 := by omega
      go_wp2
      go_ret
      by_cases hl : e.f2 < 2 * ((4 : Nat) : Int) + 1
      · have h2 := HT.out hl
        have h3 := HK.out
        rw [if_pos hl] at h3
        exact ⟨f', n', by rw [NV.out, h2]; rfl, HN2.out, by rw [NV.out]; exact h3, HB.out, HFR.out⟩
      · have h3 := HK.out
        have h4 : eff e.f2 V (bal e.f3) = (bal e.f3, true) := eff_high (by omega)
        rw [if_neg hl] at h3
        exact ⟨f', n', by rw [NV.out, h4]; rfl, HN2.out, by rw [NV.out, h4]; exact h3, HB.out, HFR.out⟩
end Go.Proofs.Ytgedkdofhonicaa.G
/- The contract by hand of (*books).add, under way. -/
namespace Go.Proofs.Ytgedkdofhonicaa.G
open Go.RowKit Go.Proofs.YtgedkdofhonicaaW.PrintWords Go.Proofs.YtgedkdofhonicaaW.PrintLast Go.Proofs.YtgedkdofhonicaaW.PrintMore Go.Proofs.Ytgedkdofhonicaa.PA
set_option linter.unusedVariables false
set_option linter.unusedSimpArgs false
def inR (e : S26) : Bool := decide (0 ≤ e.f1 ∧ e.f1 ≤ 36524 ∧ 1 ≤ e.f2 ∧ e.f2 ≤ 9 ∧ 1 ≤ e.f3 ∧ e.f3 ≤ 1000000 ∧ 1 ≤ e.f4 ∧ e.f4 ≤ 64000000000000 ∧ 0 ≤ e.f5 ∧ e.f5 ≤ 1000000000)
theorem ranges_f (e : S26) : ledger_ranges.f e.f0 e.f1 e.f2 e.f3 e.f4 e.f5 = some (inR e) := by
  unfold ledger_ranges.f inR
  repeat' split
  all_goals (rw [Option.some.injEq, Bool.eq_iff_iff]; simp only [decide_eq_true_eq, Bool.false_eq_true, false_iff]; omega)
def setRev (rev : Int → Bool) (x : Int) : Int → Bool := fun y => if y = x then true else rev y
/-- What (*books).add answers, and the balances and marks that it leaves where it answers 0. -/
def addC (es : List S26) (bal : Int → Bal) (rev : Int → Bool) (e : S26) : Int × (Int → Bal) × (Int → Bool) :=
  if 2000 ≤ (es.length : Int) then (8, bal, rev) else
  if inR e = false then (2, bal, rev) else
  if e.f0 ≠ (es.length : Int) + 1 then (9, bal, rev) else
  if e.f2 = 9 then
    if e.f4 > (es.length : Int) then (6, bal, rev) else
    if (rd_T26 es (e.f4 - 1)).f2 = 9 ∨ rev (rd_T26 es (e.f4 - 1)).f0 = true then (17, bal, rev) else
    if (rd_T26 es (e.f4 - 1)).f3 ≠ e.f3 then (14, bal, rev) else
    if (eff (rd_T26 es (e.f4 - 1)).f2 (wrap64 (-1 * (rd_T26 es (e.f4 - 1)).f4)) (bal (rd_T26 es (e.f4 - 1)).f3)).2 = true then (0, setBal bal (rd_T26 es (e.f4 - 1)).f3 (eff (rd_T26 es (e.f4 - 1)).f2 (wrap64 (-1 * (rd_T26 es (e.f4 - 1)).f4)) (bal (rd_T26 es (e.f4 - 1)).f3)).1, setRev rev (rd_T26 es (e.f4 - 1)).f0) else (16, bal, rev)
  else if (eff e.f2 (wrap64 (1 * e.f4)) (bal e.f3)).2 = true then (0, setBal bal e.f3 (eff e.f2 (wrap64 (1 * e.f4)) (bal e.f3)).1, rev) else (16, bal, rev)
set_option maxHeartbeats 4000000 in
set_option maxRecDepth 100000 in
theorem add_early {W : World} {base g m1 m2 n : Nat} {f : Int → Option Nat} {bal : Int → Bal} {rev : Int → Bool} {A : Option Addr} {c : Nat} {es : List S26} (h : Books W base g m1 m2 n f bal rev A c es) (e : S26)
    (hs : 2000 ≤ (es.length : Int) ∨ inR e = false ∨ e.f0 ≠ (es.length : Int) + 1) :
    Calls Try.prog 30 #[.pointer (some ⟨g, 0, none⟩), .agg #[.int .i64 e.f0, .int .i64 e.f1, .int .i64 e.f2, .int .i64 e.f3, .int .i64 e.f4, .int .i64 e.f5]] W fun r w' => r = .returned (.int .i64 (addC es bal rev e).1) ∧ Below base W w' := by
  have hu26 := Try.underlying26; have hu62 := Try.underlying62
  have mixed : Try.prog.follows Departure.mixedOrders = true := by kernel_rfl
  have hbl := h.lt; have HBK := Aside0.mk h; clear h
  by_cases h1 : 2000 ≤ (es.length : Int)
  · have b1 : decide (2000 ≤ (es.length : Int)) = true := decide_eq_true h1
    have b2 : decide (2000 ≤ es.length) = true := decide_eq_true (by omega)
    rw [addC, if_pos h1]
    clear h1 hs
    go_enter Try.func30, Try.ntmps30
    go_wp2_with (first
      | ((with_reducible refine gate_dst (N := 3) rfl ?_); refine box_event ?hg (N := 3) ?hd (cs := #[.int .i64 e.f0, .int .i64 e.f1, .int .i64 e.f2, .int .i64 e.f3, .int .i64 e.f4, .int .i64 e.f5]) (t := 26) ?hr ?_; (case hd => rfl); (case hg => rfl); (case hr => first | (go_simp; done) | (go_simp; rfl)); intro gb hg w1 hbox hb; have HB1 := Aside0.mk hb; have HK1 := Aside0.mk (HBK.out.below hb); have BX := Aside0.mk hbox; clear hb hbox hg; have hg2 : w1.cell? ⟨g, 2, none⟩ = some (.slice A es.length c) := (blk_cell HK1.out.cell 2).trans rfl; have hf2 := blk_frozen HK1.out.cell 2))
    go_ret
    exact ⟨rfl, HB1.out.mono hbl⟩
  · have b1 : decide (2000 ≤ (es.length : Int)) = false := decide_eq_false h1
    have b2 : decide (2000 ≤ es.length) = false := decide_eq_false (by omega)
    rw [addC, if_neg h1]
    by_cases h2 : inR e = false
    · have hR := ranges_f e
      rw [h2] at hR
      rw [if_pos h2]
      have HR := Aside0.mk hR; clear hR h2 h1 hs
      go_enter Try.func30, Try.ntmps30
      go_wp2_with (first
        | ((with_reducible refine gate_dst (N := 3) rfl ?_); refine box_event ?hg (N := 3) ?hd (cs := #[.int .i64 e.f0, .int .i64 e.f1, .int .i64 e.f2, .int .i64 e.f3, .int .i64 e.f4, .int .i64 e.f5]) (t := 26) ?hr ?_; (case hd => rfl); (case hg => rfl); (case hr => first | (go_simp; done) | (go_simp; rfl)); intro gb hg w1 hbox hb; have HB1 := Aside0.mk hb; have HK1 := Aside0.mk (HBK.out.below hb); have BX := Aside0.mk hbox; clear hb hbox hg; have hg2 : w1.cell? ⟨g, 2, none⟩ = some (.slice A es.length c) := (blk_cell HK1.out.cell 2).trans rfl; have hf2 := blk_frozen HK1.out.cell 2; have e0 : w1.cell? ⟨gb, 0, none⟩ = some (.int .i64 e.f0) := (blk_cell BX.out 0).trans rfl; have e1 : w1.cell? ⟨gb, 1, none⟩ = some (.int .i64 e.f1) := (blk_cell BX.out 1).trans rfl; have e2 : w1.cell? ⟨gb, 2, none⟩ = some (.int .i64 e.f2) := (blk_cell BX.out 2).trans rfl; have e3 : w1.cell? ⟨gb, 3, none⟩ = some (.int .i64 e.f3) := (blk_cell BX.out 3).trans rfl; have e4 : w1.cell? ⟨gb, 4, none⟩ = some (.int .i64 e.f4) := (blk_cell BX.out 4).trans rfl; have e5 : w1.cell? ⟨gb, 5, none⟩ = some (.int .i64 e.f5) := (blk_cell BX.out 5).trans rfl)
        | ((with_reducible refine gate_callee (f := 42) rfl ?_); refine goesL_ (some 16) rfl rfl Try.func42 (by kernel_rfl) rfl #[.agg #[.int .i64 e.f0, .int .i64 e.f1, .int .i64 e.f2, .int .i64 e.f3, .int .i64 e.f4, .int .i64 e.f5]] rfl (by (try simp only [List.map_toArray, List.map_cons, List.map_nil]); first | done | rfl) ?_; refine (ledger_ranges.calls _ _ _ _ _ _ _ _ HR.out).mono ?_; rintro _ w2 ⟨rfl, hb⟩; refine ⟨_, rfl, ?_⟩; have HB2 := Aside0.mk hb; clear hb))
      go_ret
      exact ⟨rfl, (HB1.out.mono hbl).trans (HB2.out.mono HK1.out.lt)⟩
    · have h2' : inR e = true := by simpa using h2
      have h3 : e.f0 ≠ (es.length : Int) + 1 := by
        rcases hs with h | h | h
        · exact absurd h h1
        · exact absurd h h2
        · exact h
      have hR := ranges_f e
      rw [h2'] at hR
      rw [if_neg h2, if_pos h3]
      have hw : wrap64 ((es.length : Int) + 1) = (es.length : Int) + 1 := by unfold wrap64; omega
      have b3 : (e.f0 != (es.length : Int) + 1) = true := bne_iff_ne.mpr h3; have HR := Aside0.mk hR; clear hR h2 h2' h1 hs h3
      go_enter Try.func30, Try.ntmps30
      go_wp2_with (first
        | ((with_reducible refine gate_dst (N := 3) rfl ?_); refine box_event ?hg (N := 3) ?hd (cs := #[.int .i64 e.f0, .int .i64 e.f1, .int .i64 e.f2, .int .i64 e.f3, .int .i64 e.f4, .int .i64 e.f5]) (t := 26) ?hr ?_; (case hd => rfl); (case hg => rfl); (case hr => first | (go_simp; done) | (go_simp; rfl)); intro gb hg w1 hbox hb; have HB1 := Aside0.mk hb; have HK1 := Aside0.mk (HBK.out.below hb); have BX := Aside0.mk hbox; clear hb hbox hg; have hg2 : w1.cell? ⟨g, 2, none⟩ = some (.slice A es.length c) := (blk_cell HK1.out.cell 2).trans rfl; have hf2 := blk_frozen HK1.out.cell 2; have e0 : w1.cell? ⟨gb, 0, none⟩ = some (.int .i64 e.f0) := (blk_cell BX.out 0).trans rfl; have e1 : w1.cell? ⟨gb, 1, none⟩ = some (.int .i64 e.f1) := (blk_cell BX.out 1).trans rfl; have e2 : w1.cell? ⟨gb, 2, none⟩ = some (.int .i64 e.f2) := (blk_cell BX.out 2).trans rfl; have e3 : w1.cell? ⟨gb, 3, none⟩ = some (.int .i64 e.f3) := (blk_cell BX.out 3).trans rfl; have e4 : w1.cell? ⟨gb, 4, none⟩ = some (.int .i64 e.f4) := (blk_cell BX.out 4).trans rfl; have e5 : w1.cell? ⟨gb, 5, none⟩ = some (.int .i64 e.f5) := (blk_cell BX.out 5).trans rfl)
        | ((with_reducible refine gate_callee (f := 42) rfl ?_); refine goesL_ (some 16) rfl rfl Try.func42 (by kernel_rfl) rfl #[.agg #[.int .i64 e.f0, .int .i64 e.f1, .int .i64 e.f2, .int .i64 e.f3, .int .i64 e.f4, .int .i64 e.f5]] rfl (by (try simp only [List.map_toArray, List.map_cons, List.map_nil]); first | done | rfl) ?_; refine (ledger_ranges.calls _ _ _ _ _ _ _ _ HR.out).mono ?_; rintro _ w2 ⟨rfl, hb⟩; refine ⟨_, rfl, ?_⟩; have HB2 := Aside0.mk hb; have HK2 := Aside0.mk (HK1.out.below hb); have BX2 := Aside0.mk (blk_below BX.out hb); clear hb; have i0 : w2.cell? ⟨gb, 0, none⟩ = some (.int .i64 e.f0) := (blk_cell BX2.out 0).trans rfl; have i1 := blk_frozen BX2.out 0; have i2 : w2.cell? ⟨g, 2, none⟩ = some (.slice A es.length c) := (blk_cell HK2.out.cell 2).trans rfl; have i3 := blk_frozen HK2.out.cell 2))
      go_region
      go_wp2
      go_ret
      exact ⟨rfl, ((HB1.out.mono hbl).trans (HB2.out.mono HK1.out.lt)).trans (by repeat (first | exact Below.refl _ _ | apply pw_below_drewN | apply below_drew1))⟩
end Go.Proofs.Ytgedkdofhonicaa.G
/- The contract by hand of (*books).add, an entry that is no reversal. -/
namespace Go.Proofs.Ytgedkdofhonicaa.G
open Go.RowKit Go.Proofs.YtgedkdofhonicaaW.PrintWords Go.Proofs.YtgedkdofhonicaaW.PrintLast Go.Proofs.YtgedkdofhonicaaW.PrintMore Go.Proofs.Ytgedkdofhonicaa.PA
set_option linter.unusedVariables false
set_option linter.unusedSimpArgs false
/-- The books with one entry more: what an append and the store of its row leave. -/
theorem Books.appended {W W6 : World} {base g m1 m2 n : Nat} {f : Int → Option Nat} {bal : Int → Bal} {rev : Int → Bool} {A A6 : Option Addr} {c c6 : Nat} {es : List S26} {e : S26} (h : Books W base g m1 m2 n f bal rev A c es)
    (hg : W.grownBy W6 (Value.slice A es.length c).ownBlock) (hr : Kd.R k26 26 W6 base (fun _ => True) (.slice A6 (es ++ [e]).length c6) (es ++ [e])) :
    Books (W6.setCell ⟨g, 2, none⟩ (.slice A6 (es ++ [e]).length c6)) base g m1 m2 n f bal rev A6 c6 (es ++ [e]) := by
  have ne : ∀ {k : Nat} {cs : Array Value} {t : TypeId}, 26 ≠ t → W.heap[k]? = some (.cells cs t (0, 0)) → W6.heap[k]? = some (.cells cs t (0, 0)) := fun ht hk => (hg.block _ (blk_lt hk) (Kd.R_ne h.ents hk ht)).trans hk
  have hc6 := ne (by decide) h.cell
  have map_ne : ∀ {k : Nat} {es' : Array MapEntry} {cl : Nat}, W.heap[k]? = some (.map es' cl) → some k ≠ (Value.slice A es.length c).ownBlock := fun hk he => by
    obtain ⟨inner, ho⟩ := Kd.R_own h.ents; obtain ⟨cells, hcc⟩ := own_typed ho _ he.symm
    rw [hk] at hcc
    cases hcc
  have far : ∀ {k : Nat}, k ≠ g → (W6.setCell ⟨g, 2, none⟩ (.slice A6 (es ++ [e]).length c6)).heap[k]? = W6.heap[k]? := fun hk => Below.heap_setCell W6 _ _ _ hk
  have hm1 : some m1 ≠ (Value.slice A es.length c).ownBlock ∧ m1 ≠ g := by
    obtain ⟨D, ⟨es', cl, h1, _⟩, _⟩ := h.lots
    exact ⟨map_ne h1, fun he => by rw [he, h.cell] at h1; cases h1⟩
  have hm2 : some m2 ≠ (Value.slice A es.length c).ownBlock ∧ m2 ≠ g := by
    obtain ⟨D, ⟨es', cl, h1, _⟩, _⟩ := h.revs
    exact ⟨map_ne h1, fun he => by rw [he, h.cell] at h1; cases h1⟩
  have hs := grown_setCell W6 ⟨g, 2, none⟩ (.slice A6 (es ++ [e]).length c6)
  refine ⟨blk_put (cs := #[.map (some m1), .map (some m2), .slice A es.length c]) hc6 2 _ rfl, (h.lots.kept hg hm1.1).kept hs (by simpa using hm1.2), (h.revs.kept hg hm2.1).kept hs (by simpa using hm2.2), ?_, h.gb, h.m1b, h.m2b, fun y b hy => ⟨(h.some_ y b hy).1, ?_⟩, h.none_, h.inj, h.ne⟩
  · exact Kd.R_mono (Kd.R_far (p := ⟨g, 2, none⟩) (Kd.R_types hr hc6 (by decide)) (fun _ hk => hk.2) _) (fun _ _ => trivial)
  · have h1 := (h.some_ y b hy).2
    have hbg : b ≠ g := fun he => by rw [he, h.cell] at h1; cases h1
    exact (far hbg).trans (ne (by decide) h1)
set_option maxHeartbeats 8000000 in
set_option maxRecDepth 100000 in
theorem add_plain {W : World} {base g m1 m2 n : Nat} {f : Int → Option Nat} {bal : Int → Bal} {rev : Int → Bool} {A : Option Addr} {c : Nat} {es : List S26} (h : Books W base g m1 m2 n f bal rev A c es) (e : S26) (hn : n < maxLen)
    (h1 : ¬ 2000 ≤ (es.length : Int)) (h2 : inR e = true) (h3 : e.f0 = (es.length : Int) + 1) (h4 : e.f2 ≠ 9) (hx : lotR e.f3) :
    Calls Try.prog 30 #[.pointer (some ⟨g, 0, none⟩), .agg #[.int .i64 e.f0, .int .i64 e.f1, .int .i64 e.f2, .int .i64 e.f3, .int .i64 e.f4, .int .i64 e.f5]] W fun r w' => r = .returned (.int .i64 (addC es bal rev e).1) ∧ Below base W w' ∧
      ((addC es bal rev e).1 = 0 → ∃ f' n' A' c', n' ≤ n + 1 ∧ Books w' base g m1 m2 n' f' (addC es bal rev e).2.1 (addC es bal rev e).2.2 A' c' (es ++ [e])) := by
  have hu26 := Try.underlying26; have hu62 := Try.underlying62
  have mixed : Try.prog.follows Departure.mixedOrders = true := by kernel_rfl
  have hbl := h.lt; have HBK := Aside0.mk h; clear h; have b1 : decide (2000 ≤ (es.length : Int)) = false := decide_eq_false h1; have b2 : decide (2000 ≤ es.length) = false := decide_eq_false (by omega); have hR := ranges_f e
  rw [h2] at hR
  have hw : wrap64 ((es.length : Int) + 1) = (es.length : Int) + 1 := by unfold wrap64; omega
  have b3 : (e.f0 != (es.length : Int) + 1) = false := bne_eq_false_iff_eq.mpr h3; have b4 : (e.f2 == 9) = false := beq_eq_false_iff_ne.mpr h4
  have hA : addC es bal rev e = (if (eff e.f2 (wrap64 (1 * e.f4)) (bal e.f3)).2 = true then (0, setBal bal e.f3 (eff e.f2 (wrap64 (1 * e.f4)) (bal e.f3)).1, rev) else (16, bal, rev)) := by
    rw [addC, if_neg h1, if_neg (by rw [h2]; decide), if_neg (by rw [h3]; simp), if_neg h4]
  rw [hA]
  have HR := Aside0.mk hR; have HL := Aside0.mk (show es.length < 2000 by omega); clear hR h2 h3 h4 h1 hA
  by_cases hE : (eff e.f2 (wrap64 (1 * e.f4)) (bal e.f3)).2 = true
  · rw [if_pos hE]
    have NE := Aside0.mk hE; clear hE
    go_enter Try.func30, Try.ntmps30
    go_wp2_with (first
      | ((with_reducible refine gate_dst (N := 3) rfl ?_); refine box_event ?hg (N := 3) ?hd (cs := #[.int .i64 e.f0, .int .i64 e.f1, .int .i64 e.f2, .int .i64 e.f3, .int .i64 e.f4, .int .i64 e.f5]) (t := 26) ?hr ?_; (case hd => rfl); (case hg => rfl); (case hr => first | (go_simp; done) | (go_simp; rfl)); intro gb hg w1 hbox hb; have HB1 := Aside0.mk hb; have HK1 := Aside0.mk (HBK.out.below hb); have BX := Aside0.mk hbox; clear hb hbox hg; have hg2 : w1.cell? ⟨g, 2, none⟩ = some (.slice A es.length c) := (blk_cell HK1.out.cell 2).trans rfl; have hf2 := blk_frozen HK1.out.cell 2; have e0 : w1.cell? ⟨gb, 0, none⟩ = some (.int .i64 e.f0) := (blk_cell BX.out 0).trans rfl; have e1 : w1.cell? ⟨gb, 1, none⟩ = some (.int .i64 e.f1) := (blk_cell BX.out 1).trans rfl; have e2 : w1.cell? ⟨gb, 2, none⟩ = some (.int .i64 e.f2) := (blk_cell BX.out 2).trans rfl; have e3 : w1.cell? ⟨gb, 3, none⟩ = some (.int .i64 e.f3) := (blk_cell BX.out 3).trans rfl; have e4 : w1.cell? ⟨gb, 4, none⟩ = some (.int .i64 e.f4) := (blk_cell BX.out 4).trans rfl; have e5 : w1.cell? ⟨gb, 5, none⟩ = some (.int .i64 e.f5) := (blk_cell BX.out 5).trans rfl)
      | ((with_reducible refine gate_callee (f := 42) rfl ?_); refine goesL_ (some 16) rfl rfl Try.func42 (by kernel_rfl) rfl #[.agg #[.int .i64 e.f0, .int .i64 e.f1, .int .i64 e.f2, .int .i64 e.f3, .int .i64 e.f4, .int .i64 e.f5]] rfl (by (try simp only [List.map_toArray, List.map_cons, List.map_nil]); first | done | rfl) ?_; refine (ledger_ranges.calls _ _ _ _ _ _ _ _ HR.out).mono ?_; rintro _ w2 ⟨rfl, hb⟩; refine ⟨_, rfl, ?_⟩; have HB2 := Aside0.mk hb; have HK2 := Aside0.mk (HK1.out.below hb); have BX2 := Aside0.mk (blk_below BX.out hb); clear hb; have i0 : w2.cell? ⟨gb, 0, none⟩ = some (.int .i64 e.f0) := (blk_cell BX2.out 0).trans rfl; have i1 := blk_frozen BX2.out 0; have i2 : w2.cell? ⟨g, 2, none⟩ = some (.slice A es.length c) := (blk_cell HK2.out.cell 2).trans rfl; have i3 := blk_frozen HK2.out.cell 2; have j2 : w2.cell? ⟨gb, 2, none⟩ = some (.int .i64 e.f2) := (blk_cell BX2.out 2).trans rfl; have j1 : w2.cell? ⟨gb, 1, none⟩ = some (.int .i64 e.f1) := (blk_cell BX2.out 1).trans rfl; have j3 : w2.cell? ⟨gb, 3, none⟩ = some (.int .i64 e.f3) := (blk_cell BX2.out 3).trans rfl; have j4 : w2.cell? ⟨gb, 4, none⟩ = some (.int .i64 e.f4) := (blk_cell BX2.out 4).trans rfl; have j5 : w2.cell? ⟨gb, 5, none⟩ = some (.int .i64 e.f5) := (blk_cell BX2.out 5).trans rfl; have lt2 := blk_lt BX2.out))
    go_region
    go_wp2_with (first
      | ((with_reducible refine gate_callee (f := 43) rfl ?_); refine goesL_ (some 77) rfl rfl Try.func43 (by kernel_rfl) rfl #[.pointer (some ⟨g, 0, none⟩), .agg #[.int .i64 e.f0, .int .i64 e.f1, .int .i64 e.f2, .int .i64 e.f3, .int .i64 e.f4, .int .i64 e.f5], .int .i64 1] rfl (by (try simp only [List.map_toArray, List.map_cons, List.map_nil]); first | done | rfl) ?_; refine (effect_calls (HK2.out.below (by repeat (first | exact Below.refl _ _ | apply below_alloc | apply pw_below_drewN | apply below_drew1))) hn e hx 1).mono ?_; rintro _ w5 ⟨f', n', rfl, hn', hbk, hb, hfr⟩; refine ⟨_, rfl, ?_⟩; rw [NE.out]; have HK5 := Aside0.mk hbk; have HB5 := Aside0.mk hb; have HN5 := Aside0.mk hn'; have BX5 := Aside0.mk (hfr gb _ 26 (by decide) ((Below.block (show Below w2.heap.size w2 _ from by repeat (first | exact Below.refl _ _ | apply below_alloc | apply pw_below_drewN | apply below_drew1)) gb lt2).trans BX2.out)); clear hbk hb hfr hn'; have k2 : w5.cell? ⟨g, 2, none⟩ = some (.slice A es.length c) := (blk_cell HK5.out.cell 2).trans rfl; have k3 := blk_frozen HK5.out.cell 2; have l0 : w5.cell? ⟨gb, 0, none⟩ = some (.int .i64 e.f0) := (blk_cell BX5.out 0).trans rfl; have l1 : w5.cell? ⟨gb, 1, none⟩ = some (.int .i64 e.f1) := (blk_cell BX5.out 1).trans rfl; have l2 : w5.cell? ⟨gb, 2, none⟩ = some (.int .i64 e.f2) := (blk_cell BX5.out 2).trans rfl; have l3 : w5.cell? ⟨gb, 3, none⟩ = some (.int .i64 e.f3) := (blk_cell BX5.out 3).trans rfl; have l4 : w5.cell? ⟨gb, 4, none⟩ = some (.int .i64 e.f4) := (blk_cell BX5.out 4).trans rfl; have l5 : w5.cell? ⟨gb, 5, none⟩ = some (.int .i64 e.f5) := (blk_cell BX5.out 5).trans rfl))
    have HD := Aside0.mk (HK5.out.below (below_alloc (Below.refl w5.heap.size w5) (Obj.cells #[.int .i64 e.f0, .int .i64 e.f1, .int .i64 e.f2, .int .i64 e.f3, .int .i64 e.f4, .int .i64 e.f5] 26))); have k4 : ((w5.alloc (Obj.cells #[.int .i64 e.f0, .int .i64 e.f1, .int .i64 e.f2, .int .i64 e.f3, .int .i64 e.f4, .int .i64 e.f5] 26)).drew).cell? ⟨g, 2, none⟩ = some (.slice A es.length c) := (blk_cell HD.out.cell 2).trans rfl; have k5 : ((w5.alloc (Obj.cells #[.int .i64 e.f0, .int .i64 e.f1, .int .i64 e.f2, .int .i64 e.f3, .int .i64 e.f4, .int .i64 e.f5] 26)).drew).frozen? ⟨g, 2, none⟩ = false := blk_frozen HD.out.cell 2; have k6 : (w5.alloc (Obj.cells #[.int .i64 e.f0, .int .i64 e.f1, .int .i64 e.f2, .int .i64 e.f3, .int .i64 e.f4, .int .i64 e.f5] 26)).cell? ⟨g, 2, none⟩ = some (.slice A es.length c) := (blk_cell HD.out.cell 2).trans rfl; have k7 : (w5.alloc (Obj.cells #[.int .i64 e.f0, .int .i64 e.f1, .int .i64 e.f2, .int .i64 e.f3, .int .i64 e.f4, .int .i64 e.f5] 26)).frozen? ⟨g, 2, none⟩ = false := blk_frozen HD.out.cell 2
    have HBB := Aside0.mk ((((HB1.out.mono hbl).trans (HB2.out.mono HK1.out.lt)).trans ((show Below w2.heap.size w2 _ from by repeat (first | exact Below.refl _ _ | apply below_alloc | apply pw_below_drewN | apply below_drew1)).mono HK2.out.lt)).trans HB5.out)
    have HO5 := Aside0.mk (Kd.R_drew HK5.out.ents)
    go_region_law_o (refine Kd.R_append_step (W := w5.drew) k26 base (by simp [Region.wanted]) (.tmp 83) (.tmp 85) 23 26 (.agg #[.int .i64 0, .int .i64 0, .int .i64 0, .int .i64 0, .int .i64 0, .int .i64 0]) 48 rfl Try.underlying23 info26 rfl (by decide) (by decide) (.slice A es.length c) es e [.int .i64 e.f0, .int .i64 e.f1, .int .i64 e.f2, .int .i64 e.f3, .int .i64 e.f4, .int .i64 e.f5] (fun _ => True) (fun _ => False) rfl rfl (k26_mkM _ _ _ e) (fun _ hk => hk.elim) (fun _ _ => trivial) HO5.out (HBB.out.trans ((below_drew1 (Below.refl _ _)).mono HK5.out.lt)) HK5.out.lt (by have := HL.out; omega) ?_; intro v1 w6 hR hB hg hat; obtain ⟨A6, c6, e6⟩ := Kd.R_slice hR; subst e6; have HR6 := Aside0.mk hR; have HB6 := Aside0.mk hB; have HG6 := Aside0.mk hg; have c6g := (hg.block g (blk_lt HK5.out.cell) (Kd.R_ne HO5.out HK5.out.cell (by decide))).trans HK5.out.cell; have C6 := Aside0.mk c6g; have p2 : w6.cell? ⟨g, 2, none⟩ = some (.slice A es.length c) := (blk_cell C6.out 2).trans rfl; have p3 := blk_frozen C6.out 2; clear hR hB hg hat c6g)
    all_goals
      go_wp2
      go_ret
      have q1 := (HK5.out.below (below_drew1 (Below.refl w5.heap.size w5))).appended (e := e) HG6.out HR6.out
      rw [List.length_append] at q1
      refine ⟨rfl, ?_, fun _ => ⟨f', n', A6, c6, HN5.out, q1⟩⟩
      exact pw_below_grown HB6.out (some g) (Nat.le_trans HBK.out.lt HB6.out.size) (grown_setCell w6 ⟨g, 2, none⟩ _) (fun k hk => by injection hk with hk; subst hk; exact HBK.out.gb)
  · rw [if_neg hE]
    have hE' : (eff e.f2 (wrap64 (1 * e.f4)) (bal e.f3)).2 = false := by simpa using hE
    have NE := Aside0.mk hE'; clear hE hE'
    go_enter Try.func30, Try.ntmps30
    go_wp2_with (first
      | ((with_reducible refine gate_dst (N := 3) rfl ?_); refine box_event ?hg (N := 3) ?hd (cs := #[.int .i64 e.f0, .int .i64 e.f1, .int .i64 e.f2, .int .i64 e.f3, .int .i64 e.f4, .int .i64 e.f5]) (t := 26) ?hr ?_; (case hd => rfl); (case hg => rfl); (case hr => first | (go_simp; done) | (go_simp; rfl)); intro gb hg w1 hbox hb; have HB1 := Aside0.mk hb; have HK1 := Aside0.mk (HBK.out.below hb); have BX := Aside0.mk hbox; clear hb hbox hg; have hg2 : w1.cell? ⟨g, 2, none⟩ = some (.slice A es.length c) := (blk_cell HK1.out.cell 2).trans rfl; have hf2 := blk_frozen HK1.out.cell 2; have e0 : w1.cell? ⟨gb, 0, none⟩ = some (.int .i64 e.f0) := (blk_cell BX.out 0).trans rfl; have e1 : w1.cell? ⟨gb, 1, none⟩ = some (.int .i64 e.f1) := (blk_cell BX.out 1).trans rfl; have e2 : w1.cell? ⟨gb, 2, none⟩ = some (.int .i64 e.f2) := (blk_cell BX.out 2).trans rfl; have e3 : w1.cell? ⟨gb, 3, none⟩ = some (.int .i64 e.f3) := (blk_cell BX.out 3).trans rfl; have e4 : w1.cell? ⟨gb, 4, none⟩ = some (.int .i64 e.f4) := (blk_cell BX.out 4).trans rfl; have e5 : w1.cell? ⟨gb, 5, none⟩ = some (.int .i64 e.f5) := (blk_cell BX.out 5).trans rfl)
      | ((with_reducible refine gate_callee (f := 42) rfl ?_); refine goesL_ (some 16) rfl rfl Try.func42 (by kernel_rfl) rfl #[.agg #[.int .i64 e.f0, .int .i64 e.f1, .int .i64 e.f2, .int .i64 e.f3, .int .i64 e.f4, .int .i64 e.f5]] rfl (by (try simp only [List.map_toArray, List.map_cons, List.map_nil]); first | done | rfl) ?_; refine (ledger_ranges.calls _ _ _ _ _ _ _ _ HR.out).mono ?_; rintro _ w2 ⟨rfl, hb⟩; refine ⟨_, rfl, ?_⟩; have HB2 := Aside0.mk hb; have HK2 := Aside0.mk (HK1.out.below hb); have BX2 := Aside0.mk (blk_below BX.out hb); clear hb; have i0 : w2.cell? ⟨gb, 0, none⟩ = some (.int .i64 e.f0) := (blk_cell BX2.out 0).trans rfl; have i1 := blk_frozen BX2.out 0; have i2 : w2.cell? ⟨g, 2, none⟩ = some (.slice A es.length c) := (blk_cell HK2.out.cell 2).trans rfl; have i3 := blk_frozen HK2.out.cell 2; have j2 : w2.cell? ⟨gb, 2, none⟩ = some (.int .i64 e.f2) := (blk_cell BX2.out 2).trans rfl; have j1 : w2.cell? ⟨gb, 1, none⟩ = some (.int .i64 e.f1) := (blk_cell BX2.out 1).trans rfl; have j3 : w2.cell? ⟨gb, 3, none⟩ = some (.int .i64 e.f3) := (blk_cell BX2.out 3).trans rfl; have j4 : w2.cell? ⟨gb, 4, none⟩ = some (.int .i64 e.f4) := (blk_cell BX2.out 4).trans rfl; have j5 : w2.cell? ⟨gb, 5, none⟩ = some (.int .i64 e.f5) := (blk_cell BX2.out 5).trans rfl; have lt2 := blk_lt BX2.out))
    go_region
    go_wp2_with (first
      | ((with_reducible refine gate_callee (f := 43) rfl ?_); refine goesL_ (some 77) rfl rfl Try.func43 (by kernel_rfl) rfl #[.pointer (some ⟨g, 0, none⟩), .agg #[.int .i64 e.f0, .int .i64 e.f1, .int .i64 e.f2, .int .i64 e.f3, .int .i64 e.f4, .int .i64 e.f5], .int .i64 1] rfl (by (try simp only [List.map_toArray, List.map_cons, List.map_nil]); first | done | rfl) ?_; refine (effect_calls (HK2.out.below (by repeat (first | exact Below.refl _ _ | apply below_alloc | apply pw_below_drewN | apply below_drew1))) hn e hx 1).mono ?_; rintro _ w5 ⟨f', n', rfl, hn', hbk, hb, hfr⟩; refine ⟨_, rfl, ?_⟩; rw [NE.out]; have HK5 := Aside0.mk hbk; have HB5 := Aside0.mk hb; clear hbk hb hfr hn'))
    go_ret
    exact ⟨rfl, (((HB1.out.mono hbl).trans (HB2.out.mono HK1.out.lt)).trans ((show Below w2.heap.size w2 _ from by repeat (first | exact Below.refl _ _ | apply below_alloc | apply pw_below_drewN | apply below_drew1)).mono HK2.out.lt)).trans HB5.out, fun h => absurd h (by decide)⟩
end Go.Proofs.Ytgedkdofhonicaa.G
/- The contract by hand of (*books).add, a reversal. -/
namespace Go.Proofs.Ytgedkdofhonicaa.G
open Go.RowKit Go.Proofs.YtgedkdofhonicaaW.PrintWords Go.Proofs.YtgedkdofhonicaaW.PrintLast Go.Proofs.YtgedkdofhonicaaW.PrintMore Go.Proofs.Ytgedkdofhonicaa.PA
set_option linter.unusedVariables false
set_option linter.unusedSimpArgs false
set_option maxHeartbeats 8000000 in
set_option maxRecDepth 100000 in
theorem add_unknown {W : World} {base g m1 m2 n : Nat} {f : Int → Option Nat} {bal : Int → Bal} {rev : Int → Bool} {A : Option Addr} {c : Nat} {es : List S26} (h : Books W base g m1 m2 n f bal rev A c es) (e : S26)
    (h1 : ¬ 2000 ≤ (es.length : Int)) (h2 : inR e = true) (h3 : e.f0 = (es.length : Int) + 1) (h4 : e.f2 = 9) (h5 : e.f4 > (es.length : Int)) :
    Calls Try.prog 30 #[.pointer (some ⟨g, 0, none⟩), .agg #[.int .i64 e.f0, .int .i64 e.f1, .int .i64 e.f2, .int .i64 e.f3, .int .i64 e.f4, .int .i64 e.f5]] W fun r w' => r = .returned (.int .i64 (addC es bal rev e).1) ∧ Below base W w' ∧ (addC es bal rev e).1 ≠ 0 := by
  have hu26 := Try.underlying26; have hu62 := Try.underlying62
  have mixed : Try.prog.follows Departure.mixedOrders = true := by kernel_rfl
  have hbl := h.lt; have HBK := Aside0.mk h; clear h; have b1 : decide (2000 ≤ (es.length : Int)) = false := decide_eq_false h1; have b2 : decide (2000 ≤ es.length) = false := decide_eq_false (by omega); have hR := ranges_f e
  rw [h2] at hR
  have hw : wrap64 ((es.length : Int) + 1) = (es.length : Int) + 1 := by unfold wrap64; omega
  have b3 : (e.f0 != (es.length : Int) + 1) = false := bne_eq_false_iff_eq.mpr h3; have b4 : (e.f2 == 9) = true := beq_iff_eq.mpr h4; have b5 : decide ((es.length : Int) < e.f4) = true := decide_eq_true (by omega)
  have hA : (addC es bal rev e).1 = 6 := by
    rw [addC, if_neg h1, if_neg (by rw [h2]; decide), if_neg (by rw [h3]; simp), if_pos h4, if_pos h5]
  rw [hA]
  have HR := Aside0.mk hR; clear hR h2 h3 h4 h1 hA h5
  go_enter Try.func30, Try.ntmps30
  go_wp2_with (first
    | ((with_reducible refine gate_dst (N := 3) rfl ?_); refine box_event ?hg (N := 3) ?hd (cs := #[.int .i64 e.f0, .int .i64 e.f1, .int .i64 e.f2, .int .i64 e.f3, .int .i64 e.f4, .int .i64 e.f5]) (t := 26) ?hr ?_; (case hd => rfl); (case hg => rfl); (case hr => first | (go_simp; done) | (go_simp; rfl)); intro gb hg w1 hbox hb; have HB1 := Aside0.mk hb; have HK1 := Aside0.mk (HBK.out.below hb); have BX := Aside0.mk hbox; clear hb hbox hg; have hg2 : w1.cell? ⟨g, 2, none⟩ = some (.slice A es.length c) := (blk_cell HK1.out.cell 2).trans rfl; have hf2 := blk_frozen HK1.out.cell 2; have e0 : w1.cell? ⟨gb, 0, none⟩ = some (.int .i64 e.f0) := (blk_cell BX.out 0).trans rfl; have e1 : w1.cell? ⟨gb, 1, none⟩ = some (.int .i64 e.f1) := (blk_cell BX.out 1).trans rfl; have e2 : w1.cell? ⟨gb, 2, none⟩ = some (.int .i64 e.f2) := (blk_cell BX.out 2).trans rfl; have e3 : w1.cell? ⟨gb, 3, none⟩ = some (.int .i64 e.f3) := (blk_cell BX.out 3).trans rfl; have e4 : w1.cell? ⟨gb, 4, none⟩ = some (.int .i64 e.f4) := (blk_cell BX.out 4).trans rfl; have e5 : w1.cell? ⟨gb, 5, none⟩ = some (.int .i64 e.f5) := (blk_cell BX.out 5).trans rfl)
    | ((with_reducible refine gate_callee (f := 42) rfl ?_); refine goesL_ (some 16) rfl rfl Try.func42 (by kernel_rfl) rfl #[.agg #[.int .i64 e.f0, .int .i64 e.f1, .int .i64 e.f2, .int .i64 e.f3, .int .i64 e.f4, .int .i64 e.f5]] rfl (by (try simp only [List.map_toArray, List.map_cons, List.map_nil]); first | done | rfl) ?_; refine (ledger_ranges.calls _ _ _ _ _ _ _ _ HR.out).mono ?_; rintro _ w2 ⟨rfl, hb⟩; refine ⟨_, rfl, ?_⟩; have HB2 := Aside0.mk hb; have HK2 := Aside0.mk (HK1.out.below hb); have BX2 := Aside0.mk (blk_below BX.out hb); clear hb; have i0 : w2.cell? ⟨gb, 0, none⟩ = some (.int .i64 e.f0) := (blk_cell BX2.out 0).trans rfl; have i1 := blk_frozen BX2.out 0; have i2 : w2.cell? ⟨g, 2, none⟩ = some (.slice A es.length c) := (blk_cell HK2.out.cell 2).trans rfl; have i3 := blk_frozen HK2.out.cell 2; have j2 : w2.cell? ⟨gb, 2, none⟩ = some (.int .i64 e.f2) := (blk_cell BX2.out 2).trans rfl; have j1 : w2.cell? ⟨gb, 1, none⟩ = some (.int .i64 e.f1) := (blk_cell BX2.out 1).trans rfl; have j3 : w2.cell? ⟨gb, 3, none⟩ = some (.int .i64 e.f3) := (blk_cell BX2.out 3).trans rfl; have j4 : w2.cell? ⟨gb, 4, none⟩ = some (.int .i64 e.f4) := (blk_cell BX2.out 4).trans rfl; have j5 : w2.cell? ⟨gb, 5, none⟩ = some (.int .i64 e.f5) := (blk_cell BX2.out 5).trans rfl; have lt2 := blk_lt BX2.out))
  go_region
  have t1 : ∀ o : Obj, (w2.alloc o).cell? ⟨gb, 4, none⟩ = some (.int .i64 e.f4) := fun o => (blk_cell (blk_below BX2.out (below_alloc (Below.refl w2.heap.size w2) o)) 4).trans rfl
  have t2 : ∀ o : Obj, (w2.alloc o).frozen? ⟨gb, 4, none⟩ = false := fun o => blk_frozen (blk_below BX2.out (below_alloc (Below.refl w2.heap.size w2) o)) 4
  have t3 : ∀ o : Obj, (w2.alloc o).cell? ⟨g, 2, none⟩ = some (.slice A es.length c) := fun o => (blk_cell (HK2.out.below (below_alloc (Below.refl w2.heap.size w2) o)).cell 2).trans rfl
  have t4 : ∀ o : Obj, (w2.alloc o).frozen? ⟨g, 2, none⟩ = false := fun o => blk_frozen (HK2.out.below (below_alloc (Below.refl w2.heap.size w2) o)).cell 2
  go_wp2
  go_region
  go_wp2
  go_ret
  exact ⟨rfl, ((HB1.out.mono hbl).trans (HB2.out.mono HK1.out.lt)).trans ((show Below w2.heap.size w2 _ from by repeat (first | exact Below.refl _ _ | apply below_alloc | apply pw_below_drewN | apply below_drew1)).mono HK2.out.lt), by decide⟩
end Go.Proofs.Ytgedkdofhonicaa.G
/- The contract by hand of (*books).add, a reversal. -/
namespace Go.Proofs.Ytgedkdofhonicaa.G
open Go.RowKit Go.Proofs.YtgedkdofhonicaaW.PrintWords Go.Proofs.YtgedkdofhonicaaW.PrintLast Go.Proofs.YtgedkdofhonicaaW.PrintMore Go.Proofs.Ytgedkdofhonicaa.PA
set_option linter.unusedVariables false
set_option linter.unusedSimpArgs false
/-- The books with one number marked: what a store into the second map leaves. -/
theorem Books.marked {W W1 : World} {base g m1 m2 n : Nat} {f : Int → Option Nat} {bal : Int → Bal} {rev : Int → Bool} {A : Option Addr} {c : Nat} {es : List S26} (h : Books W base g m1 m2 n f bal rev A c es) {y : Int} (hm : MapB W1 m2 (n + 1) (fun z => if z = y then true else rev z)) (hg : W.grownBy W1 (some m2)) :
    Books W1 base g m1 m2 (n + 1) f bal (setRev rev y) A c es := by
  have hmap : ∃ es' cl, W.heap[m2]? = some (.map es' cl) := by
    obtain ⟨D, ⟨es', cl, h1, _⟩, _⟩ := h.revs
    exact ⟨es', cl, h1⟩
  obtain ⟨es', cl, hm2⟩ := hmap
  have keep : ∀ {k : Nat} {cs : Array Value} {t : TypeId} {z : Nat × Nat}, W.heap[k]? = some (.cells cs t z) → W1.heap[k]? = some (.cells cs t z) := fun hk => (hg.block _ (blk_lt hk) (fun he => by
    injection he with he
    subst he
    rw [hm2] at hk
    cases hk)).trans hk
  refine ⟨keep h.cell, (h.lots.kept hg (by simpa using h.ne)).mono (Nat.le_succ _), hm, ?_, h.gb, h.m1b, h.m2b, fun y b hy => ⟨(h.some_ y b hy).1, keep (h.some_ y b hy).2⟩, h.none_, h.inj, h.ne⟩
  exact Kd.R_mono (Kd.R_move (Kd.R_bound h.ents) (fun k hk => by
    obtain ⟨_, _, _, q, _, cells, hc⟩ := hk
    exact (keep hc).trans hc.symm)) (fun _ _ => trivial)
set_option maxHeartbeats 8000000 in
set_option maxRecDepth 100000 in
theorem add_reversal {W : World} {base g m1 m2 n : Nat} {f : Int → Option Nat} {bal : Int → Bal} {rev : Int → Bool} {A : Option Addr} {c : Nat} {es : List S26} (h : Books W base g m1 m2 n f bal rev A c es) (e : S26)
    (h1 : ¬ 2000 ≤ (es.length : Int)) (h2 : inR e = true) (h3 : e.f0 = (es.length : Int) + 1) (h4 : e.f2 = 9) (h5 : ¬ e.f4 > (es.length : Int)) (h6 : 1 ≤ e.f4) (hn1 : n + 1 < maxLen) (hx : i64 (rd_T26 es (e.f4 - 1)).f0) (hy : (rd_T26 es (e.f4 - 1)).f3 = e.f3 → lotR (rd_T26 es (e.f4 - 1)).f3) :
    Calls Try.prog 30 #[.pointer (some ⟨g, 0, none⟩), .agg #[.int .i64 e.f0, .int .i64 e.f1, .int .i64 e.f2, .int .i64 e.f3, .int .i64 e.f4, .int .i64 e.f5]] W fun r w' => r = .returned (.int .i64 (addC es bal rev e).1) ∧ Below base W w' ∧
      ((addC es bal rev e).1 = 0 → ∃ f' n' A' c', n' ≤ n + 2 ∧ Books w' base g m1 m2 n' f' (addC es bal rev e).2.1 (addC es bal rev e).2.2 A' c' (es ++ [e])) := by
  have hu26 := Try.underlying26; have hu62 := Try.underlying62
  have mixed : Try.prog.follows Departure.mixedOrders = true := by kernel_rfl
  have hbl := h.lt
  have hn : n < maxLen := by omega
  have HBK := Aside0.mk h; clear h; have b1 : decide (2000 ≤ (es.length : Int)) = false := decide_eq_false h1; have b2 : decide (2000 ≤ es.length) = false := decide_eq_false (by omega); have hR := ranges_f e
  rw [h2] at hR
  have hw : wrap64 ((es.length : Int) + 1) = (es.length : Int) + 1 := by unfold wrap64; omega
  have b3 : (e.f0 != (es.length : Int) + 1) = false := bne_eq_false_iff_eq.mpr h3; have b4 : (e.f2 == 9) = true := beq_iff_eq.mpr h4; have b5 : decide ((es.length : Int) < e.f4) = false := decide_eq_false (by omega)
  have hw2 : wrap64 (e.f4 - 1) = e.f4 - 1 := by unfold wrap64; omega
  have p0 := eq_true (show (0 : Int) ≤ wrap64 (e.f4 - 1) by rw [hw2]; omega); have q0 := eq_true (show wrap64 (e.f4 - 1) < (es.length : Int) by rw [hw2]; omega); have HL := Aside0.mk (show es.length < 2000 by omega)
  generalize hu : rd_T26 es (e.f4 - 1) = u at hx hy
  have hA : addC es bal rev e = (if u.f2 = 9 ∨ rev u.f0 = true then (17, bal, rev) else if u.f3 ≠ e.f3 then (14, bal, rev) else if (eff u.f2 (wrap64 (-1 * u.f4)) (bal u.f3)).2 = true then (0, setBal bal u.f3 (eff u.f2 (wrap64 (-1 * u.f4)) (bal u.f3)).1, setRev rev u.f0) else (16, bal, rev)) := by
    rw [addC, if_neg h1, if_neg (by rw [h2]; decide), if_neg (by rw [h3]; simp), if_pos h4, if_neg h5, hu]
  have NA := Aside0.mk hA; clear hA; have HR := Aside0.mk hR; have NU : Aside0 (rd_T26 es (wrap64 (e.f4 - 1)) = u) := ⟨by rw [hw2]; exact hu⟩; have H45 : Aside0 (0 ≤ wrap64 (e.f4 - 1) ∧ wrap64 (e.f4 - 1) < (es.length : Int)) := ⟨by rw [hw2]; omega, by rw [hw2]; omega⟩; clear hR h2 h3 h4 h1 h5 h6 hu hw2
  go_enter Try.func30, Try.ntmps30
  go_wp2_with (first
    | ((with_reducible refine gate_dst (N := 3) rfl ?_); refine box_event ?hg (N := 3) ?hd (cs := #[.int .i64 e.f0, .int .i64 e.f1, .int .i64 e.f2, .int .i64 e.f3, .int .i64 e.f4, .int .i64 e.f5]) (t := 26) ?hr ?_; (case hd => rfl); (case hg => rfl); (case hr => first | (go_simp; done) | (go_simp; rfl)); intro gb hg w1 hbox hb; have HB1 := Aside0.mk hb; have HK1 := Aside0.mk (HBK.out.below hb); have BX := Aside0.mk hbox; clear hb hbox hg; have hg2 : w1.cell? ⟨g, 2, none⟩ = some (.slice A es.length c) := (blk_cell HK1.out.cell 2).trans rfl; have hf2 := blk_frozen HK1.out.cell 2; have e0 : w1.cell? ⟨gb, 0, none⟩ = some (.int .i64 e.f0) := (blk_cell BX.out 0).trans rfl; have e1 : w1.cell? ⟨gb, 1, none⟩ = some (.int .i64 e.f1) := (blk_cell BX.out 1).trans rfl; have e2 : w1.cell? ⟨gb, 2, none⟩ = some (.int .i64 e.f2) := (blk_cell BX.out 2).trans rfl; have e3 : w1.cell? ⟨gb, 3, none⟩ = some (.int .i64 e.f3) := (blk_cell BX.out 3).trans rfl; have e4 : w1.cell? ⟨gb, 4, none⟩ = some (.int .i64 e.f4) := (blk_cell BX.out 4).trans rfl; have e5 : w1.cell? ⟨gb, 5, none⟩ = some (.int .i64 e.f5) := (blk_cell BX.out 5).trans rfl)
    | ((with_reducible refine gate_callee (f := 42) rfl ?_); refine goesL_ (some 16) rfl rfl Try.func42 (by kernel_rfl) rfl #[.agg #[.int .i64 e.f0, .int .i64 e.f1, .int .i64 e.f2, .int .i64 e.f3, .int .i64 e.f4, .int .i64 e.f5]] rfl (by (try simp only [List.map_toArray, List.map_cons, List.map_nil]); first | done | rfl) ?_; refine (ledger_ranges.calls _ _ _ _ _ _ _ _ HR.out).mono ?_; rintro _ w2 ⟨rfl, hb⟩; refine ⟨_, rfl, ?_⟩; have HB2 := Aside0.mk hb; have HK2 := Aside0.mk (HK1.out.below hb); have BX2 := Aside0.mk (blk_below BX.out hb); clear hb; have i0 : w2.cell? ⟨gb, 0, none⟩ = some (.int .i64 e.f0) := (blk_cell BX2.out 0).trans rfl; have i1 := blk_frozen BX2.out 0; have i2 : w2.cell? ⟨g, 2, none⟩ = some (.slice A es.length c) := (blk_cell HK2.out.cell 2).trans rfl; have i3 := blk_frozen HK2.out.cell 2; have j2 : w2.cell? ⟨gb, 2, none⟩ = some (.int .i64 e.f2) := (blk_cell BX2.out 2).trans rfl; have j1 : w2.cell? ⟨gb, 1, none⟩ = some (.int .i64 e.f1) := (blk_cell BX2.out 1).trans rfl; have j3 : w2.cell? ⟨gb, 3, none⟩ = some (.int .i64 e.f3) := (blk_cell BX2.out 3).trans rfl; have j4 : w2.cell? ⟨gb, 4, none⟩ = some (.int .i64 e.f4) := (blk_cell BX2.out 4).trans rfl; have j5 : w2.cell? ⟨gb, 5, none⟩ = some (.int .i64 e.f5) := (blk_cell BX2.out 5).trans rfl; have lt2 := blk_lt BX2.out))
  go_region
  have t1 : ∀ o : Obj, (w2.alloc o).cell? ⟨gb, 4, none⟩ = some (.int .i64 e.f4) := fun o => (blk_cell (blk_below BX2.out (below_alloc (Below.refl w2.heap.size w2) o)) 4).trans rfl
  have t2 : ∀ o : Obj, (w2.alloc o).frozen? ⟨gb, 4, none⟩ = false := fun o => blk_frozen (blk_below BX2.out (below_alloc (Below.refl w2.heap.size w2) o)) 4
  have t3 : ∀ o : Obj, (w2.alloc o).cell? ⟨g, 2, none⟩ = some (.slice A es.length c) := fun o => (blk_cell (HK2.out.below (below_alloc (Below.refl w2.heap.size w2) o)).cell 2).trans rfl
  have t4 : ∀ o : Obj, (w2.alloc o).frozen? ⟨g, 2, none⟩ = false := fun o => blk_frozen (HK2.out.below (below_alloc (Below.refl w2.heap.size w2) o)).cell 2
  go_wp2
  go_region
  have HD := Aside0.mk (HK2.out.below (below_alloc (Below.refl w2.heap.size w2) (Obj.cells #[.int .i64 e.f0, .int .i64 e.f1, .int .i64 e.f2, .int .i64 e.f3, .int .i64 e.f4, .int .i64 e.f5] 26))); obtain ⟨ad, eA, z0, z1, z2, z3, z4, z5⟩ := at_T26 (Kd.R_reads' HD.out.ents).2.2 (wrap64 (e.f4 - 1)) H45.out.1 H45.out.2; subst eA
  rw [NU.out] at z0 z1 z2 z3 z4 z5
  go_wp2
  go_region
  have HV := Aside0.mk (HK2.out.below (below_alloc (Below.refl w2.heap.size w2) (Obj.cells #[.int .i64 u.f0, .int .i64 u.f1, .int .i64 u.f2, .int .i64 u.f3, .int .i64 u.f4, .int .i64 u.f5] 26))); have v1 : (w2.alloc (Obj.cells #[.int .i64 u.f0, .int .i64 u.f1, .int .i64 u.f2, .int .i64 u.f3, .int .i64 u.f4, .int .i64 u.f5] 26)).cell? ⟨g, 1, none⟩ = some (.map (some m2)) := (blk_cell HV.out.cell 1).trans rfl; have v2 : (w2.alloc (Obj.cells #[.int .i64 u.f0, .int .i64 u.f1, .int .i64 u.f2, .int .i64 u.f3, .int .i64 u.f4, .int .i64 u.f5] 26)).frozen? ⟨g, 1, none⟩ = false := blk_frozen HV.out.cell 1; have v3 : (w2.alloc (Obj.cells #[.int .i64 u.f0, .int .i64 u.f1, .int .i64 u.f2, .int .i64 u.f3, .int .i64 u.f4, .int .i64 u.f5] 26)).cell? ⟨gb, 3, none⟩ = some (.int .i64 e.f3) := (blk_cell (blk_below BX2.out (below_alloc (Below.refl w2.heap.size w2) (Obj.cells #[.int .i64 u.f0, .int .i64 u.f1, .int .i64 u.f2, .int .i64 u.f3, .int .i64 u.f4, .int .i64 u.f5] 26))) 3).trans rfl
  have v4 : ∀ nq, (Instr.lookup 60 (.map (some m2)) (.int .i64 u.f0) false).run Try.prog (((((w2.alloc (Obj.cells #[.int .i64 u.f0, .int .i64 u.f1, .int .i64 u.f2, .int .i64 u.f3, .int .i64 u.f4, .int .i64 u.f5] 26)).drew).drew).drew).drewN nq) = .ok (.bool (rev u.f0)) (((((w2.alloc (Obj.cells #[.int .i64 u.f0, .int .i64 u.f1, .int .i64 u.f2, .int .i64 u.f3, .int .i64 u.f4, .int .i64 u.f5] 26)).drew).drew).drew).drewN nq) := fun nq => (HV.out.below (by repeat (first | exact Below.refl _ _ | apply pw_below_drewN | apply below_drew1))).revs.lookup hx
  have v5 : ∀ nq, (Instr.lookup 60 (.map (some m2)) (.int .i64 u.f0) false).run Try.prog ((w2.alloc (Obj.cells #[.int .i64 u.f0, .int .i64 u.f1, .int .i64 u.f2, .int .i64 u.f3, .int .i64 u.f4, .int .i64 u.f5] 26)).drewN nq) = .ok (.bool (rev u.f0)) ((w2.alloc (Obj.cells #[.int .i64 u.f0, .int .i64 u.f1, .int .i64 u.f2, .int .i64 u.f3, .int .i64 u.f4, .int .i64 u.f5] 26)).drewN nq) := fun nq => (HV.out.below (by repeat (first | exact Below.refl _ _ | apply pw_below_drewN | apply below_drew1))).revs.lookup hx
  have HBW := Aside0.mk (((HB1.out.mono hbl).trans (HB2.out.mono HK1.out.lt)).trans ((show Below w2.heap.size w2 (w2.alloc (Obj.cells #[.int .i64 u.f0, .int .i64 u.f1, .int .i64 u.f2, .int .i64 u.f3, .int .i64 u.f4, .int .i64 u.f5] 26)) from by repeat (first | exact Below.refl _ _ | apply below_alloc | apply pw_below_drewN | apply below_drew1)).mono HK2.out.lt))
  by_cases c1 : u.f2 = 9
  · have d1 : (u.f2 == 9) = true := beq_iff_eq.mpr c1
    have NC := Aside0.mk (show u.f2 = 9 ∨ rev u.f0 = true from .inl c1)
    clear c1
    go_wp2
    go_quiet (fail)
    go_wp2
    go_ret
    rw [NA.out, if_pos NC.out]
    exact ⟨rfl, HBW.out.trans (by repeat (first | exact Below.refl _ _ | apply pw_below_drewN | apply below_drew1)), fun h => absurd h (by simp)⟩
  · have d1 : (u.f2 == 9) = false := beq_eq_false_iff_ne.mpr c1
    by_cases c2 : rev u.f0 = true
    · have NC := Aside0.mk (show u.f2 = 9 ∨ rev u.f0 = true from .inr c2)
      simp only [c2] at v4 v5
      clear c1 c2
      go_wp2
      go_quiet (fail)
      go_wp2
      go_ret
      rw [NA.out, if_pos NC.out]
      exact ⟨rfl, HBW.out.trans (by repeat (first | exact Below.refl _ _ | apply pw_below_drewN | apply below_drew1)), fun h => absurd h (by simp)⟩
    · have c3 : rev u.f0 = false := by simpa using c2
      have NC := Aside0.mk (show ¬ (u.f2 = 9 ∨ rev u.f0 = true) from fun h => h.elim c1 c2)
      simp only [c3] at v4 v5
      clear c1 c2
      by_cases c4 : u.f3 = e.f3
      · have N44 := Aside0.mk c4
        have d4 : (u.f3 != e.f3) = false := bne_eq_false_iff_eq.mpr c4; have NL := Aside0.mk c4; clear c4
        have HF : ∀ nq : Nat, ∃ w8, (Instr.mapUpdate 60 (.map (some m2)) (.int .i64 u.f0) (.bool true)).run Try.prog ((w2.alloc (Obj.cells #[.int .i64 u.f0, .int .i64 u.f1, .int .i64 u.f2, .int .i64 u.f3, .int .i64 u.f4, .int .i64 u.f5] 26)).drewN nq) = .ok () w8 ∧ MapB w8 m2 (n + 1) (fun y => if y = u.f0 then true else rev y) ∧ ((w2.alloc (Obj.cells #[.int .i64 u.f0, .int .i64 u.f1, .int .i64 u.f2, .int .i64 u.f3, .int .i64 u.f4, .int .i64 u.f5] 26)).drewN nq).grownBy w8 (some m2) := fun nq =>
          (HV.out.below (by repeat (first | exact Below.refl _ _ | apply pw_below_drewN | apply below_drew1))).revs.update hn hx true
        obtain ⟨F8, hF8⟩ := Classical.skolem.1 HF; have HF8 := Aside0.mk hF8
        have r8 : ∀ nq, (Instr.mapUpdate 60 (.map (some m2)) (.int .i64 u.f0) (.bool true)).run Try.prog ((w2.alloc (Obj.cells #[.int .i64 u.f0, .int .i64 u.f1, .int .i64 u.f2, .int .i64 u.f3, .int .i64 u.f4, .int .i64 u.f5] 26)).drewN nq) = .ok () (F8 nq) := fun nq => (hF8 nq).1
        clear HF hF8; have HK8 : Aside0 (∀ nq, Books (F8 nq) base g m1 m2 (n + 1) f bal (setRev rev u.f0) (some ad) c es) := ⟨fun nq => (HV.out.below (by repeat (first | exact Below.refl _ _ | apply pw_below_drewN | apply below_drew1))).marked (HF8.out nq).2.1 (HF8.out nq).2.2⟩
        have keep8 : ∀ (nq k : Nat) (cs : Array Value) (t : TypeId), (w2.alloc (Obj.cells #[.int .i64 u.f0, .int .i64 u.f1, .int .i64 u.f2, .int .i64 u.f3, .int .i64 u.f4, .int .i64 u.f5] 26)).heap[k]? = some (Obj.cells cs t (0, 0)) → (F8 nq).heap[k]? = some (Obj.cells cs t (0, 0)) := fun nq k cs t hk => by
          have hm2 : ∃ es' cl, (w2.alloc (Obj.cells #[.int .i64 u.f0, .int .i64 u.f1, .int .i64 u.f2, .int .i64 u.f3, .int .i64 u.f4, .int .i64 u.f5] 26)).heap[m2]? = some (Obj.map es' cl) := by
            obtain ⟨D, ⟨es', cl, h1, _⟩, _⟩ := HV.out.revs
            exact ⟨es', cl, h1⟩
          obtain ⟨es', cl, hm2⟩ := hm2
          have hb : Below (w2.alloc (Obj.cells #[.int .i64 u.f0, .int .i64 u.f1, .int .i64 u.f2, .int .i64 u.f3, .int .i64 u.f4, .int .i64 u.f5] 26)).heap.size (w2.alloc (Obj.cells #[.int .i64 u.f0, .int .i64 u.f1, .int .i64 u.f2, .int .i64 u.f3, .int .i64 u.f4, .int .i64 u.f5] 26)) ((w2.alloc (Obj.cells #[.int .i64 u.f0, .int .i64 u.f1, .int .i64 u.f2, .int .i64 u.f3, .int .i64 u.f4, .int .i64 u.f5] 26)).drewN nq) := by repeat (first | exact Below.refl _ _ | apply pw_below_drewN | apply below_drew1)
          have h1 := (hb.block k (blk_lt hk)).trans hk
          exact ((HF8.out nq).2.2.block k (blk_lt h1) (fun he => by
            injection he with he
            subst he
            rw [hm2] at hk
            cases hk)).trans h1
        have BU : Aside0 (∀ nq, (F8 nq).heap[w2.heap.size]? = some (Obj.cells #[.int .i64 u.f0, .int .i64 u.f1, .int .i64 u.f2, .int .i64 u.f3, .int .i64 u.f4, .int .i64 u.f5] 26)) := ⟨fun nq => keep8 nq _ _ _ (blk_new w2 _)⟩; have BE : Aside0 (∀ nq, (F8 nq).heap[gb]? = some (Obj.cells #[.int .i64 e.f0, .int .i64 e.f1, .int .i64 e.f2, .int .i64 e.f3, .int .i64 e.f4, .int .i64 e.f5] 26)) := ⟨fun nq => keep8 nq _ _ _ (blk_below BX2.out (below_alloc (Below.refl w2.heap.size w2) (Obj.cells #[.int .i64 u.f0, .int .i64 u.f1, .int .i64 u.f2, .int .i64 u.f3, .int .i64 u.f4, .int .i64 u.f5] 26)))⟩
        have xw0 : ∀ nq, (F8 nq).cell? ⟨w2.heap.size, 0, none⟩ = some (.int .i64 u.f0) := fun nq => (blk_cell (BU.out nq) 0).trans rfl
        have xw1 : ∀ nq, (F8 nq).cell? ⟨w2.heap.size, 1, none⟩ = some (.int .i64 u.f1) := fun nq => (blk_cell (BU.out nq) 1).trans rfl
        have xw2 : ∀ nq, (F8 nq).cell? ⟨w2.heap.size, 2, none⟩ = some (.int .i64 u.f2) := fun nq => (blk_cell (BU.out nq) 2).trans rfl
        have xw3 : ∀ nq, (F8 nq).cell? ⟨w2.heap.size, 3, none⟩ = some (.int .i64 u.f3) := fun nq => (blk_cell (BU.out nq) 3).trans rfl
        have xw4 : ∀ nq, (F8 nq).cell? ⟨w2.heap.size, 4, none⟩ = some (.int .i64 u.f4) := fun nq => (blk_cell (BU.out nq) 4).trans rfl
        have xw5 : ∀ nq, (F8 nq).cell? ⟨w2.heap.size, 5, none⟩ = some (.int .i64 u.f5) := fun nq => (blk_cell (BU.out nq) 5).trans rfl
        have HB8 : Aside0 (∀ nq, Below base W (F8 nq)) := ⟨fun nq => pw_below_grown (HBW.out.trans ((show Below (w2.alloc (Obj.cells #[.int .i64 u.f0, .int .i64 u.f1, .int .i64 u.f2, .int .i64 u.f3, .int .i64 u.f4, .int .i64 u.f5] 26)).heap.size (w2.alloc (Obj.cells #[.int .i64 u.f0, .int .i64 u.f1, .int .i64 u.f2, .int .i64 u.f3, .int .i64 u.f4, .int .i64 u.f5] 26)) ((w2.alloc (Obj.cells #[.int .i64 u.f0, .int .i64 u.f1, .int .i64 u.f2, .int .i64 u.f3, .int .i64 u.f4, .int .i64 u.f5] 26)).drewN nq) from by repeat (first | exact Below.refl _ _ | apply pw_below_drewN | apply below_drew1)).mono HV.out.lt)) (some m2) (HV.out.below (show Below (w2.alloc (Obj.cells #[.int .i64 u.f0, .int .i64 u.f1, .int .i64 u.f2, .int .i64 u.f3, .int .i64 u.f4, .int .i64 u.f5] 26)).heap.size (w2.alloc (Obj.cells #[.int .i64 u.f0, .int .i64 u.f1, .int .i64 u.f2, .int .i64 u.f3, .int .i64 u.f4, .int .i64 u.f5] 26)) ((w2.alloc (Obj.cells #[.int .i64 u.f0, .int .i64 u.f1, .int .i64 u.f2, .int .i64 u.f3, .int .i64 u.f4, .int .i64 u.f5] 26)).drewN nq) from by repeat (first | exact Below.refl _ _ | apply pw_below_drewN | apply below_drew1))).lt (HF8.out nq).2.2 (fun k hk => by injection hk with hk; subst hk; exact HV.out.m2b)⟩
        clear keep8
        by_cases hE : (eff u.f2 (wrap64 (-1 * u.f4)) (bal u.f3)).2 = true
        · have NE := Aside0.mk hE
          clear hE
          go_wp2
          go_quiet (fail)
          go_wp2
          go_region
          all_goals
            go_wp2_with (first
              | ((with_reducible refine gate_callee (f := 43) rfl ?_); refine goesL_ (some 77) rfl rfl Try.func43 (by kernel_rfl) rfl #[.pointer (some ⟨g, 0, none⟩), .agg #[.int .i64 u.f0, .int .i64 u.f1, .int .i64 u.f2, .int .i64 u.f3, .int .i64 u.f4, .int .i64 u.f5], .int .i64 (-1)] rfl (by (try simp only [List.map_toArray, List.map_cons, List.map_nil]); first | done | rfl) ?_; refine (effect_calls (HK8.out _) hn1 u (hy N44.out) (-1)).mono ?_; rintro _ w9 ⟨f', n', rfl, hn', hbk, hb, hfr⟩; refine ⟨_, rfl, ?_⟩; rw [NE.out]; have HK5 := Aside0.mk hbk; have HB5 := Aside0.mk ((HB8.out _).trans hb); have HN5 := Aside0.mk hn'; have BX5 := Aside0.mk (hfr gb _ 26 (by decide) (BE.out _)); clear hbk hb hfr hn'; have k2 : w9.cell? ⟨g, 2, none⟩ = some (.slice (some ad) es.length c) := (blk_cell HK5.out.cell 2).trans rfl; have k3 := blk_frozen HK5.out.cell 2; have l0 : w9.cell? ⟨gb, 0, none⟩ = some (.int .i64 e.f0) := (blk_cell BX5.out 0).trans rfl; have l1 : w9.cell? ⟨gb, 1, none⟩ = some (.int .i64 e.f1) := (blk_cell BX5.out 1).trans rfl; have l2 : w9.cell? ⟨gb, 2, none⟩ = some (.int .i64 e.f2) := (blk_cell BX5.out 2).trans rfl; have l3 : w9.cell? ⟨gb, 3, none⟩ = some (.int .i64 e.f3) := (blk_cell BX5.out 3).trans rfl; have l4 : w9.cell? ⟨gb, 4, none⟩ = some (.int .i64 e.f4) := (blk_cell BX5.out 4).trans rfl; have l5 : w9.cell? ⟨gb, 5, none⟩ = some (.int .i64 e.f5) := (blk_cell BX5.out 5).trans rfl))
          all_goals
            have HD9 := Aside0.mk (HK5.out.below (below_alloc (Below.refl w9.heap.size w9) (Obj.cells #[.int .i64 e.f0, .int .i64 e.f1, .int .i64 e.f2, .int .i64 e.f3, .int .i64 e.f4, .int .i64 e.f5] 26))); have k4 : ((w9.alloc (Obj.cells #[.int .i64 e.f0, .int .i64 e.f1, .int .i64 e.f2, .int .i64 e.f3, .int .i64 e.f4, .int .i64 e.f5] 26)).drew).cell? ⟨g, 2, none⟩ = some (.slice (some ad) es.length c) := (blk_cell HD9.out.cell 2).trans rfl; have k5 : ((w9.alloc (Obj.cells #[.int .i64 e.f0, .int .i64 e.f1, .int .i64 e.f2, .int .i64 e.f3, .int .i64 e.f4, .int .i64 e.f5] 26)).drew).frozen? ⟨g, 2, none⟩ = false := blk_frozen HD9.out.cell 2; have k6 : (w9.alloc (Obj.cells #[.int .i64 e.f0, .int .i64 e.f1, .int .i64 e.f2, .int .i64 e.f3, .int .i64 e.f4, .int .i64 e.f5] 26)).cell? ⟨g, 2, none⟩ = some (.slice (some ad) es.length c) := (blk_cell HD9.out.cell 2).trans rfl; have k7 : (w9.alloc (Obj.cells #[.int .i64 e.f0, .int .i64 e.f1, .int .i64 e.f2, .int .i64 e.f3, .int .i64 e.f4, .int .i64 e.f5] 26)).frozen? ⟨g, 2, none⟩ = false := blk_frozen HD9.out.cell 2; have HO5 := Aside0.mk (Kd.R_drew HK5.out.ents)
            go_region_law_o (refine Kd.R_append_step (W := w9.drew) k26 base (by simp [Region.wanted]) (.tmp 83) (.tmp 85) 23 26 (.agg #[.int .i64 0, .int .i64 0, .int .i64 0, .int .i64 0, .int .i64 0, .int .i64 0]) 48 rfl Try.underlying23 info26 rfl (by decide) (by decide) (.slice (some ad) es.length c) es e [.int .i64 e.f0, .int .i64 e.f1, .int .i64 e.f2, .int .i64 e.f3, .int .i64 e.f4, .int .i64 e.f5] (fun _ => True) (fun _ => False) rfl rfl (k26_mkM _ _ _ e) (fun _ hk => hk.elim) (fun _ _ => trivial) HO5.out (HB5.out.trans ((below_drew1 (Below.refl _ _)).mono HK5.out.lt)) HK5.out.lt (by have := HL.out; omega) ?_; intro v1 w6 hR hB hg hat; obtain ⟨A6, c6, e6⟩ := Kd.R_slice hR; subst e6; have HR6 := Aside0.mk hR; have HB6 := Aside0.mk hB; have HG6 := Aside0.mk hg; have c6g := (hg.block g (blk_lt HK5.out.cell) (Kd.R_ne HO5.out HK5.out.cell (by decide))).trans HK5.out.cell; have C6 := Aside0.mk c6g; have p2 : w6.cell? ⟨g, 2, none⟩ = some (.slice (some ad) es.length c) := (blk_cell C6.out 2).trans rfl; have p3 := blk_frozen C6.out 2; clear hR hB hg hat c6g)
            all_goals
              go_wp2
              go_ret
              have q1 := (HK5.out.below (below_drew1 (Below.refl w9.heap.size w9))).appended (e := e) HG6.out HR6.out
              rw [List.length_append] at q1
              rw [NA.out, if_neg NC.out, if_neg (show ¬ u.f3 ≠ e.f3 from fun h => h NL.out), if_pos NE.out]
              refine ⟨rfl, ?_, fun _ => ⟨f', n', A6, c6, HN5.out, q1⟩⟩
              exact pw_below_grown HB6.out (some g) (Nat.le_trans HBK.out.lt HB6.out.size) (grown_setCell w6 ⟨g, 2, none⟩ _) (fun k hk => by injection hk with hk; subst hk; exact HBK.out.gb)
        · have hE' : (eff u.f2 (wrap64 (-1 * u.f4)) (bal u.f3)).2 = false := by simpa using hE
          have NE := Aside0.mk hE'; have NX := Aside0.mk hE; clear hE hE'
          go_wp2
          go_quiet (fail)
          go_wp2
          go_region
          all_goals
            go_wp2_with (first
              | ((with_reducible refine gate_callee (f := 43) rfl ?_); refine goesL_ (some 77) rfl rfl Try.func43 (by kernel_rfl) rfl #[.pointer (some ⟨g, 0, none⟩), .agg #[.int .i64 u.f0, .int .i64 u.f1, .int .i64 u.f2, .int .i64 u.f3, .int .i64 u.f4, .int .i64 u.f5], .int .i64 (-1)] rfl (by (try simp only [List.map_toArray, List.map_cons, List.map_nil]); first | done | rfl) ?_; refine (effect_calls (HK8.out _) hn1 u (hy N44.out) (-1)).mono ?_; rintro _ w9 ⟨f', n', rfl, hn', hbk, hb, hfr⟩; refine ⟨_, rfl, ?_⟩; rw [NE.out]; have HK5 := Aside0.mk hbk; have HB5 := Aside0.mk ((HB8.out _).trans hb); have HN5 := Aside0.mk hn'; have BX5 := Aside0.mk (hfr gb _ 26 (by decide) (BE.out _)); clear hbk hb hfr hn'))
          all_goals
            go_ret
            rw [NA.out, if_neg NC.out, if_neg (show ¬ u.f3 ≠ e.f3 from fun h => h NL.out), if_neg NX.out]
            exact ⟨rfl, HB5.out, fun h => absurd h (by simp)⟩
      · have d4 : (u.f3 != e.f3) = true := bne_iff_ne.mpr c4
        have NL := Aside0.mk c4; clear c4
        go_wp2
        go_quiet (fail)
        go_wp2
        go_ret
        rw [NA.out, if_neg NC.out, if_pos NL.out]
        exact ⟨rfl, HBW.out.trans (by repeat (first | exact Below.refl _ _ | apply pw_below_drewN | apply below_drew1)), fun h => absurd h (by simp)⟩
end Go.Proofs.Ytgedkdofhonicaa.G
/- The contract by hand of (*books).add, whole. -/
namespace Go.Proofs.Ytgedkdofhonicaa.G
open Go.RowKit Go.Proofs.YtgedkdofhonicaaW.PrintWords Go.Proofs.YtgedkdofhonicaaW.PrintLast Go.Proofs.YtgedkdofhonicaaW.PrintMore Go.Proofs.Ytgedkdofhonicaa.PA
set_option linter.unusedVariables false
set_option linter.unusedSimpArgs false
theorem add_calls {W : World} {base g m1 m2 n : Nat} {f : Int → Option Nat} {bal : Int → Bal} {rev : Int → Bool} {A : Option Addr} {c : Nat} {es : List S26} (h : Books W base g m1 m2 n f bal rev A c es) (e : S26) (hn1 : n + 1 < maxLen)
    (hes : ∀ i : Int, 0 ≤ i → i < (es.length : Int) → i64 (rd_T26 es i).f0 ∧ i64 (rd_T26 es i).f3) :
    Calls Try.prog 30 #[.pointer (some ⟨g, 0, none⟩), .agg #[.int .i64 e.f0, .int .i64 e.f1, .int .i64 e.f2, .int .i64 e.f3, .int .i64 e.f4, .int .i64 e.f5]] W fun r w' => r = .returned (.int .i64 (addC es bal rev e).1) ∧ Below base W w' ∧
      ((addC es bal rev e).1 = 0 → ∃ f' n' A' c', n' ≤ n + 2 ∧ Books w' base g m1 m2 n' f' (addC es bal rev e).2.1 (addC es bal rev e).2.2 A' c' (es ++ [e])) := by
  by_cases hs : 2000 ≤ (es.length : Int) ∨ inR e = false ∨ e.f0 ≠ (es.length : Int) + 1
  · refine (add_early h e hs).mono ?_
    rintro r w' ⟨h1, h2⟩
    refine ⟨h1, h2, fun h0 => ?_⟩
    unfold addC at h0
    by_cases a1 : 2000 ≤ (es.length : Int)
    · rw [if_pos a1] at h0; exact absurd h0 (by simp)
    · rw [if_neg a1] at h0
      by_cases a2 : inR e = false
      · rw [if_pos a2] at h0; exact absurd h0 (by simp)
      · rw [if_neg a2] at h0
        have a3 : e.f0 ≠ (es.length : Int) + 1 := by
          rcases hs with h | h | h
          · exact absurd h a1
          · exact absurd h a2
          · exact h
        rw [if_pos a3] at h0; exact absurd h0 (by simp)
  · have h1 : ¬ 2000 ≤ (es.length : Int) := fun h => hs (.inl h)
    have h2 : inR e = true := by
      by_cases h : inR e = false
      · exact absurd (Or.inr (Or.inl h)) hs
      · simpa using h
    have h3 : e.f0 = (es.length : Int) + 1 := Classical.byContradiction fun h => hs (.inr (.inr h))
    have hr := h2
    unfold inR at hr
    have hr := of_decide_eq_true hr
    by_cases h4 : e.f2 = 9
    · by_cases h5 : e.f4 > (es.length : Int)
      · refine (add_unknown h e h1 h2 h3 h4 h5).mono ?_
        rintro r w' ⟨q1, q2, q3⟩
        exact ⟨q1, q2, fun h0 => absurd h0 q3⟩
      · have := hes (e.f4 - 1) (by omega) (by omega)
        exact add_reversal h e h1 h2 h3 h4 h5 (by omega) hn1 this.1 (fun hq => by rw [hq]; exact ⟨by omega, by omega⟩)
    · refine (add_plain h e (by omega) h1 h2 h3 h4 ⟨by omega, by omega⟩).mono ?_
      rintro r w' ⟨q1, q2, q3⟩
      refine ⟨q1, q2, fun h0 => ?_⟩
      obtain ⟨f', n', A', c', q4, q5⟩ := q3 h0
      exact ⟨f', n', A', c', by omega, q5⟩
end Go.Proofs.Ytgedkdofhonicaa.G
/- The contract by hand of ledger.open. -/
namespace Go.Proofs.Ytgedkdofhonicaa.G
open Go.RowKit Go.Proofs.YtgedkdofhonicaaW.PrintWords Go.Proofs.YtgedkdofhonicaaW.PrintLast Go.Proofs.YtgedkdofhonicaaW.PrintMore Go.Proofs.Ytgedkdofhonicaa.PA
set_option linter.unusedVariables false
set_option linter.unusedSimpArgs false
set_option maxHeartbeats 2000000 in
theorem open_calls (W : World) : Calls Try.prog 41 #[] W fun e w' => ∃ g m1 m2, e = .returned (.pointer (some ⟨g, 0, none⟩)) ∧ Books w' W.heap.size g m1 m2 0 (fun _ => none) (fun _ => noBal) (fun _ => false) none 0 [] ∧ Below W.heap.size W w' := by
  have hu62 := Try.underlying62; have hu59 := Try.underlying59; have hu60 := Try.underlying60
  go_enter Try.func41, Try.ntmps41
  have hmm := @run_makeMap Try.prog
  go_wp2
  go_ret
  have s1 : (W.alloc (.map #[] 0)).heap.size = W.heap.size + 1 := Array.size_push _; have s2 : ((W.alloc (.map #[] 0)).alloc (.map #[] 0)).heap.size = W.heap.size + 1 + 1 := (Array.size_push _).trans (by rw [s1])
  refine ⟨W.heap.size + 1 + 1, W.heap.size, W.heap.size + 1, rfl, ⟨?_, ?_, ?_, Kd.R_nil _ _ _ _ _, by omega, by omega, by omega, fun x b h => (by cases h), fun x _ => rfl, fun x y b h => (by cases h), by omega⟩, ?_⟩
  · have := blk_new ((W.alloc (.map #[] 0)).alloc (.map #[] 0)) (Obj.cells #[.map (some W.heap.size), .map (some (W.heap.size + 1)), .slice none 0 0] 62)
    rw [s2] at this
    exact this
  · exact ((MapP.made W).kept (World.grownBy_alloc _ _ none) (by simp)).kept (World.grownBy_alloc _ _ none) (by simp)
  · have := (MapB.made (W.alloc (.map #[] 0))).kept (World.grownBy_alloc ((W.alloc (.map #[] 0)).alloc (.map #[] 0)) (Obj.cells #[.map (some W.heap.size), .map (some (W.heap.size + 1)), .slice none 0 0] 62) none) (by simp)
    rw [s1] at this
    exact this
  · exact below_alloc (below_alloc (below_alloc (Below.refl _ _) _) _) _
end Go.Proofs.Ytgedkdofhonicaa.G
/- The contract by hand of ledger.read, under way. -/
namespace Go.Proofs.Ytgedkdofhonicaa.G
open Go.RowKit Go.Proofs.YtgedkdofhonicaaW.PrintWords Go.Proofs.YtgedkdofhonicaaW.PrintLast Go.Proofs.YtgedkdofhonicaaW.PrintMore Go.Proofs.Ytgedkdofhonicaa.PA
set_option linter.unusedVariables false
set_option linter.unusedSimpArgs false
/-- What reading the first i entries answers, and the balances and marks behind them. -/
def readTo (l : List S26) : Nat → Int × (Int → Bal) × (Int → Bool)
  | 0 => (0, fun _ => noBal, fun _ => false)
  | i + 1 => if (readTo l i).1 = 0 then addC (l.take i) (readTo l i).2.1 (readTo l i).2.2 (rd_T26 l (i : Int)) else readTo l i
theorem readTo_stuck (l : List S26) {i : Nat} (h : (readTo l i).1 ≠ 0) : ∀ d, readTo l (i + d) = readTo l i
  | 0 => rfl
  | d + 1 => by
    show readTo l (i + d + 1) = _
    rw [readTo, readTo_stuck l h d, if_neg h]
theorem addC_len {es : List S26} {bal : Int → Bal} {rev : Int → Bool} {e : S26} (h : (addC es bal rev e).1 = 0) : es.length < 2000 := by
  by_cases a1 : 2000 ≤ (es.length : Int)
  · unfold addC at h
    rw [if_pos a1] at h
    exact absurd h (by simp)
  · omega
theorem readTo_le {l : List S26} {j : Nat} (h : (readTo l j).1 = 0) (hj : j ≤ l.length) : j ≤ 2000 := by
  cases j with
  | zero => omega
  | succ i =>
    rw [readTo] at h
    by_cases h0 : (readTo l i).1 = 0
    · rw [if_pos h0] at h
      have := addC_len h
      rw [List.length_take] at this
      omega
    · rw [if_neg h0] at h; exact absurd h h0
theorem rd_take {l : List S26} {j : Nat} {i : Int} (h0 : 0 ≤ i) (h1 : i < (j : Int)) : rd_T26 (l.take j) i = rd_T26 l i := by
  unfold rd_T26
  obtain ⟨k, rfl⟩ : ∃ k : Nat, i = (k : Int) := ⟨i.toNat, by omega⟩
  have hk : k < j := by omega
  simp [List.getElem?_take, hk]
theorem take_snoc {l : List S26} {j : Nat} (h : j < l.length) : l.take j ++ [rd_T26 l (j : Int)] = l.take (j + 1) := by
  have e : rd_T26 l (j : Int) = l[j] := by unfold rd_T26; simp [h]
  rw [e, List.take_append_getElem h]
set_option maxHeartbeats 4000000 in
set_option maxRecDepth 100000 in
theorem read_calls {W : World} {A0 : Option Addr} {c0 : Nat} {l : List S26} (hr : Kd.C k26 W A0 l.length l) (hc : l.length ≤ c0) (hl : l.length < 4611686018427387904) (hwf : ∀ i : Int, 0 ≤ i → i < (l.length : Int) → i64 (rd_T26 l i).f0 ∧ i64 (rd_T26 l i).f3)
    (code : Int) (bal : Int → Bal) (rev : Int → Bool) (hR : readTo l l.length = (code, bal, rev)) :
    Calls Try.prog 29 #[.slice A0 l.length c0] W fun r w' => Below W.heap.size W w' ∧ ((code = 0 ∧ ∃ g m1 m2 n f A c, r = .returned (.tuple #[.pointer (some ⟨g, 0, none⟩), .int .i64 0]) ∧ n ≤ 2 * l.length ∧ l.length ≤ 2000 ∧ Books w' W.heap.size g m1 m2 n f bal rev A c l) ∨ (code ≠ 0 ∧ r = .returned (.tuple #[.pointer none, .int .i64 code]))) := by
  have hu26 := Try.underlying26; have HR := Aside0.mk hr; have HC := Aside0.mk hc; have HL := Aside0.mk hl; have HW := Aside0.mk hwf; have HRT := Aside0.mk hR; clear hr hc hl hwf hR
  go_enter Try.func29, Try.ntmps29
  go_wp2_with (first
    | ((with_reducible refine gate_callee (f := 41) rfl ?_); refine goesL_ (some 8) rfl rfl Try.func41 (by kernel_rfl) rfl #[] rfl (by (try simp only [List.map_toArray, List.map_cons, List.map_nil]); first | done | rfl) ?_; refine (open_calls _).mono ?_; rintro _ w1 ⟨g, m1, m2, rfl, hbk, hb⟩; refine ⟨_, rfl, ?_⟩; have HK1 := Aside0.mk hbk; have HB1 := Aside0.mk hb; clear hbk hb))
  go_loopg [11] (l.length + 1) (fun kx v11 wr => ∃ (j n : Nat) (f : Int → Option Nat) (A : Option Addr) (c : Nat), v11 = .int .i64 j ∧ j + kx = l.length + 1 ∧ j ≤ l.length ∧ Aside0 ((readTo l j).1 = 0) ∧ Aside0 (n ≤ 2 * j) ∧ Aside0 (Books wr W.heap.size g m1 m2 n f (readTo l j).2.1 (readTo l j).2.2 A c (l.take j)) ∧ Aside0 (Below W.heap.size W wr))
  case atStart => exact ⟨0, 0, _, none, 0, rfl, by omega, Nat.zero_le _, ⟨rfl⟩, ⟨Nat.le_refl _⟩, HK1, HB1⟩
  case round =>
    clear HK1 HB1; obtain ⟨j, n, f, A, c, rfl, hjk, hjl, HZ, HN, HK, HB⟩ := hrel
    by_cases hlt : j < l.length
    · obtain ⟨k1, rfl⟩ : ∃ k1, gk = k1 + 1 := ⟨gk - 1, by omega⟩
      obtain ⟨ad, eA, z0, z1, z2, z3, z4, z5⟩ := at_T26 HR.out (j : Int) (by omega) (by omega); subst eA; replace z0 := (HB.out.cell (World.block_lt_of_cell? W _ z0)).trans z0; replace z1 := (HB.out.cell (World.block_lt_of_cell? W _ z1)).trans z1; replace z2 := (HB.out.cell (World.block_lt_of_cell? W _ z2)).trans z2; replace z3 := (HB.out.cell (World.block_lt_of_cell? W _ z3)).trans z3; replace z4 := (HB.out.cell (World.block_lt_of_cell? W _ z4)).trans z4; replace z5 := (HB.out.cell (World.block_lt_of_cell? W _ z5)).trans z5
      rw [Int.toNat_natCast] at z0 z1 z2 z3 z4 z5
      have p0 := eq_true (show (0 : Int) ≤ (j : Int) by omega); have q0 := eq_true (show (j : Int) < (l.length : Int) by omega); have hj2 := readTo_le HZ.out hjl
      have hn1 : n + 1 < maxLen := by have := HN.out; unfold maxLen; omega
      have hes : ∀ i : Int, 0 ≤ i → i < ((l.take j).length : Int) → i64 (rd_T26 (l.take j) i).f0 ∧ i64 (rd_T26 (l.take j) i).f3 := fun i h0 h1 => by
        rw [List.length_take] at h1
        rw [rd_take h0 (by omega)]
        exact HW.out i h0 (by omega)
      have hstep : readTo l (j + 1) = addC (l.take j) (readTo l j).2.1 (readTo l j).2.2 (rd_T26 l (j : Int)) := by rw [readTo, if_pos HZ.out]
      have HS := Aside0.mk hstep; have HES := Aside0.mk hes
      have hw : wrap64 ((j : Int) + 1) = ((j + 1 : Nat) : Int) := by unfold wrap64; omega
      have HJ := Aside0.mk (And.intro hjl (And.intro hlt (And.intro hjk hj2))); clear hstep hes hj2 hjl hlt hjk
      generalize hq : addC (l.take j) (readTo l j).2.1 (readTo l j).2.2 (rd_T26 l (j : Int)) = q at HS
      have HQ := Aside0.mk hq; clear hq
      by_cases hz : q.1 = 0
      · have b1 : (q.1 != 0) = false := bne_eq_false_iff_eq.mpr hz
        have HZ2 := Aside0.mk hz; clear hz
        go_wp2_with (first
          | ((with_reducible refine gate_callee (f := 30) rfl ?_); refine goesL_ (some 17) rfl rfl Try.func30 (by kernel_rfl) rfl #[.pointer (some ⟨g, 0, none⟩), .agg #[.int .i64 (rd_T26 l (j : Int)).f0, .int .i64 (rd_T26 l (j : Int)).f1, .int .i64 (rd_T26 l (j : Int)).f2, .int .i64 (rd_T26 l (j : Int)).f3, .int .i64 (rd_T26 l (j : Int)).f4, .int .i64 (rd_T26 l (j : Int)).f5]] rfl (by (try simp only [List.map_toArray, List.map_cons, List.map_nil]); first | done | rfl) ?_; refine (add_calls (HK.out.below (by repeat (first | exact Below.refl _ _ | apply below_alloc | apply pw_below_drewN | apply below_drew1))) (rd_T26 l (j : Int)) hn1 HES.out).mono ?_; rw [HQ.out]; rintro _ w3 ⟨rfl, hb, hbk⟩; refine ⟨_, rfl, ?_⟩; have HB3 := Aside0.mk (((below_alloc (Below.refl wr.heap.size wr) _).mono HK.out.lt).trans hb); have HK3 := Aside0.mk (hbk HZ2.out); clear hb hbk))
        go_roundg k1
        case measure => omega
        case rel =>
          have hj := HJ.out; have hnn := HN.out; obtain ⟨f', n', A', c', q4, q5⟩ := HK3.out
          rw [take_snoc hj.2.1] at q5
          exact ⟨j + 1, n', f', A', c', by rw [hw], by omega, by omega, ⟨by rw [HS.out]; exact HZ2.out⟩, ⟨by omega⟩, ⟨by rw [HS.out]; exact q5⟩, ⟨HB.out.trans HB3.out⟩⟩
      · have b1 : (q.1 != 0) = true := bne_iff_ne.mpr hz
        have HZ2 := Aside0.mk hz; clear hz
        go_wp2_with (first
          | ((with_reducible refine gate_callee (f := 30) rfl ?_); refine goesL_ (some 17) rfl rfl Try.func30 (by kernel_rfl) rfl #[.pointer (some ⟨g, 0, none⟩), .agg #[.int .i64 (rd_T26 l (j : Int)).f0, .int .i64 (rd_T26 l (j : Int)).f1, .int .i64 (rd_T26 l (j : Int)).f2, .int .i64 (rd_T26 l (j : Int)).f3, .int .i64 (rd_T26 l (j : Int)).f4, .int .i64 (rd_T26 l (j : Int)).f5]] rfl (by (try simp only [List.map_toArray, List.map_cons, List.map_nil]); first | done | rfl) ?_; refine (add_calls (HK.out.below (by repeat (first | exact Below.refl _ _ | apply below_alloc | apply pw_below_drewN | apply below_drew1))) (rd_T26 l (j : Int)) hn1 HES.out).mono ?_; rw [HQ.out]; rintro _ w3 ⟨rfl, hb, hbk⟩; refine ⟨_, rfl, ?_⟩; have HB3 := Aside0.mk (((below_alloc (Below.refl wr.heap.size wr) _).mono HK.out.lt).trans hb); clear hb hbk))
        go_ret2
        have hst := readTo_stuck l (i := j + 1) (by rw [HS.out]; exact HZ2.out) (l.length - (j + 1)); have hj := HJ.out
        rw [show j + 1 + (l.length - (j + 1)) = l.length by omega, HRT.out, HS.out] at hst
        have hc : code = q.1 := congrArg (fun z => z.1) hst
        rw [hc]
        exact ⟨HB.out.trans HB3.out, .inr ⟨HZ2.out, rfl⟩⟩
    · have hje : j = l.length := by omega
      subst hje; have hlim := readTo_le HZ.out (Nat.le_refl _); have HLIM := Aside0.mk hlim; clear hlim hlt hjl hjk
      go_wp2
      go_ret2
      have h1 := HZ.out; have h2 := HK.out
      rw [HRT.out] at h1 h2
      rw [List.take_length] at h2
      have h1' : code = 0 := h1
      exact ⟨HB.out, .inl ⟨h1', g, m1, m2, n, f, A, c, rfl, HN.out, HLIM.out, h2⟩⟩
end Go.Proofs.Ytgedkdofhonicaa.G
/- The contracts by hand of ledger.Validate and ledger.Append. -/
namespace Go.Proofs.Ytgedkdofhonicaa.G
open Go.RowKit Go.Proofs.YtgedkdofhonicaaW.PrintWords Go.Proofs.YtgedkdofhonicaaW.PrintLast Go.Proofs.YtgedkdofhonicaaW.PrintMore Go.Proofs.Ytgedkdofhonicaa.PA
set_option linter.unusedVariables false
set_option linter.unusedSimpArgs false
def wfL (l : List S26) : Prop := l.length < 4611686018427387904 ∧ ∀ i : Int, 0 ≤ i → i < (l.length : Int) → i64 (rd_T26 l i).f0 ∧ i64 (rd_T26 l i).f3
/-- What Append answers. -/
def appendR (l : List S26) (e : S26) : List S26 × Int :=
  if (readTo l l.length).1 = 0 then (if (addC l (readTo l l.length).2.1 (readTo l l.length).2.2 e).1 = 0 then (l ++ [e], 0) else ([], (addC l (readTo l l.length).2.1 (readTo l l.length).2.2 e).1)) else ([], (readTo l l.length).1)
set_option maxHeartbeats 4000000 in
set_option maxRecDepth 100000 in
theorem append_calls {W : World} {A0 : Option Addr} {c0 : Nat} {l : List S26} (hr : Kd.C k26 W A0 l.length l) (hc : l.length ≤ c0) (hw : wfL l) (e : S26) :
    Calls Try.prog 11 #[.slice A0 l.length c0, .agg #[.int .i64 e.f0, .int .i64 e.f1, .int .i64 e.f2, .int .i64 e.f3, .int .i64 e.f4, .int .i64 e.f5]] W fun r w' => ∃ v, r = .returned (.tuple #[v, .int .i64 (appendR l e).2]) ∧ Kd.R k26 26 w' W.heap.size (fun _ => True) v (appendR l e).1 ∧ Below W.heap.size W w' := by
  have hu26 := Try.underlying26; have hu62 := Try.underlying62; obtain ⟨q1, q2, q3, hq⟩ : ∃ a b c, readTo l l.length = (a, b, c) := ⟨_, _, _, rfl⟩
  have hA : appendR l e = (if q1 = 0 then (if (addC l q2 q3 e).1 = 0 then (l ++ [e], 0) else ([], (addC l q2 q3 e).1)) else ([], q1)) := by rw [appendR, hq]
  have HR := Aside0.mk hr; have HC := Aside0.mk hc; have HW := Aside0.mk hw; have HQ := Aside0.mk hq; have NA := Aside0.mk hA; clear hr hc hw hq hA
  by_cases h1 : q1 = 0
  · subst h1
    have NQ := Aside0.mk (show ∀ z, addC l q2 q3 e = z → appendR l e = (if z.1 = 0 then (l ++ [e], 0) else ([], z.1)) from fun z hz => by rw [NA.out, if_pos rfl, hz])
    generalize hz : addC l q2 q3 e = z at NQ
    have NZ := Aside0.mk hz; have hzA := NQ.out z rfl; have NB := Aside0.mk hzA; clear hz hzA NQ NA
    by_cases h2 : z.1 = 0
    · have b2 : (z.1 != 0) = false := bne_eq_false_iff_eq.mpr h2
      have N2 := Aside0.mk h2; clear h2
      go_enter Try.func11, Try.ntmps11
      go_wp2_with (first
        | ((with_reducible refine gate_dst (N := 3) rfl ?_); refine box_event ?hg (N := 3) ?hd (cs := #[.int .i64 e.f0, .int .i64 e.f1, .int .i64 e.f2, .int .i64 e.f3, .int .i64 e.f4, .int .i64 e.f5]) (t := 26) ?hr ?_; (case hd => rfl); (case hg => rfl); (case hr => first | (go_simp; done) | (go_simp; rfl)); intro gb hg w1 hbox hb; have HB1 := Aside0.mk hb; have BX := Aside0.mk hbox; have GB := Aside0.mk hg; clear hb hbox hg)
        | ((with_reducible refine gate_callee (f := 29) rfl ?_); refine goesL_ (some 11) rfl rfl Try.func29 (by kernel_rfl) rfl #[.slice A0 l.length c0] rfl (by (try simp only [List.map_toArray, List.map_cons, List.map_nil]); first | done | rfl) ?_; refine (read_calls (Kd.C_below HR.out HB1.out) HC.out HW.out.1 HW.out.2 0 q2 q3 HQ.out).mono ?_; rintro r w2 ⟨hb, hx⟩; obtain ⟨g, m1, m2, n, f, A, c, rfl, hn, hl2, hbk⟩ := hx.resolve_right (fun h => h.1 rfl) |>.2; refine ⟨_, rfl, ?_⟩; have HB2 := Aside0.mk hb; have HK2 := Aside0.mk hbk; have HN2 := Aside0.mk hn; have HL2 := Aside0.mk hl2; have BX2 := Aside0.mk (blk_below BX.out hb); clear hb hx hn hl2 hbk; have i0 : w2.cell? ⟨gb, 0, none⟩ = some (.int .i64 e.f0) := (blk_cell BX2.out 0).trans rfl; have i1 : w2.cell? ⟨gb, 1, none⟩ = some (.int .i64 e.f1) := (blk_cell BX2.out 1).trans rfl; have i2 : w2.cell? ⟨gb, 2, none⟩ = some (.int .i64 e.f2) := (blk_cell BX2.out 2).trans rfl; have i3 : w2.cell? ⟨gb, 3, none⟩ = some (.int .i64 e.f3) := (blk_cell BX2.out 3).trans rfl; have i4 : w2.cell? ⟨gb, 4, none⟩ = some (.int .i64 e.f4) := (blk_cell BX2.out 4).trans rfl; have i5 : w2.cell? ⟨gb, 5, none⟩ = some (.int .i64 e.f5) := (blk_cell BX2.out 5).trans rfl)
        | ((with_reducible refine gate_callee (f := 30) rfl ?_); refine goesL_ (some 19) rfl rfl Try.func30 (by kernel_rfl) rfl #[.pointer (some ⟨g, 0, none⟩), .agg #[.int .i64 e.f0, .int .i64 e.f1, .int .i64 e.f2, .int .i64 e.f3, .int .i64 e.f4, .int .i64 e.f5]] rfl (by (try simp only [List.map_toArray, List.map_cons, List.map_nil]); first | done | rfl) ?_; refine (add_calls HK2.out e (by have := HN2.out; have := HL2.out; unfold maxLen; omega) HW.out.2).mono ?_; rw [NZ.out]; rintro _ w3 ⟨rfl, hb, hbk⟩; refine ⟨_, rfl, ?_⟩; have HB3 := Aside0.mk hb; have HK3 := Aside0.mk hbk; clear hb hbk; obtain ⟨f', n', A', c', q4, q5⟩ := HK3.out N2.out; have y1 : w3.cell? ⟨g, 2, none⟩ = some (.slice A' (l ++ [e]).length c') := (blk_cell q5.cell 2).trans rfl; have y2 := blk_frozen q5.cell 2; have Q5 := Aside0.mk q5; clear q4 q5))
      go_ret2
      rw [NB.out, if_pos N2.out]
      exact ⟨_, by first | rfl | simp, Kd.R_lower Q5.out.ents HB1.out.size, (HB1.out.trans (HB2.out.mono HB1.out.size)).trans (HB3.out.mono HB1.out.size)⟩
    · have b2 : (z.1 != 0) = true := bne_iff_ne.mpr h2
      have N2 := Aside0.mk h2; clear h2
      go_enter Try.func11, Try.ntmps11
      go_wp2_with (first
        | ((with_reducible refine gate_dst (N := 3) rfl ?_); refine box_event ?hg (N := 3) ?hd (cs := #[.int .i64 e.f0, .int .i64 e.f1, .int .i64 e.f2, .int .i64 e.f3, .int .i64 e.f4, .int .i64 e.f5]) (t := 26) ?hr ?_; (case hd => rfl); (case hg => rfl); (case hr => first | (go_simp; done) | (go_simp; rfl)); intro gb hg w1 hbox hb; have HB1 := Aside0.mk hb; have BX := Aside0.mk hbox; have GB := Aside0.mk hg; clear hb hbox hg)
        | ((with_reducible refine gate_callee (f := 29) rfl ?_); refine goesL_ (some 11) rfl rfl Try.func29 (by kernel_rfl) rfl #[.slice A0 l.length c0] rfl (by (try simp only [List.map_toArray, List.map_cons, List.map_nil]); first | done | rfl) ?_; refine (read_calls (Kd.C_below HR.out HB1.out) HC.out HW.out.1 HW.out.2 0 q2 q3 HQ.out).mono ?_; rintro r w2 ⟨hb, hx⟩; obtain ⟨g, m1, m2, n, f, A, c, rfl, hn, hl2, hbk⟩ := hx.resolve_right (fun h => h.1 rfl) |>.2; refine ⟨_, rfl, ?_⟩; have HB2 := Aside0.mk hb; have HK2 := Aside0.mk hbk; have HN2 := Aside0.mk hn; have HL2 := Aside0.mk hl2; have BX2 := Aside0.mk (blk_below BX.out hb); clear hb hx hn hl2 hbk; have i0 : w2.cell? ⟨gb, 0, none⟩ = some (.int .i64 e.f0) := (blk_cell BX2.out 0).trans rfl; have i1 : w2.cell? ⟨gb, 1, none⟩ = some (.int .i64 e.f1) := (blk_cell BX2.out 1).trans rfl; have i2 : w2.cell? ⟨gb, 2, none⟩ = some (.int .i64 e.f2) := (blk_cell BX2.out 2).trans rfl; have i3 : w2.cell? ⟨gb, 3, none⟩ = some (.int .i64 e.f3) := (blk_cell BX2.out 3).trans rfl; have i4 : w2.cell? ⟨gb, 4, none⟩ = some (.int .i64 e.f4) := (blk_cell BX2.out 4).trans rfl; have i5 : w2.cell? ⟨gb, 5, none⟩ = some (.int .i64 e.f5) := (blk_cell BX2.out 5).trans rfl)
        | ((with_reducible refine gate_callee (f := 30) rfl ?_); refine goesL_ (some 19) rfl rfl Try.func30 (by kernel_rfl) rfl #[.pointer (some ⟨g, 0, none⟩), .agg #[.int .i64 e.f0, .int .i64 e.f1, .int .i64 e.f2, .int .i64 e.f3, .int .i64 e.f4, .int .i64 e.f5]] rfl (by (try simp only [List.map_toArray, List.map_cons, List.map_nil]); first | done | rfl) ?_; refine (add_calls HK2.out e (by have := HN2.out; have := HL2.out; unfold maxLen; omega) HW.out.2).mono ?_; rw [NZ.out]; rintro _ w3 ⟨rfl, hb, hbk⟩; refine ⟨_, rfl, ?_⟩; have HB3 := Aside0.mk hb; have HK3 := Aside0.mk hbk; clear hb hbk))
      go_ret2
      rw [NB.out, if_neg N2.out]
      exact ⟨_, rfl, Kd.R_nil _ _ _ _ _, (HB1.out.trans (HB2.out.mono HB1.out.size)).trans (HB3.out.mono HB1.out.size)⟩
  · have b1 : (q1 != 0) = true := bne_iff_ne.mpr h1
    have N1 := Aside0.mk h1; clear h1
    go_enter Try.func11, Try.ntmps11
    go_wp2_with (first
      | ((with_reducible refine gate_dst (N := 3) rfl ?_); refine box_event ?hg (N := 3) ?hd (cs := #[.int .i64 e.f0, .int .i64 e.f1, .int .i64 e.f2, .int .i64 e.f3, .int .i64 e.f4, .int .i64 e.f5]) (t := 26) ?hr ?_; (case hd => rfl); (case hg => rfl); (case hr => first | (go_simp; done) | (go_simp; rfl)); intro gb hg w1 hbox hb; have HB1 := Aside0.mk hb; have BX := Aside0.mk hbox; have GB := Aside0.mk hg; clear hb hbox hg)
      | ((with_reducible refine gate_callee (f := 29) rfl ?_); refine goesL_ (some 11) rfl rfl Try.func29 (by kernel_rfl) rfl #[.slice A0 l.length c0] rfl (by (try simp only [List.map_toArray, List.map_cons, List.map_nil]); first | done | rfl) ?_; refine (read_calls (Kd.C_below HR.out HB1.out) HC.out HW.out.1 HW.out.2 q1 q2 q3 HQ.out).mono ?_; rintro r w2 ⟨hb, hx⟩; have hp : r = .returned (.tuple #[.pointer none, .int .i64 q1]) := (hx.elim (fun ⟨h0, _⟩ => absurd h0 N1.out) (fun ⟨h0, hr⟩ => hr)); subst hp; refine ⟨_, rfl, ?_⟩; have HB2 := Aside0.mk hb; clear hb hx))
    go_ret2
    rw [NA.out, if_neg N1.out]
    exact ⟨_, rfl, Kd.R_nil _ _ _ _ _, HB1.out.trans (HB2.out.mono HB1.out.size)⟩
end Go.Proofs.Ytgedkdofhonicaa.G
/- The contract by hand of ledger.BalanceOf. -/
namespace Go.Proofs.Ytgedkdofhonicaa.G
open Go.RowKit Go.Proofs.YtgedkdofhonicaaW.PrintWords Go.Proofs.YtgedkdofhonicaaW.PrintLast Go.Proofs.YtgedkdofhonicaaW.PrintMore Go.Proofs.Ytgedkdofhonicaa.PA
set_option linter.unusedVariables false
set_option linter.unusedSimpArgs false
/-- What BalanceOf answers. -/
def balOf (l : List S26) (x : Int) : Bal := if (readTo l l.length).1 = 0 then (readTo l l.length).2.1 x else noBal
set_option maxHeartbeats 4000000 in
set_option maxRecDepth 100000 in
theorem balanceOf_calls {W : World} {A0 : Option Addr} {c0 : Nat} {l : List S26} (hr : Kd.C k26 W A0 l.length l) (hc : l.length ≤ c0) (hw : wfL l) (x : Int) (hx0 : i64 x) :
    Calls Try.prog 14 #[.slice A0 l.length c0, .int .i64 x] W fun r w' => r = .returned (.agg (balCells x (balOf l x))) ∧ Below W.heap.size W w' := by
  have hu37 := Try.underlying37; have hu62 := Try.underlying62; have hu63 := Try.underlying63; obtain ⟨q1, q2, q3, hq⟩ : ∃ a b c, readTo l l.length = (a, b, c) := ⟨_, _, _, rfl⟩
  have hA : balOf l x = (if q1 = 0 then q2 x else noBal) := by rw [balOf, hq]
  have HR := Aside0.mk hr; have HC := Aside0.mk hc; have HW := Aside0.mk hw; have HQ := Aside0.mk hq; clear hr hc hw hq
  by_cases h1 : q1 = 0
  · subst h1
    rw [if_pos rfl] at hA
    rw [hA]
    clear hA
    go_enter Try.func14, Try.ntmps14
    go_wp2_with (first
      | ((with_reducible refine gate_dst (N := 4) rfl ?_); refine box_event ?hg (N := 4) ?hd (cs := #[.int .i64 0, .int .i64 0, .int .i64 0, .int .i64 0, .int .i64 0]) (t := 37) ?hr ?_; (case hd => rfl); (case hg => rfl); (case hr => first | (go_simp; done) | (go_simp; rfl)); intro gb hg w1 hbox hb; have HB1 := Aside0.mk hb; have BX := Aside0.mk hbox; have GB := Aside0.mk hg; clear hb hbox hg)
      | ((with_reducible refine gate_callee (f := 29) rfl ?_); refine goesL_ (some 9) rfl rfl Try.func29 (by kernel_rfl) rfl #[.slice A0 l.length c0] rfl (by (try simp only [List.map_toArray, List.map_cons, List.map_nil]); first | done | rfl) ?_; refine (read_calls (Kd.C_below HR.out HB1.out) HC.out HW.out.1 HW.out.2 0 q2 q3 HQ.out).mono ?_; rintro r w2 ⟨hb, hx⟩; obtain ⟨g, m1, m2, n, f, A, c, rfl, hn, hl2, hbk⟩ := hx.resolve_right (fun h => h.1 rfl) |>.2; refine ⟨_, rfl, ?_⟩; have HB2 := Aside0.mk hb; have BX2 := Aside0.mk (blk_below BX.out hb); have HK2 := Aside0.mk hbk; have hz0 : w2.cell? ⟨gb, 0, none⟩ = some (.int .i64 0) := (blk_cell BX2.out 0).trans rfl; have hf0 := blk_frozen BX2.out 0; have hz1 : w2.cell? ⟨gb, 1, none⟩ = some (.int .i64 0) := (blk_cell BX2.out 1).trans rfl; have hf1 := blk_frozen BX2.out 1; have hz2 : w2.cell? ⟨gb, 2, none⟩ = some (.int .i64 0) := (blk_cell BX2.out 2).trans rfl; have hf2 := blk_frozen BX2.out 2; have hz3 : w2.cell? ⟨gb, 3, none⟩ = some (.int .i64 0) := (blk_cell BX2.out 3).trans rfl; have hf3 := blk_frozen BX2.out 3; have hz4 : w2.cell? ⟨gb, 4, none⟩ = some (.int .i64 0) := (blk_cell BX2.out 4).trans rfl; have hf4 := blk_frozen BX2.out 4; have g0 : w2.cell? ⟨g, 0, none⟩ = some (.map (some m1)) := (blk_cell HK2.out.cell 0).trans rfl; have g1 := blk_frozen HK2.out.cell 0; have gl := HK2.out.lots.lookup hx0; have hno := HK2.out.none_ x; have hso := HK2.out.some_ x; have hne : ∀ b, f x = some b → w1.heap.size ≤ b := fun b hb => (HK2.out.some_ x b hb).1; generalize hfx : f x = ob at gl hno hso hne; rcases ob with _ | b; (simp only [ptrV] at gl); rotate_left; (simp only [ptrV] at gl; have hbb := (hso b rfl); clear hso; have HBB := Aside0.mk hbb.1; have BB := Aside0.mk hbb.2; clear hbb; have y0 : w2.cell? ⟨b, 0, none⟩ = some (.int .i64 x) := (blk_cell BB.out 0).trans rfl; have yf0 := blk_frozen BB.out 0; have y1 : w2.cell? ⟨b, 1, none⟩ = some (.int .i64 (q2 x).o) := (blk_cell BB.out 1).trans rfl; have yf1 := blk_frozen BB.out 1; have y2 : w2.cell? ⟨b, 2, none⟩ = some (.int .i64 (q2 x).s) := (blk_cell BB.out 2).trans rfl; have yf2 := blk_frozen BB.out 2; have y3 : w2.cell? ⟨b, 3, none⟩ = some (.int .i64 (q2 x).p) := (blk_cell BB.out 3).trans rfl; have yf3 := blk_frozen BB.out 3; have y4 : w2.cell? ⟨b, 4, none⟩ = some (.int .i64 (q2 x).r) := (blk_cell BB.out 4).trans rfl; have yf4 := blk_frozen BB.out 4); rotate_left; clear hb hx hn hl2 hbk))
    · have H12 := HB1.out.trans (HB2.out.mono HB1.out.size)
      refine bodyPost_ret (results_cell_row rfl _ _ gb 37 #[.int .i64 x, .int .i64 0, .int .i64 0, .int .i64 0, .int .i64 0] (0, 0) _ rfl (by (with_reducible repeat (first | refine blk_drewN ?_ _ | refine blk_drew ?_ | refine blk_alloc ?_ _)); refine blk_put (cs := #[.int .i64 x, .int .i64 0, .int .i64 0, .int .i64 0, .int .i64 0]) ?_ 4 _ rfl; (with_reducible repeat (first | refine blk_drewN ?_ _ | refine blk_drew ?_ | refine blk_alloc ?_ _)); refine blk_put (cs := #[.int .i64 x, .int .i64 0, .int .i64 0, .int .i64 0, .int .i64 0]) ?_ 3 _ rfl; (with_reducible repeat (first | refine blk_drewN ?_ _ | refine blk_drew ?_ | refine blk_alloc ?_ _)); refine blk_put (cs := #[.int .i64 x, .int .i64 0, .int .i64 0, .int .i64 0, .int .i64 0]) ?_ 2 _ rfl; (with_reducible repeat (first | refine blk_drewN ?_ _ | refine blk_drew ?_ | refine blk_alloc ?_ _)); refine blk_put (cs := #[.int .i64 x, .int .i64 0, .int .i64 0, .int .i64 0, .int .i64 0]) ?_ 1 _ rfl; (with_reducible repeat (first | refine blk_drewN ?_ _ | refine blk_drew ?_ | refine blk_alloc ?_ _)); refine blk_put (cs := #[.int .i64 0, .int .i64 0, .int .i64 0, .int .i64 0, .int .i64 0]) ?_ 0 _ rfl; (with_reducible repeat (first | refine blk_drewN ?_ _ | refine blk_drew ?_ | refine blk_alloc ?_ _)); exact BX2.out) Try.underlying37 rfl (by kernel_rfl)) rfl ?_
      exact ⟨rfl, by repeat (first | exact H12 | refine below_set ?_ (Nat.le_of_eq GB.out.symm) | apply below_alloc | apply pw_below_drewN | apply below_drew1)⟩
    · have H12 := HB1.out.trans (HB2.out.mono HB1.out.size)
      refine bodyPost_ret (results_cell_row rfl _ _ gb 37 #[.int .i64 x, .int .i64 (q2 x).o, .int .i64 (q2 x).s, .int .i64 (q2 x).p, .int .i64 (q2 x).r] (0, 0) _ rfl (by (with_reducible repeat (first | refine blk_drewN ?_ _ | refine blk_drew ?_ | refine blk_alloc ?_ _)); refine blk_put (cs := #[.int .i64 x, .int .i64 (q2 x).o, .int .i64 (q2 x).s, .int .i64 (q2 x).p, .int .i64 0]) ?_ 4 _ rfl; (with_reducible repeat (first | refine blk_drewN ?_ _ | refine blk_drew ?_ | refine blk_alloc ?_ _)); refine blk_put (cs := #[.int .i64 x, .int .i64 (q2 x).o, .int .i64 (q2 x).s, .int .i64 0, .int .i64 0]) ?_ 3 _ rfl; (with_reducible repeat (first | refine blk_drewN ?_ _ | refine blk_drew ?_ | refine blk_alloc ?_ _)); refine blk_put (cs := #[.int .i64 x, .int .i64 (q2 x).o, .int .i64 0, .int .i64 0, .int .i64 0]) ?_ 2 _ rfl; (with_reducible repeat (first | refine blk_drewN ?_ _ | refine blk_drew ?_ | refine blk_alloc ?_ _)); refine blk_put (cs := #[.int .i64 x, .int .i64 0, .int .i64 0, .int .i64 0, .int .i64 0]) ?_ 1 _ rfl; (with_reducible repeat (first | refine blk_drewN ?_ _ | refine blk_drew ?_ | refine blk_alloc ?_ _)); refine blk_put (cs := #[.int .i64 0, .int .i64 0, .int .i64 0, .int .i64 0, .int .i64 0]) ?_ 0 _ rfl; (with_reducible repeat (first | refine blk_drewN ?_ _ | refine blk_drew ?_ | refine blk_alloc ?_ _)); exact BX2.out) Try.underlying37 rfl (by kernel_rfl)) rfl ?_
      exact ⟨rfl, by repeat (first | exact H12 | refine below_set ?_ (Nat.le_of_eq GB.out.symm) | apply below_alloc | apply pw_below_drewN | apply below_drew1)⟩
  · have b1 : (q1 != 0) = true := bne_iff_ne.mpr h1
    have N1 := Aside0.mk h1
    rw [if_neg h1] at hA
    rw [hA]
    clear h1 hA
    go_enter Try.func14, Try.ntmps14
    go_wp2_with (first
      | ((with_reducible refine gate_dst (N := 4) rfl ?_); refine box_event ?hg (N := 4) ?hd (cs := #[.int .i64 0, .int .i64 0, .int .i64 0, .int .i64 0, .int .i64 0]) (t := 37) ?hr ?_; (case hd => rfl); (case hg => rfl); (case hr => first | (go_simp; done) | (go_simp; rfl)); intro gb hg w1 hbox hb; have HB1 := Aside0.mk hb; have BX := Aside0.mk hbox; have GB := Aside0.mk hg; clear hb hbox hg)
      | ((with_reducible refine gate_callee (f := 29) rfl ?_); refine goesL_ (some 9) rfl rfl Try.func29 (by kernel_rfl) rfl #[.slice A0 l.length c0] rfl (by (try simp only [List.map_toArray, List.map_cons, List.map_nil]); first | done | rfl) ?_; refine (read_calls (Kd.C_below HR.out HB1.out) HC.out HW.out.1 HW.out.2 q1 q2 q3 HQ.out).mono ?_; rintro r w2 ⟨hb, hx⟩; have hp : r = .returned (.tuple #[.pointer none, .int .i64 q1]) := (hx.elim (fun ⟨h0, _⟩ => absurd h0 N1.out) (fun ⟨h0, hr⟩ => hr)); subst hp; refine ⟨_, rfl, ?_⟩; have HB2 := Aside0.mk hb; have BX2 := Aside0.mk (blk_below BX.out hb); have hz0 : w2.cell? ⟨gb, 0, none⟩ = some (.int .i64 0) := (blk_cell BX2.out 0).trans rfl; have hf0 := blk_frozen BX2.out 0; have hz1 : w2.cell? ⟨gb, 1, none⟩ = some (.int .i64 0) := (blk_cell BX2.out 1).trans rfl; have hf1 := blk_frozen BX2.out 1; have hz2 : w2.cell? ⟨gb, 2, none⟩ = some (.int .i64 0) := (blk_cell BX2.out 2).trans rfl; have hf2 := blk_frozen BX2.out 2; have hz3 : w2.cell? ⟨gb, 3, none⟩ = some (.int .i64 0) := (blk_cell BX2.out 3).trans rfl; have hf3 := blk_frozen BX2.out 3; have hz4 : w2.cell? ⟨gb, 4, none⟩ = some (.int .i64 0) := (blk_cell BX2.out 4).trans rfl; have hf4 := blk_frozen BX2.out 4; clear hb hx))
    refine bodyPost_ret (results_cell_row rfl _ _ gb 37 #[.int .i64 x, .int .i64 0, .int .i64 0, .int .i64 0, .int .i64 0] (0, 0) _ rfl (by (with_reducible repeat (first | refine blk_drewN ?_ _ | refine blk_drew ?_ | refine blk_alloc ?_ _)); refine blk_put (cs := #[.int .i64 x, .int .i64 0, .int .i64 0, .int .i64 0, .int .i64 0]) ?_ 4 _ rfl; (with_reducible repeat (first | refine blk_drewN ?_ _ | refine blk_drew ?_ | refine blk_alloc ?_ _)); refine blk_put (cs := #[.int .i64 x, .int .i64 0, .int .i64 0, .int .i64 0, .int .i64 0]) ?_ 3 _ rfl; (with_reducible repeat (first | refine blk_drewN ?_ _ | refine blk_drew ?_ | refine blk_alloc ?_ _)); refine blk_put (cs := #[.int .i64 x, .int .i64 0, .int .i64 0, .int .i64 0, .int .i64 0]) ?_ 2 _ rfl; (with_reducible repeat (first | refine blk_drewN ?_ _ | refine blk_drew ?_ | refine blk_alloc ?_ _)); refine blk_put (cs := #[.int .i64 x, .int .i64 0, .int .i64 0, .int .i64 0, .int .i64 0]) ?_ 1 _ rfl; (with_reducible repeat (first | refine blk_drewN ?_ _ | refine blk_drew ?_ | refine blk_alloc ?_ _)); refine blk_put (cs := #[.int .i64 0, .int .i64 0, .int .i64 0, .int .i64 0, .int .i64 0]) ?_ 0 _ rfl; (with_reducible repeat (first | refine blk_drewN ?_ _ | refine blk_drew ?_ | refine blk_alloc ?_ _)); exact BX2.out) Try.underlying37 rfl (by kernel_rfl)) rfl ?_
    have H12 := HB1.out.trans (HB2.out.mono HB1.out.size)
    exact ⟨rfl, by repeat (first | exact H12 | refine below_set ?_ (Nat.le_of_eq GB.out.symm) | apply below_alloc | apply pw_below_drewN | apply below_drew1)⟩
end Go.Proofs.Ytgedkdofhonicaa.G
/- What a sort leaves in a row of balances of the call's own: words for slices.SortFunc. -/
namespace Go.Proofs.Ytgedkdofhonicaa.G
open Go.RowKit Go.Proofs.YtgedkdofhonicaaW.PrintWords Go.Proofs.YtgedkdofhonicaaW.PrintLast Go.Proofs.YtgedkdofhonicaaW.PrintMore Go.Proofs.Ytgedkdofhonicaa.PA
set_option linter.unusedVariables false
set_option linter.unusedSimpArgs false
/-- A balance whose lot is one that may be. -/
def LB : Type := { x : S37 // lotR x.f0 }
instance : Inhabited LB := ⟨⟨⟨1, 0, 0, 0, 0⟩, ⟨by decide, by decide⟩⟩⟩
def encL (x : LB) : List Value := [.int .i64 x.1.f0, .int .i64 x.1.f1, .int .i64 x.1.f2, .int .i64 x.1.f3, .int .i64 x.1.f4]
def cmpL (x y : LB) : Int := x.1.f0 - y.1.f0
theorem ltL (x y : LB) : ltOf cmpL x y = decide (x.1.f0 < y.1.f0) := by
  unfold ltOf cmpL
  by_cases h : x.1.f0 < y.1.f0
  · rw [decide_eq_true h, decide_eq_true (by omega)]
  · rw [decide_eq_false h, decide_eq_false (by omega)]
theorem swoL : Go.Sort.SWO (ltOf cmpL) where
  irrefl x := by rw [ltL]; simp
  trans x y z h1 h2 := by rw [ltL] at *; simp at *; omega
  ntrans x y z h1 h2 := by rw [ltL] at *; simp at *; omega
theorem inner_cell {w : World} {base : Nat} {ok : Nat → Prop} {xs : List S37} {inner : List Value} (h : Reps (k37.M w base ok) 5 xs inner) {i j : Nat} (hi : i < xs.length) (hj : j < 5) :
    inner[i * 5 + j]? = ([.int .i64 xs[i].f0, .int .i64 xs[i].f1, .int .i64 xs[i].f2, .int .i64 xs[i].f3, .int .i64 xs[i].f4] : List Value)[j]? := by
  have h1 := k37_openM (h.2 i _ (List.getElem?_eq_getElem hi))
  rw [← h1, List.getElem?_take_of_lt hj, List.getElem?_drop]
theorem holdsL {w : World} {base g c n : Nat} {ok : Nat → Prop} {d : List LB} (h : Kd.R k37 37 w base ok (.slice (some ⟨g, 0, none⟩) n c) (d.map (·.1))) : Go.Sort.HoldsK encL 5 w g 0 d.toArray := by
  intro t ht
  rw [Go.Sort.size_flatK, List.size_toArray] at ht
  obtain ⟨_, inner, ⟨hlen, hown⟩, hr⟩ := h
  rcases hown with ⟨h0, _⟩ | ⟨g', cap, cur, hv, hg, hb, h1, h2, h3, h4⟩
  · cases h0
  injection hv with hv1 hv2 hv3
  injection hv1 with hv1
  injection hv1 with hv1
  subst hv1
  rw [Go.Sort.get_flatK _ _ _ _ (by simpa using ht)]
  have hi : t / 5 < d.length := by omega
  have hc := inner_cell hr (i := t / 5) (by simpa using hi) (j := t % 5) (by omega)
  have hl5 : (d.map (·.1)).length * 5 = d.length * 5 := by rw [List.length_map]
  replace h4 : cur.toList.take ((d.map (·.1)).length * 5) = inner := h4
  rw [show t / 5 * 5 + t % 5 = t by omega, ← h4, List.getElem?_take_of_lt (by omega)] at hc
  refine ⟨?_, by simp [World.frozen?, hb]⟩
  simp only [World.cell?, hb, Nat.zero_add, Option.isSome_none, Bool.false_eq_true, if_false]
  rw [← Array.getElem?_toList, hc]
  have e : (d.toArray[t / 5]!) = d[t / 5] := by simp [hi]
  rw [e]
  simp only [id, encL, List.getElem_map]
  have h5 : t % 5 = 0 ∨ t % 5 = 1 ∨ t % 5 = 2 ∨ t % 5 = 3 ∨ t % 5 = 4 := by omega
  rcases h5 with q | q | q | q | q <;> rw [q] <;> rfl
theorem heap_sortedK {w : World} {g n : Nat} {os : Array Obj} {cur : Array Value} {e : TypeId} {fr : Nat × Nat} (d : Array LB) (hb : w.heap[g]? = some (.cells cur e fr)) :
    (sortWorldK encL 5 w g 0 n d os).heap[g]? = some (.cells (Go.Sort.putCells id 0 (Go.Sort.flatK encL 5 d) cur) e fr) := by
  have hg : g < w.heap.size := (Array.getElem?_eq_some_iff.1 hb).1
  unfold sortWorldK Go.Sort.putRowK
  rw [Go.Sort.heap_grow_old _ _ (by simpa using hg)]
  simp [Go.Sort.putRow, Go.Sort.mapBlock, Go.Sort.ahead, Array.getElem?_modify, hb, Go.Sort.onCells]
theorem grownBy_sortedK {w : World} {g n : Nat} {os : Array Obj} (d : Array LB) : w.grownBy (sortWorldK encL 5 w g 0 n d os) (some g) := by
  refine ⟨rfl, rfl, rfl, by simp [sortWorldK, Go.Sort.putRowK], fun k hk hne => ?_⟩
  unfold sortWorldK Go.Sort.putRowK
  rw [Go.Sort.heap_grow_old _ _ (by simpa using hk)]
  have : g ≠ k := fun e => hne (by rw [e])
  simp [Go.Sort.putRow, Go.Sort.mapBlock, Go.Sort.ahead, Array.getElem?_modify, this]
theorem R_sortedL {w : World} {base g c n m : Nat} {os : Array Obj} {ok : Nat → Prop} {d : List LB} (h : Kd.R k37 37 w base ok (.slice (some ⟨g, 0, none⟩) n c) (d.map (·.1))) (d' : Array LB) (hs : d'.size = d.length) :
    Kd.R k37 37 (sortWorldK encL 5 w g 0 m d' os) base ok (.slice (some ⟨g, 0, none⟩) n c) (d'.toList.map (·.1)) := by
  obtain ⟨hk, inner, ⟨hlen, hown⟩, hr⟩ := h
  rcases hown with ⟨h0, _⟩ | ⟨g', cap, cur, hv, hg, hb, h1, h2, h3, h4⟩
  · cases h0
  injection hv with hv1 hv2 hv3
  injection hv1 with hv1
  injection hv1 with hv1
  subst hv1; subst hv3
  have hll : (d'.toList.map (·.1)).length = (d.map (·.1)).length := by simp [hs]
  have hl2 : (d.map (·.1)).length = d.length := List.length_map _
  refine ⟨hk, (Go.Sort.flatK encL 5 d').toList, ⟨?_, .inr ⟨g, c, _, by rw [hll, hv2], hg, heap_sortedK _ hb, by omega, h2, ?_, ?_⟩⟩, ?_, ?_⟩
  · show _ = _ * 5
    rw [hll, hl2, Array.length_toList, Go.Sort.size_flatK, hs]
  · show _ = c * 5
    rw [← (show cur.size = c * 5 from h3)]
    simp [Go.Sort.putCells]
  · have h3' : cur.size = c * 5 := h3
    show List.take (_ * 5) _ = _
    apply List.ext_getElem?
    intro j
    by_cases hj : j < d.length * 5
    · rw [List.getElem?_take_of_lt (by omega), Array.getElem?_toList, Array.getElem?_toList]
      simp [Go.Sort.putCells, hs, hj, show j < cur.size by omega]
    · rw [List.getElem?_take_eq_none (by omega), List.getElem?_eq_none (by simp [hs]; omega)]
  · show _ = _ * 5
    rw [hll, hl2, Array.length_toList, Go.Sort.size_flatK, hs]
  · intro i p hp
    obtain ⟨hi, hp⟩ := List.getElem?_eq_some_iff.1 hp
    have hi' : i < d'.size := by simpa using hi
    have e : ((Go.Sort.flatK encL 5 d').toList.drop (i * 5)).take 5 = [.int .i64 p.f0, .int .i64 p.f1, .int .i64 p.f2, .int .i64 p.f3, .int .i64 p.f4] := by
      apply List.ext_getElem?
      intro j
      by_cases hj : j < 5
      · rw [List.getElem?_take_of_lt hj, List.getElem?_drop, Array.getElem?_toList, Array.getElem?_eq_getElem (by simp; omega), ← getElem!_pos _ _ (by simp; omega), Go.Sort.get_flatK _ _ _ _ (by omega), show (i * 5 + j) / 5 = i by omega, show (i * 5 + j) % 5 = j by omega]
        have e2 : d'[i]!.1 = p := by rw [← hp]; simp [hi']
        have h5 : j = 0 ∨ j = 1 ∨ j = 2 ∨ j = 3 ∨ j = 4 := by omega
        rcases h5 with rfl | rfl | rfl | rfl | rfl <;> simp [encL, e2]
      · rw [List.getElem?_take_eq_none (by omega), List.getElem?_eq_none (by simp; omega)]
    exact e ▸ k37_mkM _ _ _ p
end Go.Proofs.Ytgedkdofhonicaa.G
/- The step of a range over the map from lots to variables, and the comparison of two balances by lot. -/
namespace Go.Proofs.Ytgedkdofhonicaa.G
open Go.RowKit Go.Proofs.YtgedkdofhonicaaW.PrintWords Go.Proofs.YtgedkdofhonicaaW.PrintLast Go.Proofs.YtgedkdofhonicaaW.PrintMore Go.Proofs.Ytgedkdofhonicaa.PA
set_option linter.unusedVariables false
set_option linter.unusedSimpArgs false
theorem ptrR_shape (v : Value) (y : DataW Unit × List MemPlace) (h : ptrR v = some y) : ∃ c : Option Nat, v = ptrV c := by
  unfold ptrR at h
  split at h
  · rename_i b; exact ⟨some b, rfl⟩
  · exact ⟨none, rfl⟩
  · cases h
section
variable {ops : Array Oper} {rest : List Oper} {o : Oper} {a : Act} {Q : Exit → Act → World → Prop}
theorem wp_nextP {w : World} {b r n cnt : Nat} {D : DataW Unit} {left : Lit → Bool} {f : Int → Option Nat} (hat : ∀ x z, D.atKey (.int .i64 x) z = ptrZ z (f x)) (h : w.ranges Try.prog 3 ptrR b r n D left cnt) (hg : o.guard = none) (it : Operand) (hop : o.op = Op.next it false) (hit : a.eval it = .pointer (some ⟨r, 0, none⟩))
    (hDone : (∀ kl, left kl = false) → wpList Try.prog ops Q rest (a.put o.dst (.tuple #[.bool false])) w)
    (hMore : ∀ (x : Int) (c : Nat) (w' : World) (cnt' : Nat), f x = some c → left (.int .i64 x) = true → w'.ranges Try.prog 3 ptrR b r n D (fun z => left z && !z.sameKey (.int .i64 x)) cnt' → cnt' < cnt → w.grownBy w' (some r) → w'.heap.size = w.heap.size →
      (Instr.entry (.pointer (some ⟨r, 0, none⟩))).run Try.prog w' = .ok (.tuple #[.int .i64 x, .pointer (some ⟨c, 0, none⟩)]) w' → wpList Try.prog ops Q rest (a.put o.dst (.tuple #[.bool true, .int .i64 x, .pointer (some ⟨c, 0, none⟩)])) w') :
    wpList Try.prog ops Q (o :: rest) a w := by
  refine wpList_next_ranges (α := Int) (β := Option Nat) w hg it hop 3 keyed3 ptrR (Value.int .i64) ptrV ?_ ptrR_shape b r n D left cnt hit h (fun _ hl => hDone hl) ?_
  · intro key kl hk
    obtain ⟨x, rfl, _⟩ := Maps.keyOf_int_inv Try.underlying3 hk
    exact ⟨x, rfl⟩
  · intro x c kl y w' cnt' hkey hlk hv hat' hrg hlt hgr hsz hen
    obtain ⟨x', ex, rfl, hwx⟩ := Maps.keyOf_int_inv Try.underlying3 hkey
    cases ex
    rw [ptrR_V] at hv
    injection hv with hv
    subst hv
    cases hfx : f x with
    | none =>
      have h1 := hat' (.lit (.bool true)); have h2 := hat' (.lit (.bool false))
      rw [hat, hfx] at h1 h2
      have h3 := h1.trans h2.symm
      simp [ptrZ] at h3
    | some d =>
      have h1 := hat' .nil
      rw [hat, hfx] at h1
      cases c with
      | none => simp [ptrZ, ptrD] at h1
      | some c' =>
        simp only [ptrZ, ptrD, DataW.lit.injEq, Lit.int.injEq, Int.natCast_inj, true_and] at h1
        subst h1
        exact hMore x d w' cnt' hfx hlk hrg hlt hgr hsz hen
end
theorem ranges_cnt {w : World} {b r n cnt : Nat} {D : DataW Unit} {left : Lit → Bool} (h : w.ranges Try.prog 3 ptrR b r n D left cnt) : cnt ≤ n := by
  obtain ⟨es, clock, since, seen, c0, _, _, hs, _, _, _, hc, _⟩ := h
  rw [← hc]
  refine Nat.le_trans ?_ hs
  unfold leftOf
  exact Array.size_filter_le
set_option maxHeartbeats 1000000 in
theorem closure46 (x y : LB) (W : World) : Calls Try.prog 46 #[.agg #[.int .i64 x.1.f0, .int .i64 x.1.f1, .int .i64 x.1.f2, .int .i64 x.1.f3, .int .i64 x.1.f4], .agg #[.int .i64 y.1.f0, .int .i64 y.1.f1, .int .i64 y.1.f2, .int .i64 y.1.f3, .int .i64 y.1.f4]] W
    fun e w' => e = .returned (.int .i64 (cmpL x y)) ∧ ∃ q os', w' = Go.Sort.grow (W.drewN q) os' := by
  have hw : wrap64 (x.1.f0 - y.1.f0) = cmpL x y := by
    have h1 := x.2.lo; have h2 := x.2.hi; have h3 := y.2.lo; have h4 := y.2.hi
    unfold wrap64 cmpL
    omega
  have hu37 := Try.underlying37; have HW := Aside0.mk hw; clear hw
  go_enter Try.func46, Try.ntmps46
  go_wp2
  go_ret
  exact ⟨by first | rfl | (rw [HW.out]; rfl), 0, _, by rw [Go.Sort.alloc_eq_grow, Go.Sort.alloc_eq_grow, Go.Sort.grow_grow]; rfl⟩
end Go.Proofs.Ytgedkdofhonicaa.G
/- The library's slices.SortFunc and slices.Sort at this program (written by the kit's lay-plain.mjs). -/
namespace Go.Proofs
open Go.Shelf
def Ytgedkdofhonicaa.S.sortF_ren : Go.Shelf.Ren := ⟨fun | 6 => 45 | 15 => 48 | 14 => 54 | 28 => 64 | 29 => 65 | 20 => 66 | 21 => 67 | 22 => 68 | 23 => 69 | 24 => 70 | 25 => 71 | 26 => 72 | 27 => 73 | 46 => 80 | 47 => 75 | 48 => 76 | 49 => 81 | 50 => 82 | 57 => 84 | n => n, fun | 22 => 41 | 24 => 37 | 25 => 84 | 3 => 3 | 39 => 87 | 0 => 0 | 53 => 100 | 55 => 102 | 4 => 4 | 46 => 92 | 45 => 91 | 50 => 97 | 5 => 5 | 9 => 9 | 66 => 108 | 70 => 82 | 76 => 116 | 77 => 117 | n => n, fun | n => n⟩
theorem Ytgedkdofhonicaa.S.sortF : Go.Proofs.SlLaysF0.n6 Try.prog Ytgedkdofhonicaa.S.sortF_ren := {
  mixed := by kernel_rfl
  f6 := ⟨Try.f45.name, by decide, Try.func45.trans (congrArg some (by kernel_rfl))⟩
  f14 := ⟨Try.f54.name, by decide, Try.func54.trans (congrArg some (by kernel_rfl))⟩
  f15 := Try.func48.trans (congrArg some (by kernel_rfl))
  f20 := ⟨Try.f66.name, by decide, Try.func66.trans (congrArg some (by kernel_rfl))⟩
  f21 := ⟨Try.f67.name, by decide, Try.func67.trans (congrArg some (by kernel_rfl))⟩
  f22 := ⟨Try.f68.name, by decide, Try.func68.trans (congrArg some (by kernel_rfl))⟩
  f23 := ⟨Try.f69.name, by decide, Try.func69.trans (congrArg some (by kernel_rfl))⟩
  f24 := ⟨Try.f70.name, by decide, Try.func70.trans (congrArg some (by kernel_rfl))⟩
  f25 := ⟨Try.f71.name, by decide, Try.func71.trans (congrArg some (by kernel_rfl))⟩
  f26 := ⟨Try.f72.name, by decide, Try.func72.trans (congrArg some (by kernel_rfl))⟩
  f27 := ⟨Try.f73.name, by decide, Try.func73.trans (congrArg some (by kernel_rfl))⟩
  f28 := Try.func64.trans (congrArg some (by kernel_rfl))
  f29 := Try.func65.trans (congrArg some (by kernel_rfl))
  f46 := ⟨Try.f80.name, by decide, Try.func80.trans (congrArg some (by kernel_rfl))⟩
  f47 := Try.func75.trans (congrArg some (by kernel_rfl))
  f48 := Try.func76.trans (congrArg some (by kernel_rfl))
  f49 := ⟨Try.f81.name, by decide, Try.func81.trans (congrArg some (by kernel_rfl))⟩
  f50 := ⟨Try.f82.name, by decide, Try.func82.trans (congrArg some (by kernel_rfl))⟩
  f57 := ⟨Try.f84.name, by decide, Try.func84.trans (congrArg some (by kernel_rfl))⟩
  t0 := Try.underlying0
  a0 := Try.isAgg0
  z0 := Try.sizeOf0
  v0 := Try.zeroValue0
  t3 := Try.underlying3
  a3 := Try.isAgg3
  z3 := Try.sizeOf3
  v3 := Try.zeroValue3
  t4 := Try.underlying4
  a4 := Try.isAgg4
  z4 := Try.sizeOf4
  v4 := Try.zeroValue4
  t5 := Try.underlying5
  a5 := Try.isAgg5
  z5 := Try.sizeOf5
  v5 := Try.zeroValue5
  t9 := Try.underlying9
  a9 := Try.isAgg9
  z9 := Try.sizeOf9
  v9 := Try.zeroValue9
  t22 := Try.underlying41
  a22 := Try.isAgg41
  z22 := Try.sizeOf41
  v22 := Try.zeroValue41
  t25 := Try.underlying84
  a25 := Try.isAgg84
  z25 := Try.sizeOf84
  v25 := Try.zeroValue84
  t39 := Try.underlying87
  a39 := Try.isAgg87
  z39 := Try.sizeOf87
  v39 := Try.zeroValue87
  t45 := Try.underlying91
  a45 := Try.isAgg91
  z45 := Try.sizeOf91
  v45 := Try.zeroValue91
  t46 := Try.underlying92
  a46 := Try.isAgg92
  z46 := Try.sizeOf92
  v46 := Try.zeroValue92
  t50 := Try.underlying97
  a50 := Try.isAgg97
  z50 := Try.sizeOf97
  v50 := Try.zeroValue97
  t53 := Try.underlying100
  a53 := Try.isAgg100
  z53 := Try.sizeOf100
  v53 := Try.zeroValue100
  t55 := Try.underlying102
  a55 := Try.isAgg102
  z55 := Try.sizeOf102
  v55 := Try.zeroValue102
  t66 := Try.underlying108
  a66 := Try.isAgg108
  z66 := Try.sizeOf108
  v66 := Try.zeroValue108
  t70 := Try.underlying82
  a70 := Try.isAgg82
  z70 := Try.sizeOf82
  v70 := Try.zeroValue82
  t76 := Try.underlying116
  a76 := Try.isAgg116
  z76 := Try.sizeOf116
  v76 := Try.zeroValue116
  t77 := Try.underlying117
  a77 := Try.isAgg117
  z77 := Try.sizeOf117
  v77 := Try.zeroValue117 }
def Ytgedkdofhonicaa.S.sortM_ren : Go.Shelf.Ren := ⟨fun | 5 => 33 | 8 => 48 | 7 => 47 | 19 => 64 | 20 => 65 | 10 => 55 | 11 => 56 | 12 => 57 | 13 => 58 | 14 => 59 | 15 => 60 | 16 => 61 | 17 => 62 | 18 => 63 | 30 => 74 | 31 => 75 | 32 => 76 | 33 => 77 | 34 => 78 | 35 => 79 | 40 => 83 | n => n, fun | 23 => 22 | 25 => 3 | 3 => 3 | 32 => 87 | 22 => 22 | 0 => 0 | 44 => 100 | 46 => 102 | 4 => 4 | 36 => 92 | 35 => 91 | 41 => 97 | 5 => 5 | 9 => 9 | 53 => 108 | 57 => 82 | 63 => 116 | 64 => 117 | n => n, fun | n => n⟩
theorem Ytgedkdofhonicaa.S.sortM : Go.Proofs.SlLaysM.n5 Try.prog Ytgedkdofhonicaa.S.sortM_ren := {
  mixed := by kernel_rfl
  f5 := ⟨Try.f33.name, by decide, Try.func33.trans (congrArg some (by kernel_rfl))⟩
  f7 := ⟨Try.f47.name, by decide, Try.func47.trans (congrArg some (by kernel_rfl))⟩
  f8 := Try.func48.trans (congrArg some (by kernel_rfl))
  f10 := ⟨Try.f55.name, by decide, Try.func55.trans (congrArg some (by kernel_rfl))⟩
  f11 := ⟨Try.f56.name, by decide, Try.func56.trans (congrArg some (by kernel_rfl))⟩
  f12 := ⟨Try.f57.name, by decide, Try.func57.trans (congrArg some (by kernel_rfl))⟩
  f13 := ⟨Try.f58.name, by decide, Try.func58.trans (congrArg some (by kernel_rfl))⟩
  f14 := ⟨Try.f59.name, by decide, Try.func59.trans (congrArg some (by kernel_rfl))⟩
  f15 := ⟨Try.f60.name, by decide, Try.func60.trans (congrArg some (by kernel_rfl))⟩
  f16 := ⟨Try.f61.name, by decide, Try.func61.trans (congrArg some (by kernel_rfl))⟩
  f17 := ⟨Try.f62.name, by decide, Try.func62.trans (congrArg some (by kernel_rfl))⟩
  f18 := ⟨Try.f63.name, by decide, Try.func63.trans (congrArg some (by kernel_rfl))⟩
  f19 := Try.func64.trans (congrArg some (by kernel_rfl))
  f20 := Try.func65.trans (congrArg some (by kernel_rfl))
  f30 := ⟨Try.f74.name, by decide, Try.func74.trans (congrArg some (by kernel_rfl))⟩
  f31 := Try.func75.trans (congrArg some (by kernel_rfl))
  f32 := Try.func76.trans (congrArg some (by kernel_rfl))
  f33 := ⟨Try.f77.name, by decide, Try.func77.trans (congrArg some (by kernel_rfl))⟩
  f34 := ⟨Try.f78.name, by decide, Try.func78.trans (congrArg some (by kernel_rfl))⟩
  f35 := ⟨Try.f79.name, by decide, Try.func79.trans (congrArg some (by kernel_rfl))⟩
  f40 := ⟨Try.f83.name, by decide, Try.func83.trans (congrArg some (by kernel_rfl))⟩
  t0 := Try.underlying0
  a0 := Try.isAgg0
  z0 := Try.sizeOf0
  v0 := Try.zeroValue0
  t3 := Try.underlying3
  a3 := Try.isAgg3
  z3 := Try.sizeOf3
  v3 := Try.zeroValue3
  t4 := Try.underlying4
  a4 := Try.isAgg4
  z4 := Try.sizeOf4
  v4 := Try.zeroValue4
  t5 := Try.underlying5
  a5 := Try.isAgg5
  z5 := Try.sizeOf5
  v5 := Try.zeroValue5
  t9 := Try.underlying9
  a9 := Try.isAgg9
  z9 := Try.sizeOf9
  v9 := Try.zeroValue9
  t22 := Try.underlying22
  a22 := Try.isAgg22
  z22 := Try.sizeOf22
  v22 := Try.zeroValue22
  t23 := Try.underlying22
  a23 := Try.isAgg22
  z23 := Try.sizeOf22
  v23 := Try.zeroValue22
  t25 := Try.underlying3
  a25 := Try.isAgg3
  z25 := Try.sizeOf3
  v25 := Try.zeroValue3
  t32 := Try.underlying87
  a32 := Try.isAgg87
  z32 := Try.sizeOf87
  v32 := Try.zeroValue87
  t35 := Try.underlying91
  a35 := Try.isAgg91
  z35 := Try.sizeOf91
  v35 := Try.zeroValue91
  t36 := Try.underlying92
  a36 := Try.isAgg92
  z36 := Try.sizeOf92
  v36 := Try.zeroValue92
  t41 := Try.underlying97
  a41 := Try.isAgg97
  z41 := Try.sizeOf97
  v41 := Try.zeroValue97
  t44 := Try.underlying100
  a44 := Try.isAgg100
  z44 := Try.sizeOf100
  v44 := Try.zeroValue100
  t46 := Try.underlying102
  a46 := Try.isAgg102
  z46 := Try.sizeOf102
  v46 := Try.zeroValue102
  t53 := Try.underlying108
  a53 := Try.isAgg108
  z53 := Try.sizeOf108
  v53 := Try.zeroValue108
  t57 := Try.underlying82
  a57 := Try.isAgg82
  z57 := Try.sizeOf82
  v57 := Try.zeroValue82
  t63 := Try.underlying116
  a63 := Try.isAgg116
  z63 := Try.sizeOf116
  v63 := Try.zeroValue116
  t64 := Try.underlying117
  a64 := Try.isAgg117
  z64 := Try.sizeOf117
  v64 := Try.zeroValue117 }
end Go.Proofs
/- slices.SortFunc at balances: the row of the call's own holds what it held, in some order. -/
namespace Go.Proofs.Ytgedkdofhonicaa.G
open Go.RowKit Go.Proofs.YtgedkdofhonicaaW.PrintWords Go.Proofs.YtgedkdofhonicaaW.PrintLast Go.Proofs.YtgedkdofhonicaaW.PrintMore Go.Proofs.Ytgedkdofhonicaa.PA
set_option linter.unusedVariables false
set_option linter.unusedSimpArgs false
theorem sort45_none (w : World) : Calls Try.prog 45 #[.slice none 0 0, .func (.func 46) #[] #[]] w fun e w' => e = .returned (.tuple #[]) ∧ w' = w :=
  AnyF.slices_SortFunc_none Ytgedkdofhonicaa.S.sortF none 0 (.func (.func 46) #[] #[]) w
theorem sort45 {w : World} {base g c : Nat} {ok : Nat → Prop} {d : List LB} (hd : d.length < 4611686018427387904) (h : Kd.R k37 37 w base ok (.slice (some ⟨g, 0, none⟩) d.length c) (d.map (·.1))) :
    Calls Try.prog 45 #[.slice (some ⟨g, 0, none⟩) d.length c, .func (.func 46) #[] #[]] w fun e w' => e = .returned (.tuple #[]) ∧ ∃ d' : List LB, d'.Perm d ∧ Kd.R k37 37 w' base ok (.slice (some ⟨g, 0, none⟩) d.length c) (d'.map (·.1)) ∧ w.grownBy w' (some g) := by
  have eg : ∀ args w, (callFunc 46 args).run Try.prog w = .ok (.enter 46 args) w := enters_of Try.func46 (by kernel_rfl) rfl
  have hg : g < w.heap.size := by
    obtain ⟨inner, ho⟩ := Kd.R_own h
    exact own_lt ho g rfl
  have hcmp : CmpLays Try.prog 46 #[] encL 5 cmpL g 0 d.toArray.size w := fun _ _ _ _ x y => closure46 x y _
  have hcon := AnyQ.slices_SortFunc Ytgedkdofhonicaa.S.sortF 5 (fun _ => by kernel_rfl) (fun _ => by kernel_rfl) encL (fun _ => rfl) (fun x v hv => by simp [encL] at hv; rcases hv with rfl | rfl | rfl | rfl | rfl <;> rfl) cmpL swoL 46 #[] g 0 c d.toArray w eg hcmp (holdsL h) hg (by simpa using hd)
  rw [List.size_toArray] at hcon
  refine hcon.mono ?_
  rintro e w' ⟨he, d', n, os, ⟨hs, _, hp⟩, _, rfl⟩
  have hs' : d'.size = d.length := by simpa using hs
  refine ⟨he, d'.toList, ?_, R_sortedL h d' hs', grownBy_sortedK d'⟩
  rw [← hs', Array.extract_size] at hp
  simpa [hs'] using hp
end Go.Proofs.Ytgedkdofhonicaa.G
/- The contract by hand of (*books).all, over that of the sort. -/
namespace Go.Proofs.Ytgedkdofhonicaa.G
open Go.RowKit Go.Proofs.YtgedkdofhonicaaW.PrintWords Go.Proofs.YtgedkdofhonicaaW.PrintLast Go.Proofs.YtgedkdofhonicaaW.PrintMore Go.Proofs.Ytgedkdofhonicaa.PA
set_option linter.unusedVariables false
set_option linter.unusedSimpArgs false
def balS (x : Int) (b : Bal) : S37 := ⟨x, b.o, b.s, b.p, b.r⟩
def mkL (x : Int) (b : Bal) (h : lotR x) : LB := ⟨balS x b, h⟩
/-- What all hands back, in some order. -/
structure AllOf (f : Int → Option Nat) (bal : Int → Bal) (bs : List S37) : Prop where
  each : ∀ b, b ∈ bs → f b.f0 ≠ none ∧ b = balS b.f0 (bal b.f0)
  any : ∀ x, f x ≠ none → ∃ b, b ∈ bs ∧ b.f0 = x
/-- .. while the range is under way. -/
structure AllTo (f : Int → Option Nat) (bal : Int → Bal) (left : Lit → Bool) (bs : List LB) : Prop where
  each : ∀ b, b ∈ bs → f b.1.f0 ≠ none ∧ b.1 = balS b.1.f0 (bal b.1.f0)
  any : ∀ x, f x ≠ none → left (.int .i64 x) = true ∨ ∃ b, b ∈ bs ∧ b.1.f0 = x
theorem AllTo.start {f : Int → Option Nat} {bal : Int → Bal} {D : DataW Unit} (hat : ∀ x z, D.atKey (.int .i64 x) z = ptrZ z (f x)) : AllTo f bal (Maps.has D) [] :=
  ⟨fun b hb => (by cases hb), fun x hx => .inl (by
    cases hfx : f x with
    | none => exact absurd hfx hx
    | some c => exact Maps.has_true_of_atKey (y := .lit (.int .u64 c)) (fun z => by rw [hat, hfx]; rfl))⟩
theorem AllTo.step {f : Int → Option Nat} {bal : Int → Bal} {left : Lit → Bool} {bs : List LB} (h : AllTo f bal left bs) {x : Int} (hx : f x ≠ none) (hl : lotR x) : AllTo f bal (fun z => left z && !z.sameKey (.int .i64 x)) (bs ++ [mkL x (bal x) hl]) :=
  ⟨fun b hb => by
    rcases List.mem_append.1 hb with hb | hb
    · exact h.each b hb
    · rw [List.mem_singleton.1 hb]
      exact ⟨hx, rfl⟩,
   fun y hy => by
    rcases h.any y hy with hl2 | ⟨b, hb, e⟩
    · by_cases hxy : y = x
      · exact .inr ⟨_, List.mem_append_right _ (List.mem_singleton.2 rfl), hxy.symm⟩
      · refine .inl ?_
        show (left _ && !_) = true
        rw [hl2]
        simp [Lit.sameKey, hxy]
    · exact .inr ⟨b, List.mem_append_left _ hb, e⟩⟩
theorem AllTo.done {f : Int → Option Nat} {bal : Int → Bal} {left : Lit → Bool} {bs : List LB} (h : AllTo f bal left bs) (hl : ∀ kl, left kl = false) {bs' : List LB} (hp : bs'.Perm bs) : AllOf f bal (bs'.map (·.1)) :=
  ⟨fun b hb => by
    obtain ⟨b', hb', rfl⟩ := List.mem_map.1 hb
    exact h.each b' (hp.mem_iff.1 hb'),
   fun x hx => by
    rcases h.any x hx with h1 | ⟨b, hb, e⟩
    · rw [hl] at h1; cases h1
    · exact ⟨b.1, List.mem_map.2 ⟨b, hp.mem_iff.2 hb, rfl⟩, e⟩⟩
theorem R_shape {w : World} {base : Nat} {ok : Nat → Prop} {v : Value} {xs : List S37} (h : Kd.R k37 37 w base ok v xs) : (v = .slice none 0 0 ∧ xs = []) ∨ ∃ g c, v = .slice (some ⟨g, 0, none⟩) xs.length c ∧ ok g ∧ base ≤ g ∧ xs.length ≤ c := by
  obtain ⟨h0, inner, ⟨_, ho⟩, _⟩ := h
  rcases ho with ⟨h1, h2⟩ | ⟨g, cap, cur, hv, hg, hb, h1, _⟩
  · exact .inl ⟨h1, List.eq_nil_of_length_eq_zero h2⟩
  · exact .inr ⟨g, cap, hv, h0 g (by rw [hv]; rfl), hg, h1⟩
set_option maxHeartbeats 4000000 in
set_option maxRecDepth 100000 in
theorem all_calls {W : World} {base g m1 m2 n : Nat} {f : Int → Option Nat} {bal : Int → Bal} {rev : Int → Bool} {A : Option Addr} {c : Nat} {es : List S26} (h : Books W base g m1 m2 n f bal rev A c es) (hn : n ≤ 100000) :
    Calls Try.prog 32 #[.pointer (some ⟨g, 0, none⟩)] W fun e w' => ∃ v bs, e = .returned v ∧ Kd.R k37 37 w' W.heap.size (fun _ => True) v bs ∧ Below W.heap.size W w' ∧ AllOf f bal bs ∧ bs.length ≤ n := by
  have hu62 := Try.underlying62; have hu37 := Try.underlying37; have hu41 := Try.underlying41; obtain ⟨D, hD, hat, hlot⟩ := h.lots; have hc0 : W.cell? ⟨g, 0, none⟩ = some (.map (some m1)) := (blk_cell h.cell 0).trans rfl; have hf0 := blk_frozen h.cell 0; have hm1 : m1 < W.heap.size := h.lots.lt; have HBK := Aside0.mk h; have HN := Aside0.mk hn; have HAT := Aside0.mk hat; have HLOT := Aside0.mk hlot; clear h hn hat hlot
  go_enter Try.func32, Try.ntmps32
  go_wp2_with (first
    | (at_range; refine wpList_range_own _ rfl _ 59 rfl 3 63 keyed3 Try.underlying59 ptrR m1 n D rfl hD ?_; intro w0 hrg0 hg0 hs0)
    | go_in)
  go_frame
  have HCNT := Aside0.mk (ranges_cnt hrg0)
  go_loopw [3] (fun v wr => ∃ (left : Lit → Bool) (cnt : Nat) (bs : List LB), wr.ranges Try.prog 3 ptrR m1 W.heap.size n D left cnt ∧ Aside0 (Kd.R k37 37 wr W.heap.size (fun k => k ≠ W.heap.size) v (bs.map (·.1))) ∧ Aside0 (AllTo f bal left bs) ∧ Aside0 (bs.length + cnt ≤ n) ∧ Aside0 (Below W.heap.size W wr) ∧ Aside0 (W.heap.size < wr.heap.size))
    (fun _ wr => wr.rangeLeft m1 W.heap.size)
  case atStart =>
    exact ⟨_, _, [], hrg0, ⟨Kd.R_nil _ _ _ _ _⟩, ⟨AllTo.start HAT.out⟩, ⟨by have := HCNT.out; simpa using this⟩, ⟨pw_below_grown (Below.refl _ _) none (Nat.le_refl _) hg0 (fun k hk => by cases hk)⟩, ⟨by omega⟩⟩
  case round =>
    obtain ⟨left, cnt, bs, hrg, HR, HA, HL, HB, HS⟩ := hrel; clear hD hrg0 hg0 hc0 hf0
    go_wp2_with (first
      | (at_next; refine wp_nextP HAT.out hrg rfl _ rfl rfl ?_ ?_)
      | go_in)
    · intro hl0
      have HDN := Aside0.mk hl0; clear hrg hl0
      rcases R_shape HR.out with ⟨hv, hx⟩ | ⟨g1, c1, hv, hok, hge, hcap⟩
      · subst hv
        have hnil : bs = [] := by simpa using hx
        subst hnil
        go_wp2_with (first
          | ((with_reducible refine gate_callee (f := 45) rfl ?_); refine goesL_ (some 22) rfl rfl Try.func45 (by kernel_rfl) rfl #[.slice none 0 0, .func (.func 46) #[] #[]] rfl (by (try simp only [List.map_toArray, List.map_cons, List.map_nil]); first | done | rfl) ?_; refine (sort45_none _).mono ?_; rintro _ w2 ⟨rfl, rfl⟩; refine ⟨_, rfl, ?_⟩))
        go_ret
        exact ⟨_, [], rfl, Kd.R_nil _ _ _ _ _, HB.out, HA.out.done HDN.out (List.Perm.refl []), Nat.zero_le _⟩
      · rw [List.length_map] at hv
        subst hv; have HOK := Aside0.mk hok; have HGE := Aside0.mk hge; clear hok hge hcap
        go_wp2_with (first
          | ((with_reducible refine gate_callee (f := 45) rfl ?_); refine goesL_ (some 22) rfl rfl Try.func45 (by kernel_rfl) rfl #[.slice (some ⟨g1, 0, none⟩) bs.length c1, .func (.func 46) #[] #[]] rfl (by (try simp only [List.map_toArray, List.map_cons, List.map_nil]); first | done | rfl) ?_; refine (sort45 (by have := HL.out; have := HN.out; omega) HR.out).mono ?_; rintro _ w2 ⟨rfl, d', hp, hr2, hg2⟩; refine ⟨_, rfl, ?_⟩; have HP := Aside0.mk hp; have HR2 := Aside0.mk hr2; have HG2 := Aside0.mk hg2; clear hp hr2 hg2))
        go_ret
        exact ⟨_, d'.map (·.1), rfl, Kd.R_mono HR2.out (fun _ _ => trivial), pw_below_grown HB.out (some g1) (Nat.le_of_lt HS.out) HG2.out (fun k hk => by injection hk with hk; rw [← hk]; exact HGE.out), HA.out.done HDN.out HP.out, by rw [List.length_map, HP.out.length_eq]; have := HL.out; omega⟩
    · intro x b w1 cnt1 hfx hlx hrg1 hlt hg1 hs1 hen
      have hB1 := pw_below_grown HB.out (some W.heap.size) (Nat.le_of_lt HS.out) hg1 (fun k hk => by injection hk with hk; omega); have hcell := (hB1.block b (blk_lt (HBK.out.some_ x b hfx).2)).trans (HBK.out.some_ x b hfx).2; have e0 : w1.cell? ⟨b, 0, none⟩ = some (.int .i64 x) := (blk_cell hcell 0).trans rfl; have e1 : w1.cell? ⟨b, 1, none⟩ = some (.int .i64 (bal x).o) := (blk_cell hcell 1).trans rfl; have e2 : w1.cell? ⟨b, 2, none⟩ = some (.int .i64 (bal x).s) := (blk_cell hcell 2).trans rfl; have e3 : w1.cell? ⟨b, 3, none⟩ = some (.int .i64 (bal x).p) := (blk_cell hcell 3).trans rfl; have e4 : w1.cell? ⟨b, 4, none⟩ = some (.int .i64 (bal x).r) := (blk_cell hcell 4).trans rfl; have HM := Aside0.mk (hrg.left_eq); have HR1 := Aside0.mk (Kd.R_grown HR.out hg1 (fun k hk he => hk (by injection he))); have HB1 := Aside0.mk hB1; have HRG := Aside0.mk hrg1; have HFX := Aside0.mk hfx; have HLT := Aside0.mk hlt; have HS1 := Aside0.mk hs1; clear hrg hrg1 hB1 hcell hfx hlx hlt hg1 hs1 HR HB
      go_wp2_with (first
        | (at_builtin; refine Kd.R_append k37 (w0 := W) W.heap.size rfl (.tmp 15) (.tmp 19) 41 37 (.agg #[(.int .i64 0), (.int .i64 0), (.int .i64 0), (.int .i64 0), (.int .i64 0)]) 40 rfl Try.underlying41 info37 rfl (by decide) (by omega) u3 (bs.map (·.1)) (balS x (bal x)) [.int .i64 x, .int .i64 (bal x).o, .int .i64 (bal x).s, .int .i64 (bal x).p, .int .i64 (bal x).r] (fun k => k ≠ W.heap.size) (fun _ => False) rfl rfl ?aP (fun _ hk => hk.elim) ?aF ?aO ?aB ?aS ?aL ?_; (case aP => exact k37_mkM _ _ _ (balS x (bal x))); (case aF => exact fun k hk => by have := HS.out; have := HS1.out; omega); (case aO => exact HR1.out); (case aB => exact HB1.out); (case aS => have := HS.out; have := HS1.out; omega); (case aL => rw [List.length_map]; have := HL.out; have := HN.out; omega); intro v1 w6 hR hB hg hat; have HR6 := Aside0.mk hR; have HB6 := Aside0.mk hB; have HG6 := Aside0.mk hg; clear hR hB hg hat)
        | go_in)
      have n1 : some m1 ≠ u3.ownBlock := fun he => by
        obtain ⟨inner, ho⟩ := Kd.R_own HR1.out; have := own_base ho m1 he.symm
        omega
      have n2 : some W.heap.size ≠ u3.ownBlock := fun he => HR1.out.1 _ he.symm rfl
      have HRG6 := Aside0.mk (HRG.out.kept HG6.out n1 n2); clear n1 n2 hen e0 e1 e2 e3 e4
      go_roundw
      case measure => rw [HRG6.out.left_eq, HM.out]; exact HLT.out
      case rel =>
        refine ⟨_, cnt1, bs ++ [mkL x (bal x) (HLOT.out x b HFX.out)], HRG6.out, ⟨?_⟩, ⟨HA.out.step (by rw [HFX.out]; simp) _⟩, ⟨?_⟩, ⟨HB6.out⟩, ⟨?_⟩⟩
        · rw [List.map_append]; exact HR6.out
        · rw [List.length_append, List.length_singleton]; have := HL.out; have := HLT.out; omega
        · have := HG6.out.size; have := HS.out; have := HS1.out; omega
end Go.Proofs.Ytgedkdofhonicaa.G
