/- Part 4 of the proof of guaranteeRun_holds: texts of this claim, printed and by hand, cut to what it needs (wip/tools/link.py). Lean checks every line. -/
import Derived.Test.YtakhjhiofmgpnaaKR3
-- Written by a program of this claim (wip/tools: mkprint.py, pr.sh) out of the translation: plain functions and their contracts. Lean checks every line.
namespace Go.Proofs.Ytakhjhiofmgpnaa.PB
open Go.RowKit Go.Proofs.YtakhjhiofmgpnaaW.PrintWords Go.Proofs.YtakhjhiofmgpnaaW.PrintLast Go.Proofs.YtakhjhiofmgpnaaW.PrintMore Go.Proofs.Ytakhjhiofmgpnaa.G Go.Proofs.Ytakhjhiofmgpnaa.PA
attribute [local go_sem] max2_int min2_int max_two min_two max_three min_three max_four min_four   -- for this text's walks alone
set_option linter.unusedVariables false
set_option linter.unusedSimpArgs false
def guarantee_Set.j0 : Nat → Int → Int → Int → Bool → Bool → Int → Int → Int → List (S39) → Option (Int × Int × Int × (List (S39)) × Int)
 | 0, _, _, _, _, _, _, _, _, _ => none
 | k + 1, x1, x9, x11, x12, x47, x102000, x102001, x102002, x102003 => if x47 = true then (some (0, 0, 0, ([] : List (S39)), 8)) else ((slices_Clone.f x102003).bind fun t109 => (if x12 = true then (if 0 ≤ x11 then (if x11 < (t109.length : Int) then ((some (t109.set (x11 : Int).toNat (⟨(rd_T39 t109 x11).f0, x9⟩ : S39) : List (S39))).bind fun y112 => ((guarantee_sum.f k y112).bind fun t113 => (if t113 > x102001 then (some (0, 0, 0, ([] : List (S39)), 16)) else (some (x102000, x102001, x102002, y112, 0))))) else (none)) else (none)) else ((slices_Insert.f t109 x11 (([(⟨x1, 0⟩ : S39)] : List (S39)))).bind fun t117 => (if 0 ≤ x11 then (if x11 < (t117.length : Int) then ((some (t117.set (x11 : Int).toNat (⟨(rd_T39 t117 x11).f0, x9⟩ : S39) : List (S39))).bind fun y120 => ((guarantee_sum.f k y120).bind fun t121 => (if t121 > x102001 then (some (0, 0, 0, ([] : List (S39)), 16)) else (some (x102000, x102001, x102002, y120, 0))))) else (none)) else (none)))))
def guarantee_Set.f (k : Nat) (a0_0 : Int) (a0_1 : Int) (a0_2 : Int) (l0_3 : List (S39)) (a1 : Int) (a2 : Int) : Option (Int × Int × Int × (List (S39)) × Int) := (guarantee_Validate.f k a0_0 a0_1 a0_2 l0_3).bind fun t103 => (if t103 = 0 then ((guarantee_within_int.f a1 1 1000000).bind fun t104 => (if t104 = true then ((guarantee_Required.f k a0_0 a0_1 a0_2 l0_3 a2).bind fun bt105 => (if bt105.2 = 0 then ((guarantee_find.f l0_3 a1).bind fun bt107 => (if bt107.2 = true then (guarantee_Set.j0 k a1 bt105.1 bt107.1 bt107.2 false a0_0 a0_1 a0_2 l0_3) else (guarantee_Set.j0 k a1 bt105.1 bt107.1 bt107.2 ((l0_3.length : Int) == 64) a0_0 a0_1 a0_2 l0_3))) else (some (0, 0, 0, ([] : List (S39)), bt105.2)))) else (some (0, 0, 0, ([] : List (S39)), 2)))) else (some (0, 0, 0, ([] : List (S39)), t103)))
theorem guarantee_Set.mono_l : ∀ k, (∀ y0 y1 y2 y3 y4 y5 y6 y7 y8, LeO (guarantee_Set.j0 k y0 y1 y2 y3 y4 y5 y6 y7 y8) (guarantee_Set.j0 (k + 1) y0 y1 y2 y3 y4 y5 y6 y7 y8))
 | 0 => fun _ _ _ _ _ _ _ _ _ r h => by simp [guarantee_Set.j0] at h
 | k + 1 => by
  have ih0 := guarantee_Set.mono_l k
  ·intro y0 y1 y2 y3 y4 y5 y6 y7 y8
   unfold guarantee_Set.j0
   repeat' first
   | (with_reducible exact ih0 _ _ _ _ _ _ _ _ _)
   | (with_reducible exact guarantee_Required.mono _ _ _ _ _ _)
   | (with_reducible exact guarantee_Validate.mono _ _ _ _ _)
   | (with_reducible exact guarantee_sum.mono _ _)
   | (with_reducible exact LeO.refl _)
   | (with_reducible exact LeO.none _)
   | (with_reducible refine LeO.ite ?_ ?_)
   | (with_reducible refine LeO.bind ?_ (fun _ => ?_))
theorem guarantee_Set.mono : ∀ a0 a1 a2 a3 a4 a5 k, LeO (guarantee_Set.f k a0 a1 a2 a3 a4 a5) (guarantee_Set.f (k + 1) a0 a1 a2 a3 a4 a5) := by
 intro a0 a1 a2 a3 a4 a5 k
 have ih0 := guarantee_Set.mono_l k
 unfold guarantee_Set.f
 repeat' first
   | (with_reducible exact ih0 _ _ _ _ _ _ _ _ _)
   | (with_reducible exact guarantee_Required.mono _ _ _ _ _ _)
   | (with_reducible exact guarantee_Validate.mono _ _ _ _ _)
   | (with_reducible exact guarantee_sum.mono _ _)
   | (with_reducible exact LeO.refl _)
   | (with_reducible exact LeO.none _)
   | (with_reducible refine LeO.ite ?_ ?_)
   | (with_reducible refine LeO.bind ?_ (fun _ => ?_))
set_option maxHeartbeats 8000000 in
set_option maxRecDepth 100000 in
theorem guarantee_Set.calls (k : Nat) (a0_0 : Int) (a0_1 : Int) (a0_2 : Int) (A0_3 : Option Addr) (c0_3 : Nat) (l0_3 : List (S39)) (a1 : Int) (a2 : Int) (r1 : Int) (r2 : Int) (r3 : Int) (r4 : List (S39)) (r5 : Int) (w : World) (hr0_3 : Kd.C k39 w A0_3 l0_3.length l0_3) (hc0_3 : l0_3.length ≤ c0_3) (h : guarantee_Set.f k a0_0 a0_1 a0_2 l0_3 a1 a2 = some (r1, r2, r3, r4, r5)) :
  Calls Try.prog 19 #[.agg #[.int .i64 a0_0, .int .i64 a0_1, .int .i64 a0_2, .slice A0_3 l0_3.length c0_3], .int .i64 a1, .int .i64 a2] w fun e w' => ∃ v3_ : Value, e = .returned (.tuple #[.agg #[.int .i64 r1, .int .i64 r2, .int .i64 r3, v3_], .int .i64 r5]) ∧ Kd.R k39 39 w' w.heap.size (fun _ => True) v3_ r4 ∧ Below w.heap.size w w' := by
 have hu25 := Try.underlying25
 have hu39 := Try.underlying39
 have HR0_3 := Aside0.mk hr0_3
 have HC0_3 := Aside0.mk hc0_3
 clear hr0_3 hc0_3
 have HB := Aside0.mk (Below.refl w.heap.size w)
 have H : ((guarantee_Validate.f k a0_0 a0_1 a0_2 l0_3).bind fun t103 => (if t103 = 0 then ((guarantee_within_int.f a1 1 1000000).bind fun t104 => (if t104 = true then ((guarantee_Required.f k a0_0 a0_1 a0_2 l0_3 a2).bind fun bt105 => (if bt105.2 = 0 then ((guarantee_find.f l0_3 a1).bind fun bt107 => (if bt107.2 = true then (guarantee_Set.j0 k a1 bt105.1 bt107.1 bt107.2 false a0_0 a0_1 a0_2 l0_3) else (guarantee_Set.j0 k a1 bt105.1 bt107.1 bt107.2 ((l0_3.length : Int) == 64) a0_0 a0_1 a0_2 l0_3))) else (some (0, 0, 0, ([] : List (S39)), bt105.2)))) else (some (0, 0, 0, ([] : List (S39)), 2)))) else (some (0, 0, 0, ([] : List (S39)), t103)))) = some (r1, r2, r3, r4, r5) := h
 clear h
 replace H := Option.bind_eq_some_iff.mp H
 obtain ⟨t103, A40, H⟩ := H
 replace H : (if t103 = 0 then ((guarantee_within_int.f a1 1 1000000).bind fun t104 => (if t104 = true then ((guarantee_Required.f k a0_0 a0_1 a0_2 l0_3 a2).bind fun bt105 => (if bt105.2 = 0 then ((guarantee_find.f l0_3 a1).bind fun bt107 => (if bt107.2 = true then (guarantee_Set.j0 k a1 bt105.1 bt107.1 bt107.2 false a0_0 a0_1 a0_2 l0_3) else (guarantee_Set.j0 k a1 bt105.1 bt107.1 bt107.2 ((l0_3.length : Int) == 64) a0_0 a0_1 a0_2 l0_3))) else (some (0, 0, 0, ([] : List (S39)), bt105.2)))) else (some (0, 0, 0, ([] : List (S39)), 2)))) else (some (0, 0, 0, ([] : List (S39)), t103))) = some (r1, r2, r3, r4, r5) := H
 have A4 := Aside0.mk A40
 clear A40
 by_cases c5 : t103 = 0
 ·rw [if_pos c5] at H
  have c5b0 : (t103 == 0) = true := beq_iff_eq.mpr c5
  have c5b1 : (t103 != 0) = false := bne_eq_false_iff_eq.mpr c5
  clear c5
  replace H := Option.bind_eq_some_iff.mp H
  obtain ⟨t104, A60, H⟩ := H
  replace H : (if t104 = true then ((guarantee_Required.f k a0_0 a0_1 a0_2 l0_3 a2).bind fun bt105 => (if bt105.2 = 0 then ((guarantee_find.f l0_3 a1).bind fun bt107 => (if bt107.2 = true then (guarantee_Set.j0 k a1 bt105.1 bt107.1 bt107.2 false a0_0 a0_1 a0_2 l0_3) else (guarantee_Set.j0 k a1 bt105.1 bt107.1 bt107.2 ((l0_3.length : Int) == 64) a0_0 a0_1 a0_2 l0_3))) else (some (0, 0, 0, ([] : List (S39)), bt105.2)))) else (some (0, 0, 0, ([] : List (S39)), 2))) = some (r1, r2, r3, r4, r5) := H
  have A6 := Aside0.mk A60
  clear A60
  by_cases c7 : t104 = true
  ·subst c7
   have H1 : ((guarantee_Required.f k a0_0 a0_1 a0_2 l0_3 a2).bind fun bt105 => (if bt105.2 = 0 then ((guarantee_find.f l0_3 a1).bind fun bt107 => (if bt107.2 = true then (guarantee_Set.j0 k a1 bt105.1 bt107.1 bt107.2 false a0_0 a0_1 a0_2 l0_3) else (guarantee_Set.j0 k a1 bt105.1 bt107.1 bt107.2 ((l0_3.length : Int) == 64) a0_0 a0_1 a0_2 l0_3))) else (some (0, 0, 0, ([] : List (S39)), bt105.2)))) = some (r1, r2, r3, r4, r5) := by rw [if_pos rfl] at H; exact H
   clear H
   have H := H1
   clear H1
   replace H := Option.bind_eq_some_iff.mp H
   obtain ⟨⟨t105, t106⟩, A80, H⟩ := H
   replace H : (if t106 = 0 then ((guarantee_find.f l0_3 a1).bind fun bt107 => (if bt107.2 = true then (guarantee_Set.j0 k a1 t105 bt107.1 bt107.2 false a0_0 a0_1 a0_2 l0_3) else (guarantee_Set.j0 k a1 t105 bt107.1 bt107.2 ((l0_3.length : Int) == 64) a0_0 a0_1 a0_2 l0_3))) else (some (0, 0, 0, ([] : List (S39)), t106))) = some (r1, r2, r3, r4, r5) := H
   have A8 := Aside0.mk A80
   clear A80
   by_cases c9 : t106 = 0
   ·rw [if_pos c9] at H
    have c9b0 : (t106 == 0) = true := beq_iff_eq.mpr c9
    have c9b1 : (t106 != 0) = false := bne_eq_false_iff_eq.mpr c9
    clear c9
    replace H := Option.bind_eq_some_iff.mp H
    obtain ⟨⟨t107, t108⟩, A100, H⟩ := H
    replace H : (if t108 = true then (guarantee_Set.j0 k a1 t105 t107 t108 false a0_0 a0_1 a0_2 l0_3) else (guarantee_Set.j0 k a1 t105 t107 t108 ((l0_3.length : Int) == 64) a0_0 a0_1 a0_2 l0_3)) = some (r1, r2, r3, r4, r5) := H
    have A10 := Aside0.mk A100
    clear A100
    have HC11 := Aside0.mk H
    clear H
    go_enter Try.func19, Try.ntmps19
    go_upto_region 10 with (first | ((with_reducible refine gate_dst (N := 3) rfl ?_); refine box_event ?hg (N := 3) ?hd (cs := #[.int .i64 a0_0, .int .i64 a0_1, .int .i64 a0_2, .slice A0_3 l0_3.length c0_3]) (t := 25) ?hr ?_; (case hd => rfl); (case hg => rfl); (case hr => first | (go_simp; done) | (go_simp; rfl)); intro gb101 hg w12 hbox hb; have qb_ := below_both bel hb; have n0_ := Aside0.mk (qb_.1); have n1_ := Aside0.mk (hbox); have n2_ := Aside0.mk ((by rw [hg]; exact qb_.2 : w.heap.size ≤ gb101)); have n3_ := n2_; clear HB; have HB := n0_; have BK101 := n1_; have GW101 := n2_; have GE101 := n3_; clear qb_; clear n0_ n1_ n2_ n3_; clear hb hbox hg) | ((with_reducible refine gate_dst (N := 6) rfl ?_); refine box_event ?hg (N := 6) ?hd (cs := #[.int .i64 0, .int .i64 0, .int .i64 0, .slice none 0 0]) (t := 25) ?hr ?_; (case hd => rfl); (case hg => rfl); (case hr => first | (go_simp; done) | (go_simp; rfl)); intro gb102 hg w13 hbox hb; have qb_ := below_both bel hb; have q1_ := blk_below2 (g := gb101) (o := .cells #[.int .i64 a0_0, .int .i64 a0_1, .int .i64 a0_2, .slice A0_3 l0_3.length c0_3] 25 (0, 0)) blkx hb; have n0_ := Aside0.mk (q1_.1); have n1_ := Aside0.mk (qb_.1); have n2_ := Aside0.mk (hbox); have n3_ := Aside0.mk ((by rw [hg]; exact qb_.2 : w.heap.size ≤ gb102)); have n4_ := n3_; have n5_ := Aside0.mk ((by rw [hg]; exact Nat.ne_of_lt q1_.2 : gb101 ≠ gb102)); have n6_ := Aside0.mk (Ne.symm n5_.out); clear BK101; clear HB; have BK101 := n0_; have HB := n1_; have BK102 := n2_; have GW102 := n3_; have GE102 := n4_; have NB101_102 := n5_; have NB102_101 := n6_; clear q1_; clear qb_; clear n0_ n1_ n2_ n3_ n4_ n5_ n6_; clear hb hbox hg; have hnb14 := NB101_102.out; have hnc14 := NB102_101.out; obtain ⟨hcz15_0, hcz15_1, hcz15_2, hcz15_3, hfz15_0, hfz15_1, hfz15_2, hfz15_3⟩ := cells4 BK101.out) | ((with_reducible refine gate_callee (f := 11) rfl ?_); refine goesL_ (some 14) rfl rfl Try.func11 (by kernel_rfl) rfl #[.agg #[.int .i64 a0_0, .int .i64 a0_1, .int .i64 a0_2, .slice A0_3 l0_3.length c0_3]] rfl argx ?_; (with_reducible refine (guarantee_Validate.calls k a0_0 a0_1 a0_2 _ _ l0_3 t103 _ ?side1 ?side2 A4.out).mono ?_); (case side1 => repeat (first | exact (Kd.C_below HR0_3.out HB.out) | (with_reducible refine Kd.C_alloc ?_ _) | (with_reducible refine Kd.C_drewN ?_ _) | (with_reducible refine Kd.C_drew ?_))); (case side2 => exact HC0_3.out); rintro e w16 ⟨rfl, hb⟩; refine ⟨_, rfl, ?_⟩; have n0_ := Aside0.mk (blk_below (g := gb101) (o := .cells #[.int .i64 a0_0, .int .i64 a0_1, .int .i64 a0_2, .slice A0_3 l0_3.length c0_3] 25 (0, 0)) blkx hb); have n1_ := Aside0.mk (blk_below (g := gb102) (o := .cells #[.int .i64 0, .int .i64 0, .int .i64 0, .slice none 0 0] 25 (0, 0)) blkx hb); have n2_ := Aside0.mk (below_step bel hb); clear BK101; clear BK102; clear HB; have BK101 := n0_; have BK102 := n1_; have HB := n2_; clear n0_ n1_ n2_; (try clear hb); (try clear hb2); (try clear hk); (try clear hi)) | ((with_reducible refine gate_callee (f := 34) rfl ?_); refine goesL_ (some 20) rfl rfl Try.func34 (by kernel_rfl) rfl #[.int .i64 a1, .int .i64 1, .int .i64 1000000] rfl argx ?_; (with_reducible refine (guarantee_within_int.calls a1 1 1000000 true _ A6.out).mono ?_); rintro e w' ⟨rfl, ⟨nd, rfl⟩⟩; refine ⟨_, rfl, ?_⟩; obtain ⟨hcz17_0, hcz17_1, hcz17_2, hcz17_3, hfz17_0, hfz17_1, hfz17_2, hfz17_3⟩ := cells4 BK101.out) | ((with_reducible refine gate_callee (f := 17) rfl ?_); refine goesL_ (some 26) rfl rfl Try.func17 (by kernel_rfl) rfl #[.agg #[.int .i64 a0_0, .int .i64 a0_1, .int .i64 a0_2, .slice A0_3 l0_3.length c0_3], .int .i64 a2] rfl argx ?_; (with_reducible refine (guarantee_Required.calls k a0_0 a0_1 a0_2 _ _ l0_3 a2 t105 t106 _ ?side1 ?side2 A8.out).mono ?_); (case side1 => repeat (first | exact (Kd.C_below HR0_3.out bel) | (with_reducible refine Kd.C_alloc ?_ _) | (with_reducible refine Kd.C_drewN ?_ _) | (with_reducible refine Kd.C_drew ?_))); (case side2 => exact HC0_3.out); rintro e w18 ⟨rfl, hb⟩; refine ⟨_, rfl, ?_⟩; have n0_ := Aside0.mk (blk_below (g := gb101) (o := .cells #[.int .i64 a0_0, .int .i64 a0_1, .int .i64 a0_2, .slice A0_3 l0_3.length c0_3] 25 (0, 0)) blkx hb); have n1_ := Aside0.mk (blk_below (g := gb102) (o := .cells #[.int .i64 0, .int .i64 0, .int .i64 0, .slice none 0 0] 25 (0, 0)) blkx hb); have n2_ := Aside0.mk (below_step bel hb); clear BK101; clear BK102; clear HB; have BK101 := n0_; have BK102 := n1_; have HB := n2_; clear n0_ n1_ n2_; (try clear hb); (try clear hb2); (try clear hk); (try clear hi); obtain ⟨hcz19_0, hcz19_1, hcz19_2, hcz19_3, hfz19_0, hfz19_1, hfz19_2, hfz19_3⟩ := cells4 BK101.out) | ((with_reducible refine gate_callee (f := 37) rfl ?_); refine goesL_ (some 37) rfl rfl Try.func37 (by kernel_rfl) rfl #[.slice A0_3 l0_3.length c0_3, .int .i64 a1] rfl argx ?_; (with_reducible refine (guarantee_find.calls _ _ l0_3 a1 t107 t108 _ ?side1 ?side2 A10.out).mono ?_); (case side1 => repeat (first | exact (Kd.C_below HR0_3.out HB.out) | (with_reducible refine Kd.C_alloc ?_ _) | (with_reducible refine Kd.C_drewN ?_ _) | (with_reducible refine Kd.C_drew ?_))); (case side2 => exact HC0_3.out); rintro e w20 ⟨rfl, hb⟩; refine ⟨_, rfl, ?_⟩; have n0_ := Aside0.mk (blk_below (g := gb101) (o := .cells #[.int .i64 a0_0, .int .i64 a0_1, .int .i64 a0_2, .slice A0_3 l0_3.length c0_3] 25 (0, 0)) blkx hb); have n1_ := Aside0.mk (blk_below (g := gb102) (o := .cells #[.int .i64 0, .int .i64 0, .int .i64 0, .slice none 0 0] 25 (0, 0)) blkx hb); have n2_ := Aside0.mk (below_step bel hb); clear BK101; clear BK102; clear HB; have BK101 := n0_; have BK102 := n1_; have HB := n2_; clear n0_ n1_ n2_; (try clear hb); (try clear hb2); (try clear hk); (try clear hi)))
    (try simp only [Act.put, List.setIfInBounds_toArray, List.set_cons_zero, List.set_cons_succ])
    go_cut [47] (fun v47 wc => ∃ (kq : Nat) (x47_10 : Bool), v47 = .bool x47_10 ∧ Aside0 (guarantee_Set.j0 kq a1 t105 t107 t108 x47_10 a0_0 a0_1 a0_2 l0_3 = some (r1, r2, r3, r4, r5)) ∧ Aside0 (kq ≤ k) ∧ Aside0 (wc.heap[gb101]? = some (.cells #[.int .i64 a0_0, .int .i64 a0_1, .int .i64 a0_2, (.slice A0_3 l0_3.length c0_3)] 25 (0, 0))) ∧ Aside0 (wc.heap[gb102]? = some (.cells #[.int .i64 0, .int .i64 0, .int .i64 0, (.slice none 0 0)] 25 (0, 0))) ∧ Aside0 (Below w.heap.size w wc))
    case first =>
     have H := HC11.out
     clear HC11
     by_cases c21 : t108 = true
     ·subst c21
      have H1 : (guarantee_Set.j0 k a1 t105 t107 true false a0_0 a0_1 a0_2 l0_3) = some (r1, r2, r3, r4, r5) := by rw [if_pos rfl] at H; exact H
      clear H
      have H := H1
      clear H1
      have H' := Aside0.mk H
      clear H
      go_wp2
      go_meet
      case rel => exact ⟨_, (false), (by first | rfl | (simp; done) | (simp [*]; done)), H', ⟨by first | omega | exact Nat.le_refl _⟩, ⟨by (with_reducible repeat (first | refine blk_drewN ?_ _ | refine blk_drew ?_ | refine blk_alloc ?_ _)); exact BK101.out⟩, ⟨by (with_reducible repeat (first | refine blk_drewN ?_ _ | refine blk_drew ?_ | refine blk_alloc ?_ _)); exact BK102.out⟩, ⟨bel⟩⟩
     ·replace c21 := Bool.eq_false_iff.mpr c21
      subst c21
      have H1 : (guarantee_Set.j0 k a1 t105 t107 false ((l0_3.length : Int) == 64) a0_0 a0_1 a0_2 l0_3) = some (r1, r2, r3, r4, r5) := by rw [if_neg (show ¬ (false = true) by decide)] at H; exact H
      clear H
      have H := H1
      clear H1
      have H' := Aside0.mk H
      clear H
      have hnb22 := NB101_102.out
      have hnc22 := NB102_101.out
      obtain ⟨hcz23_0, hcz23_1, hcz23_2, hcz23_3, hfz23_0, hfz23_1, hfz23_2, hfz23_3⟩ := cells4 BK101.out
      go_wp2
      go_meet
      case rel => exact ⟨_, (((l0_3.length : Int) == 64)), (by first | rfl | (simp; done) | (simp [*]; done)), H', ⟨by first | omega | exact Nat.le_refl _⟩, ⟨by (with_reducible repeat (first | refine blk_drewN ?_ _ | refine blk_drew ?_ | refine blk_alloc ?_ _)); exact BK101.out⟩, ⟨by (with_reducible repeat (first | refine blk_drewN ?_ _ | refine blk_drew ?_ | refine blk_alloc ?_ _)); exact BK102.out⟩, ⟨bel⟩⟩
    case rest =>
     clear HC11
     try clear c1
     try clear c2
     try clear p2
     try clear c3
     try clear c5
     try clear c5b0
     try clear c5b1
     try clear c7
     try clear c9
     try clear c9b0
     try clear c9b1
     try clear c11
     try clear c14
     try clear c17
     try clear c19
     try clear c21
     try clear c22
     try clear hcz15_0
     try clear hcz15_1
     try clear hcz15_2
     try clear hcz15_3
     try clear hcz17_0
     try clear hcz17_1
     try clear hcz17_2
     try clear hcz17_3
     try clear hcz19_0
     try clear hcz19_1
     try clear hcz19_2
     try clear hcz19_3
     try clear hcz23_0
     try clear hcz23_1
     try clear hcz23_2
     try clear hcz23_3
     try clear hfz15_0
     try clear hfz15_1
     try clear hfz15_2
     try clear hfz15_3
     try clear hfz17_0
     try clear hfz17_1
     try clear hfz17_2
     try clear hfz17_3
     try clear hfz19_0
     try clear hfz19_1
     try clear hfz19_2
     try clear hfz19_3
     try clear hfz23_0
     try clear hfz23_1
     try clear hfz23_2
     try clear hfz23_3
     obtain ⟨kq, x47_10, rfl, HA, HJ10, BK101, BK102, HB⟩ := hcut
     cases kq with
     | zero => exact absurd HA.out (by simp [guarantee_Set.j0])
     | succ kj10 =>
      have H := HA.out
      clear HA
      simp only [guarantee_Set.j0] at H
      by_cases c24 : x47_10 = true
      ·subst c24
       have H1 : (some (0, 0, 0, ([] : List (S39)), 8)) = some (r1, r2, r3, r4, r5) := by rw [if_pos rfl] at H; exact H
       clear H
       have H := H1
       clear H1
       simp only [Option.some.injEq, Prod.mk.injEq] at H
       obtain ⟨rfl, rfl, rfl, rfl, rfl⟩ := H
       have hnb25 := NB102_101.out
       have hnc25 := NB101_102.out
       obtain ⟨hcz26_0, hcz26_1, hcz26_2, hcz26_3, hfz26_0, hfz26_1, hfz26_2, hfz26_3⟩ := cells4 BK102.out
       go_wp2
       refine bodyPost_ret (results_ct rfl _ _ gb102 25 #[.int .i64 0, .int .i64 0, .int .i64 0, .slice none 0 0] (0, 0) _ rfl (by (with_reducible repeat (first | refine blk_drewN ?_ _ | refine blk_drew ?_ | refine blk_alloc ?_ _)); refine blk_put (cs := #[.int .i64 0, .int .i64 0, .int .i64 0, .slice none 0 0]) ?_ 3 _ rfl; refine blk_put (cs := #[.int .i64 0, .int .i64 0, .int .i64 0, .slice none 0 0]) ?_ 2 _ rfl; refine blk_put (cs := #[.int .i64 0, .int .i64 0, .int .i64 0, .slice none 0 0]) ?_ 1 _ rfl; refine blk_put (cs := #[.int .i64 0, .int .i64 0, .int .i64 0, .slice none 0 0]) ?_ 0 _ rfl; (with_reducible repeat (first | refine blk_drewN ?_ _ | refine blk_drew ?_ | refine blk_alloc ?_ _)); exact BK102.out) Try.underlying25 rfl (by kernel_rfl)) rfl ?_
       exact ⟨_, by first | rfl | (simp [errW_none, errW_some] <;> rfl) | (simp [*, errW_none, errW_some] <;> rfl), by first | exact Kd.R_nil _ _ _ _ _ | exact Kd.N_nil _ _ _ _ _ | exact Kd.V_nil _ _ _ _ _ | exact Kd.Q_nil _ _ _ _ _ | exact Kd.S_nil _ _ _ _ _, bel⟩
      ·replace c24 := Bool.eq_false_iff.mpr c24
       subst c24
       have H1 : ((slices_Clone.f l0_3).bind fun t109 => (if t108 = true then (if 0 ≤ t107 then (if t107 < (t109.length : Int) then ((some (t109.set (t107 : Int).toNat (⟨(rd_T39 t109 t107).f0, t105⟩ : S39) : List (S39))).bind fun y112 => ((guarantee_sum.f kj10 y112).bind fun t113 => (if t113 > a0_1 then (some (0, 0, 0, ([] : List (S39)), 16)) else (some (a0_0, a0_1, a0_2, y112, 0))))) else (none)) else (none)) else ((slices_Insert.f t109 t107 (([(⟨a1, 0⟩ : S39)] : List (S39)))).bind fun t117 => (if 0 ≤ t107 then (if t107 < (t117.length : Int) then ((some (t117.set (t107 : Int).toNat (⟨(rd_T39 t117 t107).f0, t105⟩ : S39) : List (S39))).bind fun y120 => ((guarantee_sum.f kj10 y120).bind fun t121 => (if t121 > a0_1 then (some (0, 0, 0, ([] : List (S39)), 16)) else (some (a0_0, a0_1, a0_2, y120, 0))))) else (none)) else (none))))) = some (r1, r2, r3, r4, r5) := by rw [if_neg (show ¬ (false = true) by decide)] at H; exact H
       clear H
       have H := H1
       clear H1
       replace H := Option.bind_eq_some_iff.mp H
       obtain ⟨t109, A270, H⟩ := H
       replace H : (if t108 = true then (if 0 ≤ t107 then (if t107 < (t109.length : Int) then ((some (t109.set (t107 : Int).toNat (⟨(rd_T39 t109 t107).f0, t105⟩ : S39) : List (S39))).bind fun y112 => ((guarantee_sum.f kj10 y112).bind fun t113 => (if t113 > a0_1 then (some (0, 0, 0, ([] : List (S39)), 16)) else (some (a0_0, a0_1, a0_2, y112, 0))))) else (none)) else (none)) else ((slices_Insert.f t109 t107 (([(⟨a1, 0⟩ : S39)] : List (S39)))).bind fun t117 => (if 0 ≤ t107 then (if t107 < (t117.length : Int) then ((some (t117.set (t107 : Int).toNat (⟨(rd_T39 t117 t107).f0, t105⟩ : S39) : List (S39))).bind fun y120 => ((guarantee_sum.f kj10 y120).bind fun t121 => (if t121 > a0_1 then (some (0, 0, 0, ([] : List (S39)), 16)) else (some (a0_0, a0_1, a0_2, y120, 0))))) else (none)) else (none)))) = some (r1, r2, r3, r4, r5) := H
       have A27 := Aside0.mk A270
       clear A270
       by_cases c28 : t108 = true
       ·subst c28
        have H1 : (if 0 ≤ t107 then (if t107 < (t109.length : Int) then ((some (t109.set (t107 : Int).toNat (⟨(rd_T39 t109 t107).f0, t105⟩ : S39) : List (S39))).bind fun y112 => ((guarantee_sum.f kj10 y112).bind fun t113 => (if t113 > a0_1 then (some (0, 0, 0, ([] : List (S39)), 16)) else (some (a0_0, a0_1, a0_2, y112, 0))))) else (none)) else (none)) = some (r1, r2, r3, r4, r5) := by rw [if_pos rfl] at H; exact H
        clear H
        have H := H1
        clear H1
        by_cases c29 : 0 ≤ t107
        ·rw [if_pos c29] at H
         have c29b0 : decide (0 ≤ t107) = true := decide_eq_true c29
         clear c29
         by_cases c30 : t107 < (t109.length : Int)
         ·rw [if_pos c30] at H
          have c30b0 : decide (t107 < (t109.length : Int)) = true := decide_eq_true c30
          clear c30
          obtain ⟨y112, hy112⟩ : ∃ y_ : List (S39), y_ = (t109.set (t107 : Int).toNat (⟨(rd_T39 t109 t107).f0, t105⟩ : S39)) := ⟨_, rfl⟩
          replace H : ((guarantee_sum.f kj10 y112).bind fun t113 => (if t113 > a0_1 then (some (0, 0, 0, ([] : List (S39)), 16)) else (some (a0_0, a0_1, a0_2, y112, 0)))) = some (r1, r2, r3, r4, r5) := by first | (rw [hy112]; with_reducible exact H) | (have H2_ := (Option.bind_some _ _).symm.trans H; rw [hy112]; with_reducible exact H2_) | (have H2_ := (Option.bind_some _ _).symm.trans H; with_reducible exact H2_) | with_reducible exact H | (rw [hy112]; exact H) | exact H
          have Ny112 := Aside0.mk hy112
          clear hy112
          replace H := Option.bind_eq_some_iff.mp H
          obtain ⟨t113, A320, H⟩ := H
          replace H : (if t113 > a0_1 then (some (0, 0, 0, ([] : List (S39)), 16)) else (some (a0_0, a0_1, a0_2, y112, 0))) = some (r1, r2, r3, r4, r5) := H
          have A32 := Aside0.mk A320
          clear A320
          by_cases c33 : t113 > a0_1
          ·rw [if_pos c33] at H
           have c33b0 : decide (a0_1 < t113) = true := decide_eq_true c33
           clear c33
           simp only [Option.some.injEq, Prod.mk.injEq] at H
           obtain ⟨rfl, rfl, rfl, rfl, rfl⟩ := H
           have hnb34 := NB101_102.out
           have hnc34 := NB102_101.out
           obtain ⟨hcz35_0, hcz35_1, hcz35_2, hcz35_3, hfz35_0, hfz35_1, hfz35_2, hfz35_3⟩ := cells4 BK101.out
           try go_wp2_with (first | ((with_reducible refine gate_callee (f := 38) rfl ?_); refine goesL_ (some 51) rfl rfl Try.func38 (by kernel_rfl) rfl #[.slice A0_3 l0_3.length c0_3] rfl argx ?_; (with_reducible refine (slices_Clone.calls _ _ l0_3 t109 _ ?side1 ?side2 A27.out).mono ?_); (case side1 => repeat (first | exact (Kd.C_below HR0_3.out HB.out) | (with_reducible refine Kd.C_alloc ?_ _) | (with_reducible refine Kd.C_drewN ?_ _) | (with_reducible refine Kd.C_drew ?_))); (case side2 => exact HC0_3.out); rintro e w36 ⟨v110, rfl, ho0, hb⟩; refine ⟨_, rfl, ?_⟩; have qb_ := below_both bel hb; have n0_ := Aside0.mk (Kd.R_lower ho0 qb_.2); have n1_ := Aside0.mk (blk_below (g := gb101) (o := .cells #[.int .i64 a0_0, .int .i64 a0_1, .int .i64 a0_2, .slice A0_3 l0_3.length c0_3] 25 (0, 0)) blkx hb); have n2_ := Aside0.mk (blk_below (g := gb102) (o := .cells #[.int .i64 0, .int .i64 0, .int .i64 0, .slice none 0 0] 25 (0, 0)) blkx hb); have n3_ := Aside0.mk (qb_.1); clear BK101; clear BK102; clear HB; have HO111 := n0_; have BK101 := n1_; have BK102 := n2_; have HB := n3_; clear qb_; clear n0_ n1_ n2_ n3_; (try clear hb); (try clear hb2); (try clear hk); (try clear hi); (try clear ho0); obtain ⟨Ao37, co37, eo37⟩ := Kd.R_slice HO111.out; subst eo37; obtain ⟨hcz38_0, hcz38_1, hcz38_2, hcz38_3, hfz38_0, hfz38_1, hfz38_2, hfz38_3⟩ := cells4 BK101.out) | ((with_reducible refine gate_store (t := 23) (p := 52) rfl ?_); refine store_event (t := 23) (p := 52) (v := ?vo_w39) (w1 := (w36.setCell ⟨gb101, 3, none⟩ (.slice Ao37 t109.length co37))) ?hg ?ho ?hn ?hr ?_; (case ho => rfl); (case hg => rfl); (case hn => rfl); (case hr => first | (go_simp; done) | (go_simp; rfl)); intro w39 hw; have n0_ : Aside0 (Kd.R k39 39 w39 w.heap.size (fun _ => True) (.slice Ao37 t109.length co37) t109) := ⟨(by rw [hw]; exact (by (with_reducible repeat (first | apply Kd.R_alloc | apply Kd.R_drewN | apply Kd.R_drew)); exact Kd.R_mono (Kd.R_far (p := ⟨gb101, 3, none⟩) (Kd.R_types HO111.out BK101.out (by decide)) (fun _ hk => hk.2) (.slice Ao37 t109.length co37)) (fun _ hk => trivial)))⟩; have n1_ : Aside0 (w39.heap[gb101]? = some (.cells #[.int .i64 a0_0, .int .i64 a0_1, .int .i64 a0_2, .slice Ao37 t109.length co37] 25 (0, 0))) := ⟨(by rw [hw]; exact (by (with_reducible repeat (first | refine blk_drewN ?_ _ | refine blk_drew ?_ | refine blk_alloc ?_ _)); refine blk_put (cs := #[.int .i64 a0_0, .int .i64 a0_1, .int .i64 a0_2, .slice A0_3 l0_3.length c0_3]) ?_ 3 _ rfl; (with_reducible repeat (first | refine blk_drewN ?_ _ | refine blk_drew ?_ | refine blk_alloc ?_ _)); exact BK101.out))⟩; have n2_ : Aside0 (w39.heap[gb102]? = some (.cells #[.int .i64 0, .int .i64 0, .int .i64 0, .slice none 0 0] 25 (0, 0))) := ⟨(by rw [hw]; exact blkx)⟩; have n3_ : Aside0 (Below w.heap.size w w39) := ⟨(by rw [hw]; exact bel)⟩; clear hw; clear HO111; clear BK101; clear BK102; clear HB; have HO111 := n0_; have BK101 := n1_; have BK102 := n2_; have HB := n3_; clear n0_ n1_ n2_ n3_; obtain ⟨hcz40_0, hcz40_1, hcz40_2, hcz40_3, hfz40_0, hfz40_1, hfz40_2, hfz40_3⟩ := cells4 BK101.out; have p31 : 0 ≤ (t107 : Int) := of_decide_eq_true (by first | (with_reducible assumption) | assumption); have q31 : (t107 : Int) < ((t109.length : Int) : Int) := of_decide_eq_true (by first | (with_reducible assumption) | assumption); obtain ⟨go31, co31, eo31, gb31, gl31, cl31, HG31⟩ := Kd.R_form HO111.out (by omega); (first | cases eo31 | (injection eo31 with ea_ en_ ec_; (first | subst ea_ | (injection ea_ with ea_; subst ea_)); subst ec_; clear en_)); have GB31 := Aside0.mk gb31; have GG31 := Aside0.mk HG31; clear gb31 gl31 HG31; obtain ⟨ce31, hcl31, hM31, hcc31, hfr31⟩ := Kd.R_elem HO111.out z39 (t107 : Int) p31 q31; obtain rfl := k39_openM hM31; have hx31_0 : w39.cell? ⟨go31, (t107 : Int).toNat * 2, none⟩ = some (.int .i64 ((rd_T39 t109 t107).f0)) := hcc31 0 _ rfl; have hx31_1 : w39.cell? ⟨go31, (t107 : Int).toNat * 2 + 1, none⟩ = some (.int .i64 ((rd_T39 t109 t107).f1)) := hcc31 1 _ rfl; have hf31_0 : w39.frozen? ⟨go31, (t107 : Int).toNat * 2, none⟩ = false := hfr31 0; have hf31_1 : w39.frozen? ⟨go31, (t107 : Int).toNat * 2 + 1, none⟩ = false := hfr31 1; clear hcl31 hcc31 hfr31 hM31; replace p31 := eq_true p31; replace q31 := eq_true q31; have HX41 := Aside0.mk (show Kd.R k39 39 w39 w.heap.size (fun _ => True) (.slice (some ⟨go31, 0, none⟩) t109.length co37) t109 from (rowx HO111.out)); obtain ⟨ce41, hcl41, hM41, hcc41, hfr41⟩ := Kd.R_elem HX41.out z39 (t107 : Int) (of_decide_eq_true (by first | (with_reducible assumption) | assumption)) (by have h_ : (t107 : Int) < ((t109.length : Int) : Int) := of_decide_eq_true (by first | (with_reducible assumption) | assumption); first | exact h_ | (have e_ := (Kd.R_reads' HO111.out).1; omega) | simpa using h_); obtain rfl := k39_openM hM41; have HP41 := Kd.R_seg HX41.out (t107 : Int) (of_decide_eq_true (by first | (with_reducible assumption) | assumption)) (by have h_ : (t107 : Int) < ((t109.length : Int) : Int) := of_decide_eq_true (by first | (with_reducible assumption) | assumption); first | exact h_ | (have e_ := (Kd.R_reads' HO111.out).1; omega) | simpa using h_) (seg := [.int .i64 t105]) (j := 1) hcl41 hcc41 (show 2 ≤ 2 from by decide) (x' := (⟨(rd_T39 t109 t107).f0, t105⟩ : S39)) (k39_mkM _ _ _ (⟨(rd_T39 t109 t107).f0, t105⟩ : S39) ) (fun _ hk => hk); have hx41_1 := hcc41 1 _ rfl; (try simp only [show (k39).sz = 2 from rfl, Nat.mul_one, Nat.add_zero] at hx41_1); have hf41_1 := hfr41 1; (try simp only [show (k39).sz = 2 from rfl, Nat.mul_one, Nat.add_zero] at hf41_1); clear hcl41 hcc41 hfr41 hM41) | ((with_reducible refine gate_store (t := 3) (p := 68) rfl ?_); refine store_event (t := 3) (p := 68) (v := ?vo_w42) (w1 := (w39.setCell ⟨go31, (t107 : Int).toNat * 2 + 1, none⟩ (.int .i64 t105))) ?hg ?ho ?hn ?hr ?_; (case ho => rfl); (case hg => rfl); (case hn => rfl); (case hr => first | (go_simp; done) | (go_simp; rfl)); intro w42 hw; have hg : w39.grownBy w42 (some go31) := (by rw [hw]; exact HP41.2); have hp_ : Kd.R k39 39 w42 w.heap.size (fun _ => True) (.slice (some ⟨go31, 0, none⟩) t109.length co37) y112 := (by rw [hw, Ny112.out]; exact HP41.1); clear HP41; have n0_ := Aside0.mk (blk_grown (g := gb101) (o := .cells #[.int .i64 a0_0, .int .i64 a0_1, .int .i64 a0_2, .slice (some ⟨go31, 0, none⟩) t109.length co37] 25 (0, 0)) blkx hg (Kd.R_ne HO111.out BK101.out (by decide))); have n1_ := Aside0.mk (blk_grown (g := gb102) (o := .cells #[.int .i64 0, .int .i64 0, .int .i64 0, .slice none 0 0] 25 (0, 0)) blkx hg (Kd.R_ne HO111.out BK102.out (by decide))); have n2_ := Aside0.mk (hp_); have n3_ := Aside0.mk ((by rw [hw]; exact below_set (HB.out) GB31.out : Below w.heap.size w w42)); clear BK101; clear BK102; clear HO111; clear HB; have BK101 := n0_; have BK102 := n1_; have HO111 := n2_; have HB := n3_; clear n0_ n1_ n2_ n3_; clear hg hw hp_))
           have n0_ := Aside0.mk (Kd.R_drew HO111.out)
           have n1_ := Aside0.mk (blk_drew BK101.out)
           have n2_ := Aside0.mk (blk_drew BK102.out)
           have n3_ := Aside0.mk (below_drew1 HB.out)
           clear HO111
           clear BK101
           clear BK102
           clear HB
           have HO111 := n0_
           have BK101 := n1_
           have BK102 := n2_
           have HB := n3_
           clear n0_ n1_ n2_ n3_
           refine start_ (n := 6) (S := fun w' => w'.cell? ⟨gb101, 0, none⟩ = some (.int .i64 a0_0) ∧ w'.cell? ⟨gb101, 1, none⟩ = some (.int .i64 a0_1) ∧ w'.cell? ⟨gb101, 2, none⟩ = some (.int .i64 a0_2) ∧ w'.cell? ⟨gb101, 3, none⟩ = some (.slice (some ⟨go31, 0, none⟩) t109.length co37)) (ds := []) #[false, false, false, false, false, false] (by kernel_rfl) rfl rfl ⟨(blk_cell BK101.out 0).trans rfl, (blk_cell BK101.out 1).trans rfl, (blk_cell BK101.out 2).trans rfl, (blk_cell BK101.out 3).trans rfl⟩ (fun hHeld => ?_)
           generalize w42.drew = w43 at HO111 BK101 BK102 HB hHeld ⊢
           refine pure_ (i := 0) (N := some 69) (v := ?_) (a' := ?_) #[true, false, false, false, false, false] rfl rfl (by kernel_rfl) (fun _ _ _ h => h) (Or.inl ⟨by rfl, ?_⟩) ?_ ?_
           rotate_left
           ·intro w'
            go_simp
            with_reducible rfl
           rotate_left
           ·simp only [Act.put, List.setIfInBounds_toArray, List.set_cons_zero, List.set_cons_succ, i64_w, i32_w]
            rfl
           refine pure_ (i := 3) (N := some 72) (v := ?_) (a' := ?_) #[true, false, false, true, false, false] rfl rfl (by kernel_rfl) (fun _ _ _ h => h) (Or.inl ⟨by rfl, ?_⟩) ?_ ?_
           rotate_left
           ·intro w'
            go_simp
            with_reducible rfl
           rotate_left
           ·simp only [Act.put, List.setIfInBounds_toArray, List.set_cons_zero, List.set_cons_succ, i64_w, i32_w]
            rfl
           refine take_ (i := 1) (N := some 70) (v := ?_) (a' := ?_) #[true, true, false, true, false, false] rfl rfl (by kernel_rfl) (fun _ _ _ h => h) (Or.inl ⟨by rfl, ?_⟩) hHeld ?_ ?_
           rotate_left
           ·rintro w' ⟨s0, s1, s2, s3⟩
            go_simp
            with_reducible rfl
           rotate_left
           ·simp only [Act.put, List.setIfInBounds_toArray, List.set_cons_zero, List.set_cons_succ, i64_w, i32_w]
            rfl
           refine take_ (i := 4) (N := some 73) (v := ?_) (a' := ?_) #[true, true, false, true, true, false] rfl rfl (by kernel_rfl) (fun _ _ _ h => h) (Or.inl ⟨by rfl, ?_⟩) hHeld ?_ ?_
           rotate_left
           ·rintro w' ⟨s0, s1, s2, s3⟩
            go_simp
            with_reducible rfl
           rotate_left
           ·simp only [Act.put, List.setIfInBounds_toArray, List.set_cons_zero, List.set_cons_succ, i64_w, i32_w]
            rfl
           refine one_ (i := 2) (N := some 71) #[true, true, true, true, true, false] rfl rfl (by kernel_rfl) (by decide) (fun K hK => ?_)
           refine goes_ Try.func35 (by kernel_rfl) rfl #[.slice (some ⟨go31, 0, none⟩) y112.length co37] (by rfl) rfl rfl (by (try simp only [List.map_toArray, List.map_cons, List.map_nil]); first | done | (rw [show y112.length = t109.length from (Kd.R_reads' HO111.out).1.symm] <;> rfl) | rfl | (simp only [List.length_drop, List.length_take]; rfl)) ?_
           with_reducible refine (guarantee_sum.calls kj10 _ _ y112 t113 _ ?side1 ?side2 A32.out).mono ?_
           (case side1 => repeat (first | exact (Kd.R_reads' HO111.out).2.2 | (with_reducible refine Kd.C_alloc ?_ _) | (with_reducible refine Kd.C_drewN ?_ _) | (with_reducible refine Kd.C_drew ?_)))
           (case side2 => rw [show y112.length = t109.length from (Kd.R_reads' HO111.out).1.symm]; exact (Kd.R_reads' HO111.out).2.1)
           rintro e w44 ⟨rfl, hb⟩
           refine ⟨_, rfl, ?_⟩
           have n0_ := Aside0.mk (Kd.R_below (rowx HO111.out) hb)
           have n1_ := Aside0.mk (blk_below (g := gb101) (o := .cells #[.int .i64 a0_0, .int .i64 a0_1, .int .i64 a0_2, .slice (some ⟨go31, 0, none⟩) t109.length co37] 25 (0, 0)) blkx hb)
           have n2_ := Aside0.mk (blk_below (g := gb102) (o := .cells #[.int .i64 0, .int .i64 0, .int .i64 0, .slice none 0 0] 25 (0, 0)) blkx hb)
           have n3_ := Aside0.mk (below_step bel hb)
           clear HO111
           clear BK101
           clear BK102
           clear HB
           have HO111 := n0_
           have BK101 := n1_
           have BK102 := n2_
           have HB := n3_
           clear n0_ n1_ n2_ n3_
           (try clear hb)
           (try clear hb2)
           (try clear hk)
           (try clear hi)
           refine hK.out _ _ ⟨(blk_cell BK101.out 0).trans rfl, (blk_cell BK101.out 1).trans rfl, (blk_cell BK101.out 2).trans rfl, (blk_cell BK101.out 3).trans rfl⟩ (fun hHeld => ?_)
           clear hK K
           refine norm_ (a' := ?_) ?_ ?_
           rotate_left
           ·show Act.put _ (some 71) _ = _
            simp only [Act.put, List.setIfInBounds_toArray, List.set_cons_zero, List.set_cons_succ, i64_w, i32_w]
            rfl
           refine pure_ (i := 5) (N := some 74) (v := ?_) (a' := ?_) #[true, true, true, true, true, true] rfl rfl (by kernel_rfl) (fun _ _ _ h => h) (Or.inl ⟨by rfl, ?_⟩) ?_ ?_
           rotate_left
           ·intro w'
            go_simp
            with_reducible rfl
           rotate_left
           ·simp only [Act.put, List.setIfInBounds_toArray, List.set_cons_zero, List.set_cons_succ, i64_w, i32_w]
            rfl
           refine done_ (by kernel_rfl) ?_
           obtain ⟨hcz45_0, hcz45_1, hcz45_2, hcz45_3, hfz45_0, hfz45_1, hfz45_2, hfz45_3⟩ := cells4 BK102.out
           try go_wp2
           refine bodyPost_ret (results_ct rfl _ _ gb102 25 #[.int .i64 0, .int .i64 0, .int .i64 0, .slice none 0 0] (0, 0) _ rfl (by (with_reducible repeat (first | refine blk_drewN ?_ _ | refine blk_drew ?_ | refine blk_alloc ?_ _)); refine blk_put (cs := #[.int .i64 0, .int .i64 0, .int .i64 0, .slice none 0 0]) ?_ 3 _ rfl; refine blk_put (cs := #[.int .i64 0, .int .i64 0, .int .i64 0, .slice none 0 0]) ?_ 2 _ rfl; refine blk_put (cs := #[.int .i64 0, .int .i64 0, .int .i64 0, .slice none 0 0]) ?_ 1 _ rfl; refine blk_put (cs := #[.int .i64 0, .int .i64 0, .int .i64 0, .slice none 0 0]) ?_ 0 _ rfl; (with_reducible repeat (first | refine blk_drewN ?_ _ | refine blk_drew ?_ | refine blk_alloc ?_ _)); exact BK102.out) Try.underlying25 rfl (by kernel_rfl)) rfl ?_
           exact ⟨_, by first | rfl | (simp [errW_none, errW_some] <;> rfl) | (simp [*, errW_none, errW_some] <;> rfl), by first | exact Kd.R_nil _ _ _ _ _ | exact Kd.N_nil _ _ _ _ _ | exact Kd.V_nil _ _ _ _ _ | exact Kd.Q_nil _ _ _ _ _ | exact Kd.S_nil _ _ _ _ _, bel⟩
          ·rw [if_neg c33] at H
           have c33b0 : decide (a0_1 < t113) = false := decide_eq_false c33
           clear c33
           simp only [Option.some.injEq, Prod.mk.injEq] at H
           obtain ⟨rfl, rfl, rfl, rfl, rfl⟩ := H
           have hnb46 := NB101_102.out
           have hnc46 := NB102_101.out
           obtain ⟨hcz47_0, hcz47_1, hcz47_2, hcz47_3, hfz47_0, hfz47_1, hfz47_2, hfz47_3⟩ := cells4 BK101.out
           try go_wp2_with (first | ((with_reducible refine gate_callee (f := 38) rfl ?_); refine goesL_ (some 51) rfl rfl Try.func38 (by kernel_rfl) rfl #[.slice A0_3 l0_3.length c0_3] rfl argx ?_; (with_reducible refine (slices_Clone.calls _ _ l0_3 t109 _ ?side1 ?side2 A27.out).mono ?_); (case side1 => repeat (first | exact (Kd.C_below HR0_3.out HB.out) | (with_reducible refine Kd.C_alloc ?_ _) | (with_reducible refine Kd.C_drewN ?_ _) | (with_reducible refine Kd.C_drew ?_))); (case side2 => exact HC0_3.out); rintro e w48 ⟨v110, rfl, ho0, hb⟩; refine ⟨_, rfl, ?_⟩; have qb_ := below_both bel hb; have n0_ := Aside0.mk (Kd.R_lower ho0 qb_.2); have n1_ := Aside0.mk (blk_below (g := gb101) (o := .cells #[.int .i64 a0_0, .int .i64 a0_1, .int .i64 a0_2, .slice A0_3 l0_3.length c0_3] 25 (0, 0)) blkx hb); have n2_ := Aside0.mk (blk_below (g := gb102) (o := .cells #[.int .i64 0, .int .i64 0, .int .i64 0, .slice none 0 0] 25 (0, 0)) blkx hb); have n3_ := Aside0.mk (qb_.1); clear BK101; clear BK102; clear HB; have HO111 := n0_; have BK101 := n1_; have BK102 := n2_; have HB := n3_; clear qb_; clear n0_ n1_ n2_ n3_; (try clear hb); (try clear hb2); (try clear hk); (try clear hi); (try clear ho0); obtain ⟨Ao49, co49, eo49⟩ := Kd.R_slice HO111.out; subst eo49; obtain ⟨hcz50_0, hcz50_1, hcz50_2, hcz50_3, hfz50_0, hfz50_1, hfz50_2, hfz50_3⟩ := cells4 BK101.out) | ((with_reducible refine gate_store (t := 23) (p := 52) rfl ?_); refine store_event (t := 23) (p := 52) (v := ?vo_w51) (w1 := (w48.setCell ⟨gb101, 3, none⟩ (.slice Ao49 t109.length co49))) ?hg ?ho ?hn ?hr ?_; (case ho => rfl); (case hg => rfl); (case hn => rfl); (case hr => first | (go_simp; done) | (go_simp; rfl)); intro w51 hw; have n0_ : Aside0 (Kd.R k39 39 w51 w.heap.size (fun _ => True) (.slice Ao49 t109.length co49) t109) := ⟨(by rw [hw]; exact (by (with_reducible repeat (first | apply Kd.R_alloc | apply Kd.R_drewN | apply Kd.R_drew)); exact Kd.R_mono (Kd.R_far (p := ⟨gb101, 3, none⟩) (Kd.R_types HO111.out BK101.out (by decide)) (fun _ hk => hk.2) (.slice Ao49 t109.length co49)) (fun _ hk => trivial)))⟩; have n1_ : Aside0 (w51.heap[gb101]? = some (.cells #[.int .i64 a0_0, .int .i64 a0_1, .int .i64 a0_2, .slice Ao49 t109.length co49] 25 (0, 0))) := ⟨(by rw [hw]; exact (by (with_reducible repeat (first | refine blk_drewN ?_ _ | refine blk_drew ?_ | refine blk_alloc ?_ _)); refine blk_put (cs := #[.int .i64 a0_0, .int .i64 a0_1, .int .i64 a0_2, .slice A0_3 l0_3.length c0_3]) ?_ 3 _ rfl; (with_reducible repeat (first | refine blk_drewN ?_ _ | refine blk_drew ?_ | refine blk_alloc ?_ _)); exact BK101.out))⟩; have n2_ : Aside0 (w51.heap[gb102]? = some (.cells #[.int .i64 0, .int .i64 0, .int .i64 0, .slice none 0 0] 25 (0, 0))) := ⟨(by rw [hw]; exact blkx)⟩; have n3_ : Aside0 (Below w.heap.size w w51) := ⟨(by rw [hw]; exact bel)⟩; clear hw; clear HO111; clear BK101; clear BK102; clear HB; have HO111 := n0_; have BK101 := n1_; have BK102 := n2_; have HB := n3_; clear n0_ n1_ n2_ n3_; obtain ⟨hcz52_0, hcz52_1, hcz52_2, hcz52_3, hfz52_0, hfz52_1, hfz52_2, hfz52_3⟩ := cells4 BK101.out; have p31 : 0 ≤ (t107 : Int) := of_decide_eq_true (by first | (with_reducible assumption) | assumption); have q31 : (t107 : Int) < ((t109.length : Int) : Int) := of_decide_eq_true (by first | (with_reducible assumption) | assumption); obtain ⟨go31, co31, eo31, gb31, gl31, cl31, HG31⟩ := Kd.R_form HO111.out (by omega); (first | cases eo31 | (injection eo31 with ea_ en_ ec_; (first | subst ea_ | (injection ea_ with ea_; subst ea_)); subst ec_; clear en_)); have GB31 := Aside0.mk gb31; have GG31 := Aside0.mk HG31; clear gb31 gl31 HG31; obtain ⟨ce31, hcl31, hM31, hcc31, hfr31⟩ := Kd.R_elem HO111.out z39 (t107 : Int) p31 q31; obtain rfl := k39_openM hM31; have hx31_0 : w51.cell? ⟨go31, (t107 : Int).toNat * 2, none⟩ = some (.int .i64 ((rd_T39 t109 t107).f0)) := hcc31 0 _ rfl; have hx31_1 : w51.cell? ⟨go31, (t107 : Int).toNat * 2 + 1, none⟩ = some (.int .i64 ((rd_T39 t109 t107).f1)) := hcc31 1 _ rfl; have hf31_0 : w51.frozen? ⟨go31, (t107 : Int).toNat * 2, none⟩ = false := hfr31 0; have hf31_1 : w51.frozen? ⟨go31, (t107 : Int).toNat * 2 + 1, none⟩ = false := hfr31 1; clear hcl31 hcc31 hfr31 hM31; replace p31 := eq_true p31; replace q31 := eq_true q31; have HX53 := Aside0.mk (show Kd.R k39 39 w51 w.heap.size (fun _ => True) (.slice (some ⟨go31, 0, none⟩) t109.length co49) t109 from (rowx HO111.out)); obtain ⟨ce53, hcl53, hM53, hcc53, hfr53⟩ := Kd.R_elem HX53.out z39 (t107 : Int) (of_decide_eq_true (by first | (with_reducible assumption) | assumption)) (by have h_ : (t107 : Int) < ((t109.length : Int) : Int) := of_decide_eq_true (by first | (with_reducible assumption) | assumption); first | exact h_ | (have e_ := (Kd.R_reads' HO111.out).1; omega) | simpa using h_); obtain rfl := k39_openM hM53; have HP53 := Kd.R_seg HX53.out (t107 : Int) (of_decide_eq_true (by first | (with_reducible assumption) | assumption)) (by have h_ : (t107 : Int) < ((t109.length : Int) : Int) := of_decide_eq_true (by first | (with_reducible assumption) | assumption); first | exact h_ | (have e_ := (Kd.R_reads' HO111.out).1; omega) | simpa using h_) (seg := [.int .i64 t105]) (j := 1) hcl53 hcc53 (show 2 ≤ 2 from by decide) (x' := (⟨(rd_T39 t109 t107).f0, t105⟩ : S39)) (k39_mkM _ _ _ (⟨(rd_T39 t109 t107).f0, t105⟩ : S39) ) (fun _ hk => hk); have hx53_1 := hcc53 1 _ rfl; (try simp only [show (k39).sz = 2 from rfl, Nat.mul_one, Nat.add_zero] at hx53_1); have hf53_1 := hfr53 1; (try simp only [show (k39).sz = 2 from rfl, Nat.mul_one, Nat.add_zero] at hf53_1); clear hcl53 hcc53 hfr53 hM53) | ((with_reducible refine gate_store (t := 3) (p := 68) rfl ?_); refine store_event (t := 3) (p := 68) (v := ?vo_w54) (w1 := (w51.setCell ⟨go31, (t107 : Int).toNat * 2 + 1, none⟩ (.int .i64 t105))) ?hg ?ho ?hn ?hr ?_; (case ho => rfl); (case hg => rfl); (case hn => rfl); (case hr => first | (go_simp; done) | (go_simp; rfl)); intro w54 hw; have hg : w51.grownBy w54 (some go31) := (by rw [hw]; exact HP53.2); have hp_ : Kd.R k39 39 w54 w.heap.size (fun _ => True) (.slice (some ⟨go31, 0, none⟩) t109.length co49) y112 := (by rw [hw, Ny112.out]; exact HP53.1); clear HP53; have n0_ := Aside0.mk (blk_grown (g := gb101) (o := .cells #[.int .i64 a0_0, .int .i64 a0_1, .int .i64 a0_2, .slice (some ⟨go31, 0, none⟩) t109.length co49] 25 (0, 0)) blkx hg (Kd.R_ne HO111.out BK101.out (by decide))); have n1_ := Aside0.mk (blk_grown (g := gb102) (o := .cells #[.int .i64 0, .int .i64 0, .int .i64 0, .slice none 0 0] 25 (0, 0)) blkx hg (Kd.R_ne HO111.out BK102.out (by decide))); have n2_ := Aside0.mk (hp_); have n3_ := Aside0.mk ((by rw [hw]; exact below_set (HB.out) GB31.out : Below w.heap.size w w54)); clear BK101; clear BK102; clear HO111; clear HB; have BK101 := n0_; have BK102 := n1_; have HO111 := n2_; have HB := n3_; clear n0_ n1_ n2_ n3_; clear hg hw hp_))
           have n0_ := Aside0.mk (Kd.R_drew HO111.out)
           have n1_ := Aside0.mk (blk_drew BK101.out)
           have n2_ := Aside0.mk (blk_drew BK102.out)
           have n3_ := Aside0.mk (below_drew1 HB.out)
           clear HO111
           clear BK101
           clear BK102
           clear HB
           have HO111 := n0_
           have BK101 := n1_
           have BK102 := n2_
           have HB := n3_
           clear n0_ n1_ n2_ n3_
           refine start_ (n := 6) (S := fun w' => w'.cell? ⟨gb101, 0, none⟩ = some (.int .i64 a0_0) ∧ w'.cell? ⟨gb101, 1, none⟩ = some (.int .i64 a0_1) ∧ w'.cell? ⟨gb101, 2, none⟩ = some (.int .i64 a0_2) ∧ w'.cell? ⟨gb101, 3, none⟩ = some (.slice (some ⟨go31, 0, none⟩) t109.length co49)) (ds := []) #[false, false, false, false, false, false] (by kernel_rfl) rfl rfl ⟨(blk_cell BK101.out 0).trans rfl, (blk_cell BK101.out 1).trans rfl, (blk_cell BK101.out 2).trans rfl, (blk_cell BK101.out 3).trans rfl⟩ (fun hHeld => ?_)
           generalize w54.drew = w55 at HO111 BK101 BK102 HB hHeld ⊢
           refine pure_ (i := 0) (N := some 69) (v := ?_) (a' := ?_) #[true, false, false, false, false, false] rfl rfl (by kernel_rfl) (fun _ _ _ h => h) (Or.inl ⟨by rfl, ?_⟩) ?_ ?_
           rotate_left
           ·intro w'
            go_simp
            with_reducible rfl
           rotate_left
           ·simp only [Act.put, List.setIfInBounds_toArray, List.set_cons_zero, List.set_cons_succ, i64_w, i32_w]
            rfl
           refine pure_ (i := 3) (N := some 72) (v := ?_) (a' := ?_) #[true, false, false, true, false, false] rfl rfl (by kernel_rfl) (fun _ _ _ h => h) (Or.inl ⟨by rfl, ?_⟩) ?_ ?_
           rotate_left
           ·intro w'
            go_simp
            with_reducible rfl
           rotate_left
           ·simp only [Act.put, List.setIfInBounds_toArray, List.set_cons_zero, List.set_cons_succ, i64_w, i32_w]
            rfl
           refine take_ (i := 1) (N := some 70) (v := ?_) (a' := ?_) #[true, true, false, true, false, false] rfl rfl (by kernel_rfl) (fun _ _ _ h => h) (Or.inl ⟨by rfl, ?_⟩) hHeld ?_ ?_
           rotate_left
           ·rintro w' ⟨s0, s1, s2, s3⟩
            go_simp
            with_reducible rfl
           rotate_left
           ·simp only [Act.put, List.setIfInBounds_toArray, List.set_cons_zero, List.set_cons_succ, i64_w, i32_w]
            rfl
           refine take_ (i := 4) (N := some 73) (v := ?_) (a' := ?_) #[true, true, false, true, true, false] rfl rfl (by kernel_rfl) (fun _ _ _ h => h) (Or.inl ⟨by rfl, ?_⟩) hHeld ?_ ?_
           rotate_left
           ·rintro w' ⟨s0, s1, s2, s3⟩
            go_simp
            with_reducible rfl
           rotate_left
           ·simp only [Act.put, List.setIfInBounds_toArray, List.set_cons_zero, List.set_cons_succ, i64_w, i32_w]
            rfl
           refine one_ (i := 2) (N := some 71) #[true, true, true, true, true, false] rfl rfl (by kernel_rfl) (by decide) (fun K hK => ?_)
           refine goes_ Try.func35 (by kernel_rfl) rfl #[.slice (some ⟨go31, 0, none⟩) y112.length co49] (by rfl) rfl rfl (by (try simp only [List.map_toArray, List.map_cons, List.map_nil]); first | done | (rw [show y112.length = t109.length from (Kd.R_reads' HO111.out).1.symm] <;> rfl) | rfl | (simp only [List.length_drop, List.length_take]; rfl)) ?_
           with_reducible refine (guarantee_sum.calls kj10 _ _ y112 t113 _ ?side1 ?side2 A32.out).mono ?_
           (case side1 => repeat (first | exact (Kd.R_reads' HO111.out).2.2 | (with_reducible refine Kd.C_alloc ?_ _) | (with_reducible refine Kd.C_drewN ?_ _) | (with_reducible refine Kd.C_drew ?_)))
           (case side2 => rw [show y112.length = t109.length from (Kd.R_reads' HO111.out).1.symm]; exact (Kd.R_reads' HO111.out).2.1)
           rintro e w56 ⟨rfl, hb⟩
           refine ⟨_, rfl, ?_⟩
           have n0_ := Aside0.mk (Kd.R_below (rowx HO111.out) hb)
           have n1_ := Aside0.mk (blk_below (g := gb101) (o := .cells #[.int .i64 a0_0, .int .i64 a0_1, .int .i64 a0_2, .slice (some ⟨go31, 0, none⟩) t109.length co49] 25 (0, 0)) blkx hb)
           have n2_ := Aside0.mk (blk_below (g := gb102) (o := .cells #[.int .i64 0, .int .i64 0, .int .i64 0, .slice none 0 0] 25 (0, 0)) blkx hb)
           have n3_ := Aside0.mk (below_step bel hb)
           clear HO111
           clear BK101
           clear BK102
           clear HB
           have HO111 := n0_
           have BK101 := n1_
           have BK102 := n2_
           have HB := n3_
           clear n0_ n1_ n2_ n3_
           (try clear hb)
           (try clear hb2)
           (try clear hk)
           (try clear hi)
           refine hK.out _ _ ⟨(blk_cell BK101.out 0).trans rfl, (blk_cell BK101.out 1).trans rfl, (blk_cell BK101.out 2).trans rfl, (blk_cell BK101.out 3).trans rfl⟩ (fun hHeld => ?_)
           clear hK K
           refine norm_ (a' := ?_) ?_ ?_
           rotate_left
           ·show Act.put _ (some 71) _ = _
            simp only [Act.put, List.setIfInBounds_toArray, List.set_cons_zero, List.set_cons_succ, i64_w, i32_w]
            rfl
           refine pure_ (i := 5) (N := some 74) (v := ?_) (a' := ?_) #[true, true, true, true, true, true] rfl rfl (by kernel_rfl) (fun _ _ _ h => h) (Or.inl ⟨by rfl, ?_⟩) ?_ ?_
           rotate_left
           ·intro w'
            go_simp
            with_reducible rfl
           rotate_left
           ·simp only [Act.put, List.setIfInBounds_toArray, List.set_cons_zero, List.set_cons_succ, i64_w, i32_w]
            rfl
           refine done_ (by kernel_rfl) ?_
           obtain ⟨hcz57_0, hcz57_1, hcz57_2, hcz57_3, hfz57_0, hfz57_1, hfz57_2, hfz57_3⟩ := cells4 BK101.out
           obtain ⟨hcz58_0, hcz58_1, hcz58_2, hcz58_3, hfz58_0, hfz58_1, hfz58_2, hfz58_3⟩ := cells4 BK102.out
           try go_wp2
           refine bodyPost_ret (results_ct rfl _ _ gb102 25 #[.int .i64 a0_0, .int .i64 a0_1, .int .i64 a0_2, .slice (some ⟨go31, 0, none⟩) t109.length co49] (0, 0) _ rfl (by (with_reducible repeat (first | refine blk_drewN ?_ _ | refine blk_drew ?_ | refine blk_alloc ?_ _)); refine blk_put (cs := #[.int .i64 a0_0, .int .i64 a0_1, .int .i64 a0_2, .slice none 0 0]) ?_ 3 _ rfl; refine blk_put (cs := #[.int .i64 a0_0, .int .i64 a0_1, .int .i64 0, .slice none 0 0]) ?_ 2 _ rfl; refine blk_put (cs := #[.int .i64 a0_0, .int .i64 0, .int .i64 0, .slice none 0 0]) ?_ 1 _ rfl; refine blk_put (cs := #[.int .i64 0, .int .i64 0, .int .i64 0, .slice none 0 0]) ?_ 0 _ rfl; (with_reducible repeat (first | refine blk_drewN ?_ _ | refine blk_drew ?_ | refine blk_alloc ?_ _)); exact BK102.out) Try.underlying25 rfl (by kernel_rfl)) rfl ?_
           exact ⟨_, by first | rfl | (simp [errW_none, errW_some] <;> rfl) | (simp [*, errW_none, errW_some] <;> rfl), by (with_reducible repeat (first | apply Kd.R_alloc | apply Kd.R_drewN | apply Kd.R_drew)); exact Kd.R_mono (Kd.R_far (p := ⟨gb102, 3, none⟩) (Kd.R_far (p := ⟨gb102, 2, none⟩) (Kd.R_far (p := ⟨gb102, 1, none⟩) (Kd.R_far (p := ⟨gb102, 0, none⟩) (Kd.R_types HO111.out BK102.out (by decide)) (fun _ hk => hk.2) (.int .i64 a0_0)) (fun _ hk => hk.2) (.int .i64 a0_1)) (fun _ hk => hk.2) (.int .i64 a0_2)) (fun _ hk => hk.2) (.slice (some ⟨go31, 0, none⟩) t109.length co49)) (fun _ hk => trivial), bel⟩
         ·rw [if_neg c30] at H
          exact absurd H (by simp)
        ·rw [if_neg c29] at H
         exact absurd H (by simp)
       ·replace c28 := Bool.eq_false_iff.mpr c28
        subst c28
        have H1 : ((slices_Insert.f t109 t107 (([(⟨a1, 0⟩ : S39)] : List (S39)))).bind fun t117 => (if 0 ≤ t107 then (if t107 < (t117.length : Int) then ((some (t117.set (t107 : Int).toNat (⟨(rd_T39 t117 t107).f0, t105⟩ : S39) : List (S39))).bind fun y120 => ((guarantee_sum.f kj10 y120).bind fun t121 => (if t121 > a0_1 then (some (0, 0, 0, ([] : List (S39)), 16)) else (some (a0_0, a0_1, a0_2, y120, 0))))) else (none)) else (none))) = some (r1, r2, r3, r4, r5) := by rw [if_neg (show ¬ (false = true) by decide)] at H; exact H
        clear H
        have H := H1
        clear H1
        obtain ⟨y114, hy114⟩ : ∃ y_ : List (S39), y_ = (([(⟨a1, 0⟩ : S39)] : List (S39))) := ⟨_, rfl⟩
        replace H : ((slices_Insert.f t109 t107 y114).bind fun t117 => (if 0 ≤ t107 then (if t107 < (t117.length : Int) then ((some (t117.set (t107 : Int).toNat (⟨(rd_T39 t117 t107).f0, t105⟩ : S39) : List (S39))).bind fun y120 => ((guarantee_sum.f kj10 y120).bind fun t121 => (if t121 > a0_1 then (some (0, 0, 0, ([] : List (S39)), 16)) else (some (a0_0, a0_1, a0_2, y120, 0))))) else (none)) else (none))) = some (r1, r2, r3, r4, r5) := by first | (rw [hy114]; with_reducible exact H) | (have H2_ := (Option.bind_some _ _).symm.trans H; rw [hy114]; with_reducible exact H2_) | (have H2_ := (Option.bind_some _ _).symm.trans H; with_reducible exact H2_) | with_reducible exact H | (rw [hy114]; exact H) | exact H
        have Ny114 := Aside0.mk hy114
        clear hy114
        replace H := Option.bind_eq_some_iff.mp H
        obtain ⟨t117, A590, H⟩ := H
        replace H : (if 0 ≤ t107 then (if t107 < (t117.length : Int) then ((some (t117.set (t107 : Int).toNat (⟨(rd_T39 t117 t107).f0, t105⟩ : S39) : List (S39))).bind fun y120 => ((guarantee_sum.f kj10 y120).bind fun t121 => (if t121 > a0_1 then (some (0, 0, 0, ([] : List (S39)), 16)) else (some (a0_0, a0_1, a0_2, y120, 0))))) else (none)) else (none)) = some (r1, r2, r3, r4, r5) := H
        have A59 := Aside0.mk A590
        clear A590
        by_cases c60 : 0 ≤ t107
        ·rw [if_pos c60] at H
         have c60b0 : decide (0 ≤ t107) = true := decide_eq_true c60
         clear c60
         by_cases c61 : t107 < (t117.length : Int)
         ·rw [if_pos c61] at H
          have c61b0 : decide (t107 < (t117.length : Int)) = true := decide_eq_true c61
          clear c61
          obtain ⟨y120, hy120⟩ : ∃ y_ : List (S39), y_ = (t117.set (t107 : Int).toNat (⟨(rd_T39 t117 t107).f0, t105⟩ : S39)) := ⟨_, rfl⟩
          replace H : ((guarantee_sum.f kj10 y120).bind fun t121 => (if t121 > a0_1 then (some (0, 0, 0, ([] : List (S39)), 16)) else (some (a0_0, a0_1, a0_2, y120, 0)))) = some (r1, r2, r3, r4, r5) := by first | (rw [hy120]; with_reducible exact H) | (have H2_ := (Option.bind_some _ _).symm.trans H; rw [hy120]; with_reducible exact H2_) | (have H2_ := (Option.bind_some _ _).symm.trans H; with_reducible exact H2_) | with_reducible exact H | (rw [hy120]; exact H) | exact H
          have Ny120 := Aside0.mk hy120
          clear hy120
          replace H := Option.bind_eq_some_iff.mp H
          obtain ⟨t121, A630, H⟩ := H
          replace H : (if t121 > a0_1 then (some (0, 0, 0, ([] : List (S39)), 16)) else (some (a0_0, a0_1, a0_2, y120, 0))) = some (r1, r2, r3, r4, r5) := H
          have A63 := Aside0.mk A630
          clear A630
          by_cases c64 : t121 > a0_1
          ·rw [if_pos c64] at H
           have c64b0 : decide (a0_1 < t121) = true := decide_eq_true c64
           clear c64
           simp only [Option.some.injEq, Prod.mk.injEq] at H
           obtain ⟨rfl, rfl, rfl, rfl, rfl⟩ := H
           have hnb65 := NB101_102.out
           have hnc65 := NB102_101.out
           obtain ⟨hcz66_0, hcz66_1, hcz66_2, hcz66_3, hfz66_0, hfz66_1, hfz66_2, hfz66_3⟩ := cells4 BK101.out
           try go_wp2_with (first | ((with_reducible refine gate_callee (f := 38) rfl ?_); refine goesL_ (some 51) rfl rfl Try.func38 (by kernel_rfl) rfl #[.slice A0_3 l0_3.length c0_3] rfl argx ?_; (with_reducible refine (slices_Clone.calls _ _ l0_3 t109 _ ?side1 ?side2 A27.out).mono ?_); (case side1 => repeat (first | exact (Kd.C_below HR0_3.out HB.out) | (with_reducible refine Kd.C_alloc ?_ _) | (with_reducible refine Kd.C_drewN ?_ _) | (with_reducible refine Kd.C_drew ?_))); (case side2 => exact HC0_3.out); rintro e w67 ⟨v110, rfl, ho0, hb⟩; refine ⟨_, rfl, ?_⟩; have qb_ := below_both bel hb; have n0_ := Aside0.mk (Kd.R_lower ho0 qb_.2); have n1_ := Aside0.mk (blk_below (g := gb101) (o := .cells #[.int .i64 a0_0, .int .i64 a0_1, .int .i64 a0_2, .slice A0_3 l0_3.length c0_3] 25 (0, 0)) blkx hb); have n2_ := Aside0.mk (blk_below (g := gb102) (o := .cells #[.int .i64 0, .int .i64 0, .int .i64 0, .slice none 0 0] 25 (0, 0)) blkx hb); have n3_ := Aside0.mk (qb_.1); clear BK101; clear BK102; clear HB; have HO111 := n0_; have BK101 := n1_; have BK102 := n2_; have HB := n3_; clear qb_; clear n0_ n1_ n2_ n3_; (try clear hb); (try clear hb2); (try clear hk); (try clear hi); (try clear ho0); obtain ⟨Ao68, co68, eo68⟩ := Kd.R_slice HO111.out; subst eo68; obtain ⟨hcz69_0, hcz69_1, hcz69_2, hcz69_3, hfz69_0, hfz69_1, hfz69_2, hfz69_3⟩ := cells4 BK101.out) | ((with_reducible refine gate_dst (N := 60) rfl ?_); refine Kd.R_lit k39 _ 39 ?hg (N := 60) ?hd (xs := ([(⟨a1, 0⟩ : S39)] : List (S39))) (inner := [.int .i64 a1, .int .i64 0]) (ok := fun _ => True) (okp := fun _ => True) ?hr ?hp (fun _ hk => hk) trivial (Below.refl _ _) (Nat.le_refl _) (by simp) ?_; (case hd => rfl); (case hg => rfl); (case hr => first | (go_simp; done) | (go_simp; rfl)); (case hp => exact (Reps.c2 (show Kd.M k39 _ _ _ (⟨a1, 0⟩ : S39) [.int .i64 a1, .int .i64 0] from (k39_mkM _ _ _ (⟨a1, 0⟩ : S39) )) (Reps.none _ _))); intro v115 w70 ho71 hb hg_ hnew_; clear hg_ hnew_; (first | rw [← Ny114.out] at ho71 | (simp only [Int.reduceToNat] at ho71; rw [← Ny114.out] at ho71)); have qb_ := below_both bel hb; have q1_ := Kd.R_elder2 (by (with_reducible repeat (first | apply Kd.R_alloc | apply Kd.R_drewN | apply Kd.R_drew)); exact (Kd.R_mono (Kd.R_far (p := ⟨gb101, 3, none⟩) (Kd.R_types HO111.out BK101.out (by decide)) (fun _ hk => hk.2) (.slice Ao68 t109.length co68)) (fun _ h_ => h_.1))) (Kd.R_base ho71) hb; have n0_ := Aside0.mk (q1_.1); have n1_ := Aside0.mk (Kd.R_lower (Kd.R_new' ho71 q1_.2) qb_.2); have n2_ := Aside0.mk (blk_below (g := gb101) (o := .cells #[.int .i64 a0_0, .int .i64 a0_1, .int .i64 a0_2, .slice Ao68 t109.length co68] 25 (0, 0)) (by (with_reducible repeat (first | refine blk_drewN ?_ _ | refine blk_drew ?_ | refine blk_alloc ?_ _)); refine blk_put (cs := #[.int .i64 a0_0, .int .i64 a0_1, .int .i64 a0_2, .slice A0_3 l0_3.length c0_3]) ?_ 3 _ rfl; (with_reducible repeat (first | refine blk_drewN ?_ _ | refine blk_drew ?_ | refine blk_alloc ?_ _)); exact BK101.out) hb); have n3_ := Aside0.mk (blk_below (g := gb102) (o := .cells #[.int .i64 0, .int .i64 0, .int .i64 0, .slice none 0 0] 25 (0, 0)) blkx hb); have n4_ := Aside0.mk (qb_.1); clear HO111; clear BK101; clear BK102; clear HB; have HO111 := n0_; have HO116 := n1_; have BK101 := n2_; have BK102 := n3_; have HB := n4_; clear q1_; clear qb_; clear n0_ n1_ n2_ n3_ n4_; clear hb ho71; obtain ⟨Ao72, co72, eo72⟩ := Kd.R_slice HO116.out; subst eo72) | ((with_reducible refine gate_callee (f := 39) rfl ?_); refine goesL_ (some 61) rfl rfl Try.func39 (by kernel_rfl) rfl #[.slice Ao68 t109.length co68, .int .i64 t107, .slice Ao72 y114.length co72] rfl argx ?_; (with_reducible refine (slices_Insert.calls (fun k_ => some k_ = (.slice Ao68 t109.length co68 : Value).ownBlock) (.slice Ao68 t109.length co68) t109 t107 (fun k_ => some k_ = (.slice Ao72 y114.length co72 : Value).ownBlock) (.slice Ao72 y114.length co72) y114 t117 w _ ?side1 ?side2 ?side3 ?side4 ?side5 A59.out).mono ?_); (case side1 => repeat (first | (with_reducible first | exact HB.out | apply below_alloc | apply pw_below_drewN | apply below_drew1 | refine below_set ?_ GE101.out | refine below_set ?_ GE102.out) | exact HB.out)); (case side2 => exact Kd.R_tight rfl HO111.out); (case side3 => exact fun k_ e_ => (HO111.out.1 k_ e_.symm).2); (case side4 => exact Kd.R_tight rfl HO116.out); (case side5 => exact fun k_ e_ => (HO116.out.1 k_ e_.symm).2); rintro e w73 ⟨v118, rfl, ho0, hb, hkp⟩; refine ⟨_, rfl, ?_⟩; have n0_ := Aside0.mk (blk_kept blkx hkp (fun hs_ => Or.elim hs_ (fun e_ => (fun e_ => (Kd.R_ne HO111.out BK101.out (by decide)) e_) e_) (fun e_ => (fun e_ => (Kd.R_ne HO116.out BK101.out (by decide)) e_) e_))); have n1_ := Aside0.mk (blk_kept blkx hkp (fun hs_ => Or.elim hs_ (fun e_ => (fun e_ => (Kd.R_ne HO111.out BK102.out (by decide)) e_) e_) (fun e_ => (fun e_ => (Kd.R_ne HO116.out BK102.out (by decide)) e_) e_))); have n2_ := Aside0.mk (Kd.R_mono (ok' := fun k_ => True) ho0 (fun k_ hk_ => trivial)); have n3_ := Aside0.mk (hb); clear BK101; clear BK102; clear HB; clear HO111; clear HO116; have BK101 := n0_; have BK102 := n1_; have HO119 := n2_; have HB := n3_; clear n0_ n1_ n2_ n3_; (try clear hb); (try clear hkp); (try clear ho0); obtain ⟨Ao74, co74, eo74⟩ := Kd.R_slice HO119.out; subst eo74; obtain ⟨hcz75_0, hcz75_1, hcz75_2, hcz75_3, hfz75_0, hfz75_1, hfz75_2, hfz75_3⟩ := cells4 BK101.out) | ((with_reducible refine gate_store (t := 23) (p := 62) rfl ?_); refine store_event (t := 23) (p := 62) (v := ?vo_w76) (w1 := (w73.setCell ⟨gb101, 3, none⟩ (.slice Ao74 t117.length co74))) ?hg ?ho ?hn ?hr ?_; (case ho => rfl); (case hg => rfl); (case hn => rfl); (case hr => first | (go_simp; done) | (go_simp; rfl)); intro w76 hw; have n0_ : Aside0 (Kd.R k39 39 w76 w.heap.size (fun _ => True) (.slice Ao74 t117.length co74) t117) := ⟨(by rw [hw]; exact (by (with_reducible repeat (first | apply Kd.R_alloc | apply Kd.R_drewN | apply Kd.R_drew)); exact Kd.R_mono (Kd.R_far (p := ⟨gb101, 3, none⟩) (Kd.R_types HO119.out BK101.out (by decide)) (fun _ hk => hk.2) (.slice Ao74 t117.length co74)) (fun _ hk => trivial)))⟩; have n1_ : Aside0 (w76.heap[gb101]? = some (.cells #[.int .i64 a0_0, .int .i64 a0_1, .int .i64 a0_2, .slice Ao74 t117.length co74] 25 (0, 0))) := ⟨(by rw [hw]; exact (by (with_reducible repeat (first | refine blk_drewN ?_ _ | refine blk_drew ?_ | refine blk_alloc ?_ _)); refine blk_put (cs := #[.int .i64 a0_0, .int .i64 a0_1, .int .i64 a0_2, .slice Ao68 t109.length co68]) ?_ 3 _ rfl; (with_reducible repeat (first | refine blk_drewN ?_ _ | refine blk_drew ?_ | refine blk_alloc ?_ _)); exact BK101.out))⟩; have n2_ : Aside0 (w76.heap[gb102]? = some (.cells #[.int .i64 0, .int .i64 0, .int .i64 0, .slice none 0 0] 25 (0, 0))) := ⟨(by rw [hw]; exact blkx)⟩; have n3_ : Aside0 (Below w.heap.size w w76) := ⟨(by rw [hw]; exact bel)⟩; clear hw; clear HO119; clear BK101; clear BK102; clear HB; have HO119 := n0_; have BK101 := n1_; have BK102 := n2_; have HB := n3_; clear n0_ n1_ n2_ n3_; obtain ⟨hcz77_0, hcz77_1, hcz77_2, hcz77_3, hfz77_0, hfz77_1, hfz77_2, hfz77_3⟩ := cells4 BK101.out; have p62 : 0 ≤ (t107 : Int) := of_decide_eq_true (by first | (with_reducible assumption) | assumption); have q62 : (t107 : Int) < ((t117.length : Int) : Int) := of_decide_eq_true (by first | (with_reducible assumption) | assumption); obtain ⟨go62, co62, eo62, gb62, gl62, cl62, HG62⟩ := Kd.R_form HO119.out (by omega); (first | cases eo62 | (injection eo62 with ea_ en_ ec_; (first | subst ea_ | (injection ea_ with ea_; subst ea_)); subst ec_; clear en_)); have GB62 := Aside0.mk gb62; have GG62 := Aside0.mk HG62; clear gb62 gl62 HG62; obtain ⟨ce62, hcl62, hM62, hcc62, hfr62⟩ := Kd.R_elem HO119.out z39 (t107 : Int) p62 q62; obtain rfl := k39_openM hM62; have hx62_0 : w76.cell? ⟨go62, (t107 : Int).toNat * 2, none⟩ = some (.int .i64 ((rd_T39 t117 t107).f0)) := hcc62 0 _ rfl; have hx62_1 : w76.cell? ⟨go62, (t107 : Int).toNat * 2 + 1, none⟩ = some (.int .i64 ((rd_T39 t117 t107).f1)) := hcc62 1 _ rfl; have hf62_0 : w76.frozen? ⟨go62, (t107 : Int).toNat * 2, none⟩ = false := hfr62 0; have hf62_1 : w76.frozen? ⟨go62, (t107 : Int).toNat * 2 + 1, none⟩ = false := hfr62 1; clear hcl62 hcc62 hfr62 hM62; replace p62 := eq_true p62; replace q62 := eq_true q62; have HX78 := Aside0.mk (show Kd.R k39 39 w76 w.heap.size (fun _ => True) (.slice (some ⟨go62, 0, none⟩) t117.length co74) t117 from (rowx HO119.out)); obtain ⟨ce78, hcl78, hM78, hcc78, hfr78⟩ := Kd.R_elem HX78.out z39 (t107 : Int) (of_decide_eq_true (by first | (with_reducible assumption) | assumption)) (by have h_ : (t107 : Int) < ((t117.length : Int) : Int) := of_decide_eq_true (by first | (with_reducible assumption) | assumption); first | exact h_ | (have e_ := (Kd.R_reads' HO119.out).1; omega) | simpa using h_); obtain rfl := k39_openM hM78; have HP78 := Kd.R_seg HX78.out (t107 : Int) (of_decide_eq_true (by first | (with_reducible assumption) | assumption)) (by have h_ : (t107 : Int) < ((t117.length : Int) : Int) := of_decide_eq_true (by first | (with_reducible assumption) | assumption); first | exact h_ | (have e_ := (Kd.R_reads' HO119.out).1; omega) | simpa using h_) (seg := [.int .i64 t105]) (j := 1) hcl78 hcc78 (show 2 ≤ 2 from by decide) (x' := (⟨(rd_T39 t117 t107).f0, t105⟩ : S39)) (k39_mkM _ _ _ (⟨(rd_T39 t117 t107).f0, t105⟩ : S39) ) (fun _ hk => hk); have hx78_1 := hcc78 1 _ rfl; (try simp only [show (k39).sz = 2 from rfl, Nat.mul_one, Nat.add_zero] at hx78_1); have hf78_1 := hfr78 1; (try simp only [show (k39).sz = 2 from rfl, Nat.mul_one, Nat.add_zero] at hf78_1); clear hcl78 hcc78 hfr78 hM78) | ((with_reducible refine gate_store (t := 3) (p := 68) rfl ?_); refine store_event (t := 3) (p := 68) (v := ?vo_w79) (w1 := (w76.setCell ⟨go62, (t107 : Int).toNat * 2 + 1, none⟩ (.int .i64 t105))) ?hg ?ho ?hn ?hr ?_; (case ho => rfl); (case hg => rfl); (case hn => rfl); (case hr => first | (go_simp; done) | (go_simp; rfl)); intro w79 hw; have hg : w76.grownBy w79 (some go62) := (by rw [hw]; exact HP78.2); have hp_ : Kd.R k39 39 w79 w.heap.size (fun _ => True) (.slice (some ⟨go62, 0, none⟩) t117.length co74) y120 := (by rw [hw, Ny120.out]; exact HP78.1); clear HP78; have n0_ := Aside0.mk (blk_grown (g := gb101) (o := .cells #[.int .i64 a0_0, .int .i64 a0_1, .int .i64 a0_2, .slice (some ⟨go62, 0, none⟩) t117.length co74] 25 (0, 0)) blkx hg (Kd.R_ne HO119.out BK101.out (by decide))); have n1_ := Aside0.mk (blk_grown (g := gb102) (o := .cells #[.int .i64 0, .int .i64 0, .int .i64 0, .slice none 0 0] 25 (0, 0)) blkx hg (Kd.R_ne HO119.out BK102.out (by decide))); have n2_ := Aside0.mk (hp_); have n3_ := Aside0.mk ((by rw [hw]; exact below_set (HB.out) GB62.out : Below w.heap.size w w79)); clear BK101; clear BK102; clear HO119; clear HB; have BK101 := n0_; have BK102 := n1_; have HO119 := n2_; have HB := n3_; clear n0_ n1_ n2_ n3_; clear hg hw hp_))
           have n0_ := Aside0.mk (Kd.R_drew HO119.out)
           have n1_ := Aside0.mk (blk_drew BK101.out)
           have n2_ := Aside0.mk (blk_drew BK102.out)
           have n3_ := Aside0.mk (below_drew1 HB.out)
           clear HO119
           clear BK101
           clear BK102
           clear HB
           have HO119 := n0_
           have BK101 := n1_
           have BK102 := n2_
           have HB := n3_
           clear n0_ n1_ n2_ n3_
           refine start_ (n := 6) (S := fun w' => w'.cell? ⟨gb101, 0, none⟩ = some (.int .i64 a0_0) ∧ w'.cell? ⟨gb101, 1, none⟩ = some (.int .i64 a0_1) ∧ w'.cell? ⟨gb101, 2, none⟩ = some (.int .i64 a0_2) ∧ w'.cell? ⟨gb101, 3, none⟩ = some (.slice (some ⟨go62, 0, none⟩) t117.length co74)) (ds := []) #[false, false, false, false, false, false] (by kernel_rfl) rfl rfl ⟨(blk_cell BK101.out 0).trans rfl, (blk_cell BK101.out 1).trans rfl, (blk_cell BK101.out 2).trans rfl, (blk_cell BK101.out 3).trans rfl⟩ (fun hHeld => ?_)
           generalize w79.drew = w80 at HO119 BK101 BK102 HB hHeld ⊢
           refine pure_ (i := 0) (N := some 69) (v := ?_) (a' := ?_) #[true, false, false, false, false, false] rfl rfl (by kernel_rfl) (fun _ _ _ h => h) (Or.inl ⟨by rfl, ?_⟩) ?_ ?_
           rotate_left
           ·intro w'
            go_simp
            with_reducible rfl
           rotate_left
           ·simp only [Act.put, List.setIfInBounds_toArray, List.set_cons_zero, List.set_cons_succ, i64_w, i32_w]
            rfl
           refine pure_ (i := 3) (N := some 72) (v := ?_) (a' := ?_) #[true, false, false, true, false, false] rfl rfl (by kernel_rfl) (fun _ _ _ h => h) (Or.inl ⟨by rfl, ?_⟩) ?_ ?_
           rotate_left
           ·intro w'
            go_simp
            with_reducible rfl
           rotate_left
           ·simp only [Act.put, List.setIfInBounds_toArray, List.set_cons_zero, List.set_cons_succ, i64_w, i32_w]
            rfl
           refine take_ (i := 1) (N := some 70) (v := ?_) (a' := ?_) #[true, true, false, true, false, false] rfl rfl (by kernel_rfl) (fun _ _ _ h => h) (Or.inl ⟨by rfl, ?_⟩) hHeld ?_ ?_
           rotate_left
           ·rintro w' ⟨s0, s1, s2, s3⟩
            go_simp
            with_reducible rfl
           rotate_left
           ·simp only [Act.put, List.setIfInBounds_toArray, List.set_cons_zero, List.set_cons_succ, i64_w, i32_w]
            rfl
           refine take_ (i := 4) (N := some 73) (v := ?_) (a' := ?_) #[true, true, false, true, true, false] rfl rfl (by kernel_rfl) (fun _ _ _ h => h) (Or.inl ⟨by rfl, ?_⟩) hHeld ?_ ?_
           rotate_left
           ·rintro w' ⟨s0, s1, s2, s3⟩
            go_simp
            with_reducible rfl
           rotate_left
           ·simp only [Act.put, List.setIfInBounds_toArray, List.set_cons_zero, List.set_cons_succ, i64_w, i32_w]
            rfl
           refine one_ (i := 2) (N := some 71) #[true, true, true, true, true, false] rfl rfl (by kernel_rfl) (by decide) (fun K hK => ?_)
           refine goes_ Try.func35 (by kernel_rfl) rfl #[.slice (some ⟨go62, 0, none⟩) y120.length co74] (by rfl) rfl rfl (by (try simp only [List.map_toArray, List.map_cons, List.map_nil]); first | done | (rw [show y120.length = t117.length from (Kd.R_reads' HO119.out).1.symm] <;> rfl) | rfl | (simp only [List.length_drop, List.length_take]; rfl)) ?_
           with_reducible refine (guarantee_sum.calls kj10 _ _ y120 t121 _ ?side1 ?side2 A63.out).mono ?_
           (case side1 => repeat (first | exact (Kd.R_reads' HO119.out).2.2 | (with_reducible refine Kd.C_alloc ?_ _) | (with_reducible refine Kd.C_drewN ?_ _) | (with_reducible refine Kd.C_drew ?_)))
           (case side2 => rw [show y120.length = t117.length from (Kd.R_reads' HO119.out).1.symm]; exact (Kd.R_reads' HO119.out).2.1)
           rintro e w81 ⟨rfl, hb⟩
           refine ⟨_, rfl, ?_⟩
           have n0_ := Aside0.mk (Kd.R_below (rowx HO119.out) hb)
           have n1_ := Aside0.mk (blk_below (g := gb101) (o := .cells #[.int .i64 a0_0, .int .i64 a0_1, .int .i64 a0_2, .slice (some ⟨go62, 0, none⟩) t117.length co74] 25 (0, 0)) blkx hb)
           have n2_ := Aside0.mk (blk_below (g := gb102) (o := .cells #[.int .i64 0, .int .i64 0, .int .i64 0, .slice none 0 0] 25 (0, 0)) blkx hb)
           have n3_ := Aside0.mk (below_step bel hb)
           clear HO119
           clear BK101
           clear BK102
           clear HB
           have HO119 := n0_
           have BK101 := n1_
           have BK102 := n2_
           have HB := n3_
           clear n0_ n1_ n2_ n3_
           (try clear hb)
           (try clear hb2)
           (try clear hk)
           (try clear hi)
           refine hK.out _ _ ⟨(blk_cell BK101.out 0).trans rfl, (blk_cell BK101.out 1).trans rfl, (blk_cell BK101.out 2).trans rfl, (blk_cell BK101.out 3).trans rfl⟩ (fun hHeld => ?_)
           clear hK K
           refine norm_ (a' := ?_) ?_ ?_
           rotate_left
           ·show Act.put _ (some 71) _ = _
            simp only [Act.put, List.setIfInBounds_toArray, List.set_cons_zero, List.set_cons_succ, i64_w, i32_w]
            rfl
           refine pure_ (i := 5) (N := some 74) (v := ?_) (a' := ?_) #[true, true, true, true, true, true] rfl rfl (by kernel_rfl) (fun _ _ _ h => h) (Or.inl ⟨by rfl, ?_⟩) ?_ ?_
           rotate_left
           ·intro w'
            go_simp
            with_reducible rfl
           rotate_left
           ·simp only [Act.put, List.setIfInBounds_toArray, List.set_cons_zero, List.set_cons_succ, i64_w, i32_w]
            rfl
           refine done_ (by kernel_rfl) ?_
           obtain ⟨hcz82_0, hcz82_1, hcz82_2, hcz82_3, hfz82_0, hfz82_1, hfz82_2, hfz82_3⟩ := cells4 BK102.out
           try go_wp2
           refine bodyPost_ret (results_ct rfl _ _ gb102 25 #[.int .i64 0, .int .i64 0, .int .i64 0, .slice none 0 0] (0, 0) _ rfl (by (with_reducible repeat (first | refine blk_drewN ?_ _ | refine blk_drew ?_ | refine blk_alloc ?_ _)); refine blk_put (cs := #[.int .i64 0, .int .i64 0, .int .i64 0, .slice none 0 0]) ?_ 3 _ rfl; refine blk_put (cs := #[.int .i64 0, .int .i64 0, .int .i64 0, .slice none 0 0]) ?_ 2 _ rfl; refine blk_put (cs := #[.int .i64 0, .int .i64 0, .int .i64 0, .slice none 0 0]) ?_ 1 _ rfl; refine blk_put (cs := #[.int .i64 0, .int .i64 0, .int .i64 0, .slice none 0 0]) ?_ 0 _ rfl; (with_reducible repeat (first | refine blk_drewN ?_ _ | refine blk_drew ?_ | refine blk_alloc ?_ _)); exact BK102.out) Try.underlying25 rfl (by kernel_rfl)) rfl ?_
           exact ⟨_, by first | rfl | (simp [errW_none, errW_some] <;> rfl) | (simp [*, errW_none, errW_some] <;> rfl), by first | exact Kd.R_nil _ _ _ _ _ | exact Kd.N_nil _ _ _ _ _ | exact Kd.V_nil _ _ _ _ _ | exact Kd.Q_nil _ _ _ _ _ | exact Kd.S_nil _ _ _ _ _, bel⟩
          ·rw [if_neg c64] at H
           have c64b0 : decide (a0_1 < t121) = false := decide_eq_false c64
           clear c64
           simp only [Option.some.injEq, Prod.mk.injEq] at H
           obtain ⟨rfl, rfl, rfl, rfl, rfl⟩ := H
           have hnb83 := NB101_102.out
           have hnc83 := NB102_101.out
           obtain ⟨hcz84_0, hcz84_1, hcz84_2, hcz84_3, hfz84_0, hfz84_1, hfz84_2, hfz84_3⟩ := cells4 BK101.out
           try go_wp2_with (first | ((with_reducible refine gate_callee (f := 38) rfl ?_); refine goesL_ (some 51) rfl rfl Try.func38 (by kernel_rfl) rfl #[.slice A0_3 l0_3.length c0_3] rfl argx ?_; (with_reducible refine (slices_Clone.calls _ _ l0_3 t109 _ ?side1 ?side2 A27.out).mono ?_); (case side1 => repeat (first | exact (Kd.C_below HR0_3.out HB.out) | (with_reducible refine Kd.C_alloc ?_ _) | (with_reducible refine Kd.C_drewN ?_ _) | (with_reducible refine Kd.C_drew ?_))); (case side2 => exact HC0_3.out); rintro e w85 ⟨v110, rfl, ho0, hb⟩; refine ⟨_, rfl, ?_⟩; have qb_ := below_both bel hb; have n0_ := Aside0.mk (Kd.R_lower ho0 qb_.2); have n1_ := Aside0.mk (blk_below (g := gb101) (o := .cells #[.int .i64 a0_0, .int .i64 a0_1, .int .i64 a0_2, .slice A0_3 l0_3.length c0_3] 25 (0, 0)) blkx hb); have n2_ := Aside0.mk (blk_below (g := gb102) (o := .cells #[.int .i64 0, .int .i64 0, .int .i64 0, .slice none 0 0] 25 (0, 0)) blkx hb); have n3_ := Aside0.mk (qb_.1); clear BK101; clear BK102; clear HB; have HO111 := n0_; have BK101 := n1_; have BK102 := n2_; have HB := n3_; clear qb_; clear n0_ n1_ n2_ n3_; (try clear hb); (try clear hb2); (try clear hk); (try clear hi); (try clear ho0); obtain ⟨Ao86, co86, eo86⟩ := Kd.R_slice HO111.out; subst eo86; obtain ⟨hcz87_0, hcz87_1, hcz87_2, hcz87_3, hfz87_0, hfz87_1, hfz87_2, hfz87_3⟩ := cells4 BK101.out) | ((with_reducible refine gate_dst (N := 60) rfl ?_); refine Kd.R_lit k39 _ 39 ?hg (N := 60) ?hd (xs := ([(⟨a1, 0⟩ : S39)] : List (S39))) (inner := [.int .i64 a1, .int .i64 0]) (ok := fun _ => True) (okp := fun _ => True) ?hr ?hp (fun _ hk => hk) trivial (Below.refl _ _) (Nat.le_refl _) (by simp) ?_; (case hd => rfl); (case hg => rfl); (case hr => first | (go_simp; done) | (go_simp; rfl)); (case hp => exact (Reps.c2 (show Kd.M k39 _ _ _ (⟨a1, 0⟩ : S39) [.int .i64 a1, .int .i64 0] from (k39_mkM _ _ _ (⟨a1, 0⟩ : S39) )) (Reps.none _ _))); intro v115 w88 ho89 hb hg_ hnew_; clear hg_ hnew_; (first | rw [← Ny114.out] at ho89 | (simp only [Int.reduceToNat] at ho89; rw [← Ny114.out] at ho89)); have qb_ := below_both bel hb; have q1_ := Kd.R_elder2 (by (with_reducible repeat (first | apply Kd.R_alloc | apply Kd.R_drewN | apply Kd.R_drew)); exact (Kd.R_mono (Kd.R_far (p := ⟨gb101, 3, none⟩) (Kd.R_types HO111.out BK101.out (by decide)) (fun _ hk => hk.2) (.slice Ao86 t109.length co86)) (fun _ h_ => h_.1))) (Kd.R_base ho89) hb; have n0_ := Aside0.mk (q1_.1); have n1_ := Aside0.mk (Kd.R_lower (Kd.R_new' ho89 q1_.2) qb_.2); have n2_ := Aside0.mk (blk_below (g := gb101) (o := .cells #[.int .i64 a0_0, .int .i64 a0_1, .int .i64 a0_2, .slice Ao86 t109.length co86] 25 (0, 0)) (by (with_reducible repeat (first | refine blk_drewN ?_ _ | refine blk_drew ?_ | refine blk_alloc ?_ _)); refine blk_put (cs := #[.int .i64 a0_0, .int .i64 a0_1, .int .i64 a0_2, .slice A0_3 l0_3.length c0_3]) ?_ 3 _ rfl; (with_reducible repeat (first | refine blk_drewN ?_ _ | refine blk_drew ?_ | refine blk_alloc ?_ _)); exact BK101.out) hb); have n3_ := Aside0.mk (blk_below (g := gb102) (o := .cells #[.int .i64 0, .int .i64 0, .int .i64 0, .slice none 0 0] 25 (0, 0)) blkx hb); have n4_ := Aside0.mk (qb_.1); clear HO111; clear BK101; clear BK102; clear HB; have HO111 := n0_; have HO116 := n1_; have BK101 := n2_; have BK102 := n3_; have HB := n4_; clear q1_; clear qb_; clear n0_ n1_ n2_ n3_ n4_; clear hb ho89; obtain ⟨Ao90, co90, eo90⟩ := Kd.R_slice HO116.out; subst eo90) | ((with_reducible refine gate_callee (f := 39) rfl ?_); refine goesL_ (some 61) rfl rfl Try.func39 (by kernel_rfl) rfl #[.slice Ao86 t109.length co86, .int .i64 t107, .slice Ao90 y114.length co90] rfl argx ?_; (with_reducible refine (slices_Insert.calls (fun k_ => some k_ = (.slice Ao86 t109.length co86 : Value).ownBlock) (.slice Ao86 t109.length co86) t109 t107 (fun k_ => some k_ = (.slice Ao90 y114.length co90 : Value).ownBlock) (.slice Ao90 y114.length co90) y114 t117 w _ ?side1 ?side2 ?side3 ?side4 ?side5 A59.out).mono ?_); (case side1 => repeat (first | (with_reducible first | exact HB.out | apply below_alloc | apply pw_below_drewN | apply below_drew1 | refine below_set ?_ GE101.out | refine below_set ?_ GE102.out) | exact HB.out)); (case side2 => exact Kd.R_tight rfl HO111.out); (case side3 => exact fun k_ e_ => (HO111.out.1 k_ e_.symm).2); (case side4 => exact Kd.R_tight rfl HO116.out); (case side5 => exact fun k_ e_ => (HO116.out.1 k_ e_.symm).2); rintro e w91 ⟨v118, rfl, ho0, hb, hkp⟩; refine ⟨_, rfl, ?_⟩; have n0_ := Aside0.mk (blk_kept blkx hkp (fun hs_ => Or.elim hs_ (fun e_ => (fun e_ => (Kd.R_ne HO111.out BK101.out (by decide)) e_) e_) (fun e_ => (fun e_ => (Kd.R_ne HO116.out BK101.out (by decide)) e_) e_))); have n1_ := Aside0.mk (blk_kept blkx hkp (fun hs_ => Or.elim hs_ (fun e_ => (fun e_ => (Kd.R_ne HO111.out BK102.out (by decide)) e_) e_) (fun e_ => (fun e_ => (Kd.R_ne HO116.out BK102.out (by decide)) e_) e_))); have n2_ := Aside0.mk (Kd.R_mono (ok' := fun k_ => True) ho0 (fun k_ hk_ => trivial)); have n3_ := Aside0.mk (hb); clear BK101; clear BK102; clear HB; clear HO111; clear HO116; have BK101 := n0_; have BK102 := n1_; have HO119 := n2_; have HB := n3_; clear n0_ n1_ n2_ n3_; (try clear hb); (try clear hkp); (try clear ho0); obtain ⟨Ao92, co92, eo92⟩ := Kd.R_slice HO119.out; subst eo92; obtain ⟨hcz93_0, hcz93_1, hcz93_2, hcz93_3, hfz93_0, hfz93_1, hfz93_2, hfz93_3⟩ := cells4 BK101.out) | ((with_reducible refine gate_store (t := 23) (p := 62) rfl ?_); refine store_event (t := 23) (p := 62) (v := ?vo_w94) (w1 := (w91.setCell ⟨gb101, 3, none⟩ (.slice Ao92 t117.length co92))) ?hg ?ho ?hn ?hr ?_; (case ho => rfl); (case hg => rfl); (case hn => rfl); (case hr => first | (go_simp; done) | (go_simp; rfl)); intro w94 hw; have n0_ : Aside0 (Kd.R k39 39 w94 w.heap.size (fun _ => True) (.slice Ao92 t117.length co92) t117) := ⟨(by rw [hw]; exact (by (with_reducible repeat (first | apply Kd.R_alloc | apply Kd.R_drewN | apply Kd.R_drew)); exact Kd.R_mono (Kd.R_far (p := ⟨gb101, 3, none⟩) (Kd.R_types HO119.out BK101.out (by decide)) (fun _ hk => hk.2) (.slice Ao92 t117.length co92)) (fun _ hk => trivial)))⟩; have n1_ : Aside0 (w94.heap[gb101]? = some (.cells #[.int .i64 a0_0, .int .i64 a0_1, .int .i64 a0_2, .slice Ao92 t117.length co92] 25 (0, 0))) := ⟨(by rw [hw]; exact (by (with_reducible repeat (first | refine blk_drewN ?_ _ | refine blk_drew ?_ | refine blk_alloc ?_ _)); refine blk_put (cs := #[.int .i64 a0_0, .int .i64 a0_1, .int .i64 a0_2, .slice Ao86 t109.length co86]) ?_ 3 _ rfl; (with_reducible repeat (first | refine blk_drewN ?_ _ | refine blk_drew ?_ | refine blk_alloc ?_ _)); exact BK101.out))⟩; have n2_ : Aside0 (w94.heap[gb102]? = some (.cells #[.int .i64 0, .int .i64 0, .int .i64 0, .slice none 0 0] 25 (0, 0))) := ⟨(by rw [hw]; exact blkx)⟩; have n3_ : Aside0 (Below w.heap.size w w94) := ⟨(by rw [hw]; exact bel)⟩; clear hw; clear HO119; clear BK101; clear BK102; clear HB; have HO119 := n0_; have BK101 := n1_; have BK102 := n2_; have HB := n3_; clear n0_ n1_ n2_ n3_; obtain ⟨hcz95_0, hcz95_1, hcz95_2, hcz95_3, hfz95_0, hfz95_1, hfz95_2, hfz95_3⟩ := cells4 BK101.out; have p62 : 0 ≤ (t107 : Int) := of_decide_eq_true (by first | (with_reducible assumption) | assumption); have q62 : (t107 : Int) < ((t117.length : Int) : Int) := of_decide_eq_true (by first | (with_reducible assumption) | assumption); obtain ⟨go62, co62, eo62, gb62, gl62, cl62, HG62⟩ := Kd.R_form HO119.out (by omega); (first | cases eo62 | (injection eo62 with ea_ en_ ec_; (first | subst ea_ | (injection ea_ with ea_; subst ea_)); subst ec_; clear en_)); have GB62 := Aside0.mk gb62; have GG62 := Aside0.mk HG62; clear gb62 gl62 HG62; obtain ⟨ce62, hcl62, hM62, hcc62, hfr62⟩ := Kd.R_elem HO119.out z39 (t107 : Int) p62 q62; obtain rfl := k39_openM hM62; have hx62_0 : w94.cell? ⟨go62, (t107 : Int).toNat * 2, none⟩ = some (.int .i64 ((rd_T39 t117 t107).f0)) := hcc62 0 _ rfl; have hx62_1 : w94.cell? ⟨go62, (t107 : Int).toNat * 2 + 1, none⟩ = some (.int .i64 ((rd_T39 t117 t107).f1)) := hcc62 1 _ rfl; have hf62_0 : w94.frozen? ⟨go62, (t107 : Int).toNat * 2, none⟩ = false := hfr62 0; have hf62_1 : w94.frozen? ⟨go62, (t107 : Int).toNat * 2 + 1, none⟩ = false := hfr62 1; clear hcl62 hcc62 hfr62 hM62; replace p62 := eq_true p62; replace q62 := eq_true q62; have HX96 := Aside0.mk (show Kd.R k39 39 w94 w.heap.size (fun _ => True) (.slice (some ⟨go62, 0, none⟩) t117.length co92) t117 from (rowx HO119.out)); obtain ⟨ce96, hcl96, hM96, hcc96, hfr96⟩ := Kd.R_elem HX96.out z39 (t107 : Int) (of_decide_eq_true (by first | (with_reducible assumption) | assumption)) (by have h_ : (t107 : Int) < ((t117.length : Int) : Int) := of_decide_eq_true (by first | (with_reducible assumption) | assumption); first | exact h_ | (have e_ := (Kd.R_reads' HO119.out).1; omega) | simpa using h_); obtain rfl := k39_openM hM96; have HP96 := Kd.R_seg HX96.out (t107 : Int) (of_decide_eq_true (by first | (with_reducible assumption) | assumption)) (by have h_ : (t107 : Int) < ((t117.length : Int) : Int) := of_decide_eq_true (by first | (with_reducible assumption) | assumption); first | exact h_ | (have e_ := (Kd.R_reads' HO119.out).1; omega) | simpa using h_) (seg := [.int .i64 t105]) (j := 1) hcl96 hcc96 (show 2 ≤ 2 from by decide) (x' := (⟨(rd_T39 t117 t107).f0, t105⟩ : S39)) (k39_mkM _ _ _ (⟨(rd_T39 t117 t107).f0, t105⟩ : S39) ) (fun _ hk => hk); have hx96_1 := hcc96 1 _ rfl; (try simp only [show (k39).sz = 2 from rfl, Nat.mul_one, Nat.add_zero] at hx96_1); have hf96_1 := hfr96 1; (try simp only [show (k39).sz = 2 from rfl, Nat.mul_one, Nat.add_zero] at hf96_1); clear hcl96 hcc96 hfr96 hM96) | ((with_reducible refine gate_store (t := 3) (p := 68) rfl ?_); refine store_event (t := 3) (p := 68) (v := ?vo_w97) (w1 := (w94.setCell ⟨go62, (t107 : Int).toNat * 2 + 1, none⟩ (.int .i64 t105))) ?hg ?ho ?hn ?hr ?_; (case ho => rfl); (case hg => rfl); (case hn => rfl); (case hr => first | (go_simp; done) | (go_simp; rfl)); intro w97 hw; have hg : w94.grownBy w97 (some go62) := (by rw [hw]; exact HP96.2); have hp_ : Kd.R k39 39 w97 w.heap.size (fun _ => True) (.slice (some ⟨go62, 0, none⟩) t117.length co92) y120 := (by rw [hw, Ny120.out]; exact HP96.1); clear HP96; have n0_ := Aside0.mk (blk_grown (g := gb101) (o := .cells #[.int .i64 a0_0, .int .i64 a0_1, .int .i64 a0_2, .slice (some ⟨go62, 0, none⟩) t117.length co92] 25 (0, 0)) blkx hg (Kd.R_ne HO119.out BK101.out (by decide))); have n1_ := Aside0.mk (blk_grown (g := gb102) (o := .cells #[.int .i64 0, .int .i64 0, .int .i64 0, .slice none 0 0] 25 (0, 0)) blkx hg (Kd.R_ne HO119.out BK102.out (by decide))); have n2_ := Aside0.mk (hp_); have n3_ := Aside0.mk ((by rw [hw]; exact below_set (HB.out) GB62.out : Below w.heap.size w w97)); clear BK101; clear BK102; clear HO119; clear HB; have BK101 := n0_; have BK102 := n1_; have HO119 := n2_; have HB := n3_; clear n0_ n1_ n2_ n3_; clear hg hw hp_))
           have n0_ := Aside0.mk (Kd.R_drew HO119.out)
           have n1_ := Aside0.mk (blk_drew BK101.out)
           have n2_ := Aside0.mk (blk_drew BK102.out)
           have n3_ := Aside0.mk (below_drew1 HB.out)
           clear HO119
           clear BK101
           clear BK102
           clear HB
           have HO119 := n0_
           have BK101 := n1_
           have BK102 := n2_
           have HB := n3_
           clear n0_ n1_ n2_ n3_
           refine start_ (n := 6) (S := fun w' => w'.cell? ⟨gb101, 0, none⟩ = some (.int .i64 a0_0) ∧ w'.cell? ⟨gb101, 1, none⟩ = some (.int .i64 a0_1) ∧ w'.cell? ⟨gb101, 2, none⟩ = some (.int .i64 a0_2) ∧ w'.cell? ⟨gb101, 3, none⟩ = some (.slice (some ⟨go62, 0, none⟩) t117.length co92)) (ds := []) #[false, false, false, false, false, false] (by kernel_rfl) rfl rfl ⟨(blk_cell BK101.out 0).trans rfl, (blk_cell BK101.out 1).trans rfl, (blk_cell BK101.out 2).trans rfl, (blk_cell BK101.out 3).trans rfl⟩ (fun hHeld => ?_)
           generalize w97.drew = w98 at HO119 BK101 BK102 HB hHeld ⊢
           refine pure_ (i := 0) (N := some 69) (v := ?_) (a' := ?_) #[true, false, false, false, false, false] rfl rfl (by kernel_rfl) (fun _ _ _ h => h) (Or.inl ⟨by rfl, ?_⟩) ?_ ?_
           rotate_left
           ·intro w'
            go_simp
            with_reducible rfl
           rotate_left
           ·simp only [Act.put, List.setIfInBounds_toArray, List.set_cons_zero, List.set_cons_succ, i64_w, i32_w]
            rfl
           refine pure_ (i := 3) (N := some 72) (v := ?_) (a' := ?_) #[true, false, false, true, false, false] rfl rfl (by kernel_rfl) (fun _ _ _ h => h) (Or.inl ⟨by rfl, ?_⟩) ?_ ?_
           rotate_left
           ·intro w'
            go_simp
            with_reducible rfl
           rotate_left
           ·simp only [Act.put, List.setIfInBounds_toArray, List.set_cons_zero, List.set_cons_succ, i64_w, i32_w]
            rfl
           refine take_ (i := 1) (N := some 70) (v := ?_) (a' := ?_) #[true, true, false, true, false, false] rfl rfl (by kernel_rfl) (fun _ _ _ h => h) (Or.inl ⟨by rfl, ?_⟩) hHeld ?_ ?_
           rotate_left
           ·rintro w' ⟨s0, s1, s2, s3⟩
            go_simp
            with_reducible rfl
           rotate_left
           ·simp only [Act.put, List.setIfInBounds_toArray, List.set_cons_zero, List.set_cons_succ, i64_w, i32_w]
            rfl
           refine take_ (i := 4) (N := some 73) (v := ?_) (a' := ?_) #[true, true, false, true, true, false] rfl rfl (by kernel_rfl) (fun _ _ _ h => h) (Or.inl ⟨by rfl, ?_⟩) hHeld ?_ ?_
           rotate_left
           ·rintro w' ⟨s0, s1, s2, s3⟩
            go_simp
            with_reducible rfl
           rotate_left
           ·simp only [Act.put, List.setIfInBounds_toArray, List.set_cons_zero, List.set_cons_succ, i64_w, i32_w]
            rfl
           refine one_ (i := 2) (N := some 71) #[true, true, true, true, true, false] rfl rfl (by kernel_rfl) (by decide) (fun K hK => ?_)
           refine goes_ Try.func35 (by kernel_rfl) rfl #[.slice (some ⟨go62, 0, none⟩) y120.length co92] (by rfl) rfl rfl (by (try simp only [List.map_toArray, List.map_cons, List.map_nil]); first | done | (rw [show y120.length = t117.length from (Kd.R_reads' HO119.out).1.symm] <;> rfl) | rfl | (simp only [List.length_drop, List.length_take]; rfl)) ?_
           with_reducible refine (guarantee_sum.calls kj10 _ _ y120 t121 _ ?side1 ?side2 A63.out).mono ?_
           (case side1 => repeat (first | exact (Kd.R_reads' HO119.out).2.2 | (with_reducible refine Kd.C_alloc ?_ _) | (with_reducible refine Kd.C_drewN ?_ _) | (with_reducible refine Kd.C_drew ?_)))
           (case side2 => rw [show y120.length = t117.length from (Kd.R_reads' HO119.out).1.symm]; exact (Kd.R_reads' HO119.out).2.1)
           rintro e w99 ⟨rfl, hb⟩
           refine ⟨_, rfl, ?_⟩
           have n0_ := Aside0.mk (Kd.R_below (rowx HO119.out) hb)
           have n1_ := Aside0.mk (blk_below (g := gb101) (o := .cells #[.int .i64 a0_0, .int .i64 a0_1, .int .i64 a0_2, .slice (some ⟨go62, 0, none⟩) t117.length co92] 25 (0, 0)) blkx hb)
           have n2_ := Aside0.mk (blk_below (g := gb102) (o := .cells #[.int .i64 0, .int .i64 0, .int .i64 0, .slice none 0 0] 25 (0, 0)) blkx hb)
           have n3_ := Aside0.mk (below_step bel hb)
           clear HO119
           clear BK101
           clear BK102
           clear HB
           have HO119 := n0_
           have BK101 := n1_
           have BK102 := n2_
           have HB := n3_
           clear n0_ n1_ n2_ n3_
           (try clear hb)
           (try clear hb2)
           (try clear hk)
           (try clear hi)
           refine hK.out _ _ ⟨(blk_cell BK101.out 0).trans rfl, (blk_cell BK101.out 1).trans rfl, (blk_cell BK101.out 2).trans rfl, (blk_cell BK101.out 3).trans rfl⟩ (fun hHeld => ?_)
           clear hK K
           refine norm_ (a' := ?_) ?_ ?_
           rotate_left
           ·show Act.put _ (some 71) _ = _
            simp only [Act.put, List.setIfInBounds_toArray, List.set_cons_zero, List.set_cons_succ, i64_w, i32_w]
            rfl
           refine pure_ (i := 5) (N := some 74) (v := ?_) (a' := ?_) #[true, true, true, true, true, true] rfl rfl (by kernel_rfl) (fun _ _ _ h => h) (Or.inl ⟨by rfl, ?_⟩) ?_ ?_
           rotate_left
           ·intro w'
            go_simp
            with_reducible rfl
           rotate_left
           ·simp only [Act.put, List.setIfInBounds_toArray, List.set_cons_zero, List.set_cons_succ, i64_w, i32_w]
            rfl
           refine done_ (by kernel_rfl) ?_
           obtain ⟨hcz100_0, hcz100_1, hcz100_2, hcz100_3, hfz100_0, hfz100_1, hfz100_2, hfz100_3⟩ := cells4 BK101.out
           obtain ⟨hcz101_0, hcz101_1, hcz101_2, hcz101_3, hfz101_0, hfz101_1, hfz101_2, hfz101_3⟩ := cells4 BK102.out
           try go_wp2
           refine bodyPost_ret (results_ct rfl _ _ gb102 25 #[.int .i64 a0_0, .int .i64 a0_1, .int .i64 a0_2, .slice (some ⟨go62, 0, none⟩) t117.length co92] (0, 0) _ rfl (by (with_reducible repeat (first | refine blk_drewN ?_ _ | refine blk_drew ?_ | refine blk_alloc ?_ _)); refine blk_put (cs := #[.int .i64 a0_0, .int .i64 a0_1, .int .i64 a0_2, .slice none 0 0]) ?_ 3 _ rfl; refine blk_put (cs := #[.int .i64 a0_0, .int .i64 a0_1, .int .i64 0, .slice none 0 0]) ?_ 2 _ rfl; refine blk_put (cs := #[.int .i64 a0_0, .int .i64 0, .int .i64 0, .slice none 0 0]) ?_ 1 _ rfl; refine blk_put (cs := #[.int .i64 0, .int .i64 0, .int .i64 0, .slice none 0 0]) ?_ 0 _ rfl; (with_reducible repeat (first | refine blk_drewN ?_ _ | refine blk_drew ?_ | refine blk_alloc ?_ _)); exact BK102.out) Try.underlying25 rfl (by kernel_rfl)) rfl ?_
           exact ⟨_, by first | rfl | (simp [errW_none, errW_some] <;> rfl) | (simp [*, errW_none, errW_some] <;> rfl), by (with_reducible repeat (first | apply Kd.R_alloc | apply Kd.R_drewN | apply Kd.R_drew)); exact Kd.R_mono (Kd.R_far (p := ⟨gb102, 3, none⟩) (Kd.R_far (p := ⟨gb102, 2, none⟩) (Kd.R_far (p := ⟨gb102, 1, none⟩) (Kd.R_far (p := ⟨gb102, 0, none⟩) (Kd.R_types HO119.out BK102.out (by decide)) (fun _ hk => hk.2) (.int .i64 a0_0)) (fun _ hk => hk.2) (.int .i64 a0_1)) (fun _ hk => hk.2) (.int .i64 a0_2)) (fun _ hk => hk.2) (.slice (some ⟨go62, 0, none⟩) t117.length co92)) (fun _ hk => trivial), bel⟩
         ·rw [if_neg c61] at H
          exact absurd H (by simp)
        ·rw [if_neg c60] at H
         exact absurd H (by simp)
   ·rw [if_neg c9] at H
    have c9b0 : (t106 == 0) = false := beq_eq_false_iff_ne.mpr c9
    have c9b1 : (t106 != 0) = true := bne_iff_ne.mpr c9
    simp only [Option.some.injEq, Prod.mk.injEq] at H
    obtain ⟨rfl, rfl, rfl, rfl, rfl⟩ := H
    go_enter Try.func19, Try.ntmps19
    go_wp2_with (first | ((with_reducible refine gate_dst (N := 3) rfl ?_); refine box_event ?hg (N := 3) ?hd (cs := #[.int .i64 a0_0, .int .i64 a0_1, .int .i64 a0_2, .slice A0_3 l0_3.length c0_3]) (t := 25) ?hr ?_; (case hd => rfl); (case hg => rfl); (case hr => first | (go_simp; done) | (go_simp; rfl)); intro gb101 hg w102 hbox hb; have qb_ := below_both bel hb; have n0_ := Aside0.mk (qb_.1); have n1_ := Aside0.mk (hbox); have n3_ := Aside0.mk ((by rw [hg]; exact qb_.2 : w.heap.size ≤ gb101)); clear HB; have HB := n0_; have BK101 := n1_; have GE101 := n3_; clear qb_; clear n0_ n1_ n3_; clear hb hbox hg) | ((with_reducible refine gate_dst (N := 6) rfl ?_); refine box_event ?hg (N := 6) ?hd (cs := #[.int .i64 0, .int .i64 0, .int .i64 0, .slice none 0 0]) (t := 25) ?hr ?_; (case hd => rfl); (case hg => rfl); (case hr => first | (go_simp; done) | (go_simp; rfl)); intro gb102 hg w103 hbox hb; have qb_ := below_both bel hb; have q1_ := blk_below2 (g := gb101) (o := .cells #[.int .i64 a0_0, .int .i64 a0_1, .int .i64 a0_2, .slice A0_3 l0_3.length c0_3] 25 (0, 0)) blkx hb; have n0_ := Aside0.mk (q1_.1); have n1_ := Aside0.mk (qb_.1); have n2_ := Aside0.mk (hbox); have n4_ := Aside0.mk ((by rw [hg]; exact qb_.2 : w.heap.size ≤ gb102)); have n5_ := Aside0.mk ((by rw [hg]; exact Nat.ne_of_lt q1_.2 : gb101 ≠ gb102)); have n6_ := Aside0.mk (Ne.symm n5_.out); clear BK101; clear HB; have BK101 := n0_; have HB := n1_; have BK102 := n2_; have GE102 := n4_; have NB101_102 := n5_; have NB102_101 := n6_; clear q1_; clear qb_; clear n0_ n1_ n2_ n4_ n5_ n6_; clear hb hbox hg; have hnb104 := NB101_102.out; have hnc104 := NB102_101.out; obtain ⟨hcz105_0, hcz105_1, hcz105_2, hcz105_3, hfz105_0, hfz105_1, hfz105_2, hfz105_3⟩ := cells4 BK101.out) | ((with_reducible refine gate_callee (f := 11) rfl ?_); refine goesL_ (some 14) rfl rfl Try.func11 (by kernel_rfl) rfl #[.agg #[.int .i64 a0_0, .int .i64 a0_1, .int .i64 a0_2, .slice A0_3 l0_3.length c0_3]] rfl argx ?_; (with_reducible refine (guarantee_Validate.calls k a0_0 a0_1 a0_2 _ _ l0_3 t103 _ ?side1 ?side2 A4.out).mono ?_); (case side1 => repeat (first | exact (Kd.C_below HR0_3.out HB.out) | (with_reducible refine Kd.C_alloc ?_ _) | (with_reducible refine Kd.C_drewN ?_ _) | (with_reducible refine Kd.C_drew ?_))); (case side2 => exact HC0_3.out); rintro e w106 ⟨rfl, hb⟩; refine ⟨_, rfl, ?_⟩; have n0_ := Aside0.mk (blk_below (g := gb101) (o := .cells #[.int .i64 a0_0, .int .i64 a0_1, .int .i64 a0_2, .slice A0_3 l0_3.length c0_3] 25 (0, 0)) blkx hb); have n1_ := Aside0.mk (blk_below (g := gb102) (o := .cells #[.int .i64 0, .int .i64 0, .int .i64 0, .slice none 0 0] 25 (0, 0)) blkx hb); have n2_ := Aside0.mk (below_step bel hb); clear BK101; clear BK102; clear HB; have BK101 := n0_; have BK102 := n1_; have HB := n2_; clear n0_ n1_ n2_; (try clear hb); (try clear hb2); (try clear hk); (try clear hi)) | ((with_reducible refine gate_callee (f := 34) rfl ?_); refine goesL_ (some 20) rfl rfl Try.func34 (by kernel_rfl) rfl #[.int .i64 a1, .int .i64 1, .int .i64 1000000] rfl argx ?_; (with_reducible refine (guarantee_within_int.calls a1 1 1000000 true _ A6.out).mono ?_); rintro e w' ⟨rfl, ⟨nd, rfl⟩⟩; refine ⟨_, rfl, ?_⟩; (try (rw [drewN_self w106]; generalize hq_ : World.drewN w106 _ = w106; have n0_ : Aside0 (w106.heap[gb101]? = some (.cells #[.int .i64 a0_0, .int .i64 a0_1, .int .i64 a0_2, .slice A0_3 l0_3.length c0_3] 25 (0, 0))) := ⟨by rw [← hq_]; exact blkx⟩; have n1_ : Aside0 (w106.heap[gb102]? = some (.cells #[.int .i64 0, .int .i64 0, .int .i64 0, .slice none 0 0] 25 (0, 0))) := ⟨by rw [← hq_]; exact blkx⟩; have n2_ : Aside0 (Below w.heap.size w w106) := ⟨by rw [← hq_]; exact bel⟩; clear BK101 BK102 HB hq_; have BK101 := n0_; have BK102 := n1_; have HB := n2_; clear n0_ n1_ n2_)); obtain ⟨hcz107_0, hcz107_1, hcz107_2, hcz107_3, hfz107_0, hfz107_1, hfz107_2, hfz107_3⟩ := cells4 BK101.out) | ((with_reducible refine gate_callee (f := 17) rfl ?_); refine goesL_ (some 26) rfl rfl Try.func17 (by kernel_rfl) rfl #[.agg #[.int .i64 a0_0, .int .i64 a0_1, .int .i64 a0_2, .slice A0_3 l0_3.length c0_3], .int .i64 a2] rfl argx ?_; (with_reducible refine (guarantee_Required.calls k a0_0 a0_1 a0_2 _ _ l0_3 a2 t105 t106 _ ?side1 ?side2 A8.out).mono ?_); (case side1 => repeat (first | exact (Kd.C_below HR0_3.out HB.out) | (with_reducible refine Kd.C_alloc ?_ _) | (with_reducible refine Kd.C_drewN ?_ _) | (with_reducible refine Kd.C_drew ?_))); (case side2 => exact HC0_3.out); rintro e w108 ⟨rfl, hb⟩; refine ⟨_, rfl, ?_⟩; have n1_ := Aside0.mk (blk_below (g := gb102) (o := .cells #[.int .i64 0, .int .i64 0, .int .i64 0, .slice none 0 0] 25 (0, 0)) blkx hb); have n2_ := Aside0.mk (below_step bel hb); (try clear BK101); clear BK102; clear HB; have BK102 := n1_; have HB := n2_; clear n1_ n2_; (try clear hb); (try clear hb2); (try clear hk); (try clear hi); obtain ⟨hcz109_0, hcz109_1, hcz109_2, hcz109_3, hfz109_0, hfz109_1, hfz109_2, hfz109_3⟩ := cells4 BK102.out))
    refine bodyPost_ret (results_ct rfl _ _ gb102 25 #[.int .i64 0, .int .i64 0, .int .i64 0, .slice none 0 0] (0, 0) _ rfl (by (with_reducible repeat (first | refine blk_drewN ?_ _ | refine blk_drew ?_ | refine blk_alloc ?_ _)); refine blk_put (cs := #[.int .i64 0, .int .i64 0, .int .i64 0, .slice none 0 0]) ?_ 3 _ rfl; refine blk_put (cs := #[.int .i64 0, .int .i64 0, .int .i64 0, .slice none 0 0]) ?_ 2 _ rfl; refine blk_put (cs := #[.int .i64 0, .int .i64 0, .int .i64 0, .slice none 0 0]) ?_ 1 _ rfl; refine blk_put (cs := #[.int .i64 0, .int .i64 0, .int .i64 0, .slice none 0 0]) ?_ 0 _ rfl; (with_reducible repeat (first | refine blk_drewN ?_ _ | refine blk_drew ?_ | refine blk_alloc ?_ _)); exact BK102.out) Try.underlying25 rfl (by kernel_rfl)) rfl ?_
    exact ⟨_, by first | rfl | (simp [errW_none, errW_some] <;> rfl) | (simp [*, errW_none, errW_some] <;> rfl), by first | exact Kd.R_nil _ _ _ _ _ | exact Kd.N_nil _ _ _ _ _ | exact Kd.V_nil _ _ _ _ _ | exact Kd.Q_nil _ _ _ _ _ | exact Kd.S_nil _ _ _ _ _, bel⟩
  ·replace c7 := Bool.eq_false_iff.mpr c7
   subst c7
   have H1 : (some (0, 0, 0, ([] : List (S39)), 2)) = some (r1, r2, r3, r4, r5) := by rw [if_neg (show ¬ (false = true) by decide)] at H; exact H
   clear H
   have H := H1
   clear H1
   simp only [Option.some.injEq, Prod.mk.injEq] at H
   obtain ⟨rfl, rfl, rfl, rfl, rfl⟩ := H
   go_enter Try.func19, Try.ntmps19
   go_wp2_with (first | ((with_reducible refine gate_dst (N := 3) rfl ?_); refine box_event ?hg (N := 3) ?hd (cs := #[.int .i64 a0_0, .int .i64 a0_1, .int .i64 a0_2, .slice A0_3 l0_3.length c0_3]) (t := 25) ?hr ?_; (case hd => rfl); (case hg => rfl); (case hr => first | (go_simp; done) | (go_simp; rfl)); intro gb101 hg w110 hbox hb; have qb_ := below_both bel hb; have n0_ := Aside0.mk (qb_.1); have n1_ := Aside0.mk (hbox); have n3_ := Aside0.mk ((by rw [hg]; exact qb_.2 : w.heap.size ≤ gb101)); clear HB; have HB := n0_; have BK101 := n1_; have GE101 := n3_; clear qb_; clear n0_ n1_ n3_; clear hb hbox hg) | ((with_reducible refine gate_dst (N := 6) rfl ?_); refine box_event ?hg (N := 6) ?hd (cs := #[.int .i64 0, .int .i64 0, .int .i64 0, .slice none 0 0]) (t := 25) ?hr ?_; (case hd => rfl); (case hg => rfl); (case hr => first | (go_simp; done) | (go_simp; rfl)); intro gb102 hg w111 hbox hb; have qb_ := below_both bel hb; have q1_ := blk_below2 (g := gb101) (o := .cells #[.int .i64 a0_0, .int .i64 a0_1, .int .i64 a0_2, .slice A0_3 l0_3.length c0_3] 25 (0, 0)) blkx hb; have n0_ := Aside0.mk (q1_.1); have n1_ := Aside0.mk (qb_.1); have n2_ := Aside0.mk (hbox); have n4_ := Aside0.mk ((by rw [hg]; exact qb_.2 : w.heap.size ≤ gb102)); have n5_ := Aside0.mk ((by rw [hg]; exact Nat.ne_of_lt q1_.2 : gb101 ≠ gb102)); have n6_ := Aside0.mk (Ne.symm n5_.out); clear BK101; clear HB; have BK101 := n0_; have HB := n1_; have BK102 := n2_; have GE102 := n4_; have NB101_102 := n5_; have NB102_101 := n6_; clear q1_; clear qb_; clear n0_ n1_ n2_ n4_ n5_ n6_; clear hb hbox hg; have hnb112 := NB101_102.out; have hnc112 := NB102_101.out; obtain ⟨hcz113_0, hcz113_1, hcz113_2, hcz113_3, hfz113_0, hfz113_1, hfz113_2, hfz113_3⟩ := cells4 BK101.out) | ((with_reducible refine gate_callee (f := 11) rfl ?_); refine goesL_ (some 14) rfl rfl Try.func11 (by kernel_rfl) rfl #[.agg #[.int .i64 a0_0, .int .i64 a0_1, .int .i64 a0_2, .slice A0_3 l0_3.length c0_3]] rfl argx ?_; (with_reducible refine (guarantee_Validate.calls k a0_0 a0_1 a0_2 _ _ l0_3 t103 _ ?side1 ?side2 A4.out).mono ?_); (case side1 => repeat (first | exact (Kd.C_below HR0_3.out HB.out) | (with_reducible refine Kd.C_alloc ?_ _) | (with_reducible refine Kd.C_drewN ?_ _) | (with_reducible refine Kd.C_drew ?_))); (case side2 => exact HC0_3.out); rintro e w114 ⟨rfl, hb⟩; refine ⟨_, rfl, ?_⟩; have n0_ := Aside0.mk (blk_below (g := gb101) (o := .cells #[.int .i64 a0_0, .int .i64 a0_1, .int .i64 a0_2, .slice A0_3 l0_3.length c0_3] 25 (0, 0)) blkx hb); have n1_ := Aside0.mk (blk_below (g := gb102) (o := .cells #[.int .i64 0, .int .i64 0, .int .i64 0, .slice none 0 0] 25 (0, 0)) blkx hb); have n2_ := Aside0.mk (below_step bel hb); clear BK101; clear BK102; clear HB; have BK101 := n0_; have BK102 := n1_; have HB := n2_; clear n0_ n1_ n2_; (try clear hb); (try clear hb2); (try clear hk); (try clear hi)) | ((with_reducible refine gate_callee (f := 34) rfl ?_); refine goesL_ (some 20) rfl rfl Try.func34 (by kernel_rfl) rfl #[.int .i64 a1, .int .i64 1, .int .i64 1000000] rfl argx ?_; (with_reducible refine (guarantee_within_int.calls a1 1 1000000 false _ A6.out).mono ?_); rintro e w' ⟨rfl, ⟨nd, rfl⟩⟩; refine ⟨_, rfl, ?_⟩; (try (rw [drewN_self w114]; generalize hq_ : World.drewN w114 _ = w114; have n0_ : Aside0 (w114.heap[gb101]? = some (.cells #[.int .i64 a0_0, .int .i64 a0_1, .int .i64 a0_2, .slice A0_3 l0_3.length c0_3] 25 (0, 0))) := ⟨by rw [← hq_]; exact blkx⟩; have n1_ : Aside0 (w114.heap[gb102]? = some (.cells #[.int .i64 0, .int .i64 0, .int .i64 0, .slice none 0 0] 25 (0, 0))) := ⟨by rw [← hq_]; exact blkx⟩; have n2_ : Aside0 (Below w.heap.size w w114) := ⟨by rw [← hq_]; exact bel⟩; clear BK101 BK102 HB hq_; have BK101 := n0_; have BK102 := n1_; have HB := n2_; clear n0_ n1_ n2_)); obtain ⟨hcz115_0, hcz115_1, hcz115_2, hcz115_3, hfz115_0, hfz115_1, hfz115_2, hfz115_3⟩ := cells4 BK102.out))
   refine bodyPost_ret (results_ct rfl _ _ gb102 25 #[.int .i64 0, .int .i64 0, .int .i64 0, .slice none 0 0] (0, 0) _ rfl (by (with_reducible repeat (first | refine blk_drewN ?_ _ | refine blk_drew ?_ | refine blk_alloc ?_ _)); refine blk_put (cs := #[.int .i64 0, .int .i64 0, .int .i64 0, .slice none 0 0]) ?_ 3 _ rfl; refine blk_put (cs := #[.int .i64 0, .int .i64 0, .int .i64 0, .slice none 0 0]) ?_ 2 _ rfl; refine blk_put (cs := #[.int .i64 0, .int .i64 0, .int .i64 0, .slice none 0 0]) ?_ 1 _ rfl; refine blk_put (cs := #[.int .i64 0, .int .i64 0, .int .i64 0, .slice none 0 0]) ?_ 0 _ rfl; (with_reducible repeat (first | refine blk_drewN ?_ _ | refine blk_drew ?_ | refine blk_alloc ?_ _)); exact BK102.out) Try.underlying25 rfl (by kernel_rfl)) rfl ?_
   exact ⟨_, by first | rfl | (simp [errW_none, errW_some] <;> rfl) | (simp [*, errW_none, errW_some] <;> rfl), by first | exact Kd.R_nil _ _ _ _ _ | exact Kd.N_nil _ _ _ _ _ | exact Kd.V_nil _ _ _ _ _ | exact Kd.Q_nil _ _ _ _ _ | exact Kd.S_nil _ _ _ _ _, bel⟩
 ·rw [if_neg c5] at H
  have c5b0 : (t103 == 0) = false := beq_eq_false_iff_ne.mpr c5
  have c5b1 : (t103 != 0) = true := bne_iff_ne.mpr c5
  simp only [Option.some.injEq, Prod.mk.injEq] at H
  obtain ⟨rfl, rfl, rfl, rfl, rfl⟩ := H
  go_enter Try.func19, Try.ntmps19
  go_wp2_with (first | ((with_reducible refine gate_dst (N := 3) rfl ?_); refine box_event ?hg (N := 3) ?hd (cs := #[.int .i64 a0_0, .int .i64 a0_1, .int .i64 a0_2, .slice A0_3 l0_3.length c0_3]) (t := 25) ?hr ?_; (case hd => rfl); (case hg => rfl); (case hr => first | (go_simp; done) | (go_simp; rfl)); intro gb101 hg w116 hbox hb; have qb_ := below_both bel hb; have n0_ := Aside0.mk (qb_.1); have n1_ := Aside0.mk (hbox); have n3_ := Aside0.mk ((by rw [hg]; exact qb_.2 : w.heap.size ≤ gb101)); clear HB; have HB := n0_; have BK101 := n1_; have GE101 := n3_; clear qb_; clear n0_ n1_ n3_; clear hb hbox hg) | ((with_reducible refine gate_dst (N := 6) rfl ?_); refine box_event ?hg (N := 6) ?hd (cs := #[.int .i64 0, .int .i64 0, .int .i64 0, .slice none 0 0]) (t := 25) ?hr ?_; (case hd => rfl); (case hg => rfl); (case hr => first | (go_simp; done) | (go_simp; rfl)); intro gb102 hg w117 hbox hb; have qb_ := below_both bel hb; have q1_ := blk_below2 (g := gb101) (o := .cells #[.int .i64 a0_0, .int .i64 a0_1, .int .i64 a0_2, .slice A0_3 l0_3.length c0_3] 25 (0, 0)) blkx hb; have n0_ := Aside0.mk (q1_.1); have n1_ := Aside0.mk (qb_.1); have n2_ := Aside0.mk (hbox); have n4_ := Aside0.mk ((by rw [hg]; exact qb_.2 : w.heap.size ≤ gb102)); have n5_ := Aside0.mk ((by rw [hg]; exact Nat.ne_of_lt q1_.2 : gb101 ≠ gb102)); have n6_ := Aside0.mk (Ne.symm n5_.out); clear BK101; clear HB; have BK101 := n0_; have HB := n1_; have BK102 := n2_; have GE102 := n4_; have NB101_102 := n5_; have NB102_101 := n6_; clear q1_; clear qb_; clear n0_ n1_ n2_ n4_ n5_ n6_; clear hb hbox hg; have hnb118 := NB101_102.out; have hnc118 := NB102_101.out; obtain ⟨hcz119_0, hcz119_1, hcz119_2, hcz119_3, hfz119_0, hfz119_1, hfz119_2, hfz119_3⟩ := cells4 BK101.out) | ((with_reducible refine gate_callee (f := 11) rfl ?_); refine goesL_ (some 14) rfl rfl Try.func11 (by kernel_rfl) rfl #[.agg #[.int .i64 a0_0, .int .i64 a0_1, .int .i64 a0_2, .slice A0_3 l0_3.length c0_3]] rfl argx ?_; (with_reducible refine (guarantee_Validate.calls k a0_0 a0_1 a0_2 _ _ l0_3 t103 _ ?side1 ?side2 A4.out).mono ?_); (case side1 => repeat (first | exact (Kd.C_below HR0_3.out HB.out) | (with_reducible refine Kd.C_alloc ?_ _) | (with_reducible refine Kd.C_drewN ?_ _) | (with_reducible refine Kd.C_drew ?_))); (case side2 => exact HC0_3.out); rintro e w120 ⟨rfl, hb⟩; refine ⟨_, rfl, ?_⟩; have n1_ := Aside0.mk (blk_below (g := gb102) (o := .cells #[.int .i64 0, .int .i64 0, .int .i64 0, .slice none 0 0] 25 (0, 0)) blkx hb); have n2_ := Aside0.mk (below_step bel hb); (try clear BK101); clear BK102; clear HB; have BK102 := n1_; have HB := n2_; clear n1_ n2_; (try clear hb); (try clear hb2); (try clear hk); (try clear hi); obtain ⟨hcz121_0, hcz121_1, hcz121_2, hcz121_3, hfz121_0, hfz121_1, hfz121_2, hfz121_3⟩ := cells4 BK102.out))
  refine bodyPost_ret (results_ct rfl _ _ gb102 25 #[.int .i64 0, .int .i64 0, .int .i64 0, .slice none 0 0] (0, 0) _ rfl (by (with_reducible repeat (first | refine blk_drewN ?_ _ | refine blk_drew ?_ | refine blk_alloc ?_ _)); refine blk_put (cs := #[.int .i64 0, .int .i64 0, .int .i64 0, .slice none 0 0]) ?_ 3 _ rfl; refine blk_put (cs := #[.int .i64 0, .int .i64 0, .int .i64 0, .slice none 0 0]) ?_ 2 _ rfl; refine blk_put (cs := #[.int .i64 0, .int .i64 0, .int .i64 0, .slice none 0 0]) ?_ 1 _ rfl; refine blk_put (cs := #[.int .i64 0, .int .i64 0, .int .i64 0, .slice none 0 0]) ?_ 0 _ rfl; (with_reducible repeat (first | refine blk_drewN ?_ _ | refine blk_drew ?_ | refine blk_alloc ?_ _)); exact BK102.out) Try.underlying25 rfl (by kernel_rfl)) rfl ?_
  exact ⟨_, by first | rfl | (simp [errW_none, errW_some] <;> rfl) | (simp [*, errW_none, errW_some] <;> rfl), by first | exact Kd.R_nil _ _ _ _ _ | exact Kd.N_nil _ _ _ _ _ | exact Kd.V_nil _ _ _ _ _ | exact Kd.Q_nil _ _ _ _ _ | exact Kd.S_nil _ _ _ _ _, bel⟩
def customslaw23_awake.f (k : Nat)  : Option (Bool) := (guarantee_Set.f k 1 100 500000 ([] : List (S39)) 1 101).bind fun bt122 => ((guarantee_Set.f k bt122.1 bt122.2.1 bt122.2.2.1 bt122.2.2.2.1 2 101).bind fun bt130 => (if bt122.2.2.2.2 = 0 then (if bt130.2.2.2.2 = 16 then ((guarantee_Total.f k bt122.1 bt122.2.1 bt122.2.2.1 bt122.2.2.2.1).bind fun t138 => (some (t138 == 51))) else (some false)) else (some false)))
theorem customslaw23_awake.mono : ∀ k, LeO (customslaw23_awake.f k ) (customslaw23_awake.f (k + 1) ) := by
 intro  k
 unfold customslaw23_awake.f
 repeat' first
   | (with_reducible exact guarantee_Set.mono _ _ _ _ _ _ _)
   | (with_reducible exact guarantee_Total.mono _ _ _ _ _)
   | (with_reducible exact LeO.refl _)
   | (with_reducible exact LeO.none _)
   | (with_reducible refine LeO.ite ?_ ?_)
   | (with_reducible refine LeO.bind ?_ (fun _ => ?_))
set_option maxHeartbeats 8000000 in
set_option maxRecDepth 100000 in
theorem customslaw23_awake.calls (k : Nat)  (r : Bool) (w : World) (h : customslaw23_awake.f k  = some r) :
  Calls Try.prog 15 #[] w fun e w' => e = .returned (.bool r) ∧ Below w.heap.size w w' := by
 have hu25 := Try.underlying25
 have HB := Aside0.mk (Below.refl w.heap.size w)
 have H : ((guarantee_Set.f k 1 100 500000 ([] : List (S39)) 1 101).bind fun bt122 => ((guarantee_Set.f k bt122.1 bt122.2.1 bt122.2.2.1 bt122.2.2.2.1 2 101).bind fun bt130 => (if bt122.2.2.2.2 = 0 then (if bt130.2.2.2.2 = 16 then ((guarantee_Total.f k bt122.1 bt122.2.1 bt122.2.2.1 bt122.2.2.2.1).bind fun t138 => (some (t138 == 51))) else (some false)) else (some false)))) = some r := h
 clear h
 replace H := Option.bind_eq_some_iff.mp H
 obtain ⟨⟨t122, t123, t124, t125, t128⟩, A10, H⟩ := H
 replace H : ((guarantee_Set.f k t122 t123 t124 t125 2 101).bind fun bt130 => (if t128 = 0 then (if bt130.2.2.2.2 = 16 then ((guarantee_Total.f k t122 t123 t124 t125).bind fun t138 => (some (t138 == 51))) else (some false)) else (some false))) = some r := H
 have A1 := Aside0.mk A10
 clear A10
 replace H := Option.bind_eq_some_iff.mp H
 obtain ⟨⟨t130, t131, t132, t133, t136⟩, A20, H⟩ := H
 replace H : (if t128 = 0 then (if t136 = 16 then ((guarantee_Total.f k t122 t123 t124 t125).bind fun t138 => (some (t138 == 51))) else (some false)) else (some false)) = some r := H
 have A2 := Aside0.mk A20
 clear A20
 by_cases c3 : t128 = 0
 ·rw [if_pos c3] at H
  have c3b0 : (t128 == 0) = true := beq_iff_eq.mpr c3
  have c3b1 : (t128 != 0) = false := bne_eq_false_iff_eq.mpr c3
  clear c3
  by_cases c4 : t136 = 16
  ·rw [if_pos c4] at H
   have c4b0 : (t136 == 16) = true := beq_iff_eq.mpr c4
   have c4b1 : (t136 != 16) = false := bne_eq_false_iff_eq.mpr c4
   clear c4
   replace H := Option.bind_eq_some_iff.mp H
   obtain ⟨t138, A50, H⟩ := H
   replace H : (some (t138 == 51)) = some r := H
   have A5 := Aside0.mk A50
   clear A50
   obtain rfl := Option.some.inj H
   go_enter Try.func15, Try.ntmps15
   go_wp2_with (first | ((with_reducible refine gate_callee (f := 19) rfl ?_); refine goesL_ (some 7) rfl rfl Try.func19 (by kernel_rfl) rfl #[.agg #[.int .i64 1, .int .i64 100, .int .i64 500000, .slice none 0 0], .int .i64 1, .int .i64 101] rfl argx ?_; (refine (guarantee_Set.calls k 1 100 500000 _ _ ([] : List (S39)) 1 101 t122 t123 t124 t125 t128 _ ?side1 ?side2 A1.out).mono ?_); (case side1 => exact Kd.C_nil _ _); (case side2 => exact Nat.le_refl _); rintro e w6 ⟨v126, rfl, ho0, hb⟩; refine ⟨_, rfl, ?_⟩; have qb_ := below_both bel hb; have n0_ := Aside0.mk (Kd.R_lower ho0 qb_.2); have n1_ := Aside0.mk (qb_.1); clear HB; have HO127 := n0_; have HB := n1_; clear qb_; clear n0_ n1_; (try clear hb); (try clear hb2); (try clear hk); (try clear hi); (try clear ho0)) | ((with_reducible refine gate_dst (N := 1) rfl ?_); refine box_event ?hg (N := 1) ?hd (cs := #[.int .i64 0, .int .i64 0, .int .i64 0, .slice none 0 0]) (t := 25) ?hr ?_; (case hd => rfl); (case hg => rfl); (case hr => first | (go_simp; done) | (go_simp; rfl)); intro gb129 hg w7 hbox hb; have qb_ := below_both bel hb; have n0_ := Aside0.mk (Kd.R_below (rowx HO127.out) hb); have n1_ := Aside0.mk (qb_.1); have n2_ := Aside0.mk (hbox); have n4_ := Aside0.mk ((by rw [hg]; exact qb_.2 : w.heap.size ≤ gb129)); clear HO127; clear HB; have HO127 := n0_; have HB := n1_; have BK129 := n2_; have GE129 := n4_; clear qb_; clear n0_ n1_ n2_ n4_; clear hb hbox hg; obtain ⟨hcz8_0, hcz8_1, hcz8_2, hcz8_3, hfz8_0, hfz8_1, hfz8_2, hfz8_3⟩ := cells4 BK129.out; obtain ⟨Ao9, co9, eo9⟩ := Kd.R_slice HO127.out; subst eo9) | ((with_reducible refine gate_callee (f := 19) rfl ?_); refine goesL_ (some 12) rfl rfl Try.func19 (by kernel_rfl) rfl #[.agg #[.int .i64 t122, .int .i64 t123, .int .i64 t124, .slice Ao9 t125.length co9], .int .i64 2, .int .i64 101] rfl argx ?_; (with_reducible refine (guarantee_Set.calls k t122 t123 t124 _ _ t125 2 101 t130 t131 t132 t133 t136 _ ?side1 ?side2 A2.out).mono ?_); (case side1 => refine (Kd.R_reads' (e := 39) (base := w.heap.size) (ok := fun k_ => True) (n := t125.length) (c := co9) ?_).2.2; exact (by (with_reducible repeat (first | apply Kd.R_alloc | apply Kd.R_drewN | apply Kd.R_drew)); exact (Kd.R_mono (Kd.R_far (p := ⟨gb129, 3, none⟩) (Kd.R_far (p := ⟨gb129, 2, none⟩) (Kd.R_far (p := ⟨gb129, 1, none⟩) (Kd.R_far (p := ⟨gb129, 0, none⟩) (Kd.R_types HO127.out BK129.out (by decide)) (fun _ hk => hk.2) (.int .i64 t122)) (fun _ hk => hk.2) (.int .i64 t123)) (fun _ hk => hk.2) (.int .i64 t124)) (fun _ hk => hk.2) (.slice Ao9 t125.length co9)) (fun _ h_ => h_.1)))); (case side2 => exact (Kd.R_reads' HO127.out).2.1); rintro e w10 ⟨v134, rfl, ho0, hb⟩; refine ⟨_, rfl, ?_⟩; have qb_ := below_both bel hb; have q1_ := Kd.R_elder2 (by (with_reducible repeat (first | apply Kd.R_alloc | apply Kd.R_drewN | apply Kd.R_drew)); exact (Kd.R_mono (Kd.R_far (p := ⟨gb129, 3, none⟩) (Kd.R_far (p := ⟨gb129, 2, none⟩) (Kd.R_far (p := ⟨gb129, 1, none⟩) (Kd.R_far (p := ⟨gb129, 0, none⟩) (Kd.R_types HO127.out BK129.out (by decide)) (fun _ hk => hk.2) (.int .i64 t122)) (fun _ hk => hk.2) (.int .i64 t123)) (fun _ hk => hk.2) (.int .i64 t124)) (fun _ hk => hk.2) (.slice Ao9 t125.length co9)) (fun _ h_ => h_.1))) (Kd.R_base ho0) hb; have n0_ := Aside0.mk (q1_.1); have n1_ := Aside0.mk (Kd.R_lower (Kd.R_new' ho0 q1_.2) qb_.2); have n2_ := Aside0.mk (blk_below (g := gb129) (o := .cells #[.int .i64 t122, .int .i64 t123, .int .i64 t124, .slice Ao9 t125.length co9] 25 (0, 0)) (by (with_reducible repeat (first | refine blk_drewN ?_ _ | refine blk_drew ?_ | refine blk_alloc ?_ _)); refine blk_put (cs := #[.int .i64 t122, .int .i64 t123, .int .i64 t124, .slice none 0 0]) ?_ 3 _ rfl; refine blk_put (cs := #[.int .i64 t122, .int .i64 t123, .int .i64 0, .slice none 0 0]) ?_ 2 _ rfl; refine blk_put (cs := #[.int .i64 t122, .int .i64 0, .int .i64 0, .slice none 0 0]) ?_ 1 _ rfl; refine blk_put (cs := #[.int .i64 0, .int .i64 0, .int .i64 0, .slice none 0 0]) ?_ 0 _ rfl; (with_reducible repeat (first | refine blk_drewN ?_ _ | refine blk_drew ?_ | refine blk_alloc ?_ _)); exact BK129.out) hb); have n3_ := Aside0.mk (qb_.1); clear HO127; clear BK129; clear HB; have HO127 := n0_; have HO135 := n1_; have BK129 := n2_; have HB := n3_; clear q1_; clear qb_; clear n0_ n1_ n2_ n3_; (try clear hb); (try clear hb2); (try clear hk); (try clear hi); (try clear ho0)) | ((with_reducible refine gate_dst (N := 3) rfl ?_); refine box_event ?hg (N := 3) ?hd (cs := #[.int .i64 0, .int .i64 0, .int .i64 0, .slice none 0 0]) (t := 25) ?hr ?_; (case hd => rfl); (case hg => rfl); (case hr => first | (go_simp; done) | (go_simp; rfl)); intro gb137 hg w11 hbox hb; have qb_ := below_both bel hb; have n0_ := Aside0.mk (Kd.R_below (rowx HO127.out) hb); have n1_ := Aside0.mk (Kd.R_below (rowx HO135.out) hb); have q1_ := blk_below2 (g := gb129) (o := .cells #[.int .i64 t122, .int .i64 t123, .int .i64 t124, .slice Ao9 t125.length co9] 25 (0, 0)) blkx hb; have n2_ := Aside0.mk (q1_.1); have n3_ := Aside0.mk (qb_.1); have n4_ := Aside0.mk (hbox); have n6_ := Aside0.mk ((by rw [hg]; exact qb_.2 : w.heap.size ≤ gb137)); have n7_ := Aside0.mk ((by rw [hg]; exact Nat.ne_of_lt q1_.2 : gb129 ≠ gb137)); have n8_ := Aside0.mk (Ne.symm n7_.out); clear HO127; clear HO135; clear BK129; clear HB; have HO127 := n0_; have HO135 := n1_; have BK129 := n2_; have HB := n3_; have BK137 := n4_; have GE137 := n6_; have NB129_137 := n7_; have NB137_129 := n8_; clear q1_; clear qb_; clear n0_ n1_ n2_ n3_ n4_ n6_ n7_ n8_; clear hb hbox hg; have hnb12 := NB137_129.out; have hnc12 := NB129_137.out; obtain ⟨hcz13_0, hcz13_1, hcz13_2, hcz13_3, hfz13_0, hfz13_1, hfz13_2, hfz13_3⟩ := cells4 BK137.out; obtain ⟨Ao14, co14, eo14⟩ := Kd.R_slice HO135.out; subst eo14; obtain ⟨hcz15_0, hcz15_1, hcz15_2, hcz15_3, hfz15_0, hfz15_1, hfz15_2, hfz15_3⟩ := cells4 BK129.out) | (go_at_call 13; (with_reducible refine (guarantee_Total.calls k t122 t123 t124 _ _ t125 t138 _ ?side1 ?side2 A5.out).mono ?_); (case side1 => refine (Kd.R_reads' (e := 39) (base := w.heap.size) (ok := fun k_ => (True ∧ some k_ ≠ (.slice Ao14 t133.length co14 : Value).ownBlock)) (n := t125.length) (c := co9) ?_).2.2; exact (by (with_reducible repeat (first | apply Kd.R_alloc | apply Kd.R_drewN | apply Kd.R_drew)); exact (Kd.R_mono (Kd.R_far (p := ⟨gb137, 3, none⟩) (Kd.R_far (p := ⟨gb137, 2, none⟩) (Kd.R_far (p := ⟨gb137, 1, none⟩) (Kd.R_far (p := ⟨gb137, 0, none⟩) (Kd.R_types HO127.out BK137.out (by decide)) (fun _ hk => hk.2) (.int .i64 t130)) (fun _ hk => hk.2) (.int .i64 t131)) (fun _ hk => hk.2) (.int .i64 t132)) (fun _ hk => hk.2) (.slice Ao14 t133.length co14)) (fun _ h_ => h_.1)))); (case side2 => exact (Kd.R_reads' HO127.out).2.1); rintro e w16 ⟨rfl, hb⟩; have n4_ := Aside0.mk (below_step bel hb); (try clear HO127); (try clear HO135); (try clear BK129); (try clear BK137); clear HB; have HB := n4_; clear n4_; (try clear hb); (try clear hb2); (try clear hk); (try clear hi)))
   go_ret
   exact ⟨by first | rfl | (simp [errW_none, errW_some] <;> rfl) | (simp [*, errW_none, errW_some] <;> rfl), bel⟩
  ·rw [if_neg c4] at H
   have c4b0 : (t136 == 16) = false := beq_eq_false_iff_ne.mpr c4
   have c4b1 : (t136 != 16) = true := bne_iff_ne.mpr c4
   obtain rfl := Option.some.inj H
   go_enter Try.func15, Try.ntmps15
   go_wp2_with (first | ((with_reducible refine gate_callee (f := 19) rfl ?_); refine goesL_ (some 7) rfl rfl Try.func19 (by kernel_rfl) rfl #[.agg #[.int .i64 1, .int .i64 100, .int .i64 500000, .slice none 0 0], .int .i64 1, .int .i64 101] rfl argx ?_; (refine (guarantee_Set.calls k 1 100 500000 _ _ ([] : List (S39)) 1 101 t122 t123 t124 t125 t128 _ ?side1 ?side2 A1.out).mono ?_); (case side1 => exact Kd.C_nil _ _); (case side2 => exact Nat.le_refl _); rintro e w17 ⟨v126, rfl, ho0, hb⟩; refine ⟨_, rfl, ?_⟩; have qb_ := below_both bel hb; have n0_ := Aside0.mk (Kd.R_lower ho0 qb_.2); have n1_ := Aside0.mk (qb_.1); clear HB; have HO127 := n0_; have HB := n1_; clear qb_; clear n0_ n1_; (try clear hb); (try clear hb2); (try clear hk); (try clear hi); (try clear ho0)) | ((with_reducible refine gate_dst (N := 1) rfl ?_); refine box_event ?hg (N := 1) ?hd (cs := #[.int .i64 0, .int .i64 0, .int .i64 0, .slice none 0 0]) (t := 25) ?hr ?_; (case hd => rfl); (case hg => rfl); (case hr => first | (go_simp; done) | (go_simp; rfl)); intro gb129 hg w18 hbox hb; have qb_ := below_both bel hb; have n0_ := Aside0.mk (Kd.R_below (rowx HO127.out) hb); have n1_ := Aside0.mk (qb_.1); have n2_ := Aside0.mk (hbox); have n4_ := Aside0.mk ((by rw [hg]; exact qb_.2 : w.heap.size ≤ gb129)); clear HO127; clear HB; have HO127 := n0_; have HB := n1_; have BK129 := n2_; have GE129 := n4_; clear qb_; clear n0_ n1_ n2_ n4_; clear hb hbox hg; obtain ⟨hcz19_0, hcz19_1, hcz19_2, hcz19_3, hfz19_0, hfz19_1, hfz19_2, hfz19_3⟩ := cells4 BK129.out; obtain ⟨Ao20, co20, eo20⟩ := Kd.R_slice HO127.out; subst eo20) | ((with_reducible refine gate_callee (f := 19) rfl ?_); refine goesL_ (some 12) rfl rfl Try.func19 (by kernel_rfl) rfl #[.agg #[.int .i64 t122, .int .i64 t123, .int .i64 t124, .slice Ao20 t125.length co20], .int .i64 2, .int .i64 101] rfl argx ?_; (with_reducible refine (guarantee_Set.calls k t122 t123 t124 _ _ t125 2 101 t130 t131 t132 t133 t136 _ ?side1 ?side2 A2.out).mono ?_); (case side1 => refine (Kd.R_reads' (e := 39) (base := w.heap.size) (ok := fun k_ => True) (n := t125.length) (c := co20) ?_).2.2; exact (by (with_reducible repeat (first | apply Kd.R_alloc | apply Kd.R_drewN | apply Kd.R_drew)); exact (Kd.R_mono (Kd.R_far (p := ⟨gb129, 3, none⟩) (Kd.R_far (p := ⟨gb129, 2, none⟩) (Kd.R_far (p := ⟨gb129, 1, none⟩) (Kd.R_far (p := ⟨gb129, 0, none⟩) (Kd.R_types HO127.out BK129.out (by decide)) (fun _ hk => hk.2) (.int .i64 t122)) (fun _ hk => hk.2) (.int .i64 t123)) (fun _ hk => hk.2) (.int .i64 t124)) (fun _ hk => hk.2) (.slice Ao20 t125.length co20)) (fun _ h_ => h_.1)))); (case side2 => exact (Kd.R_reads' HO127.out).2.1); rintro e w21 ⟨v134, rfl, ho0, hb⟩; refine ⟨_, rfl, ?_⟩; have n1_ := Aside0.mk (Kd.R_lower (Kd.R_new' ho0 (Kd.R_lt (by (with_reducible repeat (first | apply Kd.R_alloc | apply Kd.R_drewN | apply Kd.R_drew)); exact (Kd.R_mono (Kd.R_far (p := ⟨gb129, 3, none⟩) (Kd.R_far (p := ⟨gb129, 2, none⟩) (Kd.R_far (p := ⟨gb129, 1, none⟩) (Kd.R_far (p := ⟨gb129, 0, none⟩) (Kd.R_types HO127.out BK129.out (by decide)) (fun _ hk => hk.2) (.int .i64 t122)) (fun _ hk => hk.2) (.int .i64 t123)) (fun _ hk => hk.2) (.int .i64 t124)) (fun _ hk => hk.2) (.slice Ao20 t125.length co20)) (fun _ h_ => h_.1))))) (below_size bel)); have n2_ := Aside0.mk (blk_below (g := gb129) (o := .cells #[.int .i64 t122, .int .i64 t123, .int .i64 t124, .slice Ao20 t125.length co20] 25 (0, 0)) (by (with_reducible repeat (first | refine blk_drewN ?_ _ | refine blk_drew ?_ | refine blk_alloc ?_ _)); refine blk_put (cs := #[.int .i64 t122, .int .i64 t123, .int .i64 t124, .slice none 0 0]) ?_ 3 _ rfl; refine blk_put (cs := #[.int .i64 t122, .int .i64 t123, .int .i64 0, .slice none 0 0]) ?_ 2 _ rfl; refine blk_put (cs := #[.int .i64 t122, .int .i64 0, .int .i64 0, .slice none 0 0]) ?_ 1 _ rfl; refine blk_put (cs := #[.int .i64 0, .int .i64 0, .int .i64 0, .slice none 0 0]) ?_ 0 _ rfl; (with_reducible repeat (first | refine blk_drewN ?_ _ | refine blk_drew ?_ | refine blk_alloc ?_ _)); exact BK129.out) hb); have n3_ := Aside0.mk (below_step bel hb); (try clear HO127); clear BK129; clear HB; have HO135 := n1_; have BK129 := n2_; have HB := n3_; clear n1_ n2_ n3_; (try clear hb); (try clear hb2); (try clear hk); (try clear hi); (try clear ho0)) | ((with_reducible refine gate_dst (N := 3) rfl ?_); refine box_event ?hg (N := 3) ?hd (cs := #[.int .i64 0, .int .i64 0, .int .i64 0, .slice none 0 0]) (t := 25) ?hr ?_; (case hd => rfl); (case hg => rfl); (case hr => first | (go_simp; done) | (go_simp; rfl)); intro gb137 hg w22 hbox hb; have n1_ := Aside0.mk (Kd.R_below (rowx HO135.out) hb); have n3_ := Aside0.mk (below_step bel hb); have n4_ := Aside0.mk (hbox); have n6_ := Aside0.mk ((by rw [hg]; exact (below_size bel) : w.heap.size ≤ gb137)); have n7_ := Aside0.mk ((by rw [hg]; exact Nat.ne_of_lt (blk_lt (g := gb129) (o := .cells #[.int .i64 t122, .int .i64 t123, .int .i64 t124, .slice Ao20 t125.length co20] 25 (0, 0)) blkx) : gb129 ≠ gb137)); have n8_ := Aside0.mk ((by rw [hg]; exact Nat.ne_of_gt (blk_lt (g := gb129) (o := .cells #[.int .i64 t122, .int .i64 t123, .int .i64 t124, .slice Ao20 t125.length co20] 25 (0, 0)) blkx) : gb137 ≠ gb129)); (try clear HO127); clear HO135; (try clear BK129); clear HB; have HO135 := n1_; have HB := n3_; have BK137 := n4_; have GE137 := n6_; have NB129_137 := n7_; have NB137_129 := n8_; clear n1_ n3_ n4_ n6_ n7_ n8_; clear hb hbox hg; have hnb23 := NB137_129.out; have hnc23 := NB129_137.out; obtain ⟨hcz24_0, hcz24_1, hcz24_2, hcz24_3, hfz24_0, hfz24_1, hfz24_2, hfz24_3⟩ := cells4 BK137.out; obtain ⟨Ao25, co25, eo25⟩ := Kd.R_slice HO135.out; subst eo25))
   go_ret
   exact ⟨by first | rfl | (simp [errW_none, errW_some] <;> rfl) | (simp [*, errW_none, errW_some] <;> rfl), bel⟩
 ·rw [if_neg c3] at H
  have c3b0 : (t128 == 0) = false := beq_eq_false_iff_ne.mpr c3
  have c3b1 : (t128 != 0) = true := bne_iff_ne.mpr c3
  obtain rfl := Option.some.inj H
  go_enter Try.func15, Try.ntmps15
  go_wp2_with (first | ((with_reducible refine gate_callee (f := 19) rfl ?_); refine goesL_ (some 7) rfl rfl Try.func19 (by kernel_rfl) rfl #[.agg #[.int .i64 1, .int .i64 100, .int .i64 500000, .slice none 0 0], .int .i64 1, .int .i64 101] rfl argx ?_; (refine (guarantee_Set.calls k 1 100 500000 _ _ ([] : List (S39)) 1 101 t122 t123 t124 t125 t128 _ ?side1 ?side2 A1.out).mono ?_); (case side1 => exact Kd.C_nil _ _); (case side2 => exact Nat.le_refl _); rintro e w26 ⟨v126, rfl, ho0, hb⟩; refine ⟨_, rfl, ?_⟩; have qb_ := below_both bel hb; have n0_ := Aside0.mk (Kd.R_lower ho0 qb_.2); have n1_ := Aside0.mk (qb_.1); clear HB; have HO127 := n0_; have HB := n1_; clear qb_; clear n0_ n1_; (try clear hb); (try clear hb2); (try clear hk); (try clear hi); (try clear ho0)) | ((with_reducible refine gate_dst (N := 1) rfl ?_); refine box_event ?hg (N := 1) ?hd (cs := #[.int .i64 0, .int .i64 0, .int .i64 0, .slice none 0 0]) (t := 25) ?hr ?_; (case hd => rfl); (case hg => rfl); (case hr => first | (go_simp; done) | (go_simp; rfl)); intro gb129 hg w27 hbox hb; have qb_ := below_both bel hb; have n0_ := Aside0.mk (Kd.R_below (rowx HO127.out) hb); have n1_ := Aside0.mk (qb_.1); have n2_ := Aside0.mk (hbox); have n4_ := Aside0.mk ((by rw [hg]; exact qb_.2 : w.heap.size ≤ gb129)); clear HO127; clear HB; have HO127 := n0_; have HB := n1_; have BK129 := n2_; have GE129 := n4_; clear qb_; clear n0_ n1_ n2_ n4_; clear hb hbox hg; obtain ⟨hcz28_0, hcz28_1, hcz28_2, hcz28_3, hfz28_0, hfz28_1, hfz28_2, hfz28_3⟩ := cells4 BK129.out; obtain ⟨Ao29, co29, eo29⟩ := Kd.R_slice HO127.out; subst eo29) | ((with_reducible refine gate_callee (f := 19) rfl ?_); refine goesL_ (some 12) rfl rfl Try.func19 (by kernel_rfl) rfl #[.agg #[.int .i64 t122, .int .i64 t123, .int .i64 t124, .slice Ao29 t125.length co29], .int .i64 2, .int .i64 101] rfl argx ?_; (with_reducible refine (guarantee_Set.calls k t122 t123 t124 _ _ t125 2 101 t130 t131 t132 t133 t136 _ ?side1 ?side2 A2.out).mono ?_); (case side1 => refine (Kd.R_reads' (e := 39) (base := w.heap.size) (ok := fun k_ => True) (n := t125.length) (c := co29) ?_).2.2; exact (by (with_reducible repeat (first | apply Kd.R_alloc | apply Kd.R_drewN | apply Kd.R_drew)); exact (Kd.R_mono (Kd.R_far (p := ⟨gb129, 3, none⟩) (Kd.R_far (p := ⟨gb129, 2, none⟩) (Kd.R_far (p := ⟨gb129, 1, none⟩) (Kd.R_far (p := ⟨gb129, 0, none⟩) (Kd.R_types HO127.out BK129.out (by decide)) (fun _ hk => hk.2) (.int .i64 t122)) (fun _ hk => hk.2) (.int .i64 t123)) (fun _ hk => hk.2) (.int .i64 t124)) (fun _ hk => hk.2) (.slice Ao29 t125.length co29)) (fun _ h_ => h_.1)))); (case side2 => exact (Kd.R_reads' HO127.out).2.1); rintro e w30 ⟨v134, rfl, ho0, hb⟩; refine ⟨_, rfl, ?_⟩; have n1_ := Aside0.mk (Kd.R_lower (Kd.R_new' ho0 (Kd.R_lt (by (with_reducible repeat (first | apply Kd.R_alloc | apply Kd.R_drewN | apply Kd.R_drew)); exact (Kd.R_mono (Kd.R_far (p := ⟨gb129, 3, none⟩) (Kd.R_far (p := ⟨gb129, 2, none⟩) (Kd.R_far (p := ⟨gb129, 1, none⟩) (Kd.R_far (p := ⟨gb129, 0, none⟩) (Kd.R_types HO127.out BK129.out (by decide)) (fun _ hk => hk.2) (.int .i64 t122)) (fun _ hk => hk.2) (.int .i64 t123)) (fun _ hk => hk.2) (.int .i64 t124)) (fun _ hk => hk.2) (.slice Ao29 t125.length co29)) (fun _ h_ => h_.1))))) (below_size bel)); have n2_ := Aside0.mk (blk_below (g := gb129) (o := .cells #[.int .i64 t122, .int .i64 t123, .int .i64 t124, .slice Ao29 t125.length co29] 25 (0, 0)) (by (with_reducible repeat (first | refine blk_drewN ?_ _ | refine blk_drew ?_ | refine blk_alloc ?_ _)); refine blk_put (cs := #[.int .i64 t122, .int .i64 t123, .int .i64 t124, .slice none 0 0]) ?_ 3 _ rfl; refine blk_put (cs := #[.int .i64 t122, .int .i64 t123, .int .i64 0, .slice none 0 0]) ?_ 2 _ rfl; refine blk_put (cs := #[.int .i64 t122, .int .i64 0, .int .i64 0, .slice none 0 0]) ?_ 1 _ rfl; refine blk_put (cs := #[.int .i64 0, .int .i64 0, .int .i64 0, .slice none 0 0]) ?_ 0 _ rfl; (with_reducible repeat (first | refine blk_drewN ?_ _ | refine blk_drew ?_ | refine blk_alloc ?_ _)); exact BK129.out) hb); have n3_ := Aside0.mk (below_step bel hb); (try clear HO127); clear BK129; clear HB; have HO135 := n1_; have BK129 := n2_; have HB := n3_; clear n1_ n2_ n3_; (try clear hb); (try clear hb2); (try clear hk); (try clear hi); (try clear ho0)) | ((with_reducible refine gate_dst (N := 3) rfl ?_); refine box_event ?hg (N := 3) ?hd (cs := #[.int .i64 0, .int .i64 0, .int .i64 0, .slice none 0 0]) (t := 25) ?hr ?_; (case hd => rfl); (case hg => rfl); (case hr => first | (go_simp; done) | (go_simp; rfl)); intro gb137 hg w31 hbox hb; have n1_ := Aside0.mk (Kd.R_below (rowx HO135.out) hb); have n3_ := Aside0.mk (below_step bel hb); have n4_ := Aside0.mk (hbox); have n6_ := Aside0.mk ((by rw [hg]; exact (below_size bel) : w.heap.size ≤ gb137)); have n7_ := Aside0.mk ((by rw [hg]; exact Nat.ne_of_lt (blk_lt (g := gb129) (o := .cells #[.int .i64 t122, .int .i64 t123, .int .i64 t124, .slice Ao29 t125.length co29] 25 (0, 0)) blkx) : gb129 ≠ gb137)); have n8_ := Aside0.mk ((by rw [hg]; exact Nat.ne_of_gt (blk_lt (g := gb129) (o := .cells #[.int .i64 t122, .int .i64 t123, .int .i64 t124, .slice Ao29 t125.length co29] 25 (0, 0)) blkx) : gb137 ≠ gb129)); (try clear HO127); clear HO135; (try clear BK129); clear HB; have HO135 := n1_; have HB := n3_; have BK137 := n4_; have GE137 := n6_; have NB129_137 := n7_; have NB137_129 := n8_; clear n1_ n3_ n4_ n6_ n7_ n8_; clear hb hbox hg; have hnb32 := NB137_129.out; have hnc32 := NB129_137.out; obtain ⟨hcz33_0, hcz33_1, hcz33_2, hcz33_3, hfz33_0, hfz33_1, hfz33_2, hfz33_3⟩ := cells4 BK137.out; obtain ⟨Ao34, co34, eo34⟩ := Kd.R_slice HO135.out; subst eo34))
  go_ret
  exact ⟨by first | rfl | (simp [errW_none, errW_some] <;> rfl) | (simp [*, errW_none, errW_some] <;> rfl), bel⟩
end Go.Proofs.Ytakhjhiofmgpnaa.PB
/- The law GuaranteeRequired in plain Lean: what is required is the least number that is not below the level's share. -/
namespace Go.Proofs.Ytakhjhiofmgpnaa.E
set_option linter.unusedVariables false
set_option linter.unusedSimpArgs false
open Go.RowKit Go.Proofs.YtakhjhiofmgpnaaW.PrintWords Go.Proofs.YtakhjhiofmgpnaaW.PrintLast Go.Proofs.YtakhjhiofmgpnaaW.PrintMore Go.Proofs.Ytakhjhiofmgpnaa.PA Go.Proofs.Ytakhjhiofmgpnaa.PB
theorem awake_ev : Ev (fun k => customslaw23_awake.f k) true :=
  Ev.of (fun k => customslaw23_awake.mono k) (show customslaw23_awake.f 300 = some true by decide +kernel)
/-- What an amount requires at a level: the share, rounded up. -/
def need (a lev : Int) : Int := (a * lev + 999999) / 1000000
theorem prod_range {a lev : Int} (a0 : 0 ≤ a) (a1 : a ≤ 1000000000000) (b0 : 0 ≤ lev) (b1 : lev ≤ 1000000) : 0 ≤ a * lev ∧ a * lev ≤ 1000000000000000000 := by
  have h1 := Int.mul_nonneg a0 b0
  have h2 := Int.mul_le_mul a1 b1 b0 (by omega : (0 : Int) ≤ 1000000000000)
  omega
theorem need_range {a lev : Int} (a0 : 0 ≤ a) (a1 : a ≤ 1000000000000) (b0 : 0 ≤ lev) (b1 : lev ≤ 1000000) : 0 ≤ need a lev ∧ need a lev ≤ 1000000000000 ∧ a * lev ≤ need a lev * 1000000 ∧ (need a lev - 1) * 1000000 < a * lev := by
  have := prod_range a0 a1 b0 b1
  unfold need
  omega
theorem rounded_up (p : Int) (p0 : 0 ≤ p) : rounded p 1000000 1 = (p + 999999) / 1000000 := by
  unfold rounded goesUp
  simp only [if_true, decide_eq_true_eq]
  split <;> omega
theorem within_in {a lo hi : Int} (h : lo ≤ a ∧ a ≤ hi) : guarantee_within_int.f a lo hi = some true := by
  unfold guarantee_within_int.f
  rw [if_pos (by omega)]
  simp [h.2]
theorem within_out {a lo hi : Int} (h : ¬ (lo ≤ a ∧ a ≤ hi)) : guarantee_within_int.f a lo hi = some false := by
  unfold guarantee_within_int.f
  by_cases h1 : a ≥ lo
  · rw [if_pos h1]
    simp
    omega
  · rw [if_neg h1]
theorem required_in (x0 x1 lev : Int) (l : List S39) (a : Int) (a0 : 0 ≤ a) (a1 : a ≤ 1000000000000) (b0 : 0 ≤ lev) (b1 : lev ≤ 1000000) : Ev (fun k => guarantee_Required.f k x0 x1 lev l a) (need a lev, 0) := by
  have hp := prod_range a0 a1 b0 b1
  have hn := need_range a0 a1 b0 b1
  have hr := rounded_up (a * lev) hp.1
  unfold guarantee_Required.f
  refine evBind0 (within_in ⟨b0, b1⟩) (evPos rfl (evBind0 (within_in ⟨a0, a1⟩) (evPos rfl ?_)))
  rw [w_id a0 (by omega), w_id b0 (by omega)]
  refine evBind (muldiv_ev a lev 1000000 1 a0 (by omega) b0 (by omega) (by omega) (by omega) (by omega) (by omega) (by rw [hr]; omega)) (evNow ?_)
  show some (wrap64 (rounded (a * lev) 1000000 1), (0 : Int)) = _
  rw [hr, wrap64_id (by omega) (by omega)]
  rfl
theorem required_out (x0 x1 lev : Int) (l : List S39) (a : Int) (h : ¬ ((0 ≤ lev ∧ lev ≤ 1000000) ∧ 0 ≤ a ∧ a ≤ 1000000000000)) : Ev (fun k => guarantee_Required.f k x0 x1 lev l a) (0, 2) := by
  unfold guarantee_Required.f
  by_cases h1 : 0 ≤ lev ∧ lev ≤ 1000000
  · refine evBind0 (within_in h1) (evPos rfl (evBind0 (within_out (fun h2 => h ⟨h1, h2⟩)) (evNeg (by simp) (evNow rfl))))
  · exact evBind0 (within_out h1) (evNeg (by simp) (evNow rfl))
theorem refrequired_in (x0 x1 lev : Int) (l : List S39) (a : Int) (a0 : 0 ≤ a) (a1 : a ≤ 1000000000000) (b0 : 0 ≤ lev) (b1 : lev ≤ 1000000) : customsref21_Required.f x0 x1 lev l a = some (need a lev, 0) := by
  have hp := prod_range a0 a1 b0 b1
  unfold customsref21_Required.f
  rw [if_neg (by omega), if_neg (by omega), if_neg (by omega), if_neg (by omega)]
  have e1 : wrap64 (a * lev) = a * lev := wrap64_id (by omega) (by omega)
  have e2 : wrap64 (a * lev + 1000000) = a * lev + 1000000 := wrap64_id (by omega) (by omega)
  have e3 : wrap64 (a * lev + 1000000 - 1) = a * lev + 999999 := by rw [wrap64_id (by omega) (by omega)]; omega
  rw [e1, e2, e3, Int.tdiv_eq_ediv_of_nonneg (by omega), wrap64_id (by omega) (by omega)]
  rfl
end Go.Proofs.Ytakhjhiofmgpnaa.E
/- Validate and Total of a guarantee, in plain Lean: both the program's and the reference's answer is 'vf'; the sum is 'psum'. -/
namespace Go.Proofs.Ytakhjhiofmgpnaa.E
set_option linter.unusedVariables false
set_option linter.unusedSimpArgs false
open Go.RowKit Go.Proofs.YtakhjhiofmgpnaaW.PrintWords Go.Proofs.YtakhjhiofmgpnaaW.PrintLast Go.Proofs.YtakhjhiofmgpnaaW.PrintMore Go.Proofs.Ytakhjhiofmgpnaa.PA Go.Proofs.Ytakhjhiofmgpnaa.PB
def at_ (l : List S39) (i : Nat) : S39 := rd_T39 l (i : Int)
def okE (u : S39) : Prop := (1 ≤ u.f0 ∧ u.f0 ≤ 1000000) ∧ 0 ≤ u.f1 ∧ u.f1 ≤ 1000000000000
def allOk (l : List S39) : Prop := ∀ j, j < l.length → okE (at_ l j)
def asc (l : List S39) : Prop := ∀ j, j + 1 < l.length → (at_ l j).f0 < (at_ l (j + 1)).f0
def psum (l : List S39) : Nat → Int
  | 0 => 0
  | i + 1 => psum l i + (at_ l i).f1
def tot (l : List S39) : Int := psum l l.length
theorem psum_range {l : List S39} (h : allOk l) : ∀ i, i ≤ l.length → 0 ≤ psum l i ∧ psum l i ≤ i * 1000000000000
  | 0, _ => by simp [psum]
  | i + 1, hi => by
    have := psum_range h i (by omega)
    have h1 := (h i (by omega)).2
    simp only [psum]
    omega
def headOk (a b c : Int) : Prop := (1 ≤ a ∧ a ≤ 1000000) ∧ (0 ≤ b ∧ b ≤ 1000000000000) ∧ 0 ≤ c ∧ c ≤ 1000000
open Classical in
noncomputable def vf (a b c : Int) (l : List S39) : Int :=
  if ¬ headOk a b c then 2 else if l.length > 64 then 8 else if ¬ allOk l then 2 else if ¬ asc l then 9 else if tot l > b then 16 else 0
theorem vf_zero {a b c : Int} {l : List S39} : vf a b c l = 0 ↔ headOk a b c ∧ l.length ≤ 64 ∧ allOk l ∧ asc l ∧ tot l ≤ b := by
  unfold vf
  by_cases h1 : headOk a b c
  · by_cases h2 : l.length > 64
    · simp [h1, h2] <;> omega
    · by_cases h3 : allOk l
      · by_cases h4 : asc l
        · by_cases h5 : tot l > b
          · simp [h1, h2, h3, h4, h5] <;> omega
          · simp [h1, h2, h3, h4, h5] <;> omega
        · simp [h1, h2, h3, h4]
      · simp [h1, h2, h3]
  · simp [h1]
theorem sum_ev {l : List S39} (h : allOk l) (hl : l.length ≤ 64) : Ev (fun k => guarantee_sum.f k l) (tot l) := by
  have key : ∀ (n i : Nat), i + n = l.length → Ev (fun k => guarantee_sum.l0 k (psum l i) l (l.length : Int) (i : Int)) (tot l) := by
    intro n
    induction n with
    | zero =>
      intro i hi
      refine evShift ?_
      simp only [guarantee_sum.l0]
      refine evNeg (by omega) (evNow ?_)
      rw [tot, ← hi]; rfl
    | succ n ih =>
      intro i hi
      refine evShift ?_
      simp only [guarantee_sum.l0]
      refine evPos (by omega) (evPos (by omega) (evPos (by omega) ?_))
      have h0 := psum_range h i (by omega)
      have h1 := (h i (by omega)).2
      have e1 : wrap64 (psum l i + (rd_T39 l (i : Int)).f1) = psum l (i + 1) := by
        have : (rd_T39 l (i : Int)).f1 = (at_ l i).f1 := rfl
        rw [this, wrap64_id (by omega) (by omega)]; rfl
      have e2 : wrap64 ((i : Int) + 1) = ((i + 1 : Nat) : Int) := by rw [wrap64_id (by omega) (by omega)]; omega
      rw [e1, e2]
      exact ih (i + 1) (by omega)
  exact key l.length 0 (by omega)
theorem val_l1 {a b c R : Int} {l : List S39} (hl : l.length ≤ 64) (hbad : ¬ asc l → R = 9) (hgood : asc l → Ev (fun k => (guarantee_sum.f k l).bind fun t => (if t > b then (some 16) else (some 0))) R) :
    Ev (fun k => guarantee_Validate.l1 k 1 a b c l) R := by
  have key : ∀ (n i : Nat), i + n = max l.length 1 → 1 ≤ i → (∀ j, j + 1 < i → (at_ l j).f0 < (at_ l (j + 1)).f0) → Ev (fun k => guarantee_Validate.l1 k (i : Int) a b c l) R := by
    intro n
    induction n with
    | zero =>
      intro i hi h1 hp
      refine evShift ?_
      simp only [guarantee_Validate.l1]
      exact evNeg (by omega) (hgood (fun j hj => hp j (by omega)))
    | succ n ih =>
      intro i hi h1 hp
      refine evShift ?_
      simp only [guarantee_Validate.l1]
      have e0 : wrap64 ((i : Int) - 1) = ((i - 1 : Nat) : Int) := by rw [wrap64_id (by omega) (by omega)]; omega
      have e2 : wrap64 ((i : Int) + 1) = ((i + 1 : Nat) : Int) := by rw [wrap64_id (by omega) (by omega)]; omega
      rw [e0, e2]
      refine evPos (by omega) (evPos (by omega) (evPos (by omega) (evPos (by omega) ?_)))
      refine evIf (fun hle => ?_) (fun hgt => ?_)
      · refine evNow ?_
        rw [hbad (fun ha => ?_)]
        have := ha (i - 1) (by omega)
        rw [show i - 1 + 1 = i by omega] at this
        exact absurd hle (by show ¬ (at_ l i).f0 ≤ (at_ l (i - 1)).f0; omega)
      · refine ih (i + 1) (by omega) (by omega) (fun j hj => ?_)
        by_cases hj2 : j + 1 < i
        · exact hp j hj2
        · obtain rfl : j = i - 1 := by omega
          rw [show i - 1 + 1 = i by omega]
          have : ¬ (at_ l i).f0 ≤ (at_ l (i - 1)).f0 := hgt
          omega
  exact key (max l.length 1 - 1) 1 (by omega) (by omega) (fun j hj => by omega)
theorem val_l0 {a b c R : Int} {l : List S39} (hl : l.length ≤ 64) (hbad : ¬ allOk l → R = 2) (hgood : allOk l → Ev (fun k => guarantee_Validate.l1 k 1 a b c l) R) :
    Ev (fun k => guarantee_Validate.l0 k l (l.length : Int) 0 a b c l) R := by
  have key : ∀ (n i : Nat), i + n = l.length → (∀ j, j < i → okE (at_ l j)) → Ev (fun k => guarantee_Validate.l0 k l (l.length : Int) (i : Int) a b c l) R := by
    intro n
    induction n with
    | zero =>
      intro i hi hp
      refine evShift ?_
      simp only [guarantee_Validate.l0]
      exact evNeg (by omega) (hgood (fun j hj => hp j (by omega)))
    | succ n ih =>
      intro i hi hp
      refine evShift ?_
      simp only [guarantee_Validate.l0]
      have e2 : wrap64 ((i : Int) + 1) = ((i + 1 : Nat) : Int) := by rw [wrap64_id (by omega) (by omega)]; omega
      rw [e2]
      refine evPos (by omega) (evPos (by omega) (evPos (by omega) ?_))
      by_cases h0 : 1 ≤ (at_ l i).f0 ∧ (at_ l i).f0 ≤ 1000000
      · refine evBind0 (within_in h0) (evPos rfl ?_)
        by_cases h1 : 0 ≤ (at_ l i).f1 ∧ (at_ l i).f1 ≤ 1000000000000
        · refine evBind0 (within_in h1) (evPos rfl (ih (i + 1) (by omega) (fun j hj => ?_)))
          by_cases hj2 : j < i
          · exact hp j hj2
          · obtain rfl : j = i := by omega
            exact ⟨h0, h1⟩
        · refine evBind0 (within_out h1) (evNeg (by simp) (evNow ?_))
          rw [hbad (fun ha => h1 (ha i (by omega)).2)]
      · refine evBind0 (within_out h0) (evNeg (by simp) (evNow ?_))
        rw [hbad (fun ha => h0 (ha i (by omega)).1)]
  exact key l.length 0 (by omega) (fun j hj => by omega)
theorem validate_ev (a b c : Int) (l : List S39) : Ev (fun k => guarantee_Validate.f k a b c l) (vf a b c l) := by
  have bad : ¬ headOk a b c → Ev (fun k => guarantee_Validate.j0 k true a b c l) (vf a b c l) := fun h => by
    refine evShift ?_
    simp only [guarantee_Validate.j0]
    refine evPos (by simp) (evNow ?_)
    simp [vf, h]
  unfold guarantee_Validate.f
  by_cases h1 : 1 ≤ a ∧ a ≤ 1000000
  case neg => exact evBind0 (within_out h1) (evNeg (by simp) (bad (fun h => h1 h.1)))
  refine evBind0 (within_in h1) (evPos rfl ?_)
  by_cases h2 : 0 ≤ b ∧ b ≤ 1000000000000
  case neg => exact evBind0 (within_out h2) (evNeg (by simp) (bad (fun h => h2 h.2.1)))
  refine evBind0 (within_in h2) (evPos rfl ?_)
  by_cases h3 : 0 ≤ c ∧ c ≤ 1000000
  case neg => exact evBind0 (within_out h3) (bad (fun h => h3 h.2.2))
  refine evBind0 (within_in h3) (evShift ?_)
  have hh : headOk a b c := ⟨h1, h2, h3⟩
  simp only [guarantee_Validate.j0]
  refine evNeg (by simp) (evIf (fun h => evNow ?_) (fun h => ?_))
  · simp [vf, hh, show l.length > 64 by omega]
  · have hl : l.length ≤ 64 := by omega
    have hl' : ¬ l.length > 64 := by omega
    refine val_l0 hl (fun hb => by simp [vf, hh, hl', hb]) (fun ha => val_l1 hl (fun hb => by simp [vf, hh, hl', ha, hb]) (fun hs => ?_))
    refine evBind (sum_ev ha hl) (evIf (fun h => evNow ?_) (fun h => evNow ?_))
    · simp [vf, hh, hl', ha, hs, h]
    · simp [vf, hh, hl', ha, hs, h]
theorem ref_l1 {a b c s R : Int} {l : List S39} (hl : l.length ≤ 64) (hbad : ¬ asc l → R = 9) (hgood : asc l → R = if s > b then 16 else 0) :
    Ev (fun k => customsref21_ValidGuarantee.l1 k s 1 a b c l) R := by
  have key : ∀ (n i : Nat), i + n = max l.length 1 → 1 ≤ i → (∀ j, j + 1 < i → (at_ l j).f0 < (at_ l (j + 1)).f0) → Ev (fun k => customsref21_ValidGuarantee.l1 k s (i : Int) a b c l) R := by
    intro n
    induction n with
    | zero =>
      intro i hi h1 hp
      refine evShift ?_
      simp only [customsref21_ValidGuarantee.l1]
      refine evNeg (by omega) ?_
      rw [hgood (fun j hj => hp j (by omega))]
      exact evIf (fun h => evNow (by rw [if_pos h])) (fun h => evNow (by rw [if_neg h]))
    | succ n ih =>
      intro i hi h1 hp
      refine evShift ?_
      simp only [customsref21_ValidGuarantee.l1]
      have e0 : wrap64 ((i : Int) - 1) = ((i - 1 : Nat) : Int) := by rw [wrap64_id (by omega) (by omega)]; omega
      have e2 : wrap64 ((i : Int) + 1) = ((i + 1 : Nat) : Int) := by rw [wrap64_id (by omega) (by omega)]; omega
      rw [e0, e2]
      refine evPos (by omega) (evPos (by omega) (evPos (by omega) (evPos (by omega) ?_)))
      refine evIf (fun hle => ?_) (fun hgt => ?_)
      · refine evNow ?_
        rw [hbad (fun ha => ?_)]
        have := ha (i - 1) (by omega)
        rw [show i - 1 + 1 = i by omega] at this
        exact absurd hle (by show ¬ (at_ l i).f0 ≤ (at_ l (i - 1)).f0; omega)
      · refine ih (i + 1) (by omega) (by omega) (fun j hj => ?_)
        by_cases hj2 : j + 1 < i
        · exact hp j hj2
        · obtain rfl : j = i - 1 := by omega
          rw [show i - 1 + 1 = i by omega]
          have : ¬ (at_ l i).f0 ≤ (at_ l (i - 1)).f0 := hgt
          omega
  exact key (max l.length 1 - 1) 1 (by omega) (by omega) (fun j hj => by omega)
theorem psum_part {l : List S39} : ∀ i, i ≤ l.length → (∀ j, j < i → okE (at_ l j)) → 0 ≤ psum l i ∧ psum l i ≤ i * 1000000000000
  | 0, _, _ => by simp [psum]
  | i + 1, hi, h => by
    have := psum_part i (by omega) (fun j hj => h j (by omega))
    have h1 := (h i (by omega)).2
    simp only [psum]
    omega
theorem ref_l0 {a b c R : Int} {l : List S39} (hl : l.length ≤ 64) (hbad : ¬ allOk l → R = 2) (hgood : allOk l → Ev (fun k => customsref21_ValidGuarantee.l1 k (tot l) 1 a b c l) R) :
    Ev (fun k => customsref21_ValidGuarantee.l0 k 0 0 a b c l) R := by
  have key : ∀ (n i : Nat), i + n = l.length → (∀ j, j < i → okE (at_ l j)) → Ev (fun k => customsref21_ValidGuarantee.l0 k (psum l i) (i : Int) a b c l) R := by
    intro n
    induction n with
    | zero =>
      intro i hi hp
      refine evShift ?_
      simp only [customsref21_ValidGuarantee.l0]
      obtain rfl : i = l.length := by omega
      exact evNeg (by omega) (hgood (fun j hj => hp j (by omega)))
    | succ n ih =>
      intro i hi hp
      refine evShift ?_
      simp only [customsref21_ValidGuarantee.l0]
      have e2 : wrap64 ((i : Int) + 1) = ((i + 1 : Nat) : Int) := by rw [wrap64_id (by omega) (by omega)]; omega
      rw [e2]
      have hq := psum_part i (by omega) hp
      refine evPos (by omega) (evPos (by omega) ?_)
      show Ev (fun k => if (at_ l i).f0 < 1 then some 2 else (if (at_ l i).f0 > 1000000 then some 2 else (if (at_ l i).f1 < 0 then some 2 else (if (at_ l i).f1 > 1000000000000 then some 2 else customsref21_ValidGuarantee.l0 k (wrap64 (psum l i + (at_ l i).f1)) ((i + 1 : Nat) : Int) a b c l)))) R
      refine evIf (fun h => evNow ?_) (fun h1 => evIf (fun h => evNow ?_) (fun h2 => evIf (fun h => evNow ?_) (fun h3 => evIf (fun h => evNow ?_) (fun h4 => ?_))))
      · rw [hbad (fun ha => by have := (ha i (by omega)).1; omega)]
      · rw [hbad (fun ha => by have := (ha i (by omega)).1; omega)]
      · rw [hbad (fun ha => by have := (ha i (by omega)).2; omega)]
      · rw [hbad (fun ha => by have := (ha i (by omega)).2; omega)]
      · rw [wrap64_id (by omega) (by omega)]
        refine ih (i + 1) (by omega) (fun j hj => ?_)
        by_cases hj2 : j < i
        · exact hp j hj2
        · obtain rfl : j = i := by omega
          exact ⟨by omega, by omega⟩
  exact key l.length 0 (by omega) (fun j hj => by omega)
theorem refvalid_ev (a b c : Int) (l : List S39) : Ev (fun k => customsref21_ValidGuarantee.f k a b c l) (vf a b c l) := by
  have bad : ¬ headOk a b c → Ev (fun k => customsref21_ValidGuarantee.j0 k true a b c l) (vf a b c l) := fun h => by
    refine evShift ?_
    simp only [customsref21_ValidGuarantee.j0]
    refine evPos (by simp) (evNow ?_)
    simp [vf, h]
  unfold customsref21_ValidGuarantee.f
  refine evIf (fun h => bad (fun g => by have := g.1; omega)) (fun h1 => evIf (fun h => bad (fun g => by have := g.1; omega)) (fun h2 => evIf (fun h => bad (fun g => by have := g.2.1; omega)) (fun h3 => evIf (fun h => bad (fun g => by have := g.2.1; omega)) (fun h4 => evIf (fun h => bad (fun g => by have := g.2.2; omega)) (fun h5 => ?_)))))
  by_cases h6 : c > 1000000
  · rw [decide_eq_true h6]
    exact bad (fun g => by have := g.2.2; omega)
  · rw [decide_eq_false h6]
    refine evShift ?_
    have hh : headOk a b c := ⟨by omega, by omega, by omega⟩
    simp only [customsref21_ValidGuarantee.j0]
    refine evNeg (by simp) (evIf (fun h => evNow ?_) (fun h => ?_))
    · simp [vf, hh, show l.length > 64 by omega]
    · have hl : l.length ≤ 64 := by omega
      have hl' : ¬ l.length > 64 := by omega
      refine ref_l0 hl (fun hb => by simp [vf, hh, hl', hb]) (fun ha => ref_l1 hl (fun hb => by simp [vf, hh, hl', ha, hb]) (fun hs => ?_))
      simp [vf, hh, hl', ha, hs]
/-- The sum of a valid guarantee's reservations; 0 of another one. -/
noncomputable def tf (a b c : Int) (l : List S39) : Int := if vf a b c l = 0 then tot l else 0
theorem reftotal_ev (a b c : Int) (l : List S39) : Ev (fun k => customsref21_Total.f k a b c l) (tf a b c l) := by
  unfold customsref21_Total.f
  refine evBind (refvalid_ev a b c l) (evIf (fun h => ?_) (fun h => evNow ?_))
  · have hv := vf_zero.1 h
    have hl := hv.2.1
    have key : ∀ (n i : Nat), i + n = l.length → Ev (fun k => customsref21_Total.l0 k (psum l i) (i : Int) a b c l) (tf a b c l) := by
      intro n
      induction n with
      | zero =>
        intro i hi
        refine evShift ?_
        simp only [customsref21_Total.l0]
        refine evNeg (by omega) (evNow ?_)
        obtain rfl : i = l.length := by omega
        simp [tf, h, tot]
      | succ n ih =>
        intro i hi
        refine evShift ?_
        simp only [customsref21_Total.l0]
        refine evPos (by omega) (evPos (by omega) ?_)
        have h0 := psum_range hv.2.2.1 i (by omega)
        have h1 := (hv.2.2.1 i (by omega)).2
        have e1 : wrap64 (psum l i + (rd_T39 l (i : Int)).f1) = psum l (i + 1) := by
          have : (rd_T39 l (i : Int)).f1 = (at_ l i).f1 := rfl
          rw [this, wrap64_id (by omega) (by omega)]; rfl
        have e2 : wrap64 ((i : Int) + 1) = ((i + 1 : Nat) : Int) := by rw [wrap64_id (by omega) (by omega)]; omega
        rw [e1, e2]
        exact ih (i + 1) (by omega)
    exact key l.length 0 (by omega)
  · simp [tf, h]
end Go.Proofs.Ytakhjhiofmgpnaa.E
/- The guarantees that are made of numbers: each is valid; its movements are small. -/
namespace Go.Proofs.Ytakhjhiofmgpnaa.E
set_option linter.unusedVariables false
set_option linter.unusedSimpArgs false
open Go.RowKit Go.Proofs.YtakhjhiofmgpnaaW.PrintWords Go.Proofs.YtakhjhiofmgpnaaW.PrintLast Go.Proofs.YtakhjhiofmgpnaaW.PrintMore Go.Proofs.Ytakhjhiofmgpnaa.G Go.Proofs.Ytakhjhiofmgpnaa.PA Go.Proofs.Ytakhjhiofmgpnaa.PB
theorem next_some (s : List Int) (hs : s.length ≤ 1000) (i n : Int) (i0 : 0 ≤ i) (i1 : i ≤ s.length) (hn : 0 < n) (hb : n ≤ 4611686018427387904) :
    ∃ r j, customsmade_Source_Next.f s i n = some (r, j) ∧ 0 ≤ r ∧ r < n ∧ 0 ≤ j ∧ j ≤ s.length := by
  unfold customsmade_Source_Next.f
  by_cases h : i ≥ (s.length : Int)
  · exact ⟨0, i, by rw [if_pos h], by omega, by omega, i0, i1⟩
  · have e1 : wrap64 (i + 1) = i + 1 := wrap64_id (by omega) (by omega)
    have e2 : wrap64 (i + 1 - 1) = i := by rw [wrap64_id (by omega) (by omega)]; omega
    rw [if_neg h, e1, e2, if_pos i0, if_pos (by omega)]
    obtain ⟨r, h1, h2, h3⟩ := within_some (rd s i) n hn hb
    exact ⟨r, i + 1, by rw [h1]; rfl, h2, h3, by omega, by omega⟩
theorem small_some (s : List Int) (hs : s.length ≤ 1000) (i a b : Int) (i0 : 0 ≤ i) (i1 : i ≤ s.length) (ha : 0 < a) (hab : a ≤ b) (hb : b ≤ 4611686018427387904) :
    ∃ r j, customsmade_Small.f s i a b = some (r, j) ∧ 0 ≤ r ∧ r < b ∧ 0 ≤ j ∧ j ≤ s.length := by
  unfold customsmade_Small.f
  obtain ⟨r, j, h1, h2, h3, h4, h5⟩ := next_some s hs i 5 i0 i1 (by omega) (by omega)
  rw [h1]
  show ∃ r' j', (if r = 4 then _ else _) = _ ∧ _
  by_cases h : r = 4
  · rw [if_pos h]
    obtain ⟨r2, j2, g1, g2, g3, g4, g5⟩ := next_some s hs j b h4 h5 (by omega) hb
    exact ⟨r2, j2, by rw [g1]; rfl, g2, g3, g4, g5⟩
  · rw [if_neg h]
    obtain ⟨r2, j2, g1, g2, g3, g4, g5⟩ := next_some s hs j a h4 h5 ha (by omega)
    exact ⟨r2, j2, by rw [g1]; rfl, g2, by omega, g4, g5⟩
theorem at_old {u : List S39} {v : S39} {j : Nat} (h : j < u.length) : at_ (u ++ [v]) j = at_ u j := by
  unfold at_ rd_T39
  simp [List.getD_eq_getElem?_getD, List.getElem?_append_left h]
theorem at_new {u : List S39} {v : S39} : at_ (u ++ [v]) u.length = v := by
  unfold at_ rd_T39
  simp [List.getD_eq_getElem?_getD]
theorem psum_old {u : List S39} {v : S39} : ∀ j, j ≤ u.length → psum (u ++ [v]) j = psum u j
  | 0, _ => rfl
  | j + 1, h => by rw [psum, psum, psum_old j (by omega), at_old (by omega)]
theorem tot_snoc {u : List S39} {v : S39} : tot (u ++ [v]) = tot u + v.f1 := by
  unfold tot
  rw [List.length_append, List.length_singleton, psum, psum_old _ (Nat.le_refl _), at_new]
/-- What holds of a guarantee that is made: it is valid, its movements and amounts are small. -/
structure Made (a b c : Int) (u : List S39) : Prop where
  id : 1 ≤ a ∧ a ≤ 9
  ref : tot u ≤ b ∧ b ≤ tot u + 1000000
  level : 0 ≤ c ∧ c ≤ 1000000
  len : u.length ≤ 10
  small : ∀ j, j < u.length → 1 ≤ (at_ u j).f0 ∧ (at_ u j).f0 ≤ 20 ∧ 0 ≤ (at_ u j).f1 ∧ (at_ u j).f1 < 10000
  asc : asc u
theorem small_tot {u : List S39} (h : ∀ j, j < u.length → 0 ≤ (at_ u j).f1 ∧ (at_ u j).f1 < 10000) : ∀ j, j ≤ u.length → 0 ≤ psum u j ∧ psum u j ≤ j * 10000
  | 0, _ => by simp [psum]
  | j + 1, hj => by
    have := small_tot h j (by omega)
    have h1 := h j (by omega)
    simp only [psum]
    omega
theorem Made.tot_range {a b c : Int} {u : List S39} (h : Made a b c u) : 0 ≤ tot u ∧ tot u ≤ 100000 := by
  have := small_tot (fun j hj => (h.small j hj).2.2) u.length (Nat.le_refl _)
  have := h.len
  unfold tot
  omega
theorem Made.ok {a b c : Int} {u : List S39} (h : Made a b c u) : allOk u := fun j hj => by
  have := h.small j hj
  exact ⟨by omega, by omega⟩
theorem Made.valid {a b c : Int} {u : List S39} (h : Made a b c u) : vf a b c u = 0 := by
  have h1 := h.tot_range
  have h2 := h.ref
  have h3 := h.id
  have h4 := h.len
  exact vf_zero.2 ⟨⟨by omega, by omega, h.level⟩, by omega, h.ok, h.asc, h2.1⟩
theorem made_loop (s : List Int) (hs : s.length ≤ 1000) (a c : Int) (ha : 1 ≤ a ∧ a ≤ 9) (hc : 0 ≤ c ∧ c ≤ 1000000) :
    ∀ (n : Nat) (x i : Int) (u : List S39), u.length + n = 10 → 0 ≤ i → i ≤ s.length → 0 ≤ x → x ≤ 2 * (u.length : Int) → (∀ j, j < u.length → 1 ≤ (at_ u j).f0 ∧ (at_ u j).f0 ≤ x ∧ 0 ≤ (at_ u j).f1 ∧ (at_ u j).f1 < 10000) → E.asc u →
      ∃ b v, Ev (fun k => customsmade_Guarantee.l0 k x s i a (tot u) c u) (a, b, c, v) ∧ Made a b c v := by
  have fin : ∀ (x i : Int) (u : List S39), u.length ≤ 10 → 0 ≤ i → i ≤ s.length → 0 ≤ x → x ≤ 2 * (u.length : Int) → (∀ j, j < u.length → 1 ≤ (at_ u j).f0 ∧ (at_ u j).f0 ≤ x ∧ 0 ≤ (at_ u j).f1 ∧ (at_ u j).f1 < 10000) → E.asc u →
      ∃ b v, Ev (fun k => customsmade_Guarantee.j1 k x false s i a (tot u) c u) (a, b, c, v) ∧ Made a b c v := by
    intro x i u hu i0 i1 x0 x1 hsm has
    obtain ⟨r, j, h1, h2, h3, _, _⟩ := small_some s hs i 100 1000000 i0 i1 (by omega) (by omega) (by omega)
    have ht := small_tot (fun j hj => (hsm j hj).2.2) u.length (Nat.le_refl _)
    have ht2 : tot u = psum u u.length := rfl
    refine ⟨tot u + r, u, ?_, ⟨ha, by omega, hc, hu, fun j hj => by have := hsm j hj; omega, has⟩⟩
    refine evShift ?_
    simp only [customsmade_Guarantee.j1]
    refine evNeg (by simp) (evBind0 h1 (evNow ?_))
    show some (a, wrap64 (tot u + r), c, u) = _
    rw [wrap64_id (by omega) (by omega)]
  intro n
  induction n with
  | zero =>
    intro x i u hu i0 i1 x0 x1 hsm has
    obtain ⟨b, v, h1, h2⟩ := fin x i u (by omega) i0 i1 x0 x1 hsm has
    refine ⟨b, v, evShift ?_, h2⟩
    simp only [customsmade_Guarantee.l0]
    refine evBind0 rfl (evIf (fun h => ?_) (fun h => h1))
    show Ev (fun k => customsmade_Guarantee.j1 k x (decide ((u.length : Int) < 10)) s i a (tot u) c u) _
    rw [decide_eq_false (by omega)]
    exact h1
  | succ n ih =>
    intro x i u hu i0 i1 x0 x1 hsm has
    by_cases hl : i < (s.length : Int)
    · obtain ⟨r1, j1, g1, g2, g3, g4, g5⟩ := next_some s hs i 2 i0 i1 (by omega) (by omega)
      obtain ⟨r2, j2, q1, q2, q3, q4, q5⟩ := small_some s hs j1 60 10000 g4 g5 (by omega) (by omega) (by omega)
      have ht := small_tot (fun j hj => (hsm j hj).2.2) u.length (Nat.le_refl _)
      have ht2 : tot u = psum u u.length := rfl
      have hle : (u ++ [(⟨x + 1 + r1, r2⟩ : S39)]).length = u.length + 1 := by simp
      obtain ⟨b, v, h1, h2⟩ := ih (x + 1 + r1) j2 (u ++ [⟨x + 1 + r1, r2⟩]) (by omega) q4 q5 (by omega) (by rw [hle]; omega)
        (fun j hj => by
          by_cases hj2 : j < u.length
          · rw [at_old hj2]; have := hsm j hj2; omega
          · obtain rfl : j = u.length := by omega
            rw [at_new]
            exact ⟨by show 1 ≤ x + 1 + r1; omega, Int.le_refl _, q2, q3⟩)
        (fun j hj => by
          by_cases hj2 : j + 1 < u.length
          · rw [at_old (by omega), at_old hj2]; exact has j hj2
          · have : j + 1 = u.length := by omega
            rw [this, at_new, at_old (by omega)]
            have := hsm j (by omega)
            show (at_ u j).f0 < x + 1 + r1
            omega)
      refine ⟨b, v, evShift ?_, h2⟩
      simp only [customsmade_Guarantee.l0]
      refine evBind0 rfl (evPos (decide_eq_true hl) ?_)
      show Ev (fun k => customsmade_Guarantee.j1 k x (decide ((u.length : Int) < 10)) s i a (tot u) c u) _
      rw [decide_eq_true (by omega)]
      refine evShift ?_
      simp only [customsmade_Guarantee.j1]
      refine evPos (by simp) (evBind0 g1 (evBind0 q1 (evPos (by omega) ?_)))
      show Ev (fun k => customsmade_Guarantee.l0 k (wrap64 (wrap64 (x + 1) + r1)) s j2 a (wrap64 (tot u + r2)) c (u ++ [⟨wrap64 (wrap64 (x + 1) + r1), r2⟩])) _
      rw [wrap64_id (x := x + 1) (by omega) (by omega), wrap64_id (x := x + 1 + r1) (by omega) (by omega), wrap64_id (x := tot u + r2) (by omega) (by omega)]
      rw [tot_snoc] at h1
      exact h1
    · obtain ⟨b, v, h1, h2⟩ := fin x i u (by omega) i0 i1 x0 x1 hsm has
      refine ⟨b, v, evShift ?_, h2⟩
      simp only [customsmade_Guarantee.l0]
      exact evBind0 rfl (evNeg (by simpa using hl) h1)
theorem made_ev (l : List Int) : ∃ a b c u, Ev (fun k => customsmade_Guarantee.f k l) (a, b, c, u) ∧ Made a b c u := by
  obtain ⟨s, h1, hs⟩ : ∃ s, customsmade_Cut.f l 40 = some s ∧ s.length ≤ 1000 := by
    unfold customsmade_Cut.f
    by_cases h : (l.length : Int) > 40
    · exact ⟨l.take 40, by rw [if_pos h, if_pos (by omega)]; rfl, by rw [List.length_take]; omega⟩
    · exact ⟨l, by rw [if_neg h], by omega⟩
  obtain ⟨r1, j1, g1, g2, g3, g4, g5⟩ := next_some s hs 0 9 (by omega) (by omega) (by omega) (by omega)
  obtain ⟨r2, j2, q1, q2, q3, q4, q5⟩ := next_some s hs j1 5 g4 g5 (by omega) (by omega)
  have hc : 0 ≤ rd [0, 300000, 500000, 999999, 1000000] r2 ∧ rd [0, 300000, 500000, 999999, 1000000] r2 ≤ 1000000 := by
    have : r2 = 0 ∨ r2 = 1 ∨ r2 = 2 ∨ r2 = 3 ∨ r2 = 4 := by omega
    rcases this with rfl | rfl | rfl | rfl | rfl <;> decide
  obtain ⟨b, v, h2, h3⟩ := made_loop s hs (1 + r1) (rd [0, 300000, 500000, 999999, 1000000] r2) (by omega) hc 10 0 j2 [] (by simp) q4 q5 (by omega) (by simp) (fun j hj => by simp at hj) (fun j hj => by simp at hj)
  refine ⟨_, b, _, v, ?_, h3⟩
  unfold customsmade_Guarantee.f
  refine evBind0 h1 (evBind0 g1 (evBind0 rfl (evBind0 q1 (evPos q2 (evPos (by show r2 < ((5 : Nat) : Int); omega) ?_)))))
  show Ev (fun k => customsmade_Guarantee.l0 k 0 s j2 (wrap64 (1 + r1)) 0 _ []) _
  rw [wrap64_id (x := 1 + r1) (by omega) (by omega)]
  exact h2
end Go.Proofs.Ytakhjhiofmgpnaa.E
/- The search, and two lists that are the same, in plain Lean. -/
namespace Go.Proofs.Ytakhjhiofmgpnaa.E
set_option linter.unusedVariables false
set_option linter.unusedSimpArgs false
open Go.RowKit Go.Proofs.YtakhjhiofmgpnaaW.PrintWords Go.Proofs.YtakhjhiofmgpnaaW.PrintLast Go.Proofs.YtakhjhiofmgpnaaW.PrintMore Go.Proofs.Ytakhjhiofmgpnaa.G Go.Proofs.Ytakhjhiofmgpnaa.PA Go.Proofs.Ytakhjhiofmgpnaa.PB
theorem asc_le {l : List S39} (h : asc l) {i j : Nat} (hij : i ≤ j) (hj : j < l.length) : (at_ l i).f0 ≤ (at_ l j).f0 := by
  induction j with
  | zero => obtain rfl : i = 0 := by omega
            exact Int.le_refl _
  | succ j ih =>
    by_cases he : i = j + 1
    · subst he; exact Int.le_refl _
    · have := ih (by omega) (by omega)
      have := h j hj
      omega
theorem bsi_spec {l : List S39} (ha : asc l) (ho : allOk l) (m : Int) (hm : -4611686018427387904 ≤ m ∧ m ≤ 4611686018427387904) :
    ∀ (k i j : Nat), i ≤ j → j ≤ l.length → j - i ≤ k → (∀ t, t < i → (at_ l t).f0 < m) → (∀ t, j ≤ t → t < l.length → m ≤ (at_ l t).f0) →
      (∀ t, t < bsi l m k i j → (at_ l t).f0 < m) ∧ (∀ t, bsi l m k i j ≤ t → t < l.length → m ≤ (at_ l t).f0) ∧ bsi l m k i j ≤ l.length := by
  intro k
  induction k with
  | zero =>
    intro i j hij hj hk h1 h2
    obtain rfl : i = j := by omega
    exact ⟨h1, h2, hj⟩
  | succ k ih =>
    intro i j hij hj hk h1 h2
    rw [bsi]
    by_cases hlt : i < j
    · rw [if_pos hlt]
      have hb := (ho ((i + j) / 2) (by omega)).1
      show _ ∧ _ ∧ _
      have e : wrap64 ((rd_T39 l (((i + j) / 2 : Nat) : Int)).f0 - m) = (at_ l ((i + j) / 2)).f0 - m := wrap64_id (by show _ ≤ (at_ l ((i + j) / 2)).f0 - m; omega) (by show (at_ l ((i + j) / 2)).f0 - m ≤ _; omega)
      rw [e]
      by_cases hc : (at_ l ((i + j) / 2)).f0 - m < 0
      · rw [if_pos hc]
        exact ih _ _ (by omega) hj (by omega) (fun t ht => by have := asc_le ha (show t ≤ (i + j) / 2 by omega) (by omega); omega) h2
      · rw [if_neg hc]
        exact ih _ _ (by omega) (by omega) (by omega) h1 (fun t ht ht2 => by have := asc_le ha (show (i + j) / 2 ≤ t by omega) ht2; omega)
    · rw [if_neg hlt]
      obtain rfl : i = j := by omega
      exact ⟨h1, h2, hj⟩
theorem find_at {l : List S39} (ha : asc l) (ho : allOk l) (hl : l.length ≤ 100) (m : Int) (hm : -4611686018427387904 ≤ m ∧ m ≤ 4611686018427387904) :
    ∃ p : Nat, guarantee_find.f l m = some ((p : Int), decide (p < l.length) && decide ((at_ l p).f0 = m)) ∧ p ≤ l.length ∧ (∀ t, t < p → (at_ l t).f0 < m) ∧ (∀ t, p ≤ t → t < l.length → m ≤ (at_ l t).f0) := by
  obtain ⟨h1, h2, h3⟩ := bsi_spec ha ho m hm l.length 0 l.length (by omega) (by omega) (by omega) (fun t ht => by omega) (fun t ht h => by omega)
  refine ⟨bsi l m l.length 0 l.length, ?_, h3, h1, h2⟩
  unfold guarantee_find.f
  rw [if_pos (by omega)]
  congr 2
  generalize bsi l m l.length 0 l.length = p at h1 h2 h3
  by_cases hp : p < l.length
  · have hb := (ho p hp).1
    have e : wrap64 ((rd_T39 l (p : Int)).f0 - m) = (at_ l p).f0 - m := wrap64_id (by show _ ≤ (at_ l p).f0 - m; omega) (by show (at_ l p).f0 - m ≤ _; omega)
    rw [e]
    congr 1
    rw [decide_eq_decide]
    omega
  · simp [hp]
theorem same_ev (l : List S39) (hl : l.length ≤ 100) : Ev (fun k => customsref21_SameReservations.f k l l) true := by
  unfold customsref21_SameReservations.f
  refine evPos rfl ?_
  have key : ∀ (n i : Nat), i + n = l.length → Ev (fun k => customsref21_SameReservations.l0 k l l (i : Int)) true := by
    intro n
    induction n with
    | zero =>
      intro i hi
      refine evShift ?_
      simp only [customsref21_SameReservations.l0]
      exact evNeg (by omega) (evNow rfl)
    | succ n ih =>
      intro i hi
      refine evShift ?_
      simp only [customsref21_SameReservations.l0]
      have e2 : wrap64 ((i : Int) + 1) = ((i + 1 : Nat) : Int) := by rw [wrap64_id (by omega) (by omega)]; omega
      rw [e2]
      exact evPos (by omega) (evPos (by omega) (evPos (by omega) (evNeg (by simp) (ih (i + 1) (by omega)))))
  exact key l.length 0 (by omega)
theorem sameg_ev (a b c : Int) (l : List S39) (hl : l.length ≤ 100) : Ev (fun k => customsref21_SameGuarantee.f k a b c l a b c l) true := by
  unfold customsref21_SameGuarantee.f
  exact evPos rfl (evPos rfl (evPos rfl (evBind (same_ev l hl) (evNow rfl))))
end Go.Proofs.Ytakhjhiofmgpnaa.E
/- Set on a valid guarantee, in plain Lean; the law GuaranteeRefused. -/
namespace Go.Proofs.Ytakhjhiofmgpnaa.E
set_option linter.unusedVariables false
set_option linter.unusedSimpArgs false
open Go.RowKit Go.Proofs.YtakhjhiofmgpnaaW.PrintWords Go.Proofs.YtakhjhiofmgpnaaW.PrintLast Go.Proofs.YtakhjhiofmgpnaaW.PrintMore Go.Proofs.Ytakhjhiofmgpnaa.G Go.Proofs.Ytakhjhiofmgpnaa.PA Go.Proofs.Ytakhjhiofmgpnaa.PB
/-- The list with one reservation in the place of those from p up to q. -/
def put (u : List S39) (p q : Nat) (x : S39) : List S39 := u.take p ++ x :: u.drop q
theorem at_get {u : List S39} {j : Nat} (h : j < u.length) : at_ u j = u[j] := by
  unfold at_ rd_T39
  simp [List.getD_eq_getElem?_getD, h]
theorem put_len {u : List S39} {p q : Nat} {x : S39} (hp : p ≤ u.length) (hq : q ≤ u.length) : (put u p q x).length = p + 1 + (u.length - q) := by
  unfold put; simp; omega
theorem put_lo {u : List S39} {p q : Nat} {x : S39} (hp : p ≤ u.length) {j : Nat} (h : j < p) : at_ (put u p q x) j = at_ u j := by
  unfold at_ rd_T39 put
  simp only [List.getD_eq_getElem?_getD, Int.toNat_natCast]
  rw [List.getElem?_append_left (by simp; omega), List.getElem?_take, if_pos h]
theorem put_mid {u : List S39} {p q : Nat} {x : S39} (hp : p ≤ u.length) : at_ (put u p q x) p = x := by
  unfold at_ rd_T39 put
  simp only [List.getD_eq_getElem?_getD, Int.toNat_natCast]
  rw [List.getElem?_append_right (by simp; omega)]
  simp [Nat.min_eq_left hp]
theorem put_hi {u : List S39} {p q : Nat} {x : S39} (hp : p ≤ u.length) (d : Nat) : at_ (put u p q x) (p + 1 + d) = at_ u (q + d) := by
  unfold at_ rd_T39 put
  simp only [List.getD_eq_getElem?_getD, Int.toNat_natCast]
  rw [List.getElem?_append_right (by simp; omega)]
  have : p + 1 + d - (u.take p).length = d + 1 := by simp; omega
  rw [this, List.getElem?_cons_succ, List.getElem?_drop]
/-- The sum of the amounts of all movements but one, up to a place. -/
def oth (u : List S39) (m : Int) : Nat → Int
  | 0 => 0
  | i + 1 => if (at_ u i).f0 = m then oth u m i else oth u m i + (at_ u i).f1
theorem oth_range {u : List S39} (h : allOk u) (m : Int) : ∀ i, i ≤ u.length → 0 ≤ oth u m i ∧ oth u m i ≤ i * 1000000000000
  | 0, _ => by simp [oth]
  | i + 1, hi => by
    have := oth_range h m i (by omega)
    have h1 := (h i (by omega)).2
    simp only [oth]
    split <;> omega
theorem oth_all {u : List S39} {m : Int} : ∀ i, (∀ j, j < i → (at_ u j).f0 ≠ m) → oth u m i = psum u i
  | 0, _ => rfl
  | i + 1, h => by rw [oth, psum, if_neg (h i (by omega)), oth_all i (fun j hj => h j (by omega))]
/-- Where a movement stands, or would stand. -/
structure Place (u : List S39) (m : Int) (p q : Nat) : Prop where
  le : p ≤ u.length
  qle : q ≤ u.length
  pq : (q = p ∧ ∀ j, j < u.length → (at_ u j).f0 ≠ m) ∨ (q = p + 1 ∧ (at_ u p).f0 = m)
  lo : ∀ j, j < p → (at_ u j).f0 < m
  hi : ∀ j, q ≤ j → j < u.length → m < (at_ u j).f0
theorem psum_split {u : List S39} {m : Int} {p q : Nat} (h : Place u m p q) {n : Int} : ∀ d, q + d ≤ u.length → psum (put u p q ⟨m, n⟩) (p + 1 + d) = oth u m (q + d) + n
  | 0, hd => by
    have h1 : ∀ i, i ≤ p → psum (put u p q ⟨m, n⟩) i = psum u i := by
      intro i
      induction i with
      | zero => intro _; rfl
      | succ i ih => intro hi; rw [psum, psum, ih (by omega), put_lo h.le (by omega)]
    show psum (put u p q ⟨m, n⟩) (p + 1) = oth u m q + n
    rw [psum, h1 p (Nat.le_refl _), put_mid h.le]
    have h2 : oth u m p = psum u p := oth_all p (fun j hj => by have := h.lo j hj; omega)
    rcases h.pq with ⟨rfl, _⟩ | ⟨rfl, hm⟩
    · rw [h2]
    · rw [oth, if_pos hm, h2]
  | d + 1, hd => by
    show psum (put u p q ⟨m, n⟩) (p + 1 + d + 1) = oth u m (q + d + 1) + n
    rw [psum, psum_split h d (by omega), put_hi h.le, oth, if_neg (by have := h.hi (q + d) (by omega) (by omega); omega)]
    omega
theorem put_tot {u : List S39} {m : Int} {p q : Nat} (h : Place u m p q) {n : Int} : tot (put u p q ⟨m, n⟩) = oth u m u.length + n := by
  have := psum_split h (n := n) (u.length - q) (by have := h.qle; omega)
  rw [show q + (u.length - q) = u.length by have := h.qle; omega] at this
  rw [tot, put_len h.le h.qle]
  exact this
theorem put_ok {u : List S39} {m n : Int} {p q : Nat} (h : Place u m p q) (ho : allOk u) (hm : 1 ≤ m ∧ m ≤ 1000000) (hn : 0 ≤ n ∧ n ≤ 1000000000000) : allOk (put u p q ⟨m, n⟩) := fun j hj => by
  rw [put_len h.le h.qle] at hj
  rcases Nat.lt_trichotomy j p with h1 | h1 | h1
  · rw [put_lo h.le h1]; exact ho j (by have := h.le; omega)
  · subst h1; rw [put_mid h.le]; exact ⟨hm, hn⟩
  · obtain ⟨d, rfl⟩ : ∃ d, j = p + 1 + d := ⟨j - (p + 1), by omega⟩
    rw [put_hi h.le]; exact ho _ (by omega)
theorem put_asc {u : List S39} {m n : Int} {p q : Nat} (h : Place u m p q) (ha : asc u) : asc (put u p q ⟨m, n⟩) := fun j hj => by
  rw [put_len h.le h.qle] at hj
  rcases Nat.lt_trichotomy (j + 1) p with h1 | h1 | h1
  · rw [put_lo h.le (by omega), put_lo h.le h1]; exact ha j (by have := h.le; omega)
  · have e : at_ (put u p q ⟨m, n⟩) (j + 1) = ⟨m, n⟩ := by rw [h1]; exact put_mid h.le
    rw [put_lo h.le (by omega), e]; exact h.lo j (by omega)
  · by_cases h2 : j = p
    · subst h2
      have e : at_ (put u j q ⟨m, n⟩) (j + 1) = at_ u q := put_hi h.le 0
      rw [put_mid h.le, e]; exact h.hi q (Nat.le_refl _) (by omega)
    · obtain ⟨d, rfl⟩ : ∃ d, j = p + 1 + d := ⟨j - (p + 1), by omega⟩
      rw [put_hi h.le, show p + 1 + d + 1 = p + 1 + (d + 1) by omega, put_hi h.le]
      exact ha (q + d) (by omega)
theorem find_place {l : List S39} (ha : asc l) (ho : allOk l) (hl : l.length ≤ 100) (m : Int) (hm : -4611686018427387904 ≤ m ∧ m ≤ 4611686018427387904) :
    ∃ p q : Nat, Place l m p q ∧ guarantee_find.f l m = some ((p : Int), decide (q = p + 1)) := by
  obtain ⟨p, hf, hp, h1, h2⟩ := find_at ha ho hl m hm
  by_cases h : p < l.length ∧ (at_ l p).f0 = m
  · refine ⟨p, p + 1, ⟨hp, by omega, .inr ⟨rfl, h.2⟩, h1, fun j hj hjl => ?_⟩, by rw [hf]; simp [h.1, h.2]⟩
    have := asc_le ha (show p + 1 ≤ j by omega) hjl
    have := ha p (by omega)
    omega
  · refine ⟨p, p, ⟨hp, hp, .inl ⟨rfl, fun j hj => ?_⟩, h1, fun j hj hjl => ?_⟩, by rw [hf]; simp; intro h3 h4; exact h ⟨h3, h4⟩⟩
    · by_cases hjp : j < p
      · have := h1 j hjp; omega
      · intro he
        have hpl : p < l.length := by omega
        have h5 := h2 p (Nat.le_refl _) hpl
        have h6 := asc_le ha (show p ≤ j by omega) hj
        exact h ⟨hpl, by omega⟩
    · have h5 := h2 p (Nat.le_refl _) (by omega)
      have h6 := asc_le ha hj hjl
      have : (at_ l p).f0 ≠ m := fun e => h ⟨by omega, e⟩
      omega
end Go.Proofs.Ytakhjhiofmgpnaa.E
-- Written by a program of this claim (wip/tools: mkprint.py, pr.sh) out of the translation: plain functions and their contracts. Lean checks every line.
namespace Go.Proofs.Ytakhjhiofmgpnaa.PA
open Go.RowKit Go.Proofs.YtakhjhiofmgpnaaW.PrintWords Go.Proofs.YtakhjhiofmgpnaaW.PrintLast Go.Proofs.YtakhjhiofmgpnaaW.PrintMore Go.Proofs.Ytakhjhiofmgpnaa.G
attribute [local go_sem] max2_int min2_int max_two min_two max_three min_three max_four min_four   -- for this text's walks alone
set_option linter.unusedVariables false
set_option linter.unusedSimpArgs false
def customsref21_Insert.l0 : Nat → List (S39) → Int → Int → Int → Option ((List (S39)))
 | 0, _, _, _, _ => none
 | k + 1, x0, x5, x213000, x213001 => if x5 < (x0.length : Int) then (if 0 ≤ x5 then (if ((rd_T39 x0 x5).f0) < x213000 then (customsref21_Insert.l0 k x0 (wrap64 (x5 + 1)) x213000 x213001) else ((some (([] : List (S39)) : List (S39))).bind fun y214 => (if x5 ≤ (x0.length : Int) then ((some (x0.take (x5 : Int).toNat : List (S39))).bind fun y217 => (if y214.length + y217.length < 8796093022208 then ((some (y214 ++ y217 : List (S39))).bind fun y221 => ((some (([(⟨x213000, x213001⟩ : S39)] : List (S39)) : List (S39))).bind fun y224 => (if y221.length + y224.length < 8796093022208 then ((some (y221 ++ y224 : List (S39))).bind fun y227 => ((some (x0.drop (x5 : Int).toNat : List (S39))).bind fun y230 => (if y227.length + y230.length < 8796093022208 then (some (y227 ++ y230)) else (none)))) else (none)))) else (none))) else (none)))) else (none)) else ((some (([] : List (S39)) : List (S39))).bind fun y237 => (if 0 ≤ x5 then (if x5 ≤ (x0.length : Int) then ((some (x0.take (x5 : Int).toNat : List (S39))).bind fun y240 => (if y237.length + y240.length < 8796093022208 then ((some (y237 ++ y240 : List (S39))).bind fun y244 => ((some (([(⟨x213000, x213001⟩ : S39)] : List (S39)) : List (S39))).bind fun y247 => (if y244.length + y247.length < 8796093022208 then ((some (y244 ++ y247 : List (S39))).bind fun y250 => ((some (x0.drop (x5 : Int).toNat : List (S39))).bind fun y253 => (if y250.length + y253.length < 8796093022208 then (some (y250 ++ y253)) else (none)))) else (none)))) else (none))) else (none)) else (none)))
def customsref21_Insert.f (k : Nat) (l0 : List (S39)) (a1_0 : Int) (a1_1 : Int) : Option ((List (S39))) := customsref21_Insert.l0 k l0 0 a1_0 a1_1
def customsref21_Insert.T2 : Bool × List (List Nat × List Nat) := (true, [([], []), ([], []), ([1], [1]), ([0, 2], [0, 2]), ([3], [3]), ([4], [4]), ([4], [4]), ([5, 6, 4], [4, 5, 6]), ([7, 4], [4, 7]), ([8, 4], [4, 8]), ([4], [4]), ([10, 4], [4, 10]), ([9, 11, 4], [4, 9, 11]), ([4, 12], [4, 12])])
def customsref21_Insert.B2 : List Nat := [0, 0, 2, 7, 15, 31, 31, 127, 255, 511, 31, 1055, 4095, 8191]
theorem customsref21_Insert.tab2 : rtab .any (opsOf Try.f43 2) = customsref21_Insert.T2 := by kernel_rfl
theorem customsref21_Insert.bits2 : waitsOk customsref21_Insert.T2.2 customsref21_Insert.B2 = true := by kernel_rfl
def customsref21_Insert.T4 : Bool × List (List Nat × List Nat) := (true, [([], []), ([], []), ([], []), ([1, 2], [1, 2]), ([0, 3], [0, 3]), ([], []), ([5], [5]), ([4, 6, 4], [4, 6]), ([], []), ([], []), ([8, 9], [8, 9]), ([7, 10, 7], [7, 10]), ([11, 11, 0, 1, 2, 3, 4, 5, 6, 7, 8, 9, 10, 11], [11])])
def customsref21_Insert.B4 : List Nat := [0, 0, 0, 6, 15, 0, 32, 127, 0, 0, 768, 2047, 4095]
theorem customsref21_Insert.tab4 : rtab .any (opsOf Try.f43 4) = customsref21_Insert.T4 := by kernel_rfl
theorem customsref21_Insert.bits4 : waitsOk customsref21_Insert.T4.2 customsref21_Insert.B4 = true := by kernel_rfl
set_option maxHeartbeats 8000000 in
set_option maxRecDepth 100000 in
theorem customsref21_Insert.calls (k : Nat) (A0 : Option Addr) (c0 : Nat) (l0 : List (S39)) (a1_0 : Int) (a1_1 : Int) (r : List (S39)) (w : World) (hr0 : Kd.C k39 w A0 l0.length l0) (hc0 : l0.length ≤ c0) (h : customsref21_Insert.f k l0 a1_0 a1_1 = some r) :
  Calls Try.prog 43 #[.slice A0 l0.length c0, .agg #[.int .i64 a1_0, .int .i64 a1_1]] w fun e w' => ∃ v0_ : Value, e = .returned (v0_) ∧ Kd.R k39 39 w' w.heap.size (fun _ => True) v0_ r ∧ Below w.heap.size w w' := by
 have hu39 := Try.underlying39
 have HR0 := Aside0.mk hr0
 have HC0 := Aside0.mk hc0
 clear hr0 hc0
 have HB := Aside0.mk (Below.refl w.heap.size w)
 have H : (customsref21_Insert.l0 k l0 0 a1_0 a1_1) = some r := h
 clear h
 have H' := Aside0.mk H
 clear H
 go_enter Try.func43, Try.ntmps43
 go_wp2_with (first | ((with_reducible refine gate_dst (N := 3) rfl ?_); refine box_event ?hg (N := 3) ?hd (cs := #[.int .i64 a1_0, .int .i64 a1_1]) (t := 39) ?hr ?_; (case hd => rfl); (case hg => rfl); (case hr => first | (go_simp; done) | (go_simp; rfl)); intro gb212 hg w3 hbox hb; have qb_ := below_both bel hb; have n0_ := Aside0.mk (qb_.1); have n1_ := Aside0.mk (hbox); have n3_ := Aside0.mk ((by rw [hg]; exact qb_.2 : w.heap.size ≤ gb212)); clear HB; have HB := n0_; have BK212 := n1_; have GE212 := n3_; clear qb_; clear n0_ n1_ n3_; clear hb hbox hg))
 go_loopg [5] k (fun kq v5 w' => ∃ (x5_1 : Int), v5 = .int .i64 x5_1 ∧ Aside0 (customsref21_Insert.l0 kq l0 x5_1 a1_0 a1_1 = some r) ∧ Aside0 (kq ≤ k) ∧ Aside0 (w'.heap[gb212]? = some (.cells #[.int .i64 a1_0, .int .i64 a1_1] 39 (0, 0))) ∧ Aside0 (Below w.heap.size w w'))
 case atStart => exact ⟨(0), (by first | rfl | (simp; done) | (simp [*]; done)), H', ⟨Nat.le_refl _⟩, ⟨by (with_reducible repeat (first | refine blk_drewN ?_ _ | refine blk_drew ?_ | refine blk_alloc ?_ _)); exact BK212.out⟩, ⟨bel⟩⟩
 case round =>
  clear H'
  try clear p2
  obtain ⟨x5_1, rfl, HA, HK1, BK212, HB⟩ := hrel
  cases gk with
  | zero => exact absurd HA.out (by simp [customsref21_Insert.l0])
  | succ k1 =>
   have H := HA.out
   clear HA
   simp only [customsref21_Insert.l0] at H
   by_cases c4 : x5_1 < (l0.length : Int)
   ·rw [if_pos c4] at H
    have c4b0 : decide (x5_1 < (l0.length : Int)) = true := decide_eq_true c4
    clear c4
    by_cases c5 : 0 ≤ x5_1
    ·rw [if_pos c5] at H
     have c5b0 : decide (0 ≤ x5_1) = true := decide_eq_true c5
     clear c5
     by_cases c6 : ((rd_T39 l0 x5_1).f0) < a1_0
     ·rw [if_pos c6] at H
      have c6b0 : decide (((rd_T39 l0 x5_1).f0) < a1_0) = true := decide_eq_true c6
      clear c6
      have H' := Aside0.mk H
      clear H
      try go_wp2
      have n0_ := Aside0.mk (blk_drew BK212.out)
      have n1_ := Aside0.mk (below_drew1 HB.out)
      clear BK212
      clear HB
      have BK212 := n0_
      have HB := n1_
      clear n0_ n1_
      have p213 : 0 ≤ (x5_1 : Int) := of_decide_eq_true (by first | (with_reducible assumption) | assumption)
      have q213 : x5_1 < (l0.length : Int) := of_decide_eq_true (by first | (with_reducible assumption) | assumption)
      obtain ⟨ad213, e213, hx213_0, hx213_1⟩ := at_T39 HR0.out x5_1 p213 q213
      have hw213_1 := hx213_1
      have hw213_0 := hx213_0
      cases e213
      replace hx213_0 := (HB.out.cell (World.block_lt_of_cell? w _ hx213_0)).trans hx213_0
      replace hx213_1 := (HB.out.cell (World.block_lt_of_cell? w _ hx213_1)).trans hx213_1
      replace p213 := eq_true p213
      replace q213 := eq_true q213
      refine start_ (n := 14) (S := fun w' => w'.cell? ⟨gb212, 0, none⟩ = some (.int .i64 a1_0) ∧ w'.cell? ⟨gb212, 1, none⟩ = some (.int .i64 a1_1) ∧ w'.cell? (ad213.add ((x5_1).toNat * 2)) = some (.int .i64 ((rd_T39 l0 x5_1).f0)) ∧ w'.cell? ⟨(ad213.add ((x5_1).toNat * 2)).block, (ad213.add ((x5_1).toNat * 2)).off + 1, none⟩ = some (.int .i64 ((rd_T39 l0 x5_1).f1))) (ds := []) #[false, false, false, false, false, false, false, false, false, false, false, false, false, false] (by kernel_rfl) rfl rfl ⟨(blk_cell BK212.out 0).trans rfl, (blk_cell BK212.out 1).trans rfl, ((HB.out.cell (World.block_lt_of_cell? w _ hw213_0)).trans hw213_0), ((HB.out.cell (World.block_lt_of_cell? w _ hw213_1)).trans hw213_1)⟩ (fun hHeld => ?_); refine with_tabW customsref21_Insert.tab2 customsref21_Insert.bits2 (fun HT_ HW_ => ?_)
      generalize wr.drew = w7 at BK212 HB hx213_0 hx213_1 hHeld ⊢
      refine pure_ (i := 0) (N := some 6) (v := ?_) (a' := ?_) #[true, false, false, false, false, false, false, false, false, false, false, false, false, false] rfl rfl (any_of HT_.out (by kernel_rfl)) (fun _ _ _ h => h) (Or.inl ⟨by rfl, ?_⟩) ?_ ?_
      rotate_left
      ·intro w'
       go_simp
       with_reducible rfl
      rotate_left
      ·simp only [Act.put, List.setIfInBounds_toArray, List.set_cons_zero, List.set_cons_succ, i64_w, i32_w]
       rfl
      refine pure_ (i := 1) (N := some 7) (v := ?_) (a' := ?_) #[true, true, false, false, false, false, false, false, false, false, false, false, false, false] rfl rfl (any_of HT_.out (by kernel_rfl)) (fun _ _ _ h => h) (Or.inl ⟨by rfl, ?_⟩) ?_ ?_
      rotate_left
      ·intro w'
       go_simp
       with_reducible rfl
      rotate_left
      ·simp only [Act.put, List.setIfInBounds_toArray, List.set_cons_zero, List.set_cons_succ, i64_w, i32_w]
       rfl
      refine pure_ (i := 2) (N := some 8) (v := ?_) (a' := ?_) #[true, true, true, false, false, false, false, false, false, false, false, false, false, false] rfl rfl (any_of HT_.out (by kernel_rfl)) (fun _ _ _ h => h) (Or.inl ⟨by rfl, ?_⟩) ?_ ?_
      rotate_left
      ·intro w'
       go_simp
       with_reducible rfl
      rotate_left
      ·simp only [Act.put, List.setIfInBounds_toArray, List.set_cons_zero, List.set_cons_succ, i64_w, i32_w]
       rfl
      refine pure_ (i := 3) (N := some 9) (v := ?_) (a' := ?_) #[true, true, true, true, false, false, false, false, false, false, false, false, false, false] rfl rfl (any_of HT_.out (by kernel_rfl)) (fun _ _ _ h => h) (Or.inl ⟨by rfl, ?_⟩) ?_ ?_
      rotate_left
      ·intro w'
       go_simp
       with_reducible rfl
      rotate_left
      ·simp only [Act.put, List.setIfInBounds_toArray, List.set_cons_zero, List.set_cons_succ, i64_w, i32_w]
       rfl
      refine pure_ (i := 4) (N := some 10) (v := ?_) (a' := ?_) #[true, true, true, true, true, false, false, false, false, false, false, false, false, false] rfl rfl (any_of HT_.out (by kernel_rfl)) (fun _ _ _ h => h) (Or.inl ⟨by rfl, ?_⟩) ?_ ?_
      rotate_left
      ·intro w'
       go_simp
       with_reducible rfl
      rotate_left
      ·simp only [Act.put, List.setIfInBounds_toArray, List.set_cons_zero, List.set_cons_succ, i64_w, i32_w]
       rfl
      refine pure_ (i := 5) (N := some 11) (v := ?_) (a' := ?_) #[true, true, true, true, true, true, false, false, false, false, false, false, false, false] rfl rfl (any_of HT_.out (by kernel_rfl)) (fun _ _ _ h => h) (Or.inl ⟨by rfl, ?_⟩) ?_ ?_
      rotate_left
      ·intro w'
       go_simp
       with_reducible rfl
      rotate_left
      ·simp only [Act.put, List.setIfInBounds_toArray, List.set_cons_zero, List.set_cons_succ, i64_w, i32_w]
       rfl
      refine pure_ (i := 6) (N := some 12) (v := ?_) (a' := ?_) #[true, true, true, true, true, true, true, false, false, false, false, false, false, false] rfl rfl (any_of HT_.out (by kernel_rfl)) (fun _ _ _ h => h) (Or.inl ⟨by rfl, ?_⟩) ?_ ?_
      rotate_left
      ·intro w'
       go_simp
       with_reducible rfl
      rotate_left
      ·simp only [Act.put, List.setIfInBounds_toArray, List.set_cons_zero, List.set_cons_succ, i64_w, i32_w]
       rfl
      refine pure_ (i := 7) (N := some 13) (v := ?_) (a' := ?_) #[true, true, true, true, true, true, true, true, false, false, false, false, false, false] rfl rfl (any_of HT_.out (by kernel_rfl)) (fun _ _ _ h => h) (Or.inl ⟨by rfl, ?_⟩) ?_ ?_
      rotate_left
      ·intro w'
       go_simp
       with_reducible rfl
      rotate_left
      ·simp only [Act.put, List.setIfInBounds_toArray, List.set_cons_zero, List.set_cons_succ, i64_w, i32_w]
       rfl
      refine pure_ (i := 8) (N := some 14) (v := ?_) (a' := ?_) #[true, true, true, true, true, true, true, true, true, false, false, false, false, false] rfl rfl (any_of HT_.out (by kernel_rfl)) (fun _ _ _ h => h) (Or.inl ⟨by rfl, ?_⟩) ?_ ?_
      rotate_left
      ·intro w'
       go_simp
       with_reducible rfl
      rotate_left
      ·simp only [Act.put, List.setIfInBounds_toArray, List.set_cons_zero, List.set_cons_succ, i64_w, i32_w]
       rfl
      refine pure_ (i := 10) (N := some 16) (v := ?_) (a' := ?_) #[true, true, true, true, true, true, true, true, true, false, true, false, false, false] rfl rfl (any_of HT_.out (by kernel_rfl)) (fun _ _ _ h => h) (Or.inl ⟨by rfl, ?_⟩) ?_ ?_
      rotate_left
      ·intro w'
       go_simp
       with_reducible rfl
      rotate_left
      ·simp only [Act.put, List.setIfInBounds_toArray, List.set_cons_zero, List.set_cons_succ, i64_w, i32_w]
       rfl
      refine take_ (i := 9) (N := some 15) (v := ?_) (a' := ?_) #[true, true, true, true, true, true, true, true, true, true, true, false, false, false] rfl rfl (take_ofW HT_.out HW_.out (by kernel_rfl)) (fun _ _ _ h => h) (Or.inl ⟨by rfl, ?_⟩) hHeld ?_ ?_
      rotate_left
      ·rintro w' ⟨s0, s1, s2, s3⟩
       go_simp
       with_reducible rfl
      rotate_left
      ·simp only [Act.put, List.setIfInBounds_toArray, List.set_cons_zero, List.set_cons_succ, i64_w, i32_w]
       rfl
      refine take_ (i := 11) (N := some 17) (v := ?_) (a' := ?_) #[true, true, true, true, true, true, true, true, true, true, true, true, false, false] rfl rfl (take_ofW HT_.out HW_.out (by kernel_rfl)) (fun _ _ _ h => h) (Or.inl ⟨by rfl, ?_⟩) hHeld ?_ ?_
      rotate_left
      ·rintro w' ⟨s0, s1, s2, s3⟩
       go_simp
       with_reducible rfl
      rotate_left
      ·simp only [Act.put, List.setIfInBounds_toArray, List.set_cons_zero, List.set_cons_succ, i64_w, i32_w]
       rfl
      refine pure_ (i := 12) (N := some 18) (v := ?_) (a' := ?_) #[true, true, true, true, true, true, true, true, true, true, true, true, true, false] rfl rfl (any_of HT_.out (by kernel_rfl)) (fun _ _ _ h => h) (Or.inl ⟨by rfl, ?_⟩) ?_ ?_
      rotate_left
      ·intro w'
       go_simp
       with_reducible rfl
      rotate_left
      ·simp only [Act.put, List.setIfInBounds_toArray, List.set_cons_zero, List.set_cons_succ, i64_w, i32_w]
       rfl
      refine pure_ (i := 13) (N := some 19) (v := ?_) (a' := ?_) #[true, true, true, true, true, true, true, true, true, true, true, true, true, true] rfl rfl (any_of HT_.out (by kernel_rfl)) (fun _ _ _ h => h) (Or.inl ⟨by rfl, ?_⟩) ?_ ?_
      rotate_left
      ·intro w'
       go_simp
       with_reducible rfl
      rotate_left
      ·simp only [Act.put, List.setIfInBounds_toArray, List.set_cons_zero, List.set_cons_succ, i64_w, i32_w]
       rfl
      refine done_ (done_of HT_.out (by kernel_rfl)) ?_
      try go_wp2
      go_roundg k1
      case measure => have := HK1.out; omega
      case rel => exact ⟨(wrap64 (x5_1 + 1)), (by first | rfl | (simp; done) | (simp [*]; done)), H', ⟨by have := HK1.out; omega⟩, ⟨by (with_reducible repeat (first | refine blk_drewN ?_ _ | refine blk_drew ?_ | refine blk_alloc ?_ _)); exact BK212.out⟩, ⟨bel⟩⟩
     ·rw [if_neg c6] at H
      have c6b0 : decide (((rd_T39 l0 x5_1).f0) < a1_0) = false := decide_eq_false c6
      clear c6
      obtain ⟨y214, hy214⟩ : ∃ y_ : List (S39), y_ = (([] : List (S39))) := ⟨_, rfl⟩
      replace H : (if x5_1 ≤ (l0.length : Int) then ((some (l0.take (x5_1 : Int).toNat : List (S39))).bind fun y217 => (if y214.length + y217.length < 8796093022208 then ((some (y214 ++ y217 : List (S39))).bind fun y221 => ((some (([(⟨a1_0, a1_1⟩ : S39)] : List (S39)) : List (S39))).bind fun y224 => (if y221.length + y224.length < 8796093022208 then ((some (y221 ++ y224 : List (S39))).bind fun y227 => ((some (l0.drop (x5_1 : Int).toNat : List (S39))).bind fun y230 => (if y227.length + y230.length < 8796093022208 then (some (y227 ++ y230)) else (none)))) else (none)))) else (none))) else (none)) = some r := by first | (rw [hy214]; with_reducible exact H) | (have H2_ := (Option.bind_some _ _).symm.trans H; rw [hy214]; with_reducible exact H2_) | (have H2_ := (Option.bind_some _ _).symm.trans H; with_reducible exact H2_) | with_reducible exact H | (rw [hy214]; exact H) | exact H
      have Ny214 := Aside0.mk hy214
      clear hy214
      have c8b0 := eq_true (of_decide_eq_true (by first | (with_reducible assumption) | assumption) : 0 ≤ x5_1)
      by_cases c9 : x5_1 ≤ (l0.length : Int)
      ·rw [if_pos c9] at H
       have c9b0 := eq_true c9
       have c9b1 : decide (x5_1 ≤ (l0.length : Int)) = true := decide_eq_true c9
       clear c9
       obtain ⟨y217, hy217⟩ : ∃ y_ : List (S39), y_ = (l0.take (x5_1 : Int).toNat) := ⟨_, rfl⟩
       replace H : (if y214.length + y217.length < 8796093022208 then ((some (y214 ++ y217 : List (S39))).bind fun y221 => ((some (([(⟨a1_0, a1_1⟩ : S39)] : List (S39)) : List (S39))).bind fun y224 => (if y221.length + y224.length < 8796093022208 then ((some (y221 ++ y224 : List (S39))).bind fun y227 => ((some (l0.drop (x5_1 : Int).toNat : List (S39))).bind fun y230 => (if y227.length + y230.length < 8796093022208 then (some (y227 ++ y230)) else (none)))) else (none)))) else (none)) = some r := by first | (rw [hy217]; with_reducible exact H) | (have H2_ := (Option.bind_some _ _).symm.trans H; rw [hy217]; with_reducible exact H2_) | (have H2_ := (Option.bind_some _ _).symm.trans H; with_reducible exact H2_) | with_reducible exact H | (rw [hy217]; exact H) | exact H
       have Ny217 := Aside0.mk hy217
       clear hy217
       by_cases c10 : y214.length + y217.length < 8796093022208
       ·rw [if_pos c10] at H
        have LMc10 := Aside0.mk c10
        clear c10
        obtain ⟨y221, hy221⟩ : ∃ y_ : List (S39), y_ = (y214 ++ y217) := ⟨_, rfl⟩
        replace H : ((some (([(⟨a1_0, a1_1⟩ : S39)] : List (S39)) : List (S39))).bind fun y224 => (if y221.length + y224.length < 8796093022208 then ((some (y221 ++ y224 : List (S39))).bind fun y227 => ((some (l0.drop (x5_1 : Int).toNat : List (S39))).bind fun y230 => (if y227.length + y230.length < 8796093022208 then (some (y227 ++ y230)) else (none)))) else (none))) = some r := by first | (rw [hy221]; with_reducible exact H) | (have H2_ := (Option.bind_some _ _).symm.trans H; rw [hy221]; with_reducible exact H2_) | (have H2_ := (Option.bind_some _ _).symm.trans H; with_reducible exact H2_) | with_reducible exact H | (rw [hy221]; exact H) | exact H
        have Ny221 := Aside0.mk hy221
        clear hy221
        obtain ⟨y224, hy224⟩ : ∃ y_ : List (S39), y_ = (([(⟨a1_0, a1_1⟩ : S39)] : List (S39))) := ⟨_, rfl⟩
        replace H : (if y221.length + y224.length < 8796093022208 then ((some (y221 ++ y224 : List (S39))).bind fun y227 => ((some (l0.drop (x5_1 : Int).toNat : List (S39))).bind fun y230 => (if y227.length + y230.length < 8796093022208 then (some (y227 ++ y230)) else (none)))) else (none)) = some r := by first | (rw [hy224]; with_reducible exact H) | (have H2_ := (Option.bind_some _ _).symm.trans H; rw [hy224]; with_reducible exact H2_) | (have H2_ := (Option.bind_some _ _).symm.trans H; with_reducible exact H2_) | with_reducible exact H | (rw [hy224]; exact H) | exact H
        have Ny224 := Aside0.mk hy224
        clear hy224
        by_cases c11 : y221.length + y224.length < 8796093022208
        ·rw [if_pos c11] at H
         have LMc11 := Aside0.mk c11
         clear c11
         obtain ⟨y227, hy227⟩ : ∃ y_ : List (S39), y_ = (y221 ++ y224) := ⟨_, rfl⟩
         replace H : ((some (l0.drop (x5_1 : Int).toNat : List (S39))).bind fun y230 => (if y227.length + y230.length < 8796093022208 then (some (y227 ++ y230)) else (none))) = some r := by first | (rw [hy227]; with_reducible exact H) | (have H2_ := (Option.bind_some _ _).symm.trans H; rw [hy227]; with_reducible exact H2_) | (have H2_ := (Option.bind_some _ _).symm.trans H; with_reducible exact H2_) | with_reducible exact H | (rw [hy227]; exact H) | exact H
         have Ny227 := Aside0.mk hy227
         clear hy227
         have c12b0 := eq_true (of_decide_eq_true (by first | (with_reducible assumption) | assumption) : 0 ≤ x5_1)
         have c13b0 := eq_true (of_decide_eq_true (by first | (with_reducible assumption) | assumption) : x5_1 ≤ (l0.length : Int))
         obtain ⟨y230, hy230⟩ : ∃ y_ : List (S39), y_ = (l0.drop (x5_1 : Int).toNat) := ⟨_, rfl⟩
         replace H : (if y227.length + y230.length < 8796093022208 then (some (y227 ++ y230)) else (none)) = some r := by first | (rw [hy230]; with_reducible exact H) | (have H2_ := (Option.bind_some _ _).symm.trans H; rw [hy230]; with_reducible exact H2_) | (have H2_ := (Option.bind_some _ _).symm.trans H; with_reducible exact H2_) | with_reducible exact H | (rw [hy230]; exact H) | exact H
         have Ny230 := Aside0.mk hy230
         clear hy230
         by_cases c14 : y227.length + y230.length < 8796093022208
         ·rw [if_pos c14] at H
          have LMc14 := Aside0.mk c14
          clear c14
          obtain ⟨y234, hy234⟩ : ∃ y_ : List (S39), y_ = (y227 ++ y230) := ⟨_, rfl⟩
          replace H : (some y234) = some r := by first | (rw [hy234]; with_reducible exact H) | (have H2_ := (Option.bind_some _ _).symm.trans H; rw [hy234]; with_reducible exact H2_) | (have H2_ := (Option.bind_some _ _).symm.trans H; with_reducible exact H2_) | with_reducible exact H | (rw [hy234]; exact H) | exact H
          have Ny234 := Aside0.mk hy234
          clear hy234
          obtain rfl := Option.some.inj H
          try go_wp2
          have n0_ := Aside0.mk (blk_drew BK212.out)
          have n1_ := Aside0.mk (below_drew1 HB.out)
          clear BK212
          clear HB
          have BK212 := n0_
          have HB := n1_
          clear n0_ n1_
          have p213 : 0 ≤ (x5_1 : Int) := of_decide_eq_true (by first | (with_reducible assumption) | assumption)
          have q213 : x5_1 < (l0.length : Int) := of_decide_eq_true (by first | (with_reducible assumption) | assumption)
          obtain ⟨ad213, e213, hx213_0, hx213_1⟩ := at_T39 HR0.out x5_1 p213 q213
          have hw213_1 := hx213_1
          have hw213_0 := hx213_0
          cases e213
          replace hx213_0 := (HB.out.cell (World.block_lt_of_cell? w _ hx213_0)).trans hx213_0
          replace hx213_1 := (HB.out.cell (World.block_lt_of_cell? w _ hx213_1)).trans hx213_1
          replace p213 := eq_true p213
          replace q213 := eq_true q213
          refine start_ (n := 14) (S := fun w' => w'.cell? ⟨gb212, 0, none⟩ = some (.int .i64 a1_0) ∧ w'.cell? ⟨gb212, 1, none⟩ = some (.int .i64 a1_1) ∧ w'.cell? (ad213.add ((x5_1).toNat * 2)) = some (.int .i64 ((rd_T39 l0 x5_1).f0)) ∧ w'.cell? ⟨(ad213.add ((x5_1).toNat * 2)).block, (ad213.add ((x5_1).toNat * 2)).off + 1, none⟩ = some (.int .i64 ((rd_T39 l0 x5_1).f1))) (ds := []) #[false, false, false, false, false, false, false, false, false, false, false, false, false, false] (by kernel_rfl) rfl rfl ⟨(blk_cell BK212.out 0).trans rfl, (blk_cell BK212.out 1).trans rfl, ((HB.out.cell (World.block_lt_of_cell? w _ hw213_0)).trans hw213_0), ((HB.out.cell (World.block_lt_of_cell? w _ hw213_1)).trans hw213_1)⟩ (fun hHeld => ?_); refine with_tabW customsref21_Insert.tab2 customsref21_Insert.bits2 (fun HT_ HW_ => ?_)
          generalize wr.drew = w15 at BK212 HB hx213_0 hx213_1 hHeld ⊢
          refine pure_ (i := 0) (N := some 6) (v := ?_) (a' := ?_) #[true, false, false, false, false, false, false, false, false, false, false, false, false, false] rfl rfl (any_of HT_.out (by kernel_rfl)) (fun _ _ _ h => h) (Or.inl ⟨by rfl, ?_⟩) ?_ ?_
          rotate_left
          ·intro w'
           go_simp
           with_reducible rfl
          rotate_left
          ·simp only [Act.put, List.setIfInBounds_toArray, List.set_cons_zero, List.set_cons_succ, i64_w, i32_w]
           rfl
          refine pure_ (i := 1) (N := some 7) (v := ?_) (a' := ?_) #[true, true, false, false, false, false, false, false, false, false, false, false, false, false] rfl rfl (any_of HT_.out (by kernel_rfl)) (fun _ _ _ h => h) (Or.inl ⟨by rfl, ?_⟩) ?_ ?_
          rotate_left
          ·intro w'
           go_simp
           with_reducible rfl
          rotate_left
          ·simp only [Act.put, List.setIfInBounds_toArray, List.set_cons_zero, List.set_cons_succ, i64_w, i32_w]
           rfl
          refine pure_ (i := 2) (N := some 8) (v := ?_) (a' := ?_) #[true, true, true, false, false, false, false, false, false, false, false, false, false, false] rfl rfl (any_of HT_.out (by kernel_rfl)) (fun _ _ _ h => h) (Or.inl ⟨by rfl, ?_⟩) ?_ ?_
          rotate_left
          ·intro w'
           go_simp
           with_reducible rfl
          rotate_left
          ·simp only [Act.put, List.setIfInBounds_toArray, List.set_cons_zero, List.set_cons_succ, i64_w, i32_w]
           rfl
          refine pure_ (i := 3) (N := some 9) (v := ?_) (a' := ?_) #[true, true, true, true, false, false, false, false, false, false, false, false, false, false] rfl rfl (any_of HT_.out (by kernel_rfl)) (fun _ _ _ h => h) (Or.inl ⟨by rfl, ?_⟩) ?_ ?_
          rotate_left
          ·intro w'
           go_simp
           with_reducible rfl
          rotate_left
          ·simp only [Act.put, List.setIfInBounds_toArray, List.set_cons_zero, List.set_cons_succ, i64_w, i32_w]
           rfl
          refine pure_ (i := 4) (N := some 10) (v := ?_) (a' := ?_) #[true, true, true, true, true, false, false, false, false, false, false, false, false, false] rfl rfl (any_of HT_.out (by kernel_rfl)) (fun _ _ _ h => h) (Or.inl ⟨by rfl, ?_⟩) ?_ ?_
          rotate_left
          ·intro w'
           go_simp
           with_reducible rfl
          rotate_left
          ·simp only [Act.put, List.setIfInBounds_toArray, List.set_cons_zero, List.set_cons_succ, i64_w, i32_w]
           rfl
          refine pure_ (i := 5) (N := some 11) (v := ?_) (a' := ?_) #[true, true, true, true, true, true, false, false, false, false, false, false, false, false] rfl rfl (any_of HT_.out (by kernel_rfl)) (fun _ _ _ h => h) (Or.inl ⟨by rfl, ?_⟩) ?_ ?_
          rotate_left
          ·intro w'
           go_simp
           with_reducible rfl
          rotate_left
          ·simp only [Act.put, List.setIfInBounds_toArray, List.set_cons_zero, List.set_cons_succ, i64_w, i32_w]
           rfl
          refine pure_ (i := 6) (N := some 12) (v := ?_) (a' := ?_) #[true, true, true, true, true, true, true, false, false, false, false, false, false, false] rfl rfl (any_of HT_.out (by kernel_rfl)) (fun _ _ _ h => h) (Or.inl ⟨by rfl, ?_⟩) ?_ ?_
          rotate_left
          ·intro w'
           go_simp
           with_reducible rfl
          rotate_left
          ·simp only [Act.put, List.setIfInBounds_toArray, List.set_cons_zero, List.set_cons_succ, i64_w, i32_w]
           rfl
          refine pure_ (i := 7) (N := some 13) (v := ?_) (a' := ?_) #[true, true, true, true, true, true, true, true, false, false, false, false, false, false] rfl rfl (any_of HT_.out (by kernel_rfl)) (fun _ _ _ h => h) (Or.inl ⟨by rfl, ?_⟩) ?_ ?_
          rotate_left
          ·intro w'
           go_simp
           with_reducible rfl
          rotate_left
          ·simp only [Act.put, List.setIfInBounds_toArray, List.set_cons_zero, List.set_cons_succ, i64_w, i32_w]
           rfl
          refine pure_ (i := 8) (N := some 14) (v := ?_) (a' := ?_) #[true, true, true, true, true, true, true, true, true, false, false, false, false, false] rfl rfl (any_of HT_.out (by kernel_rfl)) (fun _ _ _ h => h) (Or.inl ⟨by rfl, ?_⟩) ?_ ?_
          rotate_left
          ·intro w'
           go_simp
           with_reducible rfl
          rotate_left
          ·simp only [Act.put, List.setIfInBounds_toArray, List.set_cons_zero, List.set_cons_succ, i64_w, i32_w]
           rfl
          refine pure_ (i := 10) (N := some 16) (v := ?_) (a' := ?_) #[true, true, true, true, true, true, true, true, true, false, true, false, false, false] rfl rfl (any_of HT_.out (by kernel_rfl)) (fun _ _ _ h => h) (Or.inl ⟨by rfl, ?_⟩) ?_ ?_
          rotate_left
          ·intro w'
           go_simp
           with_reducible rfl
          rotate_left
          ·simp only [Act.put, List.setIfInBounds_toArray, List.set_cons_zero, List.set_cons_succ, i64_w, i32_w]
           rfl
          refine take_ (i := 9) (N := some 15) (v := ?_) (a' := ?_) #[true, true, true, true, true, true, true, true, true, true, true, false, false, false] rfl rfl (take_ofW HT_.out HW_.out (by kernel_rfl)) (fun _ _ _ h => h) (Or.inl ⟨by rfl, ?_⟩) hHeld ?_ ?_
          rotate_left
          ·rintro w' ⟨s0, s1, s2, s3⟩
           go_simp
           with_reducible rfl
          rotate_left
          ·simp only [Act.put, List.setIfInBounds_toArray, List.set_cons_zero, List.set_cons_succ, i64_w, i32_w]
           rfl
          refine take_ (i := 11) (N := some 17) (v := ?_) (a' := ?_) #[true, true, true, true, true, true, true, true, true, true, true, true, false, false] rfl rfl (take_ofW HT_.out HW_.out (by kernel_rfl)) (fun _ _ _ h => h) (Or.inl ⟨by rfl, ?_⟩) hHeld ?_ ?_
          rotate_left
          ·rintro w' ⟨s0, s1, s2, s3⟩
           go_simp
           with_reducible rfl
          rotate_left
          ·simp only [Act.put, List.setIfInBounds_toArray, List.set_cons_zero, List.set_cons_succ, i64_w, i32_w]
           rfl
          refine pure_ (i := 12) (N := some 18) (v := ?_) (a' := ?_) #[true, true, true, true, true, true, true, true, true, true, true, true, true, false] rfl rfl (any_of HT_.out (by kernel_rfl)) (fun _ _ _ h => h) (Or.inl ⟨by rfl, ?_⟩) ?_ ?_
          rotate_left
          ·intro w'
           go_simp
           with_reducible rfl
          rotate_left
          ·simp only [Act.put, List.setIfInBounds_toArray, List.set_cons_zero, List.set_cons_succ, i64_w, i32_w]
           rfl
          refine pure_ (i := 13) (N := some 19) (v := ?_) (a' := ?_) #[true, true, true, true, true, true, true, true, true, true, true, true, true, true] rfl rfl (any_of HT_.out (by kernel_rfl)) (fun _ _ _ h => h) (Or.inl ⟨by rfl, ?_⟩) ?_ ?_
          rotate_left
          ·intro w'
           go_simp
           with_reducible rfl
          rotate_left
          ·simp only [Act.put, List.setIfInBounds_toArray, List.set_cons_zero, List.set_cons_succ, i64_w, i32_w]
           rfl
          refine done_ (done_of HT_.out (by kernel_rfl)) ?_
          try go_wp2
          have n0_ := Aside0.mk (blk_drew BK212.out)
          have n1_ := Aside0.mk (below_drew1 HB.out)
          clear BK212
          clear HB
          have BK212 := n0_
          have HB := n1_
          clear n0_ n1_
          have q17 : (x5_1 : Int) ≤ ((l0.length : Int) : Int) := of_decide_eq_true (by first | (with_reducible assumption) | assumption)
          obtain ⟨i017, hi017, _, hsz17, _⟩ := info_parts info39
          have hroom17 : l0.length ≤ c0 := HC0.out
          have hC17 : Kd.C k39 _ (some ad213) l0.length l0 := HR0.out
          have hcut17 := cut_to (P := Try.prog) 23 39 .i64 Try.underlying23 hi017 (some ad213) l0.length c0 x5_1 (of_decide_eq_true (by first | (with_reducible assumption) | assumption)) q17 hroom17
          have hr17 := Kd.C_take (m := (x5_1 : Int).toNat) hC17 (by omega)
          have hy17 : y217.length = (x5_1 : Int).toNat := (by rw [Ny217.out, List.length_take]; omega)
          rw [← Ny217.out] at hr17
          rw [← hy17] at hcut17
          have HR220 := Aside0.mk hr17
          have HC220 := Aside0.mk (show y217.length ≤ c0 from by omega)
          clear hr17 hC17 hroom17 hi017 hsz17
          have KY17 := Aside0.mk hy17
          clear hy17
          replace q17 := eq_true q17
          have q18 : (x5_1 : Int) ≤ ((l0.length : Int) : Int) := of_decide_eq_true (by first | (with_reducible assumption) | assumption)
          obtain ⟨i018, hi018, _, hsz18, _⟩ := info_parts info39
          have hroom18 : l0.length ≤ c0 := HC0.out
          have hC18 : Kd.C k39 _ (some ad213) l0.length l0 := HR0.out
          have q018 : (0 : Int) ≤ (x5_1 : Int) := of_decide_eq_true (by first | (with_reducible assumption) | assumption)
          have hcut18 := cut_from (P := Try.prog) 23 39 .i64 Try.underlying23 hi018 2 hsz18 (some ad213) l0.length c0 x5_1 q018 q18
          have hr18 := Kd.C_drop (m := (x5_1 : Int).toNat) (c := c0) hC18 (by omega) hroom18
          obtain ⟨A18, hA18⟩ : ∃ A1, A1 = (if c0 = (x5_1 : Int).toNat then (some ad213) else ((some ad213) : Option Addr).map (·.add ((x5_1 : Int).toNat * 2))) := ⟨_, rfl⟩
          obtain ⟨c18, hc18⟩ : ∃ c1, c1 = c0 - (x5_1 : Int).toNat := ⟨_, rfl⟩
          have hy18 : y230.length = l0.length - (x5_1 : Int).toNat := (by rw [Ny230.out, List.length_drop] <;> omega)
          rw [show (l0).drop (x5_1 : Int).toNat = y230 from Ny230.out.symm] at hr18
          replace hr18 : Kd.C k39 _ A18 y230.length y230 := (by rw [hA18]; exact hr18)
          rw [← hy18, ← hA18, ← hc18] at hcut18
          have HR233 := Aside0.mk hr18
          have HC233 := Aside0.mk (show y230.length ≤ c18 from by rw [hy18, hc18]; exact Nat.sub_le_sub_right hroom18 _)
          clear hr18 hC18 hroom18 hi018 hsz18 hc18
          have KY18 := Aside0.mk hy18
          have KA18 := Aside0.mk hA18
          clear hy18 hA18
          replace q18 := eq_true q18
          refine start_ (n := 13) (S := fun w' => w'.cell? ⟨gb212, 0, none⟩ = some (.int .i64 a1_0) ∧ w'.cell? ⟨gb212, 1, none⟩ = some (.int .i64 a1_1)) (ds := []) #[false, false, false, false, false, false, false, false, false, false, false, false, false] (by kernel_rfl) rfl rfl ⟨(blk_cell BK212.out 0).trans rfl, (blk_cell BK212.out 1).trans rfl⟩ (fun hHeld => ?_); refine with_tabW customsref21_Insert.tab4 customsref21_Insert.bits4 (fun HT_ HW_ => ?_)
          generalize w15.drew = w16 at BK212 HB HR220 HR233 hHeld ⊢
          refine pure_ (i := 1) (N := some 23) (v := ?_) (a' := ?_) #[false, true, false, false, false, false, false, false, false, false, false, false, false] rfl rfl (any_of HT_.out (by kernel_rfl)) (fun _ _ _ h => h) (Or.inl ⟨by rfl, ?_⟩) ?_ ?_
          rotate_left
          ·intro w'
           go_simp
           with_reducible rfl
          rotate_left
          ·simp only [Act.put, List.setIfInBounds_toArray, List.set_cons_zero, List.set_cons_succ, i64_w, i32_w]
           rfl
          refine pure_ (i := 2) (N := some 24) (v := ?_) (a' := ?_) #[false, true, true, false, false, false, false, false, false, false, false, false, false] rfl rfl (any_of HT_.out (by kernel_rfl)) (fun _ _ _ h => h) (Or.inl ⟨by rfl, ?_⟩) ?_ ?_
          rotate_left
          ·intro w'
           go_simp
           with_reducible rfl
          rotate_left
          ·simp only [Act.put, List.setIfInBounds_toArray, List.set_cons_zero, List.set_cons_succ, i64_w, i32_w]
           rfl
          refine pure_ (i := 3) (N := some 25) (v := ?_) (a' := ?_) #[false, true, true, true, false, false, false, false, false, false, false, false, false] rfl rfl (any_of HT_.out (by kernel_rfl)) (fun _ _ _ h => h) (Or.inl ⟨by rfl, ?_⟩) ?_ ?_
          rotate_left
          ·intro w'
           go_simp
           with_reducible rfl
          rotate_left
          ·simp only [Act.put, List.setIfInBounds_toArray, List.set_cons_zero, List.set_cons_succ, i64_w, i32_w]
           rfl
          refine pure_ (i := 8) (N := some 30) (v := ?_) (a' := ?_) #[false, true, true, true, false, false, false, false, true, false, false, false, false] rfl rfl (any_of HT_.out (by kernel_rfl)) (fun _ _ _ h => h) (Or.inl ⟨by rfl, ?_⟩) ?_ ?_
          rotate_left
          ·intro w'
           go_simp
           with_reducible rfl
          rotate_left
          ·simp only [Act.put, List.setIfInBounds_toArray, List.set_cons_zero, List.set_cons_succ, i64_w, i32_w]
           rfl
          refine pure_ (i := 9) (N := some 31) (v := ?_) (a' := ?_) #[false, true, true, true, false, false, false, false, true, true, false, false, false] rfl rfl (any_of HT_.out (by kernel_rfl)) (fun _ _ _ h => h) (Or.inl ⟨by rfl, ?_⟩) ?_ ?_
          rotate_left
          ·intro w'
           go_simp
           with_reducible rfl
          rotate_left
          ·simp only [Act.put, List.setIfInBounds_toArray, List.set_cons_zero, List.set_cons_succ, i64_w, i32_w]
           rfl
          refine pure_ (i := 10) (N := some 32) (v := ?_) (a' := ?_) #[false, true, true, true, false, false, false, false, true, true, true, false, false] rfl rfl (any_of HT_.out (by kernel_rfl)) (fun _ _ _ h => h) (Or.inl ⟨by rfl, ?_⟩) ?_ ?_
          rotate_left
          ·intro w'
           go_simp
           with_reducible rfl
          rotate_left
          ·simp only [Act.put, List.setIfInBounds_toArray, List.set_cons_zero, List.set_cons_succ, i64_w, i32_w]
           rfl
          refine take_ (i := 5) (N := some 27) (v := ?_) (a' := ?_) #[false, true, true, true, false, true, false, false, true, true, true, false, false] rfl rfl (take_ofW HT_.out HW_.out (by kernel_rfl)) (fun _ _ _ h => h) (Or.inl ⟨by rfl, ?_⟩) hHeld ?_ ?_
          rotate_left
          ·rintro w' ⟨s0, s1⟩
           go_simp
           with_reducible rfl
          rotate_left
          ·simp only [Act.put, List.setIfInBounds_toArray, List.set_cons_zero, List.set_cons_succ, i64_w, i32_w]
           rfl
          refine join_ (σ := Value × Value × Value) 3 #[true, true, true, true, true, true, true, false, true, true, true, false, false] (fun s_ => [(22, s_.1), (26, s_.2.1), (28, s_.2.2)]) (fun s_ w' => (w'.cell? ⟨gb212, 0, none⟩ = some (.int .i64 a1_0) ∧ w'.cell? ⟨gb212, 1, none⟩ = some (.int .i64 a1_1)) ∧ (Kd.R k39 39 w' w.heap.size (fun k_ => some k_ ≠ (s_.2.2 : Value).ownBlock ∧ k_ ≠ gb212) s_.2.1 y221) ∧ (Kd.R k39 39 w' w.heap.size (fun k_ => some k_ ≠ (s_.2.1 : Value).ownBlock ∧ k_ ≠ gb212) s_.2.2 y224) ∧ (w'.heap[gb212]? = some (.cells #[.int .i64 a1_0, .int .i64 a1_1] 39 (0, 0))) ∧ (Below w.heap.size w w')) ?_ ?_
          rotate_left
          ·intro hCont
           refine two_ (i := 0) (j := 6) (Ni := some 22) (Nj := some 28) #[true, true, true, true, false, true, false, false, true, true, true, false, false] #[false, true, true, true, false, true, true, false, true, true, true, false, false] rfl rfl rfl rfl (two_of HT_.out (by kernel_rfl)) (by decide) (by decide) (fun K hK => ?_) (fun K hK => ?_)
           ·skip
            refine Kd.R_lit_step k39 _ 39 ?hg (N := 22) ?hd (xs := ([] : List (S39))) (inner := []) (ok := fun _ => True) (okp := fun _ => True) ?hr ?hp (fun _ hk => hk) trivial (Below.refl _ _) (Nat.le_refl _) (by simp) ?_; (case hd => rfl); (case hg => rfl); (case hr => first | (go_simp; done) | (go_simp; rfl)); (case hp => exact (Reps.none _ _))
            intro v215 w19 ho20 hb hg_ hnew_
            clear hg_ hnew_
            (first | rw [← Ny214.out] at ho20 | (simp only [Int.reduceToNat] at ho20; rw [← Ny214.out] at ho20))
            have n0_ := Aside0.mk (Kd.R_lower (Kd.R_newB ho20 (g := gb212) (o := .cells #[.int .i64 a1_0, .int .i64 a1_1] 39 (0, 0)) blkx) (below_size bel))
            have n1_ := Aside0.mk (blk_below (g := gb212) (o := .cells #[.int .i64 a1_0, .int .i64 a1_1] 39 (0, 0)) blkx hb)
            have n2_ := Aside0.mk (below_step bel hb)
            clear BK212
            clear HB
            have HO216 := n0_
            have BK212 := n1_
            have HB := n2_
            clear n0_ n1_ n2_
            clear hb ho20
            refine hK.out _ _ ⟨(blk_cell BK212.out 0).trans rfl, (blk_cell BK212.out 1).trans rfl⟩ (fun hHeld => ?_)
            clear hK K
            refine norm_ (a' := ?_) ?_ ?_
            rotate_left
            ·show Act.put _ (some 22) _ = _
             simp only [Act.put, List.setIfInBounds_toArray, List.set_cons_zero, List.set_cons_succ, i64_w, i32_w]
             rfl
            refine two_ (i := 4) (j := 6) (Ni := some 26) (Nj := some 28) #[true, true, true, true, true, true, false, false, true, true, true, false, false] #[true, true, true, true, false, true, true, false, true, true, true, false, false] rfl rfl rfl rfl (two_of HT_.out (by kernel_rfl)) (by decide) (by decide) (fun K hK => ?_) (fun K hK => ?_)
            ·skip
             refine Kd.R_append_rows_step k39 (w0 := w) w.heap.size (by rfl) (.tmp 22) (.tmp 25) 23 39 (.agg #[(.int .i64 0), (.int .i64 0)]) 16 rfl Try.underlying23 info39 rfl (by decide) (by omega) v215 y214 y217 _ _ _ (fun k_ => k_ ≠ gb212) (fun _ => False) rfl rfl ?aO ?aR (fun _ _ h => h) (fun _ h => h.elim) ?aF ?aB ?aS ?aL ?_
             (case aR => repeat (first | exact (Kd.C_below HR220.out HB.out) | (with_reducible refine Kd.C_alloc ?_ _) | (with_reducible refine Kd.C_drewN ?_ _) | (with_reducible refine Kd.C_drew ?_)))
             (case aB => exact bel)
             (case aF => exact (fun k_ hk => Kd.freshB (g := gb212) (o := .cells #[.int .i64 a1_0, .int .i64 a1_1] 39 (0, 0)) blkx k_ hk))
             (case aO => exact (by (with_reducible repeat (first | apply Kd.R_alloc | apply Kd.R_drewN | apply Kd.R_drew)); exact Kd.R_mono HO216.out (fun _ hk => hk.2)))
             (case aS => exact (below_size bel))
             (case aL => have := LMc10.out; omega)
             intro v222 w21 ho hb hg hat
             rw [← Ny221.out] at ho
             have n0_ := Aside0.mk (blk_grown (g := gb212) (o := .cells #[.int .i64 a1_0, .int .i64 a1_1] 39 (0, 0)) blkx hg (Kd.R_away HO216.out (fun _ hk => hk.2)))
             have n1_ := Aside0.mk (hb)
             have n2_ := Aside0.mk (ho)
             clear BK212
             clear HB
             clear HO216
             have BK212 := n0_
             have HB := n1_
             have HO223 := n2_
             clear n0_ n1_ n2_
             clear ho hb hg hat
             refine hK.out _ _ ⟨(blk_cell BK212.out 0).trans rfl, (blk_cell BK212.out 1).trans rfl⟩ (fun hHeld => ?_)
             clear hK K
             refine norm_ (a' := ?_) ?_ ?_
             rotate_left
             ·show Act.put _ (some 26) _ = _
              simp only [Act.put, List.setIfInBounds_toArray, List.set_cons_zero, List.set_cons_succ, i64_w, i32_w]
              rfl
             refine one_ (i := 6) (N := some 28) #[true, true, true, true, true, true, true, false, true, true, true, false, false] rfl rfl (one_of HT_.out (by kernel_rfl)) (by decide) (fun K hK => ?_)
             refine Kd.R_lit_step k39 _ 39 ?hg (N := 28) ?hd (xs := ([(⟨a1_0, a1_1⟩ : S39)] : List (S39))) (inner := [.int .i64 a1_0, .int .i64 a1_1]) (ok := fun _ => True) (okp := fun _ => True) ?hr ?hp (fun _ hk => hk) trivial (Below.refl _ _) (Nat.le_refl _) (by simp) ?_; (case hd => rfl); (case hg => rfl); (case hr => first | (go_simp; done) | (go_simp; rfl)); (case hp => exact (Reps.c2 (show Kd.M k39 _ _ _ (⟨a1_0, a1_1⟩ : S39) [.int .i64 a1_0, .int .i64 a1_1] from (k39_mkM _ _ _ (⟨a1_0, a1_1⟩ : S39) )) (Reps.none _ _)))
             intro v225 w22 ho23 hb hg_ hnew_
             clear hg_ hnew_
             (first | rw [← Ny224.out] at ho23 | (simp only [Int.reduceToNat] at ho23; rw [← Ny224.out] at ho23))
             have n0_ := Aside0.mk (Kd.R_elder' (rowx HO223.out) (Kd.R_base ho23) hb)
             have n1_ := Aside0.mk (Kd.R_lower (Kd.R_newB (Kd.R_new' ho23 (Kd.R_lt (rowx HO223.out))) (g := gb212) (o := .cells #[.int .i64 a1_0, .int .i64 a1_1] 39 (0, 0)) blkx) (below_size bel))
             have n2_ := Aside0.mk (blk_below (g := gb212) (o := .cells #[.int .i64 a1_0, .int .i64 a1_1] 39 (0, 0)) blkx hb)
             have n3_ := Aside0.mk (below_step bel hb)
             clear HO223
             clear BK212
             clear HB
             have HO223 := n0_
             have HO226 := n1_
             have BK212 := n2_
             have HB := n3_
             clear n0_ n1_ n2_ n3_
             clear hb ho23
             refine hK.out _ _ ⟨(blk_cell BK212.out 0).trans rfl, (blk_cell BK212.out 1).trans rfl⟩ (fun hHeld => ?_)
             clear hK K
             refine norm_ (a' := ?_) ?_ ?_
             rotate_left
             ·show Act.put _ (some 28) _ = _
              simp only [Act.put, List.setIfInBounds_toArray, List.set_cons_zero, List.set_cons_succ, i64_w, i32_w]
              rfl
             exact norm_ (by simp only [putAll, Act.put, List.setIfInBounds_toArray, List.set_cons_zero, List.set_cons_succ]) (hCont (v215, v222, v225) _ ⟨hHeld, (by (with_reducible repeat (first | apply Kd.R_alloc | apply Kd.R_drewN | apply Kd.R_drew)); exact Kd.R_mono HO223.out (fun _ hk => ⟨hk.2, hk.1⟩)), (by (with_reducible repeat (first | apply Kd.R_alloc | apply Kd.R_drewN | apply Kd.R_drew)); exact Kd.R_mono HO226.out (fun _ hk => ⟨hk.1.2, hk.2⟩)), blkx, bel⟩)
            ·skip
             refine Kd.R_lit_step k39 _ 39 ?hg (N := 28) ?hd (xs := ([(⟨a1_0, a1_1⟩ : S39)] : List (S39))) (inner := [.int .i64 a1_0, .int .i64 a1_1]) (ok := fun _ => True) (okp := fun _ => True) ?hr ?hp (fun _ hk => hk) trivial (Below.refl _ _) (Nat.le_refl _) (by simp) ?_; (case hd => rfl); (case hg => rfl); (case hr => first | (go_simp; done) | (go_simp; rfl)); (case hp => exact (Reps.c2 (show Kd.M k39 _ _ _ (⟨a1_0, a1_1⟩ : S39) [.int .i64 a1_0, .int .i64 a1_1] from (k39_mkM _ _ _ (⟨a1_0, a1_1⟩ : S39) )) (Reps.none _ _)))
             intro v225 w21 ho22 hb hg_ hnew_
             clear hg_ hnew_
             (first | rw [← Ny224.out] at ho22 | (simp only [Int.reduceToNat] at ho22; rw [← Ny224.out] at ho22))
             have n0_ := Aside0.mk (Kd.R_elder' (rowx HO216.out) (Kd.R_base ho22) hb)
             have n1_ := Aside0.mk (Kd.R_lower (Kd.R_newB (Kd.R_new' ho22 (Kd.R_lt (rowx HO216.out))) (g := gb212) (o := .cells #[.int .i64 a1_0, .int .i64 a1_1] 39 (0, 0)) blkx) (below_size bel))
             have n2_ := Aside0.mk (blk_below (g := gb212) (o := .cells #[.int .i64 a1_0, .int .i64 a1_1] 39 (0, 0)) blkx hb)
             have n3_ := Aside0.mk (below_step bel hb)
             clear HO216
             clear BK212
             clear HB
             have HO216 := n0_
             have HO226 := n1_
             have BK212 := n2_
             have HB := n3_
             clear n0_ n1_ n2_ n3_
             clear hb ho22
             refine hK.out _ _ ⟨(blk_cell BK212.out 0).trans rfl, (blk_cell BK212.out 1).trans rfl⟩ (fun hHeld => ?_)
             clear hK K
             refine norm_ (a' := ?_) ?_ ?_
             rotate_left
             ·show Act.put _ (some 28) _ = _
              simp only [Act.put, List.setIfInBounds_toArray, List.set_cons_zero, List.set_cons_succ, i64_w, i32_w]
              rfl
             refine one_ (i := 4) (N := some 26) #[true, true, true, true, true, true, true, false, true, true, true, false, false] rfl rfl (one_of HT_.out (by kernel_rfl)) (by decide) (fun K hK => ?_)
             refine Kd.R_append_rows_step k39 (w0 := w) w.heap.size (by rfl) (.tmp 22) (.tmp 25) 23 39 (.agg #[(.int .i64 0), (.int .i64 0)]) 16 rfl Try.underlying23 info39 rfl (by decide) (by omega) v215 y214 y217 _ _ _ (fun k_ => some k_ ≠ (v225 : Value).ownBlock ∧ k_ ≠ gb212) (fun _ => False) rfl rfl ?aO ?aR (fun _ _ h => h) (fun _ h => h.elim) ?aF ?aB ?aS ?aL ?_
             (case aR => repeat (first | exact (Kd.C_below HR220.out HB.out) | (with_reducible refine Kd.C_alloc ?_ _) | (with_reducible refine Kd.C_drewN ?_ _) | (with_reducible refine Kd.C_drew ?_)))
             (case aB => exact bel)
             (case aF => exact (fun k_ hk => ⟨Kd.fresh' (Kd.R_lt (rowx HO226.out)) k_ hk, Kd.freshB (g := gb212) (o := .cells #[.int .i64 a1_0, .int .i64 a1_1] 39 (0, 0)) blkx k_ hk⟩))
             (case aO => exact (by (with_reducible repeat (first | apply Kd.R_alloc | apply Kd.R_drewN | apply Kd.R_drew)); exact Kd.R_mono HO216.out (fun _ hk => ⟨hk.2, hk.1.2⟩)))
             (case aS => exact (below_size bel))
             (case aL => have := LMc10.out; omega)
             intro v222 w23 ho hb hg hat
             rw [← Ny221.out] at ho
             have n0_ := Aside0.mk (blk_grown (g := gb212) (o := .cells #[.int .i64 a1_0, .int .i64 a1_1] 39 (0, 0)) blkx hg (Kd.R_away HO216.out (fun _ hk => hk.1.2)))
             have n1_ := Aside0.mk (Kd.R_after (ok := (fun k_ => k_ ≠ gb212)) (by (with_reducible repeat (first | apply Kd.R_alloc | apply Kd.R_drewN | apply Kd.R_drew)); exact Kd.R_mono HO226.out (fun _ hk => ⟨hk.2, hk.1.2⟩)) hg hat)
             have n2_ := Aside0.mk (hb)
             have n3_ := Aside0.mk (ho)
             clear BK212
             clear HO226
             clear HB
             clear HO216
             have BK212 := n0_
             have HO226 := n1_
             have HB := n2_
             have HO223 := n3_
             clear n0_ n1_ n2_ n3_
             clear ho hb hg hat
             refine hK.out _ _ ⟨(blk_cell BK212.out 0).trans rfl, (blk_cell BK212.out 1).trans rfl⟩ (fun hHeld => ?_)
             clear hK K
             refine norm_ (a' := ?_) ?_ ?_
             rotate_left
             ·show Act.put _ (some 26) _ = _
              simp only [Act.put, List.setIfInBounds_toArray, List.set_cons_zero, List.set_cons_succ, i64_w, i32_w]
              rfl
             exact norm_ (by simp only [putAll, Act.put, List.setIfInBounds_toArray, List.set_cons_zero, List.set_cons_succ]) (hCont (v215, v222, v225) _ ⟨hHeld, (rowx HO223.out), (by (with_reducible repeat (first | apply Kd.R_alloc | apply Kd.R_drewN | apply Kd.R_drew)); exact Kd.R_mono HO226.out (fun _ hk => ⟨hk.2, hk.1⟩)), blkx, bel⟩)
           ·skip
            refine Kd.R_lit_step k39 _ 39 ?hg (N := 28) ?hd (xs := ([(⟨a1_0, a1_1⟩ : S39)] : List (S39))) (inner := [.int .i64 a1_0, .int .i64 a1_1]) (ok := fun _ => True) (okp := fun _ => True) ?hr ?hp (fun _ hk => hk) trivial (Below.refl _ _) (Nat.le_refl _) (by simp) ?_; (case hd => rfl); (case hg => rfl); (case hr => first | (go_simp; done) | (go_simp; rfl)); (case hp => exact (Reps.c2 (show Kd.M k39 _ _ _ (⟨a1_0, a1_1⟩ : S39) [.int .i64 a1_0, .int .i64 a1_1] from (k39_mkM _ _ _ (⟨a1_0, a1_1⟩ : S39) )) (Reps.none _ _)))
            intro v225 w19 ho20 hb hg_ hnew_
            clear hg_ hnew_
            (first | rw [← Ny224.out] at ho20 | (simp only [Int.reduceToNat] at ho20; rw [← Ny224.out] at ho20))
            have n0_ := Aside0.mk (Kd.R_lower (Kd.R_newB ho20 (g := gb212) (o := .cells #[.int .i64 a1_0, .int .i64 a1_1] 39 (0, 0)) blkx) (below_size bel))
            have n1_ := Aside0.mk (blk_below (g := gb212) (o := .cells #[.int .i64 a1_0, .int .i64 a1_1] 39 (0, 0)) blkx hb)
            have n2_ := Aside0.mk (below_step bel hb)
            clear BK212
            clear HB
            have HO226 := n0_
            have BK212 := n1_
            have HB := n2_
            clear n0_ n1_ n2_
            clear hb ho20
            refine hK.out _ _ ⟨(blk_cell BK212.out 0).trans rfl, (blk_cell BK212.out 1).trans rfl⟩ (fun hHeld => ?_)
            clear hK K
            refine norm_ (a' := ?_) ?_ ?_
            rotate_left
            ·show Act.put _ (some 28) _ = _
             simp only [Act.put, List.setIfInBounds_toArray, List.set_cons_zero, List.set_cons_succ, i64_w, i32_w]
             rfl
            refine one_ (i := 0) (N := some 22) #[true, true, true, true, false, true, true, false, true, true, true, false, false] rfl rfl (one_of HT_.out (by kernel_rfl)) (by decide) (fun K hK => ?_)
            refine Kd.R_lit_step k39 _ 39 ?hg (N := 22) ?hd (xs := ([] : List (S39))) (inner := []) (ok := fun _ => True) (okp := fun _ => True) ?hr ?hp (fun _ hk => hk) trivial (Below.refl _ _) (Nat.le_refl _) (by simp) ?_; (case hd => rfl); (case hg => rfl); (case hr => first | (go_simp; done) | (go_simp; rfl)); (case hp => exact (Reps.none _ _))
            intro v215 w21 ho22 hb hg_ hnew_
            clear hg_ hnew_
            (first | rw [← Ny214.out] at ho22 | (simp only [Int.reduceToNat] at ho22; rw [← Ny214.out] at ho22))
            have n0_ := Aside0.mk (Kd.R_elder' (rowx HO226.out) (Kd.R_base ho22) hb)
            have n1_ := Aside0.mk (Kd.R_lower (Kd.R_newB (Kd.R_new' ho22 (Kd.R_lt (rowx HO226.out))) (g := gb212) (o := .cells #[.int .i64 a1_0, .int .i64 a1_1] 39 (0, 0)) blkx) (below_size bel))
            have n2_ := Aside0.mk (blk_below (g := gb212) (o := .cells #[.int .i64 a1_0, .int .i64 a1_1] 39 (0, 0)) blkx hb)
            have n3_ := Aside0.mk (below_step bel hb)
            clear HO226
            clear BK212
            clear HB
            have HO226 := n0_
            have HO216 := n1_
            have BK212 := n2_
            have HB := n3_
            clear n0_ n1_ n2_ n3_
            clear hb ho22
            refine hK.out _ _ ⟨(blk_cell BK212.out 0).trans rfl, (blk_cell BK212.out 1).trans rfl⟩ (fun hHeld => ?_)
            clear hK K
            refine norm_ (a' := ?_) ?_ ?_
            rotate_left
            ·show Act.put _ (some 22) _ = _
             simp only [Act.put, List.setIfInBounds_toArray, List.set_cons_zero, List.set_cons_succ, i64_w, i32_w]
             rfl
            refine one_ (i := 4) (N := some 26) #[true, true, true, true, true, true, true, false, true, true, true, false, false] rfl rfl (one_of HT_.out (by kernel_rfl)) (by decide) (fun K hK => ?_)
            refine Kd.R_append_rows_step k39 (w0 := w) w.heap.size (by rfl) (.tmp 22) (.tmp 25) 23 39 (.agg #[(.int .i64 0), (.int .i64 0)]) 16 rfl Try.underlying23 info39 rfl (by decide) (by omega) v215 y214 y217 _ _ _ (fun k_ => some k_ ≠ (v225 : Value).ownBlock ∧ k_ ≠ gb212) (fun _ => False) rfl rfl ?aO ?aR (fun _ _ h => h) (fun _ h => h.elim) ?aF ?aB ?aS ?aL ?_
            (case aR => repeat (first | exact (Kd.C_below HR220.out HB.out) | (with_reducible refine Kd.C_alloc ?_ _) | (with_reducible refine Kd.C_drewN ?_ _) | (with_reducible refine Kd.C_drew ?_)))
            (case aB => exact bel)
            (case aF => exact (fun k_ hk => ⟨Kd.fresh' (Kd.R_lt (rowx HO226.out)) k_ hk, Kd.freshB (g := gb212) (o := .cells #[.int .i64 a1_0, .int .i64 a1_1] 39 (0, 0)) blkx k_ hk⟩))
            (case aO => exact (by (with_reducible repeat (first | apply Kd.R_alloc | apply Kd.R_drewN | apply Kd.R_drew)); exact Kd.R_mono HO216.out (fun _ hk => ⟨hk.1.2, hk.2⟩)))
            (case aS => exact (below_size bel))
            (case aL => have := LMc10.out; omega)
            intro v222 w23 ho hb hg hat
            rw [← Ny221.out] at ho
            have n0_ := Aside0.mk (blk_grown (g := gb212) (o := .cells #[.int .i64 a1_0, .int .i64 a1_1] 39 (0, 0)) blkx hg (Kd.R_away HO216.out (fun _ hk => hk.2)))
            have n1_ := Aside0.mk (Kd.R_after (ok := (fun k_ => k_ ≠ gb212)) (by (with_reducible repeat (first | apply Kd.R_alloc | apply Kd.R_drewN | apply Kd.R_drew)); exact Kd.R_mono HO226.out (fun _ hk => ⟨hk.1.2, hk.2⟩)) hg hat)
            have n2_ := Aside0.mk (hb)
            have n3_ := Aside0.mk (ho)
            clear BK212
            clear HO226
            clear HB
            clear HO216
            have BK212 := n0_
            have HO226 := n1_
            have HB := n2_
            have HO223 := n3_
            clear n0_ n1_ n2_ n3_
            clear ho hb hg hat
            refine hK.out _ _ ⟨(blk_cell BK212.out 0).trans rfl, (blk_cell BK212.out 1).trans rfl⟩ (fun hHeld => ?_)
            clear hK K
            refine norm_ (a' := ?_) ?_ ?_
            rotate_left
            ·show Act.put _ (some 26) _ = _
             simp only [Act.put, List.setIfInBounds_toArray, List.set_cons_zero, List.set_cons_succ, i64_w, i32_w]
             rfl
            exact norm_ (by simp only [putAll, Act.put, List.setIfInBounds_toArray, List.set_cons_zero, List.set_cons_succ]) (hCont (v215, v222, v225) _ ⟨hHeld, (rowx HO223.out), (by (with_reducible repeat (first | apply Kd.R_alloc | apply Kd.R_drewN | apply Kd.R_drew)); exact Kd.R_mono HO226.out (fun _ hk => ⟨hk.2, hk.1⟩)), blkx, bel⟩)
          rintro ⟨v215, v222, v225⟩ w24 ⟨hS_, h0_, h1_, h2_, h3_⟩
          have n0_ : Aside0 (Kd.R k39 39 w24 w.heap.size (fun k_ => some k_ ≠ (v225 : Value).ownBlock ∧ k_ ≠ gb212) v222 y221) := ⟨h0_⟩
          have n1_ : Aside0 (Kd.R k39 39 w24 w.heap.size (fun k_ => some k_ ≠ (v222 : Value).ownBlock ∧ k_ ≠ gb212) v225 y224) := ⟨h1_⟩
          have n2_ : Aside0 (w24.heap[gb212]? = some (.cells #[.int .i64 a1_0, .int .i64 a1_1] 39 (0, 0))) := ⟨h2_⟩
          have n3_ : Aside0 (Below w.heap.size w w24) := ⟨h3_⟩
          clear BK212
          clear HB
          clear h0_ h1_ h2_ h3_
          have HO223 := n0_
          have HO226 := n1_
          have BK212 := n2_
          have HB := n3_
          clear n0_ n1_ n2_ n3_
          have hHeld : w24.cell? ⟨gb212, 0, none⟩ = some (.int .i64 a1_0) ∧ w24.cell? ⟨gb212, 1, none⟩ = some (.int .i64 a1_1) := hS_
          obtain ⟨Ao26, co26, eo26⟩ := Kd.R_slice HO226.out
          (first | subst eo26 | (injection eo26 with f1_ f2_ f3_; have f4_ := f1_.symm; have f5_ := f3_.symm; clear f1_ f2_ f3_; subst f4_; subst f5_))
          refine norm_ (a' := ?_) ?_ ?_
          rotate_left
          ·simp only [putAll, Act.put, List.setIfInBounds_toArray, List.set_cons_zero, List.set_cons_succ]
           rfl
          refine one_ (i := 7) (N := some 29) #[true, true, true, true, true, true, true, true, true, true, true, false, false] rfl rfl (one_of HT_.out (by kernel_rfl)) (by decide) (fun K hK => ?_)
          refine Kd.R_append_rows_step k39 (w0 := w) w.heap.size (by rfl) (.tmp 26) (.tmp 28) 23 39 (.agg #[(.int .i64 0), (.int .i64 0)]) 16 rfl Try.underlying23 info39 rfl (by decide) (by omega) v222 y221 y224 _ _ _ (fun k_ => some k_ ≠ (.slice Ao26 y224.length co26 : Value).ownBlock ∧ k_ ≠ gb212) (fun _ => False) rfl rfl ?aO ?aR (fun _ _ h => h) (fun _ h => h.elim) ?aF ?aB ?aS ?aL ?_
          (case aR => repeat (first | exact (Kd.R_reads' HO226.out).2.2 | (with_reducible refine Kd.C_alloc ?_ _) | (with_reducible refine Kd.C_drewN ?_ _) | (with_reducible refine Kd.C_drew ?_)))
          (case aB => exact bel)
          (case aF => exact (fun k_ hk => ⟨Kd.fresh' (Kd.R_lt (rowx HO226.out)) k_ hk, Kd.freshB (g := gb212) (o := .cells #[.int .i64 a1_0, .int .i64 a1_1] 39 (0, 0)) blkx k_ hk⟩))
          (case aO => exact (rowx HO223.out))
          (case aS => exact (below_size bel))
          (case aL => have := LMc11.out; omega)
          intro v228 w25 ho hb hg hat
          rw [← Ny227.out] at ho
          have n0_ := Aside0.mk (blk_grown (g := gb212) (o := .cells #[.int .i64 a1_0, .int .i64 a1_1] 39 (0, 0)) blkx hg (Kd.R_away HO223.out (fun _ hk => hk.2)))
          have n1_ := Aside0.mk (Kd.R_after (ok := (fun k_ => k_ ≠ gb212)) (by (with_reducible repeat (first | apply Kd.R_alloc | apply Kd.R_drewN | apply Kd.R_drew)); exact Kd.R_mono HO226.out (fun _ hk => ⟨hk.2, hk.1⟩)) hg hat)
          have n2_ := Aside0.mk (hb)
          have n3_ := Aside0.mk (ho)
          clear BK212
          clear HO226
          clear HB
          clear HO223
          have BK212 := n0_
          have HO226 := n1_
          have HB := n2_
          have HO229 := n3_
          clear n0_ n1_ n2_ n3_
          clear ho hb hg hat
          refine hK.out _ _ ⟨(blk_cell BK212.out 0).trans rfl, (blk_cell BK212.out 1).trans rfl⟩ (fun hHeld => ?_)
          clear hK K
          refine norm_ (a' := ?_) ?_ ?_
          rotate_left
          ·show Act.put _ (some 29) _ = _
           simp only [Act.put, List.setIfInBounds_toArray, List.set_cons_zero, List.set_cons_succ, i64_w, i32_w]
           rfl
          refine one_ (i := 11) (N := some 33) #[true, true, true, true, true, true, true, true, true, true, true, true, false] rfl rfl (one_of HT_.out (by kernel_rfl)) (by decide) (fun K hK => ?_)
          refine Kd.R_append_rows_step k39 (w0 := w) w.heap.size (by rfl) (.tmp 29) (.tmp 32) 23 39 (.agg #[(.int .i64 0), (.int .i64 0)]) 16 rfl Try.underlying23 info39 rfl (by decide) (by omega) v228 y227 y230 _ _ _ (fun k_ => some k_ ≠ (.slice Ao26 y224.length co26 : Value).ownBlock ∧ k_ ≠ gb212) (fun _ => False) rfl rfl ?aO ?aR (fun _ _ h => h) (fun _ h => h.elim) ?aF ?aB ?aS ?aL ?_
          (case aR => repeat (first | exact (Kd.C_below HR233.out HB.out) | (with_reducible refine Kd.C_alloc ?_ _) | (with_reducible refine Kd.C_drewN ?_ _) | (with_reducible refine Kd.C_drew ?_)))
          (case aB => exact bel)
          (case aF => exact (fun k_ hk => ⟨Kd.fresh' (Kd.R_lt (rowx HO226.out)) k_ hk, Kd.freshB (g := gb212) (o := .cells #[.int .i64 a1_0, .int .i64 a1_1] 39 (0, 0)) blkx k_ hk⟩))
          (case aO => exact (rowx HO229.out))
          (case aS => exact (below_size bel))
          (case aL => have := LMc14.out; omega)
          intro v235 w27 ho hb hg hat
          rw [← Ny234.out] at ho
          have n0_ := Aside0.mk (blk_grown (g := gb212) (o := .cells #[.int .i64 a1_0, .int .i64 a1_1] 39 (0, 0)) blkx hg (Kd.R_away HO229.out (fun _ hk => hk.2)))
          have n1_ := Aside0.mk (Kd.R_after (ok := (fun k_ => k_ ≠ gb212)) (rowx HO226.out) hg hat)
          have n2_ := Aside0.mk (hb)
          have n3_ := Aside0.mk (ho)
          clear BK212
          clear HO226
          clear HB
          clear HO229
          have BK212 := n0_
          have HO226 := n1_
          have HB := n2_
          have HO236 := n3_
          clear n0_ n1_ n2_ n3_
          clear ho hb hg hat
          refine hK.out _ _ ⟨(blk_cell BK212.out 0).trans rfl, (blk_cell BK212.out 1).trans rfl⟩ (fun hHeld => ?_)
          clear hK K
          refine norm_ (a' := ?_) ?_ ?_
          rotate_left
          ·show Act.put _ (some 33) _ = _
           simp only [Act.put, List.setIfInBounds_toArray, List.set_cons_zero, List.set_cons_succ, i64_w, i32_w]
           rfl
          refine pure_ (i := 12) (N := some 4) (v := ?_) (a' := ?_) #[true, true, true, true, true, true, true, true, true, true, true, true, true] rfl rfl (any_of HT_.out (by kernel_rfl)) (fun _ _ _ h => h) (Or.inl ⟨by rfl, ?_⟩) ?_ ?_
          rotate_left
          ·intro w'
           go_simp
           with_reducible rfl
          rotate_left
          ·simp only [Act.put, List.setIfInBounds_toArray, List.set_cons_zero, List.set_cons_succ, i64_w, i32_w]
           rfl
          refine done_ (done_of HT_.out (by kernel_rfl)) ?_
          try go_wp2
          go_ret
          exact ⟨_, by first | rfl | (simp [errW_none, errW_some] <;> rfl) | (simp [*, errW_none, errW_some] <;> rfl), by (with_reducible repeat (first | apply Kd.R_alloc | apply Kd.R_drewN | apply Kd.R_drew)); exact Kd.R_mono HO236.out (fun _ hk => trivial), bel⟩
         ·rw [if_neg c14] at H
          exact absurd H (by simp)
        ·rw [if_neg c11] at H
         exact absurd H (by simp)
       ·rw [if_neg c10] at H
        exact absurd H (by simp)
      ·rw [if_neg c9] at H
       exact absurd H (by simp)
    ·rw [if_neg c5] at H
     exact absurd H (by simp)
   ·rw [if_neg c4] at H
    have c4b0 : decide (x5_1 < (l0.length : Int)) = false := decide_eq_false c4
    clear c4
    obtain ⟨y237, hy237⟩ : ∃ y_ : List (S39), y_ = (([] : List (S39))) := ⟨_, rfl⟩
    replace H : (if 0 ≤ x5_1 then (if x5_1 ≤ (l0.length : Int) then ((some (l0.take (x5_1 : Int).toNat : List (S39))).bind fun y240 => (if y237.length + y240.length < 8796093022208 then ((some (y237 ++ y240 : List (S39))).bind fun y244 => ((some (([(⟨a1_0, a1_1⟩ : S39)] : List (S39)) : List (S39))).bind fun y247 => (if y244.length + y247.length < 8796093022208 then ((some (y244 ++ y247 : List (S39))).bind fun y250 => ((some (l0.drop (x5_1 : Int).toNat : List (S39))).bind fun y253 => (if y250.length + y253.length < 8796093022208 then (some (y250 ++ y253)) else (none)))) else (none)))) else (none))) else (none)) else (none)) = some r := by first | (rw [hy237]; with_reducible exact H) | (have H2_ := (Option.bind_some _ _).symm.trans H; rw [hy237]; with_reducible exact H2_) | (have H2_ := (Option.bind_some _ _).symm.trans H; with_reducible exact H2_) | with_reducible exact H | (rw [hy237]; exact H) | exact H
    have Ny237 := Aside0.mk hy237
    clear hy237
    by_cases c28 : 0 ≤ x5_1
    ·rw [if_pos c28] at H
     have c28b0 := eq_true c28
     have c28b1 : decide (0 ≤ x5_1) = true := decide_eq_true c28
     clear c28
     by_cases c29 : x5_1 ≤ (l0.length : Int)
     ·rw [if_pos c29] at H
      have c29b0 := eq_true c29
      have c29b1 : decide (x5_1 ≤ (l0.length : Int)) = true := decide_eq_true c29
      clear c29
      obtain ⟨y240, hy240⟩ : ∃ y_ : List (S39), y_ = (l0.take (x5_1 : Int).toNat) := ⟨_, rfl⟩
      replace H : (if y237.length + y240.length < 8796093022208 then ((some (y237 ++ y240 : List (S39))).bind fun y244 => ((some (([(⟨a1_0, a1_1⟩ : S39)] : List (S39)) : List (S39))).bind fun y247 => (if y244.length + y247.length < 8796093022208 then ((some (y244 ++ y247 : List (S39))).bind fun y250 => ((some (l0.drop (x5_1 : Int).toNat : List (S39))).bind fun y253 => (if y250.length + y253.length < 8796093022208 then (some (y250 ++ y253)) else (none)))) else (none)))) else (none)) = some r := by first | (rw [hy240]; with_reducible exact H) | (have H2_ := (Option.bind_some _ _).symm.trans H; rw [hy240]; with_reducible exact H2_) | (have H2_ := (Option.bind_some _ _).symm.trans H; with_reducible exact H2_) | with_reducible exact H | (rw [hy240]; exact H) | exact H
      have Ny240 := Aside0.mk hy240
      clear hy240
      by_cases c30 : y237.length + y240.length < 8796093022208
      ·rw [if_pos c30] at H
       have LMc30 := Aside0.mk c30
       clear c30
       obtain ⟨y244, hy244⟩ : ∃ y_ : List (S39), y_ = (y237 ++ y240) := ⟨_, rfl⟩
       replace H : ((some (([(⟨a1_0, a1_1⟩ : S39)] : List (S39)) : List (S39))).bind fun y247 => (if y244.length + y247.length < 8796093022208 then ((some (y244 ++ y247 : List (S39))).bind fun y250 => ((some (l0.drop (x5_1 : Int).toNat : List (S39))).bind fun y253 => (if y250.length + y253.length < 8796093022208 then (some (y250 ++ y253)) else (none)))) else (none))) = some r := by first | (rw [hy244]; with_reducible exact H) | (have H2_ := (Option.bind_some _ _).symm.trans H; rw [hy244]; with_reducible exact H2_) | (have H2_ := (Option.bind_some _ _).symm.trans H; with_reducible exact H2_) | with_reducible exact H | (rw [hy244]; exact H) | exact H
       have Ny244 := Aside0.mk hy244
       clear hy244
       obtain ⟨y247, hy247⟩ : ∃ y_ : List (S39), y_ = (([(⟨a1_0, a1_1⟩ : S39)] : List (S39))) := ⟨_, rfl⟩
       replace H : (if y244.length + y247.length < 8796093022208 then ((some (y244 ++ y247 : List (S39))).bind fun y250 => ((some (l0.drop (x5_1 : Int).toNat : List (S39))).bind fun y253 => (if y250.length + y253.length < 8796093022208 then (some (y250 ++ y253)) else (none)))) else (none)) = some r := by first | (rw [hy247]; with_reducible exact H) | (have H2_ := (Option.bind_some _ _).symm.trans H; rw [hy247]; with_reducible exact H2_) | (have H2_ := (Option.bind_some _ _).symm.trans H; with_reducible exact H2_) | with_reducible exact H | (rw [hy247]; exact H) | exact H
       have Ny247 := Aside0.mk hy247
       clear hy247
       by_cases c31 : y244.length + y247.length < 8796093022208
       ·rw [if_pos c31] at H
        have LMc31 := Aside0.mk c31
        clear c31
        obtain ⟨y250, hy250⟩ : ∃ y_ : List (S39), y_ = (y244 ++ y247) := ⟨_, rfl⟩
        replace H : ((some (l0.drop (x5_1 : Int).toNat : List (S39))).bind fun y253 => (if y250.length + y253.length < 8796093022208 then (some (y250 ++ y253)) else (none))) = some r := by first | (rw [hy250]; with_reducible exact H) | (have H2_ := (Option.bind_some _ _).symm.trans H; rw [hy250]; with_reducible exact H2_) | (have H2_ := (Option.bind_some _ _).symm.trans H; with_reducible exact H2_) | with_reducible exact H | (rw [hy250]; exact H) | exact H
        have Ny250 := Aside0.mk hy250
        clear hy250
        have c32b0 := eq_true (of_decide_eq_true (by first | (with_reducible assumption) | assumption) : 0 ≤ x5_1)
        have c33b0 := eq_true (of_decide_eq_true (by first | (with_reducible assumption) | assumption) : x5_1 ≤ (l0.length : Int))
        obtain ⟨y253, hy253⟩ : ∃ y_ : List (S39), y_ = (l0.drop (x5_1 : Int).toNat) := ⟨_, rfl⟩
        replace H : (if y250.length + y253.length < 8796093022208 then (some (y250 ++ y253)) else (none)) = some r := by first | (rw [hy253]; with_reducible exact H) | (have H2_ := (Option.bind_some _ _).symm.trans H; rw [hy253]; with_reducible exact H2_) | (have H2_ := (Option.bind_some _ _).symm.trans H; with_reducible exact H2_) | with_reducible exact H | (rw [hy253]; exact H) | exact H
        have Ny253 := Aside0.mk hy253
        clear hy253
        by_cases c34 : y250.length + y253.length < 8796093022208
        ·rw [if_pos c34] at H
         have LMc34 := Aside0.mk c34
         clear c34
         obtain ⟨y257, hy257⟩ : ∃ y_ : List (S39), y_ = (y250 ++ y253) := ⟨_, rfl⟩
         replace H : (some y257) = some r := by first | (rw [hy257]; with_reducible exact H) | (have H2_ := (Option.bind_some _ _).symm.trans H; rw [hy257]; with_reducible exact H2_) | (have H2_ := (Option.bind_some _ _).symm.trans H; with_reducible exact H2_) | with_reducible exact H | (rw [hy257]; exact H) | exact H
         have Ny257 := Aside0.mk hy257
         clear hy257
         obtain rfl := Option.some.inj H
         try go_wp2
         have n0_ := Aside0.mk (blk_drew BK212.out)
         have n1_ := Aside0.mk (below_drew1 HB.out)
         clear BK212
         clear HB
         have BK212 := n0_
         have HB := n1_
         clear n0_ n1_
         refine start_ (n := 14) (S := fun w' => True) (ds := []) #[false, false, false, false, false, false, false, false, false, false, false, false, false, false] (by kernel_rfl) rfl rfl trivial (fun hHeld => ?_); refine with_tabW customsref21_Insert.tab2 customsref21_Insert.bits2 (fun HT_ HW_ => ?_)
         generalize wr.drew = w35 at BK212 HB hHeld ⊢
         refine pure_ (i := 0) (N := some 6) (v := ?_) (a' := ?_) #[true, false, false, false, false, false, false, false, false, false, false, false, false, false] rfl rfl (any_of HT_.out (by kernel_rfl)) (fun _ _ _ h => h) (Or.inl ⟨by rfl, ?_⟩) ?_ ?_
         rotate_left
         ·intro w'
          go_simp
          with_reducible rfl
         rotate_left
         ·simp only [Act.put, List.setIfInBounds_toArray, List.set_cons_zero, List.set_cons_succ, i64_w, i32_w]
          rfl
         refine pure_ (i := 1) (N := some 7) (v := ?_) (a' := ?_) #[true, true, false, false, false, false, false, false, false, false, false, false, false, false] rfl rfl (any_of HT_.out (by kernel_rfl)) (fun _ _ _ h => h) (Or.inl ⟨by rfl, ?_⟩) ?_ ?_
         rotate_left
         ·intro w'
          go_simp
          with_reducible rfl
         rotate_left
         ·simp only [Act.put, List.setIfInBounds_toArray, List.set_cons_zero, List.set_cons_succ, i64_w, i32_w]
          rfl
         refine pure_ (i := 2) (N := some 8) (v := ?_) (a' := ?_) #[true, true, true, false, false, false, false, false, false, false, false, false, false, false] rfl rfl (any_of HT_.out (by kernel_rfl)) (fun _ _ _ h => h) (Or.inl ⟨by rfl, ?_⟩) ?_ ?_
         rotate_left
         ·intro w'
          go_simp
          with_reducible rfl
         rotate_left
         ·simp only [Act.put, List.setIfInBounds_toArray, List.set_cons_zero, List.set_cons_succ, i64_w, i32_w]
          rfl
         refine pure_ (i := 3) (N := some 9) (v := ?_) (a' := ?_) #[true, true, true, true, false, false, false, false, false, false, false, false, false, false] rfl rfl (any_of HT_.out (by kernel_rfl)) (fun _ _ _ h => h) (Or.inl ⟨by rfl, ?_⟩) ?_ ?_
         rotate_left
         ·intro w'
          go_simp
          with_reducible rfl
         rotate_left
         ·simp only [Act.put, List.setIfInBounds_toArray, List.set_cons_zero, List.set_cons_succ, i64_w, i32_w]
          rfl
         refine pure_ (i := 4) (N := some 10) (v := ?_) (a' := ?_) #[true, true, true, true, true, false, false, false, false, false, false, false, false, false] rfl rfl (any_of HT_.out (by kernel_rfl)) (fun _ _ _ h => h) (Or.inl ⟨by rfl, ?_⟩) ?_ ?_
         rotate_left
         ·intro w'
          go_simp
          with_reducible rfl
         rotate_left
         ·simp only [Act.put, List.setIfInBounds_toArray, List.set_cons_zero, List.set_cons_succ, i64_w, i32_w]
          rfl
         refine pure_ (i := 5) (N := some 11) (v := undef) (a' := ?_) #[true, true, true, true, true, true, false, false, false, false, false, false, false, false] rfl rfl (any_of HT_.out (by kernel_rfl)) (fun _ _ _ h => h) (Or.inr ⟨by rfl, rfl⟩) ?_ ?_
         rotate_left
         ·simp only [Act.put, List.setIfInBounds_toArray, List.set_cons_zero, List.set_cons_succ, i64_w, i32_w]
          rfl
         refine pure_ (i := 6) (N := some 12) (v := undef) (a' := ?_) #[true, true, true, true, true, true, true, false, false, false, false, false, false, false] rfl rfl (any_of HT_.out (by kernel_rfl)) (fun _ _ _ h => h) (Or.inr ⟨by rfl, rfl⟩) ?_ ?_
         rotate_left
         ·simp only [Act.put, List.setIfInBounds_toArray, List.set_cons_zero, List.set_cons_succ, i64_w, i32_w]
          rfl
         refine pure_ (i := 7) (N := some 13) (v := undef) (a' := ?_) #[true, true, true, true, true, true, true, true, false, false, false, false, false, false] rfl rfl (any_of HT_.out (by kernel_rfl)) (fun _ _ _ h => h) (Or.inr ⟨by rfl, rfl⟩) ?_ ?_
         rotate_left
         ·simp only [Act.put, List.setIfInBounds_toArray, List.set_cons_zero, List.set_cons_succ, i64_w, i32_w]
          rfl
         refine pure_ (i := 8) (N := some 14) (v := undef) (a' := ?_) #[true, true, true, true, true, true, true, true, true, false, false, false, false, false] rfl rfl (any_of HT_.out (by kernel_rfl)) (fun _ _ _ h => h) (Or.inr ⟨by rfl, rfl⟩) ?_ ?_
         rotate_left
         ·simp only [Act.put, List.setIfInBounds_toArray, List.set_cons_zero, List.set_cons_succ, i64_w, i32_w]
          rfl
         refine pure_ (i := 9) (N := some 15) (v := undef) (a' := ?_) #[true, true, true, true, true, true, true, true, true, true, false, false, false, false] rfl rfl (any_of HT_.out (by kernel_rfl)) (fun _ _ _ h => h) (Or.inr ⟨by rfl, rfl⟩) ?_ ?_
         rotate_left
         ·simp only [Act.put, List.setIfInBounds_toArray, List.set_cons_zero, List.set_cons_succ, i64_w, i32_w]
          rfl
         refine pure_ (i := 10) (N := some 16) (v := undef) (a' := ?_) #[true, true, true, true, true, true, true, true, true, true, true, false, false, false] rfl rfl (any_of HT_.out (by kernel_rfl)) (fun _ _ _ h => h) (Or.inr ⟨by rfl, rfl⟩) ?_ ?_
         rotate_left
         ·simp only [Act.put, List.setIfInBounds_toArray, List.set_cons_zero, List.set_cons_succ, i64_w, i32_w]
          rfl
         refine pure_ (i := 11) (N := some 17) (v := undef) (a' := ?_) #[true, true, true, true, true, true, true, true, true, true, true, true, false, false] rfl rfl (any_of HT_.out (by kernel_rfl)) (fun _ _ _ h => h) (Or.inr ⟨by rfl, rfl⟩) ?_ ?_
         rotate_left
         ·simp only [Act.put, List.setIfInBounds_toArray, List.set_cons_zero, List.set_cons_succ, i64_w, i32_w]
          rfl
         refine pure_ (i := 12) (N := some 18) (v := undef) (a' := ?_) #[true, true, true, true, true, true, true, true, true, true, true, true, true, false] rfl rfl (any_of HT_.out (by kernel_rfl)) (fun _ _ _ h => h) (Or.inr ⟨by rfl, rfl⟩) ?_ ?_
         rotate_left
         ·simp only [Act.put, List.setIfInBounds_toArray, List.set_cons_zero, List.set_cons_succ, i64_w, i32_w]
          rfl
         refine pure_ (i := 13) (N := some 19) (v := ?_) (a' := ?_) #[true, true, true, true, true, true, true, true, true, true, true, true, true, true] rfl rfl (any_of HT_.out (by kernel_rfl)) (fun _ _ _ h => h) (Or.inl ⟨by rfl, ?_⟩) ?_ ?_
         rotate_left
         ·intro w'
          go_simp
          with_reducible rfl
         rotate_left
         ·simp only [Act.put, List.setIfInBounds_toArray, List.set_cons_zero, List.set_cons_succ, i64_w, i32_w]
          rfl
         refine done_ (done_of HT_.out (by kernel_rfl)) ?_
         try go_wp2
         have n0_ := Aside0.mk (blk_drew BK212.out)
         have n1_ := Aside0.mk (below_drew1 HB.out)
         clear BK212
         clear HB
         have BK212 := n0_
         have HB := n1_
         clear n0_ n1_
         have q37 : (x5_1 : Int) ≤ ((l0.length : Int) : Int) := of_decide_eq_true (by first | (with_reducible assumption) | assumption)
         obtain ⟨i037, hi037, _, hsz37, _⟩ := info_parts info39
         have hroom37 : l0.length ≤ c0 := HC0.out
         have hC37 : Kd.C k39 _ A0 l0.length l0 := HR0.out
         have hcut37 := cut_to (P := Try.prog) 23 39 .i64 Try.underlying23 hi037 A0 l0.length c0 x5_1 (of_decide_eq_true (by first | (with_reducible assumption) | assumption)) q37 hroom37
         have hr37 := Kd.C_take (m := (x5_1 : Int).toNat) hC37 (by omega)
         have hy37 : y240.length = (x5_1 : Int).toNat := (by rw [Ny240.out, List.length_take]; omega)
         rw [← Ny240.out] at hr37
         rw [← hy37] at hcut37
         have HR243 := Aside0.mk hr37
         have HC243 := Aside0.mk (show y240.length ≤ c0 from by omega)
         clear hr37 hC37 hroom37 hi037 hsz37
         have KY37 := Aside0.mk hy37
         clear hy37
         replace q37 := eq_true q37
         have q38 : (x5_1 : Int) ≤ ((l0.length : Int) : Int) := of_decide_eq_true (by first | (with_reducible assumption) | assumption)
         obtain ⟨i038, hi038, _, hsz38, _⟩ := info_parts info39
         have hroom38 : l0.length ≤ c0 := HC0.out
         have hC38 : Kd.C k39 _ A0 l0.length l0 := HR0.out
         have q038 : (0 : Int) ≤ (x5_1 : Int) := of_decide_eq_true (by first | (with_reducible assumption) | assumption)
         have hcut38 := cut_from (P := Try.prog) 23 39 .i64 Try.underlying23 hi038 2 hsz38 A0 l0.length c0 x5_1 q038 q38
         have hr38 := Kd.C_drop (m := (x5_1 : Int).toNat) (c := c0) hC38 (by omega) hroom38
         obtain ⟨A38, hA38⟩ : ∃ A1, A1 = (if c0 = (x5_1 : Int).toNat then A0 else (A0 : Option Addr).map (·.add ((x5_1 : Int).toNat * 2))) := ⟨_, rfl⟩
         obtain ⟨c38, hc38⟩ : ∃ c1, c1 = c0 - (x5_1 : Int).toNat := ⟨_, rfl⟩
         have hy38 : y253.length = l0.length - (x5_1 : Int).toNat := (by rw [Ny253.out, List.length_drop] <;> omega)
         rw [show (l0).drop (x5_1 : Int).toNat = y253 from Ny253.out.symm] at hr38
         replace hr38 : Kd.C k39 _ A38 y253.length y253 := (by rw [hA38]; exact hr38)
         rw [← hy38, ← hA38, ← hc38] at hcut38
         have HR256 := Aside0.mk hr38
         have HC256 := Aside0.mk (show y253.length ≤ c38 from by rw [hy38, hc38]; exact Nat.sub_le_sub_right hroom38 _)
         clear hr38 hC38 hroom38 hi038 hsz38 hc38
         have KY38 := Aside0.mk hy38
         have KA38 := Aside0.mk hA38
         clear hy38 hA38
         replace q38 := eq_true q38
         refine start_ (n := 13) (S := fun w' => w'.cell? ⟨gb212, 0, none⟩ = some (.int .i64 a1_0) ∧ w'.cell? ⟨gb212, 1, none⟩ = some (.int .i64 a1_1)) (ds := []) #[false, false, false, false, false, false, false, false, false, false, false, false, false] (by kernel_rfl) rfl rfl ⟨(blk_cell BK212.out 0).trans rfl, (blk_cell BK212.out 1).trans rfl⟩ (fun hHeld => ?_); refine with_tabW customsref21_Insert.tab4 customsref21_Insert.bits4 (fun HT_ HW_ => ?_)
         generalize w35.drew = w36 at BK212 HB HR243 HR256 hHeld ⊢
         refine pure_ (i := 1) (N := some 23) (v := ?_) (a' := ?_) #[false, true, false, false, false, false, false, false, false, false, false, false, false] rfl rfl (any_of HT_.out (by kernel_rfl)) (fun _ _ _ h => h) (Or.inl ⟨by rfl, ?_⟩) ?_ ?_
         rotate_left
         ·intro w'
          go_simp
          with_reducible rfl
         rotate_left
         ·simp only [Act.put, List.setIfInBounds_toArray, List.set_cons_zero, List.set_cons_succ, i64_w, i32_w]
          rfl
         refine pure_ (i := 2) (N := some 24) (v := ?_) (a' := ?_) #[false, true, true, false, false, false, false, false, false, false, false, false, false] rfl rfl (any_of HT_.out (by kernel_rfl)) (fun _ _ _ h => h) (Or.inl ⟨by rfl, ?_⟩) ?_ ?_
         rotate_left
         ·intro w'
          go_simp
          with_reducible rfl
         rotate_left
         ·simp only [Act.put, List.setIfInBounds_toArray, List.set_cons_zero, List.set_cons_succ, i64_w, i32_w]
          rfl
         refine pure_ (i := 3) (N := some 25) (v := ?_) (a' := ?_) #[false, true, true, true, false, false, false, false, false, false, false, false, false] rfl rfl (any_of HT_.out (by kernel_rfl)) (fun _ _ _ h => h) (Or.inl ⟨by rfl, ?_⟩) ?_ ?_
         rotate_left
         ·intro w'
          go_simp
          with_reducible rfl
         rotate_left
         ·simp only [Act.put, List.setIfInBounds_toArray, List.set_cons_zero, List.set_cons_succ, i64_w, i32_w]
          rfl
         refine pure_ (i := 8) (N := some 30) (v := ?_) (a' := ?_) #[false, true, true, true, false, false, false, false, true, false, false, false, false] rfl rfl (any_of HT_.out (by kernel_rfl)) (fun _ _ _ h => h) (Or.inl ⟨by rfl, ?_⟩) ?_ ?_
         rotate_left
         ·intro w'
          go_simp
          with_reducible rfl
         rotate_left
         ·simp only [Act.put, List.setIfInBounds_toArray, List.set_cons_zero, List.set_cons_succ, i64_w, i32_w]
          rfl
         refine pure_ (i := 9) (N := some 31) (v := ?_) (a' := ?_) #[false, true, true, true, false, false, false, false, true, true, false, false, false] rfl rfl (any_of HT_.out (by kernel_rfl)) (fun _ _ _ h => h) (Or.inl ⟨by rfl, ?_⟩) ?_ ?_
         rotate_left
         ·intro w'
          go_simp
          with_reducible rfl
         rotate_left
         ·simp only [Act.put, List.setIfInBounds_toArray, List.set_cons_zero, List.set_cons_succ, i64_w, i32_w]
          rfl
         refine pure_ (i := 10) (N := some 32) (v := ?_) (a' := ?_) #[false, true, true, true, false, false, false, false, true, true, true, false, false] rfl rfl (any_of HT_.out (by kernel_rfl)) (fun _ _ _ h => h) (Or.inl ⟨by rfl, ?_⟩) ?_ ?_
         rotate_left
         ·intro w'
          go_simp
          with_reducible rfl
         rotate_left
         ·simp only [Act.put, List.setIfInBounds_toArray, List.set_cons_zero, List.set_cons_succ, i64_w, i32_w]
          rfl
         refine take_ (i := 5) (N := some 27) (v := ?_) (a' := ?_) #[false, true, true, true, false, true, false, false, true, true, true, false, false] rfl rfl (take_ofW HT_.out HW_.out (by kernel_rfl)) (fun _ _ _ h => h) (Or.inl ⟨by rfl, ?_⟩) hHeld ?_ ?_
         rotate_left
         ·rintro w' ⟨s0, s1⟩
          go_simp
          with_reducible rfl
         rotate_left
         ·simp only [Act.put, List.setIfInBounds_toArray, List.set_cons_zero, List.set_cons_succ, i64_w, i32_w]
          rfl
         refine join_ (σ := Value × Value × Value) 3 #[true, true, true, true, true, true, true, false, true, true, true, false, false] (fun s_ => [(22, s_.1), (26, s_.2.1), (28, s_.2.2)]) (fun s_ w' => (w'.cell? ⟨gb212, 0, none⟩ = some (.int .i64 a1_0) ∧ w'.cell? ⟨gb212, 1, none⟩ = some (.int .i64 a1_1)) ∧ (Kd.R k39 39 w' w.heap.size (fun k_ => some k_ ≠ (s_.2.2 : Value).ownBlock ∧ k_ ≠ gb212) s_.2.1 y244) ∧ (Kd.R k39 39 w' w.heap.size (fun k_ => some k_ ≠ (s_.2.1 : Value).ownBlock ∧ k_ ≠ gb212) s_.2.2 y247) ∧ (w'.heap[gb212]? = some (.cells #[.int .i64 a1_0, .int .i64 a1_1] 39 (0, 0))) ∧ (Below w.heap.size w w')) ?_ ?_
         rotate_left
         ·intro hCont
          refine two_ (i := 0) (j := 6) (Ni := some 22) (Nj := some 28) #[true, true, true, true, false, true, false, false, true, true, true, false, false] #[false, true, true, true, false, true, true, false, true, true, true, false, false] rfl rfl rfl rfl (two_of HT_.out (by kernel_rfl)) (by decide) (by decide) (fun K hK => ?_) (fun K hK => ?_)
          ·skip
           refine Kd.R_lit_step k39 _ 39 ?hg (N := 22) ?hd (xs := ([] : List (S39))) (inner := []) (ok := fun _ => True) (okp := fun _ => True) ?hr ?hp (fun _ hk => hk) trivial (Below.refl _ _) (Nat.le_refl _) (by simp) ?_; (case hd => rfl); (case hg => rfl); (case hr => first | (go_simp; done) | (go_simp; rfl)); (case hp => exact (Reps.none _ _))
           intro v238 w39 ho40 hb hg_ hnew_
           clear hg_ hnew_
           (first | rw [← Ny237.out] at ho40 | (simp only [Int.reduceToNat] at ho40; rw [← Ny237.out] at ho40))
           have n0_ := Aside0.mk (Kd.R_lower (Kd.R_newB ho40 (g := gb212) (o := .cells #[.int .i64 a1_0, .int .i64 a1_1] 39 (0, 0)) blkx) (below_size bel))
           have n1_ := Aside0.mk (blk_below (g := gb212) (o := .cells #[.int .i64 a1_0, .int .i64 a1_1] 39 (0, 0)) blkx hb)
           have n2_ := Aside0.mk (below_step bel hb)
           clear BK212
           clear HB
           have HO239 := n0_
           have BK212 := n1_
           have HB := n2_
           clear n0_ n1_ n2_
           clear hb ho40
           refine hK.out _ _ ⟨(blk_cell BK212.out 0).trans rfl, (blk_cell BK212.out 1).trans rfl⟩ (fun hHeld => ?_)
           clear hK K
           refine norm_ (a' := ?_) ?_ ?_
           rotate_left
           ·show Act.put _ (some 22) _ = _
            simp only [Act.put, List.setIfInBounds_toArray, List.set_cons_zero, List.set_cons_succ, i64_w, i32_w]
            rfl
           refine two_ (i := 4) (j := 6) (Ni := some 26) (Nj := some 28) #[true, true, true, true, true, true, false, false, true, true, true, false, false] #[true, true, true, true, false, true, true, false, true, true, true, false, false] rfl rfl rfl rfl (two_of HT_.out (by kernel_rfl)) (by decide) (by decide) (fun K hK => ?_) (fun K hK => ?_)
           ·skip
            refine Kd.R_append_rows_step k39 (w0 := w) w.heap.size (by rfl) (.tmp 22) (.tmp 25) 23 39 (.agg #[(.int .i64 0), (.int .i64 0)]) 16 rfl Try.underlying23 info39 rfl (by decide) (by omega) v238 y237 y240 _ _ _ (fun k_ => k_ ≠ gb212) (fun _ => False) rfl rfl ?aO ?aR (fun _ _ h => h) (fun _ h => h.elim) ?aF ?aB ?aS ?aL ?_
            (case aR => repeat (first | exact (Kd.C_below HR243.out HB.out) | (with_reducible refine Kd.C_alloc ?_ _) | (with_reducible refine Kd.C_drewN ?_ _) | (with_reducible refine Kd.C_drew ?_)))
            (case aB => exact bel)
            (case aF => exact (fun k_ hk => Kd.freshB (g := gb212) (o := .cells #[.int .i64 a1_0, .int .i64 a1_1] 39 (0, 0)) blkx k_ hk))
            (case aO => exact (by (with_reducible repeat (first | apply Kd.R_alloc | apply Kd.R_drewN | apply Kd.R_drew)); exact Kd.R_mono HO239.out (fun _ hk => hk.2)))
            (case aS => exact (below_size bel))
            (case aL => have := LMc30.out; omega)
            intro v245 w41 ho hb hg hat
            rw [← Ny244.out] at ho
            have n0_ := Aside0.mk (blk_grown (g := gb212) (o := .cells #[.int .i64 a1_0, .int .i64 a1_1] 39 (0, 0)) blkx hg (Kd.R_away HO239.out (fun _ hk => hk.2)))
            have n1_ := Aside0.mk (hb)
            have n2_ := Aside0.mk (ho)
            clear BK212
            clear HB
            clear HO239
            have BK212 := n0_
            have HB := n1_
            have HO246 := n2_
            clear n0_ n1_ n2_
            clear ho hb hg hat
            refine hK.out _ _ ⟨(blk_cell BK212.out 0).trans rfl, (blk_cell BK212.out 1).trans rfl⟩ (fun hHeld => ?_)
            clear hK K
            refine norm_ (a' := ?_) ?_ ?_
            rotate_left
            ·show Act.put _ (some 26) _ = _
             simp only [Act.put, List.setIfInBounds_toArray, List.set_cons_zero, List.set_cons_succ, i64_w, i32_w]
             rfl
            refine one_ (i := 6) (N := some 28) #[true, true, true, true, true, true, true, false, true, true, true, false, false] rfl rfl (one_of HT_.out (by kernel_rfl)) (by decide) (fun K hK => ?_)
            refine Kd.R_lit_step k39 _ 39 ?hg (N := 28) ?hd (xs := ([(⟨a1_0, a1_1⟩ : S39)] : List (S39))) (inner := [.int .i64 a1_0, .int .i64 a1_1]) (ok := fun _ => True) (okp := fun _ => True) ?hr ?hp (fun _ hk => hk) trivial (Below.refl _ _) (Nat.le_refl _) (by simp) ?_; (case hd => rfl); (case hg => rfl); (case hr => first | (go_simp; done) | (go_simp; rfl)); (case hp => exact (Reps.c2 (show Kd.M k39 _ _ _ (⟨a1_0, a1_1⟩ : S39) [.int .i64 a1_0, .int .i64 a1_1] from (k39_mkM _ _ _ (⟨a1_0, a1_1⟩ : S39) )) (Reps.none _ _)))
            intro v248 w42 ho43 hb hg_ hnew_
            clear hg_ hnew_
            (first | rw [← Ny247.out] at ho43 | (simp only [Int.reduceToNat] at ho43; rw [← Ny247.out] at ho43))
            have n0_ := Aside0.mk (Kd.R_elder' (rowx HO246.out) (Kd.R_base ho43) hb)
            have n1_ := Aside0.mk (Kd.R_lower (Kd.R_newB (Kd.R_new' ho43 (Kd.R_lt (rowx HO246.out))) (g := gb212) (o := .cells #[.int .i64 a1_0, .int .i64 a1_1] 39 (0, 0)) blkx) (below_size bel))
            have n2_ := Aside0.mk (blk_below (g := gb212) (o := .cells #[.int .i64 a1_0, .int .i64 a1_1] 39 (0, 0)) blkx hb)
            have n3_ := Aside0.mk (below_step bel hb)
            clear HO246
            clear BK212
            clear HB
            have HO246 := n0_
            have HO249 := n1_
            have BK212 := n2_
            have HB := n3_
            clear n0_ n1_ n2_ n3_
            clear hb ho43
            refine hK.out _ _ ⟨(blk_cell BK212.out 0).trans rfl, (blk_cell BK212.out 1).trans rfl⟩ (fun hHeld => ?_)
            clear hK K
            refine norm_ (a' := ?_) ?_ ?_
            rotate_left
            ·show Act.put _ (some 28) _ = _
             simp only [Act.put, List.setIfInBounds_toArray, List.set_cons_zero, List.set_cons_succ, i64_w, i32_w]
             rfl
            exact norm_ (by simp only [putAll, Act.put, List.setIfInBounds_toArray, List.set_cons_zero, List.set_cons_succ]) (hCont (v238, v245, v248) _ ⟨hHeld, (by (with_reducible repeat (first | apply Kd.R_alloc | apply Kd.R_drewN | apply Kd.R_drew)); exact Kd.R_mono HO246.out (fun _ hk => ⟨hk.2, hk.1⟩)), (by (with_reducible repeat (first | apply Kd.R_alloc | apply Kd.R_drewN | apply Kd.R_drew)); exact Kd.R_mono HO249.out (fun _ hk => ⟨hk.1.2, hk.2⟩)), blkx, bel⟩)
           ·skip
            refine Kd.R_lit_step k39 _ 39 ?hg (N := 28) ?hd (xs := ([(⟨a1_0, a1_1⟩ : S39)] : List (S39))) (inner := [.int .i64 a1_0, .int .i64 a1_1]) (ok := fun _ => True) (okp := fun _ => True) ?hr ?hp (fun _ hk => hk) trivial (Below.refl _ _) (Nat.le_refl _) (by simp) ?_; (case hd => rfl); (case hg => rfl); (case hr => first | (go_simp; done) | (go_simp; rfl)); (case hp => exact (Reps.c2 (show Kd.M k39 _ _ _ (⟨a1_0, a1_1⟩ : S39) [.int .i64 a1_0, .int .i64 a1_1] from (k39_mkM _ _ _ (⟨a1_0, a1_1⟩ : S39) )) (Reps.none _ _)))
            intro v248 w41 ho42 hb hg_ hnew_
            clear hg_ hnew_
            (first | rw [← Ny247.out] at ho42 | (simp only [Int.reduceToNat] at ho42; rw [← Ny247.out] at ho42))
            have n0_ := Aside0.mk (Kd.R_elder' (rowx HO239.out) (Kd.R_base ho42) hb)
            have n1_ := Aside0.mk (Kd.R_lower (Kd.R_newB (Kd.R_new' ho42 (Kd.R_lt (rowx HO239.out))) (g := gb212) (o := .cells #[.int .i64 a1_0, .int .i64 a1_1] 39 (0, 0)) blkx) (below_size bel))
            have n2_ := Aside0.mk (blk_below (g := gb212) (o := .cells #[.int .i64 a1_0, .int .i64 a1_1] 39 (0, 0)) blkx hb)
            have n3_ := Aside0.mk (below_step bel hb)
            clear HO239
            clear BK212
            clear HB
            have HO239 := n0_
            have HO249 := n1_
            have BK212 := n2_
            have HB := n3_
            clear n0_ n1_ n2_ n3_
            clear hb ho42
            refine hK.out _ _ ⟨(blk_cell BK212.out 0).trans rfl, (blk_cell BK212.out 1).trans rfl⟩ (fun hHeld => ?_)
            clear hK K
            refine norm_ (a' := ?_) ?_ ?_
            rotate_left
            ·show Act.put _ (some 28) _ = _
             simp only [Act.put, List.setIfInBounds_toArray, List.set_cons_zero, List.set_cons_succ, i64_w, i32_w]
             rfl
            refine one_ (i := 4) (N := some 26) #[true, true, true, true, true, true, true, false, true, true, true, false, false] rfl rfl (one_of HT_.out (by kernel_rfl)) (by decide) (fun K hK => ?_)
            refine Kd.R_append_rows_step k39 (w0 := w) w.heap.size (by rfl) (.tmp 22) (.tmp 25) 23 39 (.agg #[(.int .i64 0), (.int .i64 0)]) 16 rfl Try.underlying23 info39 rfl (by decide) (by omega) v238 y237 y240 _ _ _ (fun k_ => some k_ ≠ (v248 : Value).ownBlock ∧ k_ ≠ gb212) (fun _ => False) rfl rfl ?aO ?aR (fun _ _ h => h) (fun _ h => h.elim) ?aF ?aB ?aS ?aL ?_
            (case aR => repeat (first | exact (Kd.C_below HR243.out HB.out) | (with_reducible refine Kd.C_alloc ?_ _) | (with_reducible refine Kd.C_drewN ?_ _) | (with_reducible refine Kd.C_drew ?_)))
            (case aB => exact bel)
            (case aF => exact (fun k_ hk => ⟨Kd.fresh' (Kd.R_lt (rowx HO249.out)) k_ hk, Kd.freshB (g := gb212) (o := .cells #[.int .i64 a1_0, .int .i64 a1_1] 39 (0, 0)) blkx k_ hk⟩))
            (case aO => exact (by (with_reducible repeat (first | apply Kd.R_alloc | apply Kd.R_drewN | apply Kd.R_drew)); exact Kd.R_mono HO239.out (fun _ hk => ⟨hk.2, hk.1.2⟩)))
            (case aS => exact (below_size bel))
            (case aL => have := LMc30.out; omega)
            intro v245 w43 ho hb hg hat
            rw [← Ny244.out] at ho
            have n0_ := Aside0.mk (blk_grown (g := gb212) (o := .cells #[.int .i64 a1_0, .int .i64 a1_1] 39 (0, 0)) blkx hg (Kd.R_away HO239.out (fun _ hk => hk.1.2)))
            have n1_ := Aside0.mk (Kd.R_after (ok := (fun k_ => k_ ≠ gb212)) (by (with_reducible repeat (first | apply Kd.R_alloc | apply Kd.R_drewN | apply Kd.R_drew)); exact Kd.R_mono HO249.out (fun _ hk => ⟨hk.2, hk.1.2⟩)) hg hat)
            have n2_ := Aside0.mk (hb)
            have n3_ := Aside0.mk (ho)
            clear BK212
            clear HO249
            clear HB
            clear HO239
            have BK212 := n0_
            have HO249 := n1_
            have HB := n2_
            have HO246 := n3_
            clear n0_ n1_ n2_ n3_
            clear ho hb hg hat
            refine hK.out _ _ ⟨(blk_cell BK212.out 0).trans rfl, (blk_cell BK212.out 1).trans rfl⟩ (fun hHeld => ?_)
            clear hK K
            refine norm_ (a' := ?_) ?_ ?_
            rotate_left
            ·show Act.put _ (some 26) _ = _
             simp only [Act.put, List.setIfInBounds_toArray, List.set_cons_zero, List.set_cons_succ, i64_w, i32_w]
             rfl
            exact norm_ (by simp only [putAll, Act.put, List.setIfInBounds_toArray, List.set_cons_zero, List.set_cons_succ]) (hCont (v238, v245, v248) _ ⟨hHeld, (rowx HO246.out), (by (with_reducible repeat (first | apply Kd.R_alloc | apply Kd.R_drewN | apply Kd.R_drew)); exact Kd.R_mono HO249.out (fun _ hk => ⟨hk.2, hk.1⟩)), blkx, bel⟩)
          ·skip
           refine Kd.R_lit_step k39 _ 39 ?hg (N := 28) ?hd (xs := ([(⟨a1_0, a1_1⟩ : S39)] : List (S39))) (inner := [.int .i64 a1_0, .int .i64 a1_1]) (ok := fun _ => True) (okp := fun _ => True) ?hr ?hp (fun _ hk => hk) trivial (Below.refl _ _) (Nat.le_refl _) (by simp) ?_; (case hd => rfl); (case hg => rfl); (case hr => first | (go_simp; done) | (go_simp; rfl)); (case hp => exact (Reps.c2 (show Kd.M k39 _ _ _ (⟨a1_0, a1_1⟩ : S39) [.int .i64 a1_0, .int .i64 a1_1] from (k39_mkM _ _ _ (⟨a1_0, a1_1⟩ : S39) )) (Reps.none _ _)))
           intro v248 w39 ho40 hb hg_ hnew_
           clear hg_ hnew_
           (first | rw [← Ny247.out] at ho40 | (simp only [Int.reduceToNat] at ho40; rw [← Ny247.out] at ho40))
           have n0_ := Aside0.mk (Kd.R_lower (Kd.R_newB ho40 (g := gb212) (o := .cells #[.int .i64 a1_0, .int .i64 a1_1] 39 (0, 0)) blkx) (below_size bel))
           have n1_ := Aside0.mk (blk_below (g := gb212) (o := .cells #[.int .i64 a1_0, .int .i64 a1_1] 39 (0, 0)) blkx hb)
           have n2_ := Aside0.mk (below_step bel hb)
           clear BK212
           clear HB
           have HO249 := n0_
           have BK212 := n1_
           have HB := n2_
           clear n0_ n1_ n2_
           clear hb ho40
           refine hK.out _ _ ⟨(blk_cell BK212.out 0).trans rfl, (blk_cell BK212.out 1).trans rfl⟩ (fun hHeld => ?_)
           clear hK K
           refine norm_ (a' := ?_) ?_ ?_
           rotate_left
           ·show Act.put _ (some 28) _ = _
            simp only [Act.put, List.setIfInBounds_toArray, List.set_cons_zero, List.set_cons_succ, i64_w, i32_w]
            rfl
           refine one_ (i := 0) (N := some 22) #[true, true, true, true, false, true, true, false, true, true, true, false, false] rfl rfl (one_of HT_.out (by kernel_rfl)) (by decide) (fun K hK => ?_)
           refine Kd.R_lit_step k39 _ 39 ?hg (N := 22) ?hd (xs := ([] : List (S39))) (inner := []) (ok := fun _ => True) (okp := fun _ => True) ?hr ?hp (fun _ hk => hk) trivial (Below.refl _ _) (Nat.le_refl _) (by simp) ?_; (case hd => rfl); (case hg => rfl); (case hr => first | (go_simp; done) | (go_simp; rfl)); (case hp => exact (Reps.none _ _))
           intro v238 w41 ho42 hb hg_ hnew_
           clear hg_ hnew_
           (first | rw [← Ny237.out] at ho42 | (simp only [Int.reduceToNat] at ho42; rw [← Ny237.out] at ho42))
           have n0_ := Aside0.mk (Kd.R_elder' (rowx HO249.out) (Kd.R_base ho42) hb)
           have n1_ := Aside0.mk (Kd.R_lower (Kd.R_newB (Kd.R_new' ho42 (Kd.R_lt (rowx HO249.out))) (g := gb212) (o := .cells #[.int .i64 a1_0, .int .i64 a1_1] 39 (0, 0)) blkx) (below_size bel))
           have n2_ := Aside0.mk (blk_below (g := gb212) (o := .cells #[.int .i64 a1_0, .int .i64 a1_1] 39 (0, 0)) blkx hb)
           have n3_ := Aside0.mk (below_step bel hb)
           clear HO249
           clear BK212
           clear HB
           have HO249 := n0_
           have HO239 := n1_
           have BK212 := n2_
           have HB := n3_
           clear n0_ n1_ n2_ n3_
           clear hb ho42
           refine hK.out _ _ ⟨(blk_cell BK212.out 0).trans rfl, (blk_cell BK212.out 1).trans rfl⟩ (fun hHeld => ?_)
           clear hK K
           refine norm_ (a' := ?_) ?_ ?_
           rotate_left
           ·show Act.put _ (some 22) _ = _
            simp only [Act.put, List.setIfInBounds_toArray, List.set_cons_zero, List.set_cons_succ, i64_w, i32_w]
            rfl
           refine one_ (i := 4) (N := some 26) #[true, true, true, true, true, true, true, false, true, true, true, false, false] rfl rfl (one_of HT_.out (by kernel_rfl)) (by decide) (fun K hK => ?_)
           refine Kd.R_append_rows_step k39 (w0 := w) w.heap.size (by rfl) (.tmp 22) (.tmp 25) 23 39 (.agg #[(.int .i64 0), (.int .i64 0)]) 16 rfl Try.underlying23 info39 rfl (by decide) (by omega) v238 y237 y240 _ _ _ (fun k_ => some k_ ≠ (v248 : Value).ownBlock ∧ k_ ≠ gb212) (fun _ => False) rfl rfl ?aO ?aR (fun _ _ h => h) (fun _ h => h.elim) ?aF ?aB ?aS ?aL ?_
           (case aR => repeat (first | exact (Kd.C_below HR243.out HB.out) | (with_reducible refine Kd.C_alloc ?_ _) | (with_reducible refine Kd.C_drewN ?_ _) | (with_reducible refine Kd.C_drew ?_)))
           (case aB => exact bel)
           (case aF => exact (fun k_ hk => ⟨Kd.fresh' (Kd.R_lt (rowx HO249.out)) k_ hk, Kd.freshB (g := gb212) (o := .cells #[.int .i64 a1_0, .int .i64 a1_1] 39 (0, 0)) blkx k_ hk⟩))
           (case aO => exact (by (with_reducible repeat (first | apply Kd.R_alloc | apply Kd.R_drewN | apply Kd.R_drew)); exact Kd.R_mono HO239.out (fun _ hk => ⟨hk.1.2, hk.2⟩)))
           (case aS => exact (below_size bel))
           (case aL => have := LMc30.out; omega)
           intro v245 w43 ho hb hg hat
           rw [← Ny244.out] at ho
           have n0_ := Aside0.mk (blk_grown (g := gb212) (o := .cells #[.int .i64 a1_0, .int .i64 a1_1] 39 (0, 0)) blkx hg (Kd.R_away HO239.out (fun _ hk => hk.2)))
           have n1_ := Aside0.mk (Kd.R_after (ok := (fun k_ => k_ ≠ gb212)) (by (with_reducible repeat (first | apply Kd.R_alloc | apply Kd.R_drewN | apply Kd.R_drew)); exact Kd.R_mono HO249.out (fun _ hk => ⟨hk.1.2, hk.2⟩)) hg hat)
           have n2_ := Aside0.mk (hb)
           have n3_ := Aside0.mk (ho)
           clear BK212
           clear HO249
           clear HB
           clear HO239
           have BK212 := n0_
           have HO249 := n1_
           have HB := n2_
           have HO246 := n3_
           clear n0_ n1_ n2_ n3_
           clear ho hb hg hat
           refine hK.out _ _ ⟨(blk_cell BK212.out 0).trans rfl, (blk_cell BK212.out 1).trans rfl⟩ (fun hHeld => ?_)
           clear hK K
           refine norm_ (a' := ?_) ?_ ?_
           rotate_left
           ·show Act.put _ (some 26) _ = _
            simp only [Act.put, List.setIfInBounds_toArray, List.set_cons_zero, List.set_cons_succ, i64_w, i32_w]
            rfl
           exact norm_ (by simp only [putAll, Act.put, List.setIfInBounds_toArray, List.set_cons_zero, List.set_cons_succ]) (hCont (v238, v245, v248) _ ⟨hHeld, (rowx HO246.out), (by (with_reducible repeat (first | apply Kd.R_alloc | apply Kd.R_drewN | apply Kd.R_drew)); exact Kd.R_mono HO249.out (fun _ hk => ⟨hk.2, hk.1⟩)), blkx, bel⟩)
         rintro ⟨v238, v245, v248⟩ w44 ⟨hS_, h0_, h1_, h2_, h3_⟩
         have n0_ : Aside0 (Kd.R k39 39 w44 w.heap.size (fun k_ => some k_ ≠ (v248 : Value).ownBlock ∧ k_ ≠ gb212) v245 y244) := ⟨h0_⟩
         have n1_ : Aside0 (Kd.R k39 39 w44 w.heap.size (fun k_ => some k_ ≠ (v245 : Value).ownBlock ∧ k_ ≠ gb212) v248 y247) := ⟨h1_⟩
         have n2_ : Aside0 (w44.heap[gb212]? = some (.cells #[.int .i64 a1_0, .int .i64 a1_1] 39 (0, 0))) := ⟨h2_⟩
         have n3_ : Aside0 (Below w.heap.size w w44) := ⟨h3_⟩
         clear BK212
         clear HB
         clear h0_ h1_ h2_ h3_
         have HO246 := n0_
         have HO249 := n1_
         have BK212 := n2_
         have HB := n3_
         clear n0_ n1_ n2_ n3_
         have hHeld : w44.cell? ⟨gb212, 0, none⟩ = some (.int .i64 a1_0) ∧ w44.cell? ⟨gb212, 1, none⟩ = some (.int .i64 a1_1) := hS_
         obtain ⟨Ao46, co46, eo46⟩ := Kd.R_slice HO249.out
         (first | subst eo46 | (injection eo46 with f1_ f2_ f3_; have f4_ := f1_.symm; have f5_ := f3_.symm; clear f1_ f2_ f3_; subst f4_; subst f5_))
         refine norm_ (a' := ?_) ?_ ?_
         rotate_left
         ·simp only [putAll, Act.put, List.setIfInBounds_toArray, List.set_cons_zero, List.set_cons_succ]
          rfl
         refine one_ (i := 7) (N := some 29) #[true, true, true, true, true, true, true, true, true, true, true, false, false] rfl rfl (one_of HT_.out (by kernel_rfl)) (by decide) (fun K hK => ?_)
         refine Kd.R_append_rows_step k39 (w0 := w) w.heap.size (by rfl) (.tmp 26) (.tmp 28) 23 39 (.agg #[(.int .i64 0), (.int .i64 0)]) 16 rfl Try.underlying23 info39 rfl (by decide) (by omega) v245 y244 y247 _ _ _ (fun k_ => some k_ ≠ (.slice Ao46 y247.length co46 : Value).ownBlock ∧ k_ ≠ gb212) (fun _ => False) rfl rfl ?aO ?aR (fun _ _ h => h) (fun _ h => h.elim) ?aF ?aB ?aS ?aL ?_
         (case aR => repeat (first | exact (Kd.R_reads' HO249.out).2.2 | (with_reducible refine Kd.C_alloc ?_ _) | (with_reducible refine Kd.C_drewN ?_ _) | (with_reducible refine Kd.C_drew ?_)))
         (case aB => exact bel)
         (case aF => exact (fun k_ hk => ⟨Kd.fresh' (Kd.R_lt (rowx HO249.out)) k_ hk, Kd.freshB (g := gb212) (o := .cells #[.int .i64 a1_0, .int .i64 a1_1] 39 (0, 0)) blkx k_ hk⟩))
         (case aO => exact (rowx HO246.out))
         (case aS => exact (below_size bel))
         (case aL => have := LMc31.out; omega)
         intro v251 w45 ho hb hg hat
         rw [← Ny250.out] at ho
         have n0_ := Aside0.mk (blk_grown (g := gb212) (o := .cells #[.int .i64 a1_0, .int .i64 a1_1] 39 (0, 0)) blkx hg (Kd.R_away HO246.out (fun _ hk => hk.2)))
         have n1_ := Aside0.mk (Kd.R_after (ok := (fun k_ => k_ ≠ gb212)) (by (with_reducible repeat (first | apply Kd.R_alloc | apply Kd.R_drewN | apply Kd.R_drew)); exact Kd.R_mono HO249.out (fun _ hk => ⟨hk.2, hk.1⟩)) hg hat)
         have n2_ := Aside0.mk (hb)
         have n3_ := Aside0.mk (ho)
         clear BK212
         clear HO249
         clear HB
         clear HO246
         have BK212 := n0_
         have HO249 := n1_
         have HB := n2_
         have HO252 := n3_
         clear n0_ n1_ n2_ n3_
         clear ho hb hg hat
         refine hK.out _ _ ⟨(blk_cell BK212.out 0).trans rfl, (blk_cell BK212.out 1).trans rfl⟩ (fun hHeld => ?_)
         clear hK K
         refine norm_ (a' := ?_) ?_ ?_
         rotate_left
         ·show Act.put _ (some 29) _ = _
          simp only [Act.put, List.setIfInBounds_toArray, List.set_cons_zero, List.set_cons_succ, i64_w, i32_w]
          rfl
         refine one_ (i := 11) (N := some 33) #[true, true, true, true, true, true, true, true, true, true, true, true, false] rfl rfl (one_of HT_.out (by kernel_rfl)) (by decide) (fun K hK => ?_)
         refine Kd.R_append_rows_step k39 (w0 := w) w.heap.size (by rfl) (.tmp 29) (.tmp 32) 23 39 (.agg #[(.int .i64 0), (.int .i64 0)]) 16 rfl Try.underlying23 info39 rfl (by decide) (by omega) v251 y250 y253 _ _ _ (fun k_ => some k_ ≠ (.slice Ao46 y247.length co46 : Value).ownBlock ∧ k_ ≠ gb212) (fun _ => False) rfl rfl ?aO ?aR (fun _ _ h => h) (fun _ h => h.elim) ?aF ?aB ?aS ?aL ?_
         (case aR => repeat (first | exact (Kd.C_below HR256.out HB.out) | (with_reducible refine Kd.C_alloc ?_ _) | (with_reducible refine Kd.C_drewN ?_ _) | (with_reducible refine Kd.C_drew ?_)))
         (case aB => exact bel)
         (case aF => exact (fun k_ hk => ⟨Kd.fresh' (Kd.R_lt (rowx HO249.out)) k_ hk, Kd.freshB (g := gb212) (o := .cells #[.int .i64 a1_0, .int .i64 a1_1] 39 (0, 0)) blkx k_ hk⟩))
         (case aO => exact (rowx HO252.out))
         (case aS => exact (below_size bel))
         (case aL => have := LMc34.out; omega)
         intro v258 w47 ho hb hg hat
         rw [← Ny257.out] at ho
         have n0_ := Aside0.mk (blk_grown (g := gb212) (o := .cells #[.int .i64 a1_0, .int .i64 a1_1] 39 (0, 0)) blkx hg (Kd.R_away HO252.out (fun _ hk => hk.2)))
         have n1_ := Aside0.mk (Kd.R_after (ok := (fun k_ => k_ ≠ gb212)) (rowx HO249.out) hg hat)
         have n2_ := Aside0.mk (hb)
         have n3_ := Aside0.mk (ho)
         clear BK212
         clear HO249
         clear HB
         clear HO252
         have BK212 := n0_
         have HO249 := n1_
         have HB := n2_
         have HO259 := n3_
         clear n0_ n1_ n2_ n3_
         clear ho hb hg hat
         refine hK.out _ _ ⟨(blk_cell BK212.out 0).trans rfl, (blk_cell BK212.out 1).trans rfl⟩ (fun hHeld => ?_)
         clear hK K
         refine norm_ (a' := ?_) ?_ ?_
         rotate_left
         ·show Act.put _ (some 33) _ = _
          simp only [Act.put, List.setIfInBounds_toArray, List.set_cons_zero, List.set_cons_succ, i64_w, i32_w]
          rfl
         refine pure_ (i := 12) (N := some 4) (v := ?_) (a' := ?_) #[true, true, true, true, true, true, true, true, true, true, true, true, true] rfl rfl (any_of HT_.out (by kernel_rfl)) (fun _ _ _ h => h) (Or.inl ⟨by rfl, ?_⟩) ?_ ?_
         rotate_left
         ·intro w'
          go_simp
          with_reducible rfl
         rotate_left
         ·simp only [Act.put, List.setIfInBounds_toArray, List.set_cons_zero, List.set_cons_succ, i64_w, i32_w]
          rfl
         refine done_ (done_of HT_.out (by kernel_rfl)) ?_
         try go_wp2
         go_ret
         exact ⟨_, by first | rfl | (simp [errW_none, errW_some] <;> rfl) | (simp [*, errW_none, errW_some] <;> rfl), by (with_reducible repeat (first | apply Kd.R_alloc | apply Kd.R_drewN | apply Kd.R_drew)); exact Kd.R_mono HO259.out (fun _ hk => trivial), bel⟩
        ·rw [if_neg c34] at H
         exact absurd H (by simp)
       ·rw [if_neg c31] at H
        exact absurd H (by simp)
      ·rw [if_neg c30] at H
       exact absurd H (by simp)
     ·rw [if_neg c29] at H
      exact absurd H (by simp)
    ·rw [if_neg c28] at H
     exact absurd H (by simp)
end Go.Proofs.Ytakhjhiofmgpnaa.PA
