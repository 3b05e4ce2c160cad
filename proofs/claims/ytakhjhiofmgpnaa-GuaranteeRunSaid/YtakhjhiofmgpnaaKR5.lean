/- Part 5 of the proof of guaranteeRun_holds: texts of this claim, printed and by hand, cut to what it needs (wip/tools/link.py). Lean checks every line. -/
import Derived.Test.YtakhjhiofmgpnaaKR4
-- Written by a program of this claim (wip/tools: mkprint.py, pr.sh) out of the translation: plain functions and their contracts. Lean checks every line.
namespace Go.Proofs.Ytakhjhiofmgpnaa.PA
open Go.RowKit Go.Proofs.YtakhjhiofmgpnaaW.PrintWords Go.Proofs.YtakhjhiofmgpnaaW.PrintLast Go.Proofs.YtakhjhiofmgpnaaW.PrintMore Go.Proofs.Ytakhjhiofmgpnaa.G
attribute [local go_sem] max2_int min2_int max_two min_two max_three min_three max_four min_four   -- for this text's walks alone
set_option linter.unusedVariables false
set_option linter.unusedSimpArgs false
mutual
def customsref21_Set.j0 : Nat → Int → Int → Bool → Int → Int → Int → List (S39) → Option (Int × Int × Int × (List (S39)) × Int)
 | 0, _, _, _, _, _, _, _ => none
 | k + 1, x1, x2, x32, x261000, x261001, x261002, x261003 => if x32 = true then (some (0, 0, 0, ([] : List (S39)), 2)) else ((customsref21_without.f k x261003 x1).bind fun bt263 => (if bt263.2 < 0 then (customsref21_Set.j1 k x1 x2 bt263.1 (decide ((x261003.length : Int) ≥ 64)) x261000 x261001 x261002 x261003) else (customsref21_Set.j1 k x1 x2 bt263.1 false x261000 x261001 x261002 x261003)))
def customsref21_Set.j1 : Nat → Int → Int → List (S39) → Bool → Int → Int → Int → List (S39) → Option (Int × Int × Int × (List (S39)) × Int)
 | 0, _, _, _, _, _, _, _, _ => none
 | k + 1, x1, x2, x9, x48, x261000, x261001, x261002, x261003 => if x48 = true then (some (0, 0, 0, ([] : List (S39)), 8)) else ((customsref21_Required.f x261000 x261001 x261002 x261003 x2).bind fun bt267 => ((customsref21_Total.f k x261000 x261001 x261002 x9).bind fun t269 => (if (wrap64 (t269 + bt267.1)) > x261001 then (some (0, 0, 0, ([] : List (S39)), 16)) else ((customsref21_Insert.f k x9 x1 bt267.1).bind fun t270 => (some (x261000, x261001, x261002, t270, 0))))))
end
def customsref21_Set.f (k : Nat) (a0_0 : Int) (a0_1 : Int) (a0_2 : Int) (l0_3 : List (S39)) (a1 : Int) (a2 : Int) : Option (Int × Int × Int × (List (S39)) × Int) := (customsref21_ValidGuarantee.f k a0_0 a0_1 a0_2 l0_3).bind fun t262 => (if t262 = 0 then (if a1 < 1 then (customsref21_Set.j0 k a1 a2 true a0_0 a0_1 a0_2 l0_3) else (if a1 > 1000000 then (customsref21_Set.j0 k a1 a2 true a0_0 a0_1 a0_2 l0_3) else (if a2 < 0 then (customsref21_Set.j0 k a1 a2 true a0_0 a0_1 a0_2 l0_3) else (customsref21_Set.j0 k a1 a2 (decide (a2 > 1000000000000)) a0_0 a0_1 a0_2 l0_3)))) else (some (0, 0, 0, ([] : List (S39)), t262)))
set_option maxHeartbeats 8000000 in
set_option maxRecDepth 100000 in
theorem customsref21_Set.calls (k : Nat) (a0_0 : Int) (a0_1 : Int) (a0_2 : Int) (A0_3 : Option Addr) (c0_3 : Nat) (l0_3 : List (S39)) (a1 : Int) (a2 : Int) (r1 : Int) (r2 : Int) (r3 : Int) (r4 : List (S39)) (r5 : Int) (w : World) (hr0_3 : Kd.C k39 w A0_3 l0_3.length l0_3) (hc0_3 : l0_3.length ≤ c0_3) (h : customsref21_Set.f k a0_0 a0_1 a0_2 l0_3 a1 a2 = some (r1, r2, r3, r4, r5)) :
  Calls Try.prog 22 #[.agg #[.int .i64 a0_0, .int .i64 a0_1, .int .i64 a0_2, .slice A0_3 l0_3.length c0_3], .int .i64 a1, .int .i64 a2] w fun e w' => ∃ v3_ : Value, e = .returned (.tuple #[.agg #[.int .i64 r1, .int .i64 r2, .int .i64 r3, v3_], .int .i64 r5]) ∧ Kd.R k39 39 w' w.heap.size (fun _ => True) v3_ r4 ∧ Below w.heap.size w w' := by
 have hu25 := Try.underlying25
 have hu39 := Try.underlying39
 have HR0_3 := Aside0.mk hr0_3
 have HC0_3 := Aside0.mk hc0_3
 clear hr0_3 hc0_3
 have HB := Aside0.mk (Below.refl w.heap.size w)
 have H : ((customsref21_ValidGuarantee.f k a0_0 a0_1 a0_2 l0_3).bind fun t262 => (if t262 = 0 then (if a1 < 1 then (customsref21_Set.j0 k a1 a2 true a0_0 a0_1 a0_2 l0_3) else (if a1 > 1000000 then (customsref21_Set.j0 k a1 a2 true a0_0 a0_1 a0_2 l0_3) else (if a2 < 0 then (customsref21_Set.j0 k a1 a2 true a0_0 a0_1 a0_2 l0_3) else (customsref21_Set.j0 k a1 a2 (decide (a2 > 1000000000000)) a0_0 a0_1 a0_2 l0_3)))) else (some (0, 0, 0, ([] : List (S39)), t262)))) = some (r1, r2, r3, r4, r5) := h
 clear h
 replace H := Option.bind_eq_some_iff.mp H
 obtain ⟨t262, A40, H⟩ := H
 replace H : (if t262 = 0 then (if a1 < 1 then (customsref21_Set.j0 k a1 a2 true a0_0 a0_1 a0_2 l0_3) else (if a1 > 1000000 then (customsref21_Set.j0 k a1 a2 true a0_0 a0_1 a0_2 l0_3) else (if a2 < 0 then (customsref21_Set.j0 k a1 a2 true a0_0 a0_1 a0_2 l0_3) else (customsref21_Set.j0 k a1 a2 (decide (a2 > 1000000000000)) a0_0 a0_1 a0_2 l0_3)))) else (some (0, 0, 0, ([] : List (S39)), t262))) = some (r1, r2, r3, r4, r5) := H
 have A4 := Aside0.mk A40
 clear A40
 by_cases c5 : t262 = 0
 ·rw [if_pos c5] at H
  have c5b0 : (t262 == 0) = true := beq_iff_eq.mpr c5
  have c5b1 : (t262 != 0) = false := bne_eq_false_iff_eq.mpr c5
  clear c5
  have HC6 := Aside0.mk H
  clear H
  go_enter Try.func22, Try.ntmps22
  go_upto_region 4 with (first | ((with_reducible refine gate_dst (N := 3) rfl ?_); refine box_event ?hg (N := 3) ?hd (cs := #[.int .i64 a0_0, .int .i64 a0_1, .int .i64 a0_2, .slice A0_3 l0_3.length c0_3]) (t := 25) ?hr ?_; (case hd => rfl); (case hg => rfl); (case hr => first | (go_simp; done) | (go_simp; rfl)); intro gb260 hg w7 hbox hb; have qb_ := below_both bel hb; have n0_ := Aside0.mk (qb_.1); have n1_ := Aside0.mk (hbox); have n2_ := Aside0.mk ((by rw [hg]; exact qb_.2 : w.heap.size ≤ gb260)); have n3_ := n2_; clear HB; have HB := n0_; have BK260 := n1_; have GW260 := n2_; have GE260 := n3_; clear qb_; clear n0_ n1_ n2_ n3_; clear hb hbox hg) | ((with_reducible refine gate_dst (N := 6) rfl ?_); refine box_event ?hg (N := 6) ?hd (cs := #[.int .i64 0, .int .i64 0, .int .i64 0, .slice none 0 0]) (t := 25) ?hr ?_; (case hd => rfl); (case hg => rfl); (case hr => first | (go_simp; done) | (go_simp; rfl)); intro gb261 hg w8 hbox hb; have qb_ := below_both bel hb; have q1_ := blk_below2 (g := gb260) (o := .cells #[.int .i64 a0_0, .int .i64 a0_1, .int .i64 a0_2, .slice A0_3 l0_3.length c0_3] 25 (0, 0)) blkx hb; have n0_ := Aside0.mk (q1_.1); have n1_ := Aside0.mk (qb_.1); have n2_ := Aside0.mk (hbox); have n3_ := Aside0.mk ((by rw [hg]; exact qb_.2 : w.heap.size ≤ gb261)); have n4_ := n3_; have n5_ := Aside0.mk ((by rw [hg]; exact Nat.ne_of_lt q1_.2 : gb260 ≠ gb261)); have n6_ := Aside0.mk (Ne.symm n5_.out); clear BK260; clear HB; have BK260 := n0_; have HB := n1_; have BK261 := n2_; have GW261 := n3_; have GE261 := n4_; have NB260_261 := n5_; have NB261_260 := n6_; clear q1_; clear qb_; clear n0_ n1_ n2_ n3_ n4_ n5_ n6_; clear hb hbox hg; have hnb9 := NB260_261.out; have hnc9 := NB261_260.out; obtain ⟨hcz10_0, hcz10_1, hcz10_2, hcz10_3, hfz10_0, hfz10_1, hfz10_2, hfz10_3⟩ := cells4 BK260.out) | ((with_reducible refine gate_callee (f := 12) rfl ?_); refine goesL_ (some 14) rfl rfl Try.func12 (by kernel_rfl) rfl #[.agg #[.int .i64 a0_0, .int .i64 a0_1, .int .i64 a0_2, .slice A0_3 l0_3.length c0_3]] rfl argx ?_; (with_reducible refine (customsref21_ValidGuarantee.calls k a0_0 a0_1 a0_2 _ _ l0_3 t262 _ ?side1 ?side2 A4.out).mono ?_); (case side1 => repeat (first | exact (Kd.C_below HR0_3.out HB.out) | (with_reducible refine Kd.C_alloc ?_ _) | (with_reducible refine Kd.C_drewN ?_ _) | (with_reducible refine Kd.C_drew ?_))); (case side2 => exact HC0_3.out); rintro e w11 ⟨rfl, hb⟩; refine ⟨_, rfl, ?_⟩; have n0_ := Aside0.mk (blk_below (g := gb260) (o := .cells #[.int .i64 a0_0, .int .i64 a0_1, .int .i64 a0_2, .slice A0_3 l0_3.length c0_3] 25 (0, 0)) blkx hb); have n1_ := Aside0.mk (blk_below (g := gb261) (o := .cells #[.int .i64 0, .int .i64 0, .int .i64 0, .slice none 0 0] 25 (0, 0)) blkx hb); have n2_ := Aside0.mk (below_step bel hb); clear BK260; clear BK261; clear HB; have BK260 := n0_; have BK261 := n1_; have HB := n2_; clear n0_ n1_ n2_; (try clear hb); (try clear hb2); (try clear hk); (try clear hi)))
  (try simp only [Act.put, List.setIfInBounds_toArray, List.set_cons_zero, List.set_cons_succ])
  go_cut [32] (fun v32 wc => ∃ (kq : Nat) (x32_5 : Bool), v32 = .bool x32_5 ∧ Aside0 (customsref21_Set.j0 kq a1 a2 x32_5 a0_0 a0_1 a0_2 l0_3 = some (r1, r2, r3, r4, r5)) ∧ Aside0 (kq ≤ k) ∧ Aside0 (wc.heap[gb260]? = some (.cells #[.int .i64 a0_0, .int .i64 a0_1, .int .i64 a0_2, (.slice A0_3 l0_3.length c0_3)] 25 (0, 0))) ∧ Aside0 (wc.heap[gb261]? = some (.cells #[.int .i64 0, .int .i64 0, .int .i64 0, (.slice none 0 0)] 25 (0, 0))) ∧ Aside0 (Below w.heap.size w wc))
  case first =>
   have H := HC6.out
   clear HC6
   by_cases c12 : a1 < 1
   ·rw [if_pos c12] at H
    have c12b0 : decide (a1 < 1) = true := decide_eq_true c12
    clear c12
    (first | rw [c12b0] | (simp only [i64_w, i32_w]; rw [c12b0]) | skip)
    have H' := Aside0.mk H
    clear H
    go_wp2
    go_meet
    case rel => exact ⟨_, (true), (by first | rfl | (simp; done) | (simp [*]; done)), H', ⟨by first | omega | exact Nat.le_refl _⟩, ⟨by (with_reducible repeat (first | refine blk_drewN ?_ _ | refine blk_drew ?_ | refine blk_alloc ?_ _)); exact BK260.out⟩, ⟨by (with_reducible repeat (first | refine blk_drewN ?_ _ | refine blk_drew ?_ | refine blk_alloc ?_ _)); exact BK261.out⟩, ⟨bel⟩⟩
   ·rw [if_neg c12] at H
    have c12b0 : decide (a1 < 1) = false := decide_eq_false c12
    clear c12
    (first | rw [c12b0] | (simp only [i64_w, i32_w]; rw [c12b0]) | skip)
    by_cases c13 : a1 > 1000000
    ·rw [if_pos c13] at H
     have c13b0 : decide (1000000 < a1) = true := decide_eq_true c13
     clear c13
     have H' := Aside0.mk H
     clear H
     go_wp2
     go_meet
     case rel => exact ⟨_, (true), (by first | rfl | (simp; done) | (simp [*]; done)), H', ⟨by first | omega | exact Nat.le_refl _⟩, ⟨by (with_reducible repeat (first | refine blk_drewN ?_ _ | refine blk_drew ?_ | refine blk_alloc ?_ _)); exact BK260.out⟩, ⟨by (with_reducible repeat (first | refine blk_drewN ?_ _ | refine blk_drew ?_ | refine blk_alloc ?_ _)); exact BK261.out⟩, ⟨bel⟩⟩
    ·rw [if_neg c13] at H
     have c13b0 : decide (1000000 < a1) = false := decide_eq_false c13
     clear c13
     by_cases c14 : a2 < 0
     ·rw [if_pos c14] at H
      have c14b0 : decide (a2 < 0) = true := decide_eq_true c14
      clear c14
      have H' := Aside0.mk H
      clear H
      go_wp2
      go_meet
      case rel => exact ⟨_, (true), (by first | rfl | (simp; done) | (simp [*]; done)), H', ⟨by first | omega | exact Nat.le_refl _⟩, ⟨by (with_reducible repeat (first | refine blk_drewN ?_ _ | refine blk_drew ?_ | refine blk_alloc ?_ _)); exact BK260.out⟩, ⟨by (with_reducible repeat (first | refine blk_drewN ?_ _ | refine blk_drew ?_ | refine blk_alloc ?_ _)); exact BK261.out⟩, ⟨bel⟩⟩
     ·rw [if_neg c14] at H
      have c14b0 : decide (a2 < 0) = false := decide_eq_false c14
      clear c14
      have H' := Aside0.mk H
      clear H
      go_wp2
      go_meet
      case rel => exact ⟨_, (decide (a2 > 1000000000000)), (by first | rfl | (simp; done) | (simp [*]; done)), H', ⟨by first | omega | exact Nat.le_refl _⟩, ⟨by (with_reducible repeat (first | refine blk_drewN ?_ _ | refine blk_drew ?_ | refine blk_alloc ?_ _)); exact BK260.out⟩, ⟨by (with_reducible repeat (first | refine blk_drewN ?_ _ | refine blk_drew ?_ | refine blk_alloc ?_ _)); exact BK261.out⟩, ⟨bel⟩⟩
  case rest =>
   clear HC6
   try clear c1
   try clear c2
   try clear p2
   try clear c5
   try clear c5b0
   try clear c5b1
   try clear c9
   try clear c12
   try clear c12b0
   try clear c13
   try clear c13b0
   try clear c14
   try clear c14b0
   try clear hcz10_0
   try clear hcz10_1
   try clear hcz10_2
   try clear hcz10_3
   try clear hfz10_0
   try clear hfz10_1
   try clear hfz10_2
   try clear hfz10_3
   obtain ⟨kq, x32_5, rfl, HA, HJ5, BK260, BK261, HB⟩ := hcut
   cases kq with
   | zero => exact absurd HA.out (by simp [customsref21_Set.j0])
   | succ kj5 =>
    have H := HA.out
    clear HA
    simp only [customsref21_Set.j0] at H
    by_cases c15 : x32_5 = true
    ·subst c15
     have H1 : (some (0, 0, 0, ([] : List (S39)), 2)) = some (r1, r2, r3, r4, r5) := by rw [if_pos rfl] at H; exact H
     clear H
     have H := H1
     clear H1
     simp only [Option.some.injEq, Prod.mk.injEq] at H
     obtain ⟨rfl, rfl, rfl, rfl, rfl⟩ := H
     have hnb16 := NB261_260.out
     have hnc16 := NB260_261.out
     obtain ⟨hcz17_0, hcz17_1, hcz17_2, hcz17_3, hfz17_0, hfz17_1, hfz17_2, hfz17_3⟩ := cells4 BK261.out
     go_wp2
     refine bodyPost_ret (results_ct rfl _ _ gb261 25 #[.int .i64 0, .int .i64 0, .int .i64 0, .slice none 0 0] (0, 0) _ rfl (by (with_reducible repeat (first | refine blk_drewN ?_ _ | refine blk_drew ?_ | refine blk_alloc ?_ _)); refine blk_put (cs := #[.int .i64 0, .int .i64 0, .int .i64 0, .slice none 0 0]) ?_ 3 _ rfl; refine blk_put (cs := #[.int .i64 0, .int .i64 0, .int .i64 0, .slice none 0 0]) ?_ 2 _ rfl; refine blk_put (cs := #[.int .i64 0, .int .i64 0, .int .i64 0, .slice none 0 0]) ?_ 1 _ rfl; refine blk_put (cs := #[.int .i64 0, .int .i64 0, .int .i64 0, .slice none 0 0]) ?_ 0 _ rfl; (with_reducible repeat (first | refine blk_drewN ?_ _ | refine blk_drew ?_ | refine blk_alloc ?_ _)); exact BK261.out) Try.underlying25 rfl (by kernel_rfl)) rfl ?_
     exact ⟨_, by first | rfl | (simp [errW_none, errW_some] <;> rfl) | (simp [*, errW_none, errW_some] <;> rfl), by first | exact Kd.R_nil _ _ _ _ _ | exact Kd.N_nil _ _ _ _ _ | exact Kd.V_nil _ _ _ _ _ | exact Kd.Q_nil _ _ _ _ _ | exact Kd.S_nil _ _ _ _ _, bel⟩
    ·replace c15 := Bool.eq_false_iff.mpr c15
     subst c15
     have H1 : ((customsref21_without.f kj5 l0_3 a1).bind fun bt263 => (if bt263.2 < 0 then (customsref21_Set.j1 kj5 a1 a2 bt263.1 (decide ((l0_3.length : Int) ≥ 64)) a0_0 a0_1 a0_2 l0_3) else (customsref21_Set.j1 kj5 a1 a2 bt263.1 false a0_0 a0_1 a0_2 l0_3))) = some (r1, r2, r3, r4, r5) := by rw [if_neg (show ¬ (false = true) by decide)] at H; exact H
     clear H
     have H := H1
     clear H1
     replace H := Option.bind_eq_some_iff.mp H
     obtain ⟨⟨t263, t264⟩, A180, H⟩ := H
     replace H : (if t264 < 0 then (customsref21_Set.j1 kj5 a1 a2 t263 (decide ((l0_3.length : Int) ≥ 64)) a0_0 a0_1 a0_2 l0_3) else (customsref21_Set.j1 kj5 a1 a2 t263 false a0_0 a0_1 a0_2 l0_3)) = some (r1, r2, r3, r4, r5) := H
     have A18 := Aside0.mk A180
     clear A180
     have HC19 := Aside0.mk H
     clear H
     have hnb20 := NB260_261.out
     have hnc20 := NB261_260.out
     obtain ⟨hcz21_0, hcz21_1, hcz21_2, hcz21_3, hfz21_0, hfz21_1, hfz21_2, hfz21_3⟩ := cells4 BK260.out
     go_upto_region 7 with (first | ((with_reducible refine gate_callee (f := 42) rfl ?_); refine goesL_ (some 38) rfl rfl Try.func42 (by kernel_rfl) rfl #[.slice A0_3 l0_3.length c0_3, .int .i64 a1] rfl argx ?_; (with_reducible refine (customsref21_without.calls kj5 _ _ l0_3 a1 t263 t264 _ ?side1 ?side2 A18.out).mono ?_); (case side1 => repeat (first | exact (Kd.C_below HR0_3.out HB.out) | (with_reducible refine Kd.C_alloc ?_ _) | (with_reducible refine Kd.C_drewN ?_ _) | (with_reducible refine Kd.C_drew ?_))); (case side2 => exact HC0_3.out); rintro e w22 ⟨v265, rfl, ho0, hb⟩; refine ⟨_, rfl, ?_⟩; have qb_ := below_both bel hb; have n0_ := Aside0.mk (Kd.R_lower ho0 qb_.2); have n1_ := Aside0.mk (blk_below (g := gb260) (o := .cells #[.int .i64 a0_0, .int .i64 a0_1, .int .i64 a0_2, .slice A0_3 l0_3.length c0_3] 25 (0, 0)) blkx hb); have n2_ := Aside0.mk (blk_below (g := gb261) (o := .cells #[.int .i64 0, .int .i64 0, .int .i64 0, .slice none 0 0] 25 (0, 0)) blkx hb); have n3_ := Aside0.mk (qb_.1); clear BK260; clear BK261; clear HB; have HO266 := n0_; have BK260 := n1_; have BK261 := n2_; have HB := n3_; clear qb_; clear n0_ n1_ n2_ n3_; (try clear hb); (try clear hb2); (try clear hk); (try clear hi); (try clear ho0)))
     (try simp only [Act.put, List.setIfInBounds_toArray, List.set_cons_zero, List.set_cons_succ])
     go_cut [48] (fun v48 wc => ∃ (kq : Nat) (x48_18 : Bool), v48 = .bool x48_18 ∧ Aside0 (customsref21_Set.j1 kq a1 a2 t263 x48_18 a0_0 a0_1 a0_2 l0_3 = some (r1, r2, r3, r4, r5)) ∧ Aside0 (kq ≤ kj5) ∧ Aside0 (Kd.R k39 39 wc w.heap.size (fun _ => True) v265 t263) ∧ Aside0 (wc.heap[gb260]? = some (.cells #[.int .i64 a0_0, .int .i64 a0_1, .int .i64 a0_2, (.slice A0_3 l0_3.length c0_3)] 25 (0, 0))) ∧ Aside0 (wc.heap[gb261]? = some (.cells #[.int .i64 0, .int .i64 0, .int .i64 0, (.slice none 0 0)] 25 (0, 0))) ∧ Aside0 (Below w.heap.size w wc))
     case first =>
      have H := HC19.out
      clear HC19
      by_cases c23 : t264 < 0
      ·rw [if_pos c23] at H
       have c23b0 : decide (t264 < 0) = true := decide_eq_true c23
       clear c23
       (first | rw [c23b0] | (simp only [i64_w, i32_w]; rw [c23b0]) | skip)
       have H' := Aside0.mk H
       clear H
       have hnb24 := NB260_261.out
       have hnc24 := NB261_260.out
       obtain ⟨hcz25_0, hcz25_1, hcz25_2, hcz25_3, hfz25_0, hfz25_1, hfz25_2, hfz25_3⟩ := cells4 BK260.out
       go_wp2
       go_meet
       case rel => exact ⟨_, (decide ((l0_3.length : Int) ≥ 64)), (by first | rfl | (simp; done) | (simp [*]; done)), H', ⟨by have := HJ5.out; first | omega | exact Nat.le_refl _⟩, ⟨by (with_reducible repeat (first | apply Kd.R_alloc | apply Kd.R_drewN | apply Kd.R_drew)); exact HO266.out⟩, ⟨by (with_reducible repeat (first | refine blk_drewN ?_ _ | refine blk_drew ?_ | refine blk_alloc ?_ _)); exact BK260.out⟩, ⟨by (with_reducible repeat (first | refine blk_drewN ?_ _ | refine blk_drew ?_ | refine blk_alloc ?_ _)); exact BK261.out⟩, ⟨bel⟩⟩
      ·rw [if_neg c23] at H
       have c23b0 : decide (t264 < 0) = false := decide_eq_false c23
       clear c23
       (first | rw [c23b0] | (simp only [i64_w, i32_w]; rw [c23b0]) | skip)
       have H' := Aside0.mk H
       clear H
       go_wp2
       go_meet
       case rel => exact ⟨_, (false), (by first | rfl | (simp; done) | (simp [*]; done)), H', ⟨by have := HJ5.out; first | omega | exact Nat.le_refl _⟩, ⟨by (with_reducible repeat (first | apply Kd.R_alloc | apply Kd.R_drewN | apply Kd.R_drew)); exact HO266.out⟩, ⟨by (with_reducible repeat (first | refine blk_drewN ?_ _ | refine blk_drew ?_ | refine blk_alloc ?_ _)); exact BK260.out⟩, ⟨by (with_reducible repeat (first | refine blk_drewN ?_ _ | refine blk_drew ?_ | refine blk_alloc ?_ _)); exact BK261.out⟩, ⟨bel⟩⟩
     case rest =>
      clear HC19
      try clear c1
      try clear c2
      try clear p2
      try clear c4
      try clear c5
      try clear c5b0
      try clear c5b1
      try clear c9
      try clear c12
      try clear c12b0
      try clear c13
      try clear c13b0
      try clear c14
      try clear c14b0
      try clear c15
      try clear c16
      try clear c20
      try clear c22
      try clear c23
      try clear c23b0
      try clear c24
      try clear hcz10_0
      try clear hcz10_1
      try clear hcz10_2
      try clear hcz10_3
      try clear hcz17_0
      try clear hcz17_1
      try clear hcz17_2
      try clear hcz17_3
      try clear hcz21_0
      try clear hcz21_1
      try clear hcz21_2
      try clear hcz21_3
      try clear hcz25_0
      try clear hcz25_1
      try clear hcz25_2
      try clear hcz25_3
      try clear hfz10_0
      try clear hfz10_1
      try clear hfz10_2
      try clear hfz10_3
      try clear hfz17_0
      try clear hfz17_1
      try clear hfz17_2
      try clear hfz17_3
      try clear hfz21_0
      try clear hfz21_1
      try clear hfz21_2
      try clear hfz21_3
      try clear hfz25_0
      try clear hfz25_1
      try clear hfz25_2
      try clear hfz25_3
      try clear p2
      obtain ⟨kq, x48_18, rfl, HA, HJ18, HO_9, BK260, BK261, HB⟩ := hcut
      cases kq with
      | zero => exact absurd HA.out (by simp [customsref21_Set.j1])
      | succ kj18 =>
       have H := HA.out
       clear HA
       simp only [customsref21_Set.j1] at H
       by_cases c26 : x48_18 = true
       ·subst c26
        have H1 : (some (0, 0, 0, ([] : List (S39)), 8)) = some (r1, r2, r3, r4, r5) := by rw [if_pos rfl] at H; exact H
        clear H
        have H := H1
        clear H1
        simp only [Option.some.injEq, Prod.mk.injEq] at H
        obtain ⟨rfl, rfl, rfl, rfl, rfl⟩ := H
        have hnb27 := NB261_260.out
        have hnc27 := NB260_261.out
        obtain ⟨hcz28_0, hcz28_1, hcz28_2, hcz28_3, hfz28_0, hfz28_1, hfz28_2, hfz28_3⟩ := cells4 BK261.out
        go_wp2
        refine bodyPost_ret (results_ct rfl _ _ gb261 25 #[.int .i64 0, .int .i64 0, .int .i64 0, .slice none 0 0] (0, 0) _ rfl (by (with_reducible repeat (first | refine blk_drewN ?_ _ | refine blk_drew ?_ | refine blk_alloc ?_ _)); refine blk_put (cs := #[.int .i64 0, .int .i64 0, .int .i64 0, .slice none 0 0]) ?_ 3 _ rfl; refine blk_put (cs := #[.int .i64 0, .int .i64 0, .int .i64 0, .slice none 0 0]) ?_ 2 _ rfl; refine blk_put (cs := #[.int .i64 0, .int .i64 0, .int .i64 0, .slice none 0 0]) ?_ 1 _ rfl; refine blk_put (cs := #[.int .i64 0, .int .i64 0, .int .i64 0, .slice none 0 0]) ?_ 0 _ rfl; (with_reducible repeat (first | refine blk_drewN ?_ _ | refine blk_drew ?_ | refine blk_alloc ?_ _)); exact BK261.out) Try.underlying25 rfl (by kernel_rfl)) rfl ?_
        exact ⟨_, by first | rfl | (simp [errW_none, errW_some] <;> rfl) | (simp [*, errW_none, errW_some] <;> rfl), by first | exact Kd.R_nil _ _ _ _ _ | exact Kd.N_nil _ _ _ _ _ | exact Kd.V_nil _ _ _ _ _ | exact Kd.Q_nil _ _ _ _ _ | exact Kd.S_nil _ _ _ _ _, bel⟩
       ·replace c26 := Bool.eq_false_iff.mpr c26
        subst c26
        have H1 : ((customsref21_Required.f a0_0 a0_1 a0_2 l0_3 a2).bind fun bt267 => ((customsref21_Total.f kj18 a0_0 a0_1 a0_2 t263).bind fun t269 => (if (wrap64 (t269 + bt267.1)) > a0_1 then (some (0, 0, 0, ([] : List (S39)), 16)) else ((customsref21_Insert.f kj18 t263 a1 bt267.1).bind fun t270 => (some (a0_0, a0_1, a0_2, t270, 0)))))) = some (r1, r2, r3, r4, r5) := by rw [if_neg (show ¬ (false = true) by decide)] at H; exact H
        clear H
        have H := H1
        clear H1
        replace H := Option.bind_eq_some_iff.mp H
        obtain ⟨⟨t267, t268⟩, A290, H⟩ := H
        replace H : ((customsref21_Total.f kj18 a0_0 a0_1 a0_2 t263).bind fun t269 => (if (wrap64 (t269 + t267)) > a0_1 then (some (0, 0, 0, ([] : List (S39)), 16)) else ((customsref21_Insert.f kj18 t263 a1 t267).bind fun t270 => (some (a0_0, a0_1, a0_2, t270, 0))))) = some (r1, r2, r3, r4, r5) := H
        have A29 := Aside0.mk A290
        clear A290
        replace H := Option.bind_eq_some_iff.mp H
        obtain ⟨t269, A300, H⟩ := H
        replace H : (if (wrap64 (t269 + t267)) > a0_1 then (some (0, 0, 0, ([] : List (S39)), 16)) else ((customsref21_Insert.f kj18 t263 a1 t267).bind fun t270 => (some (a0_0, a0_1, a0_2, t270, 0)))) = some (r1, r2, r3, r4, r5) := H
        have A30 := Aside0.mk A300
        clear A300
        by_cases c31 : (wrap64 (t269 + t267)) > a0_1
        ·rw [if_pos c31] at H
         have c31b0 : decide (a0_1 < (wrap64 (t269 + t267))) = true := decide_eq_true c31
         clear c31
         simp only [Option.some.injEq, Prod.mk.injEq] at H
         obtain ⟨rfl, rfl, rfl, rfl, rfl⟩ := H
         have hnb32 := NB260_261.out
         have hnc32 := NB261_260.out
         obtain ⟨hcz33_0, hcz33_1, hcz33_2, hcz33_3, hfz33_0, hfz33_1, hfz33_2, hfz33_3⟩ := cells4 BK260.out
         try go_wp2_with (first | ((with_reducible refine gate_callee (f := 18) rfl ?_); refine goesL_ (some 53) rfl rfl Try.func18 (by kernel_rfl) rfl #[.agg #[.int .i64 a0_0, .int .i64 a0_1, .int .i64 a0_2, .slice A0_3 l0_3.length c0_3], .int .i64 a2] rfl argx ?_; (with_reducible refine (customsref21_Required.calls a0_0 a0_1 a0_2 _ _ l0_3 a2 t267 t268 _ ?side1 ?side2 A29.out).mono ?_); (case side1 => repeat (first | exact (Kd.C_below HR0_3.out HB.out) | (with_reducible refine Kd.C_alloc ?_ _) | (with_reducible refine Kd.C_drewN ?_ _) | (with_reducible refine Kd.C_drew ?_))); (case side2 => exact HC0_3.out); rintro e w34 ⟨rfl, hb⟩; refine ⟨_, rfl, ?_⟩; have n0_ := Aside0.mk (Kd.R_below (rowx HO_9.out) hb); have n1_ := Aside0.mk (blk_below (g := gb260) (o := .cells #[.int .i64 a0_0, .int .i64 a0_1, .int .i64 a0_2, .slice A0_3 l0_3.length c0_3] 25 (0, 0)) blkx hb); have n2_ := Aside0.mk (blk_below (g := gb261) (o := .cells #[.int .i64 0, .int .i64 0, .int .i64 0, .slice none 0 0] 25 (0, 0)) blkx hb); have n3_ := Aside0.mk (below_step bel hb); clear HO_9; clear BK260; clear BK261; clear HB; have HO_9 := n0_; have BK260 := n1_; have BK261 := n2_; have HB := n3_; clear n0_ n1_ n2_ n3_; (try clear hb); (try clear hb2); (try clear hk); (try clear hi); obtain ⟨Ao35, co35, eo35⟩ := Kd.R_slice HO_9.out; subst eo35; obtain ⟨hcz36_0, hcz36_1, hcz36_2, hcz36_3, hfz36_0, hfz36_1, hfz36_2, hfz36_3⟩ := cells4 BK260.out))
         have n0_ : Aside0 (Kd.R k39 39 (w34.setCell ⟨gb260, 3, none⟩ (.slice Ao35 t263.length co35)) w.heap.size (fun _ => True) (.slice Ao35 t263.length co35) t263) := ⟨by (with_reducible repeat (first | apply Kd.R_alloc | apply Kd.R_drewN | apply Kd.R_drew)); exact Kd.R_mono (Kd.R_far (p := ⟨gb260, 3, none⟩) (Kd.R_types HO_9.out BK260.out (by decide)) (fun _ hk => hk.2) (.slice Ao35 t263.length co35)) (fun _ hk => trivial)⟩
         have n1_ : Aside0 ((w34.setCell ⟨gb260, 3, none⟩ (.slice Ao35 t263.length co35)).heap[gb260]? = some (.cells #[.int .i64 a0_0, .int .i64 a0_1, .int .i64 a0_2, .slice Ao35 t263.length co35] 25 (0, 0))) := ⟨by (with_reducible repeat (first | refine blk_drewN ?_ _ | refine blk_drew ?_ | refine blk_alloc ?_ _)); refine blk_put (cs := #[.int .i64 a0_0, .int .i64 a0_1, .int .i64 a0_2, .slice A0_3 l0_3.length c0_3]) ?_ 3 _ rfl; (with_reducible repeat (first | refine blk_drewN ?_ _ | refine blk_drew ?_ | refine blk_alloc ?_ _)); exact BK260.out⟩
         have n2_ : Aside0 ((w34.setCell ⟨gb260, 3, none⟩ (.slice Ao35 t263.length co35)).heap[gb261]? = some (.cells #[.int .i64 0, .int .i64 0, .int .i64 0, .slice none 0 0] 25 (0, 0))) := ⟨by (with_reducible repeat (first | refine blk_drewN ?_ _ | refine blk_drew ?_ | refine blk_alloc ?_ _)); refine blk_far ?_ NB261_260.out _; (with_reducible repeat (first | refine blk_drewN ?_ _ | refine blk_drew ?_ | refine blk_alloc ?_ _)); exact BK261.out⟩
         have n3_ : Aside0 (Below w.heap.size w (w34.setCell ⟨gb260, 3, none⟩ (.slice Ao35 t263.length co35))) := ⟨bel⟩
         (try clear HO_9)
         (try clear BK260)
         (try clear BK261)
         (try clear HB)
         generalize (w34.setCell ⟨gb260, 3, none⟩ (.slice Ao35 t263.length co35)) = w37 at n0_ n1_ n2_ n3_ ⊢
         have HO_9 := n0_
         have BK260 := n1_
         have BK261 := n2_
         have HB := n3_
         clear n0_ n1_ n2_ n3_
         have n0_ := Aside0.mk (Kd.R_drew HO_9.out)
         have n1_ := Aside0.mk (blk_drew BK260.out)
         have n2_ := Aside0.mk (blk_drew BK261.out)
         have n3_ := Aside0.mk (below_drew1 HB.out)
         clear HO_9
         clear BK260
         clear BK261
         clear HB
         have HO_9 := n0_
         have BK260 := n1_
         have BK261 := n2_
         have HB := n3_
         clear n0_ n1_ n2_ n3_
         refine start_ (n := 7) (S := fun w' => w'.cell? ⟨gb260, 0, none⟩ = some (.int .i64 a0_0) ∧ w'.cell? ⟨gb260, 1, none⟩ = some (.int .i64 a0_1) ∧ w'.cell? ⟨gb260, 2, none⟩ = some (.int .i64 a0_2) ∧ w'.cell? ⟨gb260, 3, none⟩ = some (.slice Ao35 t263.length co35)) (ds := []) #[false, false, false, false, false, false, false] (by kernel_rfl) rfl rfl ⟨(blk_cell BK260.out 0).trans rfl, (blk_cell BK260.out 1).trans rfl, (blk_cell BK260.out 2).trans rfl, (blk_cell BK260.out 3).trans rfl⟩ (fun hHeld => ?_)
         generalize w37.drew = w38 at HO_9 BK260 BK261 HB hHeld ⊢
         refine pure_ (i := 2) (N := some 60) (v := ?_) (a' := ?_) #[false, false, true, false, false, false, false] rfl rfl (by kernel_rfl) (fun _ _ _ h => h) (Or.inl ⟨by rfl, ?_⟩) ?_ ?_
         rotate_left
         ·intro w'
          go_simp
          with_reducible rfl
         rotate_left
         ·simp only [Act.put, List.setIfInBounds_toArray, List.set_cons_zero, List.set_cons_succ, i64_w, i32_w]
          rfl
         refine pure_ (i := 4) (N := some 62) (v := ?_) (a' := ?_) #[false, false, true, false, true, false, false] rfl rfl (by kernel_rfl) (fun _ _ _ h => h) (Or.inl ⟨by rfl, ?_⟩) ?_ ?_
         rotate_left
         ·intro w'
          go_simp
          with_reducible rfl
         rotate_left
         ·simp only [Act.put, List.setIfInBounds_toArray, List.set_cons_zero, List.set_cons_succ, i64_w, i32_w]
          rfl
         refine take_ (i := 0) (N := some 58) (v := ?_) (a' := ?_) #[true, false, true, false, true, false, false] rfl rfl (by kernel_rfl) (fun _ _ _ h => h) (Or.inl ⟨by rfl, ?_⟩) hHeld ?_ ?_
         rotate_left
         ·rintro w' ⟨s0, s1, s2, s3⟩
          go_simp
          with_reducible rfl
         rotate_left
         ·simp only [Act.put, List.setIfInBounds_toArray, List.set_cons_zero, List.set_cons_succ, i64_w, i32_w]
          rfl
         refine take_ (i := 5) (N := some 63) (v := ?_) (a' := ?_) #[true, false, true, false, true, true, false] rfl rfl (by kernel_rfl) (fun _ _ _ h => h) (Or.inl ⟨by rfl, ?_⟩) hHeld ?_ ?_
         rotate_left
         ·rintro w' ⟨s0, s1, s2, s3⟩
          go_simp
          with_reducible rfl
         rotate_left
         ·simp only [Act.put, List.setIfInBounds_toArray, List.set_cons_zero, List.set_cons_succ, i64_w, i32_w]
          rfl
         refine one_ (i := 1) (N := some 59) #[true, true, true, false, true, true, false] rfl rfl (by kernel_rfl) (by decide) (fun K hK => ?_)
         refine goes_ Try.func14 (by kernel_rfl) rfl #[.agg #[.int .i64 a0_0, .int .i64 a0_1, .int .i64 a0_2, .slice Ao35 t263.length co35]] (by rfl) rfl rfl argx ?_
         with_reducible refine (customsref21_Total.calls kj18 a0_0 a0_1 a0_2 _ _ t263 t269 _ ?side1 ?side2 A30.out).mono ?_
         (case side1 => repeat (first | exact (Kd.R_reads' HO_9.out).2.2 | (with_reducible refine Kd.C_alloc ?_ _) | (with_reducible refine Kd.C_drewN ?_ _) | (with_reducible refine Kd.C_drew ?_)))
         (case side2 => exact (Kd.R_reads' HO_9.out).2.1)
         rintro e w39 ⟨rfl, hb⟩
         refine ⟨_, rfl, ?_⟩
         have n0_ := Aside0.mk (Kd.R_below (rowx HO_9.out) hb)
         have n1_ := Aside0.mk (blk_below (g := gb260) (o := .cells #[.int .i64 a0_0, .int .i64 a0_1, .int .i64 a0_2, .slice Ao35 t263.length co35] 25 (0, 0)) blkx hb)
         have n2_ := Aside0.mk (blk_below (g := gb261) (o := .cells #[.int .i64 0, .int .i64 0, .int .i64 0, .slice none 0 0] 25 (0, 0)) blkx hb)
         have n3_ := Aside0.mk (below_step bel hb)
         clear HO_9
         clear BK260
         clear BK261
         clear HB
         have HO_9 := n0_
         have BK260 := n1_
         have BK261 := n2_
         have HB := n3_
         clear n0_ n1_ n2_ n3_
         (try clear hb)
         (try clear hb2)
         (try clear hk)
         (try clear hi)
         refine hK.out _ _ ⟨(blk_cell BK260.out 0).trans rfl, (blk_cell BK260.out 1).trans rfl, (blk_cell BK260.out 2).trans rfl, (blk_cell BK260.out 3).trans rfl⟩ (fun hHeld => ?_)
         clear hK K
         refine norm_ (a' := ?_) ?_ ?_
         rotate_left
         ·show Act.put _ (some 59) _ = _
          simp only [Act.put, List.setIfInBounds_toArray, List.set_cons_zero, List.set_cons_succ, i64_w, i32_w]
          rfl
         refine pure_ (i := 3) (N := some 61) (v := ?_) (a' := ?_) #[true, true, true, true, true, true, false] rfl rfl (by kernel_rfl) (fun _ _ _ h => h) (Or.inl ⟨by rfl, ?_⟩) ?_ ?_
         rotate_left
         ·intro w'
          go_simp
          with_reducible rfl
         rotate_left
         ·simp only [Act.put, List.setIfInBounds_toArray, List.set_cons_zero, List.set_cons_succ, i64_w, i32_w]
          rfl
         refine pure_ (i := 6) (N := some 64) (v := ?_) (a' := ?_) #[true, true, true, true, true, true, true] rfl rfl (by kernel_rfl) (fun _ _ _ h => h) (Or.inl ⟨by rfl, ?_⟩) ?_ ?_
         rotate_left
         ·intro w'
          go_simp
          with_reducible rfl
         rotate_left
         ·simp only [Act.put, List.setIfInBounds_toArray, List.set_cons_zero, List.set_cons_succ, i64_w, i32_w]
          rfl
         refine done_ (by kernel_rfl) ?_
         obtain ⟨hcz40_0, hcz40_1, hcz40_2, hcz40_3, hfz40_0, hfz40_1, hfz40_2, hfz40_3⟩ := cells4 BK261.out
         try go_wp2
         refine bodyPost_ret (results_ct rfl _ _ gb261 25 #[.int .i64 0, .int .i64 0, .int .i64 0, .slice none 0 0] (0, 0) _ rfl (by (with_reducible repeat (first | refine blk_drewN ?_ _ | refine blk_drew ?_ | refine blk_alloc ?_ _)); refine blk_put (cs := #[.int .i64 0, .int .i64 0, .int .i64 0, .slice none 0 0]) ?_ 3 _ rfl; refine blk_put (cs := #[.int .i64 0, .int .i64 0, .int .i64 0, .slice none 0 0]) ?_ 2 _ rfl; refine blk_put (cs := #[.int .i64 0, .int .i64 0, .int .i64 0, .slice none 0 0]) ?_ 1 _ rfl; refine blk_put (cs := #[.int .i64 0, .int .i64 0, .int .i64 0, .slice none 0 0]) ?_ 0 _ rfl; (with_reducible repeat (first | refine blk_drewN ?_ _ | refine blk_drew ?_ | refine blk_alloc ?_ _)); exact BK261.out) Try.underlying25 rfl (by kernel_rfl)) rfl ?_
         exact ⟨_, by first | rfl | (simp [errW_none, errW_some] <;> rfl) | (simp [*, errW_none, errW_some] <;> rfl), by first | exact Kd.R_nil _ _ _ _ _ | exact Kd.N_nil _ _ _ _ _ | exact Kd.V_nil _ _ _ _ _ | exact Kd.Q_nil _ _ _ _ _ | exact Kd.S_nil _ _ _ _ _, bel⟩
        ·rw [if_neg c31] at H
         have c31b0 : decide (a0_1 < (wrap64 (t269 + t267))) = false := decide_eq_false c31
         clear c31
         replace H := Option.bind_eq_some_iff.mp H
         obtain ⟨t270, A410, H⟩ := H
         replace H : (some (a0_0, a0_1, a0_2, t270, 0)) = some (r1, r2, r3, r4, r5) := H
         have A41 := Aside0.mk A410
         clear A410
         simp only [Option.some.injEq, Prod.mk.injEq] at H
         obtain ⟨rfl, rfl, rfl, rfl, rfl⟩ := H
         have hnb42 := NB260_261.out
         have hnc42 := NB261_260.out
         obtain ⟨hcz43_0, hcz43_1, hcz43_2, hcz43_3, hfz43_0, hfz43_1, hfz43_2, hfz43_3⟩ := cells4 BK260.out
         try go_wp2_with (first | ((with_reducible refine gate_callee (f := 18) rfl ?_); refine goesL_ (some 53) rfl rfl Try.func18 (by kernel_rfl) rfl #[.agg #[.int .i64 a0_0, .int .i64 a0_1, .int .i64 a0_2, .slice A0_3 l0_3.length c0_3], .int .i64 a2] rfl argx ?_; (with_reducible refine (customsref21_Required.calls a0_0 a0_1 a0_2 _ _ l0_3 a2 t267 t268 _ ?side1 ?side2 A29.out).mono ?_); (case side1 => repeat (first | exact (Kd.C_below HR0_3.out HB.out) | (with_reducible refine Kd.C_alloc ?_ _) | (with_reducible refine Kd.C_drewN ?_ _) | (with_reducible refine Kd.C_drew ?_))); (case side2 => exact HC0_3.out); rintro e w44 ⟨rfl, hb⟩; refine ⟨_, rfl, ?_⟩; have n0_ := Aside0.mk (Kd.R_below (rowx HO_9.out) hb); have n1_ := Aside0.mk (blk_below (g := gb260) (o := .cells #[.int .i64 a0_0, .int .i64 a0_1, .int .i64 a0_2, .slice A0_3 l0_3.length c0_3] 25 (0, 0)) blkx hb); have n2_ := Aside0.mk (blk_below (g := gb261) (o := .cells #[.int .i64 0, .int .i64 0, .int .i64 0, .slice none 0 0] 25 (0, 0)) blkx hb); have n3_ := Aside0.mk (below_step bel hb); clear HO_9; clear BK260; clear BK261; clear HB; have HO_9 := n0_; have BK260 := n1_; have BK261 := n2_; have HB := n3_; clear n0_ n1_ n2_ n3_; (try clear hb); (try clear hb2); (try clear hk); (try clear hi); obtain ⟨Ao45, co45, eo45⟩ := Kd.R_slice HO_9.out; subst eo45; obtain ⟨hcz46_0, hcz46_1, hcz46_2, hcz46_3, hfz46_0, hfz46_1, hfz46_2, hfz46_3⟩ := cells4 BK260.out))
         have n0_ : Aside0 (Kd.R k39 39 (w44.setCell ⟨gb260, 3, none⟩ (.slice Ao45 t263.length co45)) w.heap.size (fun _ => True) (.slice Ao45 t263.length co45) t263) := ⟨by (with_reducible repeat (first | apply Kd.R_alloc | apply Kd.R_drewN | apply Kd.R_drew)); exact Kd.R_mono (Kd.R_far (p := ⟨gb260, 3, none⟩) (Kd.R_types HO_9.out BK260.out (by decide)) (fun _ hk => hk.2) (.slice Ao45 t263.length co45)) (fun _ hk => trivial)⟩
         have n1_ : Aside0 ((w44.setCell ⟨gb260, 3, none⟩ (.slice Ao45 t263.length co45)).heap[gb260]? = some (.cells #[.int .i64 a0_0, .int .i64 a0_1, .int .i64 a0_2, .slice Ao45 t263.length co45] 25 (0, 0))) := ⟨by (with_reducible repeat (first | refine blk_drewN ?_ _ | refine blk_drew ?_ | refine blk_alloc ?_ _)); refine blk_put (cs := #[.int .i64 a0_0, .int .i64 a0_1, .int .i64 a0_2, .slice A0_3 l0_3.length c0_3]) ?_ 3 _ rfl; (with_reducible repeat (first | refine blk_drewN ?_ _ | refine blk_drew ?_ | refine blk_alloc ?_ _)); exact BK260.out⟩
         have n2_ : Aside0 ((w44.setCell ⟨gb260, 3, none⟩ (.slice Ao45 t263.length co45)).heap[gb261]? = some (.cells #[.int .i64 0, .int .i64 0, .int .i64 0, .slice none 0 0] 25 (0, 0))) := ⟨by (with_reducible repeat (first | refine blk_drewN ?_ _ | refine blk_drew ?_ | refine blk_alloc ?_ _)); refine blk_far ?_ NB261_260.out _; (with_reducible repeat (first | refine blk_drewN ?_ _ | refine blk_drew ?_ | refine blk_alloc ?_ _)); exact BK261.out⟩
         have n3_ : Aside0 (Below w.heap.size w (w44.setCell ⟨gb260, 3, none⟩ (.slice Ao45 t263.length co45))) := ⟨bel⟩
         (try clear HO_9)
         (try clear BK260)
         (try clear BK261)
         (try clear HB)
         generalize (w44.setCell ⟨gb260, 3, none⟩ (.slice Ao45 t263.length co45)) = w47 at n0_ n1_ n2_ n3_ ⊢
         have HO_9 := n0_
         have BK260 := n1_
         have BK261 := n2_
         have HB := n3_
         clear n0_ n1_ n2_ n3_
         have n0_ := Aside0.mk (Kd.R_drew HO_9.out)
         have n1_ := Aside0.mk (blk_drew BK260.out)
         have n2_ := Aside0.mk (blk_drew BK261.out)
         have n3_ := Aside0.mk (below_drew1 HB.out)
         clear HO_9
         clear BK260
         clear BK261
         clear HB
         have HO_9 := n0_
         have BK260 := n1_
         have BK261 := n2_
         have HB := n3_
         clear n0_ n1_ n2_ n3_
         refine start_ (n := 7) (S := fun w' => w'.cell? ⟨gb260, 0, none⟩ = some (.int .i64 a0_0) ∧ w'.cell? ⟨gb260, 1, none⟩ = some (.int .i64 a0_1) ∧ w'.cell? ⟨gb260, 2, none⟩ = some (.int .i64 a0_2) ∧ w'.cell? ⟨gb260, 3, none⟩ = some (.slice Ao45 t263.length co45)) (ds := []) #[false, false, false, false, false, false, false] (by kernel_rfl) rfl rfl ⟨(blk_cell BK260.out 0).trans rfl, (blk_cell BK260.out 1).trans rfl, (blk_cell BK260.out 2).trans rfl, (blk_cell BK260.out 3).trans rfl⟩ (fun hHeld => ?_)
         generalize w47.drew = w48 at HO_9 BK260 BK261 HB hHeld ⊢
         refine pure_ (i := 2) (N := some 60) (v := ?_) (a' := ?_) #[false, false, true, false, false, false, false] rfl rfl (by kernel_rfl) (fun _ _ _ h => h) (Or.inl ⟨by rfl, ?_⟩) ?_ ?_
         rotate_left
         ·intro w'
          go_simp
          with_reducible rfl
         rotate_left
         ·simp only [Act.put, List.setIfInBounds_toArray, List.set_cons_zero, List.set_cons_succ, i64_w, i32_w]
          rfl
         refine pure_ (i := 4) (N := some 62) (v := ?_) (a' := ?_) #[false, false, true, false, true, false, false] rfl rfl (by kernel_rfl) (fun _ _ _ h => h) (Or.inl ⟨by rfl, ?_⟩) ?_ ?_
         rotate_left
         ·intro w'
          go_simp
          with_reducible rfl
         rotate_left
         ·simp only [Act.put, List.setIfInBounds_toArray, List.set_cons_zero, List.set_cons_succ, i64_w, i32_w]
          rfl
         refine take_ (i := 0) (N := some 58) (v := ?_) (a' := ?_) #[true, false, true, false, true, false, false] rfl rfl (by kernel_rfl) (fun _ _ _ h => h) (Or.inl ⟨by rfl, ?_⟩) hHeld ?_ ?_
         rotate_left
         ·rintro w' ⟨s0, s1, s2, s3⟩
          go_simp
          with_reducible rfl
         rotate_left
         ·simp only [Act.put, List.setIfInBounds_toArray, List.set_cons_zero, List.set_cons_succ, i64_w, i32_w]
          rfl
         refine take_ (i := 5) (N := some 63) (v := ?_) (a' := ?_) #[true, false, true, false, true, true, false] rfl rfl (by kernel_rfl) (fun _ _ _ h => h) (Or.inl ⟨by rfl, ?_⟩) hHeld ?_ ?_
         rotate_left
         ·rintro w' ⟨s0, s1, s2, s3⟩
          go_simp
          with_reducible rfl
         rotate_left
         ·simp only [Act.put, List.setIfInBounds_toArray, List.set_cons_zero, List.set_cons_succ, i64_w, i32_w]
          rfl
         refine one_ (i := 1) (N := some 59) #[true, true, true, false, true, true, false] rfl rfl (by kernel_rfl) (by decide) (fun K hK => ?_)
         refine goes_ Try.func14 (by kernel_rfl) rfl #[.agg #[.int .i64 a0_0, .int .i64 a0_1, .int .i64 a0_2, .slice Ao45 t263.length co45]] (by rfl) rfl rfl argx ?_
         with_reducible refine (customsref21_Total.calls kj18 a0_0 a0_1 a0_2 _ _ t263 t269 _ ?side1 ?side2 A30.out).mono ?_
         (case side1 => repeat (first | exact (Kd.R_reads' HO_9.out).2.2 | (with_reducible refine Kd.C_alloc ?_ _) | (with_reducible refine Kd.C_drewN ?_ _) | (with_reducible refine Kd.C_drew ?_)))
         (case side2 => exact (Kd.R_reads' HO_9.out).2.1)
         rintro e w49 ⟨rfl, hb⟩
         refine ⟨_, rfl, ?_⟩
         have n0_ := Aside0.mk (Kd.R_below (rowx HO_9.out) hb)
         have n1_ := Aside0.mk (blk_below (g := gb260) (o := .cells #[.int .i64 a0_0, .int .i64 a0_1, .int .i64 a0_2, .slice Ao45 t263.length co45] 25 (0, 0)) blkx hb)
         have n2_ := Aside0.mk (blk_below (g := gb261) (o := .cells #[.int .i64 0, .int .i64 0, .int .i64 0, .slice none 0 0] 25 (0, 0)) blkx hb)
         have n3_ := Aside0.mk (below_step bel hb)
         clear HO_9
         clear BK260
         clear BK261
         clear HB
         have HO_9 := n0_
         have BK260 := n1_
         have BK261 := n2_
         have HB := n3_
         clear n0_ n1_ n2_ n3_
         (try clear hb)
         (try clear hb2)
         (try clear hk)
         (try clear hi)
         refine hK.out _ _ ⟨(blk_cell BK260.out 0).trans rfl, (blk_cell BK260.out 1).trans rfl, (blk_cell BK260.out 2).trans rfl, (blk_cell BK260.out 3).trans rfl⟩ (fun hHeld => ?_)
         clear hK K
         refine norm_ (a' := ?_) ?_ ?_
         rotate_left
         ·show Act.put _ (some 59) _ = _
          simp only [Act.put, List.setIfInBounds_toArray, List.set_cons_zero, List.set_cons_succ, i64_w, i32_w]
          rfl
         refine pure_ (i := 3) (N := some 61) (v := ?_) (a' := ?_) #[true, true, true, true, true, true, false] rfl rfl (by kernel_rfl) (fun _ _ _ h => h) (Or.inl ⟨by rfl, ?_⟩) ?_ ?_
         rotate_left
         ·intro w'
          go_simp
          with_reducible rfl
         rotate_left
         ·simp only [Act.put, List.setIfInBounds_toArray, List.set_cons_zero, List.set_cons_succ, i64_w, i32_w]
          rfl
         refine pure_ (i := 6) (N := some 64) (v := ?_) (a' := ?_) #[true, true, true, true, true, true, true] rfl rfl (by kernel_rfl) (fun _ _ _ h => h) (Or.inl ⟨by rfl, ?_⟩) ?_ ?_
         rotate_left
         ·intro w'
          go_simp
          with_reducible rfl
         rotate_left
         ·simp only [Act.put, List.setIfInBounds_toArray, List.set_cons_zero, List.set_cons_succ, i64_w, i32_w]
          rfl
         refine done_ (by kernel_rfl) ?_
         try go_wp2_with (first | ((with_reducible refine gate_callee (f := 43) rfl ?_); refine goesL_ (some 70) rfl rfl Try.func43 (by kernel_rfl) rfl #[.slice Ao45 t263.length co45, .agg #[.int .i64 a1, .int .i64 t267]] rfl argx ?_; (with_reducible refine (customsref21_Insert.calls kj18 _ _ t263 a1 t267 t270 _ ?side1 ?side2 A41.out).mono ?_); (case side1 => repeat (first | exact (Kd.R_reads' HO_9.out).2.2 | (with_reducible refine Kd.C_alloc ?_ _) | (with_reducible refine Kd.C_drewN ?_ _) | (with_reducible refine Kd.C_drew ?_))); (case side2 => exact (Kd.R_reads' HO_9.out).2.1); rintro e w50 ⟨v271, rfl, ho0, hb⟩; refine ⟨_, rfl, ?_⟩; have n1_ := Aside0.mk (Kd.R_lower (Kd.R_new' ho0 (Kd.R_lt (rowx HO_9.out))) (below_size bel)); have n2_ := Aside0.mk (blk_below (g := gb260) (o := .cells #[.int .i64 a0_0, .int .i64 a0_1, .int .i64 a0_2, .slice Ao45 t263.length co45] 25 (0, 0)) blkx hb); have n3_ := Aside0.mk (blk_below (g := gb261) (o := .cells #[.int .i64 0, .int .i64 0, .int .i64 0, .slice none 0 0] 25 (0, 0)) blkx hb); have n4_ := Aside0.mk (below_step bel hb); (try clear HO_9); clear BK260; clear BK261; clear HB; have HO272 := n1_; have BK260 := n2_; have BK261 := n3_; have HB := n4_; clear n1_ n2_ n3_ n4_; (try clear hb); (try clear hb2); (try clear hk); (try clear hi); (try clear ho0); obtain ⟨Ao51, co51, eo51⟩ := Kd.R_slice HO272.out; subst eo51; obtain ⟨hcz52_0, hcz52_1, hcz52_2, hcz52_3, hfz52_0, hfz52_1, hfz52_2, hfz52_3⟩ := cells4 BK260.out; obtain ⟨hcz53_0, hcz53_1, hcz53_2, hcz53_3, hfz53_0, hfz53_1, hfz53_2, hfz53_3⟩ := cells4 BK261.out))
         refine bodyPost_ret (results_ct rfl _ _ gb261 25 #[.int .i64 a0_0, .int .i64 a0_1, .int .i64 a0_2, .slice Ao51 t270.length co51] (0, 0) _ rfl (by (with_reducible repeat (first | refine blk_drewN ?_ _ | refine blk_drew ?_ | refine blk_alloc ?_ _)); refine blk_put (cs := #[.int .i64 a0_0, .int .i64 a0_1, .int .i64 a0_2, .slice none 0 0]) ?_ 3 _ rfl; refine blk_put (cs := #[.int .i64 a0_0, .int .i64 a0_1, .int .i64 0, .slice none 0 0]) ?_ 2 _ rfl; refine blk_put (cs := #[.int .i64 a0_0, .int .i64 0, .int .i64 0, .slice none 0 0]) ?_ 1 _ rfl; refine blk_put (cs := #[.int .i64 0, .int .i64 0, .int .i64 0, .slice none 0 0]) ?_ 0 _ rfl; refine blk_far ?_ NB261_260.out _; (with_reducible repeat (first | refine blk_drewN ?_ _ | refine blk_drew ?_ | refine blk_alloc ?_ _)); exact BK261.out) Try.underlying25 rfl (by kernel_rfl)) rfl ?_
         exact ⟨_, by first | rfl | (simp [errW_none, errW_some] <;> rfl) | (simp [*, errW_none, errW_some] <;> rfl), by (with_reducible repeat (first | apply Kd.R_alloc | apply Kd.R_drewN | apply Kd.R_drew)); exact Kd.R_mono (Kd.R_far (p := ⟨gb261, 3, none⟩) (Kd.R_far (p := ⟨gb261, 2, none⟩) (Kd.R_far (p := ⟨gb261, 1, none⟩) (Kd.R_far (p := ⟨gb261, 0, none⟩) (Kd.R_far (p := ⟨gb260, 3, none⟩) (Kd.R_types (Kd.R_types HO272.out BK260.out (by decide)) BK261.out (by decide)) (fun _ hk => hk.1.2) (.slice Ao51 t270.length co51)) (fun _ hk => hk.2) (.int .i64 a0_0)) (fun _ hk => hk.2) (.int .i64 a0_1)) (fun _ hk => hk.2) (.int .i64 a0_2)) (fun _ hk => hk.2) (.slice Ao51 t270.length co51)) (fun _ hk => trivial), bel⟩
 ·rw [if_neg c5] at H
  have c5b0 : (t262 == 0) = false := beq_eq_false_iff_ne.mpr c5
  have c5b1 : (t262 != 0) = true := bne_iff_ne.mpr c5
  simp only [Option.some.injEq, Prod.mk.injEq] at H
  obtain ⟨rfl, rfl, rfl, rfl, rfl⟩ := H
  go_enter Try.func22, Try.ntmps22
  go_wp2_with (first | ((with_reducible refine gate_dst (N := 3) rfl ?_); refine box_event ?hg (N := 3) ?hd (cs := #[.int .i64 a0_0, .int .i64 a0_1, .int .i64 a0_2, .slice A0_3 l0_3.length c0_3]) (t := 25) ?hr ?_; (case hd => rfl); (case hg => rfl); (case hr => first | (go_simp; done) | (go_simp; rfl)); intro gb260 hg w54 hbox hb; have qb_ := below_both bel hb; have n0_ := Aside0.mk (qb_.1); have n1_ := Aside0.mk (hbox); have n3_ := Aside0.mk ((by rw [hg]; exact qb_.2 : w.heap.size ≤ gb260)); clear HB; have HB := n0_; have BK260 := n1_; have GE260 := n3_; clear qb_; clear n0_ n1_ n3_; clear hb hbox hg) | ((with_reducible refine gate_dst (N := 6) rfl ?_); refine box_event ?hg (N := 6) ?hd (cs := #[.int .i64 0, .int .i64 0, .int .i64 0, .slice none 0 0]) (t := 25) ?hr ?_; (case hd => rfl); (case hg => rfl); (case hr => first | (go_simp; done) | (go_simp; rfl)); intro gb261 hg w55 hbox hb; have qb_ := below_both bel hb; have q1_ := blk_below2 (g := gb260) (o := .cells #[.int .i64 a0_0, .int .i64 a0_1, .int .i64 a0_2, .slice A0_3 l0_3.length c0_3] 25 (0, 0)) blkx hb; have n0_ := Aside0.mk (q1_.1); have n1_ := Aside0.mk (qb_.1); have n2_ := Aside0.mk (hbox); have n4_ := Aside0.mk ((by rw [hg]; exact qb_.2 : w.heap.size ≤ gb261)); have n5_ := Aside0.mk ((by rw [hg]; exact Nat.ne_of_lt q1_.2 : gb260 ≠ gb261)); have n6_ := Aside0.mk (Ne.symm n5_.out); clear BK260; clear HB; have BK260 := n0_; have HB := n1_; have BK261 := n2_; have GE261 := n4_; have NB260_261 := n5_; have NB261_260 := n6_; clear q1_; clear qb_; clear n0_ n1_ n2_ n4_ n5_ n6_; clear hb hbox hg; have hnb56 := NB260_261.out; have hnc56 := NB261_260.out; obtain ⟨hcz57_0, hcz57_1, hcz57_2, hcz57_3, hfz57_0, hfz57_1, hfz57_2, hfz57_3⟩ := cells4 BK260.out) | ((with_reducible refine gate_callee (f := 12) rfl ?_); refine goesL_ (some 14) rfl rfl Try.func12 (by kernel_rfl) rfl #[.agg #[.int .i64 a0_0, .int .i64 a0_1, .int .i64 a0_2, .slice A0_3 l0_3.length c0_3]] rfl argx ?_; (with_reducible refine (customsref21_ValidGuarantee.calls k a0_0 a0_1 a0_2 _ _ l0_3 t262 _ ?side1 ?side2 A4.out).mono ?_); (case side1 => repeat (first | exact (Kd.C_below HR0_3.out HB.out) | (with_reducible refine Kd.C_alloc ?_ _) | (with_reducible refine Kd.C_drewN ?_ _) | (with_reducible refine Kd.C_drew ?_))); (case side2 => exact HC0_3.out); rintro e w58 ⟨rfl, hb⟩; refine ⟨_, rfl, ?_⟩; have n1_ := Aside0.mk (blk_below (g := gb261) (o := .cells #[.int .i64 0, .int .i64 0, .int .i64 0, .slice none 0 0] 25 (0, 0)) blkx hb); have n2_ := Aside0.mk (below_step bel hb); (try clear BK260); clear BK261; clear HB; have BK261 := n1_; have HB := n2_; clear n1_ n2_; (try clear hb); (try clear hb2); (try clear hk); (try clear hi); obtain ⟨hcz59_0, hcz59_1, hcz59_2, hcz59_3, hfz59_0, hfz59_1, hfz59_2, hfz59_3⟩ := cells4 BK261.out))
  refine bodyPost_ret (results_ct rfl _ _ gb261 25 #[.int .i64 0, .int .i64 0, .int .i64 0, .slice none 0 0] (0, 0) _ rfl (by (with_reducible repeat (first | refine blk_drewN ?_ _ | refine blk_drew ?_ | refine blk_alloc ?_ _)); refine blk_put (cs := #[.int .i64 0, .int .i64 0, .int .i64 0, .slice none 0 0]) ?_ 3 _ rfl; refine blk_put (cs := #[.int .i64 0, .int .i64 0, .int .i64 0, .slice none 0 0]) ?_ 2 _ rfl; refine blk_put (cs := #[.int .i64 0, .int .i64 0, .int .i64 0, .slice none 0 0]) ?_ 1 _ rfl; refine blk_put (cs := #[.int .i64 0, .int .i64 0, .int .i64 0, .slice none 0 0]) ?_ 0 _ rfl; (with_reducible repeat (first | refine blk_drewN ?_ _ | refine blk_drew ?_ | refine blk_alloc ?_ _)); exact BK261.out) Try.underlying25 rfl (by kernel_rfl)) rfl ?_
  exact ⟨_, by first | rfl | (simp [errW_none, errW_some] <;> rfl) | (simp [*, errW_none, errW_some] <;> rfl), by first | exact Kd.R_nil _ _ _ _ _ | exact Kd.N_nil _ _ _ _ _ | exact Kd.V_nil _ _ _ _ _ | exact Kd.Q_nil _ _ _ _ _ | exact Kd.S_nil _ _ _ _ _, bel⟩
def customsref21_Release.f (k : Nat) (a0_0 : Int) (a0_1 : Int) (a0_2 : Int) (l0_3 : List (S39)) (a1 : Int) : Option (Int × Int × Int × (List (S39)) × Int) := (customsref21_ValidGuarantee.f k a0_0 a0_1 a0_2 l0_3).bind fun t275 => (if t275 = 0 then ((customsref21_without.f k l0_3 a1).bind fun bt276 => (if bt276.2 < 0 then (some (0, 0, 0, ([] : List (S39)), 6)) else (some (a0_0, a0_1, a0_2, bt276.1, 0)))) else (some (0, 0, 0, ([] : List (S39)), t275)))
set_option maxHeartbeats 8000000 in
set_option maxRecDepth 100000 in
theorem customsref21_Release.calls (k : Nat) (a0_0 : Int) (a0_1 : Int) (a0_2 : Int) (A0_3 : Option Addr) (c0_3 : Nat) (l0_3 : List (S39)) (a1 : Int) (r1 : Int) (r2 : Int) (r3 : Int) (r4 : List (S39)) (r5 : Int) (w : World) (hr0_3 : Kd.C k39 w A0_3 l0_3.length l0_3) (hc0_3 : l0_3.length ≤ c0_3) (h : customsref21_Release.f k a0_0 a0_1 a0_2 l0_3 a1 = some (r1, r2, r3, r4, r5)) :
  Calls Try.prog 23 #[.agg #[.int .i64 a0_0, .int .i64 a0_1, .int .i64 a0_2, .slice A0_3 l0_3.length c0_3], .int .i64 a1] w fun e w' => ∃ v3_ : Value, e = .returned (.tuple #[.agg #[.int .i64 r1, .int .i64 r2, .int .i64 r3, v3_], .int .i64 r5]) ∧ Kd.R k39 39 w' w.heap.size (fun _ => True) v3_ r4 ∧ Below w.heap.size w w' := by
 have hu25 := Try.underlying25
 have HR0_3 := Aside0.mk hr0_3
 have HC0_3 := Aside0.mk hc0_3
 clear hr0_3 hc0_3
 have HB := Aside0.mk (Below.refl w.heap.size w)
 have H : ((customsref21_ValidGuarantee.f k a0_0 a0_1 a0_2 l0_3).bind fun t275 => (if t275 = 0 then ((customsref21_without.f k l0_3 a1).bind fun bt276 => (if bt276.2 < 0 then (some (0, 0, 0, ([] : List (S39)), 6)) else (some (a0_0, a0_1, a0_2, bt276.1, 0)))) else (some (0, 0, 0, ([] : List (S39)), t275)))) = some (r1, r2, r3, r4, r5) := h
 clear h
 replace H := Option.bind_eq_some_iff.mp H
 obtain ⟨t275, A30, H⟩ := H
 replace H : (if t275 = 0 then ((customsref21_without.f k l0_3 a1).bind fun bt276 => (if bt276.2 < 0 then (some (0, 0, 0, ([] : List (S39)), 6)) else (some (a0_0, a0_1, a0_2, bt276.1, 0)))) else (some (0, 0, 0, ([] : List (S39)), t275))) = some (r1, r2, r3, r4, r5) := H
 have A3 := Aside0.mk A30
 clear A30
 by_cases c4 : t275 = 0
 ·rw [if_pos c4] at H
  have c4b0 : (t275 == 0) = true := beq_iff_eq.mpr c4
  have c4b1 : (t275 != 0) = false := bne_eq_false_iff_eq.mpr c4
  clear c4
  replace H := Option.bind_eq_some_iff.mp H
  obtain ⟨⟨t276, t277⟩, A50, H⟩ := H
  replace H : (if t277 < 0 then (some (0, 0, 0, ([] : List (S39)), 6)) else (some (a0_0, a0_1, a0_2, t276, 0))) = some (r1, r2, r3, r4, r5) := H
  have A5 := Aside0.mk A50
  clear A50
  by_cases c6 : t277 < 0
  ·rw [if_pos c6] at H
   have c6b0 : decide (t277 < 0) = true := decide_eq_true c6
   clear c6
   simp only [Option.some.injEq, Prod.mk.injEq] at H
   obtain ⟨rfl, rfl, rfl, rfl, rfl⟩ := H
   go_enter Try.func23, Try.ntmps23
   go_wp2_with (first | ((with_reducible refine gate_dst (N := 2) rfl ?_); refine box_event ?hg (N := 2) ?hd (cs := #[.int .i64 a0_0, .int .i64 a0_1, .int .i64 a0_2, .slice A0_3 l0_3.length c0_3]) (t := 25) ?hr ?_; (case hd => rfl); (case hg => rfl); (case hr => first | (go_simp; done) | (go_simp; rfl)); intro gb273 hg w7 hbox hb; have qb_ := below_both bel hb; have n0_ := Aside0.mk (qb_.1); have n1_ := Aside0.mk (hbox); have n3_ := Aside0.mk ((by rw [hg]; exact qb_.2 : w.heap.size ≤ gb273)); clear HB; have HB := n0_; have BK273 := n1_; have GE273 := n3_; clear qb_; clear n0_ n1_ n3_; clear hb hbox hg) | ((with_reducible refine gate_dst (N := 4) rfl ?_); refine box_event ?hg (N := 4) ?hd (cs := #[.int .i64 0, .int .i64 0, .int .i64 0, .slice none 0 0]) (t := 25) ?hr ?_; (case hd => rfl); (case hg => rfl); (case hr => first | (go_simp; done) | (go_simp; rfl)); intro gb274 hg w8 hbox hb; have qb_ := below_both bel hb; have q1_ := blk_below2 (g := gb273) (o := .cells #[.int .i64 a0_0, .int .i64 a0_1, .int .i64 a0_2, .slice A0_3 l0_3.length c0_3] 25 (0, 0)) blkx hb; have n0_ := Aside0.mk (q1_.1); have n1_ := Aside0.mk (qb_.1); have n2_ := Aside0.mk (hbox); have n4_ := Aside0.mk ((by rw [hg]; exact qb_.2 : w.heap.size ≤ gb274)); have n5_ := Aside0.mk ((by rw [hg]; exact Nat.ne_of_lt q1_.2 : gb273 ≠ gb274)); have n6_ := Aside0.mk (Ne.symm n5_.out); clear BK273; clear HB; have BK273 := n0_; have HB := n1_; have BK274 := n2_; have GE274 := n4_; have NB273_274 := n5_; have NB274_273 := n6_; clear q1_; clear qb_; clear n0_ n1_ n2_ n4_ n5_ n6_; clear hb hbox hg; have hnb9 := NB273_274.out; have hnc9 := NB274_273.out; obtain ⟨hcz10_0, hcz10_1, hcz10_2, hcz10_3, hfz10_0, hfz10_1, hfz10_2, hfz10_3⟩ := cells4 BK273.out) | ((with_reducible refine gate_callee (f := 12) rfl ?_); refine goesL_ (some 10) rfl rfl Try.func12 (by kernel_rfl) rfl #[.agg #[.int .i64 a0_0, .int .i64 a0_1, .int .i64 a0_2, .slice A0_3 l0_3.length c0_3]] rfl argx ?_; (with_reducible refine (customsref21_ValidGuarantee.calls k a0_0 a0_1 a0_2 _ _ l0_3 t275 _ ?side1 ?side2 A3.out).mono ?_); (case side1 => repeat (first | exact (Kd.C_below HR0_3.out HB.out) | (with_reducible refine Kd.C_alloc ?_ _) | (with_reducible refine Kd.C_drewN ?_ _) | (with_reducible refine Kd.C_drew ?_))); (case side2 => exact HC0_3.out); rintro e w11 ⟨rfl, hb⟩; refine ⟨_, rfl, ?_⟩; have n0_ := Aside0.mk (blk_below (g := gb273) (o := .cells #[.int .i64 a0_0, .int .i64 a0_1, .int .i64 a0_2, .slice A0_3 l0_3.length c0_3] 25 (0, 0)) blkx hb); have n1_ := Aside0.mk (blk_below (g := gb274) (o := .cells #[.int .i64 0, .int .i64 0, .int .i64 0, .slice none 0 0] 25 (0, 0)) blkx hb); have n2_ := Aside0.mk (below_step bel hb); clear BK273; clear BK274; clear HB; have BK273 := n0_; have BK274 := n1_; have HB := n2_; clear n0_ n1_ n2_; (try clear hb); (try clear hb2); (try clear hk); (try clear hi); obtain ⟨hcz12_0, hcz12_1, hcz12_2, hcz12_3, hfz12_0, hfz12_1, hfz12_2, hfz12_3⟩ := cells4 BK273.out) | ((with_reducible refine gate_callee (f := 42) rfl ?_); refine goesL_ (some 19) rfl rfl Try.func42 (by kernel_rfl) rfl #[.slice A0_3 l0_3.length c0_3, .int .i64 a1] rfl argx ?_; (with_reducible refine (customsref21_without.calls k _ _ l0_3 a1 t276 t277 _ ?side1 ?side2 A5.out).mono ?_); (case side1 => repeat (first | exact (Kd.C_below HR0_3.out HB.out) | (with_reducible refine Kd.C_alloc ?_ _) | (with_reducible refine Kd.C_drewN ?_ _) | (with_reducible refine Kd.C_drew ?_))); (case side2 => exact HC0_3.out); rintro e w13 ⟨v278, rfl, ho0, hb⟩; refine ⟨_, rfl, ?_⟩; have n2_ := Aside0.mk (blk_below (g := gb274) (o := .cells #[.int .i64 0, .int .i64 0, .int .i64 0, .slice none 0 0] 25 (0, 0)) blkx hb); have n3_ := Aside0.mk (below_step bel hb); (try clear BK273); clear BK274; clear HB; have BK274 := n2_; have HB := n3_; clear n2_ n3_; (try clear hb); (try clear hb2); (try clear hk); (try clear hi); (try clear ho0); obtain ⟨hcz14_0, hcz14_1, hcz14_2, hcz14_3, hfz14_0, hfz14_1, hfz14_2, hfz14_3⟩ := cells4 BK274.out))
   refine bodyPost_ret (results_ct rfl _ _ gb274 25 #[.int .i64 0, .int .i64 0, .int .i64 0, .slice none 0 0] (0, 0) _ rfl (by (with_reducible repeat (first | refine blk_drewN ?_ _ | refine blk_drew ?_ | refine blk_alloc ?_ _)); refine blk_put (cs := #[.int .i64 0, .int .i64 0, .int .i64 0, .slice none 0 0]) ?_ 3 _ rfl; refine blk_put (cs := #[.int .i64 0, .int .i64 0, .int .i64 0, .slice none 0 0]) ?_ 2 _ rfl; refine blk_put (cs := #[.int .i64 0, .int .i64 0, .int .i64 0, .slice none 0 0]) ?_ 1 _ rfl; refine blk_put (cs := #[.int .i64 0, .int .i64 0, .int .i64 0, .slice none 0 0]) ?_ 0 _ rfl; (with_reducible repeat (first | refine blk_drewN ?_ _ | refine blk_drew ?_ | refine blk_alloc ?_ _)); exact BK274.out) Try.underlying25 rfl (by kernel_rfl)) rfl ?_
   exact ⟨_, by first | rfl | (simp [errW_none, errW_some] <;> rfl) | (simp [*, errW_none, errW_some] <;> rfl), by first | exact Kd.R_nil _ _ _ _ _ | exact Kd.N_nil _ _ _ _ _ | exact Kd.V_nil _ _ _ _ _ | exact Kd.Q_nil _ _ _ _ _ | exact Kd.S_nil _ _ _ _ _, bel⟩
  ·rw [if_neg c6] at H
   have c6b0 : decide (t277 < 0) = false := decide_eq_false c6
   clear c6
   simp only [Option.some.injEq, Prod.mk.injEq] at H
   obtain ⟨rfl, rfl, rfl, rfl, rfl⟩ := H
   go_enter Try.func23, Try.ntmps23
   go_wp2_with (first | ((with_reducible refine gate_dst (N := 2) rfl ?_); refine box_event ?hg (N := 2) ?hd (cs := #[.int .i64 a0_0, .int .i64 a0_1, .int .i64 a0_2, .slice A0_3 l0_3.length c0_3]) (t := 25) ?hr ?_; (case hd => rfl); (case hg => rfl); (case hr => first | (go_simp; done) | (go_simp; rfl)); intro gb273 hg w15 hbox hb; have qb_ := below_both bel hb; have n0_ := Aside0.mk (qb_.1); have n1_ := Aside0.mk (hbox); have n3_ := Aside0.mk ((by rw [hg]; exact qb_.2 : w.heap.size ≤ gb273)); clear HB; have HB := n0_; have BK273 := n1_; have GE273 := n3_; clear qb_; clear n0_ n1_ n3_; clear hb hbox hg) | ((with_reducible refine gate_dst (N := 4) rfl ?_); refine box_event ?hg (N := 4) ?hd (cs := #[.int .i64 0, .int .i64 0, .int .i64 0, .slice none 0 0]) (t := 25) ?hr ?_; (case hd => rfl); (case hg => rfl); (case hr => first | (go_simp; done) | (go_simp; rfl)); intro gb274 hg w16 hbox hb; have qb_ := below_both bel hb; have q1_ := blk_below2 (g := gb273) (o := .cells #[.int .i64 a0_0, .int .i64 a0_1, .int .i64 a0_2, .slice A0_3 l0_3.length c0_3] 25 (0, 0)) blkx hb; have n0_ := Aside0.mk (q1_.1); have n1_ := Aside0.mk (qb_.1); have n2_ := Aside0.mk (hbox); have n4_ := Aside0.mk ((by rw [hg]; exact qb_.2 : w.heap.size ≤ gb274)); have n5_ := Aside0.mk ((by rw [hg]; exact Nat.ne_of_lt q1_.2 : gb273 ≠ gb274)); have n6_ := Aside0.mk (Ne.symm n5_.out); clear BK273; clear HB; have BK273 := n0_; have HB := n1_; have BK274 := n2_; have GE274 := n4_; have NB273_274 := n5_; have NB274_273 := n6_; clear q1_; clear qb_; clear n0_ n1_ n2_ n4_ n5_ n6_; clear hb hbox hg; have hnb17 := NB273_274.out; have hnc17 := NB274_273.out; obtain ⟨hcz18_0, hcz18_1, hcz18_2, hcz18_3, hfz18_0, hfz18_1, hfz18_2, hfz18_3⟩ := cells4 BK273.out) | ((with_reducible refine gate_callee (f := 12) rfl ?_); refine goesL_ (some 10) rfl rfl Try.func12 (by kernel_rfl) rfl #[.agg #[.int .i64 a0_0, .int .i64 a0_1, .int .i64 a0_2, .slice A0_3 l0_3.length c0_3]] rfl argx ?_; (with_reducible refine (customsref21_ValidGuarantee.calls k a0_0 a0_1 a0_2 _ _ l0_3 t275 _ ?side1 ?side2 A3.out).mono ?_); (case side1 => repeat (first | exact (Kd.C_below HR0_3.out HB.out) | (with_reducible refine Kd.C_alloc ?_ _) | (with_reducible refine Kd.C_drewN ?_ _) | (with_reducible refine Kd.C_drew ?_))); (case side2 => exact HC0_3.out); rintro e w19 ⟨rfl, hb⟩; refine ⟨_, rfl, ?_⟩; have n0_ := Aside0.mk (blk_below (g := gb273) (o := .cells #[.int .i64 a0_0, .int .i64 a0_1, .int .i64 a0_2, .slice A0_3 l0_3.length c0_3] 25 (0, 0)) blkx hb); have n1_ := Aside0.mk (blk_below (g := gb274) (o := .cells #[.int .i64 0, .int .i64 0, .int .i64 0, .slice none 0 0] 25 (0, 0)) blkx hb); have n2_ := Aside0.mk (below_step bel hb); clear BK273; clear BK274; clear HB; have BK273 := n0_; have BK274 := n1_; have HB := n2_; clear n0_ n1_ n2_; (try clear hb); (try clear hb2); (try clear hk); (try clear hi); obtain ⟨hcz20_0, hcz20_1, hcz20_2, hcz20_3, hfz20_0, hfz20_1, hfz20_2, hfz20_3⟩ := cells4 BK273.out) | ((with_reducible refine gate_callee (f := 42) rfl ?_); refine goesL_ (some 19) rfl rfl Try.func42 (by kernel_rfl) rfl #[.slice A0_3 l0_3.length c0_3, .int .i64 a1] rfl argx ?_; (with_reducible refine (customsref21_without.calls k _ _ l0_3 a1 t276 t277 _ ?side1 ?side2 A5.out).mono ?_); (case side1 => repeat (first | exact (Kd.C_below HR0_3.out HB.out) | (with_reducible refine Kd.C_alloc ?_ _) | (with_reducible refine Kd.C_drewN ?_ _) | (with_reducible refine Kd.C_drew ?_))); (case side2 => exact HC0_3.out); rintro e w21 ⟨v278, rfl, ho0, hb⟩; refine ⟨_, rfl, ?_⟩; have qb_ := below_both bel hb; have n0_ := Aside0.mk (Kd.R_lower ho0 qb_.2); have n1_ := Aside0.mk (blk_below (g := gb273) (o := .cells #[.int .i64 a0_0, .int .i64 a0_1, .int .i64 a0_2, .slice A0_3 l0_3.length c0_3] 25 (0, 0)) blkx hb); have n2_ := Aside0.mk (blk_below (g := gb274) (o := .cells #[.int .i64 0, .int .i64 0, .int .i64 0, .slice none 0 0] 25 (0, 0)) blkx hb); have n3_ := Aside0.mk (qb_.1); clear BK273; clear BK274; clear HB; have HO279 := n0_; have BK273 := n1_; have BK274 := n2_; have HB := n3_; clear qb_; clear n0_ n1_ n2_ n3_; (try clear hb); (try clear hb2); (try clear hk); (try clear hi); (try clear ho0); obtain ⟨Ao22, co22, eo22⟩ := Kd.R_slice HO279.out; subst eo22; obtain ⟨hcz23_0, hcz23_1, hcz23_2, hcz23_3, hfz23_0, hfz23_1, hfz23_2, hfz23_3⟩ := cells4 BK273.out; obtain ⟨hcz24_0, hcz24_1, hcz24_2, hcz24_3, hfz24_0, hfz24_1, hfz24_2, hfz24_3⟩ := cells4 BK274.out))
   refine bodyPost_ret (results_ct rfl _ _ gb274 25 #[.int .i64 a0_0, .int .i64 a0_1, .int .i64 a0_2, .slice Ao22 t276.length co22] (0, 0) _ rfl (by (with_reducible repeat (first | refine blk_drewN ?_ _ | refine blk_drew ?_ | refine blk_alloc ?_ _)); refine blk_put (cs := #[.int .i64 a0_0, .int .i64 a0_1, .int .i64 a0_2, .slice none 0 0]) ?_ 3 _ rfl; refine blk_put (cs := #[.int .i64 a0_0, .int .i64 a0_1, .int .i64 0, .slice none 0 0]) ?_ 2 _ rfl; refine blk_put (cs := #[.int .i64 a0_0, .int .i64 0, .int .i64 0, .slice none 0 0]) ?_ 1 _ rfl; refine blk_put (cs := #[.int .i64 0, .int .i64 0, .int .i64 0, .slice none 0 0]) ?_ 0 _ rfl; refine blk_far ?_ NB274_273.out _; (with_reducible repeat (first | refine blk_drewN ?_ _ | refine blk_drew ?_ | refine blk_alloc ?_ _)); exact BK274.out) Try.underlying25 rfl (by kernel_rfl)) rfl ?_
   exact ⟨_, by first | rfl | (simp [errW_none, errW_some] <;> rfl) | (simp [*, errW_none, errW_some] <;> rfl), by (with_reducible repeat (first | apply Kd.R_alloc | apply Kd.R_drewN | apply Kd.R_drew)); exact Kd.R_mono (Kd.R_far (p := ⟨gb274, 3, none⟩) (Kd.R_far (p := ⟨gb274, 2, none⟩) (Kd.R_far (p := ⟨gb274, 1, none⟩) (Kd.R_far (p := ⟨gb274, 0, none⟩) (Kd.R_far (p := ⟨gb273, 3, none⟩) (Kd.R_types (Kd.R_types HO279.out BK273.out (by decide)) BK274.out (by decide)) (fun _ hk => hk.1.2) (.slice Ao22 t276.length co22)) (fun _ hk => hk.2) (.int .i64 a0_0)) (fun _ hk => hk.2) (.int .i64 a0_1)) (fun _ hk => hk.2) (.int .i64 a0_2)) (fun _ hk => hk.2) (.slice Ao22 t276.length co22)) (fun _ hk => trivial), bel⟩
 ·rw [if_neg c4] at H
  have c4b0 : (t275 == 0) = false := beq_eq_false_iff_ne.mpr c4
  have c4b1 : (t275 != 0) = true := bne_iff_ne.mpr c4
  simp only [Option.some.injEq, Prod.mk.injEq] at H
  obtain ⟨rfl, rfl, rfl, rfl, rfl⟩ := H
  go_enter Try.func23, Try.ntmps23
  go_wp2_with (first | ((with_reducible refine gate_dst (N := 2) rfl ?_); refine box_event ?hg (N := 2) ?hd (cs := #[.int .i64 a0_0, .int .i64 a0_1, .int .i64 a0_2, .slice A0_3 l0_3.length c0_3]) (t := 25) ?hr ?_; (case hd => rfl); (case hg => rfl); (case hr => first | (go_simp; done) | (go_simp; rfl)); intro gb273 hg w25 hbox hb; have qb_ := below_both bel hb; have n0_ := Aside0.mk (qb_.1); have n1_ := Aside0.mk (hbox); have n3_ := Aside0.mk ((by rw [hg]; exact qb_.2 : w.heap.size ≤ gb273)); clear HB; have HB := n0_; have BK273 := n1_; have GE273 := n3_; clear qb_; clear n0_ n1_ n3_; clear hb hbox hg) | ((with_reducible refine gate_dst (N := 4) rfl ?_); refine box_event ?hg (N := 4) ?hd (cs := #[.int .i64 0, .int .i64 0, .int .i64 0, .slice none 0 0]) (t := 25) ?hr ?_; (case hd => rfl); (case hg => rfl); (case hr => first | (go_simp; done) | (go_simp; rfl)); intro gb274 hg w26 hbox hb; have qb_ := below_both bel hb; have q1_ := blk_below2 (g := gb273) (o := .cells #[.int .i64 a0_0, .int .i64 a0_1, .int .i64 a0_2, .slice A0_3 l0_3.length c0_3] 25 (0, 0)) blkx hb; have n0_ := Aside0.mk (q1_.1); have n1_ := Aside0.mk (qb_.1); have n2_ := Aside0.mk (hbox); have n4_ := Aside0.mk ((by rw [hg]; exact qb_.2 : w.heap.size ≤ gb274)); have n5_ := Aside0.mk ((by rw [hg]; exact Nat.ne_of_lt q1_.2 : gb273 ≠ gb274)); have n6_ := Aside0.mk (Ne.symm n5_.out); clear BK273; clear HB; have BK273 := n0_; have HB := n1_; have BK274 := n2_; have GE274 := n4_; have NB273_274 := n5_; have NB274_273 := n6_; clear q1_; clear qb_; clear n0_ n1_ n2_ n4_ n5_ n6_; clear hb hbox hg; have hnb27 := NB273_274.out; have hnc27 := NB274_273.out; obtain ⟨hcz28_0, hcz28_1, hcz28_2, hcz28_3, hfz28_0, hfz28_1, hfz28_2, hfz28_3⟩ := cells4 BK273.out) | ((with_reducible refine gate_callee (f := 12) rfl ?_); refine goesL_ (some 10) rfl rfl Try.func12 (by kernel_rfl) rfl #[.agg #[.int .i64 a0_0, .int .i64 a0_1, .int .i64 a0_2, .slice A0_3 l0_3.length c0_3]] rfl argx ?_; (with_reducible refine (customsref21_ValidGuarantee.calls k a0_0 a0_1 a0_2 _ _ l0_3 t275 _ ?side1 ?side2 A3.out).mono ?_); (case side1 => repeat (first | exact (Kd.C_below HR0_3.out HB.out) | (with_reducible refine Kd.C_alloc ?_ _) | (with_reducible refine Kd.C_drewN ?_ _) | (with_reducible refine Kd.C_drew ?_))); (case side2 => exact HC0_3.out); rintro e w29 ⟨rfl, hb⟩; refine ⟨_, rfl, ?_⟩; have n1_ := Aside0.mk (blk_below (g := gb274) (o := .cells #[.int .i64 0, .int .i64 0, .int .i64 0, .slice none 0 0] 25 (0, 0)) blkx hb); have n2_ := Aside0.mk (below_step bel hb); (try clear BK273); clear BK274; clear HB; have BK274 := n1_; have HB := n2_; clear n1_ n2_; (try clear hb); (try clear hb2); (try clear hk); (try clear hi); obtain ⟨hcz30_0, hcz30_1, hcz30_2, hcz30_3, hfz30_0, hfz30_1, hfz30_2, hfz30_3⟩ := cells4 BK274.out))
  refine bodyPost_ret (results_ct rfl _ _ gb274 25 #[.int .i64 0, .int .i64 0, .int .i64 0, .slice none 0 0] (0, 0) _ rfl (by (with_reducible repeat (first | refine blk_drewN ?_ _ | refine blk_drew ?_ | refine blk_alloc ?_ _)); refine blk_put (cs := #[.int .i64 0, .int .i64 0, .int .i64 0, .slice none 0 0]) ?_ 3 _ rfl; refine blk_put (cs := #[.int .i64 0, .int .i64 0, .int .i64 0, .slice none 0 0]) ?_ 2 _ rfl; refine blk_put (cs := #[.int .i64 0, .int .i64 0, .int .i64 0, .slice none 0 0]) ?_ 1 _ rfl; refine blk_put (cs := #[.int .i64 0, .int .i64 0, .int .i64 0, .slice none 0 0]) ?_ 0 _ rfl; (with_reducible repeat (first | refine blk_drewN ?_ _ | refine blk_drew ?_ | refine blk_alloc ?_ _)); exact BK274.out) Try.underlying25 rfl (by kernel_rfl)) rfl ?_
  exact ⟨_, by first | rfl | (simp [errW_none, errW_some] <;> rfl) | (simp [*, errW_none, errW_some] <;> rfl), by first | exact Kd.R_nil _ _ _ _ _ | exact Kd.N_nil _ _ _ _ _ | exact Kd.V_nil _ _ _ _ _ | exact Kd.Q_nil _ _ _ _ _ | exact Kd.S_nil _ _ _ _ _, bel⟩
end Go.Proofs.Ytakhjhiofmgpnaa.PA
-- Written by a program of this claim (wip/tools: mkprint.py, pr.sh) out of the translation: plain functions and their contracts. Lean checks every line.
namespace Go.Proofs.Ytakhjhiofmgpnaa.PA
open Go.RowKit Go.Proofs.YtakhjhiofmgpnaaW.PrintWords Go.Proofs.YtakhjhiofmgpnaaW.PrintLast Go.Proofs.YtakhjhiofmgpnaaW.PrintMore Go.Proofs.Ytakhjhiofmgpnaa.G
attribute [local go_sem] max2_int min2_int max_two min_two max_three min_three max_four min_four   -- for this text's walks alone
set_option linter.unusedVariables false
set_option linter.unusedSimpArgs false
def customsref21_Resize.j0 : Nat → Int → Bool → Int → Int → Int → List (S39) → Option (Int × Int × Int × (List (S39)) × Int)
 | 0, _, _, _, _, _, _ => none
 | k + 1, x1, x18, x281000, x281001, x281002, x281003 => if x18 = true then (some (0, 0, 0, ([] : List (S39)), 2)) else ((customsref21_Total.f k x281000 x281001 x281002 x281003).bind fun t283 => (if t283 > x1 then (some (0, 0, 0, ([] : List (S39)), 16)) else ((some (([] : List (S39)) : List (S39))).bind fun y284 => (if y284.length + x281003.length < 8796093022208 then (some (x281000, x1, x281002, (y284 ++ x281003), 0)) else (none)))))
def customsref21_Resize.f (k : Nat) (a0_0 : Int) (a0_1 : Int) (a0_2 : Int) (l0_3 : List (S39)) (a1 : Int) : Option (Int × Int × Int × (List (S39)) × Int) := (customsref21_ValidGuarantee.f k a0_0 a0_1 a0_2 l0_3).bind fun t282 => (if t282 = 0 then (if a1 < 0 then (customsref21_Resize.j0 k a1 true a0_0 a0_1 a0_2 l0_3) else (customsref21_Resize.j0 k a1 (decide (a1 > 1000000000000)) a0_0 a0_1 a0_2 l0_3)) else (some (0, 0, 0, ([] : List (S39)), t282)))
set_option maxHeartbeats 8000000 in
set_option maxRecDepth 100000 in
theorem customsref21_Resize.calls (k : Nat) (a0_0 : Int) (a0_1 : Int) (a0_2 : Int) (A0_3 : Option Addr) (c0_3 : Nat) (l0_3 : List (S39)) (a1 : Int) (r1 : Int) (r2 : Int) (r3 : Int) (r4 : List (S39)) (r5 : Int) (w : World) (hr0_3 : Kd.C k39 w A0_3 l0_3.length l0_3) (hc0_3 : l0_3.length ≤ c0_3) (h : customsref21_Resize.f k a0_0 a0_1 a0_2 l0_3 a1 = some (r1, r2, r3, r4, r5)) :
  Calls Try.prog 25 #[.agg #[.int .i64 a0_0, .int .i64 a0_1, .int .i64 a0_2, .slice A0_3 l0_3.length c0_3], .int .i64 a1] w fun e w' => ∃ v3_ : Value, e = .returned (.tuple #[.agg #[.int .i64 r1, .int .i64 r2, .int .i64 r3, v3_], .int .i64 r5]) ∧ Kd.R k39 39 w' w.heap.size (fun _ => True) v3_ r4 ∧ Below w.heap.size w w' := by
 have hu25 := Try.underlying25
 have HR0_3 := Aside0.mk hr0_3
 have HC0_3 := Aside0.mk hc0_3
 clear hr0_3 hc0_3
 have HB := Aside0.mk (Below.refl w.heap.size w)
 have H : ((customsref21_ValidGuarantee.f k a0_0 a0_1 a0_2 l0_3).bind fun t282 => (if t282 = 0 then (if a1 < 0 then (customsref21_Resize.j0 k a1 true a0_0 a0_1 a0_2 l0_3) else (customsref21_Resize.j0 k a1 (decide (a1 > 1000000000000)) a0_0 a0_1 a0_2 l0_3)) else (some (0, 0, 0, ([] : List (S39)), t282)))) = some (r1, r2, r3, r4, r5) := h
 clear h
 replace H := Option.bind_eq_some_iff.mp H
 obtain ⟨t282, A30, H⟩ := H
 replace H : (if t282 = 0 then (if a1 < 0 then (customsref21_Resize.j0 k a1 true a0_0 a0_1 a0_2 l0_3) else (customsref21_Resize.j0 k a1 (decide (a1 > 1000000000000)) a0_0 a0_1 a0_2 l0_3)) else (some (0, 0, 0, ([] : List (S39)), t282))) = some (r1, r2, r3, r4, r5) := H
 have A3 := Aside0.mk A30
 clear A30
 by_cases c4 : t282 = 0
 ·rw [if_pos c4] at H
  have c4b0 : (t282 == 0) = true := beq_iff_eq.mpr c4
  have c4b1 : (t282 != 0) = false := bne_eq_false_iff_eq.mpr c4
  clear c4
  have HC5 := Aside0.mk H
  clear H
  go_enter Try.func25, Try.ntmps25
  go_upto_region 4 with (first | ((with_reducible refine gate_dst (N := 2) rfl ?_); refine box_event ?hg (N := 2) ?hd (cs := #[.int .i64 a0_0, .int .i64 a0_1, .int .i64 a0_2, .slice A0_3 l0_3.length c0_3]) (t := 25) ?hr ?_; (case hd => rfl); (case hg => rfl); (case hr => first | (go_simp; done) | (go_simp; rfl)); intro gb280 hg w6 hbox hb; have qb_ := below_both bel hb; have n0_ := Aside0.mk (qb_.1); have n1_ := Aside0.mk (hbox); have n2_ := Aside0.mk ((by rw [hg]; exact qb_.2 : w.heap.size ≤ gb280)); have n3_ := n2_; clear HB; have HB := n0_; have BK280 := n1_; have GW280 := n2_; have GE280 := n3_; clear qb_; clear n0_ n1_ n2_ n3_; clear hb hbox hg) | ((with_reducible refine gate_dst (N := 4) rfl ?_); refine box_event ?hg (N := 4) ?hd (cs := #[.int .i64 0, .int .i64 0, .int .i64 0, .slice none 0 0]) (t := 25) ?hr ?_; (case hd => rfl); (case hg => rfl); (case hr => first | (go_simp; done) | (go_simp; rfl)); intro gb281 hg w7 hbox hb; have qb_ := below_both bel hb; have q1_ := blk_below2 (g := gb280) (o := .cells #[.int .i64 a0_0, .int .i64 a0_1, .int .i64 a0_2, .slice A0_3 l0_3.length c0_3] 25 (0, 0)) blkx hb; have n0_ := Aside0.mk (q1_.1); have n1_ := Aside0.mk (qb_.1); have n2_ := Aside0.mk (hbox); have n3_ := Aside0.mk ((by rw [hg]; exact qb_.2 : w.heap.size ≤ gb281)); have n4_ := n3_; have n5_ := Aside0.mk ((by rw [hg]; exact Nat.ne_of_lt q1_.2 : gb280 ≠ gb281)); have n6_ := Aside0.mk (Ne.symm n5_.out); clear BK280; clear HB; have BK280 := n0_; have HB := n1_; have BK281 := n2_; have GW281 := n3_; have GE281 := n4_; have NB280_281 := n5_; have NB281_280 := n6_; clear q1_; clear qb_; clear n0_ n1_ n2_ n3_ n4_ n5_ n6_; clear hb hbox hg; have hnb8 := NB280_281.out; have hnc8 := NB281_280.out; obtain ⟨hcz9_0, hcz9_1, hcz9_2, hcz9_3, hfz9_0, hfz9_1, hfz9_2, hfz9_3⟩ := cells4 BK280.out) | ((with_reducible refine gate_callee (f := 12) rfl ?_); refine goesL_ (some 8) rfl rfl Try.func12 (by kernel_rfl) rfl #[.agg #[.int .i64 a0_0, .int .i64 a0_1, .int .i64 a0_2, .slice A0_3 l0_3.length c0_3]] rfl argx ?_; (with_reducible refine (customsref21_ValidGuarantee.calls k a0_0 a0_1 a0_2 _ _ l0_3 t282 _ ?side1 ?side2 A3.out).mono ?_); (case side1 => repeat (first | exact (Kd.C_below HR0_3.out HB.out) | (with_reducible refine Kd.C_alloc ?_ _) | (with_reducible refine Kd.C_drewN ?_ _) | (with_reducible refine Kd.C_drew ?_))); (case side2 => exact HC0_3.out); rintro e w10 ⟨rfl, hb⟩; refine ⟨_, rfl, ?_⟩; have n0_ := Aside0.mk (blk_below (g := gb280) (o := .cells #[.int .i64 a0_0, .int .i64 a0_1, .int .i64 a0_2, .slice A0_3 l0_3.length c0_3] 25 (0, 0)) blkx hb); have n1_ := Aside0.mk (blk_below (g := gb281) (o := .cells #[.int .i64 0, .int .i64 0, .int .i64 0, .slice none 0 0] 25 (0, 0)) blkx hb); have n2_ := Aside0.mk (below_step bel hb); clear BK280; clear BK281; clear HB; have BK280 := n0_; have BK281 := n1_; have HB := n2_; clear n0_ n1_ n2_; (try clear hb); (try clear hb2); (try clear hk); (try clear hi)))
  (try simp only [Act.put, List.setIfInBounds_toArray, List.set_cons_zero, List.set_cons_succ])
  go_cut [18] (fun v18 wc => ∃ (kq : Nat) (x18_4 : Bool), v18 = .bool x18_4 ∧ Aside0 (customsref21_Resize.j0 kq a1 x18_4 a0_0 a0_1 a0_2 l0_3 = some (r1, r2, r3, r4, r5)) ∧ Aside0 (kq ≤ k) ∧ Aside0 (wc.heap[gb280]? = some (.cells #[.int .i64 a0_0, .int .i64 a0_1, .int .i64 a0_2, (.slice A0_3 l0_3.length c0_3)] 25 (0, 0))) ∧ Aside0 (wc.heap[gb281]? = some (.cells #[.int .i64 0, .int .i64 0, .int .i64 0, (.slice none 0 0)] 25 (0, 0))) ∧ Aside0 (Below w.heap.size w wc))
  case first =>
   have H := HC5.out
   clear HC5
   by_cases c11 : a1 < 0
   ·rw [if_pos c11] at H
    have c11b0 : decide (a1 < 0) = true := decide_eq_true c11
    clear c11
    (first | rw [c11b0] | (simp only [i64_w, i32_w]; rw [c11b0]) | skip)
    have H' := Aside0.mk H
    clear H
    go_wp2
    go_meet
    case rel => exact ⟨_, (true), (by first | rfl | (simp; done) | (simp [*]; done)), H', ⟨by first | omega | exact Nat.le_refl _⟩, ⟨by (with_reducible repeat (first | refine blk_drewN ?_ _ | refine blk_drew ?_ | refine blk_alloc ?_ _)); exact BK280.out⟩, ⟨by (with_reducible repeat (first | refine blk_drewN ?_ _ | refine blk_drew ?_ | refine blk_alloc ?_ _)); exact BK281.out⟩, ⟨bel⟩⟩
   ·rw [if_neg c11] at H
    have c11b0 : decide (a1 < 0) = false := decide_eq_false c11
    clear c11
    (first | rw [c11b0] | (simp only [i64_w, i32_w]; rw [c11b0]) | skip)
    have H' := Aside0.mk H
    clear H
    go_wp2
    go_meet
    case rel => exact ⟨_, (decide (a1 > 1000000000000)), (by first | rfl | (simp; done) | (simp [*]; done)), H', ⟨by first | omega | exact Nat.le_refl _⟩, ⟨by (with_reducible repeat (first | refine blk_drewN ?_ _ | refine blk_drew ?_ | refine blk_alloc ?_ _)); exact BK280.out⟩, ⟨by (with_reducible repeat (first | refine blk_drewN ?_ _ | refine blk_drew ?_ | refine blk_alloc ?_ _)); exact BK281.out⟩, ⟨bel⟩⟩
  case rest =>
   clear HC5
   try clear c1
   try clear c2
   try clear p2
   try clear c4
   try clear c4b0
   try clear c4b1
   try clear c8
   try clear c11
   try clear c11b0
   try clear hcz9_0
   try clear hcz9_1
   try clear hcz9_2
   try clear hcz9_3
   try clear hfz9_0
   try clear hfz9_1
   try clear hfz9_2
   try clear hfz9_3
   obtain ⟨kq, x18_4, rfl, HA, HJ4, BK280, BK281, HB⟩ := hcut
   cases kq with
   | zero => exact absurd HA.out (by simp [customsref21_Resize.j0])
   | succ kj4 =>
    have H := HA.out
    clear HA
    simp only [customsref21_Resize.j0] at H
    by_cases c12 : x18_4 = true
    ·subst c12
     have H1 : (some (0, 0, 0, ([] : List (S39)), 2)) = some (r1, r2, r3, r4, r5) := by rw [if_pos rfl] at H; exact H
     clear H
     have H := H1
     clear H1
     simp only [Option.some.injEq, Prod.mk.injEq] at H
     obtain ⟨rfl, rfl, rfl, rfl, rfl⟩ := H
     have hnb13 := NB281_280.out
     have hnc13 := NB280_281.out
     obtain ⟨hcz14_0, hcz14_1, hcz14_2, hcz14_3, hfz14_0, hfz14_1, hfz14_2, hfz14_3⟩ := cells4 BK281.out
     go_wp2
     refine bodyPost_ret (results_ct rfl _ _ gb281 25 #[.int .i64 0, .int .i64 0, .int .i64 0, .slice none 0 0] (0, 0) _ rfl (by (with_reducible repeat (first | refine blk_drewN ?_ _ | refine blk_drew ?_ | refine blk_alloc ?_ _)); refine blk_put (cs := #[.int .i64 0, .int .i64 0, .int .i64 0, .slice none 0 0]) ?_ 3 _ rfl; refine blk_put (cs := #[.int .i64 0, .int .i64 0, .int .i64 0, .slice none 0 0]) ?_ 2 _ rfl; refine blk_put (cs := #[.int .i64 0, .int .i64 0, .int .i64 0, .slice none 0 0]) ?_ 1 _ rfl; refine blk_put (cs := #[.int .i64 0, .int .i64 0, .int .i64 0, .slice none 0 0]) ?_ 0 _ rfl; (with_reducible repeat (first | refine blk_drewN ?_ _ | refine blk_drew ?_ | refine blk_alloc ?_ _)); exact BK281.out) Try.underlying25 rfl (by kernel_rfl)) rfl ?_
     exact ⟨_, by first | rfl | (simp [errW_none, errW_some] <;> rfl) | (simp [*, errW_none, errW_some] <;> rfl), by first | exact Kd.R_nil _ _ _ _ _ | exact Kd.N_nil _ _ _ _ _ | exact Kd.V_nil _ _ _ _ _ | exact Kd.Q_nil _ _ _ _ _ | exact Kd.S_nil _ _ _ _ _, bel⟩
    ·replace c12 := Bool.eq_false_iff.mpr c12
     subst c12
     have H1 : ((customsref21_Total.f kj4 a0_0 a0_1 a0_2 l0_3).bind fun t283 => (if t283 > a1 then (some (0, 0, 0, ([] : List (S39)), 16)) else ((some (([] : List (S39)) : List (S39))).bind fun y284 => (if y284.length + l0_3.length < 8796093022208 then (some (a0_0, a1, a0_2, (y284 ++ l0_3), 0)) else (none))))) = some (r1, r2, r3, r4, r5) := by rw [if_neg (show ¬ (false = true) by decide)] at H; exact H
     clear H
     have H := H1
     clear H1
     replace H := Option.bind_eq_some_iff.mp H
     obtain ⟨t283, A150, H⟩ := H
     replace H : (if t283 > a1 then (some (0, 0, 0, ([] : List (S39)), 16)) else ((some (([] : List (S39)) : List (S39))).bind fun y284 => (if y284.length + l0_3.length < 8796093022208 then (some (a0_0, a1, a0_2, (y284 ++ l0_3), 0)) else (none)))) = some (r1, r2, r3, r4, r5) := H
     have A15 := Aside0.mk A150
     clear A150
     by_cases c16 : t283 > a1
     ·rw [if_pos c16] at H
      have c16b0 : decide (a1 < t283) = true := decide_eq_true c16
      clear c16
      simp only [Option.some.injEq, Prod.mk.injEq] at H
      obtain ⟨rfl, rfl, rfl, rfl, rfl⟩ := H
      have hnb17 := NB280_281.out
      have hnc17 := NB281_280.out
      obtain ⟨hcz18_0, hcz18_1, hcz18_2, hcz18_3, hfz18_0, hfz18_1, hfz18_2, hfz18_3⟩ := cells4 BK280.out
      go_wp2_with (first | ((with_reducible refine gate_callee (f := 14) rfl ?_); refine goesL_ (some 21) rfl rfl Try.func14 (by kernel_rfl) rfl #[.agg #[.int .i64 a0_0, .int .i64 a0_1, .int .i64 a0_2, .slice A0_3 l0_3.length c0_3]] rfl argx ?_; (with_reducible refine (customsref21_Total.calls kj4 a0_0 a0_1 a0_2 _ _ l0_3 t283 _ ?side1 ?side2 A15.out).mono ?_); (case side1 => repeat (first | exact (Kd.C_below HR0_3.out HB.out) | (with_reducible refine Kd.C_alloc ?_ _) | (with_reducible refine Kd.C_drewN ?_ _) | (with_reducible refine Kd.C_drew ?_))); (case side2 => exact HC0_3.out); rintro e w19 ⟨rfl, hb⟩; refine ⟨_, rfl, ?_⟩; have n1_ := Aside0.mk (blk_below (g := gb281) (o := .cells #[.int .i64 0, .int .i64 0, .int .i64 0, .slice none 0 0] 25 (0, 0)) blkx hb); have n2_ := Aside0.mk (below_step bel hb); (try clear BK280); clear BK281; clear HB; have BK281 := n1_; have HB := n2_; clear n1_ n2_; (try clear hb); (try clear hb2); (try clear hk); (try clear hi); obtain ⟨hcz20_0, hcz20_1, hcz20_2, hcz20_3, hfz20_0, hfz20_1, hfz20_2, hfz20_3⟩ := cells4 BK281.out))
      refine bodyPost_ret (results_ct rfl _ _ gb281 25 #[.int .i64 0, .int .i64 0, .int .i64 0, .slice none 0 0] (0, 0) _ rfl (by (with_reducible repeat (first | refine blk_drewN ?_ _ | refine blk_drew ?_ | refine blk_alloc ?_ _)); refine blk_put (cs := #[.int .i64 0, .int .i64 0, .int .i64 0, .slice none 0 0]) ?_ 3 _ rfl; refine blk_put (cs := #[.int .i64 0, .int .i64 0, .int .i64 0, .slice none 0 0]) ?_ 2 _ rfl; refine blk_put (cs := #[.int .i64 0, .int .i64 0, .int .i64 0, .slice none 0 0]) ?_ 1 _ rfl; refine blk_put (cs := #[.int .i64 0, .int .i64 0, .int .i64 0, .slice none 0 0]) ?_ 0 _ rfl; (with_reducible repeat (first | refine blk_drewN ?_ _ | refine blk_drew ?_ | refine blk_alloc ?_ _)); exact BK281.out) Try.underlying25 rfl (by kernel_rfl)) rfl ?_
      exact ⟨_, by first | rfl | (simp [errW_none, errW_some] <;> rfl) | (simp [*, errW_none, errW_some] <;> rfl), by first | exact Kd.R_nil _ _ _ _ _ | exact Kd.N_nil _ _ _ _ _ | exact Kd.V_nil _ _ _ _ _ | exact Kd.Q_nil _ _ _ _ _ | exact Kd.S_nil _ _ _ _ _, bel⟩
     ·rw [if_neg c16] at H
      have c16b0 : decide (a1 < t283) = false := decide_eq_false c16
      clear c16
      obtain ⟨y284, hy284⟩ : ∃ y_ : List (S39), y_ = (([] : List (S39))) := ⟨_, rfl⟩
      replace H : (if y284.length + l0_3.length < 8796093022208 then (some (a0_0, a1, a0_2, (y284 ++ l0_3), 0)) else (none)) = some (r1, r2, r3, r4, r5) := by first | (rw [hy284]; with_reducible exact H) | (have H2_ := (Option.bind_some _ _).symm.trans H; rw [hy284]; with_reducible exact H2_) | (have H2_ := (Option.bind_some _ _).symm.trans H; with_reducible exact H2_) | with_reducible exact H | (rw [hy284]; exact H) | exact H
      have Ny284 := Aside0.mk hy284
      clear hy284
      by_cases c21 : y284.length + l0_3.length < 8796093022208
      ·rw [if_pos c21] at H
       have LMc21 := Aside0.mk c21
       clear c21
       obtain ⟨y287, hy287⟩ : ∃ y_ : List (S39), y_ = (y284 ++ l0_3) := ⟨_, rfl⟩
       replace H : (some (a0_0, a1, a0_2, y287, 0)) = some (r1, r2, r3, r4, r5) := by first | (rw [hy287]; with_reducible exact H) | (have H2_ := (Option.bind_some _ _).symm.trans H; rw [hy287]; with_reducible exact H2_) | (have H2_ := (Option.bind_some _ _).symm.trans H; with_reducible exact H2_) | with_reducible exact H | (rw [hy287]; exact H) | exact H
       have Ny287 := Aside0.mk hy287
       clear hy287
       simp only [Option.some.injEq, Prod.mk.injEq] at H
       obtain ⟨rfl, rfl, rfl, rfl, rfl⟩ := H
       have hnb22 := NB280_281.out
       have hnc22 := NB281_280.out
       obtain ⟨hcz23_0, hcz23_1, hcz23_2, hcz23_3, hfz23_0, hfz23_1, hfz23_2, hfz23_3⟩ := cells4 BK280.out
       go_wp2_with (first | ((with_reducible refine gate_callee (f := 14) rfl ?_); refine goesL_ (some 21) rfl rfl Try.func14 (by kernel_rfl) rfl #[.agg #[.int .i64 a0_0, .int .i64 a0_1, .int .i64 a0_2, .slice A0_3 l0_3.length c0_3]] rfl argx ?_; (with_reducible refine (customsref21_Total.calls kj4 a0_0 a0_1 a0_2 _ _ l0_3 t283 _ ?side1 ?side2 A15.out).mono ?_); (case side1 => repeat (first | exact (Kd.C_below HR0_3.out HB.out) | (with_reducible refine Kd.C_alloc ?_ _) | (with_reducible refine Kd.C_drewN ?_ _) | (with_reducible refine Kd.C_drew ?_))); (case side2 => exact HC0_3.out); rintro e w24 ⟨rfl, hb⟩; refine ⟨_, rfl, ?_⟩; have n0_ := Aside0.mk (blk_below (g := gb280) (o := .cells #[.int .i64 a0_0, .int .i64 a0_1, .int .i64 a0_2, .slice A0_3 l0_3.length c0_3] 25 (0, 0)) blkx hb); have n1_ := Aside0.mk (blk_below (g := gb281) (o := .cells #[.int .i64 0, .int .i64 0, .int .i64 0, .slice none 0 0] 25 (0, 0)) blkx hb); have n2_ := Aside0.mk (below_step bel hb); clear BK280; clear BK281; clear HB; have BK280 := n0_; have BK281 := n1_; have HB := n2_; clear n0_ n1_ n2_; (try clear hb); (try clear hb2); (try clear hk); (try clear hi); obtain ⟨hcz25_0, hcz25_1, hcz25_2, hcz25_3, hfz25_0, hfz25_1, hfz25_2, hfz25_3⟩ := cells4 BK280.out) | ((with_reducible refine gate_dst (N := 27) rfl ?_); refine Kd.R_lit k39 _ 39 ?hg (N := 27) ?hd (xs := ([] : List (S39))) (inner := []) (ok := fun _ => True) (okp := fun _ => True) ?hr ?hp (fun _ hk => hk) trivial (Below.refl _ _) (Nat.le_refl _) (by simp) ?_; (case hd => rfl); (case hg => rfl); (case hr => first | (go_simp; done) | (go_simp; rfl)); (case hp => exact (Reps.none _ _)); intro v285 w26 ho27 hb hg_ hnew_; clear hg_ hnew_; (first | rw [← Ny284.out] at ho27 | (simp only [Int.reduceToNat] at ho27; rw [← Ny284.out] at ho27)); have qb_ := below_both bel hb; have n0_ := Aside0.mk (Kd.R_lower ho27 qb_.2); have n1_ := Aside0.mk (blk_below (g := gb280) (o := .cells #[.int .i64 a0_0, .int .i64 a1, .int .i64 a0_2, .slice A0_3 l0_3.length c0_3] 25 (0, 0)) (by (with_reducible repeat (first | refine blk_drewN ?_ _ | refine blk_drew ?_ | refine blk_alloc ?_ _)); refine blk_put (cs := #[.int .i64 a0_0, .int .i64 a0_1, .int .i64 a0_2, .slice A0_3 l0_3.length c0_3]) ?_ 1 _ rfl; (with_reducible repeat (first | refine blk_drewN ?_ _ | refine blk_drew ?_ | refine blk_alloc ?_ _)); exact BK280.out) hb); have n2_ := Aside0.mk (blk_below (g := gb281) (o := .cells #[.int .i64 0, .int .i64 0, .int .i64 0, .slice none 0 0] 25 (0, 0)) blkx hb); have n3_ := Aside0.mk (qb_.1); clear BK280; clear BK281; clear HB; have HO286 := n0_; have BK280 := n1_; have BK281 := n2_; have HB := n3_; clear qb_; clear n0_ n1_ n2_ n3_; clear hb ho27; obtain ⟨hcz28_0, hcz28_1, hcz28_2, hcz28_3, hfz28_0, hfz28_1, hfz28_2, hfz28_3⟩ := cells4 BK280.out) | ((with_reducible refine gate_builtin (b := .append) (xs := #[.tmp 27, .tmp 29]) rfl ?_); at_builtin; refine Kd.R_append_rows k39 (w0 := w) w.heap.size rfl (.tmp 27) (.tmp 29) 23 39 (.agg #[(.int .i64 0), (.int .i64 0)]) 16 rfl Try.underlying23 info39 rfl (by decide) (by omega) v285 y284 l0_3 _ _ _ (fun _ => True) (fun _ => False) rfl rfl ?aO ?aR (fun _ _ h => h) (fun _ h => h.elim) ?aF ?aB ?aS ?aL ?_; (case aR => repeat (first | exact (Kd.C_below HR0_3.out HB.out) | (with_reducible refine Kd.C_alloc ?_ _) | (with_reducible refine Kd.C_drewN ?_ _) | (with_reducible refine Kd.C_drew ?_))); (case aB => exact bel); (case aF => exact (fun _ _ => trivial)); (case aO => exact (rowx HO286.out)); (case aS => exact (below_size bel)); (case aL => have := LMc21.out; omega); intro v288 w29 ho hb hg hat; rw [← Ny287.out] at ho; have n0_ := Aside0.mk (blk_grown (g := gb280) (o := .cells #[.int .i64 a0_0, .int .i64 a1, .int .i64 a0_2, .slice A0_3 l0_3.length c0_3] 25 (0, 0)) blkx hg (Kd.R_ne HO286.out BK280.out (by decide))); have n1_ := Aside0.mk (blk_grown (g := gb281) (o := .cells #[.int .i64 0, .int .i64 0, .int .i64 0, .slice none 0 0] 25 (0, 0)) blkx hg (Kd.R_ne HO286.out BK281.out (by decide))); have n2_ := Aside0.mk (hb); have n3_ := Aside0.mk (ho); clear BK280; clear BK281; clear HB; clear HO286; have BK280 := n0_; have BK281 := n1_; have HB := n2_; have HO289 := n3_; clear n0_ n1_ n2_ n3_; clear ho hb hg hat; obtain ⟨Ao30, co30, eo30⟩ := Kd.R_slice HO289.out; subst eo30; obtain ⟨hcz31_0, hcz31_1, hcz31_2, hcz31_3, hfz31_0, hfz31_1, hfz31_2, hfz31_3⟩ := cells4 BK280.out; obtain ⟨hcz32_0, hcz32_1, hcz32_2, hcz32_3, hfz32_0, hfz32_1, hfz32_2, hfz32_3⟩ := cells4 BK281.out))
       refine bodyPost_ret (results_ct rfl _ _ gb281 25 #[.int .i64 a0_0, .int .i64 a1, .int .i64 a0_2, .slice Ao30 y287.length co30] (0, 0) _ rfl (by (with_reducible repeat (first | refine blk_drewN ?_ _ | refine blk_drew ?_ | refine blk_alloc ?_ _)); refine blk_put (cs := #[.int .i64 a0_0, .int .i64 a1, .int .i64 a0_2, .slice none 0 0]) ?_ 3 _ rfl; refine blk_put (cs := #[.int .i64 a0_0, .int .i64 a1, .int .i64 0, .slice none 0 0]) ?_ 2 _ rfl; refine blk_put (cs := #[.int .i64 a0_0, .int .i64 0, .int .i64 0, .slice none 0 0]) ?_ 1 _ rfl; refine blk_put (cs := #[.int .i64 0, .int .i64 0, .int .i64 0, .slice none 0 0]) ?_ 0 _ rfl; refine blk_far ?_ NB281_280.out _; (with_reducible repeat (first | refine blk_drewN ?_ _ | refine blk_drew ?_ | refine blk_alloc ?_ _)); exact BK281.out) Try.underlying25 rfl (by kernel_rfl)) rfl ?_
       exact ⟨_, by first | rfl | (simp [errW_none, errW_some] <;> rfl) | (simp [*, errW_none, errW_some] <;> rfl), by (with_reducible repeat (first | apply Kd.R_alloc | apply Kd.R_drewN | apply Kd.R_drew)); exact Kd.R_mono (Kd.R_far (p := ⟨gb281, 3, none⟩) (Kd.R_far (p := ⟨gb281, 2, none⟩) (Kd.R_far (p := ⟨gb281, 1, none⟩) (Kd.R_far (p := ⟨gb281, 0, none⟩) (Kd.R_far (p := ⟨gb280, 3, none⟩) (Kd.R_types (Kd.R_types HO289.out BK280.out (by decide)) BK281.out (by decide)) (fun _ hk => hk.1.2) (.slice Ao30 y287.length co30)) (fun _ hk => hk.2) (.int .i64 a0_0)) (fun _ hk => hk.2) (.int .i64 a1)) (fun _ hk => hk.2) (.int .i64 a0_2)) (fun _ hk => hk.2) (.slice Ao30 y287.length co30)) (fun _ hk => trivial), bel⟩
      ·rw [if_neg c21] at H
       exact absurd H (by simp)
 ·rw [if_neg c4] at H
  have c4b0 : (t282 == 0) = false := beq_eq_false_iff_ne.mpr c4
  have c4b1 : (t282 != 0) = true := bne_iff_ne.mpr c4
  simp only [Option.some.injEq, Prod.mk.injEq] at H
  obtain ⟨rfl, rfl, rfl, rfl, rfl⟩ := H
  go_enter Try.func25, Try.ntmps25
  go_wp2_with (first | ((with_reducible refine gate_dst (N := 2) rfl ?_); refine box_event ?hg (N := 2) ?hd (cs := #[.int .i64 a0_0, .int .i64 a0_1, .int .i64 a0_2, .slice A0_3 l0_3.length c0_3]) (t := 25) ?hr ?_; (case hd => rfl); (case hg => rfl); (case hr => first | (go_simp; done) | (go_simp; rfl)); intro gb280 hg w33 hbox hb; have qb_ := below_both bel hb; have n0_ := Aside0.mk (qb_.1); have n1_ := Aside0.mk (hbox); have n3_ := Aside0.mk ((by rw [hg]; exact qb_.2 : w.heap.size ≤ gb280)); clear HB; have HB := n0_; have BK280 := n1_; have GE280 := n3_; clear qb_; clear n0_ n1_ n3_; clear hb hbox hg) | ((with_reducible refine gate_dst (N := 4) rfl ?_); refine box_event ?hg (N := 4) ?hd (cs := #[.int .i64 0, .int .i64 0, .int .i64 0, .slice none 0 0]) (t := 25) ?hr ?_; (case hd => rfl); (case hg => rfl); (case hr => first | (go_simp; done) | (go_simp; rfl)); intro gb281 hg w34 hbox hb; have qb_ := below_both bel hb; have q1_ := blk_below2 (g := gb280) (o := .cells #[.int .i64 a0_0, .int .i64 a0_1, .int .i64 a0_2, .slice A0_3 l0_3.length c0_3] 25 (0, 0)) blkx hb; have n0_ := Aside0.mk (q1_.1); have n1_ := Aside0.mk (qb_.1); have n2_ := Aside0.mk (hbox); have n4_ := Aside0.mk ((by rw [hg]; exact qb_.2 : w.heap.size ≤ gb281)); have n5_ := Aside0.mk ((by rw [hg]; exact Nat.ne_of_lt q1_.2 : gb280 ≠ gb281)); have n6_ := Aside0.mk (Ne.symm n5_.out); clear BK280; clear HB; have BK280 := n0_; have HB := n1_; have BK281 := n2_; have GE281 := n4_; have NB280_281 := n5_; have NB281_280 := n6_; clear q1_; clear qb_; clear n0_ n1_ n2_ n4_ n5_ n6_; clear hb hbox hg; have hnb35 := NB280_281.out; have hnc35 := NB281_280.out; obtain ⟨hcz36_0, hcz36_1, hcz36_2, hcz36_3, hfz36_0, hfz36_1, hfz36_2, hfz36_3⟩ := cells4 BK280.out) | ((with_reducible refine gate_callee (f := 12) rfl ?_); refine goesL_ (some 8) rfl rfl Try.func12 (by kernel_rfl) rfl #[.agg #[.int .i64 a0_0, .int .i64 a0_1, .int .i64 a0_2, .slice A0_3 l0_3.length c0_3]] rfl argx ?_; (with_reducible refine (customsref21_ValidGuarantee.calls k a0_0 a0_1 a0_2 _ _ l0_3 t282 _ ?side1 ?side2 A3.out).mono ?_); (case side1 => repeat (first | exact (Kd.C_below HR0_3.out HB.out) | (with_reducible refine Kd.C_alloc ?_ _) | (with_reducible refine Kd.C_drewN ?_ _) | (with_reducible refine Kd.C_drew ?_))); (case side2 => exact HC0_3.out); rintro e w37 ⟨rfl, hb⟩; refine ⟨_, rfl, ?_⟩; have n1_ := Aside0.mk (blk_below (g := gb281) (o := .cells #[.int .i64 0, .int .i64 0, .int .i64 0, .slice none 0 0] 25 (0, 0)) blkx hb); have n2_ := Aside0.mk (below_step bel hb); (try clear BK280); clear BK281; clear HB; have BK281 := n1_; have HB := n2_; clear n1_ n2_; (try clear hb); (try clear hb2); (try clear hk); (try clear hi); obtain ⟨hcz38_0, hcz38_1, hcz38_2, hcz38_3, hfz38_0, hfz38_1, hfz38_2, hfz38_3⟩ := cells4 BK281.out))
  refine bodyPost_ret (results_ct rfl _ _ gb281 25 #[.int .i64 0, .int .i64 0, .int .i64 0, .slice none 0 0] (0, 0) _ rfl (by (with_reducible repeat (first | refine blk_drewN ?_ _ | refine blk_drew ?_ | refine blk_alloc ?_ _)); refine blk_put (cs := #[.int .i64 0, .int .i64 0, .int .i64 0, .slice none 0 0]) ?_ 3 _ rfl; refine blk_put (cs := #[.int .i64 0, .int .i64 0, .int .i64 0, .slice none 0 0]) ?_ 2 _ rfl; refine blk_put (cs := #[.int .i64 0, .int .i64 0, .int .i64 0, .slice none 0 0]) ?_ 1 _ rfl; refine blk_put (cs := #[.int .i64 0, .int .i64 0, .int .i64 0, .slice none 0 0]) ?_ 0 _ rfl; (with_reducible repeat (first | refine blk_drewN ?_ _ | refine blk_drew ?_ | refine blk_alloc ?_ _)); exact BK281.out) Try.underlying25 rfl (by kernel_rfl)) rfl ?_
  exact ⟨_, by first | rfl | (simp [errW_none, errW_some] <;> rfl) | (simp [*, errW_none, errW_some] <;> rfl), by first | exact Kd.R_nil _ _ _ _ _ | exact Kd.N_nil _ _ _ _ _ | exact Kd.V_nil _ _ _ _ _ | exact Kd.Q_nil _ _ _ _ _ | exact Kd.S_nil _ _ _ _ _, bel⟩
def customslaw23_sameErrors.l0 : Nat → List Int → List Int → Int → Option (Bool)
 | 0, _, _, _ => none
 | k + 1, x0, x1, x5 => if x5 < (x0.length : Int) then (if 0 ≤ x5 then (if x5 < (x1.length : Int) then (if (rd x0 x5) = (rd x1 x5) then (customslaw23_sameErrors.l0 k x0 x1 (wrap64 (x5 + 1))) else (some false)) else (none)) else (none)) else (some true)
def customslaw23_sameErrors.f (k : Nat) (l0 : List Int) (l1 : List Int) : Option (Bool) := if (l0.length : Int) = (l1.length : Int) then (customslaw23_sameErrors.l0 k l0 l1 0) else (some false)
set_option maxHeartbeats 8000000 in
set_option maxRecDepth 100000 in
theorem customslaw23_sameErrors.calls (k : Nat) (A0 : Option Addr) (c0 : Nat) (l0 : List Int) (A1 : Option Addr) (c1 : Nat) (l1 : List Int) (r : Bool) (w : World) (hr0 : Kd.C (Kd.int .i64) w A0 l0.length l0) (hc0 : l0.length ≤ c0) (hr1 : Kd.C (Kd.int .i64) w A1 l1.length l1) (hc1 : l1.length ≤ c1) (h : customslaw23_sameErrors.f k l0 l1 = some r) :
  Calls Try.prog 29 #[.slice A0 l0.length c0, .slice A1 l1.length c1] w fun e w' => e = .returned (.bool r) ∧ Drawn0 w w' := by
 have HR0 := Aside0.mk hr0
 have HC0 := Aside0.mk hc0
 clear hr0 hc0
 have HR1 := Aside0.mk hr1
 have HC1 := Aside0.mk hc1
 clear hr1 hc1
 have H : (if (l0.length : Int) = (l1.length : Int) then (customslaw23_sameErrors.l0 k l0 l1 0) else (some false)) = some r := h
 clear h
 by_cases c3 : (l0.length : Int) = (l1.length : Int)
 ·rw [if_pos c3] at H
  have c3b0 : ((l0.length : Int) == (l1.length : Int)) = true := beq_iff_eq.mpr c3
  have c3b1 : ((l0.length : Int) != (l1.length : Int)) = false := bne_eq_false_iff_eq.mpr c3
  have c3b2 : (l0.length == l1.length) = true := by first | simpa using c3 | (simp at c3 ⊢; omega)
  clear c3
  have H' := Aside0.mk H
  clear H
  go_enter Try.func29, Try.ntmps29
  go_wp2
  repeat (go_quiet (fail); try go_wp2)
  go_loopg [5] k (fun kq v5 w' => ∃ (x5_1 : Int), v5 = .int .i64 x5_1 ∧ Aside0 (customslaw23_sameErrors.l0 kq l0 l1 x5_1 = some r) ∧ Aside0 (kq ≤ k) ∧ Drawn0 w w')
  case atStart => exact ⟨(0), (by first | rfl | (simp; done) | (simp [*]; done)), H', ⟨Nat.le_refl _⟩, by repeat (first | exact Drawn0.refl _ | apply Drawn0.step)⟩
  case round =>
   clear H'
   try clear c1
   try clear c2
   try clear p2
   try clear c3
   try clear c3b0
   try clear c3b1
   try clear c3b2
   obtain ⟨x5_1, rfl, HA, HK1, ⟨m1, rfl⟩⟩ := hrel
   cases gk with
   | zero => exact absurd HA.out (by simp [customslaw23_sameErrors.l0])
   | succ k1 =>
    have H := HA.out
    clear HA
    simp only [customslaw23_sameErrors.l0] at H
    by_cases c4 : x5_1 < (l0.length : Int)
    ·rw [if_pos c4] at H
     have c4b0 : decide (x5_1 < (l0.length : Int)) = true := decide_eq_true c4
     clear c4
     by_cases c5 : 0 ≤ x5_1
     ·rw [if_pos c5] at H
      have c5b0 : decide (0 ≤ x5_1) = true := decide_eq_true c5
      clear c5
      by_cases c6 : x5_1 < (l1.length : Int)
      ·rw [if_pos c6] at H
       have c6b0 : decide (x5_1 < (l1.length : Int)) = true := decide_eq_true c6
       clear c6
       by_cases c7 : (rd l0 x5_1) = (rd l1 x5_1)
       ·rw [if_pos c7] at H
        have c7b0 : ((rd l0 x5_1) == (rd l1 x5_1)) = true := beq_iff_eq.mpr c7
        have c7b1 : ((rd l0 x5_1) != (rd l1 x5_1)) = false := bne_eq_false_iff_eq.mpr c7
        clear c7
        have H' := Aside0.mk H
        clear H
        have p290 : 0 ≤ (x5_1 : Int) := of_decide_eq_true (by first | (with_reducible assumption) | assumption)
        have q290 : x5_1 < (l0.length : Int) := of_decide_eq_true (by first | (with_reducible assumption) | assumption)
        obtain ⟨ad290, e290, hx290_0⟩ := Kd.at_int HR0.out x5_1 p290 q290
        cases e290
        replace p290 := eq_true p290
        replace q290 := eq_true q290
        have p291 : 0 ≤ (x5_1 : Int) := of_decide_eq_true (by first | (with_reducible assumption) | assumption)
        have q291 : x5_1 < (l1.length : Int) := of_decide_eq_true (by first | (with_reducible assumption) | assumption)
        obtain ⟨ad291, e291, hx291_0⟩ := Kd.at_int HR1.out x5_1 p291 q291
        cases e291
        replace p291 := eq_true p291
        replace q291 := eq_true q291
        go_wp2
        repeat (go_quiet (fail); try go_wp2)
        go_roundg k1
        case measure => have := HK1.out; omega
        case rel => exact ⟨(wrap64 (x5_1 + 1)), (by first | rfl | (simp; done) | (simp [*]; done)), H', ⟨by have := HK1.out; omega⟩, by repeat (first | exact Drawn0.refl _ | apply Drawn0.step)⟩
       ·rw [if_neg c7] at H
        have c7b0 : ((rd l0 x5_1) == (rd l1 x5_1)) = false := beq_eq_false_iff_ne.mpr c7
        have c7b1 : ((rd l0 x5_1) != (rd l1 x5_1)) = true := bne_iff_ne.mpr c7
        obtain rfl := Option.some.inj H
        have p290 : 0 ≤ (x5_1 : Int) := of_decide_eq_true (by first | (with_reducible assumption) | assumption)
        have q290 : x5_1 < (l0.length : Int) := of_decide_eq_true (by first | (with_reducible assumption) | assumption)
        obtain ⟨ad290, e290, hx290_0⟩ := Kd.at_int HR0.out x5_1 p290 q290
        cases e290
        replace p290 := eq_true p290
        replace q290 := eq_true q290
        have p291 : 0 ≤ (x5_1 : Int) := of_decide_eq_true (by first | (with_reducible assumption) | assumption)
        have q291 : x5_1 < (l1.length : Int) := of_decide_eq_true (by first | (with_reducible assumption) | assumption)
        obtain ⟨ad291, e291, hx291_0⟩ := Kd.at_int HR1.out x5_1 p291 q291
        cases e291
        replace p291 := eq_true p291
        replace q291 := eq_true q291
        go_wp2
        repeat (go_quiet (fail); try go_wp2)
        go_ret
        exact ⟨by first | rfl | (simp; done) | (simp [*]; done), by repeat (first | exact Drawn0.refl _ | apply Drawn0.step)⟩
      ·rw [if_neg c6] at H
       exact absurd H (by simp)
     ·rw [if_neg c5] at H
      exact absurd H (by simp)
    ·rw [if_neg c4] at H
     have c4b0 : decide (x5_1 < (l0.length : Int)) = false := decide_eq_false c4
     clear c4
     obtain rfl := Option.some.inj H
     go_wp2
     repeat (go_quiet (fail); try go_wp2)
     go_ret
     exact ⟨by first | rfl | (simp; done) | (simp [*]; done), by repeat (first | exact Drawn0.refl _ | apply Drawn0.step)⟩
 ·rw [if_neg c3] at H
  have c3b0 : ((l0.length : Int) == (l1.length : Int)) = false := beq_eq_false_iff_ne.mpr c3
  have c3b1 : ((l0.length : Int) != (l1.length : Int)) = true := bne_iff_ne.mpr c3
  have c3b2 : (l0.length == l1.length) = false := by first | simpa using c3 | (simp at c3 ⊢; omega)
  obtain rfl := Option.some.inj H
  go_enter Try.func29, Try.ntmps29
  go_wp2
  repeat (go_quiet (fail); try go_wp2)
  go_ret
  exact ⟨by first | rfl | (simp; done) | (simp [*]; done), by repeat (first | exact Drawn0.refl _ | apply Drawn0.step)⟩
end Go.Proofs.Ytakhjhiofmgpnaa.PA
/- The reference's Set, Release and Resize in plain Lean. -/
namespace Go.Proofs.Ytakhjhiofmgpnaa.E
set_option linter.unusedVariables false
set_option linter.unusedSimpArgs false
open Go.RowKit Go.Proofs.YtakhjhiofmgpnaaW.PrintWords Go.Proofs.YtakhjhiofmgpnaaW.PrintLast Go.Proofs.YtakhjhiofmgpnaaW.PrintMore Go.Proofs.Ytakhjhiofmgpnaa.G Go.Proofs.Ytakhjhiofmgpnaa.PA Go.Proofs.Ytakhjhiofmgpnaa.PB
/-- The list without what stands from p up to q. -/
def cut (u : List S39) (p q : Nat) : List S39 := u.take p ++ u.drop q
theorem cut_len {u : List S39} {p q : Nat} (hp : p ≤ u.length) (hq : q ≤ u.length) : (cut u p q).length = p + (u.length - q) := by
  simp [cut]; omega
theorem cut_lo {u : List S39} {p q : Nat} (hp : p ≤ u.length) {j : Nat} (h : j < p) : at_ (cut u p q) j = at_ u j := by
  have hl : j < (u.take p ++ u.drop q).length := by simp; omega
  show at_ (u.take p ++ u.drop q) j = at_ u j
  rw [at_get hl, at_get (show j < u.length by omega)]
  rw [List.getElem_append_left (by simp; omega), List.getElem_take]
theorem cut_hi {u : List S39} {p q : Nat} (hp : p ≤ u.length) {d : Nat} (hd : q + d < u.length) : at_ (cut u p q) (p + d) = at_ u (q + d) := by
  have hl : p + d < (u.take p ++ u.drop q).length := by simp; omega
  show at_ (u.take p ++ u.drop q) (p + d) = at_ u (q + d)
  rw [at_get hl, at_get hd]
  rw [List.getElem_append_right (by simp; omega), List.getElem_drop]
  congr 1
  simp; omega
theorem cut_psum {u : List S39} {m : Int} {p q : Nat} (h : Place u m p q) : ∀ d, q + d ≤ u.length → psum (cut u p q) (p + d) = oth u m (q + d)
  | 0, hd => by
    have h1 : ∀ i, i ≤ p → psum (cut u p q) i = psum u i := by
      intro i
      induction i with
      | zero => intro _; rfl
      | succ i ih => intro hi; rw [psum, psum, ih (by omega), cut_lo h.le (by omega)]
    show psum (cut u p q) p = oth u m q
    rw [h1 p (Nat.le_refl _)]
    have h2 : oth u m p = psum u p := oth_all p (fun j hj => by have := h.lo j hj; omega)
    rcases h.pq with ⟨rfl, _⟩ | ⟨rfl, hm⟩
    · rw [h2]
    · rw [oth, if_pos hm, h2]
  | d + 1, hd => by
    show psum (cut u p q) (p + d + 1) = oth u m (q + d + 1)
    rw [psum, cut_psum h d (by omega), cut_hi h.le (by omega), oth, if_neg (by have := h.hi (q + d) (by omega) (by omega); omega)]
theorem cut_tot {u : List S39} {m : Int} {p q : Nat} (h : Place u m p q) : tot (cut u p q) = oth u m u.length := by
  have := cut_psum h (u.length - q) (by have := h.qle; omega)
  rw [show q + (u.length - q) = u.length by have := h.qle; omega] at this
  rw [tot, cut_len h.le h.qle]
  exact this
theorem cut_ok {u : List S39} {m : Int} {p q : Nat} (h : Place u m p q) (ho : allOk u) : allOk (cut u p q) := fun j hj => by
  rw [cut_len h.le h.qle] at hj
  by_cases h1 : j < p
  · rw [cut_lo h.le h1]; exact ho j (by have := h.le; omega)
  · obtain ⟨d, rfl⟩ : ∃ d, j = p + d := ⟨j - p, by omega⟩
    rw [cut_hi h.le (by omega)]; exact ho _ (by omega)
theorem cut_asc {u : List S39} {m : Int} {p q : Nat} (h : Place u m p q) (ha : asc u) : asc (cut u p q) := fun j hj => by
  rw [cut_len h.le h.qle] at hj
  by_cases h1 : j + 1 < p
  · rw [cut_lo h.le (by omega), cut_lo h.le h1]; exact ha j (by have := h.le; omega)
  · by_cases h2 : j < p
    · have e : at_ (cut u p q) (j + 1) = at_ u q := by
        have := cut_hi (u := u) (p := p) (q := q) h.le (d := 0) (by omega)
        rwa [show p + 0 = j + 1 by omega] at this
      rw [cut_lo h.le h2, e]
      have := h.lo j h2
      have := h.hi q (Nat.le_refl _) (by omega)
      omega
    · obtain ⟨d, rfl⟩ : ∃ d, j = p + d := ⟨j - p, by omega⟩
      rw [cut_hi h.le (by omega), show p + d + 1 = p + (d + 1) by omega, cut_hi h.le (by omega)]
      exact ha (q + d) (by omega)
theorem oth_le {u : List S39} (h : allOk u) (m : Int) : ∀ i, i ≤ u.length → oth u m i ≤ psum u i
  | 0, _ => by simp [oth, psum]
  | i + 1, hi => by
    have := oth_le h m i (by omega)
    have h1 := (h i (by omega)).2
    simp only [oth, psum]
    split <;> omega
theorem cut_vf {a b c : Int} {u : List S39} {m : Int} {p q : Nat} (h : Place u m p q) (hv : vf a b c u = 0) : vf a b c (cut u p q) = 0 := by
  obtain ⟨hh, hlen, ho, ha, htot⟩ := vf_zero.1 hv
  have := oth_le ho m u.length (Nat.le_refl _)
  refine vf_zero.2 ⟨hh, ?_, cut_ok h ho, cut_asc h ha, by rw [cut_tot h]; exact Int.le_trans this htot⟩
  rw [cut_len h.le h.qle]
  have := h.le
  have : p ≤ q := by rcases h.pq with ⟨h, _⟩ | ⟨h, _⟩ <;> omega
  have := h.qle
  omega
/-- What the reference's 'without' keeps, and the amount it finds, up to i. -/
def flt (u : List S39) (m : Int) : Nat → List S39
  | 0 => []
  | i + 1 => if (at_ u i).f0 = m then flt u m i else flt u m i ++ [at_ u i]
def amt (u : List S39) (m : Int) : Nat → Int
  | 0 => -1
  | i + 1 => if (at_ u i).f0 = m then (at_ u i).f1 else amt u m i
theorem flt_len (u : List S39) (m : Int) : ∀ i, (flt u m i).length ≤ i
  | 0 => by simp [flt]
  | i + 1 => by
    have := flt_len u m i
    simp only [flt]
    split
    · omega
    · simp; omega
theorem without_ev {u : List S39} (m : Int) (hl : u.length ≤ 100) : Ev (fun k => customsref21_without.f k u m) (flt u m u.length, amt u m u.length) := by
  unfold customsref21_without.f
  have key : ∀ (r i : Nat), i + r = u.length → Ev (fun k => customsref21_without.l0 k u m (flt u m i) (amt u m i) (i : Int)) (flt u m u.length, amt u m u.length) := by
    intro r
    induction r with
    | zero =>
      intro i hi
      obtain rfl : i = u.length := by omega
      refine evShift ?_
      simp only [customsref21_without.l0]
      exact evNeg (by omega) (evNow rfl)
    | succ r ih =>
      intro i hi
      refine evShift ?_
      simp only [customsref21_without.l0]
      have e2 : wrap64 ((i : Int) + 1) = ((i + 1 : Nat) : Int) := by rw [wrap64_id (by omega) (by omega)]; omega
      rw [e2]
      clear e2
      have := ih (i + 1) (by omega)
      rw [flt, amt] at this
      have hfl := flt_len u m i
      refine evPos (by omega) (evPos (by omega) (evIf (fun hx => ?_) (fun hx => evPos (by omega) ?_)))
      · rw [if_pos (show (at_ u i).f0 = m from hx), if_pos (show (at_ u i).f0 = m from hx)] at this
        exact this
      · rw [if_neg (show ¬ (at_ u i).f0 = m from hx), if_neg (show ¬ (at_ u i).f0 = m from hx)] at this
        exact this
  exact key u.length 0 (by omega)
theorem flt_place {u : List S39} {m : Int} {p q : Nat} (h : Place u m p q) : flt u m u.length = cut u p q ∧ amt u m u.length = (if q = p then -1 else (at_ u p).f1) := by
  have h1 : ∀ i, i ≤ p → flt u m i = u.take i ∧ amt u m i = -1 := by
    intro i
    induction i with
    | zero => intro _; exact ⟨by simp [flt], rfl⟩
    | succ i ih =>
      intro hi
      obtain ⟨e1, e2⟩ := ih (by omega)
      have hne : (at_ u i).f0 ≠ m := by have := h.lo i (by omega); omega
      have hil : i < u.length := by have := h.le; omega
      rw [flt, amt, if_neg hne, if_neg hne, e1, e2, at_get hil, List.take_append_getElem hil]
      exact ⟨rfl, rfl⟩
  have h2 : ∀ d, q + d ≤ u.length → flt u m (q + d) = u.take p ++ (u.drop q).take d ∧ amt u m (q + d) = (if q = p then -1 else (at_ u p).f1) := by
    intro d
    induction d with
    | zero =>
      intro _
      obtain ⟨e1, e2⟩ := h1 p (Nat.le_refl _)
      rcases h.pq with ⟨rfl, _⟩ | ⟨rfl, hm⟩
      · simp [e1, e2]
      · show flt u m (p + 1) = _ ∧ amt u m (p + 1) = _
        rw [flt, amt, if_pos hm, if_pos hm, e1, if_neg (by omega)]
        simp
    | succ d ih =>
      intro hd
      obtain ⟨e1, e2⟩ := ih (by omega)
      have hne : (at_ u (q + d)).f0 ≠ m := by have := h.hi (q + d) (by omega) (by omega); omega
      show flt u m (q + d + 1) = _ ∧ amt u m (q + d + 1) = _
      rw [flt, amt, if_neg hne, if_neg hne, e1, e2, at_get (show q + d < u.length by omega), List.append_assoc]
      refine ⟨?_, rfl⟩
      congr 1
      have hdl : d < (u.drop q).length := by simp; omega
      rw [← List.take_append_getElem hdl, List.getElem_drop]
  have hq := h.qle
  obtain ⟨e1, e2⟩ := h2 (u.length - q) (by omega)
  rw [show q + (u.length - q) = u.length by omega] at e1 e2
  refine ⟨?_, e2⟩
  rw [e1, cut, List.take_of_length_le (l := u.drop q) (by simp)]
theorem insert_ev {u : List S39} {m n : Int} {p q : Nat} (h : Place u m p q) (hl : u.length ≤ 100) : Ev (fun k => customsref21_Insert.f k (cut u p q) m n) (put u p q ⟨m, n⟩) := by
  unfold customsref21_Insert.f
  have hcl := cut_len h.le h.qle
  have hp := h.le
  have hq := h.qle
  have e1 : (cut u p q).take p = u.take p := by unfold cut; rw [List.take_append_of_le_length (by simp; omega), List.take_take, Nat.min_self]
  have e2 : (cut u p q).drop p = u.drop q := by unfold cut; rw [List.drop_append_of_le_length (by simp; omega)]; simp [List.drop_take]
  have fin : (([] : List S39) ++ (cut u p q).take p) ++ [(⟨m, n⟩ : S39)] ++ (cut u p q).drop p = put u p q ⟨m, n⟩ := by rw [e1, e2]; simp [put]
  have key : ∀ (r i : Nat), i + r = p → Ev (fun k => customsref21_Insert.l0 k (cut u p q) (i : Int) m n) (put u p q ⟨m, n⟩) := by
    intro r
    induction r with
    | zero =>
      intro i hi
      obtain rfl : i = p := by omega
      refine evShift ?_
      simp only [customsref21_Insert.l0]
      refine evIf (fun hx => evPos (by omega) (evNeg ?_ ?_)) (fun hx => ?_)
      · have e : at_ (cut u i q) i = at_ u q := cut_hi (u := u) (p := i) (q := q) h.le (d := 0) (by omega)
        show ¬ (at_ (cut u i q) i).f0 < m
        rw [e]
        have := h.hi q (Nat.le_refl _) (by omega)
        omega
      · refine evBind0 rfl (evPos (by omega) (evBind0 rfl (evPos ?_ (evBind0 rfl (evBind0 rfl (evPos ?_ (evBind0 rfl (evBind0 rfl (evPos ?_ (evNow ?_))))))))))
        · simp; omega
        · simp; omega
        · simp; omega
        · rw [Int.toNat_natCast]; exact congrArg some fin
      · refine evBind0 rfl (evPos (by omega) (evPos (by omega) (evBind0 rfl (evPos ?_ (evBind0 rfl (evBind0 rfl (evPos ?_ (evBind0 rfl (evBind0 rfl (evPos ?_ (evNow ?_)))))))))))
        · simp; omega
        · simp; omega
        · simp; omega
        · rw [Int.toNat_natCast]; exact congrArg some fin
    | succ r ih =>
      intro i hi
      refine evShift ?_
      simp only [customsref21_Insert.l0]
      have e2 : wrap64 ((i : Int) + 1) = ((i + 1 : Nat) : Int) := by rw [wrap64_id (by omega) (by omega)]; omega
      rw [e2]
      clear e2
      refine evPos (by omega) (evPos (by omega) (evPos ?_ (ih (i + 1) (by omega))))
      show (at_ (cut u p q) i).f0 < m
      rw [cut_lo h.le (by omega)]
      exact h.lo i (by omega)
  exact key p 0 (by omega)
end Go.Proofs.Ytakhjhiofmgpnaa.E
-- Written by a program of this claim (wip/tools: mkprint.py, pr.sh) out of the translation: plain functions and their contracts. Lean checks every line.
namespace Go.Proofs.Ytakhjhiofmgpnaa.PB
open Go.RowKit Go.Proofs.YtakhjhiofmgpnaaW.PrintWords Go.Proofs.YtakhjhiofmgpnaaW.PrintLast Go.Proofs.YtakhjhiofmgpnaaW.PrintMore Go.Proofs.Ytakhjhiofmgpnaa.G Go.Proofs.Ytakhjhiofmgpnaa.PA
attribute [local go_sem] max2_int min2_int max_two min_two max_three min_three max_four min_four   -- for this text's walks alone
set_option linter.unusedVariables false
set_option linter.unusedSimpArgs false
def guarantee_Release.f (k : Nat) (a0_0 : Int) (a0_1 : Int) (a0_2 : Int) (l0_3 : List (S39)) (a1 : Int) : Option (Int × Int × Int × (List (S39)) × Int) := (guarantee_Validate.f k a0_0 a0_1 a0_2 l0_3).bind fun t197 => (if t197 = 0 then ((guarantee_find.f l0_3 a1).bind fun bt198 => (if bt198.2 = true then ((slices_Clone.f l0_3).bind fun t200 => ((slices_Delete.f t200 bt198.1 (wrap64 (bt198.1 + 1))).bind fun t203 => (some (a0_0, a0_1, a0_2, t203, 0)))) else (some (0, 0, 0, ([] : List (S39)), 6)))) else (some (0, 0, 0, ([] : List (S39)), t197)))
set_option maxHeartbeats 8000000 in
set_option maxRecDepth 100000 in
theorem guarantee_Release.calls (k : Nat) (a0_0 : Int) (a0_1 : Int) (a0_2 : Int) (A0_3 : Option Addr) (c0_3 : Nat) (l0_3 : List (S39)) (a1 : Int) (r1 : Int) (r2 : Int) (r3 : Int) (r4 : List (S39)) (r5 : Int) (w : World) (hr0_3 : Kd.C k39 w A0_3 l0_3.length l0_3) (hc0_3 : l0_3.length ≤ c0_3) (h : guarantee_Release.f k a0_0 a0_1 a0_2 l0_3 a1 = some (r1, r2, r3, r4, r5)) :
  Calls Try.prog 20 #[.agg #[.int .i64 a0_0, .int .i64 a0_1, .int .i64 a0_2, .slice A0_3 l0_3.length c0_3], .int .i64 a1] w fun e w' => ∃ v3_ : Value, e = .returned (.tuple #[.agg #[.int .i64 r1, .int .i64 r2, .int .i64 r3, v3_], .int .i64 r5]) ∧ Kd.R k39 39 w' w.heap.size (fun _ => True) v3_ r4 ∧ Below w.heap.size w w' := by
 have hu25 := Try.underlying25
 have HR0_3 := Aside0.mk hr0_3
 have HC0_3 := Aside0.mk hc0_3
 clear hr0_3 hc0_3
 have HB := Aside0.mk (Below.refl w.heap.size w)
 have H : ((guarantee_Validate.f k a0_0 a0_1 a0_2 l0_3).bind fun t197 => (if t197 = 0 then ((guarantee_find.f l0_3 a1).bind fun bt198 => (if bt198.2 = true then ((slices_Clone.f l0_3).bind fun t200 => ((slices_Delete.f t200 bt198.1 (wrap64 (bt198.1 + 1))).bind fun t203 => (some (a0_0, a0_1, a0_2, t203, 0)))) else (some (0, 0, 0, ([] : List (S39)), 6)))) else (some (0, 0, 0, ([] : List (S39)), t197)))) = some (r1, r2, r3, r4, r5) := h
 clear h
 replace H := Option.bind_eq_some_iff.mp H
 obtain ⟨t197, A30, H⟩ := H
 replace H : (if t197 = 0 then ((guarantee_find.f l0_3 a1).bind fun bt198 => (if bt198.2 = true then ((slices_Clone.f l0_3).bind fun t200 => ((slices_Delete.f t200 bt198.1 (wrap64 (bt198.1 + 1))).bind fun t203 => (some (a0_0, a0_1, a0_2, t203, 0)))) else (some (0, 0, 0, ([] : List (S39)), 6)))) else (some (0, 0, 0, ([] : List (S39)), t197))) = some (r1, r2, r3, r4, r5) := H
 have A3 := Aside0.mk A30
 clear A30
 by_cases c4 : t197 = 0
 ·rw [if_pos c4] at H
  have c4b0 : (t197 == 0) = true := beq_iff_eq.mpr c4
  have c4b1 : (t197 != 0) = false := bne_eq_false_iff_eq.mpr c4
  clear c4
  replace H := Option.bind_eq_some_iff.mp H
  obtain ⟨⟨t198, t199⟩, A50, H⟩ := H
  replace H : (if t199 = true then ((slices_Clone.f l0_3).bind fun t200 => ((slices_Delete.f t200 t198 (wrap64 (t198 + 1))).bind fun t203 => (some (a0_0, a0_1, a0_2, t203, 0)))) else (some (0, 0, 0, ([] : List (S39)), 6))) = some (r1, r2, r3, r4, r5) := H
  have A5 := Aside0.mk A50
  clear A50
  by_cases c6 : t199 = true
  ·subst c6
   have H1 : ((slices_Clone.f l0_3).bind fun t200 => ((slices_Delete.f t200 t198 (wrap64 (t198 + 1))).bind fun t203 => (some (a0_0, a0_1, a0_2, t203, 0)))) = some (r1, r2, r3, r4, r5) := by rw [if_pos rfl] at H; exact H
   clear H
   have H := H1
   clear H1
   replace H := Option.bind_eq_some_iff.mp H
   obtain ⟨t200, A70, H⟩ := H
   replace H : ((slices_Delete.f t200 t198 (wrap64 (t198 + 1))).bind fun t203 => (some (a0_0, a0_1, a0_2, t203, 0))) = some (r1, r2, r3, r4, r5) := H
   have A7 := Aside0.mk A70
   clear A70
   replace H := Option.bind_eq_some_iff.mp H
   obtain ⟨t203, A80, H⟩ := H
   replace H : (some (a0_0, a0_1, a0_2, t203, 0)) = some (r1, r2, r3, r4, r5) := H
   have A8 := Aside0.mk A80
   clear A80
   simp only [Option.some.injEq, Prod.mk.injEq] at H
   obtain ⟨rfl, rfl, rfl, rfl, rfl⟩ := H
   go_enter Try.func20, Try.ntmps20
   go_wp2_with (first | ((with_reducible refine gate_dst (N := 2) rfl ?_); refine box_event ?hg (N := 2) ?hd (cs := #[.int .i64 a0_0, .int .i64 a0_1, .int .i64 a0_2, .slice A0_3 l0_3.length c0_3]) (t := 25) ?hr ?_; (case hd => rfl); (case hg => rfl); (case hr => first | (go_simp; done) | (go_simp; rfl)); intro gb195 hg w9 hbox hb; have qb_ := below_both bel hb; have n0_ := Aside0.mk (qb_.1); have n1_ := Aside0.mk (hbox); have n3_ := Aside0.mk ((by rw [hg]; exact qb_.2 : w.heap.size ≤ gb195)); clear HB; have HB := n0_; have BK195 := n1_; have GE195 := n3_; clear qb_; clear n0_ n1_ n3_; clear hb hbox hg) | ((with_reducible refine gate_dst (N := 4) rfl ?_); refine box_event ?hg (N := 4) ?hd (cs := #[.int .i64 0, .int .i64 0, .int .i64 0, .slice none 0 0]) (t := 25) ?hr ?_; (case hd => rfl); (case hg => rfl); (case hr => first | (go_simp; done) | (go_simp; rfl)); intro gb196 hg w10 hbox hb; have qb_ := below_both bel hb; have q1_ := blk_below2 (g := gb195) (o := .cells #[.int .i64 a0_0, .int .i64 a0_1, .int .i64 a0_2, .slice A0_3 l0_3.length c0_3] 25 (0, 0)) blkx hb; have n0_ := Aside0.mk (q1_.1); have n1_ := Aside0.mk (qb_.1); have n2_ := Aside0.mk (hbox); have n4_ := Aside0.mk ((by rw [hg]; exact qb_.2 : w.heap.size ≤ gb196)); have n5_ := Aside0.mk ((by rw [hg]; exact Nat.ne_of_lt q1_.2 : gb195 ≠ gb196)); have n6_ := Aside0.mk (Ne.symm n5_.out); clear BK195; clear HB; have BK195 := n0_; have HB := n1_; have BK196 := n2_; have GE196 := n4_; have NB195_196 := n5_; have NB196_195 := n6_; clear q1_; clear qb_; clear n0_ n1_ n2_ n4_ n5_ n6_; clear hb hbox hg; have hnb11 := NB195_196.out; have hnc11 := NB196_195.out; obtain ⟨hcz12_0, hcz12_1, hcz12_2, hcz12_3, hfz12_0, hfz12_1, hfz12_2, hfz12_3⟩ := cells4 BK195.out) | ((with_reducible refine gate_callee (f := 11) rfl ?_); refine goesL_ (some 10) rfl rfl Try.func11 (by kernel_rfl) rfl #[.agg #[.int .i64 a0_0, .int .i64 a0_1, .int .i64 a0_2, .slice A0_3 l0_3.length c0_3]] rfl argx ?_; (with_reducible refine (guarantee_Validate.calls k a0_0 a0_1 a0_2 _ _ l0_3 t197 _ ?side1 ?side2 A3.out).mono ?_); (case side1 => repeat (first | exact (Kd.C_below HR0_3.out HB.out) | (with_reducible refine Kd.C_alloc ?_ _) | (with_reducible refine Kd.C_drewN ?_ _) | (with_reducible refine Kd.C_drew ?_))); (case side2 => exact HC0_3.out); rintro e w13 ⟨rfl, hb⟩; refine ⟨_, rfl, ?_⟩; have n0_ := Aside0.mk (blk_below (g := gb195) (o := .cells #[.int .i64 a0_0, .int .i64 a0_1, .int .i64 a0_2, .slice A0_3 l0_3.length c0_3] 25 (0, 0)) blkx hb); have n1_ := Aside0.mk (blk_below (g := gb196) (o := .cells #[.int .i64 0, .int .i64 0, .int .i64 0, .slice none 0 0] 25 (0, 0)) blkx hb); have n2_ := Aside0.mk (below_step bel hb); clear BK195; clear BK196; clear HB; have BK195 := n0_; have BK196 := n1_; have HB := n2_; clear n0_ n1_ n2_; (try clear hb); (try clear hb2); (try clear hk); (try clear hi); obtain ⟨hcz14_0, hcz14_1, hcz14_2, hcz14_3, hfz14_0, hfz14_1, hfz14_2, hfz14_3⟩ := cells4 BK195.out) | ((with_reducible refine gate_callee (f := 37) rfl ?_); refine goesL_ (some 19) rfl rfl Try.func37 (by kernel_rfl) rfl #[.slice A0_3 l0_3.length c0_3, .int .i64 a1] rfl argx ?_; (with_reducible refine (guarantee_find.calls _ _ l0_3 a1 t198 true _ ?side1 ?side2 A5.out).mono ?_); (case side1 => repeat (first | exact (Kd.C_below HR0_3.out HB.out) | (with_reducible refine Kd.C_alloc ?_ _) | (with_reducible refine Kd.C_drewN ?_ _) | (with_reducible refine Kd.C_drew ?_))); (case side2 => exact HC0_3.out); rintro e w15 ⟨rfl, hb⟩; refine ⟨_, rfl, ?_⟩; have n0_ := Aside0.mk (blk_below (g := gb195) (o := .cells #[.int .i64 a0_0, .int .i64 a0_1, .int .i64 a0_2, .slice A0_3 l0_3.length c0_3] 25 (0, 0)) blkx hb); have n1_ := Aside0.mk (blk_below (g := gb196) (o := .cells #[.int .i64 0, .int .i64 0, .int .i64 0, .slice none 0 0] 25 (0, 0)) blkx hb); have n2_ := Aside0.mk (below_step bel hb); clear BK195; clear BK196; clear HB; have BK195 := n0_; have BK196 := n1_; have HB := n2_; clear n0_ n1_ n2_; (try clear hb); (try clear hb2); (try clear hk); (try clear hi); obtain ⟨hcz16_0, hcz16_1, hcz16_2, hcz16_3, hfz16_0, hfz16_1, hfz16_2, hfz16_3⟩ := cells4 BK195.out) | ((with_reducible refine gate_callee (f := 38) rfl ?_); refine goesL_ (some 27) rfl rfl Try.func38 (by kernel_rfl) rfl #[.slice A0_3 l0_3.length c0_3] rfl argx ?_; (with_reducible refine (slices_Clone.calls _ _ l0_3 t200 _ ?side1 ?side2 A7.out).mono ?_); (case side1 => repeat (first | exact (Kd.C_below HR0_3.out HB.out) | (with_reducible refine Kd.C_alloc ?_ _) | (with_reducible refine Kd.C_drewN ?_ _) | (with_reducible refine Kd.C_drew ?_))); (case side2 => exact HC0_3.out); rintro e w17 ⟨v201, rfl, ho0, hb⟩; refine ⟨_, rfl, ?_⟩; have qb_ := below_both bel hb; have n0_ := Aside0.mk (Kd.R_lower ho0 qb_.2); have n1_ := Aside0.mk (blk_below (g := gb195) (o := .cells #[.int .i64 a0_0, .int .i64 a0_1, .int .i64 a0_2, .slice A0_3 l0_3.length c0_3] 25 (0, 0)) blkx hb); have n2_ := Aside0.mk (blk_below (g := gb196) (o := .cells #[.int .i64 0, .int .i64 0, .int .i64 0, .slice none 0 0] 25 (0, 0)) blkx hb); have n3_ := Aside0.mk (qb_.1); clear BK195; clear BK196; clear HB; have HO202 := n0_; have BK195 := n1_; have BK196 := n2_; have HB := n3_; clear qb_; clear n0_ n1_ n2_ n3_; (try clear hb); (try clear hb2); (try clear hk); (try clear hi); (try clear ho0); obtain ⟨Ao18, co18, eo18⟩ := Kd.R_slice HO202.out; subst eo18) | ((with_reducible refine gate_callee (f := 40) rfl ?_); refine goesL_ (some 31) rfl rfl Try.func40 (by kernel_rfl) rfl #[.slice Ao18 t200.length co18, .int .i64 t198, .int .i64 (wrap64 (t198 + 1))] rfl argx ?_; (with_reducible refine (slices_Delete.calls (fun k_ => some k_ = (.slice Ao18 t200.length co18 : Value).ownBlock) (.slice Ao18 t200.length co18) t200 t198 (wrap64 (t198 + 1)) t203 w _ ?side1 ?side2 A8.out).mono ?_); (case side1 => repeat (first | (with_reducible first | exact HB.out | apply below_alloc | apply pw_below_drewN | apply below_drew1 | refine below_set ?_ GE195.out | refine below_set ?_ GE196.out) | exact HB.out)); (case side2 => exact Kd.R_tight rfl HO202.out); rintro e w19 ⟨v204, rfl, ho0, hb, hkp⟩; refine ⟨_, rfl, ?_⟩; have n0_ := Aside0.mk (blk_kept blkx hkp (fun hs_ => (fun e_ => (Kd.R_ne HO202.out BK195.out (by decide)) e_) hs_)); have n1_ := Aside0.mk (blk_kept blkx hkp (fun hs_ => (fun e_ => (Kd.R_ne HO202.out BK196.out (by decide)) e_) hs_)); have n2_ := Aside0.mk (Kd.R_mono (ok' := fun k_ => True) ho0 (fun k_ hk_ => trivial)); have n3_ := Aside0.mk (hb); clear BK195; clear BK196; clear HB; clear HO202; have BK195 := n0_; have BK196 := n1_; have HO205 := n2_; have HB := n3_; clear n0_ n1_ n2_ n3_; (try clear hb); (try clear hkp); (try clear ho0); obtain ⟨Ao20, co20, eo20⟩ := Kd.R_slice HO205.out; subst eo20; obtain ⟨hcz21_0, hcz21_1, hcz21_2, hcz21_3, hfz21_0, hfz21_1, hfz21_2, hfz21_3⟩ := cells4 BK195.out; obtain ⟨hcz22_0, hcz22_1, hcz22_2, hcz22_3, hfz22_0, hfz22_1, hfz22_2, hfz22_3⟩ := cells4 BK196.out))
   refine bodyPost_ret (results_ct rfl _ _ gb196 25 #[.int .i64 a0_0, .int .i64 a0_1, .int .i64 a0_2, .slice Ao20 t203.length co20] (0, 0) _ rfl (by (with_reducible repeat (first | refine blk_drewN ?_ _ | refine blk_drew ?_ | refine blk_alloc ?_ _)); refine blk_put (cs := #[.int .i64 a0_0, .int .i64 a0_1, .int .i64 a0_2, .slice none 0 0]) ?_ 3 _ rfl; refine blk_put (cs := #[.int .i64 a0_0, .int .i64 a0_1, .int .i64 0, .slice none 0 0]) ?_ 2 _ rfl; refine blk_put (cs := #[.int .i64 a0_0, .int .i64 0, .int .i64 0, .slice none 0 0]) ?_ 1 _ rfl; refine blk_put (cs := #[.int .i64 0, .int .i64 0, .int .i64 0, .slice none 0 0]) ?_ 0 _ rfl; refine blk_far ?_ NB196_195.out _; (with_reducible repeat (first | refine blk_drewN ?_ _ | refine blk_drew ?_ | refine blk_alloc ?_ _)); exact BK196.out) Try.underlying25 rfl (by kernel_rfl)) rfl ?_
   exact ⟨_, by first | rfl | (simp [errW_none, errW_some] <;> rfl) | (simp [*, errW_none, errW_some] <;> rfl), by (with_reducible repeat (first | apply Kd.R_alloc | apply Kd.R_drewN | apply Kd.R_drew)); exact Kd.R_mono (Kd.R_far (p := ⟨gb196, 3, none⟩) (Kd.R_far (p := ⟨gb196, 2, none⟩) (Kd.R_far (p := ⟨gb196, 1, none⟩) (Kd.R_far (p := ⟨gb196, 0, none⟩) (Kd.R_far (p := ⟨gb195, 3, none⟩) (Kd.R_types (Kd.R_types HO205.out BK195.out (by decide)) BK196.out (by decide)) (fun _ hk => hk.1.2) (.slice Ao20 t203.length co20)) (fun _ hk => hk.2) (.int .i64 a0_0)) (fun _ hk => hk.2) (.int .i64 a0_1)) (fun _ hk => hk.2) (.int .i64 a0_2)) (fun _ hk => hk.2) (.slice Ao20 t203.length co20)) (fun _ hk => trivial), bel⟩
  ·replace c6 := Bool.eq_false_iff.mpr c6
   subst c6
   have H1 : (some (0, 0, 0, ([] : List (S39)), 6)) = some (r1, r2, r3, r4, r5) := by rw [if_neg (show ¬ (false = true) by decide)] at H; exact H
   clear H
   have H := H1
   clear H1
   simp only [Option.some.injEq, Prod.mk.injEq] at H
   obtain ⟨rfl, rfl, rfl, rfl, rfl⟩ := H
   go_enter Try.func20, Try.ntmps20
   go_wp2_with (first | ((with_reducible refine gate_dst (N := 2) rfl ?_); refine box_event ?hg (N := 2) ?hd (cs := #[.int .i64 a0_0, .int .i64 a0_1, .int .i64 a0_2, .slice A0_3 l0_3.length c0_3]) (t := 25) ?hr ?_; (case hd => rfl); (case hg => rfl); (case hr => first | (go_simp; done) | (go_simp; rfl)); intro gb195 hg w23 hbox hb; have qb_ := below_both bel hb; have n0_ := Aside0.mk (qb_.1); have n1_ := Aside0.mk (hbox); have n3_ := Aside0.mk ((by rw [hg]; exact qb_.2 : w.heap.size ≤ gb195)); clear HB; have HB := n0_; have BK195 := n1_; have GE195 := n3_; clear qb_; clear n0_ n1_ n3_; clear hb hbox hg) | ((with_reducible refine gate_dst (N := 4) rfl ?_); refine box_event ?hg (N := 4) ?hd (cs := #[.int .i64 0, .int .i64 0, .int .i64 0, .slice none 0 0]) (t := 25) ?hr ?_; (case hd => rfl); (case hg => rfl); (case hr => first | (go_simp; done) | (go_simp; rfl)); intro gb196 hg w24 hbox hb; have qb_ := below_both bel hb; have q1_ := blk_below2 (g := gb195) (o := .cells #[.int .i64 a0_0, .int .i64 a0_1, .int .i64 a0_2, .slice A0_3 l0_3.length c0_3] 25 (0, 0)) blkx hb; have n0_ := Aside0.mk (q1_.1); have n1_ := Aside0.mk (qb_.1); have n2_ := Aside0.mk (hbox); have n4_ := Aside0.mk ((by rw [hg]; exact qb_.2 : w.heap.size ≤ gb196)); have n5_ := Aside0.mk ((by rw [hg]; exact Nat.ne_of_lt q1_.2 : gb195 ≠ gb196)); have n6_ := Aside0.mk (Ne.symm n5_.out); clear BK195; clear HB; have BK195 := n0_; have HB := n1_; have BK196 := n2_; have GE196 := n4_; have NB195_196 := n5_; have NB196_195 := n6_; clear q1_; clear qb_; clear n0_ n1_ n2_ n4_ n5_ n6_; clear hb hbox hg; have hnb25 := NB195_196.out; have hnc25 := NB196_195.out; obtain ⟨hcz26_0, hcz26_1, hcz26_2, hcz26_3, hfz26_0, hfz26_1, hfz26_2, hfz26_3⟩ := cells4 BK195.out) | ((with_reducible refine gate_callee (f := 11) rfl ?_); refine goesL_ (some 10) rfl rfl Try.func11 (by kernel_rfl) rfl #[.agg #[.int .i64 a0_0, .int .i64 a0_1, .int .i64 a0_2, .slice A0_3 l0_3.length c0_3]] rfl argx ?_; (with_reducible refine (guarantee_Validate.calls k a0_0 a0_1 a0_2 _ _ l0_3 t197 _ ?side1 ?side2 A3.out).mono ?_); (case side1 => repeat (first | exact (Kd.C_below HR0_3.out HB.out) | (with_reducible refine Kd.C_alloc ?_ _) | (with_reducible refine Kd.C_drewN ?_ _) | (with_reducible refine Kd.C_drew ?_))); (case side2 => exact HC0_3.out); rintro e w27 ⟨rfl, hb⟩; refine ⟨_, rfl, ?_⟩; have n0_ := Aside0.mk (blk_below (g := gb195) (o := .cells #[.int .i64 a0_0, .int .i64 a0_1, .int .i64 a0_2, .slice A0_3 l0_3.length c0_3] 25 (0, 0)) blkx hb); have n1_ := Aside0.mk (blk_below (g := gb196) (o := .cells #[.int .i64 0, .int .i64 0, .int .i64 0, .slice none 0 0] 25 (0, 0)) blkx hb); have n2_ := Aside0.mk (below_step bel hb); clear BK195; clear BK196; clear HB; have BK195 := n0_; have BK196 := n1_; have HB := n2_; clear n0_ n1_ n2_; (try clear hb); (try clear hb2); (try clear hk); (try clear hi); obtain ⟨hcz28_0, hcz28_1, hcz28_2, hcz28_3, hfz28_0, hfz28_1, hfz28_2, hfz28_3⟩ := cells4 BK195.out) | ((with_reducible refine gate_callee (f := 37) rfl ?_); refine goesL_ (some 19) rfl rfl Try.func37 (by kernel_rfl) rfl #[.slice A0_3 l0_3.length c0_3, .int .i64 a1] rfl argx ?_; (with_reducible refine (guarantee_find.calls _ _ l0_3 a1 t198 false _ ?side1 ?side2 A5.out).mono ?_); (case side1 => repeat (first | exact (Kd.C_below HR0_3.out HB.out) | (with_reducible refine Kd.C_alloc ?_ _) | (with_reducible refine Kd.C_drewN ?_ _) | (with_reducible refine Kd.C_drew ?_))); (case side2 => exact HC0_3.out); rintro e w29 ⟨rfl, hb⟩; refine ⟨_, rfl, ?_⟩; have n1_ := Aside0.mk (blk_below (g := gb196) (o := .cells #[.int .i64 0, .int .i64 0, .int .i64 0, .slice none 0 0] 25 (0, 0)) blkx hb); have n2_ := Aside0.mk (below_step bel hb); (try clear BK195); clear BK196; clear HB; have BK196 := n1_; have HB := n2_; clear n1_ n2_; (try clear hb); (try clear hb2); (try clear hk); (try clear hi); obtain ⟨hcz30_0, hcz30_1, hcz30_2, hcz30_3, hfz30_0, hfz30_1, hfz30_2, hfz30_3⟩ := cells4 BK196.out))
   refine bodyPost_ret (results_ct rfl _ _ gb196 25 #[.int .i64 0, .int .i64 0, .int .i64 0, .slice none 0 0] (0, 0) _ rfl (by (with_reducible repeat (first | refine blk_drewN ?_ _ | refine blk_drew ?_ | refine blk_alloc ?_ _)); refine blk_put (cs := #[.int .i64 0, .int .i64 0, .int .i64 0, .slice none 0 0]) ?_ 3 _ rfl; refine blk_put (cs := #[.int .i64 0, .int .i64 0, .int .i64 0, .slice none 0 0]) ?_ 2 _ rfl; refine blk_put (cs := #[.int .i64 0, .int .i64 0, .int .i64 0, .slice none 0 0]) ?_ 1 _ rfl; refine blk_put (cs := #[.int .i64 0, .int .i64 0, .int .i64 0, .slice none 0 0]) ?_ 0 _ rfl; (with_reducible repeat (first | refine blk_drewN ?_ _ | refine blk_drew ?_ | refine blk_alloc ?_ _)); exact BK196.out) Try.underlying25 rfl (by kernel_rfl)) rfl ?_
   exact ⟨_, by first | rfl | (simp [errW_none, errW_some] <;> rfl) | (simp [*, errW_none, errW_some] <;> rfl), by first | exact Kd.R_nil _ _ _ _ _ | exact Kd.N_nil _ _ _ _ _ | exact Kd.V_nil _ _ _ _ _ | exact Kd.Q_nil _ _ _ _ _ | exact Kd.S_nil _ _ _ _ _, bel⟩
 ·rw [if_neg c4] at H
  have c4b0 : (t197 == 0) = false := beq_eq_false_iff_ne.mpr c4
  have c4b1 : (t197 != 0) = true := bne_iff_ne.mpr c4
  simp only [Option.some.injEq, Prod.mk.injEq] at H
  obtain ⟨rfl, rfl, rfl, rfl, rfl⟩ := H
  go_enter Try.func20, Try.ntmps20
  go_wp2_with (first | ((with_reducible refine gate_dst (N := 2) rfl ?_); refine box_event ?hg (N := 2) ?hd (cs := #[.int .i64 a0_0, .int .i64 a0_1, .int .i64 a0_2, .slice A0_3 l0_3.length c0_3]) (t := 25) ?hr ?_; (case hd => rfl); (case hg => rfl); (case hr => first | (go_simp; done) | (go_simp; rfl)); intro gb195 hg w31 hbox hb; have qb_ := below_both bel hb; have n0_ := Aside0.mk (qb_.1); have n1_ := Aside0.mk (hbox); have n3_ := Aside0.mk ((by rw [hg]; exact qb_.2 : w.heap.size ≤ gb195)); clear HB; have HB := n0_; have BK195 := n1_; have GE195 := n3_; clear qb_; clear n0_ n1_ n3_; clear hb hbox hg) | ((with_reducible refine gate_dst (N := 4) rfl ?_); refine box_event ?hg (N := 4) ?hd (cs := #[.int .i64 0, .int .i64 0, .int .i64 0, .slice none 0 0]) (t := 25) ?hr ?_; (case hd => rfl); (case hg => rfl); (case hr => first | (go_simp; done) | (go_simp; rfl)); intro gb196 hg w32 hbox hb; have qb_ := below_both bel hb; have q1_ := blk_below2 (g := gb195) (o := .cells #[.int .i64 a0_0, .int .i64 a0_1, .int .i64 a0_2, .slice A0_3 l0_3.length c0_3] 25 (0, 0)) blkx hb; have n0_ := Aside0.mk (q1_.1); have n1_ := Aside0.mk (qb_.1); have n2_ := Aside0.mk (hbox); have n4_ := Aside0.mk ((by rw [hg]; exact qb_.2 : w.heap.size ≤ gb196)); have n5_ := Aside0.mk ((by rw [hg]; exact Nat.ne_of_lt q1_.2 : gb195 ≠ gb196)); have n6_ := Aside0.mk (Ne.symm n5_.out); clear BK195; clear HB; have BK195 := n0_; have HB := n1_; have BK196 := n2_; have GE196 := n4_; have NB195_196 := n5_; have NB196_195 := n6_; clear q1_; clear qb_; clear n0_ n1_ n2_ n4_ n5_ n6_; clear hb hbox hg; have hnb33 := NB195_196.out; have hnc33 := NB196_195.out; obtain ⟨hcz34_0, hcz34_1, hcz34_2, hcz34_3, hfz34_0, hfz34_1, hfz34_2, hfz34_3⟩ := cells4 BK195.out) | ((with_reducible refine gate_callee (f := 11) rfl ?_); refine goesL_ (some 10) rfl rfl Try.func11 (by kernel_rfl) rfl #[.agg #[.int .i64 a0_0, .int .i64 a0_1, .int .i64 a0_2, .slice A0_3 l0_3.length c0_3]] rfl argx ?_; (with_reducible refine (guarantee_Validate.calls k a0_0 a0_1 a0_2 _ _ l0_3 t197 _ ?side1 ?side2 A3.out).mono ?_); (case side1 => repeat (first | exact (Kd.C_below HR0_3.out HB.out) | (with_reducible refine Kd.C_alloc ?_ _) | (with_reducible refine Kd.C_drewN ?_ _) | (with_reducible refine Kd.C_drew ?_))); (case side2 => exact HC0_3.out); rintro e w35 ⟨rfl, hb⟩; refine ⟨_, rfl, ?_⟩; have n1_ := Aside0.mk (blk_below (g := gb196) (o := .cells #[.int .i64 0, .int .i64 0, .int .i64 0, .slice none 0 0] 25 (0, 0)) blkx hb); have n2_ := Aside0.mk (below_step bel hb); (try clear BK195); clear BK196; clear HB; have BK196 := n1_; have HB := n2_; clear n1_ n2_; (try clear hb); (try clear hb2); (try clear hk); (try clear hi); obtain ⟨hcz36_0, hcz36_1, hcz36_2, hcz36_3, hfz36_0, hfz36_1, hfz36_2, hfz36_3⟩ := cells4 BK196.out))
  refine bodyPost_ret (results_ct rfl _ _ gb196 25 #[.int .i64 0, .int .i64 0, .int .i64 0, .slice none 0 0] (0, 0) _ rfl (by (with_reducible repeat (first | refine blk_drewN ?_ _ | refine blk_drew ?_ | refine blk_alloc ?_ _)); refine blk_put (cs := #[.int .i64 0, .int .i64 0, .int .i64 0, .slice none 0 0]) ?_ 3 _ rfl; refine blk_put (cs := #[.int .i64 0, .int .i64 0, .int .i64 0, .slice none 0 0]) ?_ 2 _ rfl; refine blk_put (cs := #[.int .i64 0, .int .i64 0, .int .i64 0, .slice none 0 0]) ?_ 1 _ rfl; refine blk_put (cs := #[.int .i64 0, .int .i64 0, .int .i64 0, .slice none 0 0]) ?_ 0 _ rfl; (with_reducible repeat (first | refine blk_drewN ?_ _ | refine blk_drew ?_ | refine blk_alloc ?_ _)); exact BK196.out) Try.underlying25 rfl (by kernel_rfl)) rfl ?_
  exact ⟨_, by first | rfl | (simp [errW_none, errW_some] <;> rfl) | (simp [*, errW_none, errW_some] <;> rfl), by first | exact Kd.R_nil _ _ _ _ _ | exact Kd.N_nil _ _ _ _ _ | exact Kd.V_nil _ _ _ _ _ | exact Kd.Q_nil _ _ _ _ _ | exact Kd.S_nil _ _ _ _ _, bel⟩
end Go.Proofs.Ytakhjhiofmgpnaa.PB
-- Written by a program of this claim (wip/tools: mkprint.py, pr.sh) out of the translation: plain functions and their contracts. Lean checks every line.
namespace Go.Proofs.Ytakhjhiofmgpnaa.PC
open Go.RowKit Go.Proofs.YtakhjhiofmgpnaaW.PrintWords Go.Proofs.YtakhjhiofmgpnaaW.PrintLast Go.Proofs.YtakhjhiofmgpnaaW.PrintMore Go.Proofs.Ytakhjhiofmgpnaa.G Go.Proofs.Ytakhjhiofmgpnaa.PA Go.Proofs.Ytakhjhiofmgpnaa.PB
attribute [local go_sem] max2_int min2_int max_two min_two max_three min_three max_four min_four   -- for this text's walks alone
set_option linter.unusedVariables false
set_option linter.unusedSimpArgs false
def errW : Option Int → Value
 | none => .nilIface
 | some c => .iface 0 (.int .i64 c)
theorem errW_none : errW none = .nilIface := rfl
theorem errW_some (c : Int) : errW (some c) = .iface 0 (.int .i64 c) := rfl
-- the values' own types
end Go.Proofs.Ytakhjhiofmgpnaa.PC
-- Written by a program of this claim (wip/tools: mkprint.py, pr.sh) out of the translation: plain functions and their contracts. Lean checks every line.
namespace Go.Proofs.Ytakhjhiofmgpnaa.PC
open Go.RowKit Go.Proofs.YtakhjhiofmgpnaaW.PrintWords Go.Proofs.YtakhjhiofmgpnaaW.PrintLast Go.Proofs.YtakhjhiofmgpnaaW.PrintMore Go.Proofs.Ytakhjhiofmgpnaa.G Go.Proofs.Ytakhjhiofmgpnaa.PA Go.Proofs.Ytakhjhiofmgpnaa.PB
attribute [local go_sem] max2_int min2_int max_two min_two max_three min_three max_four min_four   -- for this text's walks alone
set_option linter.unusedVariables false
set_option linter.unusedSimpArgs false
def guarantee_Resize.f (k : Nat) (a0_0 : Int) (a0_1 : Int) (a0_2 : Int) (l0_3 : List (S39)) (a1 : Int) : Option (Int × Int × Int × (List (S39)) × Int) := (guarantee_Validate.f k a0_0 a0_1 a0_2 l0_3).bind fun t103 => (if t103 = 0 then ((guarantee_within_int.f a1 0 1000000000000).bind fun t104 => (if t104 = true then ((guarantee_sum.f k l0_3).bind fun t105 => (if t105 > a1 then (some (0, 0, 0, ([] : List (S39)), 16)) else ((slices_Clone.f l0_3).bind fun t106 => (some (a0_0, a1, a0_2, t106, 0))))) else (some (0, 0, 0, ([] : List (S39)), 2)))) else (some (0, 0, 0, ([] : List (S39)), t103)))
set_option maxHeartbeats 8000000 in
set_option maxRecDepth 100000 in
theorem guarantee_Resize.calls (k : Nat) (a0_0 : Int) (a0_1 : Int) (a0_2 : Int) (A0_3 : Option Addr) (c0_3 : Nat) (l0_3 : List (S39)) (a1 : Int) (r1 : Int) (r2 : Int) (r3 : Int) (r4 : List (S39)) (r5 : Int) (w : World) (hr0_3 : Kd.C k39 w A0_3 l0_3.length l0_3) (hc0_3 : l0_3.length ≤ c0_3) (h : guarantee_Resize.f k a0_0 a0_1 a0_2 l0_3 a1 = some (r1, r2, r3, r4, r5)) :
  Calls Try.prog 24 #[.agg #[.int .i64 a0_0, .int .i64 a0_1, .int .i64 a0_2, .slice A0_3 l0_3.length c0_3], .int .i64 a1] w fun e w' => ∃ v3_ : Value, e = .returned (.tuple #[.agg #[.int .i64 r1, .int .i64 r2, .int .i64 r3, v3_], .int .i64 r5]) ∧ Kd.R k39 39 w' w.heap.size (fun _ => True) v3_ r4 ∧ Below w.heap.size w w' := by
 have hu25 := Try.underlying25
 have HR0_3 := Aside0.mk hr0_3
 have HC0_3 := Aside0.mk hc0_3
 clear hr0_3 hc0_3
 have HB := Aside0.mk (Below.refl w.heap.size w)
 have H : ((guarantee_Validate.f k a0_0 a0_1 a0_2 l0_3).bind fun t103 => (if t103 = 0 then ((guarantee_within_int.f a1 0 1000000000000).bind fun t104 => (if t104 = true then ((guarantee_sum.f k l0_3).bind fun t105 => (if t105 > a1 then (some (0, 0, 0, ([] : List (S39)), 16)) else ((slices_Clone.f l0_3).bind fun t106 => (some (a0_0, a1, a0_2, t106, 0))))) else (some (0, 0, 0, ([] : List (S39)), 2)))) else (some (0, 0, 0, ([] : List (S39)), t103)))) = some (r1, r2, r3, r4, r5) := h
 clear h
 replace H := Option.bind_eq_some_iff.mp H
 obtain ⟨t103, A30, H⟩ := H
 replace H : (if t103 = 0 then ((guarantee_within_int.f a1 0 1000000000000).bind fun t104 => (if t104 = true then ((guarantee_sum.f k l0_3).bind fun t105 => (if t105 > a1 then (some (0, 0, 0, ([] : List (S39)), 16)) else ((slices_Clone.f l0_3).bind fun t106 => (some (a0_0, a1, a0_2, t106, 0))))) else (some (0, 0, 0, ([] : List (S39)), 2)))) else (some (0, 0, 0, ([] : List (S39)), t103))) = some (r1, r2, r3, r4, r5) := H
 have A3 := Aside0.mk A30
 clear A30
 by_cases c4 : t103 = 0
 ·rw [if_pos c4] at H
  have c4b0 : (t103 == 0) = true := beq_iff_eq.mpr c4
  have c4b1 : (t103 != 0) = false := bne_eq_false_iff_eq.mpr c4
  clear c4
  replace H := Option.bind_eq_some_iff.mp H
  obtain ⟨t104, A50, H⟩ := H
  replace H : (if t104 = true then ((guarantee_sum.f k l0_3).bind fun t105 => (if t105 > a1 then (some (0, 0, 0, ([] : List (S39)), 16)) else ((slices_Clone.f l0_3).bind fun t106 => (some (a0_0, a1, a0_2, t106, 0))))) else (some (0, 0, 0, ([] : List (S39)), 2))) = some (r1, r2, r3, r4, r5) := H
  have A5 := Aside0.mk A50
  clear A50
  by_cases c6 : t104 = true
  ·subst c6
   have H1 : ((guarantee_sum.f k l0_3).bind fun t105 => (if t105 > a1 then (some (0, 0, 0, ([] : List (S39)), 16)) else ((slices_Clone.f l0_3).bind fun t106 => (some (a0_0, a1, a0_2, t106, 0))))) = some (r1, r2, r3, r4, r5) := by rw [if_pos rfl] at H; exact H
   clear H
   have H := H1
   clear H1
   replace H := Option.bind_eq_some_iff.mp H
   obtain ⟨t105, A70, H⟩ := H
   replace H : (if t105 > a1 then (some (0, 0, 0, ([] : List (S39)), 16)) else ((slices_Clone.f l0_3).bind fun t106 => (some (a0_0, a1, a0_2, t106, 0)))) = some (r1, r2, r3, r4, r5) := H
   have A7 := Aside0.mk A70
   clear A70
   by_cases c8 : t105 > a1
   ·rw [if_pos c8] at H
    have c8b0 : decide (a1 < t105) = true := decide_eq_true c8
    clear c8
    simp only [Option.some.injEq, Prod.mk.injEq] at H
    obtain ⟨rfl, rfl, rfl, rfl, rfl⟩ := H
    go_enter Try.func24, Try.ntmps24
    go_wp2_with (first | ((with_reducible refine gate_dst (N := 2) rfl ?_); refine box_event ?hg (N := 2) ?hd (cs := #[.int .i64 a0_0, .int .i64 a0_1, .int .i64 a0_2, .slice A0_3 l0_3.length c0_3]) (t := 25) ?hr ?_; (case hd => rfl); (case hg => rfl); (case hr => first | (go_simp; done) | (go_simp; rfl)); intro gb101 hg w9 hbox hb; have qb_ := below_both bel hb; have n0_ := Aside0.mk (qb_.1); have n1_ := Aside0.mk (hbox); have n3_ := Aside0.mk ((by rw [hg]; exact qb_.2 : w.heap.size ≤ gb101)); clear HB; have HB := n0_; have BK101 := n1_; have GE101 := n3_; clear qb_; clear n0_ n1_ n3_; clear hb hbox hg) | ((with_reducible refine gate_dst (N := 4) rfl ?_); refine box_event ?hg (N := 4) ?hd (cs := #[.int .i64 0, .int .i64 0, .int .i64 0, .slice none 0 0]) (t := 25) ?hr ?_; (case hd => rfl); (case hg => rfl); (case hr => first | (go_simp; done) | (go_simp; rfl)); intro gb102 hg w10 hbox hb; have qb_ := below_both bel hb; have q1_ := blk_below2 (g := gb101) (o := .cells #[.int .i64 a0_0, .int .i64 a0_1, .int .i64 a0_2, .slice A0_3 l0_3.length c0_3] 25 (0, 0)) blkx hb; have n0_ := Aside0.mk (q1_.1); have n1_ := Aside0.mk (qb_.1); have n2_ := Aside0.mk (hbox); have n4_ := Aside0.mk ((by rw [hg]; exact qb_.2 : w.heap.size ≤ gb102)); have n5_ := Aside0.mk ((by rw [hg]; exact Nat.ne_of_lt q1_.2 : gb101 ≠ gb102)); have n6_ := Aside0.mk (Ne.symm n5_.out); clear BK101; clear HB; have BK101 := n0_; have HB := n1_; have BK102 := n2_; have GE102 := n4_; have NB101_102 := n5_; have NB102_101 := n6_; clear q1_; clear qb_; clear n0_ n1_ n2_ n4_ n5_ n6_; clear hb hbox hg; have hnb11 := NB101_102.out; have hnc11 := NB102_101.out; obtain ⟨hcz12_0, hcz12_1, hcz12_2, hcz12_3, hfz12_0, hfz12_1, hfz12_2, hfz12_3⟩ := cells4 BK101.out) | ((with_reducible refine gate_callee (f := 11) rfl ?_); refine goesL_ (some 8) rfl rfl Try.func11 (by kernel_rfl) rfl #[.agg #[.int .i64 a0_0, .int .i64 a0_1, .int .i64 a0_2, .slice A0_3 l0_3.length c0_3]] rfl argx ?_; (with_reducible refine (guarantee_Validate.calls k a0_0 a0_1 a0_2 _ _ l0_3 t103 _ ?side1 ?side2 A3.out).mono ?_); (case side1 => repeat (first | exact (Kd.C_below HR0_3.out HB.out) | (with_reducible refine Kd.C_alloc ?_ _) | (with_reducible refine Kd.C_drewN ?_ _) | (with_reducible refine Kd.C_drew ?_))); (case side2 => exact HC0_3.out); rintro e w13 ⟨rfl, hb⟩; refine ⟨_, rfl, ?_⟩; have n0_ := Aside0.mk (blk_below (g := gb101) (o := .cells #[.int .i64 a0_0, .int .i64 a0_1, .int .i64 a0_2, .slice A0_3 l0_3.length c0_3] 25 (0, 0)) blkx hb); have n1_ := Aside0.mk (blk_below (g := gb102) (o := .cells #[.int .i64 0, .int .i64 0, .int .i64 0, .slice none 0 0] 25 (0, 0)) blkx hb); have n2_ := Aside0.mk (below_step bel hb); clear BK101; clear BK102; clear HB; have BK101 := n0_; have BK102 := n1_; have HB := n2_; clear n0_ n1_ n2_; (try clear hb); (try clear hb2); (try clear hk); (try clear hi)) | ((with_reducible refine gate_callee (f := 34) rfl ?_); refine goesL_ (some 15) rfl rfl Try.func34 (by kernel_rfl) rfl #[.int .i64 a1, .int .i64 0, .int .i64 1000000000000] rfl argx ?_; (with_reducible refine (guarantee_within_int.calls a1 0 1000000000000 true _ A5.out).mono ?_); rintro e w' ⟨rfl, ⟨nd, rfl⟩⟩; refine ⟨_, rfl, ?_⟩; (try (rw [drewN_self w13]; generalize hq_ : World.drewN w13 _ = w13; have n0_ : Aside0 (w13.heap[gb101]? = some (.cells #[.int .i64 a0_0, .int .i64 a0_1, .int .i64 a0_2, .slice A0_3 l0_3.length c0_3] 25 (0, 0))) := ⟨by rw [← hq_]; exact blkx⟩; have n1_ : Aside0 (w13.heap[gb102]? = some (.cells #[.int .i64 0, .int .i64 0, .int .i64 0, .slice none 0 0] 25 (0, 0))) := ⟨by rw [← hq_]; exact blkx⟩; have n2_ : Aside0 (Below w.heap.size w w13) := ⟨by rw [← hq_]; exact bel⟩; clear BK101 BK102 HB hq_; have BK101 := n0_; have BK102 := n1_; have HB := n2_; clear n0_ n1_ n2_)); obtain ⟨hcz14_0, hcz14_1, hcz14_2, hcz14_3, hfz14_0, hfz14_1, hfz14_2, hfz14_3⟩ := cells4 BK101.out) | ((with_reducible refine gate_callee (f := 35) rfl ?_); refine goesL_ (some 21) rfl rfl Try.func35 (by kernel_rfl) rfl #[.slice A0_3 l0_3.length c0_3] rfl argx ?_; (with_reducible refine (guarantee_sum.calls k _ _ l0_3 t105 _ ?side1 ?side2 A7.out).mono ?_); (case side1 => repeat (first | exact (Kd.C_below HR0_3.out HB.out) | (with_reducible refine Kd.C_alloc ?_ _) | (with_reducible refine Kd.C_drewN ?_ _) | (with_reducible refine Kd.C_drew ?_))); (case side2 => exact HC0_3.out); rintro e w15 ⟨rfl, hb⟩; refine ⟨_, rfl, ?_⟩; have n1_ := Aside0.mk (blk_below (g := gb102) (o := .cells #[.int .i64 0, .int .i64 0, .int .i64 0, .slice none 0 0] 25 (0, 0)) blkx hb); have n2_ := Aside0.mk (below_step bel hb); (try clear BK101); clear BK102; clear HB; have BK102 := n1_; have HB := n2_; clear n1_ n2_; (try clear hb); (try clear hb2); (try clear hk); (try clear hi); obtain ⟨hcz16_0, hcz16_1, hcz16_2, hcz16_3, hfz16_0, hfz16_1, hfz16_2, hfz16_3⟩ := cells4 BK102.out))
    refine bodyPost_ret (results_ct rfl _ _ gb102 25 #[.int .i64 0, .int .i64 0, .int .i64 0, .slice none 0 0] (0, 0) _ rfl (by (with_reducible repeat (first | refine blk_drewN ?_ _ | refine blk_drew ?_ | refine blk_alloc ?_ _)); refine blk_put (cs := #[.int .i64 0, .int .i64 0, .int .i64 0, .slice none 0 0]) ?_ 3 _ rfl; refine blk_put (cs := #[.int .i64 0, .int .i64 0, .int .i64 0, .slice none 0 0]) ?_ 2 _ rfl; refine blk_put (cs := #[.int .i64 0, .int .i64 0, .int .i64 0, .slice none 0 0]) ?_ 1 _ rfl; refine blk_put (cs := #[.int .i64 0, .int .i64 0, .int .i64 0, .slice none 0 0]) ?_ 0 _ rfl; (with_reducible repeat (first | refine blk_drewN ?_ _ | refine blk_drew ?_ | refine blk_alloc ?_ _)); exact BK102.out) Try.underlying25 rfl (by kernel_rfl)) rfl ?_
    exact ⟨_, by first | rfl | (simp [errW_none, errW_some] <;> rfl) | (simp [*, errW_none, errW_some] <;> rfl), by first | exact Kd.R_nil _ _ _ _ _ | exact Kd.N_nil _ _ _ _ _ | exact Kd.V_nil _ _ _ _ _ | exact Kd.Q_nil _ _ _ _ _ | exact Kd.S_nil _ _ _ _ _, bel⟩
   ·rw [if_neg c8] at H
    have c8b0 : decide (a1 < t105) = false := decide_eq_false c8
    clear c8
    replace H := Option.bind_eq_some_iff.mp H
    obtain ⟨t106, A170, H⟩ := H
    replace H : (some (a0_0, a1, a0_2, t106, 0)) = some (r1, r2, r3, r4, r5) := H
    have A17 := Aside0.mk A170
    clear A170
    simp only [Option.some.injEq, Prod.mk.injEq] at H
    obtain ⟨rfl, rfl, rfl, rfl, rfl⟩ := H
    go_enter Try.func24, Try.ntmps24
    go_wp2_with (first | ((with_reducible refine gate_dst (N := 2) rfl ?_); refine box_event ?hg (N := 2) ?hd (cs := #[.int .i64 a0_0, .int .i64 a0_1, .int .i64 a0_2, .slice A0_3 l0_3.length c0_3]) (t := 25) ?hr ?_; (case hd => rfl); (case hg => rfl); (case hr => first | (go_simp; done) | (go_simp; rfl)); intro gb101 hg w18 hbox hb; have qb_ := below_both bel hb; have n0_ := Aside0.mk (qb_.1); have n1_ := Aside0.mk (hbox); have n3_ := Aside0.mk ((by rw [hg]; exact qb_.2 : w.heap.size ≤ gb101)); clear HB; have HB := n0_; have BK101 := n1_; have GE101 := n3_; clear qb_; clear n0_ n1_ n3_; clear hb hbox hg) | ((with_reducible refine gate_dst (N := 4) rfl ?_); refine box_event ?hg (N := 4) ?hd (cs := #[.int .i64 0, .int .i64 0, .int .i64 0, .slice none 0 0]) (t := 25) ?hr ?_; (case hd => rfl); (case hg => rfl); (case hr => first | (go_simp; done) | (go_simp; rfl)); intro gb102 hg w19 hbox hb; have qb_ := below_both bel hb; have q1_ := blk_below2 (g := gb101) (o := .cells #[.int .i64 a0_0, .int .i64 a0_1, .int .i64 a0_2, .slice A0_3 l0_3.length c0_3] 25 (0, 0)) blkx hb; have n0_ := Aside0.mk (q1_.1); have n1_ := Aside0.mk (qb_.1); have n2_ := Aside0.mk (hbox); have n4_ := Aside0.mk ((by rw [hg]; exact qb_.2 : w.heap.size ≤ gb102)); have n5_ := Aside0.mk ((by rw [hg]; exact Nat.ne_of_lt q1_.2 : gb101 ≠ gb102)); have n6_ := Aside0.mk (Ne.symm n5_.out); clear BK101; clear HB; have BK101 := n0_; have HB := n1_; have BK102 := n2_; have GE102 := n4_; have NB101_102 := n5_; have NB102_101 := n6_; clear q1_; clear qb_; clear n0_ n1_ n2_ n4_ n5_ n6_; clear hb hbox hg; have hnb20 := NB101_102.out; have hnc20 := NB102_101.out; obtain ⟨hcz21_0, hcz21_1, hcz21_2, hcz21_3, hfz21_0, hfz21_1, hfz21_2, hfz21_3⟩ := cells4 BK101.out) | ((with_reducible refine gate_callee (f := 11) rfl ?_); refine goesL_ (some 8) rfl rfl Try.func11 (by kernel_rfl) rfl #[.agg #[.int .i64 a0_0, .int .i64 a0_1, .int .i64 a0_2, .slice A0_3 l0_3.length c0_3]] rfl argx ?_; (with_reducible refine (guarantee_Validate.calls k a0_0 a0_1 a0_2 _ _ l0_3 t103 _ ?side1 ?side2 A3.out).mono ?_); (case side1 => repeat (first | exact (Kd.C_below HR0_3.out HB.out) | (with_reducible refine Kd.C_alloc ?_ _) | (with_reducible refine Kd.C_drewN ?_ _) | (with_reducible refine Kd.C_drew ?_))); (case side2 => exact HC0_3.out); rintro e w22 ⟨rfl, hb⟩; refine ⟨_, rfl, ?_⟩; have n0_ := Aside0.mk (blk_below (g := gb101) (o := .cells #[.int .i64 a0_0, .int .i64 a0_1, .int .i64 a0_2, .slice A0_3 l0_3.length c0_3] 25 (0, 0)) blkx hb); have n1_ := Aside0.mk (blk_below (g := gb102) (o := .cells #[.int .i64 0, .int .i64 0, .int .i64 0, .slice none 0 0] 25 (0, 0)) blkx hb); have n2_ := Aside0.mk (below_step bel hb); clear BK101; clear BK102; clear HB; have BK101 := n0_; have BK102 := n1_; have HB := n2_; clear n0_ n1_ n2_; (try clear hb); (try clear hb2); (try clear hk); (try clear hi)) | ((with_reducible refine gate_callee (f := 34) rfl ?_); refine goesL_ (some 15) rfl rfl Try.func34 (by kernel_rfl) rfl #[.int .i64 a1, .int .i64 0, .int .i64 1000000000000] rfl argx ?_; (with_reducible refine (guarantee_within_int.calls a1 0 1000000000000 true _ A5.out).mono ?_); rintro e w' ⟨rfl, ⟨nd, rfl⟩⟩; refine ⟨_, rfl, ?_⟩; (try (rw [drewN_self w22]; generalize hq_ : World.drewN w22 _ = w22; have n0_ : Aside0 (w22.heap[gb101]? = some (.cells #[.int .i64 a0_0, .int .i64 a0_1, .int .i64 a0_2, .slice A0_3 l0_3.length c0_3] 25 (0, 0))) := ⟨by rw [← hq_]; exact blkx⟩; have n1_ : Aside0 (w22.heap[gb102]? = some (.cells #[.int .i64 0, .int .i64 0, .int .i64 0, .slice none 0 0] 25 (0, 0))) := ⟨by rw [← hq_]; exact blkx⟩; have n2_ : Aside0 (Below w.heap.size w w22) := ⟨by rw [← hq_]; exact bel⟩; clear BK101 BK102 HB hq_; have BK101 := n0_; have BK102 := n1_; have HB := n2_; clear n0_ n1_ n2_)); obtain ⟨hcz23_0, hcz23_1, hcz23_2, hcz23_3, hfz23_0, hfz23_1, hfz23_2, hfz23_3⟩ := cells4 BK101.out) | ((with_reducible refine gate_callee (f := 35) rfl ?_); refine goesL_ (some 21) rfl rfl Try.func35 (by kernel_rfl) rfl #[.slice A0_3 l0_3.length c0_3] rfl argx ?_; (with_reducible refine (guarantee_sum.calls k _ _ l0_3 t105 _ ?side1 ?side2 A7.out).mono ?_); (case side1 => repeat (first | exact (Kd.C_below HR0_3.out HB.out) | (with_reducible refine Kd.C_alloc ?_ _) | (with_reducible refine Kd.C_drewN ?_ _) | (with_reducible refine Kd.C_drew ?_))); (case side2 => exact HC0_3.out); rintro e w24 ⟨rfl, hb⟩; refine ⟨_, rfl, ?_⟩; have n0_ := Aside0.mk (blk_below (g := gb101) (o := .cells #[.int .i64 a0_0, .int .i64 a0_1, .int .i64 a0_2, .slice A0_3 l0_3.length c0_3] 25 (0, 0)) blkx hb); have n1_ := Aside0.mk (blk_below (g := gb102) (o := .cells #[.int .i64 0, .int .i64 0, .int .i64 0, .slice none 0 0] 25 (0, 0)) blkx hb); have n2_ := Aside0.mk (below_step bel hb); clear BK101; clear BK102; clear HB; have BK101 := n0_; have BK102 := n1_; have HB := n2_; clear n0_ n1_ n2_; (try clear hb); (try clear hb2); (try clear hk); (try clear hi); obtain ⟨hcz25_0, hcz25_1, hcz25_2, hcz25_3, hfz25_0, hfz25_1, hfz25_2, hfz25_3⟩ := cells4 BK101.out) | ((with_reducible refine gate_callee (f := 38) rfl ?_); refine goesL_ (some 28) rfl rfl Try.func38 (by kernel_rfl) rfl #[.slice A0_3 l0_3.length c0_3] rfl argx ?_; (with_reducible refine (slices_Clone.calls _ _ l0_3 t106 _ ?side1 ?side2 A17.out).mono ?_); (case side1 => repeat (first | exact (Kd.C_below HR0_3.out HB.out) | (with_reducible refine Kd.C_alloc ?_ _) | (with_reducible refine Kd.C_drewN ?_ _) | (with_reducible refine Kd.C_drew ?_))); (case side2 => exact HC0_3.out); rintro e w26 ⟨v107, rfl, ho0, hb⟩; refine ⟨_, rfl, ?_⟩; have qb_ := below_both bel hb; have n0_ := Aside0.mk (Kd.R_lower ho0 qb_.2); have n1_ := Aside0.mk (blk_below (g := gb101) (o := .cells #[.int .i64 a0_0, .int .i64 a0_1, .int .i64 a0_2, .slice A0_3 l0_3.length c0_3] 25 (0, 0)) blkx hb); have n2_ := Aside0.mk (blk_below (g := gb102) (o := .cells #[.int .i64 0, .int .i64 0, .int .i64 0, .slice none 0 0] 25 (0, 0)) blkx hb); have n3_ := Aside0.mk (qb_.1); clear BK101; clear BK102; clear HB; have HO108 := n0_; have BK101 := n1_; have BK102 := n2_; have HB := n3_; clear qb_; clear n0_ n1_ n2_ n3_; (try clear hb); (try clear hb2); (try clear hk); (try clear hi); (try clear ho0); obtain ⟨hcz27_0, hcz27_1, hcz27_2, hcz27_3, hfz27_0, hfz27_1, hfz27_2, hfz27_3⟩ := cells4 BK101.out; obtain ⟨Ao28, co28, eo28⟩ := Kd.R_slice HO108.out; subst eo28; obtain ⟨hcz29_0, hcz29_1, hcz29_2, hcz29_3, hfz29_0, hfz29_1, hfz29_2, hfz29_3⟩ := cells4 BK102.out))
    refine bodyPost_ret (results_ct rfl _ _ gb102 25 #[.int .i64 a0_0, .int .i64 a1, .int .i64 a0_2, .slice Ao28 t106.length co28] (0, 0) _ rfl (by (with_reducible repeat (first | refine blk_drewN ?_ _ | refine blk_drew ?_ | refine blk_alloc ?_ _)); refine blk_put (cs := #[.int .i64 a0_0, .int .i64 a1, .int .i64 a0_2, .slice none 0 0]) ?_ 3 _ rfl; refine blk_put (cs := #[.int .i64 a0_0, .int .i64 a1, .int .i64 0, .slice none 0 0]) ?_ 2 _ rfl; refine blk_put (cs := #[.int .i64 a0_0, .int .i64 0, .int .i64 0, .slice none 0 0]) ?_ 1 _ rfl; refine blk_put (cs := #[.int .i64 0, .int .i64 0, .int .i64 0, .slice none 0 0]) ?_ 0 _ rfl; refine blk_far ?_ NB102_101.out _; refine blk_far ?_ NB102_101.out _; (with_reducible repeat (first | refine blk_drewN ?_ _ | refine blk_drew ?_ | refine blk_alloc ?_ _)); exact BK102.out) Try.underlying25 rfl (by kernel_rfl)) rfl ?_
    exact ⟨_, by first | rfl | (simp [errW_none, errW_some] <;> rfl) | (simp [*, errW_none, errW_some] <;> rfl), by (with_reducible repeat (first | apply Kd.R_alloc | apply Kd.R_drewN | apply Kd.R_drew)); exact Kd.R_mono (Kd.R_far (p := ⟨gb102, 3, none⟩) (Kd.R_far (p := ⟨gb102, 2, none⟩) (Kd.R_far (p := ⟨gb102, 1, none⟩) (Kd.R_far (p := ⟨gb102, 0, none⟩) (Kd.R_far (p := ⟨gb101, 3, none⟩) (Kd.R_far (p := ⟨gb101, 1, none⟩) (Kd.R_types (Kd.R_types HO108.out BK101.out (by decide)) BK102.out (by decide)) (fun _ hk => hk.1.2) (.int .i64 a1)) (fun _ hk => hk.1.2) (.slice Ao28 t106.length co28)) (fun _ hk => hk.2) (.int .i64 a0_0)) (fun _ hk => hk.2) (.int .i64 a1)) (fun _ hk => hk.2) (.int .i64 a0_2)) (fun _ hk => hk.2) (.slice Ao28 t106.length co28)) (fun _ hk => trivial), bel⟩
  ·replace c6 := Bool.eq_false_iff.mpr c6
   subst c6
   have H1 : (some (0, 0, 0, ([] : List (S39)), 2)) = some (r1, r2, r3, r4, r5) := by rw [if_neg (show ¬ (false = true) by decide)] at H; exact H
   clear H
   have H := H1
   clear H1
   simp only [Option.some.injEq, Prod.mk.injEq] at H
   obtain ⟨rfl, rfl, rfl, rfl, rfl⟩ := H
   go_enter Try.func24, Try.ntmps24
   go_wp2_with (first | ((with_reducible refine gate_dst (N := 2) rfl ?_); refine box_event ?hg (N := 2) ?hd (cs := #[.int .i64 a0_0, .int .i64 a0_1, .int .i64 a0_2, .slice A0_3 l0_3.length c0_3]) (t := 25) ?hr ?_; (case hd => rfl); (case hg => rfl); (case hr => first | (go_simp; done) | (go_simp; rfl)); intro gb101 hg w30 hbox hb; have qb_ := below_both bel hb; have n0_ := Aside0.mk (qb_.1); have n1_ := Aside0.mk (hbox); have n3_ := Aside0.mk ((by rw [hg]; exact qb_.2 : w.heap.size ≤ gb101)); clear HB; have HB := n0_; have BK101 := n1_; have GE101 := n3_; clear qb_; clear n0_ n1_ n3_; clear hb hbox hg) | ((with_reducible refine gate_dst (N := 4) rfl ?_); refine box_event ?hg (N := 4) ?hd (cs := #[.int .i64 0, .int .i64 0, .int .i64 0, .slice none 0 0]) (t := 25) ?hr ?_; (case hd => rfl); (case hg => rfl); (case hr => first | (go_simp; done) | (go_simp; rfl)); intro gb102 hg w31 hbox hb; have qb_ := below_both bel hb; have q1_ := blk_below2 (g := gb101) (o := .cells #[.int .i64 a0_0, .int .i64 a0_1, .int .i64 a0_2, .slice A0_3 l0_3.length c0_3] 25 (0, 0)) blkx hb; have n0_ := Aside0.mk (q1_.1); have n1_ := Aside0.mk (qb_.1); have n2_ := Aside0.mk (hbox); have n4_ := Aside0.mk ((by rw [hg]; exact qb_.2 : w.heap.size ≤ gb102)); have n5_ := Aside0.mk ((by rw [hg]; exact Nat.ne_of_lt q1_.2 : gb101 ≠ gb102)); have n6_ := Aside0.mk (Ne.symm n5_.out); clear BK101; clear HB; have BK101 := n0_; have HB := n1_; have BK102 := n2_; have GE102 := n4_; have NB101_102 := n5_; have NB102_101 := n6_; clear q1_; clear qb_; clear n0_ n1_ n2_ n4_ n5_ n6_; clear hb hbox hg; have hnb32 := NB101_102.out; have hnc32 := NB102_101.out; obtain ⟨hcz33_0, hcz33_1, hcz33_2, hcz33_3, hfz33_0, hfz33_1, hfz33_2, hfz33_3⟩ := cells4 BK101.out) | ((with_reducible refine gate_callee (f := 11) rfl ?_); refine goesL_ (some 8) rfl rfl Try.func11 (by kernel_rfl) rfl #[.agg #[.int .i64 a0_0, .int .i64 a0_1, .int .i64 a0_2, .slice A0_3 l0_3.length c0_3]] rfl argx ?_; (with_reducible refine (guarantee_Validate.calls k a0_0 a0_1 a0_2 _ _ l0_3 t103 _ ?side1 ?side2 A3.out).mono ?_); (case side1 => repeat (first | exact (Kd.C_below HR0_3.out HB.out) | (with_reducible refine Kd.C_alloc ?_ _) | (with_reducible refine Kd.C_drewN ?_ _) | (with_reducible refine Kd.C_drew ?_))); (case side2 => exact HC0_3.out); rintro e w34 ⟨rfl, hb⟩; refine ⟨_, rfl, ?_⟩; have n0_ := Aside0.mk (blk_below (g := gb101) (o := .cells #[.int .i64 a0_0, .int .i64 a0_1, .int .i64 a0_2, .slice A0_3 l0_3.length c0_3] 25 (0, 0)) blkx hb); have n1_ := Aside0.mk (blk_below (g := gb102) (o := .cells #[.int .i64 0, .int .i64 0, .int .i64 0, .slice none 0 0] 25 (0, 0)) blkx hb); have n2_ := Aside0.mk (below_step bel hb); clear BK101; clear BK102; clear HB; have BK101 := n0_; have BK102 := n1_; have HB := n2_; clear n0_ n1_ n2_; (try clear hb); (try clear hb2); (try clear hk); (try clear hi)) | ((with_reducible refine gate_callee (f := 34) rfl ?_); refine goesL_ (some 15) rfl rfl Try.func34 (by kernel_rfl) rfl #[.int .i64 a1, .int .i64 0, .int .i64 1000000000000] rfl argx ?_; (with_reducible refine (guarantee_within_int.calls a1 0 1000000000000 false _ A5.out).mono ?_); rintro e w' ⟨rfl, ⟨nd, rfl⟩⟩; refine ⟨_, rfl, ?_⟩; (try (rw [drewN_self w34]; generalize hq_ : World.drewN w34 _ = w34; have n0_ : Aside0 (w34.heap[gb101]? = some (.cells #[.int .i64 a0_0, .int .i64 a0_1, .int .i64 a0_2, .slice A0_3 l0_3.length c0_3] 25 (0, 0))) := ⟨by rw [← hq_]; exact blkx⟩; have n1_ : Aside0 (w34.heap[gb102]? = some (.cells #[.int .i64 0, .int .i64 0, .int .i64 0, .slice none 0 0] 25 (0, 0))) := ⟨by rw [← hq_]; exact blkx⟩; have n2_ : Aside0 (Below w.heap.size w w34) := ⟨by rw [← hq_]; exact bel⟩; clear BK101 BK102 HB hq_; have BK101 := n0_; have BK102 := n1_; have HB := n2_; clear n0_ n1_ n2_)); obtain ⟨hcz35_0, hcz35_1, hcz35_2, hcz35_3, hfz35_0, hfz35_1, hfz35_2, hfz35_3⟩ := cells4 BK102.out))
   refine bodyPost_ret (results_ct rfl _ _ gb102 25 #[.int .i64 0, .int .i64 0, .int .i64 0, .slice none 0 0] (0, 0) _ rfl (by (with_reducible repeat (first | refine blk_drewN ?_ _ | refine blk_drew ?_ | refine blk_alloc ?_ _)); refine blk_put (cs := #[.int .i64 0, .int .i64 0, .int .i64 0, .slice none 0 0]) ?_ 3 _ rfl; refine blk_put (cs := #[.int .i64 0, .int .i64 0, .int .i64 0, .slice none 0 0]) ?_ 2 _ rfl; refine blk_put (cs := #[.int .i64 0, .int .i64 0, .int .i64 0, .slice none 0 0]) ?_ 1 _ rfl; refine blk_put (cs := #[.int .i64 0, .int .i64 0, .int .i64 0, .slice none 0 0]) ?_ 0 _ rfl; (with_reducible repeat (first | refine blk_drewN ?_ _ | refine blk_drew ?_ | refine blk_alloc ?_ _)); exact BK102.out) Try.underlying25 rfl (by kernel_rfl)) rfl ?_
   exact ⟨_, by first | rfl | (simp [errW_none, errW_some] <;> rfl) | (simp [*, errW_none, errW_some] <;> rfl), by first | exact Kd.R_nil _ _ _ _ _ | exact Kd.N_nil _ _ _ _ _ | exact Kd.V_nil _ _ _ _ _ | exact Kd.Q_nil _ _ _ _ _ | exact Kd.S_nil _ _ _ _ _, bel⟩
 ·rw [if_neg c4] at H
  have c4b0 : (t103 == 0) = false := beq_eq_false_iff_ne.mpr c4
  have c4b1 : (t103 != 0) = true := bne_iff_ne.mpr c4
  simp only [Option.some.injEq, Prod.mk.injEq] at H
  obtain ⟨rfl, rfl, rfl, rfl, rfl⟩ := H
  go_enter Try.func24, Try.ntmps24
  go_wp2_with (first | ((with_reducible refine gate_dst (N := 2) rfl ?_); refine box_event ?hg (N := 2) ?hd (cs := #[.int .i64 a0_0, .int .i64 a0_1, .int .i64 a0_2, .slice A0_3 l0_3.length c0_3]) (t := 25) ?hr ?_; (case hd => rfl); (case hg => rfl); (case hr => first | (go_simp; done) | (go_simp; rfl)); intro gb101 hg w36 hbox hb; have qb_ := below_both bel hb; have n0_ := Aside0.mk (qb_.1); have n1_ := Aside0.mk (hbox); have n3_ := Aside0.mk ((by rw [hg]; exact qb_.2 : w.heap.size ≤ gb101)); clear HB; have HB := n0_; have BK101 := n1_; have GE101 := n3_; clear qb_; clear n0_ n1_ n3_; clear hb hbox hg) | ((with_reducible refine gate_dst (N := 4) rfl ?_); refine box_event ?hg (N := 4) ?hd (cs := #[.int .i64 0, .int .i64 0, .int .i64 0, .slice none 0 0]) (t := 25) ?hr ?_; (case hd => rfl); (case hg => rfl); (case hr => first | (go_simp; done) | (go_simp; rfl)); intro gb102 hg w37 hbox hb; have qb_ := below_both bel hb; have q1_ := blk_below2 (g := gb101) (o := .cells #[.int .i64 a0_0, .int .i64 a0_1, .int .i64 a0_2, .slice A0_3 l0_3.length c0_3] 25 (0, 0)) blkx hb; have n0_ := Aside0.mk (q1_.1); have n1_ := Aside0.mk (qb_.1); have n2_ := Aside0.mk (hbox); have n4_ := Aside0.mk ((by rw [hg]; exact qb_.2 : w.heap.size ≤ gb102)); have n5_ := Aside0.mk ((by rw [hg]; exact Nat.ne_of_lt q1_.2 : gb101 ≠ gb102)); have n6_ := Aside0.mk (Ne.symm n5_.out); clear BK101; clear HB; have BK101 := n0_; have HB := n1_; have BK102 := n2_; have GE102 := n4_; have NB101_102 := n5_; have NB102_101 := n6_; clear q1_; clear qb_; clear n0_ n1_ n2_ n4_ n5_ n6_; clear hb hbox hg; have hnb38 := NB101_102.out; have hnc38 := NB102_101.out; obtain ⟨hcz39_0, hcz39_1, hcz39_2, hcz39_3, hfz39_0, hfz39_1, hfz39_2, hfz39_3⟩ := cells4 BK101.out) | ((with_reducible refine gate_callee (f := 11) rfl ?_); refine goesL_ (some 8) rfl rfl Try.func11 (by kernel_rfl) rfl #[.agg #[.int .i64 a0_0, .int .i64 a0_1, .int .i64 a0_2, .slice A0_3 l0_3.length c0_3]] rfl argx ?_; (with_reducible refine (guarantee_Validate.calls k a0_0 a0_1 a0_2 _ _ l0_3 t103 _ ?side1 ?side2 A3.out).mono ?_); (case side1 => repeat (first | exact (Kd.C_below HR0_3.out HB.out) | (with_reducible refine Kd.C_alloc ?_ _) | (with_reducible refine Kd.C_drewN ?_ _) | (with_reducible refine Kd.C_drew ?_))); (case side2 => exact HC0_3.out); rintro e w40 ⟨rfl, hb⟩; refine ⟨_, rfl, ?_⟩; have n1_ := Aside0.mk (blk_below (g := gb102) (o := .cells #[.int .i64 0, .int .i64 0, .int .i64 0, .slice none 0 0] 25 (0, 0)) blkx hb); have n2_ := Aside0.mk (below_step bel hb); (try clear BK101); clear BK102; clear HB; have BK102 := n1_; have HB := n2_; clear n1_ n2_; (try clear hb); (try clear hb2); (try clear hk); (try clear hi); obtain ⟨hcz41_0, hcz41_1, hcz41_2, hcz41_3, hfz41_0, hfz41_1, hfz41_2, hfz41_3⟩ := cells4 BK102.out))
  refine bodyPost_ret (results_ct rfl _ _ gb102 25 #[.int .i64 0, .int .i64 0, .int .i64 0, .slice none 0 0] (0, 0) _ rfl (by (with_reducible repeat (first | refine blk_drewN ?_ _ | refine blk_drew ?_ | refine blk_alloc ?_ _)); refine blk_put (cs := #[.int .i64 0, .int .i64 0, .int .i64 0, .slice none 0 0]) ?_ 3 _ rfl; refine blk_put (cs := #[.int .i64 0, .int .i64 0, .int .i64 0, .slice none 0 0]) ?_ 2 _ rfl; refine blk_put (cs := #[.int .i64 0, .int .i64 0, .int .i64 0, .slice none 0 0]) ?_ 1 _ rfl; refine blk_put (cs := #[.int .i64 0, .int .i64 0, .int .i64 0, .slice none 0 0]) ?_ 0 _ rfl; (with_reducible repeat (first | refine blk_drewN ?_ _ | refine blk_drew ?_ | refine blk_alloc ?_ _)); exact BK102.out) Try.underlying25 rfl (by kernel_rfl)) rfl ?_
  exact ⟨_, by first | rfl | (simp [errW_none, errW_some] <;> rfl) | (simp [*, errW_none, errW_some] <;> rfl), by first | exact Kd.R_nil _ _ _ _ _ | exact Kd.N_nil _ _ _ _ _ | exact Kd.V_nil _ _ _ _ _ | exact Kd.Q_nil _ _ _ _ _ | exact Kd.S_nil _ _ _ _ _, bel⟩
def customslaw23_GuaranteeSet.f (k : Nat) (l0 : List Int) (a1_0 : Int) (a1_1 : Int) (a1_2 : Int) (l1_3 : List (S39)) (a2 : Int) (a3 : Int) (a4 : Bool) : Option (Bool) := if a4 = true then ((guarantee_Set.f k a1_0 a1_1 a1_2 l1_3 a2 a3).bind fun bt119 => ((customsref21_Set.f k a1_0 a1_1 a1_2 l1_3 a2 a3).bind fun bt127 => ((guarantee_Release.f k a1_0 a1_1 a1_2 l1_3 a2).bind fun bt135 => ((customsref21_Release.f k a1_0 a1_1 a1_2 l1_3 a2).bind fun bt143 => ((guarantee_Resize.f k a1_0 a1_1 a1_2 l1_3 a3).bind fun bt151 => ((customsref21_Resize.f k a1_0 a1_1 a1_2 l1_3 a3).bind fun bt159 => (if bt119.2.2.2.2 = bt127.2.2.2.2 then ((customsref21_SameGuarantee.f k bt119.1 bt119.2.1 bt119.2.2.1 bt119.2.2.2.1 bt127.1 bt127.2.1 bt127.2.2.1 bt127.2.2.2.1).bind fun t167 => (if t167 = true then (if bt135.2.2.2.2 = bt143.2.2.2.2 then ((customsref21_SameGuarantee.f k bt135.1 bt135.2.1 bt135.2.2.1 bt135.2.2.2.1 bt143.1 bt143.2.1 bt143.2.2.1 bt143.2.2.2.1).bind fun t168 => (if t168 = true then (if bt151.2.2.2.2 = bt159.2.2.2.2 then ((customsref21_SameGuarantee.f k bt151.1 bt151.2.1 bt151.2.2.1 bt151.2.2.2.1 bt159.1 bt159.2.1 bt159.2.2.1 bt159.2.2.2.1).bind fun t169 => (if t169 = true then ((customslaw23_awake.f k).bind fun t170 => (some t170)) else (some false))) else (some false)) else (some false))) else (some false)) else (some false))) else (some false)))))))) else ((customsmade_Guarantee.f k l0).bind fun bt111 => ((customsmade_Within.f a2 12).bind fun t117 => ((customsmade_Within.f a3 400).bind fun t118 => ((guarantee_Set.f k bt111.1 bt111.2.1 bt111.2.2.1 bt111.2.2.2 t117 t118).bind fun bt171 => ((customsref21_Set.f k bt111.1 bt111.2.1 bt111.2.2.1 bt111.2.2.2 t117 t118).bind fun bt179 => ((guarantee_Release.f k bt111.1 bt111.2.1 bt111.2.2.1 bt111.2.2.2 t117).bind fun bt187 => ((customsref21_Release.f k bt111.1 bt111.2.1 bt111.2.2.1 bt111.2.2.2 t117).bind fun bt195 => ((guarantee_Resize.f k bt111.1 bt111.2.1 bt111.2.2.1 bt111.2.2.2 t118).bind fun bt203 => ((customsref21_Resize.f k bt111.1 bt111.2.1 bt111.2.2.1 bt111.2.2.2 t118).bind fun bt211 => (if bt171.2.2.2.2 = bt179.2.2.2.2 then ((customsref21_SameGuarantee.f k bt171.1 bt171.2.1 bt171.2.2.1 bt171.2.2.2.1 bt179.1 bt179.2.1 bt179.2.2.1 bt179.2.2.2.1).bind fun t219 => (if t219 = true then (if bt187.2.2.2.2 = bt195.2.2.2.2 then ((customsref21_SameGuarantee.f k bt187.1 bt187.2.1 bt187.2.2.1 bt187.2.2.2.1 bt195.1 bt195.2.1 bt195.2.2.1 bt195.2.2.2.1).bind fun t220 => (if t220 = true then (if bt203.2.2.2.2 = bt211.2.2.2.2 then ((customsref21_SameGuarantee.f k bt203.1 bt203.2.1 bt203.2.2.1 bt203.2.2.2.1 bt211.1 bt211.2.1 bt211.2.2.1 bt211.2.2.2.1).bind fun t221 => (if t221 = true then ((customslaw23_awake.f k).bind fun t222 => (some t222)) else (some false))) else (some false)) else (some false))) else (some false)) else (some false))) else (some false)))))))))))
end Go.Proofs.Ytakhjhiofmgpnaa.PC
/- Set, Release and Resize of the program and of the reference hand back the same, in plain Lean; the law GuaranteeSet. -/
namespace Go.Proofs.Ytakhjhiofmgpnaa.E
set_option linter.unusedVariables false
set_option linter.unusedSimpArgs false
open Go.RowKit Go.Proofs.YtakhjhiofmgpnaaW.PrintWords Go.Proofs.YtakhjhiofmgpnaaW.PrintLast Go.Proofs.YtakhjhiofmgpnaaW.PrintMore Go.Proofs.Ytakhjhiofmgpnaa.G Go.Proofs.Ytakhjhiofmgpnaa.PA Go.Proofs.Ytakhjhiofmgpnaa.PB Go.Proofs.Ytakhjhiofmgpnaa.PC
/-- The search, whatever the movement. -/
theorem find_any {l : List S39} (ha : asc l) (ho : allOk l) (hl : l.length ≤ 64) (m : Int) (hm : -9223372036854775808 ≤ m ∧ m ≤ 9223372036854775807) :
    ∃ p q : Nat, Place l m p q ∧ ∃ i : Int, guarantee_find.f l m = some (i, decide (q = p + 1)) ∧ (q = p + 1 → i = (p : Int)) := by
  by_cases h : -4611686018427387904 ≤ m ∧ m ≤ 4611686018427387904
  · obtain ⟨p, q, hP, hf⟩ := find_place ha ho (by omega) m h
    exact ⟨p, q, hP, p, hf, fun _ => rfl⟩
  · have hno : ∀ x : Int, 1 ≤ x → x ≤ 1000000 → wrap64 (x - m) ≠ 0 := fun x h1 h2 => by
      unfold wrap64
      omega
    have hf : ∃ i : Int, guarantee_find.f l m = some (i, false) := by
      unfold guarantee_find.f
      rw [if_pos (by omega)]
      refine ⟨((bsi l m l.length 0 l.length : Nat) : Int), ?_⟩
      congr 2
      by_cases hb : bsi l m l.length 0 l.length < l.length
      · have := hno _ (ho _ hb).1.1 (ho _ hb).1.2
        have e : ¬ wrap64 ((rd_T39 l ((bsi l m l.length 0 l.length : Nat) : Int)).f0 - m) = 0 := this
        simp [e]
      · simp [hb]
    obtain ⟨i, hf⟩ := hf
    by_cases hp : 0 < m
    · refine ⟨l.length, l.length, ⟨Nat.le_refl _, Nat.le_refl _, .inl ⟨rfl, fun j hj => ?_⟩, fun j hj => ?_, fun j hj hjl => by omega⟩, i, by rw [hf]; simp, fun h => by omega⟩
      · have := (ho j hj).1; omega
      · have := (ho j hj).1; omega
    · refine ⟨0, 0, ⟨Nat.zero_le _, Nat.zero_le _, .inl ⟨rfl, fun j hj => ?_⟩, fun j hj => by omega, fun j hj hjl => ?_⟩, i, by rw [hf]; simp, fun h => by omega⟩
      · have := (ho j hj).1; omega
      · have := (ho j hjl).1; omega
theorem set_full {a b c : Int} {u : List S39} (hv : vf a b c u = 0) {m t : Int} {p q : Nat} (hP : Place u m p q) (hf : guarantee_find.f u m = some ((p : Int), decide (q = p + 1))) (hm : 1 ≤ m ∧ m ≤ 1000000) (ht : 0 ≤ t ∧ t ≤ 1000000000000) (hroom : q = p + 1 ∨ u.length < 64) :
    Ev (fun k => guarantee_Set.f k a b c u m t) (if oth u m u.length + need t c > b then (0, 0, 0, [], 16) else (a, b, c, put u p q ⟨m, need t c⟩, 0)) := by
  obtain ⟨hh, hlen, ho, ha, htot⟩ := vf_zero.1 hv
  have hn := need_range ht.1 ht.2 hh.2.2.1 hh.2.2.2
  have hle := hP.le
  have hpq : p ≤ q := by rcases hP.pq with ⟨h, _⟩ | ⟨h, _⟩ <;> omega
  have hok := put_ok hP ho hm ⟨hn.1, hn.2.1⟩
  have hsum := sum_ev hok (by rw [put_len hP.le hP.qle]; have := hP.qle; omega)
  rw [put_tot hP] at hsum
  generalize hR : (if oth u m u.length + need t c > b then ((0, 0, 0, [], 16) : Int × Int × Int × List S39 × Int) else (a, b, c, put u p q ⟨m, need t c⟩, 0)) = R
  have fin : Ev (fun k => (guarantee_sum.f k (put u p q ⟨m, need t c⟩)).bind fun t113 => (if t113 > b then (some (0, 0, 0, ([] : List (S39)), 16)) else (some (a, b, c, put u p q ⟨m, need t c⟩, 0)))) R :=
    evBind hsum (evIf (fun h => evNow (by rw [← hR, if_pos h])) (fun h => evNow (by rw [← hR, if_neg h])))
  have hcl : slices_Clone.f u = some u := by unfold slices_Clone.f; rw [if_pos (by omega)]
  unfold guarantee_Set.f
  refine evBind (validate_ev a b c u) (evPos hv (evBind0 (within_in hm) (evPos rfl (evBind (required_in a b c u t ht.1 ht.2 hh.2.2.1 hh.2.2.2) (evPos rfl (evBind0 hf ?_))))))
  rcases hP.pq with ⟨rfl, hno⟩ | ⟨rfl, hfm⟩
  · refine evNeg (by simp) ?_
    show Ev (fun k => guarantee_Set.j0 k m (need t c) (q : Int) (decide (q = q + 1)) ((u.length : Int) == 64) a b c u) R
    rw [show ((u.length : Int) == 64) = false by simp; omega, show decide (q = q + 1) = false by simp]
    refine evShift ?_
    simp only [guarantee_Set.j0]
    refine evNeg (by simp) (evBind0 hcl (evNeg (by simp) (evBind0 (a := put u q q ⟨m, 0⟩) ?_ ?_)))
    · unfold slices_Insert.f put
      rw [if_pos ⟨rfl, by omega, by omega, by omega⟩]
      simp
    · refine evPos (by omega) (evPos (by rw [put_len hP.le hP.qle]; omega) (evBind0 (a := put u q q ⟨m, need t c⟩) ?_ fin))
      rw [Int.toNat_natCast, show (rd_T39 (put u q q ⟨m, 0⟩) (q : Int)) = ⟨m, 0⟩ from put_mid hP.le]
      unfold put
      rw [List.set_append_right _ _ (by simp; omega)]
      simp [Nat.min_eq_left hle]
  · have hpl : p < u.length := by have := hP.qle; omega
    refine evPos (by simp) ?_
    show Ev (fun k => guarantee_Set.j0 k m (need t c) (p : Int) (decide (p + 1 = p + 1)) false a b c u) R
    rw [show decide (p + 1 = p + 1) = true by simp]
    refine evShift ?_
    simp only [guarantee_Set.j0]
    refine evNeg (by simp) (evBind0 hcl (evPos (by simp) (evPos (by omega) (evPos (by omega) (evBind0 (a := put u p (p + 1) ⟨m, need t c⟩) ?_ fin)))))
    rw [Int.toNat_natCast, show (rd_T39 u (p : Int)).f0 = m from hfm, List.set_eq_take_append_cons_drop, if_pos hpl]
    rfl
theorem refset_full {a b c : Int} {u : List S39} (hv : vf a b c u = 0) {m t : Int} {p q : Nat} (hP : Place u m p q) (hm : 1 ≤ m ∧ m ≤ 1000000) (ht : 0 ≤ t ∧ t ≤ 1000000000000) (hroom : q = p + 1 ∨ u.length < 64) :
    Ev (fun k => customsref21_Set.f k a b c u m t) (if oth u m u.length + need t c > b then (0, 0, 0, [], 16) else (a, b, c, put u p q ⟨m, need t c⟩, 0)) := by
  obtain ⟨hh, hlen, ho, ha, htot⟩ := vf_zero.1 hv
  have hn := need_range ht.1 ht.2 hh.2.2.1 hh.2.2.2
  have hr := oth_range ho m u.length (Nat.le_refl _)
  obtain ⟨e1, e2⟩ := flt_place hP
  have hw := without_ev (u := u) m (by omega)
  rw [e1, e2] at hw
  have htf : tf a b c (cut u p q) = oth u m u.length := by rw [tf, if_pos (cut_vf hP hv), cut_tot hP]
  have fin : Ev (fun k => customsref21_Set.j1 k m t (cut u p q) false a b c u) (if oth u m u.length + need t c > b then (0, 0, 0, [], 16) else (a, b, c, put u p q ⟨m, need t c⟩, 0)) := by
    refine evShift ?_
    simp only [customsref21_Set.j1]
    refine evNeg (by simp) (evBind0 (refrequired_in a b c u t ht.1 ht.2 hh.2.2.1 hh.2.2.2) (evBind (reftotal_ev a b c (cut u p q)) ?_))
    rw [htf]
    show Ev (fun k => if wrap64 (oth u m u.length + need t c) > b then _ else _) _
    rw [wrap64_id (x := oth u m u.length + need t c) (by omega) (by omega)]
    refine evIf (fun h => evNow (by rw [if_pos h])) (fun h => ?_)
    rw [if_neg h]
    exact evBind (insert_ev hP (by omega)) (evNow rfl)
  unfold customsref21_Set.f
  refine evBind (refvalid_ev a b c u) (evPos hv (evNeg (by omega) (evNeg (by omega) (evNeg (by omega) ?_))))
  rw [show decide (t > 1000000000000) = false by simp; omega]
  refine evShift ?_
  simp only [customsref21_Set.j0]
  refine evNeg (by simp) (evBind hw ?_)
  rcases hP.pq with ⟨rfl, hno⟩ | ⟨rfl, hfm⟩
  · refine evPos (by simp) ?_
    show Ev (fun k => customsref21_Set.j1 k m t (cut u q q) (decide ((u.length : Int) ≥ 64)) a b c u) _
    rw [show decide ((u.length : Int) ≥ 64) = false by simp; omega]
    exact fin
  · have hpl : p < u.length := by have := hP.qle; omega
    have h1 := (ho p hpl).2.1
    refine evNeg (by rw [if_neg (by omega)]; show ¬ (at_ u p).f1 < 0; omega) fin
theorem set_both (a b c : Int) (u : List S39) (m t : Int) (hm64 : -9223372036854775808 ≤ m ∧ m ≤ 9223372036854775807) :
    ∃ x y z v e, Ev (fun k => guarantee_Set.f k a b c u m t) (x, y, z, v, e) ∧ Ev (fun k => customsref21_Set.f k a b c u m t) (x, y, z, v, e) ∧ v.length ≤ 100 ∧ (e = 0 → vf x y z v = 0) := by
  by_cases hv : vf a b c u = 0
  case neg =>
    refine ⟨0, 0, 0, [], vf a b c u, ?_, ?_, by simp, fun h => absurd h hv⟩
    · unfold guarantee_Set.f
      exact evBind (validate_ev a b c u) (evNeg hv (evNow rfl))
    · unfold customsref21_Set.f
      exact evBind (refvalid_ev a b c u) (evNeg hv (evNow rfl))
  obtain ⟨hh, hlen, ho, ha, htot⟩ := vf_zero.1 hv
  have bad : Ev (fun k => customsref21_Set.j0 k m t true a b c u) (0, 0, 0, [], 2) := by
    refine evShift ?_
    simp only [customsref21_Set.j0]
    exact evPos (by simp) (evNow rfl)
  by_cases hm : 1 ≤ m ∧ m ≤ 1000000
  case neg =>
    refine ⟨0, 0, 0, [], 2, ?_, ?_, by simp, fun h => absurd h (by decide)⟩
    · unfold guarantee_Set.f
      exact evBind (validate_ev a b c u) (evPos hv (evBind0 (within_out hm) (evNeg (by simp) (evNow rfl))))
    · unfold customsref21_Set.f
      exact evBind (refvalid_ev a b c u) (evPos hv (evIf (fun _ => bad) (fun h => evPos (by omega) bad)))
  by_cases ht : 0 ≤ t ∧ t ≤ 1000000000000
  case neg =>
    refine ⟨0, 0, 0, [], 2, ?_, ?_, by simp, fun h => absurd h (by decide)⟩
    · unfold guarantee_Set.f
      exact evBind (validate_ev a b c u) (evPos hv (evBind0 (within_in hm) (evPos rfl (evBind (required_out a b c u t (fun h => ht h.2)) (evNeg (by decide) (evNow rfl))))))
    · unfold customsref21_Set.f
      refine evBind (refvalid_ev a b c u) (evPos hv (evNeg (by omega) (evNeg (by omega) (evIf (fun _ => bad) (fun h => ?_)))))
      rw [show decide (t > 1000000000000) = true by simp; omega]
      exact bad
  obtain ⟨p, q, hP, hf⟩ := find_place ha ho (by omega) m (by omega)
  by_cases hroom : q = p + 1 ∨ u.length < 64
  case neg =>
    have hq : q = p := by rcases hP.pq with ⟨h, _⟩ | ⟨h, _⟩ <;> omega
    have hl64 : u.length = 64 := by omega
    subst hq
    refine ⟨0, 0, 0, [], 8, ?_, ?_, by simp, fun h => absurd h (by decide)⟩
    · unfold guarantee_Set.f
      refine evBind (validate_ev a b c u) (evPos hv (evBind0 (within_in hm) (evPos rfl (evBind (required_in a b c u t ht.1 ht.2 hh.2.2.1 hh.2.2.2) (evPos rfl (evBind0 hf (evNeg (by simp) ?_)))))))
      show Ev (fun k => guarantee_Set.j0 k m (need t c) (q : Int) (decide (q = q + 1)) ((u.length : Int) == 64) a b c u) _
      rw [show ((u.length : Int) == 64) = true by simp; omega]
      refine evShift ?_
      simp only [guarantee_Set.j0]
      exact evPos (by simp) (evNow rfl)
    · obtain ⟨e1, e2⟩ := flt_place hP
      have hw := without_ev (u := u) m (by omega)
      rw [e1, e2, if_pos rfl] at hw
      unfold customsref21_Set.f
      refine evBind (refvalid_ev a b c u) (evPos hv (evNeg (by omega) (evNeg (by omega) (evNeg (by omega) ?_))))
      rw [show decide (t > 1000000000000) = false by simp; omega]
      refine evShift ?_
      simp only [customsref21_Set.j0]
      refine evNeg (by simp) (evBind hw (evPos (by simp) ?_))
      show Ev (fun k => customsref21_Set.j1 k m t (cut u q q) (decide ((u.length : Int) ≥ 64)) a b c u) _
      rw [show decide ((u.length : Int) ≥ 64) = true by simp; omega]
      refine evShift ?_
      simp only [customsref21_Set.j1]
      exact evPos (by simp) (evNow rfl)
  have h1 := set_full hv hP hf hm ht hroom
  have h2 := refset_full hv hP hm ht hroom
  by_cases hx : oth u m u.length + need t c > b
  · rw [if_pos hx] at h1 h2
    exact ⟨_, _, _, _, _, h1, h2, by simp, fun h => absurd h (by decide)⟩
  · rw [if_neg hx] at h1 h2
    have hn := need_range ht.1 ht.2 hh.2.2.1 hh.2.2.2
    have hp := hP.le
    have hpq : p ≤ q := by rcases hP.pq with ⟨h, _⟩ | ⟨h, _⟩ <;> omega
    have hq := hP.qle
    refine ⟨_, _, _, _, _, h1, h2, ?_, fun _ => vf_zero.2 ⟨hh, ?_, put_ok hP ho hm ⟨hn.1, hn.2.1⟩, put_asc hP ha, by rw [put_tot hP]; omega⟩⟩
    · rw [put_len hP.le hP.qle]; omega
    · rw [put_len hP.le hP.qle]; omega
theorem release_both (a b c : Int) (u : List S39) (m : Int) (hm64 : -9223372036854775808 ≤ m ∧ m ≤ 9223372036854775807) :
    ∃ x y z v e, Ev (fun k => guarantee_Release.f k a b c u m) (x, y, z, v, e) ∧ Ev (fun k => customsref21_Release.f k a b c u m) (x, y, z, v, e) ∧ v.length ≤ 100 ∧ (e = 0 → vf x y z v = 0) := by
  by_cases hv : vf a b c u = 0
  case neg =>
    refine ⟨0, 0, 0, [], vf a b c u, ?_, ?_, by simp, fun h => absurd h hv⟩
    · unfold guarantee_Release.f
      exact evBind (validate_ev a b c u) (evNeg hv (evNow rfl))
    · unfold customsref21_Release.f
      exact evBind (refvalid_ev a b c u) (evNeg hv (evNow rfl))
  obtain ⟨hh, hlen, ho, ha, htot⟩ := vf_zero.1 hv
  obtain ⟨p, q, hP, i, hf, hi⟩ := find_any ha ho hlen m hm64
  obtain ⟨e1, e2⟩ := flt_place hP
  have hw := without_ev (u := u) m (by omega)
  rw [e1, e2] at hw
  rcases hP.pq with ⟨rfl, hno⟩ | ⟨rfl, hfm⟩
  · refine ⟨0, 0, 0, [], 6, ?_, ?_, by simp, fun h => absurd h (by decide)⟩
    · unfold guarantee_Release.f
      exact evBind (validate_ev a b c u) (evPos hv (evBind0 hf (evNeg (by simp) (evNow rfl))))
    · unfold customsref21_Release.f
      exact evBind (refvalid_ev a b c u) (evPos hv (evBind hw (evPos (by simp) (evNow rfl))))
  · have hpl : p < u.length := by have := hP.qle; omega
    have h1 := (ho p hpl).2.1
    obtain rfl := hi rfl
    refine ⟨a, b, c, cut u p (p + 1), 0, ?_, ?_, by rw [cut_len hP.le hP.qle]; omega, fun _ => cut_vf hP hv⟩
    · unfold guarantee_Release.f
      refine evBind (validate_ev a b c u) (evPos hv (evBind0 hf (evPos (by simp) (evBind0 (a := u) (by unfold slices_Clone.f; rw [if_pos (by omega)]) (evBind0 (a := cut u p (p + 1)) ?_ (evNow rfl))))))
      show slices_Delete.f u (p : Int) (wrap64 ((p : Int) + 1)) = some (cut u p (p + 1))
      rw [wrap64_id (by omega) (by omega)]
      unfold slices_Delete.f
      rw [if_pos ⟨by omega, by omega, rfl, by omega⟩, Int.toNat_natCast]
      rfl
    · unfold customsref21_Release.f
      exact evBind (refvalid_ev a b c u) (evPos hv (evBind hw (evNeg (by rw [if_neg (by omega)]; show ¬ (at_ u p).f1 < 0; omega) (evNow rfl))))
theorem resize_both (a b c : Int) (u : List S39) (t : Int) :
    ∃ x y z v e, Ev (fun k => guarantee_Resize.f k a b c u t) (x, y, z, v, e) ∧ Ev (fun k => customsref21_Resize.f k a b c u t) (x, y, z, v, e) ∧ v.length ≤ 100 ∧ (e = 0 → vf x y z v = 0) := by
  by_cases hv : vf a b c u = 0
  case neg =>
    refine ⟨0, 0, 0, [], vf a b c u, ?_, ?_, by simp, fun h => absurd h hv⟩
    · unfold guarantee_Resize.f
      exact evBind (validate_ev a b c u) (evNeg hv (evNow rfl))
    · unfold customsref21_Resize.f
      exact evBind (refvalid_ev a b c u) (evNeg hv (evNow rfl))
  obtain ⟨hh, hlen, ho, ha, htot⟩ := vf_zero.1 hv
  by_cases ht : 0 ≤ t ∧ t ≤ 1000000000000
  case neg =>
    have bad : Ev (fun k => customsref21_Resize.j0 k t true a b c u) (0, 0, 0, [], 2) := by
      refine evShift ?_
      simp only [customsref21_Resize.j0]
      exact evPos (by simp) (evNow rfl)
    refine ⟨0, 0, 0, [], 2, ?_, ?_, by simp, fun h => absurd h (by decide)⟩
    · unfold guarantee_Resize.f
      exact evBind (validate_ev a b c u) (evPos hv (evBind0 (within_out ht) (evNeg (by simp) (evNow rfl))))
    · unfold customsref21_Resize.f
      refine evBind (refvalid_ev a b c u) (evPos hv (evIf (fun _ => bad) (fun h => ?_)))
      rw [show decide (t > 1000000000000) = true by simp; omega]
      exact bad
  have htf : tf a b c u = tot u := by rw [tf, if_pos hv]
  have g1 : ∀ {R}, Ev (fun k => if tot u > t then (some (0, 0, 0, ([] : List (S39)), 16)) else ((slices_Clone.f u).bind fun t106 => (some (a, t, c, t106, 0)))) R → Ev (fun k => guarantee_Resize.f k a b c u t) R := fun h => by
    unfold guarantee_Resize.f
    exact evBind (validate_ev a b c u) (evPos hv (evBind0 (within_in ht) (evPos rfl (evBind (sum_ev ho hlen) h))))
  have g2 : ∀ {R}, Ev (fun k => if tot u > t then (some (0, 0, 0, ([] : List (S39)), 16)) else ((some (([] : List (S39)) : List (S39))).bind fun y284 => (if y284.length + u.length < 8796093022208 then (some (a, t, c, (y284 ++ u), 0)) else (none)))) R → Ev (fun k => customsref21_Resize.f k a b c u t) R := fun h => by
    unfold customsref21_Resize.f
    refine evBind (refvalid_ev a b c u) (evPos hv (evNeg (by omega) ?_))
    rw [show decide (t > 1000000000000) = false by simp; omega]
    refine evShift ?_
    simp only [customsref21_Resize.j0]
    refine evNeg (by simp) (evBind (reftotal_ev a b c u) ?_)
    rw [htf]
    exact h
  by_cases hx : tot u > t
  · exact ⟨0, 0, 0, [], 16, g1 (evPos hx (evNow rfl)), g2 (evPos hx (evNow rfl)), by simp, fun h => absurd h (by decide)⟩
  · refine ⟨a, t, c, u, 0, g1 (evNeg hx (evBind0 (a := u) (by unfold slices_Clone.f; rw [if_pos (by omega)]) (evNow rfl))), g2 (evNeg hx (evBind0 rfl (evPos (by simp; omega) (evNow (by simp))))), by omega, fun _ => vf_zero.2 ⟨⟨hh.1, ht, hh.2.2⟩, hlen, ho, ha, by omega⟩⟩
end Go.Proofs.Ytakhjhiofmgpnaa.E
-- Written by a program of this claim (wip/tools: mkprint.py, pr.sh) out of the translation: plain functions and their contracts. Lean checks every line.
namespace Go.Proofs.Ytakhjhiofmgpnaa.PG
open Go.RowKit Go.Proofs.YtakhjhiofmgpnaaW.PrintWords Go.Proofs.YtakhjhiofmgpnaaW.PrintLast Go.Proofs.YtakhjhiofmgpnaaW.PrintMore Go.Proofs.Ytakhjhiofmgpnaa.G Go.Proofs.Ytakhjhiofmgpnaa.PA Go.Proofs.Ytakhjhiofmgpnaa.PB Go.Proofs.Ytakhjhiofmgpnaa.PC
attribute [local go_sem] max2_int min2_int max_two min_two max_three min_three max_four min_four   -- for this text's walks alone
set_option linter.unusedVariables false
set_option linter.unusedSimpArgs false
def errW : Option Int → Value
 | none => .nilIface
 | some c => .iface 0 (.int .i64 c)
theorem errW_none : errW none = .nilIface := rfl
theorem errW_some (c : Int) : errW (some c) = .iface 0 (.int .i64 c) := rfl
-- the values' own types
end Go.Proofs.Ytakhjhiofmgpnaa.PG
-- Written by a program of this claim (wip/tools: mkprint.py, pr.sh) out of the translation: plain functions and their contracts. Lean checks every line.
namespace Go.Proofs.Ytakhjhiofmgpnaa.PG
open Go.RowKit Go.Proofs.YtakhjhiofmgpnaaW.PrintWords Go.Proofs.YtakhjhiofmgpnaaW.PrintLast Go.Proofs.YtakhjhiofmgpnaaW.PrintMore Go.Proofs.Ytakhjhiofmgpnaa.G Go.Proofs.Ytakhjhiofmgpnaa.PA Go.Proofs.Ytakhjhiofmgpnaa.PB Go.Proofs.Ytakhjhiofmgpnaa.PC
attribute [local go_sem] max2_int min2_int max_two min_two max_three min_three max_four min_four   -- for this text's walks alone
set_option linter.unusedVariables false
set_option linter.unusedSimpArgs false
def guarantee_step.f (k : Nat) (a0_0 : Int) (a0_1 : Int) (a0_2 : Int) (l0_3 : List (S39)) (a1_0 : Int) (a1_1 : Int) (a1_2 : Int) : Option (Int × Int × Int × (List (S39)) × Int) := if a1_0 = 1 then ((guarantee_Set.f k a0_0 a0_1 a0_2 l0_3 a1_1 a1_2).bind fun bt104 => (some (bt104.1, bt104.2.1, bt104.2.2.1, bt104.2.2.2.1, bt104.2.2.2.2))) else (if a1_0 = 2 then ((guarantee_Release.f k a0_0 a0_1 a0_2 l0_3 a1_1).bind fun bt111 => (some (bt111.1, bt111.2.1, bt111.2.2.1, bt111.2.2.2.1, bt111.2.2.2.2))) else (if a1_0 = 3 then ((guarantee_Resize.f k a0_0 a0_1 a0_2 l0_3 a1_2).bind fun bt118 => (some (bt118.1, bt118.2.1, bt118.2.2.1, bt118.2.2.2.1, bt118.2.2.2.2))) else ((guarantee_Validate.f k a0_0 a0_1 a0_2 l0_3).bind fun t125 => (if t125 = 0 then (none) else (none)))))
set_option maxHeartbeats 8000000 in
set_option maxRecDepth 100000 in
theorem guarantee_step.calls (k : Nat) (a0_0 : Int) (a0_1 : Int) (a0_2 : Int) (A0_3 : Option Addr) (c0_3 : Nat) (l0_3 : List (S39)) (a1_0 : Int) (a1_1 : Int) (a1_2 : Int) (r1 : Int) (r2 : Int) (r3 : Int) (r4 : List (S39)) (r5 : Int) (w : World) (hr0_3 : Kd.C k39 w A0_3 l0_3.length l0_3) (hc0_3 : l0_3.length ≤ c0_3) (h : guarantee_step.f k a0_0 a0_1 a0_2 l0_3 a1_0 a1_1 a1_2 = some (r1, r2, r3, r4, r5)) :
  Calls Try.prog 44 #[.agg #[.int .i64 a0_0, .int .i64 a0_1, .int .i64 a0_2, .slice A0_3 l0_3.length c0_3], .agg #[.int .i64 a1_0, .int .i64 a1_1, .int .i64 a1_2]] w fun e w' => ∃ v3_ : Value, e = .returned (.tuple #[.agg #[.int .i64 r1, .int .i64 r2, .int .i64 r3, v3_], .int .i64 r5]) ∧ Kd.R k39 39 w' w.heap.size (fun _ => True) v3_ r4 ∧ Below w.heap.size w w' := by
 have hu25 := Try.underlying25
 have hu74 := Try.underlying74
 have HR0_3 := Aside0.mk hr0_3
 have HC0_3 := Aside0.mk hc0_3
 clear hr0_3 hc0_3
 have HB := Aside0.mk (Below.refl w.heap.size w)
 have H : (if a1_0 = 1 then ((guarantee_Set.f k a0_0 a0_1 a0_2 l0_3 a1_1 a1_2).bind fun bt104 => (some (bt104.1, bt104.2.1, bt104.2.2.1, bt104.2.2.2.1, bt104.2.2.2.2))) else (if a1_0 = 2 then ((guarantee_Release.f k a0_0 a0_1 a0_2 l0_3 a1_1).bind fun bt111 => (some (bt111.1, bt111.2.1, bt111.2.2.1, bt111.2.2.2.1, bt111.2.2.2.2))) else (if a1_0 = 3 then ((guarantee_Resize.f k a0_0 a0_1 a0_2 l0_3 a1_2).bind fun bt118 => (some (bt118.1, bt118.2.1, bt118.2.2.1, bt118.2.2.2.1, bt118.2.2.2.2))) else ((guarantee_Validate.f k a0_0 a0_1 a0_2 l0_3).bind fun t125 => (if t125 = 0 then (none) else (none)))))) = some (r1, r2, r3, r4, r5) := h
 clear h
 by_cases c3 : a1_0 = 1
 ·rw [if_pos c3] at H
  have c3b0 : (a1_0 == 1) = true := beq_iff_eq.mpr c3
  have c3b1 : (a1_0 != 1) = false := bne_eq_false_iff_eq.mpr c3
  clear c3
  replace H := Option.bind_eq_some_iff.mp H
  obtain ⟨⟨t104, t105, t106, t107, t110⟩, A40, H⟩ := H
  replace H : (some (t104, t105, t106, t107, t110)) = some (r1, r2, r3, r4, r5) := H
  have A4 := Aside0.mk A40
  clear A40
  simp only [Option.some.injEq, Prod.mk.injEq] at H
  obtain ⟨rfl, rfl, rfl, rfl, rfl⟩ := H
  go_enter Try.func44, Try.ntmps44
  go_wp2_with (first | ((with_reducible refine gate_dst (N := 2) rfl ?_); refine box_event ?hg (N := 2) ?hd (cs := #[.int .i64 a0_0, .int .i64 a0_1, .int .i64 a0_2, .slice A0_3 l0_3.length c0_3]) (t := 25) ?hr ?_; (case hd => rfl); (case hg => rfl); (case hr => first | (go_simp; done) | (go_simp; rfl)); intro gb101 hg w5 hbox hb; have qb_ := below_both bel hb; have n0_ := Aside0.mk (qb_.1); have n1_ := Aside0.mk (hbox); have n3_ := Aside0.mk ((by rw [hg]; exact qb_.2 : w.heap.size ≤ gb101)); clear HB; have HB := n0_; have BK101 := n1_; have GE101 := n3_; clear qb_; clear n0_ n1_ n3_; clear hb hbox hg) | ((with_reducible refine gate_dst (N := 3) rfl ?_); refine box_event ?hg (N := 3) ?hd (cs := #[.int .i64 a1_0, .int .i64 a1_1, .int .i64 a1_2]) (t := 74) ?hr ?_; (case hd => rfl); (case hg => rfl); (case hr => first | (go_simp; done) | (go_simp; rfl)); intro gb102 hg w6 hbox hb; have qb_ := below_both bel hb; have q1_ := blk_below2 (g := gb101) (o := .cells #[.int .i64 a0_0, .int .i64 a0_1, .int .i64 a0_2, .slice A0_3 l0_3.length c0_3] 25 (0, 0)) blkx hb; have n0_ := Aside0.mk (q1_.1); have n1_ := Aside0.mk (qb_.1); have n2_ := Aside0.mk (hbox); have n4_ := Aside0.mk ((by rw [hg]; exact qb_.2 : w.heap.size ≤ gb102)); have n5_ := Aside0.mk ((by rw [hg]; exact Nat.ne_of_lt q1_.2 : gb101 ≠ gb102)); have n6_ := Aside0.mk (Ne.symm n5_.out); clear BK101; clear HB; have BK101 := n0_; have HB := n1_; have BK102 := n2_; have GE102 := n4_; have NB101_102 := n5_; have NB102_101 := n6_; clear q1_; clear qb_; clear n0_ n1_ n2_ n4_ n5_ n6_; clear hb hbox hg) | ((with_reducible refine gate_dst (N := 4) rfl ?_); refine box_event ?hg (N := 4) ?hd (cs := #[.int .i64 0, .int .i64 0, .int .i64 0, .slice none 0 0]) (t := 25) ?hr ?_; (case hd => rfl); (case hg => rfl); (case hr => first | (go_simp; done) | (go_simp; rfl)); intro gb103 hg w7 hbox hb; have qb_ := below_both bel hb; have q1_ := blk_below2 (g := gb101) (o := .cells #[.int .i64 a0_0, .int .i64 a0_1, .int .i64 a0_2, .slice A0_3 l0_3.length c0_3] 25 (0, 0)) blkx hb; have n0_ := Aside0.mk (q1_.1); have q2_ := blk_below2 (g := gb102) (o := .cells #[.int .i64 a1_0, .int .i64 a1_1, .int .i64 a1_2] 74 (0, 0)) blkx hb; have n1_ := Aside0.mk (q2_.1); have n2_ := Aside0.mk (qb_.1); have n3_ := Aside0.mk (hbox); have n5_ := Aside0.mk ((by rw [hg]; exact qb_.2 : w.heap.size ≤ gb103)); have n6_ := Aside0.mk ((by rw [hg]; exact Nat.ne_of_lt q1_.2 : gb101 ≠ gb103)); have n7_ := Aside0.mk (Ne.symm n6_.out); have n8_ := Aside0.mk ((by rw [hg]; exact Nat.ne_of_lt q2_.2 : gb102 ≠ gb103)); have n9_ := Aside0.mk (Ne.symm n8_.out); clear BK101; clear BK102; clear HB; have BK101 := n0_; have BK102 := n1_; have HB := n2_; have BK103 := n3_; have GE103 := n5_; have NB101_103 := n6_; have NB103_101 := n7_; have NB102_103 := n8_; have NB103_102 := n9_; clear q1_ q2_; clear qb_; clear n0_ n1_ n2_ n3_ n5_ n6_ n7_ n8_ n9_; clear hb hbox hg; have hnb8 := NB102_101.out; have hnc8 := NB101_102.out; have hnb9 := NB102_103.out; have hnc9 := NB103_102.out; obtain ⟨hcz10_0, hcz10_1, hcz10_2, hfz10_0, hfz10_1, hfz10_2⟩ := cells3 BK102.out; have hnb11 := NB101_103.out; have hnc11 := NB103_101.out; obtain ⟨hcz12_0, hcz12_1, hcz12_2, hcz12_3, hfz12_0, hfz12_1, hfz12_2, hfz12_3⟩ := cells4 BK101.out) | ((with_reducible refine gate_callee (f := 19) rfl ?_); refine goesL_ (some 16) rfl rfl Try.func19 (by kernel_rfl) rfl #[.agg #[.int .i64 a0_0, .int .i64 a0_1, .int .i64 a0_2, .slice A0_3 l0_3.length c0_3], .int .i64 a1_1, .int .i64 a1_2] rfl argx ?_; (with_reducible refine (guarantee_Set.calls k a0_0 a0_1 a0_2 _ _ l0_3 a1_1 a1_2 t104 t105 t106 t107 t110 _ ?side1 ?side2 A4.out).mono ?_); (case side1 => repeat (first | exact (Kd.C_below HR0_3.out HB.out) | (with_reducible refine Kd.C_alloc ?_ _) | (with_reducible refine Kd.C_drewN ?_ _) | (with_reducible refine Kd.C_drew ?_))); (case side2 => exact HC0_3.out); rintro e w13 ⟨v108, rfl, ho0, hb⟩; refine ⟨_, rfl, ?_⟩; have qb_ := below_both bel hb; have n0_ := Aside0.mk (Kd.R_lower ho0 qb_.2); have n3_ := Aside0.mk (blk_below (g := gb103) (o := .cells #[.int .i64 0, .int .i64 0, .int .i64 0, .slice none 0 0] 25 (0, 0)) blkx hb); have n4_ := Aside0.mk (qb_.1); (try clear BK101); (try clear BK102); clear BK103; clear HB; have HO109 := n0_; have BK103 := n3_; have HB := n4_; clear qb_; clear n0_ n3_ n4_; (try clear hb); (try clear hb2); (try clear hk); (try clear hi); (try clear ho0); obtain ⟨hcz14_0, hcz14_1, hcz14_2, hcz14_3, hfz14_0, hfz14_1, hfz14_2, hfz14_3⟩ := cells4 BK103.out; obtain ⟨Ao15, co15, eo15⟩ := Kd.R_slice HO109.out; subst eo15))
  refine bodyPost_ret (results_ct rfl _ _ gb103 25 #[.int .i64 t104, .int .i64 t105, .int .i64 t106, .slice Ao15 t107.length co15] (0, 0) _ rfl (by (with_reducible repeat (first | refine blk_drewN ?_ _ | refine blk_drew ?_ | refine blk_alloc ?_ _)); refine blk_put (cs := #[.int .i64 t104, .int .i64 t105, .int .i64 t106, .slice none 0 0]) ?_ 3 _ rfl; refine blk_put (cs := #[.int .i64 t104, .int .i64 t105, .int .i64 0, .slice none 0 0]) ?_ 2 _ rfl; refine blk_put (cs := #[.int .i64 t104, .int .i64 0, .int .i64 0, .slice none 0 0]) ?_ 1 _ rfl; refine blk_put (cs := #[.int .i64 0, .int .i64 0, .int .i64 0, .slice none 0 0]) ?_ 0 _ rfl; (with_reducible repeat (first | refine blk_drewN ?_ _ | refine blk_drew ?_ | refine blk_alloc ?_ _)); exact BK103.out) Try.underlying25 rfl (by kernel_rfl)) rfl ?_
  exact ⟨_, by first | rfl | (simp [errW_none, errW_some] <;> rfl) | (simp [*, errW_none, errW_some] <;> rfl), by (with_reducible repeat (first | apply Kd.R_alloc | apply Kd.R_drewN | apply Kd.R_drew)); exact Kd.R_mono (Kd.R_far (p := ⟨gb103, 3, none⟩) (Kd.R_far (p := ⟨gb103, 2, none⟩) (Kd.R_far (p := ⟨gb103, 1, none⟩) (Kd.R_far (p := ⟨gb103, 0, none⟩) (Kd.R_types HO109.out BK103.out (by decide)) (fun _ hk => hk.2) (.int .i64 t104)) (fun _ hk => hk.2) (.int .i64 t105)) (fun _ hk => hk.2) (.int .i64 t106)) (fun _ hk => hk.2) (.slice Ao15 t107.length co15)) (fun _ hk => trivial), bel⟩
 ·rw [if_neg c3] at H
  have c3b0 : (a1_0 == 1) = false := beq_eq_false_iff_ne.mpr c3
  have c3b1 : (a1_0 != 1) = true := bne_iff_ne.mpr c3
  by_cases c16 : a1_0 = 2
  ·rw [if_pos c16] at H
   have c16b0 : (a1_0 == 2) = true := beq_iff_eq.mpr c16
   have c16b1 : (a1_0 != 2) = false := bne_eq_false_iff_eq.mpr c16
   clear c16
   replace H := Option.bind_eq_some_iff.mp H
   obtain ⟨⟨t111, t112, t113, t114, t117⟩, A170, H⟩ := H
   replace H : (some (t111, t112, t113, t114, t117)) = some (r1, r2, r3, r4, r5) := H
   have A17 := Aside0.mk A170
   clear A170
   simp only [Option.some.injEq, Prod.mk.injEq] at H
   obtain ⟨rfl, rfl, rfl, rfl, rfl⟩ := H
   go_enter Try.func44, Try.ntmps44
   go_wp2_with (first | ((with_reducible refine gate_dst (N := 2) rfl ?_); refine box_event ?hg (N := 2) ?hd (cs := #[.int .i64 a0_0, .int .i64 a0_1, .int .i64 a0_2, .slice A0_3 l0_3.length c0_3]) (t := 25) ?hr ?_; (case hd => rfl); (case hg => rfl); (case hr => first | (go_simp; done) | (go_simp; rfl)); intro gb101 hg w18 hbox hb; have qb_ := below_both bel hb; have n0_ := Aside0.mk (qb_.1); have n1_ := Aside0.mk (hbox); have n3_ := Aside0.mk ((by rw [hg]; exact qb_.2 : w.heap.size ≤ gb101)); clear HB; have HB := n0_; have BK101 := n1_; have GE101 := n3_; clear qb_; clear n0_ n1_ n3_; clear hb hbox hg) | ((with_reducible refine gate_dst (N := 3) rfl ?_); refine box_event ?hg (N := 3) ?hd (cs := #[.int .i64 a1_0, .int .i64 a1_1, .int .i64 a1_2]) (t := 74) ?hr ?_; (case hd => rfl); (case hg => rfl); (case hr => first | (go_simp; done) | (go_simp; rfl)); intro gb102 hg w19 hbox hb; have qb_ := below_both bel hb; have q1_ := blk_below2 (g := gb101) (o := .cells #[.int .i64 a0_0, .int .i64 a0_1, .int .i64 a0_2, .slice A0_3 l0_3.length c0_3] 25 (0, 0)) blkx hb; have n0_ := Aside0.mk (q1_.1); have n1_ := Aside0.mk (qb_.1); have n2_ := Aside0.mk (hbox); have n4_ := Aside0.mk ((by rw [hg]; exact qb_.2 : w.heap.size ≤ gb102)); have n5_ := Aside0.mk ((by rw [hg]; exact Nat.ne_of_lt q1_.2 : gb101 ≠ gb102)); have n6_ := Aside0.mk (Ne.symm n5_.out); clear BK101; clear HB; have BK101 := n0_; have HB := n1_; have BK102 := n2_; have GE102 := n4_; have NB101_102 := n5_; have NB102_101 := n6_; clear q1_; clear qb_; clear n0_ n1_ n2_ n4_ n5_ n6_; clear hb hbox hg) | ((with_reducible refine gate_dst (N := 4) rfl ?_); refine box_event ?hg (N := 4) ?hd (cs := #[.int .i64 0, .int .i64 0, .int .i64 0, .slice none 0 0]) (t := 25) ?hr ?_; (case hd => rfl); (case hg => rfl); (case hr => first | (go_simp; done) | (go_simp; rfl)); intro gb103 hg w20 hbox hb; have qb_ := below_both bel hb; have q1_ := blk_below2 (g := gb101) (o := .cells #[.int .i64 a0_0, .int .i64 a0_1, .int .i64 a0_2, .slice A0_3 l0_3.length c0_3] 25 (0, 0)) blkx hb; have n0_ := Aside0.mk (q1_.1); have q2_ := blk_below2 (g := gb102) (o := .cells #[.int .i64 a1_0, .int .i64 a1_1, .int .i64 a1_2] 74 (0, 0)) blkx hb; have n1_ := Aside0.mk (q2_.1); have n2_ := Aside0.mk (qb_.1); have n3_ := Aside0.mk (hbox); have n5_ := Aside0.mk ((by rw [hg]; exact qb_.2 : w.heap.size ≤ gb103)); have n6_ := Aside0.mk ((by rw [hg]; exact Nat.ne_of_lt q1_.2 : gb101 ≠ gb103)); have n7_ := Aside0.mk (Ne.symm n6_.out); have n8_ := Aside0.mk ((by rw [hg]; exact Nat.ne_of_lt q2_.2 : gb102 ≠ gb103)); have n9_ := Aside0.mk (Ne.symm n8_.out); clear BK101; clear BK102; clear HB; have BK101 := n0_; have BK102 := n1_; have HB := n2_; have BK103 := n3_; have GE103 := n5_; have NB101_103 := n6_; have NB103_101 := n7_; have NB102_103 := n8_; have NB103_102 := n9_; clear q1_ q2_; clear qb_; clear n0_ n1_ n2_ n3_ n5_ n6_ n7_ n8_ n9_; clear hb hbox hg; have hnb21 := NB102_101.out; have hnc21 := NB101_102.out; have hnb22 := NB102_103.out; have hnc22 := NB103_102.out; obtain ⟨hcz23_0, hcz23_1, hcz23_2, hfz23_0, hfz23_1, hfz23_2⟩ := cells3 BK102.out; have hnb24 := NB101_103.out; have hnc24 := NB103_101.out; obtain ⟨hcz25_0, hcz25_1, hcz25_2, hcz25_3, hfz25_0, hfz25_1, hfz25_2, hfz25_3⟩ := cells4 BK101.out) | ((with_reducible refine gate_callee (f := 20) rfl ?_); refine goesL_ (some 24) rfl rfl Try.func20 (by kernel_rfl) rfl #[.agg #[.int .i64 a0_0, .int .i64 a0_1, .int .i64 a0_2, .slice A0_3 l0_3.length c0_3], .int .i64 a1_1] rfl argx ?_; (with_reducible refine (guarantee_Release.calls k a0_0 a0_1 a0_2 _ _ l0_3 a1_1 t111 t112 t113 t114 t117 _ ?side1 ?side2 A17.out).mono ?_); (case side1 => repeat (first | exact (Kd.C_below HR0_3.out HB.out) | (with_reducible refine Kd.C_alloc ?_ _) | (with_reducible refine Kd.C_drewN ?_ _) | (with_reducible refine Kd.C_drew ?_))); (case side2 => exact HC0_3.out); rintro e w26 ⟨v115, rfl, ho0, hb⟩; refine ⟨_, rfl, ?_⟩; have qb_ := below_both bel hb; have n0_ := Aside0.mk (Kd.R_lower ho0 qb_.2); have n3_ := Aside0.mk (blk_below (g := gb103) (o := .cells #[.int .i64 0, .int .i64 0, .int .i64 0, .slice none 0 0] 25 (0, 0)) blkx hb); have n4_ := Aside0.mk (qb_.1); (try clear BK101); (try clear BK102); clear BK103; clear HB; have HO116 := n0_; have BK103 := n3_; have HB := n4_; clear qb_; clear n0_ n3_ n4_; (try clear hb); (try clear hb2); (try clear hk); (try clear hi); (try clear ho0); obtain ⟨hcz27_0, hcz27_1, hcz27_2, hcz27_3, hfz27_0, hfz27_1, hfz27_2, hfz27_3⟩ := cells4 BK103.out; obtain ⟨Ao28, co28, eo28⟩ := Kd.R_slice HO116.out; subst eo28))
   refine bodyPost_ret (results_ct rfl _ _ gb103 25 #[.int .i64 t111, .int .i64 t112, .int .i64 t113, .slice Ao28 t114.length co28] (0, 0) _ rfl (by (with_reducible repeat (first | refine blk_drewN ?_ _ | refine blk_drew ?_ | refine blk_alloc ?_ _)); refine blk_put (cs := #[.int .i64 t111, .int .i64 t112, .int .i64 t113, .slice none 0 0]) ?_ 3 _ rfl; refine blk_put (cs := #[.int .i64 t111, .int .i64 t112, .int .i64 0, .slice none 0 0]) ?_ 2 _ rfl; refine blk_put (cs := #[.int .i64 t111, .int .i64 0, .int .i64 0, .slice none 0 0]) ?_ 1 _ rfl; refine blk_put (cs := #[.int .i64 0, .int .i64 0, .int .i64 0, .slice none 0 0]) ?_ 0 _ rfl; (with_reducible repeat (first | refine blk_drewN ?_ _ | refine blk_drew ?_ | refine blk_alloc ?_ _)); exact BK103.out) Try.underlying25 rfl (by kernel_rfl)) rfl ?_
   exact ⟨_, by first | rfl | (simp [errW_none, errW_some] <;> rfl) | (simp [*, errW_none, errW_some] <;> rfl), by (with_reducible repeat (first | apply Kd.R_alloc | apply Kd.R_drewN | apply Kd.R_drew)); exact Kd.R_mono (Kd.R_far (p := ⟨gb103, 3, none⟩) (Kd.R_far (p := ⟨gb103, 2, none⟩) (Kd.R_far (p := ⟨gb103, 1, none⟩) (Kd.R_far (p := ⟨gb103, 0, none⟩) (Kd.R_types HO116.out BK103.out (by decide)) (fun _ hk => hk.2) (.int .i64 t111)) (fun _ hk => hk.2) (.int .i64 t112)) (fun _ hk => hk.2) (.int .i64 t113)) (fun _ hk => hk.2) (.slice Ao28 t114.length co28)) (fun _ hk => trivial), bel⟩
  ·rw [if_neg c16] at H
   have c16b0 : (a1_0 == 2) = false := beq_eq_false_iff_ne.mpr c16
   have c16b1 : (a1_0 != 2) = true := bne_iff_ne.mpr c16
   by_cases c29 : a1_0 = 3
   ·rw [if_pos c29] at H
    have c29b0 : (a1_0 == 3) = true := beq_iff_eq.mpr c29
    have c29b1 : (a1_0 != 3) = false := bne_eq_false_iff_eq.mpr c29
    clear c29
    replace H := Option.bind_eq_some_iff.mp H
    obtain ⟨⟨t118, t119, t120, t121, t124⟩, A300, H⟩ := H
    replace H : (some (t118, t119, t120, t121, t124)) = some (r1, r2, r3, r4, r5) := H
    have A30 := Aside0.mk A300
    clear A300
    simp only [Option.some.injEq, Prod.mk.injEq] at H
    obtain ⟨rfl, rfl, rfl, rfl, rfl⟩ := H
    go_enter Try.func44, Try.ntmps44
    go_wp2_with (first | ((with_reducible refine gate_dst (N := 2) rfl ?_); refine box_event ?hg (N := 2) ?hd (cs := #[.int .i64 a0_0, .int .i64 a0_1, .int .i64 a0_2, .slice A0_3 l0_3.length c0_3]) (t := 25) ?hr ?_; (case hd => rfl); (case hg => rfl); (case hr => first | (go_simp; done) | (go_simp; rfl)); intro gb101 hg w31 hbox hb; have qb_ := below_both bel hb; have n0_ := Aside0.mk (qb_.1); have n1_ := Aside0.mk (hbox); have n3_ := Aside0.mk ((by rw [hg]; exact qb_.2 : w.heap.size ≤ gb101)); clear HB; have HB := n0_; have BK101 := n1_; have GE101 := n3_; clear qb_; clear n0_ n1_ n3_; clear hb hbox hg) | ((with_reducible refine gate_dst (N := 3) rfl ?_); refine box_event ?hg (N := 3) ?hd (cs := #[.int .i64 a1_0, .int .i64 a1_1, .int .i64 a1_2]) (t := 74) ?hr ?_; (case hd => rfl); (case hg => rfl); (case hr => first | (go_simp; done) | (go_simp; rfl)); intro gb102 hg w32 hbox hb; have qb_ := below_both bel hb; have q1_ := blk_below2 (g := gb101) (o := .cells #[.int .i64 a0_0, .int .i64 a0_1, .int .i64 a0_2, .slice A0_3 l0_3.length c0_3] 25 (0, 0)) blkx hb; have n0_ := Aside0.mk (q1_.1); have n1_ := Aside0.mk (qb_.1); have n2_ := Aside0.mk (hbox); have n4_ := Aside0.mk ((by rw [hg]; exact qb_.2 : w.heap.size ≤ gb102)); have n5_ := Aside0.mk ((by rw [hg]; exact Nat.ne_of_lt q1_.2 : gb101 ≠ gb102)); have n6_ := Aside0.mk (Ne.symm n5_.out); clear BK101; clear HB; have BK101 := n0_; have HB := n1_; have BK102 := n2_; have GE102 := n4_; have NB101_102 := n5_; have NB102_101 := n6_; clear q1_; clear qb_; clear n0_ n1_ n2_ n4_ n5_ n6_; clear hb hbox hg) | ((with_reducible refine gate_dst (N := 4) rfl ?_); refine box_event ?hg (N := 4) ?hd (cs := #[.int .i64 0, .int .i64 0, .int .i64 0, .slice none 0 0]) (t := 25) ?hr ?_; (case hd => rfl); (case hg => rfl); (case hr => first | (go_simp; done) | (go_simp; rfl)); intro gb103 hg w33 hbox hb; have qb_ := below_both bel hb; have q1_ := blk_below2 (g := gb101) (o := .cells #[.int .i64 a0_0, .int .i64 a0_1, .int .i64 a0_2, .slice A0_3 l0_3.length c0_3] 25 (0, 0)) blkx hb; have n0_ := Aside0.mk (q1_.1); have q2_ := blk_below2 (g := gb102) (o := .cells #[.int .i64 a1_0, .int .i64 a1_1, .int .i64 a1_2] 74 (0, 0)) blkx hb; have n1_ := Aside0.mk (q2_.1); have n2_ := Aside0.mk (qb_.1); have n3_ := Aside0.mk (hbox); have n5_ := Aside0.mk ((by rw [hg]; exact qb_.2 : w.heap.size ≤ gb103)); have n6_ := Aside0.mk ((by rw [hg]; exact Nat.ne_of_lt q1_.2 : gb101 ≠ gb103)); have n7_ := Aside0.mk (Ne.symm n6_.out); have n8_ := Aside0.mk ((by rw [hg]; exact Nat.ne_of_lt q2_.2 : gb102 ≠ gb103)); have n9_ := Aside0.mk (Ne.symm n8_.out); clear BK101; clear BK102; clear HB; have BK101 := n0_; have BK102 := n1_; have HB := n2_; have BK103 := n3_; have GE103 := n5_; have NB101_103 := n6_; have NB103_101 := n7_; have NB102_103 := n8_; have NB103_102 := n9_; clear q1_ q2_; clear qb_; clear n0_ n1_ n2_ n3_ n5_ n6_ n7_ n8_ n9_; clear hb hbox hg; have hnb34 := NB102_101.out; have hnc34 := NB101_102.out; have hnb35 := NB102_103.out; have hnc35 := NB103_102.out; obtain ⟨hcz36_0, hcz36_1, hcz36_2, hfz36_0, hfz36_1, hfz36_2⟩ := cells3 BK102.out; have hnb37 := NB101_103.out; have hnc37 := NB103_101.out; obtain ⟨hcz38_0, hcz38_1, hcz38_2, hcz38_3, hfz38_0, hfz38_1, hfz38_2, hfz38_3⟩ := cells4 BK101.out) | ((with_reducible refine gate_callee (f := 24) rfl ?_); refine goesL_ (some 32) rfl rfl Try.func24 (by kernel_rfl) rfl #[.agg #[.int .i64 a0_0, .int .i64 a0_1, .int .i64 a0_2, .slice A0_3 l0_3.length c0_3], .int .i64 a1_2] rfl argx ?_; (with_reducible refine (guarantee_Resize.calls k a0_0 a0_1 a0_2 _ _ l0_3 a1_2 t118 t119 t120 t121 t124 _ ?side1 ?side2 A30.out).mono ?_); (case side1 => repeat (first | exact (Kd.C_below HR0_3.out HB.out) | (with_reducible refine Kd.C_alloc ?_ _) | (with_reducible refine Kd.C_drewN ?_ _) | (with_reducible refine Kd.C_drew ?_))); (case side2 => exact HC0_3.out); rintro e w39 ⟨v122, rfl, ho0, hb⟩; refine ⟨_, rfl, ?_⟩; have qb_ := below_both bel hb; have n0_ := Aside0.mk (Kd.R_lower ho0 qb_.2); have n3_ := Aside0.mk (blk_below (g := gb103) (o := .cells #[.int .i64 0, .int .i64 0, .int .i64 0, .slice none 0 0] 25 (0, 0)) blkx hb); have n4_ := Aside0.mk (qb_.1); (try clear BK101); (try clear BK102); clear BK103; clear HB; have HO123 := n0_; have BK103 := n3_; have HB := n4_; clear qb_; clear n0_ n3_ n4_; (try clear hb); (try clear hb2); (try clear hk); (try clear hi); (try clear ho0); obtain ⟨hcz40_0, hcz40_1, hcz40_2, hcz40_3, hfz40_0, hfz40_1, hfz40_2, hfz40_3⟩ := cells4 BK103.out; obtain ⟨Ao41, co41, eo41⟩ := Kd.R_slice HO123.out; subst eo41))
    refine bodyPost_ret (results_ct rfl _ _ gb103 25 #[.int .i64 t118, .int .i64 t119, .int .i64 t120, .slice Ao41 t121.length co41] (0, 0) _ rfl (by (with_reducible repeat (first | refine blk_drewN ?_ _ | refine blk_drew ?_ | refine blk_alloc ?_ _)); refine blk_put (cs := #[.int .i64 t118, .int .i64 t119, .int .i64 t120, .slice none 0 0]) ?_ 3 _ rfl; refine blk_put (cs := #[.int .i64 t118, .int .i64 t119, .int .i64 0, .slice none 0 0]) ?_ 2 _ rfl; refine blk_put (cs := #[.int .i64 t118, .int .i64 0, .int .i64 0, .slice none 0 0]) ?_ 1 _ rfl; refine blk_put (cs := #[.int .i64 0, .int .i64 0, .int .i64 0, .slice none 0 0]) ?_ 0 _ rfl; (with_reducible repeat (first | refine blk_drewN ?_ _ | refine blk_drew ?_ | refine blk_alloc ?_ _)); exact BK103.out) Try.underlying25 rfl (by kernel_rfl)) rfl ?_
    exact ⟨_, by first | rfl | (simp [errW_none, errW_some] <;> rfl) | (simp [*, errW_none, errW_some] <;> rfl), by (with_reducible repeat (first | apply Kd.R_alloc | apply Kd.R_drewN | apply Kd.R_drew)); exact Kd.R_mono (Kd.R_far (p := ⟨gb103, 3, none⟩) (Kd.R_far (p := ⟨gb103, 2, none⟩) (Kd.R_far (p := ⟨gb103, 1, none⟩) (Kd.R_far (p := ⟨gb103, 0, none⟩) (Kd.R_types HO123.out BK103.out (by decide)) (fun _ hk => hk.2) (.int .i64 t118)) (fun _ hk => hk.2) (.int .i64 t119)) (fun _ hk => hk.2) (.int .i64 t120)) (fun _ hk => hk.2) (.slice Ao41 t121.length co41)) (fun _ hk => trivial), bel⟩
   ·rw [if_neg c29] at H
    have c29b0 : (a1_0 == 3) = false := beq_eq_false_iff_ne.mpr c29
    have c29b1 : (a1_0 != 3) = true := bne_iff_ne.mpr c29
    replace H := Option.bind_eq_some_iff.mp H
    obtain ⟨t125, A420, H⟩ := H
    replace H : (if t125 = 0 then (none) else (none)) = some (r1, r2, r3, r4, r5) := H
    have A42 := Aside0.mk A420
    clear A420
    by_cases c43 : t125 = 0
    ·rw [if_pos c43] at H
     have c43b0 : (t125 == 0) = true := beq_iff_eq.mpr c43
     have c43b1 : (t125 != 0) = false := bne_eq_false_iff_eq.mpr c43
     clear c43
     exact absurd H (by simp)
    ·rw [if_neg c43] at H
     have c43b0 : (t125 == 0) = false := beq_eq_false_iff_ne.mpr c43
     have c43b1 : (t125 != 0) = true := bne_iff_ne.mpr c43
     exact absurd H (by simp)
end Go.Proofs.Ytakhjhiofmgpnaa.PG
/- guarantee.step, whole: a step of a known kind (as printed), and of another kind, which hands back what came in. -/
namespace Go.Proofs.Ytakhjhiofmgpnaa.G
open Go.RowKit Go.Proofs.YtakhjhiofmgpnaaW.PrintWords Go.Proofs.YtakhjhiofmgpnaaW.PrintLast Go.Proofs.YtakhjhiofmgpnaaW.PrintMore Go.Proofs.Ytakhjhiofmgpnaa.PA Go.Proofs.Ytakhjhiofmgpnaa.PB Go.Proofs.Ytakhjhiofmgpnaa.PC
attribute [local go_sem] max2_int min2_int max_two min_two max_three min_three max_four min_four
set_option linter.unusedVariables false
set_option linter.unusedSimpArgs false
def guarantee_step.f (k : Nat) (a b c : Int) (u : List S39) (s0 s1 s2 : Int) : Option (Int × Int × Int × List S39 × Int) :=
  if s0 = 1 ∨ s0 = 2 ∨ s0 = 3 then PG.guarantee_step.f k a b c u s0 s1 s2 else (guarantee_Validate.f k a b c u).bind fun e => some (0, 0, 0, [], if e = 0 then 2 else e)
set_option maxHeartbeats 8000000 in
set_option maxRecDepth 100000 in
theorem step_other (k : Nat) (a0_0 : Int) (a0_1 : Int) (a0_2 : Int) (A0_3 : Option Addr) (c0_3 : Nat) (l0_3 : List (S39)) (a1_0 : Int) (a1_1 : Int) (a1_2 : Int) (e0 : Int) (w : World) (hr0_3 : Kd.C k39 w A0_3 l0_3.length l0_3) (hc0_3 : l0_3.length ≤ c0_3) (h1 : ¬ a1_0 = 1) (h2 : ¬ a1_0 = 2) (h3 : ¬ a1_0 = 3) (h : guarantee_Validate.f k a0_0 a0_1 a0_2 l0_3 = some e0) :
    Calls Try.prog 44 #[.agg #[.int .i64 a0_0, .int .i64 a0_1, .int .i64 a0_2, .slice A0_3 l0_3.length c0_3], .agg #[.int .i64 a1_0, .int .i64 a1_1, .int .i64 a1_2]] w fun e w' => e = .returned (.tuple #[.agg #[.int .i64 a0_0, .int .i64 a0_1, .int .i64 a0_2, .slice A0_3 l0_3.length c0_3], .int .i64 (if e0 = 0 then 2 else e0)]) ∧ Below w.heap.size w w' := by
  have hu25 := Try.underlying25
  have hu74 := Try.underlying74
  have HR0_3 := Aside0.mk hr0_3
  have HC0_3 := Aside0.mk hc0_3
  clear hr0_3 hc0_3
  have HB := Aside0.mk (Below.refl w.heap.size w)
  have A3 := Aside0.mk h
  clear h
  have b1 : (a1_0 == 1) = false := beq_eq_false_iff_ne.mpr h1
  have b2 : (a1_0 == 2) = false := beq_eq_false_iff_ne.mpr h2
  have b3 : (a1_0 == 3) = false := beq_eq_false_iff_ne.mpr h3
  clear h1 h2 h3
  by_cases he : e0 = 0
  · rw [if_pos he]
    have b4 : (e0 == 0) = true := beq_iff_eq.mpr he
    have b5 : (e0 != 0) = false := bne_eq_false_iff_eq.mpr he
    clear he
    go_enter Try.func44, Try.ntmps44
    go_wp2_with (first | ((with_reducible refine gate_dst (N := 2) rfl ?_); refine box_event ?hg (N := 2) ?hd (cs := #[.int .i64 a0_0, .int .i64 a0_1, .int .i64 a0_2, .slice A0_3 l0_3.length c0_3]) (t := 25) ?hr ?_; (case hd => rfl); (case hg => rfl); (case hr => first | (go_simp; done) | (go_simp; rfl)); intro gb101 hg w31 hbox hb; have n0_ := Aside0.mk (below_step (by repeat (first | (with_reducible first | exact HB.out | apply below_alloc | apply pw_below_drewN | apply below_drew1) | exact HB.out)) hb); have n1_ := Aside0.mk (hbox); have n2_ := Aside0.mk ((by rw [hg]; exact (below_size (by repeat (first | (with_reducible first | exact HB.out | apply below_alloc | apply pw_below_drewN | apply below_drew1) | exact HB.out))) : w.heap.size ≤ gb101)); have n3_ := Aside0.mk ((by rw [hg]; exact (below_size (by repeat (first | (with_reducible first | exact HB.out | apply below_alloc | apply pw_below_drewN | apply below_drew1) | exact HB.out))) : w.heap.size ≤ gb101)); clear HB; have HB := n0_; have BK101 := n1_; have GW101 := n2_; have GE101 := n3_; clear n0_ n1_ n2_ n3_; clear hb hbox hg) | ((with_reducible refine gate_dst (N := 3) rfl ?_); refine box_event ?hg (N := 3) ?hd (cs := #[.int .i64 a1_0, .int .i64 a1_1, .int .i64 a1_2]) (t := 74) ?hr ?_; (case hd => rfl); (case hg => rfl); (case hr => first | (go_simp; done) | (go_simp; rfl)); intro gb102 hg w32 hbox hb; have n0_ := Aside0.mk (blk_below (g := gb101) (o := .cells #[.int .i64 a0_0, .int .i64 a0_1, .int .i64 a0_2, .slice A0_3 l0_3.length c0_3] 25 (0, 0)) (by (with_reducible repeat (first | refine blk_drewN ?_ _ | refine blk_drew ?_ | refine blk_alloc ?_ _)); exact BK101.out) hb); have n1_ := Aside0.mk (below_step (by repeat (first | (with_reducible first | exact HB.out | apply below_alloc | apply pw_below_drewN | apply below_drew1 | refine below_set ?_ GE101.out) | exact HB.out)) hb); have n2_ := Aside0.mk (hbox); have n3_ := Aside0.mk ((by rw [hg]; exact (below_size (by repeat (first | (with_reducible first | exact HB.out | apply below_alloc | apply pw_below_drewN | apply below_drew1 | refine below_set ?_ GE101.out) | exact HB.out))) : w.heap.size ≤ gb102)); have n4_ := Aside0.mk ((by rw [hg]; exact (below_size (by repeat (first | (with_reducible first | exact HB.out | apply below_alloc | apply pw_below_drewN | apply below_drew1 | refine below_set ?_ GE101.out) | exact HB.out))) : w.heap.size ≤ gb102)); have n5_ := Aside0.mk ((by rw [hg]; exact Nat.ne_of_lt (blk_lt (g := gb101) (o := .cells #[.int .i64 a0_0, .int .i64 a0_1, .int .i64 a0_2, .slice A0_3 l0_3.length c0_3] 25 (0, 0)) (by (with_reducible repeat (first | refine blk_drewN ?_ _ | refine blk_drew ?_ | refine blk_alloc ?_ _)); exact BK101.out)) : gb101 ≠ gb102)); have n6_ := Aside0.mk ((by rw [hg]; exact Nat.ne_of_gt (blk_lt (g := gb101) (o := .cells #[.int .i64 a0_0, .int .i64 a0_1, .int .i64 a0_2, .slice A0_3 l0_3.length c0_3] 25 (0, 0)) (by (with_reducible repeat (first | refine blk_drewN ?_ _ | refine blk_drew ?_ | refine blk_alloc ?_ _)); exact BK101.out)) : gb102 ≠ gb101)); clear BK101; clear HB; have BK101 := n0_; have HB := n1_; have BK102 := n2_; have GW102 := n3_; have GE102 := n4_; have NB101_102 := n5_; have NB102_101 := n6_; clear n0_ n1_ n2_ n3_ n4_ n5_ n6_; clear hb hbox hg) | ((with_reducible refine gate_dst (N := 4) rfl ?_); refine box_event ?hg (N := 4) ?hd (cs := #[.int .i64 0, .int .i64 0, .int .i64 0, .slice none 0 0]) (t := 25) ?hr ?_; (case hd => rfl); (case hg => rfl); (case hr => first | (go_simp; done) | (go_simp; rfl)); intro gb103 hg w33 hbox hb; have n0_ := Aside0.mk (blk_below (g := gb101) (o := .cells #[.int .i64 a0_0, .int .i64 a0_1, .int .i64 a0_2, .slice A0_3 l0_3.length c0_3] 25 (0, 0)) (by (with_reducible repeat (first | refine blk_drewN ?_ _ | refine blk_drew ?_ | refine blk_alloc ?_ _)); exact BK101.out) hb); have n1_ := Aside0.mk (blk_below (g := gb102) (o := .cells #[.int .i64 a1_0, .int .i64 a1_1, .int .i64 a1_2] 74 (0, 0)) (by (with_reducible repeat (first | refine blk_drewN ?_ _ | refine blk_drew ?_ | refine blk_alloc ?_ _)); exact BK102.out) hb); have n2_ := Aside0.mk (below_step (by repeat (first | (with_reducible first | exact HB.out | apply below_alloc | apply pw_below_drewN | apply below_drew1 | refine below_set ?_ GE101.out | refine below_set ?_ GE102.out) | exact HB.out)) hb); have n3_ := Aside0.mk (hbox); have n4_ := Aside0.mk ((by rw [hg]; exact (below_size (by repeat (first | (with_reducible first | exact HB.out | apply below_alloc | apply pw_below_drewN | apply below_drew1 | refine below_set ?_ GE101.out | refine below_set ?_ GE102.out) | exact HB.out))) : w.heap.size ≤ gb103)); have n5_ := Aside0.mk ((by rw [hg]; exact (below_size (by repeat (first | (with_reducible first | exact HB.out | apply below_alloc | apply pw_below_drewN | apply below_drew1 | refine below_set ?_ GE101.out | refine below_set ?_ GE102.out) | exact HB.out))) : w.heap.size ≤ gb103)); have n6_ := Aside0.mk ((by rw [hg]; exact Nat.ne_of_lt (blk_lt (g := gb101) (o := .cells #[.int .i64 a0_0, .int .i64 a0_1, .int .i64 a0_2, .slice A0_3 l0_3.length c0_3] 25 (0, 0)) (by (with_reducible repeat (first | refine blk_drewN ?_ _ | refine blk_drew ?_ | refine blk_alloc ?_ _)); exact BK101.out)) : gb101 ≠ gb103)); have n7_ := Aside0.mk ((by rw [hg]; exact Nat.ne_of_gt (blk_lt (g := gb101) (o := .cells #[.int .i64 a0_0, .int .i64 a0_1, .int .i64 a0_2, .slice A0_3 l0_3.length c0_3] 25 (0, 0)) (by (with_reducible repeat (first | refine blk_drewN ?_ _ | refine blk_drew ?_ | refine blk_alloc ?_ _)); exact BK101.out)) : gb103 ≠ gb101)); have n8_ := Aside0.mk ((by rw [hg]; exact Nat.ne_of_lt (blk_lt (g := gb102) (o := .cells #[.int .i64 a1_0, .int .i64 a1_1, .int .i64 a1_2] 74 (0, 0)) (by (with_reducible repeat (first | refine blk_drewN ?_ _ | refine blk_drew ?_ | refine blk_alloc ?_ _)); exact BK102.out)) : gb102 ≠ gb103)); have n9_ := Aside0.mk ((by rw [hg]; exact Nat.ne_of_gt (blk_lt (g := gb102) (o := .cells #[.int .i64 a1_0, .int .i64 a1_1, .int .i64 a1_2] 74 (0, 0)) (by (with_reducible repeat (first | refine blk_drewN ?_ _ | refine blk_drew ?_ | refine blk_alloc ?_ _)); exact BK102.out)) : gb103 ≠ gb102)); clear BK101; clear BK102; clear HB; have BK101 := n0_; have BK102 := n1_; have HB := n2_; have BK103 := n3_; have GW103 := n4_; have GE103 := n5_; have NB101_103 := n6_; have NB103_101 := n7_; have NB102_103 := n8_; have NB103_102 := n9_; clear n0_ n1_ n2_ n3_ n4_ n5_ n6_ n7_ n8_ n9_; clear hb hbox hg; have hnb34 := NB102_101.out; have hnc34 := NB101_102.out; have hnb35 := NB102_103.out; have hnc35 := NB103_102.out; have hcz36_0 : w33.cell? ⟨gb102, 0, none⟩ = some (.int .i64 a1_0) := (blk_cell BK102.out 0).trans rfl; have hcz36_1 : w33.cell? ⟨gb102, 1, none⟩ = some (.int .i64 a1_1) := (blk_cell BK102.out 1).trans rfl; have hcz36_2 : w33.cell? ⟨gb102, 2, none⟩ = some (.int .i64 a1_2) := (blk_cell BK102.out 2).trans rfl; have hfz36_0 := blk_frozen BK102.out 0; have hfz36_1 := blk_frozen BK102.out 1; have hfz36_2 := blk_frozen BK102.out 2; have hnb37 := NB101_103.out; have hnc37 := NB103_101.out; have hcz38_0 : w33.cell? ⟨gb101, 0, none⟩ = some (.int .i64 a0_0) := (blk_cell BK101.out 0).trans rfl; have hcz38_1 : w33.cell? ⟨gb101, 1, none⟩ = some (.int .i64 a0_1) := (blk_cell BK101.out 1).trans rfl; have hcz38_2 : w33.cell? ⟨gb101, 2, none⟩ = some (.int .i64 a0_2) := (blk_cell BK101.out 2).trans rfl; have hcz38_3 : w33.cell? ⟨gb101, 3, none⟩ = some (.slice A0_3 l0_3.length c0_3) := (blk_cell BK101.out 3).trans rfl; have hfz38_0 := blk_frozen BK101.out 0; have hfz38_1 := blk_frozen BK101.out 1; have hfz38_2 := blk_frozen BK101.out 2; have hfz38_3 := blk_frozen BK101.out 3) | ((with_reducible refine gate_callee (f := 11) rfl ?_); refine goesL_ (some 36) rfl rfl Try.func11 (by kernel_rfl) rfl #[.agg #[.int .i64 a0_0, .int .i64 a0_1, .int .i64 a0_2, .slice A0_3 l0_3.length c0_3]] rfl (by (try simp only [List.map_toArray, List.map_cons, List.map_nil]); first | done | rfl) ?_; (with_reducible refine (guarantee_Validate.calls k a0_0 a0_1 a0_2 _ _ l0_3 e0 _ ?side1 ?side2 A3.out).mono ?_); (case side1 => repeat (first | exact (Kd.C_below HR0_3.out HB.out) | (with_reducible refine Kd.C_alloc ?_ _) | (with_reducible refine Kd.C_drewN ?_ _) | (with_reducible refine Kd.C_drew ?_))); (case side2 => exact HC0_3.out); rintro e w90 ⟨rfl, hb⟩; refine ⟨_, rfl, ?_⟩; have n0_ := Aside0.mk (blk_below (g := gb101) (o := .cells #[.int .i64 a0_0, .int .i64 a0_1, .int .i64 a0_2, .slice A0_3 l0_3.length c0_3] 25 (0, 0)) (by (with_reducible repeat (first | refine blk_drewN ?_ _ | refine blk_drew ?_ | refine blk_alloc ?_ _)); exact BK101.out) hb); have n1_ := Aside0.mk (blk_below (g := gb102) (o := .cells #[.int .i64 a1_0, .int .i64 a1_1, .int .i64 a1_2] 74 (0, 0)) (by (with_reducible repeat (first | refine blk_drewN ?_ _ | refine blk_drew ?_ | refine blk_alloc ?_ _)); exact BK102.out) hb); have n2_ := Aside0.mk (blk_below (g := gb103) (o := .cells #[.int .i64 0, .int .i64 0, .int .i64 0, .slice none 0 0] 25 (0, 0)) (by (with_reducible repeat (first | refine blk_drewN ?_ _ | refine blk_drew ?_ | refine blk_alloc ?_ _)); exact BK103.out) hb); have n3_ := Aside0.mk (below_step (by repeat (first | (with_reducible first | exact HB.out | apply below_alloc | apply pw_below_drewN | apply below_drew1 | refine below_set ?_ GE101.out | refine below_set ?_ GE102.out | refine below_set ?_ GE103.out) | exact HB.out)) hb); clear BK101 BK102 BK103 HB; have BK101 := n0_; have BK102 := n1_; have BK103 := n2_; have HB := n3_; clear n0_ n1_ n2_ n3_; (try clear hb); have hnb91 := NB101_103.out; have hnc91 := NB103_101.out; have hcz92_0 : w90.cell? ⟨gb101, 0, none⟩ = some (.int .i64 a0_0) := (blk_cell BK101.out 0).trans rfl; have hfz92_0 := blk_frozen BK101.out 0; have hcz92_1 : w90.cell? ⟨gb101, 1, none⟩ = some (.int .i64 a0_1) := (blk_cell BK101.out 1).trans rfl; have hfz92_1 := blk_frozen BK101.out 1; have hcz92_2 : w90.cell? ⟨gb101, 2, none⟩ = some (.int .i64 a0_2) := (blk_cell BK101.out 2).trans rfl; have hfz92_2 := blk_frozen BK101.out 2; have hcz92_3 : w90.cell? ⟨gb101, 3, none⟩ = some (.slice A0_3 l0_3.length c0_3) := (blk_cell BK101.out 3).trans rfl; have hfz92_3 := blk_frozen BK101.out 3; have hcz93_0 : w90.cell? ⟨gb103, 0, none⟩ = some (.int .i64 0) := (blk_cell BK103.out 0).trans rfl; have hfz93_0 := blk_frozen BK103.out 0; have hcz93_1 : w90.cell? ⟨gb103, 1, none⟩ = some (.int .i64 0) := (blk_cell BK103.out 1).trans rfl; have hfz93_1 := blk_frozen BK103.out 1; have hcz93_2 : w90.cell? ⟨gb103, 2, none⟩ = some (.int .i64 0) := (blk_cell BK103.out 2).trans rfl; have hfz93_2 := blk_frozen BK103.out 2; have hcz93_3 : w90.cell? ⟨gb103, 3, none⟩ = some (.slice none 0 0) := (blk_cell BK103.out 3).trans rfl; have hfz93_3 := blk_frozen BK103.out 3))
    refine bodyPost_ret (results_ct rfl _ _ gb103 25 #[.int .i64 a0_0, .int .i64 a0_1, .int .i64 a0_2, .slice A0_3 l0_3.length c0_3] (0, 0) _ rfl (by (with_reducible repeat (first | refine blk_drewN ?_ _ | refine blk_drew ?_ | refine blk_alloc ?_ _)); refine blk_put (cs := #[.int .i64 a0_0, .int .i64 a0_1, .int .i64 a0_2, .slice none 0 0]) ?_ 3 _ rfl; (with_reducible repeat (first | refine blk_drewN ?_ _ | refine blk_drew ?_ | refine blk_alloc ?_ _)); refine blk_put (cs := #[.int .i64 a0_0, .int .i64 a0_1, .int .i64 0, .slice none 0 0]) ?_ 2 _ rfl; (with_reducible repeat (first | refine blk_drewN ?_ _ | refine blk_drew ?_ | refine blk_alloc ?_ _)); refine blk_put (cs := #[.int .i64 a0_0, .int .i64 0, .int .i64 0, .slice none 0 0]) ?_ 1 _ rfl; (with_reducible repeat (first | refine blk_drewN ?_ _ | refine blk_drew ?_ | refine blk_alloc ?_ _)); refine blk_put (cs := #[.int .i64 0, .int .i64 0, .int .i64 0, .slice none 0 0]) ?_ 0 _ rfl; (with_reducible repeat (first | refine blk_drewN ?_ _ | refine blk_drew ?_ | refine blk_alloc ?_ _)); exact BK103.out) Try.underlying25 rfl (by kernel_rfl)) rfl ?_
    exact ⟨by first | rfl | (simp; done), by repeat (first | (with_reducible first | exact HB.out | apply below_alloc | apply pw_below_drewN | apply below_drew1 | refine below_set ?_ GE101.out | refine below_set ?_ GE102.out | refine below_set ?_ GE103.out) | exact HB.out)⟩
  · rw [if_neg he]
    have b4 : (e0 == 0) = false := beq_eq_false_iff_ne.mpr he
    have b5 : (e0 != 0) = true := bne_iff_ne.mpr he
    clear he
    go_enter Try.func44, Try.ntmps44
    go_wp2_with (first | ((with_reducible refine gate_dst (N := 2) rfl ?_); refine box_event ?hg (N := 2) ?hd (cs := #[.int .i64 a0_0, .int .i64 a0_1, .int .i64 a0_2, .slice A0_3 l0_3.length c0_3]) (t := 25) ?hr ?_; (case hd => rfl); (case hg => rfl); (case hr => first | (go_simp; done) | (go_simp; rfl)); intro gb101 hg w31 hbox hb; have n0_ := Aside0.mk (below_step (by repeat (first | (with_reducible first | exact HB.out | apply below_alloc | apply pw_below_drewN | apply below_drew1) | exact HB.out)) hb); have n1_ := Aside0.mk (hbox); have n2_ := Aside0.mk ((by rw [hg]; exact (below_size (by repeat (first | (with_reducible first | exact HB.out | apply below_alloc | apply pw_below_drewN | apply below_drew1) | exact HB.out))) : w.heap.size ≤ gb101)); have n3_ := Aside0.mk ((by rw [hg]; exact (below_size (by repeat (first | (with_reducible first | exact HB.out | apply below_alloc | apply pw_below_drewN | apply below_drew1) | exact HB.out))) : w.heap.size ≤ gb101)); clear HB; have HB := n0_; have BK101 := n1_; have GW101 := n2_; have GE101 := n3_; clear n0_ n1_ n2_ n3_; clear hb hbox hg) | ((with_reducible refine gate_dst (N := 3) rfl ?_); refine box_event ?hg (N := 3) ?hd (cs := #[.int .i64 a1_0, .int .i64 a1_1, .int .i64 a1_2]) (t := 74) ?hr ?_; (case hd => rfl); (case hg => rfl); (case hr => first | (go_simp; done) | (go_simp; rfl)); intro gb102 hg w32 hbox hb; have n0_ := Aside0.mk (blk_below (g := gb101) (o := .cells #[.int .i64 a0_0, .int .i64 a0_1, .int .i64 a0_2, .slice A0_3 l0_3.length c0_3] 25 (0, 0)) (by (with_reducible repeat (first | refine blk_drewN ?_ _ | refine blk_drew ?_ | refine blk_alloc ?_ _)); exact BK101.out) hb); have n1_ := Aside0.mk (below_step (by repeat (first | (with_reducible first | exact HB.out | apply below_alloc | apply pw_below_drewN | apply below_drew1 | refine below_set ?_ GE101.out) | exact HB.out)) hb); have n2_ := Aside0.mk (hbox); have n3_ := Aside0.mk ((by rw [hg]; exact (below_size (by repeat (first | (with_reducible first | exact HB.out | apply below_alloc | apply pw_below_drewN | apply below_drew1 | refine below_set ?_ GE101.out) | exact HB.out))) : w.heap.size ≤ gb102)); have n4_ := Aside0.mk ((by rw [hg]; exact (below_size (by repeat (first | (with_reducible first | exact HB.out | apply below_alloc | apply pw_below_drewN | apply below_drew1 | refine below_set ?_ GE101.out) | exact HB.out))) : w.heap.size ≤ gb102)); have n5_ := Aside0.mk ((by rw [hg]; exact Nat.ne_of_lt (blk_lt (g := gb101) (o := .cells #[.int .i64 a0_0, .int .i64 a0_1, .int .i64 a0_2, .slice A0_3 l0_3.length c0_3] 25 (0, 0)) (by (with_reducible repeat (first | refine blk_drewN ?_ _ | refine blk_drew ?_ | refine blk_alloc ?_ _)); exact BK101.out)) : gb101 ≠ gb102)); have n6_ := Aside0.mk ((by rw [hg]; exact Nat.ne_of_gt (blk_lt (g := gb101) (o := .cells #[.int .i64 a0_0, .int .i64 a0_1, .int .i64 a0_2, .slice A0_3 l0_3.length c0_3] 25 (0, 0)) (by (with_reducible repeat (first | refine blk_drewN ?_ _ | refine blk_drew ?_ | refine blk_alloc ?_ _)); exact BK101.out)) : gb102 ≠ gb101)); clear BK101; clear HB; have BK101 := n0_; have HB := n1_; have BK102 := n2_; have GW102 := n3_; have GE102 := n4_; have NB101_102 := n5_; have NB102_101 := n6_; clear n0_ n1_ n2_ n3_ n4_ n5_ n6_; clear hb hbox hg) | ((with_reducible refine gate_dst (N := 4) rfl ?_); refine box_event ?hg (N := 4) ?hd (cs := #[.int .i64 0, .int .i64 0, .int .i64 0, .slice none 0 0]) (t := 25) ?hr ?_; (case hd => rfl); (case hg => rfl); (case hr => first | (go_simp; done) | (go_simp; rfl)); intro gb103 hg w33 hbox hb; have n0_ := Aside0.mk (blk_below (g := gb101) (o := .cells #[.int .i64 a0_0, .int .i64 a0_1, .int .i64 a0_2, .slice A0_3 l0_3.length c0_3] 25 (0, 0)) (by (with_reducible repeat (first | refine blk_drewN ?_ _ | refine blk_drew ?_ | refine blk_alloc ?_ _)); exact BK101.out) hb); have n1_ := Aside0.mk (blk_below (g := gb102) (o := .cells #[.int .i64 a1_0, .int .i64 a1_1, .int .i64 a1_2] 74 (0, 0)) (by (with_reducible repeat (first | refine blk_drewN ?_ _ | refine blk_drew ?_ | refine blk_alloc ?_ _)); exact BK102.out) hb); have n2_ := Aside0.mk (below_step (by repeat (first | (with_reducible first | exact HB.out | apply below_alloc | apply pw_below_drewN | apply below_drew1 | refine below_set ?_ GE101.out | refine below_set ?_ GE102.out) | exact HB.out)) hb); have n3_ := Aside0.mk (hbox); have n4_ := Aside0.mk ((by rw [hg]; exact (below_size (by repeat (first | (with_reducible first | exact HB.out | apply below_alloc | apply pw_below_drewN | apply below_drew1 | refine below_set ?_ GE101.out | refine below_set ?_ GE102.out) | exact HB.out))) : w.heap.size ≤ gb103)); have n5_ := Aside0.mk ((by rw [hg]; exact (below_size (by repeat (first | (with_reducible first | exact HB.out | apply below_alloc | apply pw_below_drewN | apply below_drew1 | refine below_set ?_ GE101.out | refine below_set ?_ GE102.out) | exact HB.out))) : w.heap.size ≤ gb103)); have n6_ := Aside0.mk ((by rw [hg]; exact Nat.ne_of_lt (blk_lt (g := gb101) (o := .cells #[.int .i64 a0_0, .int .i64 a0_1, .int .i64 a0_2, .slice A0_3 l0_3.length c0_3] 25 (0, 0)) (by (with_reducible repeat (first | refine blk_drewN ?_ _ | refine blk_drew ?_ | refine blk_alloc ?_ _)); exact BK101.out)) : gb101 ≠ gb103)); have n7_ := Aside0.mk ((by rw [hg]; exact Nat.ne_of_gt (blk_lt (g := gb101) (o := .cells #[.int .i64 a0_0, .int .i64 a0_1, .int .i64 a0_2, .slice A0_3 l0_3.length c0_3] 25 (0, 0)) (by (with_reducible repeat (first | refine blk_drewN ?_ _ | refine blk_drew ?_ | refine blk_alloc ?_ _)); exact BK101.out)) : gb103 ≠ gb101)); have n8_ := Aside0.mk ((by rw [hg]; exact Nat.ne_of_lt (blk_lt (g := gb102) (o := .cells #[.int .i64 a1_0, .int .i64 a1_1, .int .i64 a1_2] 74 (0, 0)) (by (with_reducible repeat (first | refine blk_drewN ?_ _ | refine blk_drew ?_ | refine blk_alloc ?_ _)); exact BK102.out)) : gb102 ≠ gb103)); have n9_ := Aside0.mk ((by rw [hg]; exact Nat.ne_of_gt (blk_lt (g := gb102) (o := .cells #[.int .i64 a1_0, .int .i64 a1_1, .int .i64 a1_2] 74 (0, 0)) (by (with_reducible repeat (first | refine blk_drewN ?_ _ | refine blk_drew ?_ | refine blk_alloc ?_ _)); exact BK102.out)) : gb103 ≠ gb102)); clear BK101; clear BK102; clear HB; have BK101 := n0_; have BK102 := n1_; have HB := n2_; have BK103 := n3_; have GW103 := n4_; have GE103 := n5_; have NB101_103 := n6_; have NB103_101 := n7_; have NB102_103 := n8_; have NB103_102 := n9_; clear n0_ n1_ n2_ n3_ n4_ n5_ n6_ n7_ n8_ n9_; clear hb hbox hg; have hnb34 := NB102_101.out; have hnc34 := NB101_102.out; have hnb35 := NB102_103.out; have hnc35 := NB103_102.out; have hcz36_0 : w33.cell? ⟨gb102, 0, none⟩ = some (.int .i64 a1_0) := (blk_cell BK102.out 0).trans rfl; have hcz36_1 : w33.cell? ⟨gb102, 1, none⟩ = some (.int .i64 a1_1) := (blk_cell BK102.out 1).trans rfl; have hcz36_2 : w33.cell? ⟨gb102, 2, none⟩ = some (.int .i64 a1_2) := (blk_cell BK102.out 2).trans rfl; have hfz36_0 := blk_frozen BK102.out 0; have hfz36_1 := blk_frozen BK102.out 1; have hfz36_2 := blk_frozen BK102.out 2; have hnb37 := NB101_103.out; have hnc37 := NB103_101.out; have hcz38_0 : w33.cell? ⟨gb101, 0, none⟩ = some (.int .i64 a0_0) := (blk_cell BK101.out 0).trans rfl; have hcz38_1 : w33.cell? ⟨gb101, 1, none⟩ = some (.int .i64 a0_1) := (blk_cell BK101.out 1).trans rfl; have hcz38_2 : w33.cell? ⟨gb101, 2, none⟩ = some (.int .i64 a0_2) := (blk_cell BK101.out 2).trans rfl; have hcz38_3 : w33.cell? ⟨gb101, 3, none⟩ = some (.slice A0_3 l0_3.length c0_3) := (blk_cell BK101.out 3).trans rfl; have hfz38_0 := blk_frozen BK101.out 0; have hfz38_1 := blk_frozen BK101.out 1; have hfz38_2 := blk_frozen BK101.out 2; have hfz38_3 := blk_frozen BK101.out 3) | ((with_reducible refine gate_callee (f := 11) rfl ?_); refine goesL_ (some 36) rfl rfl Try.func11 (by kernel_rfl) rfl #[.agg #[.int .i64 a0_0, .int .i64 a0_1, .int .i64 a0_2, .slice A0_3 l0_3.length c0_3]] rfl (by (try simp only [List.map_toArray, List.map_cons, List.map_nil]); first | done | rfl) ?_; (with_reducible refine (guarantee_Validate.calls k a0_0 a0_1 a0_2 _ _ l0_3 e0 _ ?side1 ?side2 A3.out).mono ?_); (case side1 => repeat (first | exact (Kd.C_below HR0_3.out HB.out) | (with_reducible refine Kd.C_alloc ?_ _) | (with_reducible refine Kd.C_drewN ?_ _) | (with_reducible refine Kd.C_drew ?_))); (case side2 => exact HC0_3.out); rintro e w90 ⟨rfl, hb⟩; refine ⟨_, rfl, ?_⟩; have n0_ := Aside0.mk (blk_below (g := gb101) (o := .cells #[.int .i64 a0_0, .int .i64 a0_1, .int .i64 a0_2, .slice A0_3 l0_3.length c0_3] 25 (0, 0)) (by (with_reducible repeat (first | refine blk_drewN ?_ _ | refine blk_drew ?_ | refine blk_alloc ?_ _)); exact BK101.out) hb); have n1_ := Aside0.mk (blk_below (g := gb102) (o := .cells #[.int .i64 a1_0, .int .i64 a1_1, .int .i64 a1_2] 74 (0, 0)) (by (with_reducible repeat (first | refine blk_drewN ?_ _ | refine blk_drew ?_ | refine blk_alloc ?_ _)); exact BK102.out) hb); have n2_ := Aside0.mk (blk_below (g := gb103) (o := .cells #[.int .i64 0, .int .i64 0, .int .i64 0, .slice none 0 0] 25 (0, 0)) (by (with_reducible repeat (first | refine blk_drewN ?_ _ | refine blk_drew ?_ | refine blk_alloc ?_ _)); exact BK103.out) hb); have n3_ := Aside0.mk (below_step (by repeat (first | (with_reducible first | exact HB.out | apply below_alloc | apply pw_below_drewN | apply below_drew1 | refine below_set ?_ GE101.out | refine below_set ?_ GE102.out | refine below_set ?_ GE103.out) | exact HB.out)) hb); clear BK101 BK102 BK103 HB; have BK101 := n0_; have BK102 := n1_; have BK103 := n2_; have HB := n3_; clear n0_ n1_ n2_ n3_; (try clear hb); have hnb91 := NB101_103.out; have hnc91 := NB103_101.out; have hcz92_0 : w90.cell? ⟨gb101, 0, none⟩ = some (.int .i64 a0_0) := (blk_cell BK101.out 0).trans rfl; have hfz92_0 := blk_frozen BK101.out 0; have hcz92_1 : w90.cell? ⟨gb101, 1, none⟩ = some (.int .i64 a0_1) := (blk_cell BK101.out 1).trans rfl; have hfz92_1 := blk_frozen BK101.out 1; have hcz92_2 : w90.cell? ⟨gb101, 2, none⟩ = some (.int .i64 a0_2) := (blk_cell BK101.out 2).trans rfl; have hfz92_2 := blk_frozen BK101.out 2; have hcz92_3 : w90.cell? ⟨gb101, 3, none⟩ = some (.slice A0_3 l0_3.length c0_3) := (blk_cell BK101.out 3).trans rfl; have hfz92_3 := blk_frozen BK101.out 3; have hcz93_0 : w90.cell? ⟨gb103, 0, none⟩ = some (.int .i64 0) := (blk_cell BK103.out 0).trans rfl; have hfz93_0 := blk_frozen BK103.out 0; have hcz93_1 : w90.cell? ⟨gb103, 1, none⟩ = some (.int .i64 0) := (blk_cell BK103.out 1).trans rfl; have hfz93_1 := blk_frozen BK103.out 1; have hcz93_2 : w90.cell? ⟨gb103, 2, none⟩ = some (.int .i64 0) := (blk_cell BK103.out 2).trans rfl; have hfz93_2 := blk_frozen BK103.out 2; have hcz93_3 : w90.cell? ⟨gb103, 3, none⟩ = some (.slice none 0 0) := (blk_cell BK103.out 3).trans rfl; have hfz93_3 := blk_frozen BK103.out 3))
    refine bodyPost_ret (results_ct rfl _ _ gb103 25 #[.int .i64 a0_0, .int .i64 a0_1, .int .i64 a0_2, .slice A0_3 l0_3.length c0_3] (0, 0) _ rfl (by (with_reducible repeat (first | refine blk_drewN ?_ _ | refine blk_drew ?_ | refine blk_alloc ?_ _)); refine blk_put (cs := #[.int .i64 a0_0, .int .i64 a0_1, .int .i64 a0_2, .slice none 0 0]) ?_ 3 _ rfl; (with_reducible repeat (first | refine blk_drewN ?_ _ | refine blk_drew ?_ | refine blk_alloc ?_ _)); refine blk_put (cs := #[.int .i64 a0_0, .int .i64 a0_1, .int .i64 0, .slice none 0 0]) ?_ 2 _ rfl; (with_reducible repeat (first | refine blk_drewN ?_ _ | refine blk_drew ?_ | refine blk_alloc ?_ _)); refine blk_put (cs := #[.int .i64 a0_0, .int .i64 0, .int .i64 0, .slice none 0 0]) ?_ 1 _ rfl; (with_reducible repeat (first | refine blk_drewN ?_ _ | refine blk_drew ?_ | refine blk_alloc ?_ _)); refine blk_put (cs := #[.int .i64 0, .int .i64 0, .int .i64 0, .slice none 0 0]) ?_ 0 _ rfl; (with_reducible repeat (first | refine blk_drewN ?_ _ | refine blk_drew ?_ | refine blk_alloc ?_ _)); exact BK103.out) Try.underlying25 rfl (by kernel_rfl)) rfl ?_
    exact ⟨by first | rfl | (simp; done), by repeat (first | (with_reducible first | exact HB.out | apply below_alloc | apply pw_below_drewN | apply below_drew1 | refine below_set ?_ GE101.out | refine below_set ?_ GE102.out | refine below_set ?_ GE103.out) | exact HB.out)⟩
/-- A step that goes through. -/
theorem guarantee_step.calls_ok (k : Nat) (a0_0 : Int) (a0_1 : Int) (a0_2 : Int) (A0_3 : Option Addr) (c0_3 : Nat) (l0_3 : List (S39)) (a1_0 : Int) (a1_1 : Int) (a1_2 : Int) (r1 : Int) (r2 : Int) (r3 : Int) (r4 : List (S39)) (r5 : Int) (w : World) (hr0_3 : Kd.C k39 w A0_3 l0_3.length l0_3) (hc0_3 : l0_3.length ≤ c0_3) (h : guarantee_step.f k a0_0 a0_1 a0_2 l0_3 a1_0 a1_1 a1_2 = some (r1, r2, r3, r4, r5)) (hz : (r5 == 0) = true) :
    Calls Try.prog 44 #[.agg #[.int .i64 a0_0, .int .i64 a0_1, .int .i64 a0_2, .slice A0_3 l0_3.length c0_3], .agg #[.int .i64 a1_0, .int .i64 a1_1, .int .i64 a1_2]] w fun e w' => ∃ v3_ : Value, e = .returned (.tuple #[.agg #[.int .i64 r1, .int .i64 r2, .int .i64 r3, v3_], .int .i64 r5]) ∧ Kd.R k39 39 w' w.heap.size (fun _ => True) v3_ r4 ∧ Below w.heap.size w w' := by
  unfold guarantee_step.f at h
  by_cases hk : a1_0 = 1 ∨ a1_0 = 2 ∨ a1_0 = 3
  · rw [if_pos hk] at h
    exact PG.guarantee_step.calls k a0_0 a0_1 a0_2 A0_3 c0_3 l0_3 a1_0 a1_1 a1_2 r1 r2 r3 r4 r5 w hr0_3 hc0_3 h
  · rw [if_neg hk] at h
    obtain ⟨e, _, h⟩ := Option.bind_eq_some_iff.mp h
    simp only [Option.some.injEq, Prod.mk.injEq] at h
    have : r5 = 0 := by simpa using hz
    have h5 := h.2.2.2.2
    rw [this] at h5
    split at h5 <;> omega
/-- A step that is refused: whatever guarantee is handed back. -/
theorem guarantee_step.calls_err (k : Nat) (a0_0 : Int) (a0_1 : Int) (a0_2 : Int) (A0_3 : Option Addr) (c0_3 : Nat) (l0_3 : List (S39)) (a1_0 : Int) (a1_1 : Int) (a1_2 : Int) (r1 : Int) (r2 : Int) (r3 : Int) (r4 : List (S39)) (r5 : Int) (w : World) (hr0_3 : Kd.C k39 w A0_3 l0_3.length l0_3) (hc0_3 : l0_3.length ≤ c0_3) (h : guarantee_step.f k a0_0 a0_1 a0_2 l0_3 a1_0 a1_1 a1_2 = some (r1, r2, r3, r4, r5)) :
    Calls Try.prog 44 #[.agg #[.int .i64 a0_0, .int .i64 a0_1, .int .i64 a0_2, .slice A0_3 l0_3.length c0_3], .agg #[.int .i64 a1_0, .int .i64 a1_1, .int .i64 a1_2]] w fun e w' => ∃ (z1 z2 z3 : Int) (Az : Option Addr) (nz cz : Nat), e = .returned (.tuple #[.agg #[.int .i64 z1, .int .i64 z2, .int .i64 z3, .slice Az nz cz], .int .i64 r5]) ∧ Below w.heap.size w w' := by
  unfold guarantee_step.f at h
  by_cases hk : a1_0 = 1 ∨ a1_0 = 2 ∨ a1_0 = 3
  · rw [if_pos hk] at h
    refine (PG.guarantee_step.calls k a0_0 a0_1 a0_2 A0_3 c0_3 l0_3 a1_0 a1_1 a1_2 r1 r2 r3 r4 r5 w hr0_3 hc0_3 h).mono ?_
    rintro e w' ⟨v, rfl, ho, hb⟩
    obtain ⟨A, c, rfl⟩ := Kd.R_slice ho
    exact ⟨_, _, _, _, _, _, rfl, hb⟩
  · rw [if_neg hk] at h
    obtain ⟨e, he, h⟩ := Option.bind_eq_some_iff.mp h
    simp only [Option.some.injEq, Prod.mk.injEq] at h
    obtain ⟨-, -, -, -, rfl⟩ := h
    refine (step_other k a0_0 a0_1 a0_2 A0_3 c0_3 l0_3 a1_0 a1_1 a1_2 e w hr0_3 hc0_3 (fun h => hk (.inl h)) (fun h => hk (.inr (.inl h))) (fun h => hk (.inr (.inr h))) he).mono ?_
    rintro e w' ⟨rfl, hb⟩
    exact ⟨_, _, _, _, _, _, rfl, hb⟩
end Go.Proofs.Ytakhjhiofmgpnaa.G
-- Written by a program of this claim (wip/tools: mkprint.py, pr.sh) out of the translation: plain functions and their contracts. Lean checks every line.
namespace Go.Proofs.Ytakhjhiofmgpnaa.PE
open Go.RowKit Go.Proofs.YtakhjhiofmgpnaaW.PrintWords Go.Proofs.YtakhjhiofmgpnaaW.PrintLast Go.Proofs.YtakhjhiofmgpnaaW.PrintMore Go.Proofs.Ytakhjhiofmgpnaa.G Go.Proofs.Ytakhjhiofmgpnaa.PA Go.Proofs.Ytakhjhiofmgpnaa.PB
attribute [local go_sem] max2_int min2_int max_two min_two max_three min_three max_four min_four   -- for this text's walks alone
set_option linter.unusedVariables false
set_option linter.unusedSimpArgs false
def errW : Option Int → Value
 | none => .nilIface
 | some c => .iface 0 (.int .i64 c)
theorem errW_none : errW none = .nilIface := rfl
theorem errW_some (c : Int) : errW (some c) = .iface 0 (.int .i64 c) := rfl
theorem info27 : (Try.prog.info? 27).map (fun i => (i.zero, i.size, i.bytes)) = some (some (.int .i64 0), 1, 8) := by kernel_rfl
-- the values' own types
end Go.Proofs.Ytakhjhiofmgpnaa.PE
-- Written by a program of this claim (wip/tools: mkprint.py, pr.sh) out of the translation: plain functions and their contracts. Lean checks every line.
namespace Go.Proofs.Ytakhjhiofmgpnaa.PE
open Go.RowKit Go.Proofs.YtakhjhiofmgpnaaW.PrintWords Go.Proofs.YtakhjhiofmgpnaaW.PrintLast Go.Proofs.YtakhjhiofmgpnaaW.PrintMore Go.Proofs.Ytakhjhiofmgpnaa.G Go.Proofs.Ytakhjhiofmgpnaa.PA Go.Proofs.Ytakhjhiofmgpnaa.PB
attribute [local go_sem] max2_int min2_int max_two min_two max_three min_three max_four min_four   -- for this text's walks alone
set_option linter.unusedVariables false
set_option linter.unusedSimpArgs false
def guarantee_Run.l0 : Nat → List Int → List (S74) → Int → Int → Int → Int → Int → List (S39) → Option (Int × Int × Int × (List (S39)) × List Int)
 | 0, _, _, _, _, _, _, _, _ => none
 | k + 1, x6, x15, x16, x17, x102000, x102001, x102002, x102003 => if x17 < x16 then (if 0 ≤ x17 then (if x17 < (x15.length : Int) then ((guarantee_step.f k x102000 x102001 x102002 x102003 ((rd_T74 x15 x17).f0) ((rd_T74 x15 x17).f1) ((rd_T74 x15 x17).f2)).bind fun bt108 => (if bt108.2.2.2.2 = 0 then (if x6.length < 17592186044416 then (guarantee_Run.l0 k (x6 ++ [bt108.2.2.2.2]) x15 x16 (wrap64 (x17 + 1)) bt108.1 bt108.2.1 bt108.2.2.1 bt108.2.2.2.1) else (none)) else (if x6.length < 17592186044416 then (guarantee_Run.l0 k (x6 ++ [bt108.2.2.2.2]) x15 x16 (wrap64 (x17 + 1)) x102000 x102001 x102002 x102003) else (none)))) else (none)) else (none)) else (some (x102000, x102001, x102002, x102003, x6))
def guarantee_Run.f (k : Nat) (a0_0 : Int) (a0_1 : Int) (a0_2 : Int) (l0_3 : List (S39)) (l1 : List (S74)) : Option (Int × Int × Int × (List (S39)) × List Int) := (slices_Clone.f l0_3).bind fun t103 => (guarantee_Run.l0 k ([] : List Int) l1 (l1.length : Int) 0 a0_0 a0_1 a0_2 t103)
set_option maxHeartbeats 8000000 in
set_option maxRecDepth 100000 in
theorem guarantee_Run.calls (k : Nat) (a0_0 : Int) (a0_1 : Int) (a0_2 : Int) (A0_3 : Option Addr) (c0_3 : Nat) (l0_3 : List (S39)) (A1 : Option Addr) (c1 : Nat) (l1 : List (S74)) (r1 : Int) (r2 : Int) (r3 : Int) (r4 : List (S39)) (r5 : List Int) (w : World) (hr0_3 : Kd.C k39 w A0_3 l0_3.length l0_3) (hc0_3 : l0_3.length ≤ c0_3) (hr1 : Kd.C k74 w A1 l1.length l1) (hc1 : l1.length ≤ c1) (h : guarantee_Run.f k a0_0 a0_1 a0_2 l0_3 l1 = some (r1, r2, r3, r4, r5)) :
  Calls Try.prog 27 #[.agg #[.int .i64 a0_0, .int .i64 a0_1, .int .i64 a0_2, .slice A0_3 l0_3.length c0_3], .slice A1 l1.length c1] w fun e w' => ∃ v3_ v4_ : Value, e = .returned (.tuple #[.agg #[.int .i64 r1, .int .i64 r2, .int .i64 r3, v3_], v4_]) ∧ Kd.R k39 39 w' w.heap.size (fun _ => True) v3_ r4 ∧ Kd.R (Kd.int .i64) 27 w' w.heap.size (fun _ => True) v4_ r5 ∧ Below w.heap.size w w' := by
 have hu25 := Try.underlying25
 have hu74 := Try.underlying74
 have HR0_3 := Aside0.mk hr0_3
 have HC0_3 := Aside0.mk hc0_3
 clear hr0_3 hc0_3
 have HR1 := Aside0.mk hr1
 have HC1 := Aside0.mk hc1
 clear hr1 hc1
 have HB := Aside0.mk (Below.refl w.heap.size w)
 have H : ((slices_Clone.f l0_3).bind fun t103 => (guarantee_Run.l0 k ([] : List Int) l1 (l1.length : Int) 0 a0_0 a0_1 a0_2 t103)) = some (r1, r2, r3, r4, r5) := h
 clear h
 replace H := Option.bind_eq_some_iff.mp H
 obtain ⟨t103, A30, H⟩ := H
 replace H : (guarantee_Run.l0 k ([] : List Int) l1 (l1.length : Int) 0 a0_0 a0_1 a0_2 t103) = some (r1, r2, r3, r4, r5) := H
 have A3 := Aside0.mk A30
 clear A30
 have H' := Aside0.mk H
 clear H
 go_enter Try.func27, Try.ntmps27
 go_wp2_with (first | ((with_reducible refine gate_dst (N := 2) rfl ?_); refine box_event ?hg (N := 2) ?hd (cs := #[.int .i64 a0_0, .int .i64 a0_1, .int .i64 a0_2, .slice A0_3 l0_3.length c0_3]) (t := 25) ?hr ?_; (case hd => rfl); (case hg => rfl); (case hr => first | (go_simp; done) | (go_simp; rfl)); intro gb101 hg w4 hbox hb; have qb_ := below_both bel hb; have n0_ := Aside0.mk (qb_.1); have n1_ := Aside0.mk (hbox); have n3_ := Aside0.mk ((by rw [hg]; exact qb_.2 : w.heap.size ≤ gb101)); clear HB; have HB := n0_; have BK101 := n1_; have GE101 := n3_; clear qb_; clear n0_ n1_ n3_; clear hb hbox hg) | ((with_reducible refine gate_dst (N := 4) rfl ?_); refine box_event ?hg (N := 4) ?hd (cs := #[.int .i64 0, .int .i64 0, .int .i64 0, .slice none 0 0]) (t := 25) ?hr ?_; (case hd => rfl); (case hg => rfl); (case hr => first | (go_simp; done) | (go_simp; rfl)); intro gb102 hg w5 hbox hb; have qb_ := below_both bel hb; have q1_ := blk_below2 (g := gb101) (o := .cells #[.int .i64 a0_0, .int .i64 a0_1, .int .i64 a0_2, .slice A0_3 l0_3.length c0_3] 25 (0, 0)) blkx hb; have n0_ := Aside0.mk (q1_.1); have n1_ := Aside0.mk (qb_.1); have n2_ := Aside0.mk (hbox); have n4_ := Aside0.mk ((by rw [hg]; exact qb_.2 : w.heap.size ≤ gb102)); have n5_ := Aside0.mk ((by rw [hg]; exact Nat.ne_of_lt q1_.2 : gb101 ≠ gb102)); have n6_ := Aside0.mk (Ne.symm n5_.out); clear BK101; clear HB; have BK101 := n0_; have HB := n1_; have BK102 := n2_; have GE102 := n4_; have NB101_102 := n5_; have NB102_101 := n6_; clear q1_; clear qb_; clear n0_ n1_ n2_ n4_ n5_ n6_; clear hb hbox hg; have hnb6 := NB101_102.out; have hnc6 := NB102_101.out; obtain ⟨hcz7_0, hcz7_1, hcz7_2, hcz7_3, hfz7_0, hfz7_1, hfz7_2, hfz7_3⟩ := cells4 BK101.out) | ((with_reducible refine gate_callee (f := 38) rfl ?_); refine goesL_ (some 13) rfl rfl Try.func38 (by kernel_rfl) rfl #[.slice A0_3 l0_3.length c0_3] rfl argx ?_; (with_reducible refine (slices_Clone.calls _ _ l0_3 t103 _ ?side1 ?side2 A3.out).mono ?_); (case side1 => repeat (first | exact (Kd.C_below HR0_3.out HB.out) | (with_reducible refine Kd.C_alloc ?_ _) | (with_reducible refine Kd.C_drewN ?_ _) | (with_reducible refine Kd.C_drew ?_))); (case side2 => exact HC0_3.out); rintro e w8 ⟨v104, rfl, ho0, hb⟩; refine ⟨_, rfl, ?_⟩; have qb_ := below_both bel hb; have n0_ := Aside0.mk (Kd.R_lower ho0 qb_.2); have n1_ := Aside0.mk (blk_below (g := gb101) (o := .cells #[.int .i64 a0_0, .int .i64 a0_1, .int .i64 a0_2, .slice A0_3 l0_3.length c0_3] 25 (0, 0)) blkx hb); have n2_ := Aside0.mk (blk_below (g := gb102) (o := .cells #[.int .i64 0, .int .i64 0, .int .i64 0, .slice none 0 0] 25 (0, 0)) blkx hb); have n3_ := Aside0.mk (qb_.1); clear BK101; clear BK102; clear HB; have HO105 := n0_; have BK101 := n1_; have BK102 := n2_; have HB := n3_; clear qb_; clear n0_ n1_ n2_ n3_; (try clear hb); (try clear hb2); (try clear hk); (try clear hi); (try clear ho0); obtain ⟨Ao9, co9, eo9⟩ := Kd.R_slice HO105.out; subst eo9; obtain ⟨hcz10_0, hcz10_1, hcz10_2, hcz10_3, hfz10_0, hfz10_1, hfz10_2, hfz10_3⟩ := cells4 BK101.out))
 go_loopg [6, 17] k (fun kq v6 v17 w' => ∃ (x6_1 : List Int) (x17_1 : Int) (x102000_1 : Int) (x102001_1 : Int) (x102002_1 : Int) (x102003_1 : List (S39)) (u102003 : Value), v17 = .int .i64 x17_1 ∧ Aside0 (guarantee_Run.l0 kq x6_1 l1 (l1.length : Int) x17_1 x102000_1 x102001_1 x102002_1 x102003_1 = some (r1, r2, r3, r4, r5)) ∧ Aside0 (kq ≤ k) ∧ Aside0 (Kd.R (Kd.int .i64) 27 w' w.heap.size (fun _ => True) v6 x6_1) ∧ Aside0 (Kd.R k39 39 w' w.heap.size (fun _ => True) u102003 x102003_1) ∧ Aside0 (w'.heap[gb101]? = some (.cells #[.int .i64 x102000_1, .int .i64 x102001_1, .int .i64 x102002_1, u102003] 25 (0, 0))) ∧ Aside0 (w'.heap[gb102]? = some (.cells #[.int .i64 0, .int .i64 0, .int .i64 0, (.slice none 0 0)] 25 (0, 0))) ∧ Aside0 (Below w.heap.size w w'))
 case atStart => exact ⟨(([] : List Int)), (0), (a0_0), (a0_1), (a0_2), (t103), (.slice Ao9 t103.length co9), (by first | rfl | (simp; done) | (simp [*]; done)), H', ⟨Nat.le_refl _⟩, ⟨by first | exact Kd.R_nil _ _ _ _ _ | exact Kd.N_nil _ _ _ _ _ | exact Kd.V_nil _ _ _ _ _ | exact Kd.Q_nil _ _ _ _ _ | exact Kd.S_nil _ _ _ _ _⟩, ⟨by (with_reducible repeat (first | apply Kd.R_alloc | apply Kd.R_drewN | apply Kd.R_drew)); exact Kd.R_mono (Kd.R_far (p := ⟨gb101, 3, none⟩) (Kd.R_types HO105.out BK101.out (by decide)) (fun _ hk => hk.2) (.slice Ao9 t103.length co9)) (fun _ hk => trivial)⟩, ⟨by (with_reducible repeat (first | refine blk_drewN ?_ _ | refine blk_drew ?_ | refine blk_alloc ?_ _)); refine blk_put (cs := #[.int .i64 a0_0, .int .i64 a0_1, .int .i64 a0_2, .slice A0_3 l0_3.length c0_3]) ?_ 3 _ rfl; (with_reducible repeat (first | refine blk_drewN ?_ _ | refine blk_drew ?_ | refine blk_alloc ?_ _)); exact BK101.out⟩, ⟨by (with_reducible repeat (first | refine blk_drewN ?_ _ | refine blk_drew ?_ | refine blk_alloc ?_ _)); refine blk_far ?_ NB102_101.out _; (with_reducible repeat (first | refine blk_drewN ?_ _ | refine blk_drew ?_ | refine blk_alloc ?_ _)); exact BK102.out⟩, ⟨bel⟩⟩
 case round =>
  clear H'
  try clear c1
  try clear c2
  try clear p2
  try clear c3
  try clear c6
  try clear hcz10_0
  try clear hcz10_1
  try clear hcz10_2
  try clear hcz10_3
  try clear hcz7_0
  try clear hcz7_1
  try clear hcz7_2
  try clear hcz7_3
  try clear hfz10_0
  try clear hfz10_1
  try clear hfz10_2
  try clear hfz10_3
  try clear hfz7_0
  try clear hfz7_1
  try clear hfz7_2
  try clear hfz7_3
  obtain ⟨x6_1, x17_1, x102000_1, x102001_1, x102002_1, x102003_1, u102003, rfl, HA, HK1, HO_6, HO_102003, BK101, BK102, HB⟩ := hrel
  cases gk with
  | zero => exact absurd HA.out (by simp [guarantee_Run.l0])
  | succ k1 =>
   have H := HA.out
   clear HA
   simp only [guarantee_Run.l0] at H
   by_cases c11 : x17_1 < (l1.length : Int)
   ·rw [if_pos c11] at H
    have c11b0 : decide (x17_1 < (l1.length : Int)) = true := decide_eq_true c11
    clear c11
    by_cases c12 : 0 ≤ x17_1
    ·rw [if_pos c12] at H
     have c12b0 : decide (0 ≤ x17_1) = true := decide_eq_true c12
     clear c12
     by_cases c13 : x17_1 < (l1.length : Int)
     ·rw [if_pos c13] at H
      have c13b0 : decide (x17_1 < (l1.length : Int)) = true := decide_eq_true c13
      clear c13
      replace H := Option.bind_eq_some_iff.mp H
      obtain ⟨⟨t108, t109, t110, t111, t114⟩, A140, H⟩ := H
      replace H : (if t114 = 0 then (if x6_1.length < 17592186044416 then (guarantee_Run.l0 k1 (x6_1 ++ [t114]) l1 (l1.length : Int) (wrap64 (x17_1 + 1)) t108 t109 t110 t111) else (none)) else (if x6_1.length < 17592186044416 then (guarantee_Run.l0 k1 (x6_1 ++ [t114]) l1 (l1.length : Int) (wrap64 (x17_1 + 1)) x102000_1 x102001_1 x102002_1 x102003_1) else (none))) = some (r1, r2, r3, r4, r5) := H
      have A14 := Aside0.mk A140
      clear A140
      by_cases c15 : t114 = 0
      ·rw [if_pos c15] at H
       have c15b0 : (t114 == 0) = true := beq_iff_eq.mpr c15
       have c15b1 : (t114 != 0) = false := bne_eq_false_iff_eq.mpr c15
       clear c15
       by_cases c16 : x6_1.length < 17592186044416
       ·rw [if_pos c16] at H
        have LMc16 := Aside0.mk c16
        clear c16
        obtain ⟨y116, hy116⟩ : ∃ y_ : List Int, y_ = (x6_1 ++ [t114]) := ⟨_, rfl⟩
        replace H : (guarantee_Run.l0 k1 y116 l1 (l1.length : Int) (wrap64 (x17_1 + 1)) t108 t109 t110 t111) = some (r1, r2, r3, r4, r5) := by first | (rw [hy116]; with_reducible exact H) | (have H2_ := (Option.bind_some _ _).symm.trans H; rw [hy116]; with_reducible exact H2_) | (have H2_ := (Option.bind_some _ _).symm.trans H; with_reducible exact H2_) | with_reducible exact H | (rw [hy116]; exact H) | exact H
        have Ny116 := Aside0.mk hy116
        clear hy116
        have H' := Aside0.mk H
        clear H
        have p106 : 0 ≤ (x17_1 : Int) := of_decide_eq_true (by first | (with_reducible assumption) | assumption)
        have q106 : x17_1 < (l1.length : Int) := of_decide_eq_true (by first | (with_reducible assumption) | assumption)
        obtain ⟨ad106, e106, hx106_0, hx106_1, hx106_2⟩ := at_T74 HR1.out x17_1 p106 q106
        cases e106
        replace hx106_0 := (HB.out.cell (World.block_lt_of_cell? w _ hx106_0)).trans hx106_0
        replace hx106_1 := (HB.out.cell (World.block_lt_of_cell? w _ hx106_1)).trans hx106_1
        replace hx106_2 := (HB.out.cell (World.block_lt_of_cell? w _ hx106_2)).trans hx106_2
        replace p106 := eq_true p106
        replace q106 := eq_true q106
        go_wp2_with (first | ((with_reducible refine gate_dst (N := 8) rfl ?_); refine box_event ?hg (N := 8) ?hd (cs := #[.int .i64 0, .int .i64 0, .int .i64 0]) (t := 74) ?hr ?_; (case hd => rfl); (case hg => rfl); (case hr => first | (go_simp; done) | (go_simp; rfl)); intro gb107 hg w17 hbox hb; have qb_ := below_both bel hb; have n0_ := Aside0.mk (Kd.R_below (rowx HO_6.out) hb); have n1_ := Aside0.mk (Kd.R_below (rowx HO_102003.out) hb); have q1_ := blk_below2 (g := gb101) (o := .cells #[.int .i64 x102000_1, .int .i64 x102001_1, .int .i64 x102002_1, u102003] 25 (0, 0)) blkx hb; have n2_ := Aside0.mk (q1_.1); have q2_ := blk_below2 (g := gb102) (o := .cells #[.int .i64 0, .int .i64 0, .int .i64 0, .slice none 0 0] 25 (0, 0)) blkx hb; have n3_ := Aside0.mk (q2_.1); have n4_ := Aside0.mk (qb_.1); have n5_ := Aside0.mk (hbox); have n7_ := Aside0.mk ((by rw [hg]; exact qb_.2 : w.heap.size ≤ gb107)); have n8_ := Aside0.mk ((by rw [hg]; exact Nat.ne_of_lt q1_.2 : gb101 ≠ gb107)); have n9_ := Aside0.mk (Ne.symm n8_.out); have n10_ := Aside0.mk ((by rw [hg]; exact Nat.ne_of_lt q2_.2 : gb102 ≠ gb107)); have n11_ := Aside0.mk (Ne.symm n10_.out); clear HO_6; clear HO_102003; clear BK101; clear BK102; clear HB; have HO_6 := n0_; have HO_102003 := n1_; have BK101 := n2_; have BK102 := n3_; have HB := n4_; have BK107 := n5_; have GE107 := n7_; have NB101_107 := n8_; have NB107_101 := n9_; have NB102_107 := n10_; have NB107_102 := n11_; clear q1_ q2_; clear qb_; clear n0_ n1_ n2_ n3_ n4_ n5_ n7_ n8_ n9_ n10_ n11_; clear hb hbox hg; have hnb18 := NB107_101.out; have hnc18 := NB101_107.out; have hnb19 := NB107_102.out; have hnc19 := NB102_107.out; obtain ⟨hcz20_0, hcz20_1, hcz20_2, hfz20_0, hfz20_1, hfz20_2⟩ := cells3 BK107.out; have hnb21 := NB101_102.out; have hnc21 := NB102_101.out; obtain ⟨hcz22_0, hcz22_1, hcz22_2, hcz22_3, hfz22_0, hfz22_1, hfz22_2, hfz22_3⟩ := cells4 BK101.out; obtain ⟨Ao23, co23, eo23⟩ := Kd.R_slice HO_102003.out; subst eo23) | ((with_reducible refine gate_callee (f := 44) rfl ?_); refine goesL_ (some 24) rfl rfl Try.func44 (by kernel_rfl) rfl #[.agg #[.int .i64 x102000_1, .int .i64 x102001_1, .int .i64 x102002_1, .slice Ao23 x102003_1.length co23], .agg #[.int .i64 ((rd_T74 l1 x17_1).f0), .int .i64 ((rd_T74 l1 x17_1).f1), .int .i64 ((rd_T74 l1 x17_1).f2)]] rfl argx ?_; (with_reducible refine (guarantee_step.calls_ok k1 x102000_1 x102001_1 x102002_1 _ _ x102003_1 ((rd_T74 l1 x17_1).f0) ((rd_T74 l1 x17_1).f1) ((rd_T74 l1 x17_1).f2) t108 t109 t110 t111 t114 _ ?side1 ?side2 A14.out c15b0).mono ?_); (case side1 => refine (Kd.R_reads' (e := 39) (base := w.heap.size) (ok := fun k_ => True) (n := x102003_1.length) (c := co23) ?_).2.2; exact (by (with_reducible repeat (first | apply Kd.R_alloc | apply Kd.R_drewN | apply Kd.R_drew)); exact (Kd.R_mono (Kd.R_far (p := ⟨gb107, 2, none⟩) (Kd.R_far (p := ⟨gb107, 1, none⟩) (Kd.R_far (p := ⟨gb107, 0, none⟩) (Kd.R_types HO_102003.out BK107.out (by decide)) (fun _ hk => hk.2) (.int .i64 ((rd_T74 l1 x17_1).f0))) (fun _ hk => hk.2) (.int .i64 ((rd_T74 l1 x17_1).f1))) (fun _ hk => hk.2) (.int .i64 ((rd_T74 l1 x17_1).f2))) (fun _ h_ => h_.1)))); (case side2 => exact (Kd.R_reads' HO_102003.out).2.1); rintro e w24 ⟨v112, rfl, ho0, hb⟩; refine ⟨_, rfl, ?_⟩; have qb_ := below_both bel hb; have n0_ := Aside0.mk (Kd.R_below (by (with_reducible repeat (first | apply Kd.R_alloc | apply Kd.R_drewN | apply Kd.R_drew)); exact (Kd.R_mono (Kd.R_far (p := ⟨gb107, 2, none⟩) (Kd.R_far (p := ⟨gb107, 1, none⟩) (Kd.R_far (p := ⟨gb107, 0, none⟩) (Kd.R_types HO_6.out BK107.out (by decide)) (fun _ hk => hk.2) (.int .i64 ((rd_T74 l1 x17_1).f0))) (fun _ hk => hk.2) (.int .i64 ((rd_T74 l1 x17_1).f1))) (fun _ hk => hk.2) (.int .i64 ((rd_T74 l1 x17_1).f2))) (fun _ h_ => h_.1))) hb); have n2_ := Aside0.mk (Kd.R_lower (Kd.R_new' ho0 (Kd.R_lt (by (with_reducible repeat (first | apply Kd.R_alloc | apply Kd.R_drewN | apply Kd.R_drew)); exact (Kd.R_mono (Kd.R_far (p := ⟨gb107, 2, none⟩) (Kd.R_far (p := ⟨gb107, 1, none⟩) (Kd.R_far (p := ⟨gb107, 0, none⟩) (Kd.R_types HO_102003.out BK107.out (by decide)) (fun _ hk => hk.2) (.int .i64 ((rd_T74 l1 x17_1).f0))) (fun _ hk => hk.2) (.int .i64 ((rd_T74 l1 x17_1).f1))) (fun _ hk => hk.2) (.int .i64 ((rd_T74 l1 x17_1).f2))) (fun _ h_ => h_.1))))) qb_.2); have n3_ := Aside0.mk (blk_below (g := gb101) (o := .cells #[.int .i64 x102000_1, .int .i64 x102001_1, .int .i64 x102002_1, .slice Ao23 x102003_1.length co23] 25 (0, 0)) blkx hb); have n4_ := Aside0.mk (blk_below (g := gb102) (o := .cells #[.int .i64 0, .int .i64 0, .int .i64 0, .slice none 0 0] 25 (0, 0)) blkx hb); have n5_ := Aside0.mk (blk_below (g := gb107) (o := .cells #[.int .i64 ((rd_T74 l1 x17_1).f0), .int .i64 ((rd_T74 l1 x17_1).f1), .int .i64 ((rd_T74 l1 x17_1).f2)] 74 (0, 0)) (by (with_reducible repeat (first | refine blk_drewN ?_ _ | refine blk_drew ?_ | refine blk_alloc ?_ _)); refine blk_put (cs := #[.int .i64 ((rd_T74 l1 x17_1).f0), .int .i64 ((rd_T74 l1 x17_1).f1), .int .i64 0]) ?_ 2 _ rfl; refine blk_put (cs := #[.int .i64 ((rd_T74 l1 x17_1).f0), .int .i64 0, .int .i64 0]) ?_ 1 _ rfl; refine blk_put (cs := #[.int .i64 0, .int .i64 0, .int .i64 0]) ?_ 0 _ rfl; (with_reducible repeat (first | refine blk_drewN ?_ _ | refine blk_drew ?_ | refine blk_alloc ?_ _)); exact BK107.out) hb); have n6_ := Aside0.mk (qb_.1); clear HO_6; (try clear HO_102003); clear BK101; clear BK102; clear BK107; clear HB; have HO_6 := n0_; have HO113 := n2_; have BK101 := n3_; have BK102 := n4_; have BK107 := n5_; have HB := n6_; clear qb_; clear n0_ n2_ n3_ n4_ n5_ n6_; (try clear hb); (try clear hb2); (try clear hk); (try clear hi); (try clear ho0)) | ((with_reducible refine gate_dst (N := 9) rfl ?_); refine box_event ?hg (N := 9) ?hd (cs := #[.int .i64 0, .int .i64 0, .int .i64 0, .slice none 0 0]) (t := 25) ?hr ?_; (case hd => rfl); (case hg => rfl); (case hr => first | (go_simp; done) | (go_simp; rfl)); intro gb115 hg w25 hbox hb; have qb_ := below_both bel hb; have n0_ := Aside0.mk (Kd.R_below (rowx HO_6.out) hb); have n2_ := Aside0.mk (Kd.R_below (rowx HO113.out) hb); have q1_ := blk_below2 (g := gb101) (o := .cells #[.int .i64 x102000_1, .int .i64 x102001_1, .int .i64 x102002_1, .slice Ao23 x102003_1.length co23] 25 (0, 0)) blkx hb; have n3_ := Aside0.mk (q1_.1); have q2_ := blk_below2 (g := gb102) (o := .cells #[.int .i64 0, .int .i64 0, .int .i64 0, .slice none 0 0] 25 (0, 0)) blkx hb; have n4_ := Aside0.mk (q2_.1); have n6_ := Aside0.mk (qb_.1); have n7_ := Aside0.mk (hbox); have n9_ := Aside0.mk ((by rw [hg]; exact qb_.2 : w.heap.size ≤ gb115)); have n10_ := Aside0.mk ((by rw [hg]; exact Nat.ne_of_lt q1_.2 : gb101 ≠ gb115)); have n11_ := Aside0.mk (Ne.symm n10_.out); have n12_ := Aside0.mk ((by rw [hg]; exact Nat.ne_of_lt q2_.2 : gb102 ≠ gb115)); have n13_ := Aside0.mk (Ne.symm n12_.out); have n14_ := Aside0.mk ((by rw [hg]; exact Nat.ne_of_lt (blk_lt (g := gb107) (o := .cells #[.int .i64 ((rd_T74 l1 x17_1).f0), .int .i64 ((rd_T74 l1 x17_1).f1), .int .i64 ((rd_T74 l1 x17_1).f2)] 74 (0, 0)) blkx) : gb107 ≠ gb115)); have n15_ := Aside0.mk (Ne.symm n14_.out); clear HO_6; (try clear HO_102003); clear HO113; clear BK101; clear BK102; (try clear BK107); clear HB; have HO_6 := n0_; have HO113 := n2_; have BK101 := n3_; have BK102 := n4_; have HB := n6_; have BK115 := n7_; have GE115 := n9_; have NB101_115 := n10_; have NB115_101 := n11_; have NB102_115 := n12_; have NB115_102 := n13_; have NB107_115 := n14_; have NB115_107 := n15_; clear q1_ q2_; clear qb_; clear n0_ n2_ n3_ n4_ n6_ n7_ n9_ n10_ n11_ n12_ n13_ n14_ n15_; clear hb hbox hg; have hnb26 := NB115_101.out; have hnc26 := NB101_115.out; have hnb27 := NB115_102.out; have hnc27 := NB102_115.out; have hnb28 := NB115_107.out; have hnc28 := NB107_115.out; obtain ⟨hcz29_0, hcz29_1, hcz29_2, hcz29_3, hfz29_0, hfz29_1, hfz29_2, hfz29_3⟩ := cells4 BK115.out; obtain ⟨Ao30, co30, eo30⟩ := Kd.R_slice HO113.out; subst eo30; obtain ⟨hcz31_0, hcz31_1, hcz31_2, hcz31_3, hfz31_0, hfz31_1, hfz31_2, hfz31_3⟩ := cells4 BK101.out) | ((with_reducible refine gate_builtin (b := .append) (xs := #[.tmp 30, .tmp 32]) rfl ?_); at_builtin; refine Kd.R_append (Kd.int .i64) (w0 := w) w.heap.size rfl (.tmp 30) (.tmp 32) 47 27 (.int .i64 0) 8 rfl Try.underlying47 info27 rfl (by decide) (by omega) u6 x6_1 t114 [.int .i64 t114] (fun _ => True) (fun _ => False) rfl (by first | (go_simp; done) | (go_simp; rfl)) ?aP (fun _ hk => hk.elim) ?aF ?aO ?aB ?aS ?aL ?_; (case aP => exact rfl); (case aB => exact bel); (case aF => exact (fun _ _ => trivial)); (case aO => exact (by (with_reducible repeat (first | apply Kd.R_alloc | apply Kd.R_drewN | apply Kd.R_drew)); exact Kd.R_mono (Kd.R_far (p := ⟨gb101, 3, none⟩) (Kd.R_far (p := ⟨gb101, 2, none⟩) (Kd.R_far (p := ⟨gb101, 1, none⟩) (Kd.R_far (p := ⟨gb101, 0, none⟩) (Kd.R_far (p := ⟨gb115, 3, none⟩) (Kd.R_far (p := ⟨gb115, 2, none⟩) (Kd.R_far (p := ⟨gb115, 1, none⟩) (Kd.R_far (p := ⟨gb115, 0, none⟩) (Kd.R_types (Kd.R_types HO_6.out BK115.out (by decide)) BK101.out (by decide)) (fun _ hk => hk.1.2) (.int .i64 t108)) (fun _ hk => hk.1.2) (.int .i64 t109)) (fun _ hk => hk.1.2) (.int .i64 t110)) (fun _ hk => hk.1.2) (.slice Ao30 t111.length co30)) (fun _ hk => hk.2) (.int .i64 t108)) (fun _ hk => hk.2) (.int .i64 t109)) (fun _ hk => hk.2) (.int .i64 t110)) (fun _ hk => hk.2) (.slice Ao30 t111.length co30)) (fun _ hk => trivial))); (case aS => exact (below_size bel)); (case aL => have := LMc16.out; omega); intro v117 w32 ho hb hg hat; rw [← Ny116.out] at ho; have n1_ := Aside0.mk (blk_grown (g := gb101) (o := .cells #[.int .i64 t108, .int .i64 t109, .int .i64 t110, .slice Ao30 t111.length co30] 25 (0, 0)) (by (with_reducible repeat (first | refine blk_drewN ?_ _ | refine blk_drew ?_ | refine blk_alloc ?_ _)); refine blk_put (cs := #[.int .i64 t108, .int .i64 t109, .int .i64 t110, .slice Ao23 x102003_1.length co23]) ?_ 3 _ rfl; refine blk_put (cs := #[.int .i64 t108, .int .i64 t109, .int .i64 x102002_1, .slice Ao23 x102003_1.length co23]) ?_ 2 _ rfl; refine blk_put (cs := #[.int .i64 t108, .int .i64 x102001_1, .int .i64 x102002_1, .slice Ao23 x102003_1.length co23]) ?_ 1 _ rfl; refine blk_put (cs := #[.int .i64 x102000_1, .int .i64 x102001_1, .int .i64 x102002_1, .slice Ao23 x102003_1.length co23]) ?_ 0 _ rfl; refine blk_far ?_ NB101_115.out _; refine blk_far ?_ NB101_115.out _; refine blk_far ?_ NB101_115.out _; refine blk_far ?_ NB101_115.out _; (with_reducible repeat (first | refine blk_drewN ?_ _ | refine blk_drew ?_ | refine blk_alloc ?_ _)); exact BK101.out) hg (Kd.R_ne HO_6.out BK101.out (by decide))); have n2_ := Aside0.mk (blk_grown (g := gb102) (o := .cells #[.int .i64 0, .int .i64 0, .int .i64 0, .slice none 0 0] 25 (0, 0)) blkx hg (Kd.R_ne HO_6.out BK102.out (by decide))); have n4_ := Aside0.mk (Kd.R_over' (by (with_reducible repeat (first | apply Kd.R_alloc | apply Kd.R_drewN | apply Kd.R_drew)); exact (Kd.R_mono (Kd.R_mono (Kd.R_far (p := ⟨gb101, 3, none⟩) (Kd.R_far (p := ⟨gb101, 2, none⟩) (Kd.R_far (p := ⟨gb101, 1, none⟩) (Kd.R_far (p := ⟨gb101, 0, none⟩) (Kd.R_far (p := ⟨gb115, 3, none⟩) (Kd.R_far (p := ⟨gb115, 2, none⟩) (Kd.R_far (p := ⟨gb115, 1, none⟩) (Kd.R_far (p := ⟨gb115, 0, none⟩) (Kd.R_types (Kd.R_types HO113.out BK115.out (by decide)) BK101.out (by decide)) (fun _ hk => hk.1.2) (.int .i64 t108)) (fun _ hk => hk.1.2) (.int .i64 t109)) (fun _ hk => hk.1.2) (.int .i64 t110)) (fun _ hk => hk.1.2) (.slice Ao30 t111.length co30)) (fun _ hk => hk.2) (.int .i64 t108)) (fun _ hk => hk.2) (.int .i64 t109)) (fun _ hk => hk.2) (.int .i64 t110)) (fun _ hk => hk.2) (.slice Ao30 t111.length co30)) (fun _ h_ => h_.1)) (fun _ h_ => h_.1))) (Kd.R_typed (by (with_reducible repeat (first | apply Kd.R_alloc | apply Kd.R_drewN | apply Kd.R_drew)); exact (Kd.R_mono (Kd.R_mono (Kd.R_far (p := ⟨gb101, 3, none⟩) (Kd.R_far (p := ⟨gb101, 2, none⟩) (Kd.R_far (p := ⟨gb101, 1, none⟩) (Kd.R_far (p := ⟨gb101, 0, none⟩) (Kd.R_far (p := ⟨gb115, 3, none⟩) (Kd.R_far (p := ⟨gb115, 2, none⟩) (Kd.R_far (p := ⟨gb115, 1, none⟩) (Kd.R_far (p := ⟨gb115, 0, none⟩) (Kd.R_types (Kd.R_types HO_6.out BK115.out (by decide)) BK101.out (by decide)) (fun _ hk => hk.1.2) (.int .i64 t108)) (fun _ hk => hk.1.2) (.int .i64 t109)) (fun _ hk => hk.1.2) (.int .i64 t110)) (fun _ hk => hk.1.2) (.slice Ao30 t111.length co30)) (fun _ hk => hk.2) (.int .i64 t108)) (fun _ hk => hk.2) (.int .i64 t109)) (fun _ hk => hk.2) (.int .i64 t110)) (fun _ hk => hk.2) (.slice Ao30 t111.length co30)) (fun _ h_ => h_.1)) (fun _ h_ => h_.1)))) (by decide) hg); have n6_ := Aside0.mk (hb); have n7_ := Aside0.mk (ho); (try clear HO_102003); clear BK101; clear BK102; (try clear BK107); clear HO113; (try clear BK115); clear HB; clear HO_6; have BK101 := n1_; have BK102 := n2_; have HO113 := n4_; have HB := n6_; have HO118 := n7_; clear n1_ n2_ n4_ n6_ n7_; clear ho hb hg hat))
        go_roundg k1
        case measure => have := HK1.out; omega
        case rel => exact ⟨(y116), (wrap64 (x17_1 + 1)), (t108), (t109), (t110), (t111), (.slice Ao30 t111.length co30), (by first | rfl | (simp; done) | (simp [*]; done)), H', ⟨by have := HK1.out; omega⟩, ⟨by (with_reducible repeat (first | apply Kd.R_alloc | apply Kd.R_drewN | apply Kd.R_drew)); exact HO118.out⟩, ⟨by (with_reducible repeat (first | apply Kd.R_alloc | apply Kd.R_drewN | apply Kd.R_drew)); exact Kd.R_mono HO113.out (fun _ hk => trivial)⟩, ⟨by (with_reducible repeat (first | refine blk_drewN ?_ _ | refine blk_drew ?_ | refine blk_alloc ?_ _)); exact BK101.out⟩, ⟨by (with_reducible repeat (first | refine blk_drewN ?_ _ | refine blk_drew ?_ | refine blk_alloc ?_ _)); exact BK102.out⟩, ⟨bel⟩⟩
       ·rw [if_neg c16] at H
        exact absurd H (by simp)
      ·rw [if_neg c15] at H
       have c15b0 : (t114 == 0) = false := beq_eq_false_iff_ne.mpr c15
       have c15b1 : (t114 != 0) = true := bne_iff_ne.mpr c15
       by_cases c33 : x6_1.length < 17592186044416
       ·rw [if_pos c33] at H
        have LMc33 := Aside0.mk c33
        clear c33
        obtain ⟨y119, hy119⟩ : ∃ y_ : List Int, y_ = (x6_1 ++ [t114]) := ⟨_, rfl⟩
        replace H : (guarantee_Run.l0 k1 y119 l1 (l1.length : Int) (wrap64 (x17_1 + 1)) x102000_1 x102001_1 x102002_1 x102003_1) = some (r1, r2, r3, r4, r5) := by first | (rw [hy119]; with_reducible exact H) | (have H2_ := (Option.bind_some _ _).symm.trans H; rw [hy119]; with_reducible exact H2_) | (have H2_ := (Option.bind_some _ _).symm.trans H; with_reducible exact H2_) | with_reducible exact H | (rw [hy119]; exact H) | exact H
        have Ny119 := Aside0.mk hy119
        clear hy119
        have H' := Aside0.mk H
        clear H
        have p106 : 0 ≤ (x17_1 : Int) := of_decide_eq_true (by first | (with_reducible assumption) | assumption)
        have q106 : x17_1 < (l1.length : Int) := of_decide_eq_true (by first | (with_reducible assumption) | assumption)
        obtain ⟨ad106, e106, hx106_0, hx106_1, hx106_2⟩ := at_T74 HR1.out x17_1 p106 q106
        cases e106
        replace hx106_0 := (HB.out.cell (World.block_lt_of_cell? w _ hx106_0)).trans hx106_0
        replace hx106_1 := (HB.out.cell (World.block_lt_of_cell? w _ hx106_1)).trans hx106_1
        replace hx106_2 := (HB.out.cell (World.block_lt_of_cell? w _ hx106_2)).trans hx106_2
        replace p106 := eq_true p106
        replace q106 := eq_true q106
        go_wp2_with (first | ((with_reducible refine gate_dst (N := 8) rfl ?_); refine box_event ?hg (N := 8) ?hd (cs := #[.int .i64 0, .int .i64 0, .int .i64 0]) (t := 74) ?hr ?_; (case hd => rfl); (case hg => rfl); (case hr => first | (go_simp; done) | (go_simp; rfl)); intro gb107 hg w34 hbox hb; have qb_ := below_both bel hb; have n0_ := Aside0.mk (Kd.R_below (rowx HO_6.out) hb); have n1_ := Aside0.mk (Kd.R_below (rowx HO_102003.out) hb); have q1_ := blk_below2 (g := gb101) (o := .cells #[.int .i64 x102000_1, .int .i64 x102001_1, .int .i64 x102002_1, u102003] 25 (0, 0)) blkx hb; have n2_ := Aside0.mk (q1_.1); have q2_ := blk_below2 (g := gb102) (o := .cells #[.int .i64 0, .int .i64 0, .int .i64 0, .slice none 0 0] 25 (0, 0)) blkx hb; have n3_ := Aside0.mk (q2_.1); have n4_ := Aside0.mk (qb_.1); have n5_ := Aside0.mk (hbox); have n7_ := Aside0.mk ((by rw [hg]; exact qb_.2 : w.heap.size ≤ gb107)); have n8_ := Aside0.mk ((by rw [hg]; exact Nat.ne_of_lt q1_.2 : gb101 ≠ gb107)); have n9_ := Aside0.mk (Ne.symm n8_.out); have n10_ := Aside0.mk ((by rw [hg]; exact Nat.ne_of_lt q2_.2 : gb102 ≠ gb107)); have n11_ := Aside0.mk (Ne.symm n10_.out); clear HO_6; clear HO_102003; clear BK101; clear BK102; clear HB; have HO_6 := n0_; have HO_102003 := n1_; have BK101 := n2_; have BK102 := n3_; have HB := n4_; have BK107 := n5_; have GE107 := n7_; have NB101_107 := n8_; have NB107_101 := n9_; have NB102_107 := n10_; have NB107_102 := n11_; clear q1_ q2_; clear qb_; clear n0_ n1_ n2_ n3_ n4_ n5_ n7_ n8_ n9_ n10_ n11_; clear hb hbox hg; have hnb35 := NB107_101.out; have hnc35 := NB101_107.out; have hnb36 := NB107_102.out; have hnc36 := NB102_107.out; obtain ⟨hcz37_0, hcz37_1, hcz37_2, hfz37_0, hfz37_1, hfz37_2⟩ := cells3 BK107.out; have hnb38 := NB101_102.out; have hnc38 := NB102_101.out; obtain ⟨hcz39_0, hcz39_1, hcz39_2, hcz39_3, hfz39_0, hfz39_1, hfz39_2, hfz39_3⟩ := cells4 BK101.out; obtain ⟨Ao40, co40, eo40⟩ := Kd.R_slice HO_102003.out; subst eo40) | ((with_reducible refine gate_callee (f := 44) rfl ?_); refine goesL_ (some 24) rfl rfl Try.func44 (by kernel_rfl) rfl #[.agg #[.int .i64 x102000_1, .int .i64 x102001_1, .int .i64 x102002_1, .slice Ao40 x102003_1.length co40], .agg #[.int .i64 ((rd_T74 l1 x17_1).f0), .int .i64 ((rd_T74 l1 x17_1).f1), .int .i64 ((rd_T74 l1 x17_1).f2)]] rfl argx ?_; (with_reducible refine (guarantee_step.calls_err k1 x102000_1 x102001_1 x102002_1 _ _ x102003_1 ((rd_T74 l1 x17_1).f0) ((rd_T74 l1 x17_1).f1) ((rd_T74 l1 x17_1).f2) t108 t109 t110 t111 t114 _ ?side1 ?side2 A14.out).mono ?_); (case side1 => refine (Kd.R_reads' (e := 39) (base := w.heap.size) (ok := fun k_ => True) (n := x102003_1.length) (c := co40) ?_).2.2; exact (by (with_reducible repeat (first | apply Kd.R_alloc | apply Kd.R_drewN | apply Kd.R_drew)); exact (Kd.R_mono (Kd.R_far (p := ⟨gb107, 2, none⟩) (Kd.R_far (p := ⟨gb107, 1, none⟩) (Kd.R_far (p := ⟨gb107, 0, none⟩) (Kd.R_types HO_102003.out BK107.out (by decide)) (fun _ hk => hk.2) (.int .i64 ((rd_T74 l1 x17_1).f0))) (fun _ hk => hk.2) (.int .i64 ((rd_T74 l1 x17_1).f1))) (fun _ hk => hk.2) (.int .i64 ((rd_T74 l1 x17_1).f2))) (fun _ h_ => h_.1)))); (case side2 => exact (Kd.R_reads' HO_102003.out).2.1); rintro e w41 ⟨z1, z2, z3, Ao47, nz, co47, rfl, hb⟩; refine ⟨_, rfl, ?_⟩; have n0_ := Aside0.mk (Kd.R_below (by (with_reducible repeat (first | apply Kd.R_alloc | apply Kd.R_drewN | apply Kd.R_drew)); exact (Kd.R_mono (Kd.R_far (p := ⟨gb107, 2, none⟩) (Kd.R_far (p := ⟨gb107, 1, none⟩) (Kd.R_far (p := ⟨gb107, 0, none⟩) (Kd.R_types HO_6.out BK107.out (by decide)) (fun _ hk => hk.2) (.int .i64 ((rd_T74 l1 x17_1).f0))) (fun _ hk => hk.2) (.int .i64 ((rd_T74 l1 x17_1).f1))) (fun _ hk => hk.2) (.int .i64 ((rd_T74 l1 x17_1).f2))) (fun _ h_ => h_.1))) hb); have n1_ := Aside0.mk (Kd.R_below (by (with_reducible repeat (first | apply Kd.R_alloc | apply Kd.R_drewN | apply Kd.R_drew)); exact (Kd.R_mono (Kd.R_far (p := ⟨gb107, 2, none⟩) (Kd.R_far (p := ⟨gb107, 1, none⟩) (Kd.R_far (p := ⟨gb107, 0, none⟩) (Kd.R_types HO_102003.out BK107.out (by decide)) (fun _ hk => hk.2) (.int .i64 ((rd_T74 l1 x17_1).f0))) (fun _ hk => hk.2) (.int .i64 ((rd_T74 l1 x17_1).f1))) (fun _ hk => hk.2) (.int .i64 ((rd_T74 l1 x17_1).f2))) (fun _ h_ => h_.1))) hb); have n3_ := Aside0.mk (blk_below (g := gb101) (o := .cells #[.int .i64 x102000_1, .int .i64 x102001_1, .int .i64 x102002_1, .slice Ao40 x102003_1.length co40] 25 (0, 0)) blkx hb); have n4_ := Aside0.mk (blk_below (g := gb102) (o := .cells #[.int .i64 0, .int .i64 0, .int .i64 0, .slice none 0 0] 25 (0, 0)) blkx hb); have n5_ := Aside0.mk (blk_below (g := gb107) (o := .cells #[.int .i64 ((rd_T74 l1 x17_1).f0), .int .i64 ((rd_T74 l1 x17_1).f1), .int .i64 ((rd_T74 l1 x17_1).f2)] 74 (0, 0)) (by (with_reducible repeat (first | refine blk_drewN ?_ _ | refine blk_drew ?_ | refine blk_alloc ?_ _)); refine blk_put (cs := #[.int .i64 ((rd_T74 l1 x17_1).f0), .int .i64 ((rd_T74 l1 x17_1).f1), .int .i64 0]) ?_ 2 _ rfl; refine blk_put (cs := #[.int .i64 ((rd_T74 l1 x17_1).f0), .int .i64 0, .int .i64 0]) ?_ 1 _ rfl; refine blk_put (cs := #[.int .i64 0, .int .i64 0, .int .i64 0]) ?_ 0 _ rfl; (with_reducible repeat (first | refine blk_drewN ?_ _ | refine blk_drew ?_ | refine blk_alloc ?_ _)); exact BK107.out) hb); have n6_ := Aside0.mk (below_step bel hb); clear HO_6; clear HO_102003; clear BK101; clear BK102; clear BK107; clear HB; have HO_6 := n0_; have HO_102003 := n1_; have BK101 := n3_; have BK102 := n4_; have BK107 := n5_; have HB := n6_; clear n0_ n1_ n3_ n4_ n5_ n6_; (try clear hb); (try clear hb2); (try clear hk); (try clear hi)) | ((with_reducible refine gate_dst (N := 9) rfl ?_); refine box_event ?hg (N := 9) ?hd (cs := #[.int .i64 0, .int .i64 0, .int .i64 0, .slice none 0 0]) (t := 25) ?hr ?_; (case hd => rfl); (case hg => rfl); (case hr => first | (go_simp; done) | (go_simp; rfl)); intro gb115 hg w42 hbox hb; have qb_ := below_both bel hb; have n0_ := Aside0.mk (Kd.R_below (rowx HO_6.out) hb); have n1_ := Aside0.mk (Kd.R_below (rowx HO_102003.out) hb); have q1_ := blk_below2 (g := gb101) (o := .cells #[.int .i64 x102000_1, .int .i64 x102001_1, .int .i64 x102002_1, .slice Ao40 x102003_1.length co40] 25 (0, 0)) blkx hb; have n3_ := Aside0.mk (q1_.1); have q2_ := blk_below2 (g := gb102) (o := .cells #[.int .i64 0, .int .i64 0, .int .i64 0, .slice none 0 0] 25 (0, 0)) blkx hb; have n4_ := Aside0.mk (q2_.1); have n6_ := Aside0.mk (qb_.1); have n7_ := Aside0.mk (hbox); have n9_ := Aside0.mk ((by rw [hg]; exact qb_.2 : w.heap.size ≤ gb115)); have n10_ := Aside0.mk ((by rw [hg]; exact Nat.ne_of_lt q1_.2 : gb101 ≠ gb115)); have n11_ := Aside0.mk (Ne.symm n10_.out); have n12_ := Aside0.mk ((by rw [hg]; exact Nat.ne_of_lt q2_.2 : gb102 ≠ gb115)); have n13_ := Aside0.mk (Ne.symm n12_.out); have n14_ := Aside0.mk ((by rw [hg]; exact Nat.ne_of_lt (blk_lt (g := gb107) (o := .cells #[.int .i64 ((rd_T74 l1 x17_1).f0), .int .i64 ((rd_T74 l1 x17_1).f1), .int .i64 ((rd_T74 l1 x17_1).f2)] 74 (0, 0)) blkx) : gb107 ≠ gb115)); have n15_ := Aside0.mk (Ne.symm n14_.out); clear HO_6; clear HO_102003; clear BK101; clear BK102; (try clear BK107); clear HB; have HO_6 := n0_; have HO_102003 := n1_; have BK101 := n3_; have BK102 := n4_; have HB := n6_; have BK115 := n7_; have GE115 := n9_; have NB101_115 := n10_; have NB115_101 := n11_; have NB102_115 := n12_; have NB115_102 := n13_; have NB107_115 := n14_; have NB115_107 := n15_; clear q1_ q2_; clear qb_; clear n0_ n1_ n3_ n4_ n6_ n7_ n9_ n10_ n11_ n12_ n13_ n14_ n15_; clear hb hbox hg; have hnb43 := NB115_101.out; have hnc43 := NB101_115.out; have hnb44 := NB115_102.out; have hnc44 := NB102_115.out; have hnb45 := NB115_107.out; have hnc45 := NB107_115.out; obtain ⟨hcz46_0, hcz46_1, hcz46_2, hcz46_3, hfz46_0, hfz46_1, hfz46_2, hfz46_3⟩ := cells4 BK115.out) | ((with_reducible refine gate_builtin (b := .append) (xs := #[.tmp 30, .tmp 32]) rfl ?_); at_builtin; refine Kd.R_append (Kd.int .i64) (w0 := w) w.heap.size rfl (.tmp 30) (.tmp 32) 47 27 (.int .i64 0) 8 rfl Try.underlying47 info27 rfl (by decide) (by omega) u6 x6_1 t114 [.int .i64 t114] (fun _ => True) (fun _ => False) rfl (by first | (go_simp; done) | (go_simp; rfl)) ?aP (fun _ hk => hk.elim) ?aF ?aO ?aB ?aS ?aL ?_; (case aP => exact rfl); (case aB => exact bel); (case aF => exact (fun _ _ => trivial)); (case aO => exact (by (with_reducible repeat (first | apply Kd.R_alloc | apply Kd.R_drewN | apply Kd.R_drew)); exact Kd.R_mono (Kd.R_far (p := ⟨gb115, 3, none⟩) (Kd.R_far (p := ⟨gb115, 2, none⟩) (Kd.R_far (p := ⟨gb115, 1, none⟩) (Kd.R_far (p := ⟨gb115, 0, none⟩) (Kd.R_types HO_6.out BK115.out (by decide)) (fun _ hk => hk.2) (.int .i64 z1)) (fun _ hk => hk.2) (.int .i64 z2)) (fun _ hk => hk.2) (.int .i64 z3)) (fun _ hk => hk.2) (.slice Ao47 nz co47)) (fun _ hk => trivial))); (case aS => exact (below_size bel)); (case aL => have := LMc33.out; omega); intro v120 w48 ho hb hg hat; rw [← Ny119.out] at ho; have n0_ := Aside0.mk (Kd.R_over' (by (with_reducible repeat (first | apply Kd.R_alloc | apply Kd.R_drewN | apply Kd.R_drew)); exact (Kd.R_mono (Kd.R_far (p := ⟨gb115, 3, none⟩) (Kd.R_far (p := ⟨gb115, 2, none⟩) (Kd.R_far (p := ⟨gb115, 1, none⟩) (Kd.R_far (p := ⟨gb115, 0, none⟩) (Kd.R_types HO_102003.out BK115.out (by decide)) (fun _ hk => hk.2) (.int .i64 z1)) (fun _ hk => hk.2) (.int .i64 z2)) (fun _ hk => hk.2) (.int .i64 z3)) (fun _ hk => hk.2) (.slice Ao47 nz co47)) (fun _ h_ => h_.1))) (Kd.R_typed (by (with_reducible repeat (first | apply Kd.R_alloc | apply Kd.R_drewN | apply Kd.R_drew)); exact (Kd.R_mono (Kd.R_far (p := ⟨gb115, 3, none⟩) (Kd.R_far (p := ⟨gb115, 2, none⟩) (Kd.R_far (p := ⟨gb115, 1, none⟩) (Kd.R_far (p := ⟨gb115, 0, none⟩) (Kd.R_types HO_6.out BK115.out (by decide)) (fun _ hk => hk.2) (.int .i64 z1)) (fun _ hk => hk.2) (.int .i64 z2)) (fun _ hk => hk.2) (.int .i64 z3)) (fun _ hk => hk.2) (.slice Ao47 nz co47)) (fun _ h_ => h_.1)))) (by decide) hg); have n1_ := Aside0.mk (blk_grown (g := gb101) (o := .cells #[.int .i64 x102000_1, .int .i64 x102001_1, .int .i64 x102002_1, .slice Ao40 x102003_1.length co40] 25 (0, 0)) blkx hg (Kd.R_ne HO_6.out BK101.out (by decide))); have n2_ := Aside0.mk (blk_grown (g := gb102) (o := .cells #[.int .i64 0, .int .i64 0, .int .i64 0, .slice none 0 0] 25 (0, 0)) blkx hg (Kd.R_ne HO_6.out BK102.out (by decide))); have n6_ := Aside0.mk (hb); have n7_ := Aside0.mk (ho); clear HO_102003; clear BK101; clear BK102; (try clear BK107); (try clear BK115); clear HB; clear HO_6; have HO_102003 := n0_; have BK101 := n1_; have BK102 := n2_; have HB := n6_; have HO121 := n7_; clear n0_ n1_ n2_ n6_ n7_; clear ho hb hg hat))
        go_roundg k1
        case measure => have := HK1.out; omega
        case rel => exact ⟨(y119), (wrap64 (x17_1 + 1)), (x102000_1), (x102001_1), (x102002_1), (x102003_1), (.slice Ao40 x102003_1.length co40), (by first | rfl | (simp; done) | (simp [*]; done)), H', ⟨by have := HK1.out; omega⟩, ⟨by (with_reducible repeat (first | apply Kd.R_alloc | apply Kd.R_drewN | apply Kd.R_drew)); exact HO121.out⟩, ⟨by (with_reducible repeat (first | apply Kd.R_alloc | apply Kd.R_drewN | apply Kd.R_drew)); exact Kd.R_mono HO_102003.out (fun _ hk => trivial)⟩, ⟨by (with_reducible repeat (first | refine blk_drewN ?_ _ | refine blk_drew ?_ | refine blk_alloc ?_ _)); exact BK101.out⟩, ⟨by (with_reducible repeat (first | refine blk_drewN ?_ _ | refine blk_drew ?_ | refine blk_alloc ?_ _)); exact BK102.out⟩, ⟨bel⟩⟩
       ·rw [if_neg c33] at H
        exact absurd H (by simp)
     ·rw [if_neg c13] at H
      exact absurd H (by simp)
    ·rw [if_neg c12] at H
     exact absurd H (by simp)
   ·rw [if_neg c11] at H
    have c11b0 : decide (x17_1 < (l1.length : Int)) = false := decide_eq_false c11
    clear c11
    simp only [Option.some.injEq, Prod.mk.injEq] at H
    obtain ⟨rfl, rfl, rfl, rfl, rfl⟩ := H
    have hnb49 := NB101_102.out
    have hnc49 := NB102_101.out
    obtain ⟨hcz50_0, hcz50_1, hcz50_2, hcz50_3, hfz50_0, hfz50_1, hfz50_2, hfz50_3⟩ := cells4 BK101.out
    obtain ⟨hcz51_0, hcz51_1, hcz51_2, hcz51_3, hfz51_0, hfz51_1, hfz51_2, hfz51_3⟩ := cells4 BK102.out
    obtain ⟨Ao52, co52, eo52⟩ := Kd.R_slice HO_102003.out
    subst eo52
    go_wp2
    refine bodyPost_ret (results_ct rfl _ _ gb102 25 #[.int .i64 x102000_1, .int .i64 x102001_1, .int .i64 x102002_1, .slice Ao52 x102003_1.length co52] (0, 0) _ rfl (by (with_reducible repeat (first | refine blk_drewN ?_ _ | refine blk_drew ?_ | refine blk_alloc ?_ _)); refine blk_put (cs := #[.int .i64 x102000_1, .int .i64 x102001_1, .int .i64 x102002_1, .slice none 0 0]) ?_ 3 _ rfl; refine blk_put (cs := #[.int .i64 x102000_1, .int .i64 x102001_1, .int .i64 0, .slice none 0 0]) ?_ 2 _ rfl; refine blk_put (cs := #[.int .i64 x102000_1, .int .i64 0, .int .i64 0, .slice none 0 0]) ?_ 1 _ rfl; refine blk_put (cs := #[.int .i64 0, .int .i64 0, .int .i64 0, .slice none 0 0]) ?_ 0 _ rfl; (with_reducible repeat (first | refine blk_drewN ?_ _ | refine blk_drew ?_ | refine blk_alloc ?_ _)); exact BK102.out) Try.underlying25 rfl (by kernel_rfl)) rfl ?_
    exact ⟨_, _, by first | rfl | (simp [errW_none, errW_some] <;> rfl) | (simp [*, errW_none, errW_some] <;> rfl), by (with_reducible repeat (first | apply Kd.R_alloc | apply Kd.R_drewN | apply Kd.R_drew)); exact Kd.R_mono (Kd.R_far (p := ⟨gb102, 3, none⟩) (Kd.R_far (p := ⟨gb102, 2, none⟩) (Kd.R_far (p := ⟨gb102, 1, none⟩) (Kd.R_far (p := ⟨gb102, 0, none⟩) (Kd.R_types HO_102003.out BK102.out (by decide)) (fun _ hk => hk.2) (.int .i64 x102000_1)) (fun _ hk => hk.2) (.int .i64 x102001_1)) (fun _ hk => hk.2) (.int .i64 x102002_1)) (fun _ hk => hk.2) (.slice Ao52 x102003_1.length co52)) (fun _ hk => trivial), by (with_reducible repeat (first | apply Kd.R_alloc | apply Kd.R_drewN | apply Kd.R_drew)); exact Kd.R_mono (Kd.R_far (p := ⟨gb102, 3, none⟩) (Kd.R_far (p := ⟨gb102, 2, none⟩) (Kd.R_far (p := ⟨gb102, 1, none⟩) (Kd.R_far (p := ⟨gb102, 0, none⟩) (Kd.R_types HO_6.out BK102.out (by decide)) (fun _ hk => hk.2) (.int .i64 x102000_1)) (fun _ hk => hk.2) (.int .i64 x102001_1)) (fun _ hk => hk.2) (.int .i64 x102002_1)) (fun _ hk => hk.2) (.slice Ao52 x102003_1.length co52)) (fun _ hk => trivial), bel⟩
end Go.Proofs.Ytakhjhiofmgpnaa.PE
