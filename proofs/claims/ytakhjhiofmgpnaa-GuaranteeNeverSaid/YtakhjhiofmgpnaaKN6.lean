/- The row of the law GuaranteeNever: whatever the arguments, the call returns true and leaves them as they were. Its conditions: those of the given row. -/
import Derived.Test.YtakhjhiofmgpnaaKN5
import Derived.Deep.SlicePairs
import Derived.Lib.SmallJoins
import Derived.ChangeSlices
import Derived.OpenShut
import Derived.Test.YtakhjhiofmgpnaaRows
import Derived.ProofKit
import Derived.ShutString
import Derived.ChangeOld
import Derived.Carry
import Derived.SizedLaws
-- Written by a program of this claim (wip/tools: mkprint.py, pr.sh) out of the translation: plain functions and their contracts. Lean checks every line.
namespace Go.Proofs.Ytakhjhiofmgpnaa.PD
open Go.RowKit Go.Proofs.YtakhjhiofmgpnaaW.PrintWords Go.Proofs.YtakhjhiofmgpnaaW.PrintLast Go.Proofs.YtakhjhiofmgpnaaW.PrintMore Go.Proofs.Ytakhjhiofmgpnaa.G Go.Proofs.Ytakhjhiofmgpnaa.PA Go.Proofs.Ytakhjhiofmgpnaa.PB Go.Proofs.Ytakhjhiofmgpnaa.PE
attribute [local go_sem] max2_int min2_int max_two min_two max_three min_three max_four min_four   -- for this text's walks alone
set_option linter.unusedVariables false
set_option linter.unusedSimpArgs false
mutual
def customslaw23_GuaranteeNever.l0 : Nat → List (S74) → Int → Int → Int → Int → List (S39) → Option (Bool)
  | 0, _, _, _, _, _, _ => none
  | k + 1, x10, x11, x202000, x202001, x202002, x202003 => if x11 < (x10.length : Int) then (if 0 ≤ x11 then (if x11 ≤ (wrap64 (x11 + 1)) then (if (wrap64 (x11 + 1)) ≤ (x10.length : Int) then ((guarantee_Run.f k x202000 x202001 x202002 x202003 ((x10.take ((wrap64 (x11 + 1)) : Int).toNat).drop (x11 : Int).toNat)).bind fun bt211 => (customslaw23_GuaranteeNever.l1 k x10 x11 bt211.2.2.2.2 0 0 x202000 x202001 x202002 x202003 bt211.1 bt211.2.1 bt211.2.2.1 bt211.2.2.2.1)) else (none)) else (none)) else (none)) else ((customslaw23_awake.f k).bind fun t206 => (some t206))
def customslaw23_GuaranteeNever.l1 : Nat → List (S74) → Int → List Int → Int → Int → Int → Int → Int → List (S39) → Int → Int → Int → List (S39) → Option (Bool)
  | 0, _, _, _, _, _, _, _, _, _, _, _, _, _ => none
  | k + 1, x10, x11, x13, x14, x15, x202000, x202001, x202002, x202003, x221000, x221001, x221002, x221003 => if x15 < (x221003.length : Int) then (if 0 ≤ x15 then (if ((rd_T39 x221003 x15).f1) < 0 then (some false) else (customslaw23_GuaranteeNever.l1 k x10 x11 x13 (wrap64 (x14 + ((rd_T39 x221003 x15).f1))) (wrap64 (x15 + 1)) x202000 x202001 x202002 x202003 x221000 x221001 x221002 x221003)) else (none)) else (if (x13.length : Int) = 1 then (if x14 > x221001 then (customslaw23_GuaranteeNever.j2 k x10 x11 true x221000 x221001 x221002 x221003) else ((guarantee_Total.f k x221000 x221001 x221002 x221003).bind fun t223 => (if t223 = x14 then (if 0 < (x13.length : Int) then (if (rd x13 0) = 0 then (customslaw23_GuaranteeNever.j2 k x10 x11 false x221000 x221001 x221002 x221003) else ((customsref21_SameGuarantee.f k x202000 x202001 x202002 x202003 x221000 x221001 x221002 x221003).bind fun t225 => (customslaw23_GuaranteeNever.j2 k x10 x11 (!t225) x221000 x221001 x221002 x221003))) else (none)) else (customslaw23_GuaranteeNever.j2 k x10 x11 true x221000 x221001 x221002 x221003)))) else (customslaw23_GuaranteeNever.j2 k x10 x11 true x221000 x221001 x221002 x221003))
def customslaw23_GuaranteeNever.j2 : Nat → List (S74) → Int → Bool → Int → Int → Int → List (S39) → Option (Bool)
  | 0, _, _, _, _, _, _, _ => none
  | k + 1, x10, x11, x91, x221000, x221001, x221002, x221003 => if x91 = true then (some false) else (customslaw23_GuaranteeNever.l0 k x10 (wrap64 (x11 + 1)) x221000 x221001 x221002 x221003)
def customslaw23_GuaranteeNever.l50 : Nat → List (S74) → Int → Int → Int → Int → List (S39) → Option (Bool)
  | 0, _, _, _, _, _, _ => none
  | k + 1, x10, x11, x202000, x202001, x202002, x202003 => if x11 < (x10.length : Int) then (if 0 ≤ x11 then (if x11 ≤ (wrap64 (x11 + 1)) then (if (wrap64 (x11 + 1)) ≤ (x10.length : Int) then ((guarantee_Run.f k x202000 x202001 x202002 x202003 ((x10.take ((wrap64 (x11 + 1)) : Int).toNat).drop (x11 : Int).toNat)).bind fun bt232 => (customslaw23_GuaranteeNever.l51 k x10 x11 bt232.2.2.2.2 0 0 x202000 x202001 x202002 x202003 bt232.1 bt232.2.1 bt232.2.2.1 bt232.2.2.2.1)) else (none)) else (none)) else (none)) else ((customslaw23_awake.f k).bind fun t227 => (some t227))
def customslaw23_GuaranteeNever.l51 : Nat → List (S74) → Int → List Int → Int → Int → Int → Int → Int → List (S39) → Int → Int → Int → List (S39) → Option (Bool)
  | 0, _, _, _, _, _, _, _, _, _, _, _, _, _ => none
  | k + 1, x10, x11, x13, x14, x15, x202000, x202001, x202002, x202003, x242000, x242001, x242002, x242003 => if x15 < (x242003.length : Int) then (if 0 ≤ x15 then (if ((rd_T39 x242003 x15).f1) < 0 then (some false) else (customslaw23_GuaranteeNever.l51 k x10 x11 x13 (wrap64 (x14 + ((rd_T39 x242003 x15).f1))) (wrap64 (x15 + 1)) x202000 x202001 x202002 x202003 x242000 x242001 x242002 x242003)) else (none)) else (if (x13.length : Int) = 1 then (if x14 > x242001 then (customslaw23_GuaranteeNever.j5 k x10 x11 true x242000 x242001 x242002 x242003) else ((guarantee_Total.f k x242000 x242001 x242002 x242003).bind fun t244 => (if t244 = x14 then (if 0 < (x13.length : Int) then (if (rd x13 0) = 0 then (customslaw23_GuaranteeNever.j5 k x10 x11 false x242000 x242001 x242002 x242003) else ((customsref21_SameGuarantee.f k x202000 x202001 x202002 x202003 x242000 x242001 x242002 x242003).bind fun t246 => (customslaw23_GuaranteeNever.j5 k x10 x11 (!t246) x242000 x242001 x242002 x242003))) else (none)) else (customslaw23_GuaranteeNever.j5 k x10 x11 true x242000 x242001 x242002 x242003)))) else (customslaw23_GuaranteeNever.j5 k x10 x11 true x242000 x242001 x242002 x242003))
def customslaw23_GuaranteeNever.j5 : Nat → List (S74) → Int → Bool → Int → Int → Int → List (S39) → Option (Bool)
  | 0, _, _, _, _, _, _, _ => none
  | k + 1, x10, x11, x91, x242000, x242001, x242002, x242003 => if x91 = true then (some false) else (customslaw23_GuaranteeNever.l50 k x10 (wrap64 (x11 + 1)) x242000 x242001 x242002 x242003)
end
def customslaw23_GuaranteeNever.f (k : Nat) (l0 : List Int) (l1 : List Int) (l2 : List (S74)) (a3 : Bool) : Option (Bool) := (customsmade_Guarantee.f k l0).bind fun bt195 => (if a3 = true then (if (l2.length : Int) > 100 then ((customslaw23_awake.f k).bind fun t205 => (some t205)) else (customslaw23_GuaranteeNever.l0 k l2 0 bt195.1 bt195.2.1 bt195.2.2.1 bt195.2.2.2)) else ((customsmade_GuaranteeSteps.f k l1).bind fun t202 => (if (t202.length : Int) > 100 then ((customslaw23_awake.f k).bind fun t226 => (some t226)) else (customslaw23_GuaranteeNever.l50 k t202 0 bt195.1 bt195.2.1 bt195.2.2.1 bt195.2.2.2))))
def customslaw23_GuaranteeNever.T9 : Bool × List (List Nat × List Nat) := (true, [([], []), ([], []), ([], []), ([], []), ([3], [3]), ([1, 2, 4], [1, 2, 4]), ([0, 5], [0, 5]), ([6], [6]), ([7], [7]), ([7], [7]), ([], []), ([10, 8, 6, 0, 1, 2, 3, 4, 5, 6, 7, 8, 10], [8, 10]), ([9, 11, 0, 1, 2, 3, 4, 5, 6, 7, 8, 9, 10, 11], [9])])
def customslaw23_GuaranteeNever.B9 : List Nat := [0, 0, 0, 0, 8, 30, 63, 127, 255, 255, 0, 1535, 4095]
theorem customslaw23_GuaranteeNever.tab9 : rtab .any (opsOf Try.f9 9) = customslaw23_GuaranteeNever.T9 := by kernel_rfl
theorem customslaw23_GuaranteeNever.bits9 : waitsOk customslaw23_GuaranteeNever.T9.2 customslaw23_GuaranteeNever.B9 = true := by kernel_rfl
set_option maxHeartbeats 8000000 in
set_option maxRecDepth 100000 in
theorem customslaw23_GuaranteeNever.calls (k : Nat) (A0 : Option Addr) (c0 : Nat) (l0 : List Int) (A1 : Option Addr) (c1 : Nat) (l1 : List Int) (A2 : Option Addr) (c2 : Nat) (l2 : List (S74)) (a3 : Bool) (w : World) (hr0 : Kd.C (Kd.int .i64) w A0 l0.length l0) (hc0 : l0.length ≤ c0) (hr1 : Kd.C (Kd.int .i64) w A1 l1.length l1) (hc1 : l1.length ≤ c1) (hr2 : Kd.C k74 w A2 l2.length l2) (hc2 : l2.length ≤ c2) (h : customslaw23_GuaranteeNever.f k l0 l1 l2 a3 = some true) :
    Calls Try.prog 9 #[.slice A0 l0.length c0, .slice A1 l1.length c1, .slice A2 l2.length c2, .bool a3] w fun e w' => e = .returned (.bool true) ∧ Below w.heap.size w w' := by
  have hu25 := Try.underlying25
  have HR0 := Aside0.mk hr0
  have HC0 := Aside0.mk hc0
  clear hr0 hc0
  have HR1 := Aside0.mk hr1
  have HC1 := Aside0.mk hc1
  clear hr1 hc1
  have HR2 := Aside0.mk hr2
  have HC2 := Aside0.mk hc2
  clear hr2 hc2
  have HB := Aside0.mk (Below.refl w.heap.size w)
  have H : ((customsmade_Guarantee.f k l0).bind fun bt195 => (if a3 = true then (if (l2.length : Int) > 100 then ((customslaw23_awake.f k).bind fun t205 => (some t205)) else (customslaw23_GuaranteeNever.l0 k l2 0 bt195.1 bt195.2.1 bt195.2.2.1 bt195.2.2.2)) else ((customsmade_GuaranteeSteps.f k l1).bind fun t202 => (if (t202.length : Int) > 100 then ((customslaw23_awake.f k).bind fun t226 => (some t226)) else (customslaw23_GuaranteeNever.l50 k t202 0 bt195.1 bt195.2.1 bt195.2.2.1 bt195.2.2.2))))) = some true := h
  clear h
  replace H := Option.bind_eq_some_iff.mp H
  obtain ⟨⟨t195, t196, t197, t198⟩, A50, H⟩ := H
  replace H : (if a3 = true then (if (l2.length : Int) > 100 then ((customslaw23_awake.f k).bind fun t205 => (some t205)) else (customslaw23_GuaranteeNever.l0 k l2 0 t195 t196 t197 t198)) else ((customsmade_GuaranteeSteps.f k l1).bind fun t202 => (if (t202.length : Int) > 100 then ((customslaw23_awake.f k).bind fun t226 => (some t226)) else (customslaw23_GuaranteeNever.l50 k t202 0 t195 t196 t197 t198)))) = some true := H
  have A5 := Aside0.mk A50
  clear A50
  by_cases c6 : a3 = true
  · subst c6
    have H1 : (if (l2.length : Int) > 100 then ((customslaw23_awake.f k).bind fun t205 => (some t205)) else (customslaw23_GuaranteeNever.l0 k l2 0 t195 t196 t197 t198)) = some true := by rw [if_pos rfl] at H; exact H
    clear H
    have H := H1
    clear H1
    by_cases c7 : (l2.length : Int) > 100
    · rw [if_pos c7] at H
      have c7b0 : decide (100 < (l2.length : Int)) = true := decide_eq_true c7
      have c7b1 : decide (100 < l2.length) = true := decide_eq_true (by omega)
      clear c7
      replace H := Option.bind_eq_some_iff.mp H
      obtain ⟨t205, A80, H⟩ := H
      replace H : (some t205) = some true := H
      have A8 := Aside0.mk A80
      clear A80
      have HT_ := Option.some.inj H
      clear H
      go_enter Try.func9, Try.ntmps9
      go_wp2_with (first | ((with_reducible refine gate_callee (f := 10) rfl ?_); refine goesL_ (some 17) rfl rfl Try.func10 (by kernel_rfl) rfl #[.slice A0 l0.length c0] rfl (by (try simp only [List.map_toArray, List.map_cons, List.map_nil]); first | done | rfl | (simp only [List.length_drop, List.length_take]; rfl)) ?_; (with_reducible refine (customsmade_Guarantee.calls k _ _ l0 t195 t196 t197 t198 _ ?side1 ?side2 A5.out).mono ?_); (case side1 => repeat (first | exact HR0.out | (with_reducible refine Kd.C_alloc ?_ _) | (with_reducible refine Kd.C_drewN ?_ _) | (with_reducible refine Kd.C_drew ?_))); (case side2 => exact HC0.out); rintro e w9 ⟨v199, rfl, ho0, hb⟩; refine ⟨_, rfl, ?_⟩; have n0_ := Aside0.mk (Kd.R_lower ho0 (below_size (by repeat (first | (with_reducible first | exact HB.out | apply below_alloc | apply pw_below_drewN | apply below_drew1) | exact HB.out)))); have n1_ := Aside0.mk (below_step (by repeat (first | (with_reducible first | exact HB.out | apply below_alloc | apply pw_below_drewN | apply below_drew1) | exact HB.out)) hb); clear HB; have HO200 := n0_; have HB := n1_; clear n0_ n1_; (try clear hb); (try clear hb2); (try clear hk); (try clear hi); (try clear ho0)) | ((with_reducible refine gate_dst (N := 9) rfl ?_); refine box_event ?hg (N := 9) ?hd (cs := #[.int .i64 0, .int .i64 0, .int .i64 0, .slice none 0 0]) (t := 25) ?hr ?_; (case hd => rfl); (case hg => rfl); (case hr => first | (go_simp; done) | (go_simp; rfl)); intro gb201 hg w10 hbox hb; have n0_ := Aside0.mk (Kd.R_below (by (with_reducible repeat (first | apply Kd.R_alloc | apply Kd.R_drewN | apply Kd.R_drew)); exact HO200.out) hb); have n1_ := Aside0.mk (below_step (by repeat (first | (with_reducible first | exact HB.out | apply below_alloc | apply pw_below_drewN | apply below_drew1) | exact HB.out)) hb); have n2_ := Aside0.mk (hbox); have n3_ := Aside0.mk ((by rw [hg]; exact (below_size (by repeat (first | (with_reducible first | exact HB.out | apply below_alloc | apply pw_below_drewN | apply below_drew1) | exact HB.out))) : w.heap.size ≤ gb201)); have n4_ := Aside0.mk ((by rw [hg]; exact (below_size (by repeat (first | (with_reducible first | exact HB.out | apply below_alloc | apply pw_below_drewN | apply below_drew1) | exact HB.out))) : w.heap.size ≤ gb201)); clear HO200; clear HB; have HO200 := n0_; have HB := n1_; have BK201 := n2_; have GW201 := n3_; have GE201 := n4_; clear n0_ n1_ n2_ n3_ n4_; clear hb hbox hg; have hcz11_0 : w10.cell? ⟨gb201, 0, none⟩ = some (.int .i64 0) := (blk_cell BK201.out 0).trans rfl; have hcz11_1 : w10.cell? ⟨gb201, 1, none⟩ = some (.int .i64 0) := (blk_cell BK201.out 1).trans rfl; have hcz11_2 : w10.cell? ⟨gb201, 2, none⟩ = some (.int .i64 0) := (blk_cell BK201.out 2).trans rfl; have hcz11_3 : w10.cell? ⟨gb201, 3, none⟩ = some (.slice none 0 0) := (blk_cell BK201.out 3).trans rfl; have hfz11_0 := blk_frozen BK201.out 0; have hfz11_1 := blk_frozen BK201.out 1; have hfz11_2 := blk_frozen BK201.out 2; have hfz11_3 := blk_frozen BK201.out 3; obtain ⟨Ao12, co12, eo12⟩ := Kd.R_slice HO200.out; subst eo12) | ((with_reducible refine gate_callee (f := 15) rfl ?_); refine goesL_ (some 26) rfl rfl Try.func15 (by kernel_rfl) rfl #[] rfl (by (try simp only [List.map_toArray, List.map_cons, List.map_nil]); first | done | rfl | (simp only [List.length_drop, List.length_take]; rfl)) ?_; (with_reducible refine (customslaw23_awake.calls k  t205 _ A8.out).mono ?_); rintro e w13 ⟨rfl, hb⟩; refine ⟨_, rfl, ?_⟩; have n0_ := Aside0.mk (Kd.R_below (by (with_reducible repeat (first | apply Kd.R_alloc | apply Kd.R_drewN | apply Kd.R_drew)); exact (Kd.R_mono (Kd.R_far (p := ⟨gb201, 3, none⟩) (Kd.R_far (p := ⟨gb201, 2, none⟩) (Kd.R_far (p := ⟨gb201, 1, none⟩) (Kd.R_far (p := ⟨gb201, 0, none⟩) (Kd.R_types HO200.out BK201.out (by decide)) (fun _ hk => hk.2) (.int .i64 t195)) (fun _ hk => hk.2) (.int .i64 t196)) (fun _ hk => hk.2) (.int .i64 t197)) (fun _ hk => hk.2) (.slice Ao12 t198.length co12)) (fun _ h_ => h_.1))) hb); have n1_ := Aside0.mk (blk_below (g := gb201) (o := .cells #[.int .i64 t195, .int .i64 t196, .int .i64 t197, .slice Ao12 t198.length co12] 25 (0, 0)) (by (with_reducible repeat (first | refine blk_drewN ?_ _ | refine blk_drew ?_ | refine blk_alloc ?_ _)); refine blk_put (cs := #[.int .i64 t195, .int .i64 t196, .int .i64 t197, .slice none 0 0]) ?_ 3 _ rfl; (with_reducible repeat (first | refine blk_drewN ?_ _ | refine blk_drew ?_ | refine blk_alloc ?_ _)); refine blk_put (cs := #[.int .i64 t195, .int .i64 t196, .int .i64 0, .slice none 0 0]) ?_ 2 _ rfl; (with_reducible repeat (first | refine blk_drewN ?_ _ | refine blk_drew ?_ | refine blk_alloc ?_ _)); refine blk_put (cs := #[.int .i64 t195, .int .i64 0, .int .i64 0, .slice none 0 0]) ?_ 1 _ rfl; (with_reducible repeat (first | refine blk_drewN ?_ _ | refine blk_drew ?_ | refine blk_alloc ?_ _)); refine blk_put (cs := #[.int .i64 0, .int .i64 0, .int .i64 0, .slice none 0 0]) ?_ 0 _ rfl; (with_reducible repeat (first | refine blk_drewN ?_ _ | refine blk_drew ?_ | refine blk_alloc ?_ _)); exact BK201.out) hb); have n2_ := Aside0.mk (below_step (by repeat (first | (with_reducible first | exact HB.out | apply below_alloc | apply pw_below_drewN | apply below_drew1 | refine below_set ?_ GE201.out) | exact HB.out)) hb); clear HO200; clear BK201; clear HB; have HO200 := n0_; have BK201 := n1_; have HB := n2_; clear n0_ n1_ n2_; (try clear hb); (try clear hb2); (try clear hk); (try clear hi)))
      go_ret
      exact ⟨by first | rfl | (simp [errW_none, errW_some] <;> rfl) | (simp [*, errW_none, errW_some] <;> rfl), by repeat (first | (with_reducible first | exact HB.out | apply below_alloc | apply pw_below_drewN | apply below_drew1 | refine below_set ?_ GE201.out) | exact HB.out)⟩
    · rw [if_neg c7] at H
      have c7b0 : decide (100 < (l2.length : Int)) = false := decide_eq_false c7
      have c7b1 : decide (100 < l2.length) = false := decide_eq_false (by omega)
      clear c7
      have H' := Aside0.mk H
      clear H
      go_enter Try.func9, Try.ntmps9
      go_wp2_with (first | ((with_reducible refine gate_callee (f := 10) rfl ?_); refine goesL_ (some 17) rfl rfl Try.func10 (by kernel_rfl) rfl #[.slice A0 l0.length c0] rfl (by (try simp only [List.map_toArray, List.map_cons, List.map_nil]); first | done | rfl | (simp only [List.length_drop, List.length_take]; rfl)) ?_; (with_reducible refine (customsmade_Guarantee.calls k _ _ l0 t195 t196 t197 t198 _ ?side1 ?side2 A5.out).mono ?_); (case side1 => repeat (first | exact HR0.out | (with_reducible refine Kd.C_alloc ?_ _) | (with_reducible refine Kd.C_drewN ?_ _) | (with_reducible refine Kd.C_drew ?_))); (case side2 => exact HC0.out); rintro e w14 ⟨v199, rfl, ho0, hb⟩; refine ⟨_, rfl, ?_⟩; have n0_ := Aside0.mk (Kd.R_lower ho0 (below_size (by repeat (first | (with_reducible first | exact HB.out | apply below_alloc | apply pw_below_drewN | apply below_drew1) | exact HB.out)))); have n1_ := Aside0.mk (below_step (by repeat (first | (with_reducible first | exact HB.out | apply below_alloc | apply pw_below_drewN | apply below_drew1) | exact HB.out)) hb); clear HB; have HO200 := n0_; have HB := n1_; clear n0_ n1_; (try clear hb); (try clear hb2); (try clear hk); (try clear hi); (try clear ho0)) | ((with_reducible refine gate_dst (N := 9) rfl ?_); refine box_event ?hg (N := 9) ?hd (cs := #[.int .i64 0, .int .i64 0, .int .i64 0, .slice none 0 0]) (t := 25) ?hr ?_; (case hd => rfl); (case hg => rfl); (case hr => first | (go_simp; done) | (go_simp; rfl)); intro gb201 hg w15 hbox hb; have n0_ := Aside0.mk (Kd.R_below (by (with_reducible repeat (first | apply Kd.R_alloc | apply Kd.R_drewN | apply Kd.R_drew)); exact HO200.out) hb); have n1_ := Aside0.mk (below_step (by repeat (first | (with_reducible first | exact HB.out | apply below_alloc | apply pw_below_drewN | apply below_drew1) | exact HB.out)) hb); have n2_ := Aside0.mk (hbox); have n3_ := Aside0.mk ((by rw [hg]; exact (below_size (by repeat (first | (with_reducible first | exact HB.out | apply below_alloc | apply pw_below_drewN | apply below_drew1) | exact HB.out))) : w.heap.size ≤ gb201)); have n4_ := Aside0.mk ((by rw [hg]; exact (below_size (by repeat (first | (with_reducible first | exact HB.out | apply below_alloc | apply pw_below_drewN | apply below_drew1) | exact HB.out))) : w.heap.size ≤ gb201)); clear HO200; clear HB; have HO200 := n0_; have HB := n1_; have BK201 := n2_; have GW201 := n3_; have GE201 := n4_; clear n0_ n1_ n2_ n3_ n4_; clear hb hbox hg; have hcz16_0 : w15.cell? ⟨gb201, 0, none⟩ = some (.int .i64 0) := (blk_cell BK201.out 0).trans rfl; have hcz16_1 : w15.cell? ⟨gb201, 1, none⟩ = some (.int .i64 0) := (blk_cell BK201.out 1).trans rfl; have hcz16_2 : w15.cell? ⟨gb201, 2, none⟩ = some (.int .i64 0) := (blk_cell BK201.out 2).trans rfl; have hcz16_3 : w15.cell? ⟨gb201, 3, none⟩ = some (.slice none 0 0) := (blk_cell BK201.out 3).trans rfl; have hfz16_0 := blk_frozen BK201.out 0; have hfz16_1 := blk_frozen BK201.out 1; have hfz16_2 := blk_frozen BK201.out 2; have hfz16_3 := blk_frozen BK201.out 3; obtain ⟨Ao17, co17, eo17⟩ := Kd.R_slice HO200.out; subst eo17))
      go_loopg [11] k (fun kq v11 w' => ∃ (x11_1 : Int) (x202000_1 : Int) (x202001_1 : Int) (x202002_1 : Int) (x202003_1 : List (S39)) (u202003 : Value), v11 = .int .i64 x11_1 ∧ Aside0 (customslaw23_GuaranteeNever.l0 kq l2 x11_1 x202000_1 x202001_1 x202002_1 x202003_1 = some true) ∧ Aside0 (kq ≤ k) ∧ Aside0 (Kd.R k39 39 w' w.heap.size (fun _ => True) u202003 x202003_1) ∧ Aside0 (w'.heap[gb201]? = some (.cells #[.int .i64 x202000_1, .int .i64 x202001_1, .int .i64 x202002_1, u202003] 25 (0, 0))) ∧ Aside0 (Below w.heap.size w w'))
      case atStart => exact ⟨(0), (t195), (t196), (t197), (t198), (.slice Ao17 t198.length co17), (by first | rfl | (simp; done) | (simp [*]; done)), H', ⟨Nat.le_refl _⟩, ⟨by (with_reducible repeat (first | apply Kd.R_alloc | apply Kd.R_drewN | apply Kd.R_drew)); exact Kd.R_mono (Kd.R_far (p := ⟨gb201, 3, none⟩) (Kd.R_far (p := ⟨gb201, 2, none⟩) (Kd.R_far (p := ⟨gb201, 1, none⟩) (Kd.R_far (p := ⟨gb201, 0, none⟩) (Kd.R_types HO200.out BK201.out (by decide)) (fun _ hk => hk.2) (.int .i64 t195)) (fun _ hk => hk.2) (.int .i64 t196)) (fun _ hk => hk.2) (.int .i64 t197)) (fun _ hk => hk.2) (.slice Ao17 t198.length co17)) (fun _ hk => trivial)⟩, ⟨by (with_reducible repeat (first | refine blk_drewN ?_ _ | refine blk_drew ?_ | refine blk_alloc ?_ _)); refine blk_put (cs := #[.int .i64 t195, .int .i64 t196, .int .i64 t197, .slice none 0 0]) ?_ 3 _ rfl; (with_reducible repeat (first | refine blk_drewN ?_ _ | refine blk_drew ?_ | refine blk_alloc ?_ _)); refine blk_put (cs := #[.int .i64 t195, .int .i64 t196, .int .i64 0, .slice none 0 0]) ?_ 2 _ rfl; (with_reducible repeat (first | refine blk_drewN ?_ _ | refine blk_drew ?_ | refine blk_alloc ?_ _)); refine blk_put (cs := #[.int .i64 t195, .int .i64 0, .int .i64 0, .slice none 0 0]) ?_ 1 _ rfl; (with_reducible repeat (first | refine blk_drewN ?_ _ | refine blk_drew ?_ | refine blk_alloc ?_ _)); refine blk_put (cs := #[.int .i64 0, .int .i64 0, .int .i64 0, .slice none 0 0]) ?_ 0 _ rfl; (with_reducible repeat (first | refine blk_drewN ?_ _ | refine blk_drew ?_ | refine blk_alloc ?_ _)); exact BK201.out⟩, ⟨by repeat (first | (with_reducible first | exact HB.out | apply below_alloc | apply pw_below_drewN | apply below_drew1 | refine below_set ?_ GE201.out) | exact HB.out)⟩⟩
      case round =>
        clear H'
        try clear c1
        try clear c2
        try clear p2
        try clear c6
        try clear c7
        try clear c7b0
        try clear c7b1
        try clear c9
        try clear c10
        try clear c15
        try clear hcz11_0
        try clear hcz11_1
        try clear hcz11_2
        try clear hcz11_3
        try clear hcz16_0
        try clear hcz16_1
        try clear hcz16_2
        try clear hcz16_3
        try clear hfz11_0
        try clear hfz11_1
        try clear hfz11_2
        try clear hfz11_3
        try clear hfz16_0
        try clear hfz16_1
        try clear hfz16_2
        try clear hfz16_3
        obtain ⟨x11_1, x202000_1, x202001_1, x202002_1, x202003_1, u202003, rfl, HA, HK1, HO_202003, BK201, HB⟩ := hrel
        cases gk with
        | zero => exact absurd HA.out (by simp [customslaw23_GuaranteeNever.l0])
        | succ k1 =>
          have H := HA.out
          clear HA
          simp only [customslaw23_GuaranteeNever.l0] at H
          by_cases c18 : x11_1 < (l2.length : Int)
          · rw [if_pos c18] at H
            have c18b0 : decide (x11_1 < (l2.length : Int)) = true := decide_eq_true c18
            clear c18
            by_cases c19 : 0 ≤ x11_1
            · rw [if_pos c19] at H
              have c19b0 := eq_true c19
              have c19b1 : decide (0 ≤ x11_1) = true := decide_eq_true c19
              clear c19
              by_cases c20 : x11_1 ≤ (wrap64 (x11_1 + 1))
              · rw [if_pos c20] at H
                have c20b0 := eq_true c20
                have c20b1 : decide (x11_1 ≤ (wrap64 (x11_1 + 1))) = true := decide_eq_true c20
                by_cases c21 : (wrap64 (x11_1 + 1)) ≤ (l2.length : Int)
                · rw [if_pos c21] at H
                  have c21b0 := eq_true c21
                  have c21b1 : decide ((wrap64 (x11_1 + 1)) ≤ (l2.length : Int)) = true := decide_eq_true c21
                  obtain ⟨y207, hy207⟩ : ∃ y_ : List (S74), y_ = ((l2.take ((wrap64 (x11_1 + 1)) : Int).toNat).drop (x11_1 : Int).toNat) := ⟨_, rfl⟩
                  replace H : ((guarantee_Run.f k1 x202000_1 x202001_1 x202002_1 x202003_1 y207).bind fun bt211 => (customslaw23_GuaranteeNever.l1 k1 l2 x11_1 bt211.2.2.2.2 0 0 x202000_1 x202001_1 x202002_1 x202003_1 bt211.1 bt211.2.1 bt211.2.2.1 bt211.2.2.2.1)) = some true := by first | (rw [hy207]; with_reducible exact H) | (have H2_ := (Option.bind_some _ _).symm.trans H; rw [hy207]; with_reducible exact H2_) | (have H2_ := (Option.bind_some _ _).symm.trans H; with_reducible exact H2_) | with_reducible exact H | (rw [hy207]; exact H) | exact H
                  have Ny207 := Aside0.mk hy207
                  clear hy207
                  replace H := Option.bind_eq_some_iff.mp H
                  obtain ⟨⟨t211, t212, t213, t214, t217⟩, A220, H⟩ := H
                  replace H : (customslaw23_GuaranteeNever.l1 k1 l2 x11_1 t217 0 0 x202000_1 x202001_1 x202002_1 x202003_1 t211 t212 t213 t214) = some true := H
                  have A22 := Aside0.mk A220
                  clear A220
                  have H' := Aside0.mk H
                  clear H
                  obtain ⟨Ao23, co23, eo23⟩ := Kd.R_slice HO_202003.out
                  subst eo23
                  try go_wp2
                  have n0_ := Aside0.mk (Kd.R_drew HO_202003.out)
                  have n1_ := Aside0.mk (blk_drew BK201.out)
                  have n2_ := Aside0.mk (below_drew1 HB.out)
                  clear HO_202003
                  clear BK201
                  clear HB
                  have HO_202003 := n0_
                  have BK201 := n1_
                  have HB := n2_
                  clear n0_ n1_ n2_
                  have q25 : ((wrap64 (x11_1 + 1)) : Int) ≤ ((l2.length : Int) : Int) := of_decide_eq_true (by first | (with_reducible assumption) | assumption)
                  obtain ⟨i025, hi025, _, hsz25, _⟩ := info_parts info74
                  have hroom25 : l2.length ≤ c2 := HC2.out
                  have hC25 : Kd.C k74 _ A2 l2.length l2 := HR2.out
                  have ql25 : (x11_1 : Int) ≤ ((wrap64 (x11_1 + 1)) : Int) := of_decide_eq_true (by first | (with_reducible assumption) | assumption)
                  have q025 : (0 : Int) ≤ (x11_1 : Int) := of_decide_eq_true (by first | (with_reducible assumption) | assumption)
                  have hcut25 := cut_mid (P := Try.prog) 45 74 .i64 .i64 Try.underlying45 hi025 3 hsz25 A2 l2.length c2 x11_1 (wrap64 (x11_1 + 1)) q025 ql25 q25 hroom25
                  have hr25 := Kd.C_mid (lo := (x11_1 : Int).toNat) (hi := ((wrap64 (x11_1 + 1)) : Int).toNat) (c := c2) hC25 (by omega) (by omega) hroom25
                  obtain ⟨A25, hA25⟩ : ∃ A1, A1 = (if c2 = (x11_1 : Int).toNat then A2 else (A2 : Option Addr).map (·.add ((x11_1 : Int).toNat * 3))) := ⟨_, rfl⟩
                  obtain ⟨c25, hc25⟩ : ∃ c1, c1 = c2 - (x11_1 : Int).toNat := ⟨_, rfl⟩
                  have hy25 : y207.length = ((wrap64 (x11_1 + 1)) : Int).toNat - (x11_1 : Int).toNat := (by rw [Ny207.out, List.length_drop, List.length_take] <;> omega)
                  rw [show ((l2).take ((wrap64 (x11_1 + 1)) : Int).toNat).drop (x11_1 : Int).toNat = y207 from Ny207.out.symm] at hr25
                  replace hr25 : Kd.C k74 _ A25 y207.length y207 := (by rw [hA25]; exact hr25)
                  rw [← hy25, ← hA25, ← hc25] at hcut25
                  have HR210 := Aside0.mk hr25
                  have HC210 := Aside0.mk (show y207.length ≤ c25 from by rw [hy25, hc25]; exact Nat.sub_le_sub_right (Nat.le_trans (by omega) hroom25) _)
                  clear hr25 hC25 hroom25 hi025 hsz25 hc25
                  have KY25 := Aside0.mk hy25
                  have KA25 := Aside0.mk hA25
                  clear hy25 hA25
                  replace q25 := eq_true q25
                  refine start_ (n := 13) (S := fun w' => w'.cell? ⟨gb201, 0, none⟩ = some (.int .i64 x202000_1) ∧ w'.cell? ⟨gb201, 1, none⟩ = some (.int .i64 x202001_1) ∧ w'.cell? ⟨gb201, 2, none⟩ = some (.int .i64 x202002_1) ∧ w'.cell? ⟨gb201, 3, none⟩ = some (.slice Ao23 x202003_1.length co23)) (ds := []) #[false, false, false, false, false, false, false, false, false, false, false, false, false] (by kernel_rfl) rfl rfl ⟨(blk_cell BK201.out 0).trans rfl, (blk_cell BK201.out 1).trans rfl, (blk_cell BK201.out 2).trans rfl, (blk_cell BK201.out 3).trans rfl⟩ (fun hHeld => ?_); refine with_tabW customslaw23_GuaranteeNever.tab9 customslaw23_GuaranteeNever.bits9 (fun HT_ HW_ => ?_)
                  generalize wr.drew = w24 at HO_202003 BK201 HB HR210 hHeld ⊢
                  refine pure_ (i := 1) (N := some 35) (v := ?_) (a' := ?_) #[false, true, false, false, false, false, false, false, false, false, false, false, false] rfl rfl (any_of HT_.out (by kernel_rfl)) (fun _ _ _ h => h) (Or.inl ⟨by rfl, ?_⟩) ?_ ?_
                  rotate_left
                  · intro w'
                    go_simp
                    with_reducible rfl
                  rotate_left
                  · simp only [Act.put, List.setIfInBounds_toArray, List.set_cons_zero, List.set_cons_succ, i64_w, i32_w]
                    rfl
                  refine pure_ (i := 2) (N := some 36) (v := ?_) (a' := ?_) #[false, true, true, false, false, false, false, false, false, false, false, false, false] rfl rfl (any_of HT_.out (by kernel_rfl)) (fun _ _ _ h => h) (Or.inl ⟨by rfl, ?_⟩) ?_ ?_
                  rotate_left
                  · intro w'
                    go_simp
                    with_reducible rfl
                  rotate_left
                  · simp only [Act.put, List.setIfInBounds_toArray, List.set_cons_zero, List.set_cons_succ, i64_w, i32_w]
                    rfl
                  refine pure_ (i := 3) (N := some 37) (v := ?_) (a' := ?_) #[false, true, true, true, false, false, false, false, false, false, false, false, false] rfl rfl (any_of HT_.out (by kernel_rfl)) (fun _ _ _ h => h) (Or.inl ⟨by rfl, ?_⟩) ?_ ?_
                  rotate_left
                  · intro w'
                    go_simp
                    with_reducible rfl
                  rotate_left
                  · simp only [Act.put, List.setIfInBounds_toArray, List.set_cons_zero, List.set_cons_succ, i64_w, i32_w]
                    rfl
                  refine pure_ (i := 4) (N := some 38) (v := ?_) (a' := ?_) #[false, true, true, true, true, false, false, false, false, false, false, false, false] rfl rfl (any_of HT_.out (by kernel_rfl)) (fun _ _ _ h => h) (Or.inl ⟨by rfl, ?_⟩) ?_ ?_
                  rotate_left
                  · intro w'
                    go_simp
                    with_reducible rfl
                  rotate_left
                  · simp only [Act.put, List.setIfInBounds_toArray, List.set_cons_zero, List.set_cons_succ, i64_w, i32_w]
                    rfl
                  refine pure_ (i := 5) (N := some 39) (v := ?_) (a' := ?_) #[false, true, true, true, true, true, false, false, false, false, false, false, false] rfl rfl (any_of HT_.out (by kernel_rfl)) (fun _ _ _ h => h) (Or.inl ⟨by rfl, ?_⟩) ?_ ?_
                  rotate_left
                  · intro w'
                    go_simp
                    with_reducible rfl
                  rotate_left
                  · simp only [Act.put, List.setIfInBounds_toArray, List.set_cons_zero, List.set_cons_succ, i64_w, i32_w]
                    rfl
                  refine take_ (i := 0) (N := some 34) (v := ?_) (a' := ?_) #[true, true, true, true, true, true, false, false, false, false, false, false, false] rfl rfl (take_ofW HT_.out HW_.out (by kernel_rfl)) (fun _ _ _ h => h) (Or.inl ⟨by rfl, ?_⟩) hHeld ?_ ?_
                  rotate_left
                  · rintro w' ⟨s0, s1, s2, s3⟩
                    go_simp
                    with_reducible rfl
                  rotate_left
                  · simp only [Act.put, List.setIfInBounds_toArray, List.set_cons_zero, List.set_cons_succ, i64_w, i32_w]
                    rfl
                  refine join_ (σ := Value × Value × Nat) 2 #[true, true, true, true, true, true, true, true, true, true, true, false, false] (fun s_ => [(40, .tuple #[.agg #[.int .i64 t211, .int .i64 t212, .int .i64 t213, s_.1], s_.2.1]), (12, .pointer (some ⟨s_.2.2, 0, none⟩)), (33, .tuple #[.agg #[.int .i64 t211, .int .i64 t212, .int .i64 t213, s_.1], s_.2.1]), (41, .agg #[.int .i64 t211, .int .i64 t212, .int .i64 t213, s_.1]), (42, s_.2.1)]) (fun s_ w' => (w'.cell? ⟨gb201, 0, none⟩ = some (.int .i64 x202000_1) ∧ w'.cell? ⟨gb201, 1, none⟩ = some (.int .i64 x202001_1) ∧ w'.cell? ⟨gb201, 2, none⟩ = some (.int .i64 x202002_1) ∧ w'.cell? ⟨gb201, 3, none⟩ = some (.slice Ao23 x202003_1.length co23)) ∧ (Kd.R k39 39 w' w.heap.size (fun k_ => some k_ ≠ (.slice Ao23 x202003_1.length co23 : Value).ownBlock) s_.1 t214) ∧ (Kd.R (Kd.int .i64) 27 w' w.heap.size (fun _ => True) s_.2.1 t217) ∧ (Kd.R k39 39 w' w.heap.size (fun k_ => some k_ ≠ (s_.1 : Value).ownBlock) (.slice Ao23 x202003_1.length co23) x202003_1) ∧ (w'.heap[gb201]? = some (.cells #[.int .i64 x202000_1, .int .i64 x202001_1, .int .i64 x202002_1, .slice Ao23 x202003_1.length co23] 25 (0, 0))) ∧ (w'.heap[s_.2.2]? = some (.cells #[.int .i64 0, .int .i64 0, .int .i64 0, .slice none 0 0] 25 (0, 0))) ∧ (w.heap.size ≤ s_.2.2) ∧ (w.heap.size ≤ s_.2.2) ∧ (gb201 ≠ s_.2.2) ∧ (s_.2.2 ≠ gb201) ∧ (Below w.heap.size w w')) ?_ ?_
                  rotate_left
                  · intro hCont
                    refine two_ (i := 6) (j := 10) (Ni := some 40) (Nj := some 12) #[true, true, true, true, true, true, true, false, false, false, false, false, false] #[true, true, true, true, true, true, false, false, false, false, true, false, false] rfl rfl rfl rfl (two_of HT_.out (by kernel_rfl)) (by decide) (by decide) (fun K hK => ?_) (fun K hK => ?_)
                    · skip
                      refine goes_ Try.func27 (by kernel_rfl) rfl #[.agg #[.int .i64 x202000_1, .int .i64 x202001_1, .int .i64 x202002_1, .slice Ao23 x202003_1.length co23], .slice A25 y207.length c25] (by rfl) rfl rfl (by (try simp only [List.map_toArray, List.map_cons, List.map_nil]); first | done | rfl | (simp only [List.length_drop, List.length_take]; rfl)) ?_
                      with_reducible refine (guarantee_Run.calls k1 x202000_1 x202001_1 x202002_1 _ _ x202003_1 _ _ y207 t211 t212 t213 t214 t217 _ ?side1 ?side2 ?side3 ?side4 A22.out).mono ?_
                      (case side1 => repeat (first | exact (Kd.R_reads' HO_202003.out).2.2 | (with_reducible refine Kd.C_alloc ?_ _) | (with_reducible refine Kd.C_drewN ?_ _) | (with_reducible refine Kd.C_drew ?_)))
                      (case side2 => exact (Kd.R_reads' HO_202003.out).2.1)
                      (case side3 => repeat (first | exact (Kd.C_below HR210.out HB.out) | (with_reducible refine Kd.C_alloc ?_ _) | (with_reducible refine Kd.C_drewN ?_ _) | (with_reducible refine Kd.C_drew ?_)))
                      (case side4 => exact HC210.out)
                      rintro e w26 ⟨v215, v218, rfl, ho0, ho1, hb⟩
                      refine ⟨_, rfl, ?_⟩
                      have n0_ := Aside0.mk (Kd.R_elder' (by (with_reducible repeat (first | apply Kd.R_alloc | apply Kd.R_drewN | apply Kd.R_drew)); exact HO_202003.out) (Kd.R_base ho0) hb)
                      have n1_ := Aside0.mk (Kd.R_lower (Kd.R_new' ho0 (Kd.R_lt (by (with_reducible repeat (first | apply Kd.R_alloc | apply Kd.R_drewN | apply Kd.R_drew)); exact HO_202003.out))) (below_size (by repeat (first | (with_reducible first | exact HB.out | apply below_alloc | apply pw_below_drewN | apply below_drew1 | refine below_set ?_ GE201.out) | exact HB.out))))
                      have n2_ := Aside0.mk (Kd.R_lower ho1 (below_size (by repeat (first | (with_reducible first | exact HB.out | apply below_alloc | apply pw_below_drewN | apply below_drew1 | refine below_set ?_ GE201.out) | exact HB.out))))
                      have n3_ := Aside0.mk (blk_below (g := gb201) (o := .cells #[.int .i64 x202000_1, .int .i64 x202001_1, .int .i64 x202002_1, .slice Ao23 x202003_1.length co23] 25 (0, 0)) (by (with_reducible repeat (first | refine blk_drewN ?_ _ | refine blk_drew ?_ | refine blk_alloc ?_ _)); exact BK201.out) hb)
                      have n4_ := Aside0.mk (below_step (by repeat (first | (with_reducible first | exact HB.out | apply below_alloc | apply pw_below_drewN | apply below_drew1 | refine below_set ?_ GE201.out) | exact HB.out)) hb)
                      clear HO_202003
                      clear BK201
                      clear HB
                      have HO_202003 := n0_
                      have HO216 := n1_
                      have HO219 := n2_
                      have BK201 := n3_
                      have HB := n4_
                      clear n0_ n1_ n2_ n3_ n4_
                      (try clear hb)
                      (try clear hb2)
                      (try clear hk)
                      (try clear hi)
                      (try clear ho0)
                      (try clear ho1)
                      refine hK.out _ _ ⟨(blk_cell BK201.out 0).trans rfl, (blk_cell BK201.out 1).trans rfl, (blk_cell BK201.out 2).trans rfl, (blk_cell BK201.out 3).trans rfl⟩ (fun hHeld => ?_)
                      clear hK K
                      refine norm_ (a' := ?_) ?_ ?_
                      rotate_left
                      · show Act.put _ (some 40) _ = _
                        simp only [Act.put, List.setIfInBounds_toArray, List.set_cons_zero, List.set_cons_succ, i64_w, i32_w]
                        rfl
                      refine pure_ (i := 7) (N := some 33) (v := ?_) (a' := ?_) #[true, true, true, true, true, true, true, true, false, false, false, false, false] rfl rfl (any_of HT_.out (by kernel_rfl)) (fun _ _ _ h => h) (Or.inl ⟨by rfl, ?_⟩) ?_ ?_
                      rotate_left
                      · intro w'
                        go_simp
                        with_reducible rfl
                      rotate_left
                      · simp only [Act.put, List.setIfInBounds_toArray, List.set_cons_zero, List.set_cons_succ, i64_w, i32_w]
                        rfl
                      refine pure_ (i := 8) (N := some 41) (v := ?_) (a' := ?_) #[true, true, true, true, true, true, true, true, true, false, false, false, false] rfl rfl (any_of HT_.out (by kernel_rfl)) (fun _ _ _ h => h) (Or.inl ⟨by rfl, ?_⟩) ?_ ?_
                      rotate_left
                      · intro w'
                        go_simp
                        with_reducible rfl
                      rotate_left
                      · simp only [Act.put, List.setIfInBounds_toArray, List.set_cons_zero, List.set_cons_succ, i64_w, i32_w]
                        rfl
                      refine pure_ (i := 9) (N := some 42) (v := ?_) (a' := ?_) #[true, true, true, true, true, true, true, true, true, true, false, false, false] rfl rfl (any_of HT_.out (by kernel_rfl)) (fun _ _ _ h => h) (Or.inl ⟨by rfl, ?_⟩) ?_ ?_
                      rotate_left
                      · intro w'
                        go_simp
                        with_reducible rfl
                      rotate_left
                      · simp only [Act.put, List.setIfInBounds_toArray, List.set_cons_zero, List.set_cons_succ, i64_w, i32_w]
                        rfl
                      refine one_ (i := 10) (N := some 12) #[true, true, true, true, true, true, true, true, true, true, true, false, false] rfl rfl (one_of HT_.out (by kernel_rfl)) (by decide) (fun K hK => ?_)
                      refine box_step ?hg (N := 12) ?hd (cs := #[.int .i64 0, .int .i64 0, .int .i64 0, .slice none 0 0]) (t := 25) ?hr ?_; (case hd => rfl); (case hg => rfl); (case hr => first | (go_simp; done) | (go_simp; rfl))
                      intro gb220 hg w27 hbox hb
                      have n0_ := Aside0.mk (Kd.R_below (by (with_reducible repeat (first | apply Kd.R_alloc | apply Kd.R_drewN | apply Kd.R_drew)); exact HO_202003.out) hb)
                      have n1_ := Aside0.mk (Kd.R_below (by (with_reducible repeat (first | apply Kd.R_alloc | apply Kd.R_drewN | apply Kd.R_drew)); exact HO216.out) hb)
                      have n2_ := Aside0.mk (Kd.R_below (by (with_reducible repeat (first | apply Kd.R_alloc | apply Kd.R_drewN | apply Kd.R_drew)); exact HO219.out) hb)
                      have n3_ := Aside0.mk (blk_below (g := gb201) (o := .cells #[.int .i64 x202000_1, .int .i64 x202001_1, .int .i64 x202002_1, .slice Ao23 x202003_1.length co23] 25 (0, 0)) (by (with_reducible repeat (first | refine blk_drewN ?_ _ | refine blk_drew ?_ | refine blk_alloc ?_ _)); exact BK201.out) hb)
                      have n4_ := Aside0.mk (below_step (by repeat (first | (with_reducible first | exact HB.out | apply below_alloc | apply pw_below_drewN | apply below_drew1 | refine below_set ?_ GE201.out) | exact HB.out)) hb)
                      have n5_ := Aside0.mk (hbox)
                      have n6_ := Aside0.mk ((by rw [hg]; exact (below_size (by repeat (first | (with_reducible first | exact HB.out | apply below_alloc | apply pw_below_drewN | apply below_drew1 | refine below_set ?_ GE201.out) | exact HB.out))) : w.heap.size ≤ gb220))
                      have n7_ := Aside0.mk ((by rw [hg]; exact (below_size (by repeat (first | (with_reducible first | exact HB.out | apply below_alloc | apply pw_below_drewN | apply below_drew1 | refine below_set ?_ GE201.out) | exact HB.out))) : w.heap.size ≤ gb220))
                      have n8_ := Aside0.mk ((by rw [hg]; exact Nat.ne_of_lt (blk_lt (g := gb201) (o := .cells #[.int .i64 x202000_1, .int .i64 x202001_1, .int .i64 x202002_1, .slice Ao23 x202003_1.length co23] 25 (0, 0)) (by (with_reducible repeat (first | refine blk_drewN ?_ _ | refine blk_drew ?_ | refine blk_alloc ?_ _)); exact BK201.out)) : gb201 ≠ gb220))
                      have n9_ := Aside0.mk ((by rw [hg]; exact Nat.ne_of_gt (blk_lt (g := gb201) (o := .cells #[.int .i64 x202000_1, .int .i64 x202001_1, .int .i64 x202002_1, .slice Ao23 x202003_1.length co23] 25 (0, 0)) (by (with_reducible repeat (first | refine blk_drewN ?_ _ | refine blk_drew ?_ | refine blk_alloc ?_ _)); exact BK201.out)) : gb220 ≠ gb201))
                      clear HO_202003
                      clear HO216
                      clear HO219
                      clear BK201
                      clear HB
                      have HO_202003 := n0_
                      have HO216 := n1_
                      have HO219 := n2_
                      have BK201 := n3_
                      have HB := n4_
                      have BK220 := n5_
                      have GW220 := n6_
                      have GE220 := n7_
                      have NB201_220 := n8_
                      have NB220_201 := n9_
                      clear n0_ n1_ n2_ n3_ n4_ n5_ n6_ n7_ n8_ n9_
                      clear hb hbox hg
                      refine hK.out _ _ ⟨(blk_cell BK201.out 0).trans rfl, (blk_cell BK201.out 1).trans rfl, (blk_cell BK201.out 2).trans rfl, (blk_cell BK201.out 3).trans rfl⟩ (fun hHeld => ?_)
                      clear hK K
                      refine norm_ (a' := ?_) ?_ ?_
                      rotate_left
                      · show Act.put _ (some 12) _ = _
                        simp only [Act.put, List.setIfInBounds_toArray, List.set_cons_zero, List.set_cons_succ, i64_w, i32_w]
                        rfl
                      exact norm_ (by simp only [putAll, Act.put, List.setIfInBounds_toArray, List.set_cons_zero, List.set_cons_succ]) (hCont (v215, v218, gb220) _ ⟨hHeld, (by (with_reducible repeat (first | apply Kd.R_alloc | apply Kd.R_drewN | apply Kd.R_drew)); exact Kd.R_mono HO216.out (fun _ hk => hk.2)), (by (with_reducible repeat (first | apply Kd.R_alloc | apply Kd.R_drewN | apply Kd.R_drew)); exact HO219.out), (by (with_reducible repeat (first | apply Kd.R_alloc | apply Kd.R_drewN | apply Kd.R_drew)); exact Kd.R_mono HO_202003.out (fun _ hk => hk.2)), (by (with_reducible repeat (first | refine blk_drewN ?_ _ | refine blk_drew ?_ | refine blk_alloc ?_ _)); exact BK201.out), (by (with_reducible repeat (first | refine blk_drewN ?_ _ | refine blk_drew ?_ | refine blk_alloc ?_ _)); exact BK220.out), GW220.out, GE220.out, NB201_220.out, NB220_201.out, (by repeat (first | (with_reducible first | exact HB.out | apply below_alloc | apply pw_below_drewN | apply below_drew1 | refine below_set ?_ GE201.out | refine below_set ?_ GE220.out) | exact HB.out))⟩)
                    · skip
                      refine box_step ?hg (N := 12) ?hd (cs := #[.int .i64 0, .int .i64 0, .int .i64 0, .slice none 0 0]) (t := 25) ?hr ?_; (case hd => rfl); (case hg => rfl); (case hr => first | (go_simp; done) | (go_simp; rfl))
                      intro gb220 hg w26 hbox hb
                      have n0_ := Aside0.mk (Kd.R_below (by (with_reducible repeat (first | apply Kd.R_alloc | apply Kd.R_drewN | apply Kd.R_drew)); exact HO_202003.out) hb)
                      have n1_ := Aside0.mk (blk_below (g := gb201) (o := .cells #[.int .i64 x202000_1, .int .i64 x202001_1, .int .i64 x202002_1, .slice Ao23 x202003_1.length co23] 25 (0, 0)) (by (with_reducible repeat (first | refine blk_drewN ?_ _ | refine blk_drew ?_ | refine blk_alloc ?_ _)); exact BK201.out) hb)
                      have n2_ := Aside0.mk (below_step (by repeat (first | (with_reducible first | exact HB.out | apply below_alloc | apply pw_below_drewN | apply below_drew1 | refine below_set ?_ GE201.out) | exact HB.out)) hb)
                      have n3_ := Aside0.mk (hbox)
                      have n4_ := Aside0.mk ((by rw [hg]; exact (below_size (by repeat (first | (with_reducible first | exact HB.out | apply below_alloc | apply pw_below_drewN | apply below_drew1 | refine below_set ?_ GE201.out) | exact HB.out))) : w.heap.size ≤ gb220))
                      have n5_ := Aside0.mk ((by rw [hg]; exact (below_size (by repeat (first | (with_reducible first | exact HB.out | apply below_alloc | apply pw_below_drewN | apply below_drew1 | refine below_set ?_ GE201.out) | exact HB.out))) : w.heap.size ≤ gb220))
                      have n6_ := Aside0.mk ((by rw [hg]; exact Nat.ne_of_lt (blk_lt (g := gb201) (o := .cells #[.int .i64 x202000_1, .int .i64 x202001_1, .int .i64 x202002_1, .slice Ao23 x202003_1.length co23] 25 (0, 0)) (by (with_reducible repeat (first | refine blk_drewN ?_ _ | refine blk_drew ?_ | refine blk_alloc ?_ _)); exact BK201.out)) : gb201 ≠ gb220))
                      have n7_ := Aside0.mk ((by rw [hg]; exact Nat.ne_of_gt (blk_lt (g := gb201) (o := .cells #[.int .i64 x202000_1, .int .i64 x202001_1, .int .i64 x202002_1, .slice Ao23 x202003_1.length co23] 25 (0, 0)) (by (with_reducible repeat (first | refine blk_drewN ?_ _ | refine blk_drew ?_ | refine blk_alloc ?_ _)); exact BK201.out)) : gb220 ≠ gb201))
                      clear HO_202003
                      clear BK201
                      clear HB
                      have HO_202003 := n0_
                      have BK201 := n1_
                      have HB := n2_
                      have BK220 := n3_
                      have GW220 := n4_
                      have GE220 := n5_
                      have NB201_220 := n6_
                      have NB220_201 := n7_
                      clear n0_ n1_ n2_ n3_ n4_ n5_ n6_ n7_
                      clear hb hbox hg
                      refine hK.out _ _ ⟨(blk_cell BK201.out 0).trans rfl, (blk_cell BK201.out 1).trans rfl, (blk_cell BK201.out 2).trans rfl, (blk_cell BK201.out 3).trans rfl⟩ (fun hHeld => ?_)
                      clear hK K
                      refine norm_ (a' := ?_) ?_ ?_
                      rotate_left
                      · show Act.put _ (some 12) _ = _
                        simp only [Act.put, List.setIfInBounds_toArray, List.set_cons_zero, List.set_cons_succ, i64_w, i32_w]
                        rfl
                      refine one_ (i := 6) (N := some 40) #[true, true, true, true, true, true, true, false, false, false, true, false, false] rfl rfl (one_of HT_.out (by kernel_rfl)) (by decide) (fun K hK => ?_)
                      refine goes_ Try.func27 (by kernel_rfl) rfl #[.agg #[.int .i64 x202000_1, .int .i64 x202001_1, .int .i64 x202002_1, .slice Ao23 x202003_1.length co23], .slice A25 y207.length c25] (by rfl) rfl rfl (by (try simp only [List.map_toArray, List.map_cons, List.map_nil]); first | done | rfl | (simp only [List.length_drop, List.length_take]; rfl)) ?_
                      with_reducible refine (guarantee_Run.calls k1 x202000_1 x202001_1 x202002_1 _ _ x202003_1 _ _ y207 t211 t212 t213 t214 t217 _ ?side1 ?side2 ?side3 ?side4 A22.out).mono ?_
                      (case side1 => repeat (first | exact (Kd.R_reads' HO_202003.out).2.2 | (with_reducible refine Kd.C_alloc ?_ _) | (with_reducible refine Kd.C_drewN ?_ _) | (with_reducible refine Kd.C_drew ?_)))
                      (case side2 => exact (Kd.R_reads' HO_202003.out).2.1)
                      (case side3 => repeat (first | exact (Kd.C_below HR210.out HB.out) | (with_reducible refine Kd.C_alloc ?_ _) | (with_reducible refine Kd.C_drewN ?_ _) | (with_reducible refine Kd.C_drew ?_)))
                      (case side4 => exact HC210.out)
                      rintro e w27 ⟨v215, v218, rfl, ho0, ho1, hb⟩
                      refine ⟨_, rfl, ?_⟩
                      have n0_ := Aside0.mk (Kd.R_elder' (by (with_reducible repeat (first | apply Kd.R_alloc | apply Kd.R_drewN | apply Kd.R_drew)); exact HO_202003.out) (Kd.R_base ho0) hb)
                      have n1_ := Aside0.mk (Kd.R_lower (Kd.R_new' ho0 (Kd.R_lt (by (with_reducible repeat (first | apply Kd.R_alloc | apply Kd.R_drewN | apply Kd.R_drew)); exact HO_202003.out))) (below_size (by repeat (first | (with_reducible first | exact HB.out | apply below_alloc | apply pw_below_drewN | apply below_drew1 | refine below_set ?_ GE201.out | refine below_set ?_ GE220.out) | exact HB.out))))
                      have n2_ := Aside0.mk (Kd.R_lower ho1 (below_size (by repeat (first | (with_reducible first | exact HB.out | apply below_alloc | apply pw_below_drewN | apply below_drew1 | refine below_set ?_ GE201.out | refine below_set ?_ GE220.out) | exact HB.out))))
                      have n3_ := Aside0.mk (blk_below (g := gb201) (o := .cells #[.int .i64 x202000_1, .int .i64 x202001_1, .int .i64 x202002_1, .slice Ao23 x202003_1.length co23] 25 (0, 0)) (by (with_reducible repeat (first | refine blk_drewN ?_ _ | refine blk_drew ?_ | refine blk_alloc ?_ _)); exact BK201.out) hb)
                      have n4_ := Aside0.mk (blk_below (g := gb220) (o := .cells #[.int .i64 0, .int .i64 0, .int .i64 0, .slice none 0 0] 25 (0, 0)) (by (with_reducible repeat (first | refine blk_drewN ?_ _ | refine blk_drew ?_ | refine blk_alloc ?_ _)); exact BK220.out) hb)
                      have n5_ := Aside0.mk (below_step (by repeat (first | (with_reducible first | exact HB.out | apply below_alloc | apply pw_below_drewN | apply below_drew1 | refine below_set ?_ GE201.out | refine below_set ?_ GE220.out) | exact HB.out)) hb)
                      clear HO_202003
                      clear BK201
                      clear BK220
                      clear HB
                      have HO_202003 := n0_
                      have HO216 := n1_
                      have HO219 := n2_
                      have BK201 := n3_
                      have BK220 := n4_
                      have HB := n5_
                      clear n0_ n1_ n2_ n3_ n4_ n5_
                      (try clear hb)
                      (try clear hb2)
                      (try clear hk)
                      (try clear hi)
                      (try clear ho0)
                      (try clear ho1)
                      refine hK.out _ _ ⟨(blk_cell BK201.out 0).trans rfl, (blk_cell BK201.out 1).trans rfl, (blk_cell BK201.out 2).trans rfl, (blk_cell BK201.out 3).trans rfl⟩ (fun hHeld => ?_)
                      clear hK K
                      refine norm_ (a' := ?_) ?_ ?_
                      rotate_left
                      · show Act.put _ (some 40) _ = _
                        simp only [Act.put, List.setIfInBounds_toArray, List.set_cons_zero, List.set_cons_succ, i64_w, i32_w]
                        rfl
                      refine pure_ (i := 7) (N := some 33) (v := ?_) (a' := ?_) #[true, true, true, true, true, true, true, true, false, false, true, false, false] rfl rfl (any_of HT_.out (by kernel_rfl)) (fun _ _ _ h => h) (Or.inl ⟨by rfl, ?_⟩) ?_ ?_
                      rotate_left
                      · intro w'
                        go_simp
                        with_reducible rfl
                      rotate_left
                      · simp only [Act.put, List.setIfInBounds_toArray, List.set_cons_zero, List.set_cons_succ, i64_w, i32_w]
                        rfl
                      refine pure_ (i := 8) (N := some 41) (v := ?_) (a' := ?_) #[true, true, true, true, true, true, true, true, true, false, true, false, false] rfl rfl (any_of HT_.out (by kernel_rfl)) (fun _ _ _ h => h) (Or.inl ⟨by rfl, ?_⟩) ?_ ?_
                      rotate_left
                      · intro w'
                        go_simp
                        with_reducible rfl
                      rotate_left
                      · simp only [Act.put, List.setIfInBounds_toArray, List.set_cons_zero, List.set_cons_succ, i64_w, i32_w]
                        rfl
                      refine pure_ (i := 9) (N := some 42) (v := ?_) (a' := ?_) #[true, true, true, true, true, true, true, true, true, true, true, false, false] rfl rfl (any_of HT_.out (by kernel_rfl)) (fun _ _ _ h => h) (Or.inl ⟨by rfl, ?_⟩) ?_ ?_
                      rotate_left
                      · intro w'
                        go_simp
                        with_reducible rfl
                      rotate_left
                      · simp only [Act.put, List.setIfInBounds_toArray, List.set_cons_zero, List.set_cons_succ, i64_w, i32_w]
                        rfl
                      exact norm_ (by simp only [putAll, Act.put, List.setIfInBounds_toArray, List.set_cons_zero, List.set_cons_succ]) (hCont (v215, v218, gb220) _ ⟨hHeld, (by (with_reducible repeat (first | apply Kd.R_alloc | apply Kd.R_drewN | apply Kd.R_drew)); exact Kd.R_mono HO216.out (fun _ hk => hk.2)), (by (with_reducible repeat (first | apply Kd.R_alloc | apply Kd.R_drewN | apply Kd.R_drew)); exact HO219.out), (by (with_reducible repeat (first | apply Kd.R_alloc | apply Kd.R_drewN | apply Kd.R_drew)); exact Kd.R_mono HO_202003.out (fun _ hk => hk.2)), (by (with_reducible repeat (first | refine blk_drewN ?_ _ | refine blk_drew ?_ | refine blk_alloc ?_ _)); exact BK201.out), (by (with_reducible repeat (first | refine blk_drewN ?_ _ | refine blk_drew ?_ | refine blk_alloc ?_ _)); exact BK220.out), GW220.out, GE220.out, NB201_220.out, NB220_201.out, (by repeat (first | (with_reducible first | exact HB.out | apply below_alloc | apply pw_below_drewN | apply below_drew1 | refine below_set ?_ GE201.out | refine below_set ?_ GE220.out) | exact HB.out))⟩)
                  rintro ⟨v215, v218, gb220⟩ w28 ⟨hS_, h0_, h1_, h2_, h3_, h4_, h5_, h6_, h7_, h8_, h9_⟩
                  have n0_ : Aside0 (Kd.R k39 39 w28 w.heap.size (fun k_ => some k_ ≠ (.slice Ao23 x202003_1.length co23 : Value).ownBlock) v215 t214) := ⟨h0_⟩
                  have n1_ : Aside0 (Kd.R (Kd.int .i64) 27 w28 w.heap.size (fun _ => True) v218 t217) := ⟨h1_⟩
                  have n2_ : Aside0 (Kd.R k39 39 w28 w.heap.size (fun k_ => some k_ ≠ (v215 : Value).ownBlock) (.slice Ao23 x202003_1.length co23) x202003_1) := ⟨h2_⟩
                  have n3_ : Aside0 (w28.heap[gb201]? = some (.cells #[.int .i64 x202000_1, .int .i64 x202001_1, .int .i64 x202002_1, .slice Ao23 x202003_1.length co23] 25 (0, 0))) := ⟨h3_⟩
                  have n4_ : Aside0 (w28.heap[gb220]? = some (.cells #[.int .i64 0, .int .i64 0, .int .i64 0, .slice none 0 0] 25 (0, 0))) := ⟨h4_⟩
                  have n5_ : Aside0 (w.heap.size ≤ gb220) := ⟨h5_⟩
                  have n6_ : Aside0 (w.heap.size ≤ gb220) := ⟨h6_⟩
                  have n7_ : Aside0 (gb201 ≠ gb220) := ⟨h7_⟩
                  have n8_ : Aside0 (gb220 ≠ gb201) := ⟨h8_⟩
                  have n9_ : Aside0 (Below w.heap.size w w28) := ⟨h9_⟩
                  clear HO_202003
                  clear BK201
                  clear HB
                  clear h0_ h1_ h2_ h3_ h4_ h5_ h6_ h7_ h8_ h9_
                  have HO216 := n0_
                  have HO219 := n1_
                  have HO_202003 := n2_
                  have BK201 := n3_
                  have BK220 := n4_
                  have GW220 := n5_
                  have GE220 := n6_
                  have NB201_220 := n7_
                  have NB220_201 := n8_
                  have HB := n9_
                  clear n0_ n1_ n2_ n3_ n4_ n5_ n6_ n7_ n8_ n9_
                  have hHeld : w28.cell? ⟨gb201, 0, none⟩ = some (.int .i64 x202000_1) ∧ w28.cell? ⟨gb201, 1, none⟩ = some (.int .i64 x202001_1) ∧ w28.cell? ⟨gb201, 2, none⟩ = some (.int .i64 x202002_1) ∧ w28.cell? ⟨gb201, 3, none⟩ = some (.slice Ao23 x202003_1.length co23) := hS_
                  obtain ⟨Ao32, co32, eo32⟩ := Kd.R_slice HO216.out
                  (first | subst eo32 | (injection eo32 with f1_ f2_ f3_; have f4_ := f1_.symm; have f5_ := f3_.symm; clear f1_ f2_ f3_; subst f4_; subst f5_))
                  refine norm_ (a' := ?_) ?_ ?_
                  rotate_left
                  · simp only [putAll, Act.put, List.setIfInBounds_toArray, List.set_cons_zero, List.set_cons_succ]
                    rfl
                  refine one_ (i := 11) (N := none) #[true, true, true, true, true, true, true, true, true, true, true, true, false] rfl rfl (one_of HT_.out (by kernel_rfl)) (by decide) (fun K hK => ?_)
                  have hs29 : w28.cell? ⟨gb220, 0, none⟩ = some (.int .i64 0) := (blk_cell BK220.out 0).trans rfl
                  have hfs29 := blk_frozen BK220.out 0
                  have hns29_0 := NB201_220.out
                  have hms29_0 := NB220_201.out
                  have hs30 : w28.cell? ⟨gb220, 1, none⟩ = some (.int .i64 0) := (blk_cell BK220.out 1).trans rfl
                  have hfs30 := blk_frozen BK220.out 1
                  have hns30_0 := NB201_220.out
                  have hms30_0 := NB220_201.out
                  have hs31 : w28.cell? ⟨gb220, 2, none⟩ = some (.int .i64 0) := (blk_cell BK220.out 2).trans rfl
                  have hfs31 := blk_frozen BK220.out 2
                  have hns31_0 := NB201_220.out
                  have hms31_0 := NB220_201.out
                  have hs33 : w28.cell? ⟨gb220, 3, none⟩ = some (.slice none 0 0) := (blk_cell BK220.out 3).trans rfl
                  have hfs33 := blk_frozen BK220.out 3
                  have hns33_0 := NB201_220.out
                  have hms33_0 := NB220_201.out
                  refine skip_ (w1 := ?_) (by rfl) rfl ?_ ?_
                  rotate_left
                  · go_simp
                    rfl
                  refine hK.out _ _ ⟨((cell_far (p := ⟨gb220, _, none⟩) NB201_220.out _).trans (((cell_far (p := ⟨gb220, _, none⟩) NB201_220.out _).trans (((cell_far (p := ⟨gb220, _, none⟩) NB201_220.out _).trans (((cell_far (p := ⟨gb220, _, none⟩) NB201_220.out _).trans (hHeld.1)))))))), ((cell_far (p := ⟨gb220, _, none⟩) NB201_220.out _).trans (((cell_far (p := ⟨gb220, _, none⟩) NB201_220.out _).trans (((cell_far (p := ⟨gb220, _, none⟩) NB201_220.out _).trans (((cell_far (p := ⟨gb220, _, none⟩) NB201_220.out _).trans (hHeld.2.1)))))))), ((cell_far (p := ⟨gb220, _, none⟩) NB201_220.out _).trans (((cell_far (p := ⟨gb220, _, none⟩) NB201_220.out _).trans (((cell_far (p := ⟨gb220, _, none⟩) NB201_220.out _).trans (((cell_far (p := ⟨gb220, _, none⟩) NB201_220.out _).trans (hHeld.2.2.1)))))))), ((cell_far (p := ⟨gb220, _, none⟩) NB201_220.out _).trans (((cell_far (p := ⟨gb220, _, none⟩) NB201_220.out _).trans (((cell_far (p := ⟨gb220, _, none⟩) NB201_220.out _).trans (((cell_far (p := ⟨gb220, _, none⟩) NB201_220.out _).trans (hHeld.2.2.2))))))))⟩ (fun hHeld => ?_)
                  clear hK K
                  refine pure_ (i := 12) (N := some 13) (v := ?_) (a' := ?_) #[true, true, true, true, true, true, true, true, true, true, true, true, true] rfl rfl (any_of HT_.out (by kernel_rfl)) (fun _ _ _ h => h) (Or.inl ⟨by rfl, ?_⟩) ?_ ?_
                  rotate_left
                  · intro w'
                    go_simp
                    with_reducible rfl
                  rotate_left
                  · simp only [Act.put, List.setIfInBounds_toArray, List.set_cons_zero, List.set_cons_succ, i64_w, i32_w]
                    rfl
                  refine done_ (done_of HT_.out (by kernel_rfl)) ?_
                  try go_wp2
                  go_loopg [14, 15] k1 (fun kq v14 v15 w' => ∃ (x14_2 : Int) (x15_2 : Int), v14 = .int .i64 x14_2 ∧ v15 = .int .i64 x15_2 ∧ Aside0 (customslaw23_GuaranteeNever.l1 kq l2 x11_1 t217 x14_2 x15_2 x202000_1 x202001_1 x202002_1 x202003_1 t211 t212 t213 t214 = some true) ∧ Aside0 (kq ≤ k1) ∧ Aside0 (Kd.R (Kd.int .i64) 27 w' w.heap.size (fun _ => True) v218 t217) ∧ Aside0 (Kd.R k39 39 w' w.heap.size (fun k_ => some k_ ≠ ((.slice Ao32 t214.length co32) : Value).ownBlock) (.slice Ao23 x202003_1.length co23) x202003_1) ∧ Aside0 (Kd.R k39 39 w' w.heap.size (fun k_ => some k_ ≠ ((.slice Ao23 x202003_1.length co23) : Value).ownBlock) (.slice Ao32 t214.length co32) t214) ∧ Aside0 (w'.heap[gb201]? = some (.cells #[.int .i64 x202000_1, .int .i64 x202001_1, .int .i64 x202002_1, (.slice Ao23 x202003_1.length co23)] 25 (0, 0))) ∧ Aside0 (w'.heap[gb220]? = some (.cells #[.int .i64 t211, .int .i64 t212, .int .i64 t213, (.slice Ao32 t214.length co32)] 25 (0, 0))) ∧ Aside0 (Below w.heap.size w w'))
                  case atStart => exact ⟨(0), (0), (by first | rfl | (simp; done) | (simp [*]; done)), (by first | rfl | (simp; done) | (simp [*]; done)), H', ⟨Nat.le_refl _⟩, ⟨by (with_reducible repeat (first | apply Kd.R_alloc | apply Kd.R_drewN | apply Kd.R_drew)); exact Kd.R_mono (Kd.R_far (p := ⟨gb220, 3, none⟩) (Kd.R_far (p := ⟨gb220, 2, none⟩) (Kd.R_far (p := ⟨gb220, 1, none⟩) (Kd.R_far (p := ⟨gb220, 0, none⟩) (Kd.R_types HO219.out BK220.out (by decide)) (fun _ hk => hk.2) (.int .i64 t211)) (fun _ hk => hk.2) (.int .i64 t212)) (fun _ hk => hk.2) (.int .i64 t213)) (fun _ hk => hk.2) (.slice Ao32 t214.length co32)) (fun _ hk => trivial)⟩, ⟨by (with_reducible repeat (first | apply Kd.R_alloc | apply Kd.R_drewN | apply Kd.R_drew)); exact Kd.R_mono (Kd.R_far (p := ⟨gb220, 3, none⟩) (Kd.R_far (p := ⟨gb220, 2, none⟩) (Kd.R_far (p := ⟨gb220, 1, none⟩) (Kd.R_far (p := ⟨gb220, 0, none⟩) (Kd.R_types HO_202003.out BK220.out (by decide)) (fun _ hk => hk.2) (.int .i64 t211)) (fun _ hk => hk.2) (.int .i64 t212)) (fun _ hk => hk.2) (.int .i64 t213)) (fun _ hk => hk.2) (.slice Ao32 t214.length co32)) (fun _ hk => hk.1)⟩, ⟨by (with_reducible repeat (first | apply Kd.R_alloc | apply Kd.R_drewN | apply Kd.R_drew)); exact Kd.R_mono (Kd.R_far (p := ⟨gb220, 3, none⟩) (Kd.R_far (p := ⟨gb220, 2, none⟩) (Kd.R_far (p := ⟨gb220, 1, none⟩) (Kd.R_far (p := ⟨gb220, 0, none⟩) (Kd.R_types HO216.out BK220.out (by decide)) (fun _ hk => hk.2) (.int .i64 t211)) (fun _ hk => hk.2) (.int .i64 t212)) (fun _ hk => hk.2) (.int .i64 t213)) (fun _ hk => hk.2) (.slice Ao32 t214.length co32)) (fun _ hk => hk.1)⟩, ⟨by (with_reducible repeat (first | refine blk_drewN ?_ _ | refine blk_drew ?_ | refine blk_alloc ?_ _)); refine blk_far ?_ NB201_220.out _; (with_reducible repeat (first | refine blk_drewN ?_ _ | refine blk_drew ?_ | refine blk_alloc ?_ _)); refine blk_far ?_ NB201_220.out _; (with_reducible repeat (first | refine blk_drewN ?_ _ | refine blk_drew ?_ | refine blk_alloc ?_ _)); refine blk_far ?_ NB201_220.out _; (with_reducible repeat (first | refine blk_drewN ?_ _ | refine blk_drew ?_ | refine blk_alloc ?_ _)); refine blk_far ?_ NB201_220.out _; (with_reducible repeat (first | refine blk_drewN ?_ _ | refine blk_drew ?_ | refine blk_alloc ?_ _)); exact BK201.out⟩, ⟨by (with_reducible repeat (first | refine blk_drewN ?_ _ | refine blk_drew ?_ | refine blk_alloc ?_ _)); refine blk_put (cs := #[.int .i64 t211, .int .i64 t212, .int .i64 t213, .slice none 0 0]) ?_ 3 _ rfl; (with_reducible repeat (first | refine blk_drewN ?_ _ | refine blk_drew ?_ | refine blk_alloc ?_ _)); refine blk_put (cs := #[.int .i64 t211, .int .i64 t212, .int .i64 0, .slice none 0 0]) ?_ 2 _ rfl; (with_reducible repeat (first | refine blk_drewN ?_ _ | refine blk_drew ?_ | refine blk_alloc ?_ _)); refine blk_put (cs := #[.int .i64 t211, .int .i64 0, .int .i64 0, .slice none 0 0]) ?_ 1 _ rfl; (with_reducible repeat (first | refine blk_drewN ?_ _ | refine blk_drew ?_ | refine blk_alloc ?_ _)); refine blk_put (cs := #[.int .i64 0, .int .i64 0, .int .i64 0, .slice none 0 0]) ?_ 0 _ rfl; (with_reducible repeat (first | refine blk_drewN ?_ _ | refine blk_drew ?_ | refine blk_alloc ?_ _)); exact BK220.out⟩, ⟨by repeat (first | (with_reducible first | exact HB.out | apply below_alloc | apply pw_below_drewN | apply below_drew1 | refine below_set ?_ GE201.out | refine below_set ?_ GE220.out) | exact HB.out)⟩⟩
                  case round =>
                    clear H'
                    try clear c1
                    try clear c2
                    try clear p2
                    try clear q2
                    try clear c6
                    try clear p6
                    try clear c7
                    try clear c7b0
                    try clear c7b1
                    try clear c9
                    try clear c10
                    try clear c15
                    try clear c18
                    try clear c18b0
                    try clear c19
                    try clear c19b0
                    try clear c19b1
                    try clear c20
                    try clear c20b0
                    try clear c20b1
                    try clear c21
                    try clear c21b0
                    try clear c21b1
                    try clear c25
                    try clear q25
                    try clear c27
                    try clear hcz11_0
                    try clear hcz11_1
                    try clear hcz11_2
                    try clear hcz11_3
                    try clear hcz16_0
                    try clear hcz16_1
                    try clear hcz16_2
                    try clear hcz16_3
                    try clear hfz11_0
                    try clear hfz11_1
                    try clear hfz11_2
                    try clear hfz11_3
                    try clear hfz16_0
                    try clear hfz16_1
                    try clear hfz16_2
                    try clear hfz16_3
                    try clear p2
                    try clear q025
                    try clear q25
                    obtain ⟨x14_2, x15_2, rfl, rfl, HA, HK2, HO_13, HO_202003, HO_221003, BK201, BK220, HB⟩ := hrel
                    cases gk with
                    | zero => exact absurd HA.out (by simp [customslaw23_GuaranteeNever.l1])
                    | succ k2 =>
                      have H := HA.out
                      clear HA
                      simp only [customslaw23_GuaranteeNever.l1] at H
                      by_cases c34 : x15_2 < (t214.length : Int)
                      · rw [if_pos c34] at H
                        have c34b0 : decide (x15_2 < (t214.length : Int)) = true := decide_eq_true c34
                        clear c34
                        by_cases c35 : 0 ≤ x15_2
                        · rw [if_pos c35] at H
                          have c35b0 : decide (0 ≤ x15_2) = true := decide_eq_true c35
                          clear c35
                          by_cases c36 : ((rd_T39 t214 x15_2).f1) < 0
                          · rw [if_pos c36] at H
                            have c36b0 : decide (((rd_T39 t214 x15_2).f1) < 0) = true := decide_eq_true c36
                            clear c36
                            cases H
                          · rw [if_neg c36] at H
                            have c36b0 : decide (((rd_T39 t214 x15_2).f1) < 0) = false := decide_eq_false c36
                            clear c36
                            have H' := Aside0.mk H
                            clear H
                            have hnb37 := NB220_201.out
                            have hnc37 := NB201_220.out
                            have hcz38_0 : wr.cell? ⟨gb220, 0, none⟩ = some (.int .i64 t211) := (blk_cell BK220.out 0).trans rfl
                            have hcz38_1 : wr.cell? ⟨gb220, 1, none⟩ = some (.int .i64 t212) := (blk_cell BK220.out 1).trans rfl
                            have hcz38_2 : wr.cell? ⟨gb220, 2, none⟩ = some (.int .i64 t213) := (blk_cell BK220.out 2).trans rfl
                            have hcz38_3 : wr.cell? ⟨gb220, 3, none⟩ = some (.slice Ao32 t214.length co32) := (blk_cell BK220.out 3).trans rfl
                            have hfz38_0 := blk_frozen BK220.out 0
                            have hfz38_1 := blk_frozen BK220.out 1
                            have hfz38_2 := blk_frozen BK220.out 2
                            have hfz38_3 := blk_frozen BK220.out 3
                            have p221 : 0 ≤ (x15_2 : Int) := of_decide_eq_true (by first | (with_reducible assumption) | assumption)
                            have q221 : x15_2 < (t214.length : Int) := of_decide_eq_true (by first | (with_reducible assumption) | assumption)
                            obtain ⟨ad221, e221, hx221_0, hx221_1⟩ := at_T39 (Kd.R_reads' HO_221003.out).2.2 x15_2 p221 q221
                            cases e221
                            replace p221 := eq_true p221
                            replace q221 := eq_true q221
                            have p222 : 0 ≤ (x15_2 : Int) := of_decide_eq_true (by first | (with_reducible assumption) | assumption)
                            have q222 : x15_2 < (t214.length : Int) := of_decide_eq_true (by first | (with_reducible assumption) | assumption)
                            obtain ⟨ad222, e222, hx222_0, hx222_1⟩ := at_T39 (Kd.R_reads' HO_221003.out).2.2 x15_2 p222 q222
                            obtain rfl : ad221 = ad222 := (by injection e222)
                            replace p222 := eq_true p222
                            replace q222 := eq_true q222
                            go_wp2
                            go_roundg k2
                            case measure => have := HK1.out; have := HK2.out; omega
                            case rel => exact ⟨(wrap64 (x14_2 + ((rd_T39 t214 x15_2).f1))), (wrap64 (x15_2 + 1)), (by first | rfl | (simp; done) | (simp [*]; done)), (by first | rfl | (simp; done) | (simp [*]; done)), H', ⟨by have := HK1.out; have := HK2.out; omega⟩, ⟨by (with_reducible repeat (first | apply Kd.R_alloc | apply Kd.R_drewN | apply Kd.R_drew)); exact HO_13.out⟩, ⟨by (with_reducible repeat (first | apply Kd.R_alloc | apply Kd.R_drewN | apply Kd.R_drew)); exact HO_202003.out⟩, ⟨by (with_reducible repeat (first | apply Kd.R_alloc | apply Kd.R_drewN | apply Kd.R_drew)); exact HO_221003.out⟩, ⟨by (with_reducible repeat (first | refine blk_drewN ?_ _ | refine blk_drew ?_ | refine blk_alloc ?_ _)); exact BK201.out⟩, ⟨by (with_reducible repeat (first | refine blk_drewN ?_ _ | refine blk_drew ?_ | refine blk_alloc ?_ _)); exact BK220.out⟩, ⟨by repeat (first | (with_reducible first | exact HB.out | apply below_alloc | apply pw_below_drewN | apply below_drew1 | refine below_set ?_ GE201.out | refine below_set ?_ GE220.out) | exact HB.out)⟩⟩
                        · rw [if_neg c35] at H
                          exact absurd H (by simp)
                      · rw [if_neg c34] at H
                        have c34b0 : decide (x15_2 < (t214.length : Int)) = false := decide_eq_false c34
                        clear c34
                        have HC39 := Aside0.mk H
                        clear H
                        have hnb40 := NB220_201.out
                        have hnc40 := NB201_220.out
                        have hcz41_0 : wr.cell? ⟨gb220, 0, none⟩ = some (.int .i64 t211) := (blk_cell BK220.out 0).trans rfl
                        have hcz41_1 : wr.cell? ⟨gb220, 1, none⟩ = some (.int .i64 t212) := (blk_cell BK220.out 1).trans rfl
                        have hcz41_2 : wr.cell? ⟨gb220, 2, none⟩ = some (.int .i64 t213) := (blk_cell BK220.out 2).trans rfl
                        have hcz41_3 : wr.cell? ⟨gb220, 3, none⟩ = some (.slice Ao32 t214.length co32) := (blk_cell BK220.out 3).trans rfl
                        have hfz41_0 := blk_frozen BK220.out 0
                        have hfz41_1 := blk_frozen BK220.out 1
                        have hfz41_2 := blk_frozen BK220.out 2
                        have hfz41_3 := blk_frozen BK220.out 3
                        go_upto_region 17 with (fail)
                        go_cut [91] (fun v91 wc => ∃ (kq : Nat) (x91_38 : Bool), v91 = .bool x91_38 ∧ Aside0 (customslaw23_GuaranteeNever.j2 kq l2 x11_1 x91_38 t211 t212 t213 t214 = some true) ∧ Aside0 (kq ≤ k2) ∧ Aside0 (Kd.R k39 39 wc w.heap.size (fun k_ => some k_ ≠ ((.slice Ao32 t214.length co32) : Value).ownBlock) (.slice Ao23 x202003_1.length co23) x202003_1) ∧ Aside0 (Kd.R k39 39 wc w.heap.size (fun k_ => some k_ ≠ ((.slice Ao23 x202003_1.length co23) : Value).ownBlock) (.slice Ao32 t214.length co32) t214) ∧ Aside0 (wc.heap[gb201]? = some (.cells #[.int .i64 x202000_1, .int .i64 x202001_1, .int .i64 x202002_1, (.slice Ao23 x202003_1.length co23)] 25 (0, 0))) ∧ Aside0 (wc.heap[gb220]? = some (.cells #[.int .i64 t211, .int .i64 t212, .int .i64 t213, (.slice Ao32 t214.length co32)] 25 (0, 0))) ∧ Aside0 (Below w.heap.size w wc))
                        case first =>
                          have H := HC39.out
                          clear HC39
                          by_cases c42 : (t217.length : Int) = 1
                          · rw [if_pos c42] at H
                            have c42b0 : ((t217.length : Int) == 1) = true := beq_iff_eq.mpr c42
                            have c42b1 : ((t217.length : Int) != 1) = false := bne_eq_false_iff_eq.mpr c42
                            clear c42
                            (first | rw [c42b0] | (simp only [i64_w, i32_w]; rw [c42b0]) | skip)
                            by_cases c43 : x14_2 > t212
                            · rw [if_pos c43] at H
                              have c43b0 : decide (t212 < x14_2) = true := decide_eq_true c43
                              clear c43
                              have H' := Aside0.mk H
                              clear H
                              obtain ⟨Ao44, co44, eo44⟩ := Kd.R_slice HO_13.out
                              subst eo44
                              have hnb45 := NB220_201.out
                              have hnc45 := NB201_220.out
                              have hcz46_0 : wr.cell? ⟨gb220, 0, none⟩ = some (.int .i64 t211) := (blk_cell BK220.out 0).trans rfl
                              have hcz46_1 : wr.cell? ⟨gb220, 1, none⟩ = some (.int .i64 t212) := (blk_cell BK220.out 1).trans rfl
                              have hcz46_2 : wr.cell? ⟨gb220, 2, none⟩ = some (.int .i64 t213) := (blk_cell BK220.out 2).trans rfl
                              have hcz46_3 : wr.cell? ⟨gb220, 3, none⟩ = some (.slice Ao32 t214.length co32) := (blk_cell BK220.out 3).trans rfl
                              have hfz46_0 := blk_frozen BK220.out 0
                              have hfz46_1 := blk_frozen BK220.out 1
                              have hfz46_2 := blk_frozen BK220.out 2
                              have hfz46_3 := blk_frozen BK220.out 3
                              go_wp2
                              go_meet
                              case rel => exact ⟨_, (true), (by first | rfl | (simp; done) | (simp [*]; done)), H', ⟨by have := HK1.out; have := HK2.out; first | omega | exact Nat.le_refl _⟩, ⟨by (with_reducible repeat (first | apply Kd.R_alloc | apply Kd.R_drewN | apply Kd.R_drew)); exact HO_202003.out⟩, ⟨by (with_reducible repeat (first | apply Kd.R_alloc | apply Kd.R_drewN | apply Kd.R_drew)); exact HO_221003.out⟩, ⟨by (with_reducible repeat (first | refine blk_drewN ?_ _ | refine blk_drew ?_ | refine blk_alloc ?_ _)); exact BK201.out⟩, ⟨by (with_reducible repeat (first | refine blk_drewN ?_ _ | refine blk_drew ?_ | refine blk_alloc ?_ _)); exact BK220.out⟩, ⟨by repeat (first | (with_reducible first | exact HB.out | apply below_alloc | apply pw_below_drewN | apply below_drew1 | refine below_set ?_ GE201.out | refine below_set ?_ GE220.out) | exact HB.out)⟩⟩
                            · rw [if_neg c43] at H
                              have c43b0 : decide (t212 < x14_2) = false := decide_eq_false c43
                              clear c43
                              replace H := Option.bind_eq_some_iff.mp H
                              obtain ⟨t223, A470, H⟩ := H
                              replace H : (if t223 = x14_2 then (if 0 < (t217.length : Int) then (if (rd t217 0) = 0 then (customslaw23_GuaranteeNever.j2 k2 l2 x11_1 false t211 t212 t213 t214) else ((customsref21_SameGuarantee.f k2 x202000_1 x202001_1 x202002_1 x202003_1 t211 t212 t213 t214).bind fun t225 => (customslaw23_GuaranteeNever.j2 k2 l2 x11_1 (!t225) t211 t212 t213 t214))) else (none)) else (customslaw23_GuaranteeNever.j2 k2 l2 x11_1 true t211 t212 t213 t214)) = some true := H
                              have A47 := Aside0.mk A470
                              clear A470
                              by_cases c48 : t223 = x14_2
                              · rw [if_pos c48] at H
                                have c48b0 : (t223 == x14_2) = true := beq_iff_eq.mpr c48
                                have c48b1 : (t223 != x14_2) = false := bne_eq_false_iff_eq.mpr c48
                                clear c48
                                by_cases c49 : 0 < (t217.length : Int)
                                · rw [if_pos c49] at H
                                  have c49b0 : decide (0 < (t217.length : Int)) = true := decide_eq_true c49
                                  have c49b1 : decide (0 < t217.length) = true := decide_eq_true (by omega)
                                  clear c49
                                  by_cases c50 : (rd t217 0) = 0
                                  · rw [if_pos c50] at H
                                    have c50b0 : ((rd t217 0) == 0) = true := beq_iff_eq.mpr c50
                                    have c50b1 : ((rd t217 0) != 0) = false := bne_eq_false_iff_eq.mpr c50
                                    clear c50
                                    have H' := Aside0.mk H
                                    clear H
                                    obtain ⟨Ao51, co51, eo51⟩ := Kd.R_slice HO_13.out
                                    subst eo51
                                    have hnb52 := NB220_201.out
                                    have hnc52 := NB201_220.out
                                    have hcz53_0 : wr.cell? ⟨gb220, 0, none⟩ = some (.int .i64 t211) := (blk_cell BK220.out 0).trans rfl
                                    have hcz53_1 : wr.cell? ⟨gb220, 1, none⟩ = some (.int .i64 t212) := (blk_cell BK220.out 1).trans rfl
                                    have hcz53_2 : wr.cell? ⟨gb220, 2, none⟩ = some (.int .i64 t213) := (blk_cell BK220.out 2).trans rfl
                                    have hcz53_3 : wr.cell? ⟨gb220, 3, none⟩ = some (.slice Ao32 t214.length co32) := (blk_cell BK220.out 3).trans rfl
                                    have hfz53_0 := blk_frozen BK220.out 0
                                    have hfz53_1 := blk_frozen BK220.out 1
                                    have hfz53_2 := blk_frozen BK220.out 2
                                    have hfz53_3 := blk_frozen BK220.out 3
                                    go_wp2_with (first | (go_at_call 13; (with_reducible refine (guarantee_Total.calls k2 t211 t212 t213 _ _ t214 t223 _ ?side1 ?side2 A47.out).mono ?_); (case side1 => repeat (first | exact (Kd.R_reads' HO_221003.out).2.2 | (with_reducible refine Kd.C_alloc ?_ _) | (with_reducible refine Kd.C_drewN ?_ _) | (with_reducible refine Kd.C_drew ?_))); (case side2 => exact (Kd.R_reads' HO_221003.out).2.1); rintro e w54 ⟨rfl, hb⟩; have n0_ := Aside0.mk (Kd.R_below (by (with_reducible repeat (first | apply Kd.R_alloc | apply Kd.R_drewN | apply Kd.R_drew)); exact HO_13.out) hb); have n1_ := Aside0.mk (Kd.R_below (by (with_reducible repeat (first | apply Kd.R_alloc | apply Kd.R_drewN | apply Kd.R_drew)); exact HO_202003.out) hb); have n2_ := Aside0.mk (Kd.R_below (by (with_reducible repeat (first | apply Kd.R_alloc | apply Kd.R_drewN | apply Kd.R_drew)); exact HO_221003.out) hb); have n3_ := Aside0.mk (blk_below (g := gb201) (o := .cells #[.int .i64 x202000_1, .int .i64 x202001_1, .int .i64 x202002_1, .slice Ao23 x202003_1.length co23] 25 (0, 0)) (by (with_reducible repeat (first | refine blk_drewN ?_ _ | refine blk_drew ?_ | refine blk_alloc ?_ _)); exact BK201.out) hb); have n4_ := Aside0.mk (blk_below (g := gb220) (o := .cells #[.int .i64 t211, .int .i64 t212, .int .i64 t213, .slice Ao32 t214.length co32] 25 (0, 0)) (by (with_reducible repeat (first | refine blk_drewN ?_ _ | refine blk_drew ?_ | refine blk_alloc ?_ _)); exact BK220.out) hb); have n5_ := Aside0.mk (below_step (by repeat (first | (with_reducible first | exact HB.out | apply below_alloc | apply pw_below_drewN | apply below_drew1 | refine below_set ?_ GE201.out | refine below_set ?_ GE220.out) | exact HB.out)) hb); clear HO_13; clear HO_202003; clear HO_221003; clear BK201; clear BK220; clear HB; have HO_13 := n0_; have HO_202003 := n1_; have HO_221003 := n2_; have BK201 := n3_; have BK220 := n4_; have HB := n5_; clear n0_ n1_ n2_ n3_ n4_ n5_; (try clear hb); (try clear hb2); (try clear hk); (try clear hi); have p224 : 0 ≤ (0 : Int) := (by omega); have q224 : 0 < (t217.length : Int) := of_decide_eq_true (by first | (with_reducible assumption) | assumption); obtain ⟨ad224, e224, hx224_0⟩ := Kd.at_int (Kd.R_reads' HO_13.out).2.2 0 p224 q224; cases e224; have qi224 : (0 < t217.length) = True := eq_true (by omega); (try rw [show ((0 : Int)).toNat = 0 from rfl] at hx224_0); (try rw [Addr.add_zero'] at hx224_0); replace p224 := eq_true p224; replace q224 := eq_true q224))
                                    go_meet
                                    case rel => exact ⟨_, (false), (by first | rfl | (simp; done) | (simp [*]; done)), H', ⟨by have := HK1.out; have := HK2.out; first | omega | exact Nat.le_refl _⟩, ⟨by (with_reducible repeat (first | apply Kd.R_alloc | apply Kd.R_drewN | apply Kd.R_drew)); exact HO_202003.out⟩, ⟨by (with_reducible repeat (first | apply Kd.R_alloc | apply Kd.R_drewN | apply Kd.R_drew)); exact HO_221003.out⟩, ⟨by (with_reducible repeat (first | refine blk_drewN ?_ _ | refine blk_drew ?_ | refine blk_alloc ?_ _)); exact BK201.out⟩, ⟨by (with_reducible repeat (first | refine blk_drewN ?_ _ | refine blk_drew ?_ | refine blk_alloc ?_ _)); exact BK220.out⟩, ⟨by repeat (first | (with_reducible first | exact HB.out | apply below_alloc | apply pw_below_drewN | apply below_drew1 | refine below_set ?_ GE201.out | refine below_set ?_ GE220.out) | exact HB.out)⟩⟩
                                  · rw [if_neg c50] at H
                                    have c50b0 : ((rd t217 0) == 0) = false := beq_eq_false_iff_ne.mpr c50
                                    have c50b1 : ((rd t217 0) != 0) = true := bne_iff_ne.mpr c50
                                    replace H := Option.bind_eq_some_iff.mp H
                                    obtain ⟨t225, A550, H⟩ := H
                                    replace H : (customslaw23_GuaranteeNever.j2 k2 l2 x11_1 (!t225) t211 t212 t213 t214) = some true := H
                                    have A55 := Aside0.mk A550
                                    clear A550
                                    have H' := Aside0.mk H
                                    clear H
                                    obtain ⟨Ao56, co56, eo56⟩ := Kd.R_slice HO_13.out
                                    subst eo56
                                    have hnb57 := NB220_201.out
                                    have hnc57 := NB201_220.out
                                    have hcz58_0 : wr.cell? ⟨gb220, 0, none⟩ = some (.int .i64 t211) := (blk_cell BK220.out 0).trans rfl
                                    have hcz58_1 : wr.cell? ⟨gb220, 1, none⟩ = some (.int .i64 t212) := (blk_cell BK220.out 1).trans rfl
                                    have hcz58_2 : wr.cell? ⟨gb220, 2, none⟩ = some (.int .i64 t213) := (blk_cell BK220.out 2).trans rfl
                                    have hcz58_3 : wr.cell? ⟨gb220, 3, none⟩ = some (.slice Ao32 t214.length co32) := (blk_cell BK220.out 3).trans rfl
                                    have hfz58_0 := blk_frozen BK220.out 0
                                    have hfz58_1 := blk_frozen BK220.out 1
                                    have hfz58_2 := blk_frozen BK220.out 2
                                    have hfz58_3 := blk_frozen BK220.out 3
                                    go_wp2_with (first | (go_at_call 13; (with_reducible refine (guarantee_Total.calls k2 t211 t212 t213 _ _ t214 t223 _ ?side1 ?side2 A47.out).mono ?_); (case side1 => repeat (first | exact (Kd.R_reads' HO_221003.out).2.2 | (with_reducible refine Kd.C_alloc ?_ _) | (with_reducible refine Kd.C_drewN ?_ _) | (with_reducible refine Kd.C_drew ?_))); (case side2 => exact (Kd.R_reads' HO_221003.out).2.1); rintro e w59 ⟨rfl, hb⟩; have n0_ := Aside0.mk (Kd.R_below (by (with_reducible repeat (first | apply Kd.R_alloc | apply Kd.R_drewN | apply Kd.R_drew)); exact HO_13.out) hb); have n1_ := Aside0.mk (Kd.R_below (by (with_reducible repeat (first | apply Kd.R_alloc | apply Kd.R_drewN | apply Kd.R_drew)); exact HO_202003.out) hb); have n2_ := Aside0.mk (Kd.R_below (by (with_reducible repeat (first | apply Kd.R_alloc | apply Kd.R_drewN | apply Kd.R_drew)); exact HO_221003.out) hb); have n3_ := Aside0.mk (blk_below (g := gb201) (o := .cells #[.int .i64 x202000_1, .int .i64 x202001_1, .int .i64 x202002_1, .slice Ao23 x202003_1.length co23] 25 (0, 0)) (by (with_reducible repeat (first | refine blk_drewN ?_ _ | refine blk_drew ?_ | refine blk_alloc ?_ _)); exact BK201.out) hb); have n4_ := Aside0.mk (blk_below (g := gb220) (o := .cells #[.int .i64 t211, .int .i64 t212, .int .i64 t213, .slice Ao32 t214.length co32] 25 (0, 0)) (by (with_reducible repeat (first | refine blk_drewN ?_ _ | refine blk_drew ?_ | refine blk_alloc ?_ _)); exact BK220.out) hb); have n5_ := Aside0.mk (below_step (by repeat (first | (with_reducible first | exact HB.out | apply below_alloc | apply pw_below_drewN | apply below_drew1 | refine below_set ?_ GE201.out | refine below_set ?_ GE220.out) | exact HB.out)) hb); clear HO_13; clear HO_202003; clear HO_221003; clear BK201; clear BK220; clear HB; have HO_13 := n0_; have HO_202003 := n1_; have HO_221003 := n2_; have BK201 := n3_; have BK220 := n4_; have HB := n5_; clear n0_ n1_ n2_ n3_ n4_ n5_; (try clear hb); (try clear hb2); (try clear hk); (try clear hi); have p224 : 0 ≤ (0 : Int) := (by omega); have q224 : 0 < (t217.length : Int) := of_decide_eq_true (by first | (with_reducible assumption) | assumption); obtain ⟨ad224, e224, hx224_0⟩ := Kd.at_int (Kd.R_reads' HO_13.out).2.2 0 p224 q224; cases e224; have qi224 : (0 < t217.length) = True := eq_true (by omega); (try rw [show ((0 : Int)).toNat = 0 from rfl] at hx224_0); (try rw [Addr.add_zero'] at hx224_0); replace p224 := eq_true p224; replace q224 := eq_true q224; have hcz60_0 : w59.cell? ⟨gb201, 0, none⟩ = some (.int .i64 x202000_1) := (blk_cell BK201.out 0).trans rfl; have hcz60_1 : w59.cell? ⟨gb201, 1, none⟩ = some (.int .i64 x202001_1) := (blk_cell BK201.out 1).trans rfl; have hcz60_2 : w59.cell? ⟨gb201, 2, none⟩ = some (.int .i64 x202002_1) := (blk_cell BK201.out 2).trans rfl; have hcz60_3 : w59.cell? ⟨gb201, 3, none⟩ = some (.slice Ao23 x202003_1.length co23) := (blk_cell BK201.out 3).trans rfl; have hfz60_0 := blk_frozen BK201.out 0; have hfz60_1 := blk_frozen BK201.out 1; have hfz60_2 := blk_frozen BK201.out 2; have hfz60_3 := blk_frozen BK201.out 3; have hcz61_0 : w59.cell? ⟨gb220, 0, none⟩ = some (.int .i64 t211) := (blk_cell BK220.out 0).trans rfl; have hcz61_1 : w59.cell? ⟨gb220, 1, none⟩ = some (.int .i64 t212) := (blk_cell BK220.out 1).trans rfl; have hcz61_2 : w59.cell? ⟨gb220, 2, none⟩ = some (.int .i64 t213) := (blk_cell BK220.out 2).trans rfl; have hcz61_3 : w59.cell? ⟨gb220, 3, none⟩ = some (.slice Ao32 t214.length co32) := (blk_cell BK220.out 3).trans rfl; have hfz61_0 := blk_frozen BK220.out 0; have hfz61_1 := blk_frozen BK220.out 1; have hfz61_2 := blk_frozen BK220.out 2; have hfz61_3 := blk_frozen BK220.out 3) | (go_at_call 21; (with_reducible refine (customsref21_SameGuarantee.calls k2 x202000_1 x202001_1 x202002_1 _ _ x202003_1 t211 t212 t213 _ _ t214 t225 _ ?side1 ?side2 ?side3 ?side4 A55.out).mono ?_); (case side1 => repeat (first | exact (Kd.R_reads' HO_202003.out).2.2 | (with_reducible refine Kd.C_alloc ?_ _) | (with_reducible refine Kd.C_drewN ?_ _) | (with_reducible refine Kd.C_drew ?_))); (case side2 => exact (Kd.R_reads' HO_202003.out).2.1); (case side3 => repeat (first | exact (Kd.R_reads' HO_221003.out).2.2 | (with_reducible refine Kd.C_alloc ?_ _) | (with_reducible refine Kd.C_drewN ?_ _) | (with_reducible refine Kd.C_drew ?_))); (case side4 => exact (Kd.R_reads' HO_221003.out).2.1); rintro e w62 ⟨rfl, hb⟩; have n0_ := Aside0.mk (Kd.R_below (by (with_reducible repeat (first | apply Kd.R_alloc | apply Kd.R_drewN | apply Kd.R_drew)); exact HO_13.out) hb); have n1_ := Aside0.mk (Kd.R_below (by (with_reducible repeat (first | apply Kd.R_alloc | apply Kd.R_drewN | apply Kd.R_drew)); exact HO_202003.out) hb); have n2_ := Aside0.mk (Kd.R_below (by (with_reducible repeat (first | apply Kd.R_alloc | apply Kd.R_drewN | apply Kd.R_drew)); exact HO_221003.out) hb); have n3_ := Aside0.mk (blk_below (g := gb201) (o := .cells #[.int .i64 x202000_1, .int .i64 x202001_1, .int .i64 x202002_1, .slice Ao23 x202003_1.length co23] 25 (0, 0)) (by (with_reducible repeat (first | refine blk_drewN ?_ _ | refine blk_drew ?_ | refine blk_alloc ?_ _)); exact BK201.out) hb); have n4_ := Aside0.mk (blk_below (g := gb220) (o := .cells #[.int .i64 t211, .int .i64 t212, .int .i64 t213, .slice Ao32 t214.length co32] 25 (0, 0)) (by (with_reducible repeat (first | refine blk_drewN ?_ _ | refine blk_drew ?_ | refine blk_alloc ?_ _)); exact BK220.out) hb); have n5_ := Aside0.mk (below_step (by repeat (first | (with_reducible first | exact HB.out | apply below_alloc | apply pw_below_drewN | apply below_drew1 | refine below_set ?_ GE201.out | refine below_set ?_ GE220.out) | exact HB.out)) hb); clear HO_13; clear HO_202003; clear HO_221003; clear BK201; clear BK220; clear HB; have HO_13 := n0_; have HO_202003 := n1_; have HO_221003 := n2_; have BK201 := n3_; have BK220 := n4_; have HB := n5_; clear n0_ n1_ n2_ n3_ n4_ n5_; (try clear hb); (try clear hb2); (try clear hk); (try clear hi)))
                                    go_meet
                                    case rel => exact ⟨_, (!t225), (by first | rfl | (simp; done) | (simp [*]; done)), H', ⟨by have := HK1.out; have := HK2.out; first | omega | exact Nat.le_refl _⟩, ⟨by (with_reducible repeat (first | apply Kd.R_alloc | apply Kd.R_drewN | apply Kd.R_drew)); exact HO_202003.out⟩, ⟨by (with_reducible repeat (first | apply Kd.R_alloc | apply Kd.R_drewN | apply Kd.R_drew)); exact HO_221003.out⟩, ⟨by (with_reducible repeat (first | refine blk_drewN ?_ _ | refine blk_drew ?_ | refine blk_alloc ?_ _)); exact BK201.out⟩, ⟨by (with_reducible repeat (first | refine blk_drewN ?_ _ | refine blk_drew ?_ | refine blk_alloc ?_ _)); exact BK220.out⟩, ⟨by repeat (first | (with_reducible first | exact HB.out | apply below_alloc | apply pw_below_drewN | apply below_drew1 | refine below_set ?_ GE201.out | refine below_set ?_ GE220.out) | exact HB.out)⟩⟩
                                · rw [if_neg c49] at H
                                  exact absurd H (by simp)
                              · rw [if_neg c48] at H
                                have c48b0 : (t223 == x14_2) = false := beq_eq_false_iff_ne.mpr c48
                                have c48b1 : (t223 != x14_2) = true := bne_iff_ne.mpr c48
                                have H' := Aside0.mk H
                                clear H
                                obtain ⟨Ao63, co63, eo63⟩ := Kd.R_slice HO_13.out
                                subst eo63
                                have hnb64 := NB220_201.out
                                have hnc64 := NB201_220.out
                                have hcz65_0 : wr.cell? ⟨gb220, 0, none⟩ = some (.int .i64 t211) := (blk_cell BK220.out 0).trans rfl
                                have hcz65_1 : wr.cell? ⟨gb220, 1, none⟩ = some (.int .i64 t212) := (blk_cell BK220.out 1).trans rfl
                                have hcz65_2 : wr.cell? ⟨gb220, 2, none⟩ = some (.int .i64 t213) := (blk_cell BK220.out 2).trans rfl
                                have hcz65_3 : wr.cell? ⟨gb220, 3, none⟩ = some (.slice Ao32 t214.length co32) := (blk_cell BK220.out 3).trans rfl
                                have hfz65_0 := blk_frozen BK220.out 0
                                have hfz65_1 := blk_frozen BK220.out 1
                                have hfz65_2 := blk_frozen BK220.out 2
                                have hfz65_3 := blk_frozen BK220.out 3
                                go_wp2_with (first | (go_at_call 13; (with_reducible refine (guarantee_Total.calls k2 t211 t212 t213 _ _ t214 t223 _ ?side1 ?side2 A47.out).mono ?_); (case side1 => repeat (first | exact (Kd.R_reads' HO_221003.out).2.2 | (with_reducible refine Kd.C_alloc ?_ _) | (with_reducible refine Kd.C_drewN ?_ _) | (with_reducible refine Kd.C_drew ?_))); (case side2 => exact (Kd.R_reads' HO_221003.out).2.1); rintro e w66 ⟨rfl, hb⟩; have n0_ := Aside0.mk (Kd.R_below (by (with_reducible repeat (first | apply Kd.R_alloc | apply Kd.R_drewN | apply Kd.R_drew)); exact HO_13.out) hb); have n1_ := Aside0.mk (Kd.R_below (by (with_reducible repeat (first | apply Kd.R_alloc | apply Kd.R_drewN | apply Kd.R_drew)); exact HO_202003.out) hb); have n2_ := Aside0.mk (Kd.R_below (by (with_reducible repeat (first | apply Kd.R_alloc | apply Kd.R_drewN | apply Kd.R_drew)); exact HO_221003.out) hb); have n3_ := Aside0.mk (blk_below (g := gb201) (o := .cells #[.int .i64 x202000_1, .int .i64 x202001_1, .int .i64 x202002_1, .slice Ao23 x202003_1.length co23] 25 (0, 0)) (by (with_reducible repeat (first | refine blk_drewN ?_ _ | refine blk_drew ?_ | refine blk_alloc ?_ _)); exact BK201.out) hb); have n4_ := Aside0.mk (blk_below (g := gb220) (o := .cells #[.int .i64 t211, .int .i64 t212, .int .i64 t213, .slice Ao32 t214.length co32] 25 (0, 0)) (by (with_reducible repeat (first | refine blk_drewN ?_ _ | refine blk_drew ?_ | refine blk_alloc ?_ _)); exact BK220.out) hb); have n5_ := Aside0.mk (below_step (by repeat (first | (with_reducible first | exact HB.out | apply below_alloc | apply pw_below_drewN | apply below_drew1 | refine below_set ?_ GE201.out | refine below_set ?_ GE220.out) | exact HB.out)) hb); clear HO_13; clear HO_202003; clear HO_221003; clear BK201; clear BK220; clear HB; have HO_13 := n0_; have HO_202003 := n1_; have HO_221003 := n2_; have BK201 := n3_; have BK220 := n4_; have HB := n5_; clear n0_ n1_ n2_ n3_ n4_ n5_; (try clear hb); (try clear hb2); (try clear hk); (try clear hi)))
                                go_meet
                                case rel => exact ⟨_, (true), (by first | rfl | (simp; done) | (simp [*]; done)), H', ⟨by have := HK1.out; have := HK2.out; first | omega | exact Nat.le_refl _⟩, ⟨by (with_reducible repeat (first | apply Kd.R_alloc | apply Kd.R_drewN | apply Kd.R_drew)); exact HO_202003.out⟩, ⟨by (with_reducible repeat (first | apply Kd.R_alloc | apply Kd.R_drewN | apply Kd.R_drew)); exact HO_221003.out⟩, ⟨by (with_reducible repeat (first | refine blk_drewN ?_ _ | refine blk_drew ?_ | refine blk_alloc ?_ _)); exact BK201.out⟩, ⟨by (with_reducible repeat (first | refine blk_drewN ?_ _ | refine blk_drew ?_ | refine blk_alloc ?_ _)); exact BK220.out⟩, ⟨by repeat (first | (with_reducible first | exact HB.out | apply below_alloc | apply pw_below_drewN | apply below_drew1 | refine below_set ?_ GE201.out | refine below_set ?_ GE220.out) | exact HB.out)⟩⟩
                          · rw [if_neg c42] at H
                            have c42b0 : ((t217.length : Int) == 1) = false := beq_eq_false_iff_ne.mpr c42
                            have c42b1 : ((t217.length : Int) != 1) = true := bne_iff_ne.mpr c42
                            (first | rw [c42b0] | (simp only [i64_w, i32_w]; rw [c42b0]) | skip)
                            have H' := Aside0.mk H
                            clear H
                            obtain ⟨Ao67, co67, eo67⟩ := Kd.R_slice HO_13.out
                            subst eo67
                            go_wp2
                            go_meet
                            case rel => exact ⟨_, (true), (by first | rfl | (simp; done) | (simp [*]; done)), H', ⟨by have := HK1.out; have := HK2.out; first | omega | exact Nat.le_refl _⟩, ⟨by (with_reducible repeat (first | apply Kd.R_alloc | apply Kd.R_drewN | apply Kd.R_drew)); exact HO_202003.out⟩, ⟨by (with_reducible repeat (first | apply Kd.R_alloc | apply Kd.R_drewN | apply Kd.R_drew)); exact HO_221003.out⟩, ⟨by (with_reducible repeat (first | refine blk_drewN ?_ _ | refine blk_drew ?_ | refine blk_alloc ?_ _)); exact BK201.out⟩, ⟨by (with_reducible repeat (first | refine blk_drewN ?_ _ | refine blk_drew ?_ | refine blk_alloc ?_ _)); exact BK220.out⟩, ⟨by repeat (first | (with_reducible first | exact HB.out | apply below_alloc | apply pw_below_drewN | apply below_drew1 | refine below_set ?_ GE201.out | refine below_set ?_ GE220.out) | exact HB.out)⟩⟩
                        case rest =>
                          clear HC39
                          try clear c1
                          try clear c2
                          try clear p2
                          try clear q2
                          try clear hx2
                          try clear qi2
                          try clear c3
                          try clear c4
                          try clear c5
                          try clear c6
                          try clear p6
                          try clear c7
                          try clear c7b0
                          try clear c7b1
                          try clear c9
                          try clear c10
                          try clear c15
                          try clear c18
                          try clear c18b0
                          try clear c19
                          try clear c19b0
                          try clear c19b1
                          try clear c20
                          try clear c20b0
                          try clear c20b1
                          try clear c21
                          try clear c21b0
                          try clear c21b1
                          try clear p22
                          try clear q22
                          try clear hx22
                          try clear qi22
                          try clear c25
                          try clear q25
                          try clear c27
                          try clear c34
                          try clear c34b0
                          try clear c35
                          try clear c35b0
                          try clear c36
                          try clear c36b0
                          try clear c37
                          try clear c40
                          try clear c42
                          try clear c42b0
                          try clear c42b1
                          try clear c43
                          try clear c43b0
                          try clear c45
                          try clear c48
                          try clear c48b0
                          try clear c48b1
                          try clear c49
                          try clear c49b0
                          try clear c49b1
                          try clear c50
                          try clear c50b0
                          try clear c50b1
                          try clear c52
                          try clear c57
                          try clear c64
                          try clear p64
                          try clear hcz11_0
                          try clear hcz11_1
                          try clear hcz11_2
                          try clear hcz11_3
                          try clear hcz16_0
                          try clear hcz16_1
                          try clear hcz16_2
                          try clear hcz16_3
                          try clear hcz38_0
                          try clear hcz38_1
                          try clear hcz38_2
                          try clear hcz38_3
                          try clear hcz41_0
                          try clear hcz41_1
                          try clear hcz41_2
                          try clear hcz41_3
                          try clear hcz46_0
                          try clear hcz46_1
                          try clear hcz46_2
                          try clear hcz46_3
                          try clear hcz53_0
                          try clear hcz53_1
                          try clear hcz53_2
                          try clear hcz53_3
                          try clear hcz58_0
                          try clear hcz58_1
                          try clear hcz58_2
                          try clear hcz58_3
                          try clear hcz60_0
                          try clear hcz60_1
                          try clear hcz60_2
                          try clear hcz60_3
                          try clear hcz61_0
                          try clear hcz61_1
                          try clear hcz61_2
                          try clear hcz61_3
                          try clear hcz65_0
                          try clear hcz65_1
                          try clear hcz65_2
                          try clear hcz65_3
                          try clear hfz11_0
                          try clear hfz11_1
                          try clear hfz11_2
                          try clear hfz11_3
                          try clear hfz16_0
                          try clear hfz16_1
                          try clear hfz16_2
                          try clear hfz16_3
                          try clear hfz38_0
                          try clear hfz38_1
                          try clear hfz38_2
                          try clear hfz38_3
                          try clear hfz41_0
                          try clear hfz41_1
                          try clear hfz41_2
                          try clear hfz41_3
                          try clear hfz46_0
                          try clear hfz46_1
                          try clear hfz46_2
                          try clear hfz46_3
                          try clear hfz53_0
                          try clear hfz53_1
                          try clear hfz53_2
                          try clear hfz53_3
                          try clear hfz58_0
                          try clear hfz58_1
                          try clear hfz58_2
                          try clear hfz58_3
                          try clear hfz60_0
                          try clear hfz60_1
                          try clear hfz60_2
                          try clear hfz60_3
                          try clear hfz61_0
                          try clear hfz61_1
                          try clear hfz61_2
                          try clear hfz61_3
                          try clear hfz65_0
                          try clear hfz65_1
                          try clear hfz65_2
                          try clear hfz65_3
                          try clear hx221_0
                          try clear hx221_1
                          try clear hx222_0
                          try clear hx222_1
                          try clear hx224_0
                          try clear p2
                          try clear p221
                          try clear p222
                          try clear p224
                          try clear p6
                          try clear q025
                          try clear q2
                          try clear q221
                          try clear q222
                          try clear q224
                          try clear q25
                          obtain ⟨kq, x91_38, rfl, HA, HJ38, HO_202003, HO_221003, BK201, BK220, HB⟩ := hcut
                          cases kq with
                          | zero => exact absurd HA.out (by simp [customslaw23_GuaranteeNever.j2])
                          | succ kj38 =>
                            have H := HA.out
                            clear HA
                            simp only [customslaw23_GuaranteeNever.j2] at H
                            by_cases c68 : x91_38 = true
                            · subst c68
                              have H1 : (some false) = some true := by rw [if_pos rfl] at H; exact H
                              clear H
                              have H := H1
                              clear H1
                              cases H
                            · replace c68 := Bool.eq_false_iff.mpr c68
                              subst c68
                              have H1 : (customslaw23_GuaranteeNever.l0 kj38 l2 (wrap64 (x11_1 + 1)) t211 t212 t213 t214) = some true := by rw [if_neg (show ¬ (false = true) by decide)] at H; exact H
                              clear H
                              have H := H1
                              clear H1
                              have H' := Aside0.mk H
                              clear H
                              have hnb69 := NB220_201.out
                              have hnc69 := NB201_220.out
                              have hcz70_0 : wc.cell? ⟨gb220, 0, none⟩ = some (.int .i64 t211) := (blk_cell BK220.out 0).trans rfl
                              have hcz70_1 : wc.cell? ⟨gb220, 1, none⟩ = some (.int .i64 t212) := (blk_cell BK220.out 1).trans rfl
                              have hcz70_2 : wc.cell? ⟨gb220, 2, none⟩ = some (.int .i64 t213) := (blk_cell BK220.out 2).trans rfl
                              have hcz70_3 : wc.cell? ⟨gb220, 3, none⟩ = some (.slice Ao32 t214.length co32) := (blk_cell BK220.out 3).trans rfl
                              have hfz70_0 := blk_frozen BK220.out 0
                              have hfz70_1 := blk_frozen BK220.out 1
                              have hfz70_2 := blk_frozen BK220.out 2
                              have hfz70_3 := blk_frozen BK220.out 3
                              have hcz71_0 : wc.cell? ⟨gb201, 0, none⟩ = some (.int .i64 x202000_1) := (blk_cell BK201.out 0).trans rfl
                              have hcz71_1 : wc.cell? ⟨gb201, 1, none⟩ = some (.int .i64 x202001_1) := (blk_cell BK201.out 1).trans rfl
                              have hcz71_2 : wc.cell? ⟨gb201, 2, none⟩ = some (.int .i64 x202002_1) := (blk_cell BK201.out 2).trans rfl
                              have hcz71_3 : wc.cell? ⟨gb201, 3, none⟩ = some (.slice Ao23 x202003_1.length co23) := (blk_cell BK201.out 3).trans rfl
                              have hfz71_0 := blk_frozen BK201.out 0
                              have hfz71_1 := blk_frozen BK201.out 1
                              have hfz71_2 := blk_frozen BK201.out 2
                              have hfz71_3 := blk_frozen BK201.out 3
                              go_wp2
                              go_roundg kj38
                              case measure => have := HK1.out; have := HK2.out; have := HJ38.out; omega
                              case rel => exact ⟨(wrap64 (x11_1 + 1)), (t211), (t212), (t213), (t214), (.slice Ao32 t214.length co32), (by first | rfl | (simp; done) | (simp [*]; done)), H', ⟨by have := HK1.out; have := HK2.out; have := HJ38.out; omega⟩, ⟨by (with_reducible repeat (first | apply Kd.R_alloc | apply Kd.R_drewN | apply Kd.R_drew)); exact Kd.R_mono (Kd.R_far (p := ⟨gb201, 3, none⟩) (Kd.R_far (p := ⟨gb201, 2, none⟩) (Kd.R_far (p := ⟨gb201, 1, none⟩) (Kd.R_far (p := ⟨gb201, 0, none⟩) (Kd.R_types HO_221003.out BK201.out (by decide)) (fun _ hk => hk.2) (.int .i64 t211)) (fun _ hk => hk.2) (.int .i64 t212)) (fun _ hk => hk.2) (.int .i64 t213)) (fun _ hk => hk.2) (.slice Ao32 t214.length co32)) (fun _ hk => trivial)⟩, ⟨by (with_reducible repeat (first | refine blk_drewN ?_ _ | refine blk_drew ?_ | refine blk_alloc ?_ _)); refine blk_put (cs := #[.int .i64 t211, .int .i64 t212, .int .i64 t213, .slice Ao23 x202003_1.length co23]) ?_ 3 _ rfl; (with_reducible repeat (first | refine blk_drewN ?_ _ | refine blk_drew ?_ | refine blk_alloc ?_ _)); refine blk_put (cs := #[.int .i64 t211, .int .i64 t212, .int .i64 x202002_1, .slice Ao23 x202003_1.length co23]) ?_ 2 _ rfl; (with_reducible repeat (first | refine blk_drewN ?_ _ | refine blk_drew ?_ | refine blk_alloc ?_ _)); refine blk_put (cs := #[.int .i64 t211, .int .i64 x202001_1, .int .i64 x202002_1, .slice Ao23 x202003_1.length co23]) ?_ 1 _ rfl; (with_reducible repeat (first | refine blk_drewN ?_ _ | refine blk_drew ?_ | refine blk_alloc ?_ _)); refine blk_put (cs := #[.int .i64 x202000_1, .int .i64 x202001_1, .int .i64 x202002_1, .slice Ao23 x202003_1.length co23]) ?_ 0 _ rfl; (with_reducible repeat (first | refine blk_drewN ?_ _ | refine blk_drew ?_ | refine blk_alloc ?_ _)); exact BK201.out⟩, ⟨by repeat (first | (with_reducible first | exact HB.out | apply below_alloc | apply pw_below_drewN | apply below_drew1 | refine below_set ?_ GE201.out | refine below_set ?_ GE220.out) | exact HB.out)⟩⟩
                · rw [if_neg c21] at H
                  exact absurd H (by simp)
              · rw [if_neg c20] at H
                exact absurd H (by simp)
            · rw [if_neg c19] at H
              exact absurd H (by simp)
          · rw [if_neg c18] at H
            have c18b0 : decide (x11_1 < (l2.length : Int)) = false := decide_eq_false c18
            clear c18
            replace H := Option.bind_eq_some_iff.mp H
            obtain ⟨t206, A720, H⟩ := H
            replace H : (some t206) = some true := H
            have A72 := Aside0.mk A720
            clear A720
            have HT_ := Option.some.inj H
            clear H
            go_wp2_with (first | ((with_reducible refine gate_callee (f := 15) rfl ?_); refine goesL_ (some 93) rfl rfl Try.func15 (by kernel_rfl) rfl #[] rfl (by (try simp only [List.map_toArray, List.map_cons, List.map_nil]); first | done | rfl | (simp only [List.length_drop, List.length_take]; rfl)) ?_; (with_reducible refine (customslaw23_awake.calls k1  t206 _ A72.out).mono ?_); rintro e w73 ⟨rfl, hb⟩; refine ⟨_, rfl, ?_⟩; have n0_ := Aside0.mk (Kd.R_below (by (with_reducible repeat (first | apply Kd.R_alloc | apply Kd.R_drewN | apply Kd.R_drew)); exact HO_202003.out) hb); have n1_ := Aside0.mk (blk_below (g := gb201) (o := .cells #[.int .i64 x202000_1, .int .i64 x202001_1, .int .i64 x202002_1, u202003] 25 (0, 0)) (by (with_reducible repeat (first | refine blk_drewN ?_ _ | refine blk_drew ?_ | refine blk_alloc ?_ _)); exact BK201.out) hb); have n2_ := Aside0.mk (below_step (by repeat (first | (with_reducible first | exact HB.out | apply below_alloc | apply pw_below_drewN | apply below_drew1 | refine below_set ?_ GE201.out) | exact HB.out)) hb); clear HO_202003; clear BK201; clear HB; have HO_202003 := n0_; have BK201 := n1_; have HB := n2_; clear n0_ n1_ n2_; (try clear hb); (try clear hb2); (try clear hk); (try clear hi)))
            go_ret
            exact ⟨by first | rfl | (simp [errW_none, errW_some] <;> rfl) | (simp [*, errW_none, errW_some] <;> rfl), by repeat (first | (with_reducible first | exact HB.out | apply below_alloc | apply pw_below_drewN | apply below_drew1 | refine below_set ?_ GE201.out) | exact HB.out)⟩
  · replace c6 := Bool.eq_false_iff.mpr c6
    subst c6
    have H1 : ((customsmade_GuaranteeSteps.f k l1).bind fun t202 => (if (t202.length : Int) > 100 then ((customslaw23_awake.f k).bind fun t226 => (some t226)) else (customslaw23_GuaranteeNever.l50 k t202 0 t195 t196 t197 t198))) = some true := by rw [if_neg (show ¬ (false = true) by decide)] at H; exact H
    clear H
    have H := H1
    clear H1
    replace H := Option.bind_eq_some_iff.mp H
    obtain ⟨t202, A740, H⟩ := H
    replace H : (if (t202.length : Int) > 100 then ((customslaw23_awake.f k).bind fun t226 => (some t226)) else (customslaw23_GuaranteeNever.l50 k t202 0 t195 t196 t197 t198)) = some true := H
    have A74 := Aside0.mk A740
    clear A740
    by_cases c75 : (t202.length : Int) > 100
    · rw [if_pos c75] at H
      have c75b0 : decide (100 < (t202.length : Int)) = true := decide_eq_true c75
      have c75b1 : decide (100 < t202.length) = true := decide_eq_true (by omega)
      clear c75
      replace H := Option.bind_eq_some_iff.mp H
      obtain ⟨t226, A760, H⟩ := H
      replace H : (some t226) = some true := H
      have A76 := Aside0.mk A760
      clear A760
      have HT_ := Option.some.inj H
      clear H
      go_enter Try.func9, Try.ntmps9
      go_wp2_with (first | ((with_reducible refine gate_callee (f := 10) rfl ?_); refine goesL_ (some 17) rfl rfl Try.func10 (by kernel_rfl) rfl #[.slice A0 l0.length c0] rfl (by (try simp only [List.map_toArray, List.map_cons, List.map_nil]); first | done | rfl | (simp only [List.length_drop, List.length_take]; rfl)) ?_; (with_reducible refine (customsmade_Guarantee.calls k _ _ l0 t195 t196 t197 t198 _ ?side1 ?side2 A5.out).mono ?_); (case side1 => repeat (first | exact HR0.out | (with_reducible refine Kd.C_alloc ?_ _) | (with_reducible refine Kd.C_drewN ?_ _) | (with_reducible refine Kd.C_drew ?_))); (case side2 => exact HC0.out); rintro e w77 ⟨v199, rfl, ho0, hb⟩; refine ⟨_, rfl, ?_⟩; have n0_ := Aside0.mk (Kd.R_lower ho0 (below_size (by repeat (first | (with_reducible first | exact HB.out | apply below_alloc | apply pw_below_drewN | apply below_drew1) | exact HB.out)))); have n1_ := Aside0.mk (below_step (by repeat (first | (with_reducible first | exact HB.out | apply below_alloc | apply pw_below_drewN | apply below_drew1) | exact HB.out)) hb); clear HB; have HO200 := n0_; have HB := n1_; clear n0_ n1_; (try clear hb); (try clear hb2); (try clear hk); (try clear hi); (try clear ho0)) | ((with_reducible refine gate_dst (N := 9) rfl ?_); refine box_event ?hg (N := 9) ?hd (cs := #[.int .i64 0, .int .i64 0, .int .i64 0, .slice none 0 0]) (t := 25) ?hr ?_; (case hd => rfl); (case hg => rfl); (case hr => first | (go_simp; done) | (go_simp; rfl)); intro gb201 hg w78 hbox hb; have n0_ := Aside0.mk (Kd.R_below (by (with_reducible repeat (first | apply Kd.R_alloc | apply Kd.R_drewN | apply Kd.R_drew)); exact HO200.out) hb); have n1_ := Aside0.mk (below_step (by repeat (first | (with_reducible first | exact HB.out | apply below_alloc | apply pw_below_drewN | apply below_drew1) | exact HB.out)) hb); have n2_ := Aside0.mk (hbox); have n3_ := Aside0.mk ((by rw [hg]; exact (below_size (by repeat (first | (with_reducible first | exact HB.out | apply below_alloc | apply pw_below_drewN | apply below_drew1) | exact HB.out))) : w.heap.size ≤ gb201)); have n4_ := Aside0.mk ((by rw [hg]; exact (below_size (by repeat (first | (with_reducible first | exact HB.out | apply below_alloc | apply pw_below_drewN | apply below_drew1) | exact HB.out))) : w.heap.size ≤ gb201)); clear HO200; clear HB; have HO200 := n0_; have HB := n1_; have BK201 := n2_; have GW201 := n3_; have GE201 := n4_; clear n0_ n1_ n2_ n3_ n4_; clear hb hbox hg; have hcz79_0 : w78.cell? ⟨gb201, 0, none⟩ = some (.int .i64 0) := (blk_cell BK201.out 0).trans rfl; have hcz79_1 : w78.cell? ⟨gb201, 1, none⟩ = some (.int .i64 0) := (blk_cell BK201.out 1).trans rfl; have hcz79_2 : w78.cell? ⟨gb201, 2, none⟩ = some (.int .i64 0) := (blk_cell BK201.out 2).trans rfl; have hcz79_3 : w78.cell? ⟨gb201, 3, none⟩ = some (.slice none 0 0) := (blk_cell BK201.out 3).trans rfl; have hfz79_0 := blk_frozen BK201.out 0; have hfz79_1 := blk_frozen BK201.out 1; have hfz79_2 := blk_frozen BK201.out 2; have hfz79_3 := blk_frozen BK201.out 3; obtain ⟨Ao80, co80, eo80⟩ := Kd.R_slice HO200.out; subst eo80) | ((with_reducible refine gate_callee (f := 26) rfl ?_); refine goesL_ (some 22) rfl rfl Try.func26 (by kernel_rfl) rfl #[.slice A1 l1.length c1] rfl (by (try simp only [List.map_toArray, List.map_cons, List.map_nil]); first | done | rfl | (simp only [List.length_drop, List.length_take]; rfl)) ?_; (with_reducible refine (customsmade_GuaranteeSteps.calls k _ _ l1 t202 _ ?side1 ?side2 A74.out).mono ?_); (case side1 => exact Kd.C_below HR1.out (by repeat (first | (with_reducible first | exact HB.out | apply below_alloc | apply pw_below_drewN | apply below_drew1 | refine below_set ?_ GE201.out) | exact HB.out))); (case side2 => exact HC1.out); rintro e w81 ⟨v203, rfl, ho0, hb⟩; refine ⟨_, rfl, ?_⟩; have n0_ := Aside0.mk (Kd.R_below (by (with_reducible repeat (first | apply Kd.R_alloc | apply Kd.R_drewN | apply Kd.R_drew)); exact (Kd.R_mono (Kd.R_far (p := ⟨gb201, 3, none⟩) (Kd.R_far (p := ⟨gb201, 2, none⟩) (Kd.R_far (p := ⟨gb201, 1, none⟩) (Kd.R_far (p := ⟨gb201, 0, none⟩) (Kd.R_types HO200.out BK201.out (by decide)) (fun _ hk => hk.2) (.int .i64 t195)) (fun _ hk => hk.2) (.int .i64 t196)) (fun _ hk => hk.2) (.int .i64 t197)) (fun _ hk => hk.2) (.slice Ao80 t198.length co80)) (fun _ h_ => h_.1))) hb); have n1_ := Aside0.mk (Kd.R_lower ho0 (below_size (by repeat (first | (with_reducible first | exact HB.out | apply below_alloc | apply pw_below_drewN | apply below_drew1 | refine below_set ?_ GE201.out) | exact HB.out)))); have n2_ := Aside0.mk (blk_below (g := gb201) (o := .cells #[.int .i64 t195, .int .i64 t196, .int .i64 t197, .slice Ao80 t198.length co80] 25 (0, 0)) (by (with_reducible repeat (first | refine blk_drewN ?_ _ | refine blk_drew ?_ | refine blk_alloc ?_ _)); refine blk_put (cs := #[.int .i64 t195, .int .i64 t196, .int .i64 t197, .slice none 0 0]) ?_ 3 _ rfl; (with_reducible repeat (first | refine blk_drewN ?_ _ | refine blk_drew ?_ | refine blk_alloc ?_ _)); refine blk_put (cs := #[.int .i64 t195, .int .i64 t196, .int .i64 0, .slice none 0 0]) ?_ 2 _ rfl; (with_reducible repeat (first | refine blk_drewN ?_ _ | refine blk_drew ?_ | refine blk_alloc ?_ _)); refine blk_put (cs := #[.int .i64 t195, .int .i64 0, .int .i64 0, .slice none 0 0]) ?_ 1 _ rfl; (with_reducible repeat (first | refine blk_drewN ?_ _ | refine blk_drew ?_ | refine blk_alloc ?_ _)); refine blk_put (cs := #[.int .i64 0, .int .i64 0, .int .i64 0, .slice none 0 0]) ?_ 0 _ rfl; (with_reducible repeat (first | refine blk_drewN ?_ _ | refine blk_drew ?_ | refine blk_alloc ?_ _)); exact BK201.out) hb); have n3_ := Aside0.mk (below_step (by repeat (first | (with_reducible first | exact HB.out | apply below_alloc | apply pw_below_drewN | apply below_drew1 | refine below_set ?_ GE201.out) | exact HB.out)) hb); clear HO200; clear BK201; clear HB; have HO200 := n0_; have HO204 := n1_; have BK201 := n2_; have HB := n3_; clear n0_ n1_ n2_ n3_; (try clear hb); (try clear hb2); (try clear hk); (try clear hi); (try clear ho0); obtain ⟨Ao82, co82, eo82⟩ := Kd.R_slice HO204.out; subst eo82) | ((with_reducible refine gate_callee (f := 15) rfl ?_); refine goesL_ (some 26) rfl rfl Try.func15 (by kernel_rfl) rfl #[] rfl (by (try simp only [List.map_toArray, List.map_cons, List.map_nil]); first | done | rfl | (simp only [List.length_drop, List.length_take]; rfl)) ?_; (with_reducible refine (customslaw23_awake.calls k  t226 _ A76.out).mono ?_); rintro e w83 ⟨rfl, hb⟩; refine ⟨_, rfl, ?_⟩; have n0_ := Aside0.mk (Kd.R_below (by (with_reducible repeat (first | apply Kd.R_alloc | apply Kd.R_drewN | apply Kd.R_drew)); exact HO200.out) hb); have n1_ := Aside0.mk (Kd.R_below (by (with_reducible repeat (first | apply Kd.R_alloc | apply Kd.R_drewN | apply Kd.R_drew)); exact HO204.out) hb); have n2_ := Aside0.mk (blk_below (g := gb201) (o := .cells #[.int .i64 t195, .int .i64 t196, .int .i64 t197, .slice Ao80 t198.length co80] 25 (0, 0)) (by (with_reducible repeat (first | refine blk_drewN ?_ _ | refine blk_drew ?_ | refine blk_alloc ?_ _)); exact BK201.out) hb); have n3_ := Aside0.mk (below_step (by repeat (first | (with_reducible first | exact HB.out | apply below_alloc | apply pw_below_drewN | apply below_drew1 | refine below_set ?_ GE201.out) | exact HB.out)) hb); clear HO200; clear HO204; clear BK201; clear HB; have HO200 := n0_; have HO204 := n1_; have BK201 := n2_; have HB := n3_; clear n0_ n1_ n2_ n3_; (try clear hb); (try clear hb2); (try clear hk); (try clear hi)))
      go_ret
      exact ⟨by first | rfl | (simp [errW_none, errW_some] <;> rfl) | (simp [*, errW_none, errW_some] <;> rfl), by repeat (first | (with_reducible first | exact HB.out | apply below_alloc | apply pw_below_drewN | apply below_drew1 | refine below_set ?_ GE201.out) | exact HB.out)⟩
    · rw [if_neg c75] at H
      have c75b0 : decide (100 < (t202.length : Int)) = false := decide_eq_false c75
      have c75b1 : decide (100 < t202.length) = false := decide_eq_false (by omega)
      clear c75
      have H' := Aside0.mk H
      clear H
      go_enter Try.func9, Try.ntmps9
      go_wp2_with (first | ((with_reducible refine gate_callee (f := 10) rfl ?_); refine goesL_ (some 17) rfl rfl Try.func10 (by kernel_rfl) rfl #[.slice A0 l0.length c0] rfl (by (try simp only [List.map_toArray, List.map_cons, List.map_nil]); first | done | rfl | (simp only [List.length_drop, List.length_take]; rfl)) ?_; (with_reducible refine (customsmade_Guarantee.calls k _ _ l0 t195 t196 t197 t198 _ ?side1 ?side2 A5.out).mono ?_); (case side1 => repeat (first | exact HR0.out | (with_reducible refine Kd.C_alloc ?_ _) | (with_reducible refine Kd.C_drewN ?_ _) | (with_reducible refine Kd.C_drew ?_))); (case side2 => exact HC0.out); rintro e w84 ⟨v199, rfl, ho0, hb⟩; refine ⟨_, rfl, ?_⟩; have n0_ := Aside0.mk (Kd.R_lower ho0 (below_size (by repeat (first | (with_reducible first | exact HB.out | apply below_alloc | apply pw_below_drewN | apply below_drew1) | exact HB.out)))); have n1_ := Aside0.mk (below_step (by repeat (first | (with_reducible first | exact HB.out | apply below_alloc | apply pw_below_drewN | apply below_drew1) | exact HB.out)) hb); clear HB; have HO200 := n0_; have HB := n1_; clear n0_ n1_; (try clear hb); (try clear hb2); (try clear hk); (try clear hi); (try clear ho0)) | ((with_reducible refine gate_dst (N := 9) rfl ?_); refine box_event ?hg (N := 9) ?hd (cs := #[.int .i64 0, .int .i64 0, .int .i64 0, .slice none 0 0]) (t := 25) ?hr ?_; (case hd => rfl); (case hg => rfl); (case hr => first | (go_simp; done) | (go_simp; rfl)); intro gb201 hg w85 hbox hb; have n0_ := Aside0.mk (Kd.R_below (by (with_reducible repeat (first | apply Kd.R_alloc | apply Kd.R_drewN | apply Kd.R_drew)); exact HO200.out) hb); have n1_ := Aside0.mk (below_step (by repeat (first | (with_reducible first | exact HB.out | apply below_alloc | apply pw_below_drewN | apply below_drew1) | exact HB.out)) hb); have n2_ := Aside0.mk (hbox); have n3_ := Aside0.mk ((by rw [hg]; exact (below_size (by repeat (first | (with_reducible first | exact HB.out | apply below_alloc | apply pw_below_drewN | apply below_drew1) | exact HB.out))) : w.heap.size ≤ gb201)); have n4_ := Aside0.mk ((by rw [hg]; exact (below_size (by repeat (first | (with_reducible first | exact HB.out | apply below_alloc | apply pw_below_drewN | apply below_drew1) | exact HB.out))) : w.heap.size ≤ gb201)); clear HO200; clear HB; have HO200 := n0_; have HB := n1_; have BK201 := n2_; have GW201 := n3_; have GE201 := n4_; clear n0_ n1_ n2_ n3_ n4_; clear hb hbox hg; have hcz86_0 : w85.cell? ⟨gb201, 0, none⟩ = some (.int .i64 0) := (blk_cell BK201.out 0).trans rfl; have hcz86_1 : w85.cell? ⟨gb201, 1, none⟩ = some (.int .i64 0) := (blk_cell BK201.out 1).trans rfl; have hcz86_2 : w85.cell? ⟨gb201, 2, none⟩ = some (.int .i64 0) := (blk_cell BK201.out 2).trans rfl; have hcz86_3 : w85.cell? ⟨gb201, 3, none⟩ = some (.slice none 0 0) := (blk_cell BK201.out 3).trans rfl; have hfz86_0 := blk_frozen BK201.out 0; have hfz86_1 := blk_frozen BK201.out 1; have hfz86_2 := blk_frozen BK201.out 2; have hfz86_3 := blk_frozen BK201.out 3; obtain ⟨Ao87, co87, eo87⟩ := Kd.R_slice HO200.out; subst eo87) | ((with_reducible refine gate_callee (f := 26) rfl ?_); refine goesL_ (some 22) rfl rfl Try.func26 (by kernel_rfl) rfl #[.slice A1 l1.length c1] rfl (by (try simp only [List.map_toArray, List.map_cons, List.map_nil]); first | done | rfl | (simp only [List.length_drop, List.length_take]; rfl)) ?_; (with_reducible refine (customsmade_GuaranteeSteps.calls k _ _ l1 t202 _ ?side1 ?side2 A74.out).mono ?_); (case side1 => exact Kd.C_below HR1.out (by repeat (first | (with_reducible first | exact HB.out | apply below_alloc | apply pw_below_drewN | apply below_drew1 | refine below_set ?_ GE201.out) | exact HB.out))); (case side2 => exact HC1.out); rintro e w88 ⟨v203, rfl, ho0, hb⟩; refine ⟨_, rfl, ?_⟩; have n0_ := Aside0.mk (Kd.R_below (by (with_reducible repeat (first | apply Kd.R_alloc | apply Kd.R_drewN | apply Kd.R_drew)); exact (Kd.R_mono (Kd.R_far (p := ⟨gb201, 3, none⟩) (Kd.R_far (p := ⟨gb201, 2, none⟩) (Kd.R_far (p := ⟨gb201, 1, none⟩) (Kd.R_far (p := ⟨gb201, 0, none⟩) (Kd.R_types HO200.out BK201.out (by decide)) (fun _ hk => hk.2) (.int .i64 t195)) (fun _ hk => hk.2) (.int .i64 t196)) (fun _ hk => hk.2) (.int .i64 t197)) (fun _ hk => hk.2) (.slice Ao87 t198.length co87)) (fun _ h_ => h_.1))) hb); have n1_ := Aside0.mk (Kd.R_lower ho0 (below_size (by repeat (first | (with_reducible first | exact HB.out | apply below_alloc | apply pw_below_drewN | apply below_drew1 | refine below_set ?_ GE201.out) | exact HB.out)))); have n2_ := Aside0.mk (blk_below (g := gb201) (o := .cells #[.int .i64 t195, .int .i64 t196, .int .i64 t197, .slice Ao87 t198.length co87] 25 (0, 0)) (by (with_reducible repeat (first | refine blk_drewN ?_ _ | refine blk_drew ?_ | refine blk_alloc ?_ _)); refine blk_put (cs := #[.int .i64 t195, .int .i64 t196, .int .i64 t197, .slice none 0 0]) ?_ 3 _ rfl; (with_reducible repeat (first | refine blk_drewN ?_ _ | refine blk_drew ?_ | refine blk_alloc ?_ _)); refine blk_put (cs := #[.int .i64 t195, .int .i64 t196, .int .i64 0, .slice none 0 0]) ?_ 2 _ rfl; (with_reducible repeat (first | refine blk_drewN ?_ _ | refine blk_drew ?_ | refine blk_alloc ?_ _)); refine blk_put (cs := #[.int .i64 t195, .int .i64 0, .int .i64 0, .slice none 0 0]) ?_ 1 _ rfl; (with_reducible repeat (first | refine blk_drewN ?_ _ | refine blk_drew ?_ | refine blk_alloc ?_ _)); refine blk_put (cs := #[.int .i64 0, .int .i64 0, .int .i64 0, .slice none 0 0]) ?_ 0 _ rfl; (with_reducible repeat (first | refine blk_drewN ?_ _ | refine blk_drew ?_ | refine blk_alloc ?_ _)); exact BK201.out) hb); have n3_ := Aside0.mk (below_step (by repeat (first | (with_reducible first | exact HB.out | apply below_alloc | apply pw_below_drewN | apply below_drew1 | refine below_set ?_ GE201.out) | exact HB.out)) hb); clear HO200; clear BK201; clear HB; have HO200 := n0_; have HO204 := n1_; have BK201 := n2_; have HB := n3_; clear n0_ n1_ n2_ n3_; (try clear hb); (try clear hb2); (try clear hk); (try clear hi); (try clear ho0); obtain ⟨Ao89, co89, eo89⟩ := Kd.R_slice HO204.out; subst eo89))
      go_loopg [11] k (fun kq v11 w' => ∃ (x11_1 : Int) (x202000_1 : Int) (x202001_1 : Int) (x202002_1 : Int) (x202003_1 : List (S39)) (u202003 : Value), v11 = .int .i64 x11_1 ∧ Aside0 (customslaw23_GuaranteeNever.l50 kq t202 x11_1 x202000_1 x202001_1 x202002_1 x202003_1 = some true) ∧ Aside0 (kq ≤ k) ∧ Aside0 (Kd.R k74 74 w' w.heap.size (fun _ => True) (.slice Ao89 t202.length co89) t202) ∧ Aside0 (Kd.R k39 39 w' w.heap.size (fun _ => True) u202003 x202003_1) ∧ Aside0 (w'.heap[gb201]? = some (.cells #[.int .i64 x202000_1, .int .i64 x202001_1, .int .i64 x202002_1, u202003] 25 (0, 0))) ∧ Aside0 (Below w.heap.size w w'))
      case atStart => exact ⟨(0), (t195), (t196), (t197), (t198), (.slice Ao87 t198.length co87), (by first | rfl | (simp; done) | (simp [*]; done)), H', ⟨Nat.le_refl _⟩, ⟨by (with_reducible repeat (first | apply Kd.R_alloc | apply Kd.R_drewN | apply Kd.R_drew)); exact HO204.out⟩, ⟨by (with_reducible repeat (first | apply Kd.R_alloc | apply Kd.R_drewN | apply Kd.R_drew)); exact HO200.out⟩, ⟨by (with_reducible repeat (first | refine blk_drewN ?_ _ | refine blk_drew ?_ | refine blk_alloc ?_ _)); exact BK201.out⟩, ⟨by repeat (first | (with_reducible first | exact HB.out | apply below_alloc | apply pw_below_drewN | apply below_drew1 | refine below_set ?_ GE201.out) | exact HB.out)⟩⟩
      case round =>
        clear H'
        try clear c1
        try clear c2
        try clear p2
        try clear q2
        try clear hx2
        try clear qi2
        try clear c3
        try clear c4
        try clear c5
        try clear c6
        try clear p6
        try clear c7
        try clear c7b0
        try clear c7b1
        try clear c9
        try clear c10
        try clear c15
        try clear c18
        try clear c18b0
        try clear c19
        try clear c19b0
        try clear c19b1
        try clear c20
        try clear c20b0
        try clear c20b1
        try clear c21
        try clear c21b0
        try clear c21b1
        try clear p22
        try clear q22
        try clear hx22
        try clear qi22
        try clear c25
        try clear q25
        try clear c26
        try clear c27
        try clear c34
        try clear c34b0
        try clear c35
        try clear c35b0
        try clear c36
        try clear c36b0
        try clear c37
        try clear c40
        try clear c42
        try clear c42b0
        try clear c42b1
        try clear c43
        try clear c43b0
        try clear c45
        try clear c48
        try clear c48b0
        try clear c48b1
        try clear c49
        try clear c49b0
        try clear c49b1
        try clear c50
        try clear c50b0
        try clear c50b1
        try clear c52
        try clear c57
        try clear c64
        try clear p64
        try clear c68
        try clear c69
        try clear c75
        try clear c75b0
        try clear c75b1
        try clear hcz11_0
        try clear hcz11_1
        try clear hcz11_2
        try clear hcz11_3
        try clear hcz16_0
        try clear hcz16_1
        try clear hcz16_2
        try clear hcz16_3
        try clear hcz38_0
        try clear hcz38_1
        try clear hcz38_2
        try clear hcz38_3
        try clear hcz41_0
        try clear hcz41_1
        try clear hcz41_2
        try clear hcz41_3
        try clear hcz46_0
        try clear hcz46_1
        try clear hcz46_2
        try clear hcz46_3
        try clear hcz53_0
        try clear hcz53_1
        try clear hcz53_2
        try clear hcz53_3
        try clear hcz58_0
        try clear hcz58_1
        try clear hcz58_2
        try clear hcz58_3
        try clear hcz60_0
        try clear hcz60_1
        try clear hcz60_2
        try clear hcz60_3
        try clear hcz61_0
        try clear hcz61_1
        try clear hcz61_2
        try clear hcz61_3
        try clear hcz65_0
        try clear hcz65_1
        try clear hcz65_2
        try clear hcz65_3
        try clear hcz70_0
        try clear hcz70_1
        try clear hcz70_2
        try clear hcz70_3
        try clear hcz71_0
        try clear hcz71_1
        try clear hcz71_2
        try clear hcz71_3
        try clear hcz79_0
        try clear hcz79_1
        try clear hcz79_2
        try clear hcz79_3
        try clear hcz86_0
        try clear hcz86_1
        try clear hcz86_2
        try clear hcz86_3
        try clear hfz11_0
        try clear hfz11_1
        try clear hfz11_2
        try clear hfz11_3
        try clear hfz16_0
        try clear hfz16_1
        try clear hfz16_2
        try clear hfz16_3
        try clear hfz38_0
        try clear hfz38_1
        try clear hfz38_2
        try clear hfz38_3
        try clear hfz41_0
        try clear hfz41_1
        try clear hfz41_2
        try clear hfz41_3
        try clear hfz46_0
        try clear hfz46_1
        try clear hfz46_2
        try clear hfz46_3
        try clear hfz53_0
        try clear hfz53_1
        try clear hfz53_2
        try clear hfz53_3
        try clear hfz58_0
        try clear hfz58_1
        try clear hfz58_2
        try clear hfz58_3
        try clear hfz60_0
        try clear hfz60_1
        try clear hfz60_2
        try clear hfz60_3
        try clear hfz61_0
        try clear hfz61_1
        try clear hfz61_2
        try clear hfz61_3
        try clear hfz65_0
        try clear hfz65_1
        try clear hfz65_2
        try clear hfz65_3
        try clear hfz70_0
        try clear hfz70_1
        try clear hfz70_2
        try clear hfz70_3
        try clear hfz71_0
        try clear hfz71_1
        try clear hfz71_2
        try clear hfz71_3
        try clear hfz79_0
        try clear hfz79_1
        try clear hfz79_2
        try clear hfz79_3
        try clear hfz86_0
        try clear hfz86_1
        try clear hfz86_2
        try clear hfz86_3
        try clear hx221_0
        try clear hx221_1
        try clear hx222_0
        try clear hx222_1
        try clear hx224_0
        try clear p2
        try clear p22
        try clear p221
        try clear p222
        try clear p224
        try clear p6
        try clear p64
        try clear q025
        try clear q2
        try clear q22
        try clear q221
        try clear q222
        try clear q224
        try clear q25
        obtain ⟨x11_1, x202000_1, x202001_1, x202002_1, x202003_1, u202003, rfl, HA, HK1, HO_10, HO_202003, BK201, HB⟩ := hrel
        cases gk with
        | zero => exact absurd HA.out (by simp [customslaw23_GuaranteeNever.l50])
        | succ k1 =>
          have H := HA.out
          clear HA
          simp only [customslaw23_GuaranteeNever.l50] at H
          by_cases c90 : x11_1 < (t202.length : Int)
          · rw [if_pos c90] at H
            have c90b0 : decide (x11_1 < (t202.length : Int)) = true := decide_eq_true c90
            clear c90
            by_cases c91 : 0 ≤ x11_1
            · rw [if_pos c91] at H
              have c91b0 := eq_true c91
              have c91b1 : decide (0 ≤ x11_1) = true := decide_eq_true c91
              clear c91
              by_cases c92 : x11_1 ≤ (wrap64 (x11_1 + 1))
              · rw [if_pos c92] at H
                have c92b0 := eq_true c92
                have c92b1 : decide (x11_1 ≤ (wrap64 (x11_1 + 1))) = true := decide_eq_true c92
                by_cases c93 : (wrap64 (x11_1 + 1)) ≤ (t202.length : Int)
                · rw [if_pos c93] at H
                  have c93b0 := eq_true c93
                  have c93b1 : decide ((wrap64 (x11_1 + 1)) ≤ (t202.length : Int)) = true := decide_eq_true c93
                  obtain ⟨y228, hy228⟩ : ∃ y_ : List (S74), y_ = ((t202.take ((wrap64 (x11_1 + 1)) : Int).toNat).drop (x11_1 : Int).toNat) := ⟨_, rfl⟩
                  replace H : ((guarantee_Run.f k1 x202000_1 x202001_1 x202002_1 x202003_1 y228).bind fun bt232 => (customslaw23_GuaranteeNever.l51 k1 t202 x11_1 bt232.2.2.2.2 0 0 x202000_1 x202001_1 x202002_1 x202003_1 bt232.1 bt232.2.1 bt232.2.2.1 bt232.2.2.2.1)) = some true := by first | (rw [hy228]; with_reducible exact H) | (have H2_ := (Option.bind_some _ _).symm.trans H; rw [hy228]; with_reducible exact H2_) | (have H2_ := (Option.bind_some _ _).symm.trans H; with_reducible exact H2_) | with_reducible exact H | (rw [hy228]; exact H) | exact H
                  have Ny228 := Aside0.mk hy228
                  clear hy228
                  replace H := Option.bind_eq_some_iff.mp H
                  obtain ⟨⟨t232, t233, t234, t235, t238⟩, A940, H⟩ := H
                  replace H : (customslaw23_GuaranteeNever.l51 k1 t202 x11_1 t238 0 0 x202000_1 x202001_1 x202002_1 x202003_1 t232 t233 t234 t235) = some true := H
                  have A94 := Aside0.mk A940
                  clear A940
                  have H' := Aside0.mk H
                  clear H
                  obtain ⟨Ao95, co95, eo95⟩ := Kd.R_slice HO_202003.out
                  subst eo95
                  try go_wp2
                  have n0_ := Aside0.mk (Kd.R_drew HO_10.out)
                  have n1_ := Aside0.mk (Kd.R_drew HO_202003.out)
                  have n2_ := Aside0.mk (blk_drew BK201.out)
                  have n3_ := Aside0.mk (below_drew1 HB.out)
                  clear HO_10
                  clear HO_202003
                  clear BK201
                  clear HB
                  have HO_10 := n0_
                  have HO_202003 := n1_
                  have BK201 := n2_
                  have HB := n3_
                  clear n0_ n1_ n2_ n3_
                  have q97 : ((wrap64 (x11_1 + 1)) : Int) ≤ ((t202.length : Int) : Int) := of_decide_eq_true (by first | (with_reducible assumption) | assumption)
                  obtain ⟨i097, hi097, _, hsz97, _⟩ := info_parts info74
                  have hroom97 : t202.length ≤ co89 := (Kd.R_reads' HO_10.out).2.1
                  have hC97 : Kd.C k74 _ Ao89 t202.length t202 := (Kd.R_reads' HO_10.out).2.2
                  have ql97 : (x11_1 : Int) ≤ ((wrap64 (x11_1 + 1)) : Int) := of_decide_eq_true (by first | (with_reducible assumption) | assumption)
                  have q097 : (0 : Int) ≤ (x11_1 : Int) := of_decide_eq_true (by first | (with_reducible assumption) | assumption)
                  have hcut97 := cut_mid (P := Try.prog) 45 74 .i64 .i64 Try.underlying45 hi097 3 hsz97 Ao89 t202.length co89 x11_1 (wrap64 (x11_1 + 1)) q097 ql97 q97 hroom97
                  have hr97 := Kd.C_mid (lo := (x11_1 : Int).toNat) (hi := ((wrap64 (x11_1 + 1)) : Int).toNat) (c := co89) hC97 (by omega) (by omega) hroom97
                  obtain ⟨A97, hA97⟩ : ∃ A1, A1 = (if co89 = (x11_1 : Int).toNat then Ao89 else (Ao89 : Option Addr).map (·.add ((x11_1 : Int).toNat * 3))) := ⟨_, rfl⟩
                  obtain ⟨c97, hc97⟩ : ∃ c1, c1 = co89 - (x11_1 : Int).toNat := ⟨_, rfl⟩
                  have hy97 : y228.length = ((wrap64 (x11_1 + 1)) : Int).toNat - (x11_1 : Int).toNat := (by rw [Ny228.out, List.length_drop, List.length_take] <;> omega)
                  rw [show ((t202).take ((wrap64 (x11_1 + 1)) : Int).toNat).drop (x11_1 : Int).toNat = y228 from Ny228.out.symm] at hr97
                  replace hr97 : Kd.C k74 _ A97 y228.length y228 := (by rw [hA97]; exact hr97)
                  rw [← hy97, ← hA97, ← hc97] at hcut97
                  have HR231 := Aside0.mk hr97
                  have HC231 := Aside0.mk (show y228.length ≤ c97 from by rw [hy97, hc97]; exact Nat.sub_le_sub_right (Nat.le_trans (by omega) hroom97) _)
                  clear hr97 hC97 hroom97 hi097 hsz97 hc97
                  have KY97 := Aside0.mk hy97
                  have KA97 := Aside0.mk hA97
                  clear hy97 hA97
                  have KL97 := Aside0.mk (show ((wrap64 (x11_1 + 1)) : Int).toNat ≤ t202.length from by omega)
                  have KM97 := Aside0.mk (show (x11_1 : Int).toNat ≤ ((wrap64 (x11_1 + 1)) : Int).toNat from by omega)
                  replace q97 := eq_true q97
                  refine start_ (n := 13) (S := fun w' => w'.cell? ⟨gb201, 0, none⟩ = some (.int .i64 x202000_1) ∧ w'.cell? ⟨gb201, 1, none⟩ = some (.int .i64 x202001_1) ∧ w'.cell? ⟨gb201, 2, none⟩ = some (.int .i64 x202002_1) ∧ w'.cell? ⟨gb201, 3, none⟩ = some (.slice Ao95 x202003_1.length co95)) (ds := []) #[false, false, false, false, false, false, false, false, false, false, false, false, false] (by kernel_rfl) rfl rfl ⟨(blk_cell BK201.out 0).trans rfl, (blk_cell BK201.out 1).trans rfl, (blk_cell BK201.out 2).trans rfl, (blk_cell BK201.out 3).trans rfl⟩ (fun hHeld => ?_); refine with_tabW customslaw23_GuaranteeNever.tab9 customslaw23_GuaranteeNever.bits9 (fun HT_ HW_ => ?_)
                  generalize wr.drew = w96 at HO_10 HO_202003 BK201 HB HR231 hHeld ⊢
                  refine pure_ (i := 1) (N := some 35) (v := ?_) (a' := ?_) #[false, true, false, false, false, false, false, false, false, false, false, false, false] rfl rfl (any_of HT_.out (by kernel_rfl)) (fun _ _ _ h => h) (Or.inl ⟨by rfl, ?_⟩) ?_ ?_
                  rotate_left
                  · intro w'
                    go_simp
                    with_reducible rfl
                  rotate_left
                  · simp only [Act.put, List.setIfInBounds_toArray, List.set_cons_zero, List.set_cons_succ, i64_w, i32_w]
                    rfl
                  refine pure_ (i := 2) (N := some 36) (v := ?_) (a' := ?_) #[false, true, true, false, false, false, false, false, false, false, false, false, false] rfl rfl (any_of HT_.out (by kernel_rfl)) (fun _ _ _ h => h) (Or.inl ⟨by rfl, ?_⟩) ?_ ?_
                  rotate_left
                  · intro w'
                    go_simp
                    with_reducible rfl
                  rotate_left
                  · simp only [Act.put, List.setIfInBounds_toArray, List.set_cons_zero, List.set_cons_succ, i64_w, i32_w]
                    rfl
                  refine pure_ (i := 3) (N := some 37) (v := ?_) (a' := ?_) #[false, true, true, true, false, false, false, false, false, false, false, false, false] rfl rfl (any_of HT_.out (by kernel_rfl)) (fun _ _ _ h => h) (Or.inl ⟨by rfl, ?_⟩) ?_ ?_
                  rotate_left
                  · intro w'
                    go_simp
                    with_reducible rfl
                  rotate_left
                  · simp only [Act.put, List.setIfInBounds_toArray, List.set_cons_zero, List.set_cons_succ, i64_w, i32_w]
                    rfl
                  refine pure_ (i := 4) (N := some 38) (v := ?_) (a' := ?_) #[false, true, true, true, true, false, false, false, false, false, false, false, false] rfl rfl (any_of HT_.out (by kernel_rfl)) (fun _ _ _ h => h) (Or.inl ⟨by rfl, ?_⟩) ?_ ?_
                  rotate_left
                  · intro w'
                    go_simp
                    with_reducible rfl
                  rotate_left
                  · simp only [Act.put, List.setIfInBounds_toArray, List.set_cons_zero, List.set_cons_succ, i64_w, i32_w]
                    rfl
                  refine pure_ (i := 5) (N := some 39) (v := ?_) (a' := ?_) #[false, true, true, true, true, true, false, false, false, false, false, false, false] rfl rfl (any_of HT_.out (by kernel_rfl)) (fun _ _ _ h => h) (Or.inl ⟨by rfl, ?_⟩) ?_ ?_
                  rotate_left
                  · intro w'
                    go_simp
                    with_reducible rfl
                  rotate_left
                  · simp only [Act.put, List.setIfInBounds_toArray, List.set_cons_zero, List.set_cons_succ, i64_w, i32_w]
                    rfl
                  refine take_ (i := 0) (N := some 34) (v := ?_) (a' := ?_) #[true, true, true, true, true, true, false, false, false, false, false, false, false] rfl rfl (take_ofW HT_.out HW_.out (by kernel_rfl)) (fun _ _ _ h => h) (Or.inl ⟨by rfl, ?_⟩) hHeld ?_ ?_
                  rotate_left
                  · rintro w' ⟨s0, s1, s2, s3⟩
                    go_simp
                    with_reducible rfl
                  rotate_left
                  · simp only [Act.put, List.setIfInBounds_toArray, List.set_cons_zero, List.set_cons_succ, i64_w, i32_w]
                    rfl
                  refine join_ (σ := Value × Value × Nat) 2 #[true, true, true, true, true, true, true, true, true, true, true, false, false] (fun s_ => [(40, .tuple #[.agg #[.int .i64 t232, .int .i64 t233, .int .i64 t234, s_.1], s_.2.1]), (12, .pointer (some ⟨s_.2.2, 0, none⟩)), (33, .tuple #[.agg #[.int .i64 t232, .int .i64 t233, .int .i64 t234, s_.1], s_.2.1]), (41, .agg #[.int .i64 t232, .int .i64 t233, .int .i64 t234, s_.1]), (42, s_.2.1)]) (fun s_ w' => (w'.cell? ⟨gb201, 0, none⟩ = some (.int .i64 x202000_1) ∧ w'.cell? ⟨gb201, 1, none⟩ = some (.int .i64 x202001_1) ∧ w'.cell? ⟨gb201, 2, none⟩ = some (.int .i64 x202002_1) ∧ w'.cell? ⟨gb201, 3, none⟩ = some (.slice Ao95 x202003_1.length co95)) ∧ (Kd.R k39 39 w' w.heap.size (fun k_ => some k_ ≠ (.slice Ao95 x202003_1.length co95 : Value).ownBlock) s_.1 t235) ∧ (Kd.R (Kd.int .i64) 27 w' w.heap.size (fun _ => True) s_.2.1 t238) ∧ (Kd.R k74 74 w' w.heap.size (fun _ => True) (.slice Ao89 t202.length co89) t202) ∧ (Kd.R k39 39 w' w.heap.size (fun k_ => some k_ ≠ (s_.1 : Value).ownBlock) (.slice Ao95 x202003_1.length co95) x202003_1) ∧ (w'.heap[gb201]? = some (.cells #[.int .i64 x202000_1, .int .i64 x202001_1, .int .i64 x202002_1, .slice Ao95 x202003_1.length co95] 25 (0, 0))) ∧ (w'.heap[s_.2.2]? = some (.cells #[.int .i64 0, .int .i64 0, .int .i64 0, .slice none 0 0] 25 (0, 0))) ∧ (w.heap.size ≤ s_.2.2) ∧ (w.heap.size ≤ s_.2.2) ∧ (gb201 ≠ s_.2.2) ∧ (s_.2.2 ≠ gb201) ∧ (Below w.heap.size w w')) ?_ ?_
                  rotate_left
                  · intro hCont
                    refine two_ (i := 6) (j := 10) (Ni := some 40) (Nj := some 12) #[true, true, true, true, true, true, true, false, false, false, false, false, false] #[true, true, true, true, true, true, false, false, false, false, true, false, false] rfl rfl rfl rfl (two_of HT_.out (by kernel_rfl)) (by decide) (by decide) (fun K hK => ?_) (fun K hK => ?_)
                    · skip
                      refine goes_ Try.func27 (by kernel_rfl) rfl #[.agg #[.int .i64 x202000_1, .int .i64 x202001_1, .int .i64 x202002_1, .slice Ao95 x202003_1.length co95], .slice A97 y228.length c97] (by rfl) rfl rfl (by (try simp only [List.map_toArray, List.map_cons, List.map_nil]); first | done | rfl | (simp only [List.length_drop, List.length_take]; rfl)) ?_
                      with_reducible refine (guarantee_Run.calls k1 x202000_1 x202001_1 x202002_1 _ _ x202003_1 _ _ y228 t232 t233 t234 t235 t238 _ ?side1 ?side2 ?side3 ?side4 A94.out).mono ?_
                      (case side1 => repeat (first | exact (Kd.R_reads' HO_202003.out).2.2 | (with_reducible refine Kd.C_alloc ?_ _) | (with_reducible refine Kd.C_drewN ?_ _) | (with_reducible refine Kd.C_drew ?_)))
                      (case side2 => exact (Kd.R_reads' HO_202003.out).2.1)
                      (case side3 => repeat (first | exact (by repeat (first | (with_reducible exact HR231.out) | (with_reducible refine Kd.C_alloc ?_ _) | (with_reducible refine Kd.C_drewN ?_ _) | (with_reducible refine Kd.C_drew ?_) | exact HR231.out)) | (with_reducible refine Kd.C_alloc ?_ _) | (with_reducible refine Kd.C_drewN ?_ _) | (with_reducible refine Kd.C_drew ?_)))
                      (case side4 => exact HC231.out)
                      rintro e w98 ⟨v236, v239, rfl, ho0, ho1, hb⟩
                      refine ⟨_, rfl, ?_⟩
                      have n0_ := Aside0.mk (Kd.R_below (by (with_reducible repeat (first | apply Kd.R_alloc | apply Kd.R_drewN | apply Kd.R_drew)); exact HO_10.out) hb)
                      have n1_ := Aside0.mk (Kd.R_elder' (by (with_reducible repeat (first | apply Kd.R_alloc | apply Kd.R_drewN | apply Kd.R_drew)); exact HO_202003.out) (Kd.R_base ho0) hb)
                      have n2_ := Aside0.mk (Kd.R_lower (Kd.R_new' ho0 (Kd.R_lt (by (with_reducible repeat (first | apply Kd.R_alloc | apply Kd.R_drewN | apply Kd.R_drew)); exact HO_202003.out))) (below_size (by repeat (first | (with_reducible first | exact HB.out | apply below_alloc | apply pw_below_drewN | apply below_drew1 | refine below_set ?_ GE201.out) | exact HB.out))))
                      have n3_ := Aside0.mk (Kd.R_lower ho1 (below_size (by repeat (first | (with_reducible first | exact HB.out | apply below_alloc | apply pw_below_drewN | apply below_drew1 | refine below_set ?_ GE201.out) | exact HB.out))))
                      have n4_ := Aside0.mk (blk_below (g := gb201) (o := .cells #[.int .i64 x202000_1, .int .i64 x202001_1, .int .i64 x202002_1, .slice Ao95 x202003_1.length co95] 25 (0, 0)) (by (with_reducible repeat (first | refine blk_drewN ?_ _ | refine blk_drew ?_ | refine blk_alloc ?_ _)); exact BK201.out) hb)
                      have n5_ := Aside0.mk (Kd.C_below (by repeat (first | (with_reducible exact HR231.out) | (with_reducible refine Kd.C_alloc ?_ _) | (with_reducible refine Kd.C_drewN ?_ _) | (with_reducible refine Kd.C_drew ?_) | exact HR231.out)) hb)
                      have n6_ := Aside0.mk (below_step (by repeat (first | (with_reducible first | exact HB.out | apply below_alloc | apply pw_below_drewN | apply below_drew1 | refine below_set ?_ GE201.out) | exact HB.out)) hb)
                      clear HO_10
                      clear HO_202003
                      clear BK201
                      clear HR231
                      clear HB
                      have HO_10 := n0_
                      have HO_202003 := n1_
                      have HO237 := n2_
                      have HO240 := n3_
                      have BK201 := n4_
                      have HR231 := n5_
                      have HB := n6_
                      clear n0_ n1_ n2_ n3_ n4_ n5_ n6_
                      (try clear hb)
                      (try clear hb2)
                      (try clear hk)
                      (try clear hi)
                      (try clear ho0)
                      (try clear ho1)
                      refine hK.out _ _ ⟨(blk_cell BK201.out 0).trans rfl, (blk_cell BK201.out 1).trans rfl, (blk_cell BK201.out 2).trans rfl, (blk_cell BK201.out 3).trans rfl⟩ (fun hHeld => ?_)
                      clear hK K
                      refine norm_ (a' := ?_) ?_ ?_
                      rotate_left
                      · show Act.put _ (some 40) _ = _
                        simp only [Act.put, List.setIfInBounds_toArray, List.set_cons_zero, List.set_cons_succ, i64_w, i32_w]
                        rfl
                      refine pure_ (i := 7) (N := some 33) (v := ?_) (a' := ?_) #[true, true, true, true, true, true, true, true, false, false, false, false, false] rfl rfl (any_of HT_.out (by kernel_rfl)) (fun _ _ _ h => h) (Or.inl ⟨by rfl, ?_⟩) ?_ ?_
                      rotate_left
                      · intro w'
                        go_simp
                        with_reducible rfl
                      rotate_left
                      · simp only [Act.put, List.setIfInBounds_toArray, List.set_cons_zero, List.set_cons_succ, i64_w, i32_w]
                        rfl
                      refine pure_ (i := 8) (N := some 41) (v := ?_) (a' := ?_) #[true, true, true, true, true, true, true, true, true, false, false, false, false] rfl rfl (any_of HT_.out (by kernel_rfl)) (fun _ _ _ h => h) (Or.inl ⟨by rfl, ?_⟩) ?_ ?_
                      rotate_left
                      · intro w'
                        go_simp
                        with_reducible rfl
                      rotate_left
                      · simp only [Act.put, List.setIfInBounds_toArray, List.set_cons_zero, List.set_cons_succ, i64_w, i32_w]
                        rfl
                      refine pure_ (i := 9) (N := some 42) (v := ?_) (a' := ?_) #[true, true, true, true, true, true, true, true, true, true, false, false, false] rfl rfl (any_of HT_.out (by kernel_rfl)) (fun _ _ _ h => h) (Or.inl ⟨by rfl, ?_⟩) ?_ ?_
                      rotate_left
                      · intro w'
                        go_simp
                        with_reducible rfl
                      rotate_left
                      · simp only [Act.put, List.setIfInBounds_toArray, List.set_cons_zero, List.set_cons_succ, i64_w, i32_w]
                        rfl
                      refine one_ (i := 10) (N := some 12) #[true, true, true, true, true, true, true, true, true, true, true, false, false] rfl rfl (one_of HT_.out (by kernel_rfl)) (by decide) (fun K hK => ?_)
                      refine box_step ?hg (N := 12) ?hd (cs := #[.int .i64 0, .int .i64 0, .int .i64 0, .slice none 0 0]) (t := 25) ?hr ?_; (case hd => rfl); (case hg => rfl); (case hr => first | (go_simp; done) | (go_simp; rfl))
                      intro gb241 hg w99 hbox hb
                      have n0_ := Aside0.mk (Kd.R_below (by (with_reducible repeat (first | apply Kd.R_alloc | apply Kd.R_drewN | apply Kd.R_drew)); exact HO_10.out) hb)
                      have n1_ := Aside0.mk (Kd.R_below (by (with_reducible repeat (first | apply Kd.R_alloc | apply Kd.R_drewN | apply Kd.R_drew)); exact HO_202003.out) hb)
                      have n2_ := Aside0.mk (Kd.R_below (by (with_reducible repeat (first | apply Kd.R_alloc | apply Kd.R_drewN | apply Kd.R_drew)); exact HO237.out) hb)
                      have n3_ := Aside0.mk (Kd.R_below (by (with_reducible repeat (first | apply Kd.R_alloc | apply Kd.R_drewN | apply Kd.R_drew)); exact HO240.out) hb)
                      have n4_ := Aside0.mk (blk_below (g := gb201) (o := .cells #[.int .i64 x202000_1, .int .i64 x202001_1, .int .i64 x202002_1, .slice Ao95 x202003_1.length co95] 25 (0, 0)) (by (with_reducible repeat (first | refine blk_drewN ?_ _ | refine blk_drew ?_ | refine blk_alloc ?_ _)); exact BK201.out) hb)
                      have n5_ := Aside0.mk (Kd.C_below (by repeat (first | (with_reducible exact HR231.out) | (with_reducible refine Kd.C_alloc ?_ _) | (with_reducible refine Kd.C_drewN ?_ _) | (with_reducible refine Kd.C_drew ?_) | exact HR231.out)) hb)
                      have n6_ := Aside0.mk (below_step (by repeat (first | (with_reducible first | exact HB.out | apply below_alloc | apply pw_below_drewN | apply below_drew1 | refine below_set ?_ GE201.out) | exact HB.out)) hb)
                      have n7_ := Aside0.mk (hbox)
                      have n8_ := Aside0.mk ((by rw [hg]; exact (below_size (by repeat (first | (with_reducible first | exact HB.out | apply below_alloc | apply pw_below_drewN | apply below_drew1 | refine below_set ?_ GE201.out) | exact HB.out))) : w.heap.size ≤ gb241))
                      have n9_ := Aside0.mk ((by rw [hg]; exact (below_size (by repeat (first | (with_reducible first | exact HB.out | apply below_alloc | apply pw_below_drewN | apply below_drew1 | refine below_set ?_ GE201.out) | exact HB.out))) : w.heap.size ≤ gb241))
                      have n10_ := Aside0.mk ((by rw [hg]; exact Nat.ne_of_lt (blk_lt (g := gb201) (o := .cells #[.int .i64 x202000_1, .int .i64 x202001_1, .int .i64 x202002_1, .slice Ao95 x202003_1.length co95] 25 (0, 0)) (by (with_reducible repeat (first | refine blk_drewN ?_ _ | refine blk_drew ?_ | refine blk_alloc ?_ _)); exact BK201.out)) : gb201 ≠ gb241))
                      have n11_ := Aside0.mk ((by rw [hg]; exact Nat.ne_of_gt (blk_lt (g := gb201) (o := .cells #[.int .i64 x202000_1, .int .i64 x202001_1, .int .i64 x202002_1, .slice Ao95 x202003_1.length co95] 25 (0, 0)) (by (with_reducible repeat (first | refine blk_drewN ?_ _ | refine blk_drew ?_ | refine blk_alloc ?_ _)); exact BK201.out)) : gb241 ≠ gb201))
                      clear HO_10
                      clear HO_202003
                      clear HO237
                      clear HO240
                      clear BK201
                      clear HR231
                      clear HB
                      have HO_10 := n0_
                      have HO_202003 := n1_
                      have HO237 := n2_
                      have HO240 := n3_
                      have BK201 := n4_
                      have HR231 := n5_
                      have HB := n6_
                      have BK241 := n7_
                      have GW241 := n8_
                      have GE241 := n9_
                      have NB201_241 := n10_
                      have NB241_201 := n11_
                      clear n0_ n1_ n2_ n3_ n4_ n5_ n6_ n7_ n8_ n9_ n10_ n11_
                      clear hb hbox hg
                      refine hK.out _ _ ⟨(blk_cell BK201.out 0).trans rfl, (blk_cell BK201.out 1).trans rfl, (blk_cell BK201.out 2).trans rfl, (blk_cell BK201.out 3).trans rfl⟩ (fun hHeld => ?_)
                      clear hK K
                      refine norm_ (a' := ?_) ?_ ?_
                      rotate_left
                      · show Act.put _ (some 12) _ = _
                        simp only [Act.put, List.setIfInBounds_toArray, List.set_cons_zero, List.set_cons_succ, i64_w, i32_w]
                        rfl
                      exact norm_ (by simp only [putAll, Act.put, List.setIfInBounds_toArray, List.set_cons_zero, List.set_cons_succ]) (hCont (v236, v239, gb241) _ ⟨hHeld, (by (with_reducible repeat (first | apply Kd.R_alloc | apply Kd.R_drewN | apply Kd.R_drew)); exact Kd.R_mono HO237.out (fun _ hk => hk.2)), (by (with_reducible repeat (first | apply Kd.R_alloc | apply Kd.R_drewN | apply Kd.R_drew)); exact HO240.out), (by (with_reducible repeat (first | apply Kd.R_alloc | apply Kd.R_drewN | apply Kd.R_drew)); exact HO_10.out), (by (with_reducible repeat (first | apply Kd.R_alloc | apply Kd.R_drewN | apply Kd.R_drew)); exact Kd.R_mono HO_202003.out (fun _ hk => hk.2)), (by (with_reducible repeat (first | refine blk_drewN ?_ _ | refine blk_drew ?_ | refine blk_alloc ?_ _)); exact BK201.out), (by (with_reducible repeat (first | refine blk_drewN ?_ _ | refine blk_drew ?_ | refine blk_alloc ?_ _)); exact BK241.out), GW241.out, GE241.out, NB201_241.out, NB241_201.out, (by repeat (first | (with_reducible first | exact HB.out | apply below_alloc | apply pw_below_drewN | apply below_drew1 | refine below_set ?_ GE201.out | refine below_set ?_ GE241.out) | exact HB.out))⟩)
                    · skip
                      refine box_step ?hg (N := 12) ?hd (cs := #[.int .i64 0, .int .i64 0, .int .i64 0, .slice none 0 0]) (t := 25) ?hr ?_; (case hd => rfl); (case hg => rfl); (case hr => first | (go_simp; done) | (go_simp; rfl))
                      intro gb241 hg w98 hbox hb
                      have n0_ := Aside0.mk (Kd.R_below (by (with_reducible repeat (first | apply Kd.R_alloc | apply Kd.R_drewN | apply Kd.R_drew)); exact HO_10.out) hb)
                      have n1_ := Aside0.mk (Kd.R_below (by (with_reducible repeat (first | apply Kd.R_alloc | apply Kd.R_drewN | apply Kd.R_drew)); exact HO_202003.out) hb)
                      have n2_ := Aside0.mk (blk_below (g := gb201) (o := .cells #[.int .i64 x202000_1, .int .i64 x202001_1, .int .i64 x202002_1, .slice Ao95 x202003_1.length co95] 25 (0, 0)) (by (with_reducible repeat (first | refine blk_drewN ?_ _ | refine blk_drew ?_ | refine blk_alloc ?_ _)); exact BK201.out) hb)
                      have n3_ := Aside0.mk (Kd.C_below (by repeat (first | (with_reducible exact HR231.out) | (with_reducible refine Kd.C_alloc ?_ _) | (with_reducible refine Kd.C_drewN ?_ _) | (with_reducible refine Kd.C_drew ?_) | exact HR231.out)) hb)
                      have n4_ := Aside0.mk (below_step (by repeat (first | (with_reducible first | exact HB.out | apply below_alloc | apply pw_below_drewN | apply below_drew1 | refine below_set ?_ GE201.out) | exact HB.out)) hb)
                      have n5_ := Aside0.mk (hbox)
                      have n6_ := Aside0.mk ((by rw [hg]; exact (below_size (by repeat (first | (with_reducible first | exact HB.out | apply below_alloc | apply pw_below_drewN | apply below_drew1 | refine below_set ?_ GE201.out) | exact HB.out))) : w.heap.size ≤ gb241))
                      have n7_ := Aside0.mk ((by rw [hg]; exact (below_size (by repeat (first | (with_reducible first | exact HB.out | apply below_alloc | apply pw_below_drewN | apply below_drew1 | refine below_set ?_ GE201.out) | exact HB.out))) : w.heap.size ≤ gb241))
                      have n8_ := Aside0.mk ((by rw [hg]; exact Nat.ne_of_lt (blk_lt (g := gb201) (o := .cells #[.int .i64 x202000_1, .int .i64 x202001_1, .int .i64 x202002_1, .slice Ao95 x202003_1.length co95] 25 (0, 0)) (by (with_reducible repeat (first | refine blk_drewN ?_ _ | refine blk_drew ?_ | refine blk_alloc ?_ _)); exact BK201.out)) : gb201 ≠ gb241))
                      have n9_ := Aside0.mk ((by rw [hg]; exact Nat.ne_of_gt (blk_lt (g := gb201) (o := .cells #[.int .i64 x202000_1, .int .i64 x202001_1, .int .i64 x202002_1, .slice Ao95 x202003_1.length co95] 25 (0, 0)) (by (with_reducible repeat (first | refine blk_drewN ?_ _ | refine blk_drew ?_ | refine blk_alloc ?_ _)); exact BK201.out)) : gb241 ≠ gb201))
                      clear HO_10
                      clear HO_202003
                      clear BK201
                      clear HR231
                      clear HB
                      have HO_10 := n0_
                      have HO_202003 := n1_
                      have BK201 := n2_
                      have HR231 := n3_
                      have HB := n4_
                      have BK241 := n5_
                      have GW241 := n6_
                      have GE241 := n7_
                      have NB201_241 := n8_
                      have NB241_201 := n9_
                      clear n0_ n1_ n2_ n3_ n4_ n5_ n6_ n7_ n8_ n9_
                      clear hb hbox hg
                      refine hK.out _ _ ⟨(blk_cell BK201.out 0).trans rfl, (blk_cell BK201.out 1).trans rfl, (blk_cell BK201.out 2).trans rfl, (blk_cell BK201.out 3).trans rfl⟩ (fun hHeld => ?_)
                      clear hK K
                      refine norm_ (a' := ?_) ?_ ?_
                      rotate_left
                      · show Act.put _ (some 12) _ = _
                        simp only [Act.put, List.setIfInBounds_toArray, List.set_cons_zero, List.set_cons_succ, i64_w, i32_w]
                        rfl
                      refine one_ (i := 6) (N := some 40) #[true, true, true, true, true, true, true, false, false, false, true, false, false] rfl rfl (one_of HT_.out (by kernel_rfl)) (by decide) (fun K hK => ?_)
                      refine goes_ Try.func27 (by kernel_rfl) rfl #[.agg #[.int .i64 x202000_1, .int .i64 x202001_1, .int .i64 x202002_1, .slice Ao95 x202003_1.length co95], .slice A97 y228.length c97] (by rfl) rfl rfl (by (try simp only [List.map_toArray, List.map_cons, List.map_nil]); first | done | rfl | (simp only [List.length_drop, List.length_take]; rfl)) ?_
                      with_reducible refine (guarantee_Run.calls k1 x202000_1 x202001_1 x202002_1 _ _ x202003_1 _ _ y228 t232 t233 t234 t235 t238 _ ?side1 ?side2 ?side3 ?side4 A94.out).mono ?_
                      (case side1 => repeat (first | exact (Kd.R_reads' HO_202003.out).2.2 | (with_reducible refine Kd.C_alloc ?_ _) | (with_reducible refine Kd.C_drewN ?_ _) | (with_reducible refine Kd.C_drew ?_)))
                      (case side2 => exact (Kd.R_reads' HO_202003.out).2.1)
                      (case side3 => repeat (first | exact (by repeat (first | (with_reducible exact HR231.out) | (with_reducible refine Kd.C_alloc ?_ _) | (with_reducible refine Kd.C_drewN ?_ _) | (with_reducible refine Kd.C_drew ?_) | exact HR231.out)) | (with_reducible refine Kd.C_alloc ?_ _) | (with_reducible refine Kd.C_drewN ?_ _) | (with_reducible refine Kd.C_drew ?_)))
                      (case side4 => exact HC231.out)
                      rintro e w99 ⟨v236, v239, rfl, ho0, ho1, hb⟩
                      refine ⟨_, rfl, ?_⟩
                      have n0_ := Aside0.mk (Kd.R_below (by (with_reducible repeat (first | apply Kd.R_alloc | apply Kd.R_drewN | apply Kd.R_drew)); exact HO_10.out) hb)
                      have n1_ := Aside0.mk (Kd.R_elder' (by (with_reducible repeat (first | apply Kd.R_alloc | apply Kd.R_drewN | apply Kd.R_drew)); exact HO_202003.out) (Kd.R_base ho0) hb)
                      have n2_ := Aside0.mk (Kd.R_lower (Kd.R_new' ho0 (Kd.R_lt (by (with_reducible repeat (first | apply Kd.R_alloc | apply Kd.R_drewN | apply Kd.R_drew)); exact HO_202003.out))) (below_size (by repeat (first | (with_reducible first | exact HB.out | apply below_alloc | apply pw_below_drewN | apply below_drew1 | refine below_set ?_ GE201.out | refine below_set ?_ GE241.out) | exact HB.out))))
                      have n3_ := Aside0.mk (Kd.R_lower ho1 (below_size (by repeat (first | (with_reducible first | exact HB.out | apply below_alloc | apply pw_below_drewN | apply below_drew1 | refine below_set ?_ GE201.out | refine below_set ?_ GE241.out) | exact HB.out))))
                      have n4_ := Aside0.mk (blk_below (g := gb201) (o := .cells #[.int .i64 x202000_1, .int .i64 x202001_1, .int .i64 x202002_1, .slice Ao95 x202003_1.length co95] 25 (0, 0)) (by (with_reducible repeat (first | refine blk_drewN ?_ _ | refine blk_drew ?_ | refine blk_alloc ?_ _)); exact BK201.out) hb)
                      have n5_ := Aside0.mk (Kd.C_below (by repeat (first | (with_reducible exact HR231.out) | (with_reducible refine Kd.C_alloc ?_ _) | (with_reducible refine Kd.C_drewN ?_ _) | (with_reducible refine Kd.C_drew ?_) | exact HR231.out)) hb)
                      have n6_ := Aside0.mk (blk_below (g := gb241) (o := .cells #[.int .i64 0, .int .i64 0, .int .i64 0, .slice none 0 0] 25 (0, 0)) (by (with_reducible repeat (first | refine blk_drewN ?_ _ | refine blk_drew ?_ | refine blk_alloc ?_ _)); exact BK241.out) hb)
                      have n7_ := Aside0.mk (below_step (by repeat (first | (with_reducible first | exact HB.out | apply below_alloc | apply pw_below_drewN | apply below_drew1 | refine below_set ?_ GE201.out | refine below_set ?_ GE241.out) | exact HB.out)) hb)
                      clear HO_10
                      clear HO_202003
                      clear BK201
                      clear HR231
                      clear BK241
                      clear HB
                      have HO_10 := n0_
                      have HO_202003 := n1_
                      have HO237 := n2_
                      have HO240 := n3_
                      have BK201 := n4_
                      have HR231 := n5_
                      have BK241 := n6_
                      have HB := n7_
                      clear n0_ n1_ n2_ n3_ n4_ n5_ n6_ n7_
                      (try clear hb)
                      (try clear hb2)
                      (try clear hk)
                      (try clear hi)
                      (try clear ho0)
                      (try clear ho1)
                      refine hK.out _ _ ⟨(blk_cell BK201.out 0).trans rfl, (blk_cell BK201.out 1).trans rfl, (blk_cell BK201.out 2).trans rfl, (blk_cell BK201.out 3).trans rfl⟩ (fun hHeld => ?_)
                      clear hK K
                      refine norm_ (a' := ?_) ?_ ?_
                      rotate_left
                      · show Act.put _ (some 40) _ = _
                        simp only [Act.put, List.setIfInBounds_toArray, List.set_cons_zero, List.set_cons_succ, i64_w, i32_w]
                        rfl
                      refine pure_ (i := 7) (N := some 33) (v := ?_) (a' := ?_) #[true, true, true, true, true, true, true, true, false, false, true, false, false] rfl rfl (any_of HT_.out (by kernel_rfl)) (fun _ _ _ h => h) (Or.inl ⟨by rfl, ?_⟩) ?_ ?_
                      rotate_left
                      · intro w'
                        go_simp
                        with_reducible rfl
                      rotate_left
                      · simp only [Act.put, List.setIfInBounds_toArray, List.set_cons_zero, List.set_cons_succ, i64_w, i32_w]
                        rfl
                      refine pure_ (i := 8) (N := some 41) (v := ?_) (a' := ?_) #[true, true, true, true, true, true, true, true, true, false, true, false, false] rfl rfl (any_of HT_.out (by kernel_rfl)) (fun _ _ _ h => h) (Or.inl ⟨by rfl, ?_⟩) ?_ ?_
                      rotate_left
                      · intro w'
                        go_simp
                        with_reducible rfl
                      rotate_left
                      · simp only [Act.put, List.setIfInBounds_toArray, List.set_cons_zero, List.set_cons_succ, i64_w, i32_w]
                        rfl
                      refine pure_ (i := 9) (N := some 42) (v := ?_) (a' := ?_) #[true, true, true, true, true, true, true, true, true, true, true, false, false] rfl rfl (any_of HT_.out (by kernel_rfl)) (fun _ _ _ h => h) (Or.inl ⟨by rfl, ?_⟩) ?_ ?_
                      rotate_left
                      · intro w'
                        go_simp
                        with_reducible rfl
                      rotate_left
                      · simp only [Act.put, List.setIfInBounds_toArray, List.set_cons_zero, List.set_cons_succ, i64_w, i32_w]
                        rfl
                      exact norm_ (by simp only [putAll, Act.put, List.setIfInBounds_toArray, List.set_cons_zero, List.set_cons_succ]) (hCont (v236, v239, gb241) _ ⟨hHeld, (by (with_reducible repeat (first | apply Kd.R_alloc | apply Kd.R_drewN | apply Kd.R_drew)); exact Kd.R_mono HO237.out (fun _ hk => hk.2)), (by (with_reducible repeat (first | apply Kd.R_alloc | apply Kd.R_drewN | apply Kd.R_drew)); exact HO240.out), (by (with_reducible repeat (first | apply Kd.R_alloc | apply Kd.R_drewN | apply Kd.R_drew)); exact HO_10.out), (by (with_reducible repeat (first | apply Kd.R_alloc | apply Kd.R_drewN | apply Kd.R_drew)); exact Kd.R_mono HO_202003.out (fun _ hk => hk.2)), (by (with_reducible repeat (first | refine blk_drewN ?_ _ | refine blk_drew ?_ | refine blk_alloc ?_ _)); exact BK201.out), (by (with_reducible repeat (first | refine blk_drewN ?_ _ | refine blk_drew ?_ | refine blk_alloc ?_ _)); exact BK241.out), GW241.out, GE241.out, NB201_241.out, NB241_201.out, (by repeat (first | (with_reducible first | exact HB.out | apply below_alloc | apply pw_below_drewN | apply below_drew1 | refine below_set ?_ GE201.out | refine below_set ?_ GE241.out) | exact HB.out))⟩)
                  rintro ⟨v236, v239, gb241⟩ w100 ⟨hS_, h0_, h1_, h2_, h3_, h4_, h5_, h6_, h7_, h8_, h9_, h10_⟩
                  have n0_ : Aside0 (Kd.R k39 39 w100 w.heap.size (fun k_ => some k_ ≠ (.slice Ao95 x202003_1.length co95 : Value).ownBlock) v236 t235) := ⟨h0_⟩
                  have n1_ : Aside0 (Kd.R (Kd.int .i64) 27 w100 w.heap.size (fun _ => True) v239 t238) := ⟨h1_⟩
                  have n2_ : Aside0 (Kd.R k74 74 w100 w.heap.size (fun _ => True) (.slice Ao89 t202.length co89) t202) := ⟨h2_⟩
                  have n3_ : Aside0 (Kd.R k39 39 w100 w.heap.size (fun k_ => some k_ ≠ (v236 : Value).ownBlock) (.slice Ao95 x202003_1.length co95) x202003_1) := ⟨h3_⟩
                  have n4_ : Aside0 (w100.heap[gb201]? = some (.cells #[.int .i64 x202000_1, .int .i64 x202001_1, .int .i64 x202002_1, .slice Ao95 x202003_1.length co95] 25 (0, 0))) := ⟨h4_⟩
                  have n5_ : Aside0 (w100.heap[gb241]? = some (.cells #[.int .i64 0, .int .i64 0, .int .i64 0, .slice none 0 0] 25 (0, 0))) := ⟨h5_⟩
                  have n6_ : Aside0 (w.heap.size ≤ gb241) := ⟨h6_⟩
                  have n7_ : Aside0 (w.heap.size ≤ gb241) := ⟨h7_⟩
                  have n8_ : Aside0 (gb201 ≠ gb241) := ⟨h8_⟩
                  have n9_ : Aside0 (gb241 ≠ gb201) := ⟨h9_⟩
                  have n10_ : Aside0 (Below w.heap.size w w100) := ⟨h10_⟩
                  clear HO_10
                  clear HO_202003
                  clear BK201
                  clear HB
                  clear h0_ h1_ h2_ h3_ h4_ h5_ h6_ h7_ h8_ h9_ h10_
                  have HO237 := n0_
                  have HO240 := n1_
                  have HO_10 := n2_
                  have HO_202003 := n3_
                  have BK201 := n4_
                  have BK241 := n5_
                  have GW241 := n6_
                  have GE241 := n7_
                  have NB201_241 := n8_
                  have NB241_201 := n9_
                  have HB := n10_
                  clear n0_ n1_ n2_ n3_ n4_ n5_ n6_ n7_ n8_ n9_ n10_
                  have hHeld : w100.cell? ⟨gb201, 0, none⟩ = some (.int .i64 x202000_1) ∧ w100.cell? ⟨gb201, 1, none⟩ = some (.int .i64 x202001_1) ∧ w100.cell? ⟨gb201, 2, none⟩ = some (.int .i64 x202002_1) ∧ w100.cell? ⟨gb201, 3, none⟩ = some (.slice Ao95 x202003_1.length co95) := hS_
                  obtain ⟨Ao104, co104, eo104⟩ := Kd.R_slice HO237.out
                  (first | subst eo104 | (injection eo104 with f1_ f2_ f3_; have f4_ := f1_.symm; have f5_ := f3_.symm; clear f1_ f2_ f3_; subst f4_; subst f5_))
                  refine norm_ (a' := ?_) ?_ ?_
                  rotate_left
                  · simp only [putAll, Act.put, List.setIfInBounds_toArray, List.set_cons_zero, List.set_cons_succ]
                    rfl
                  refine one_ (i := 11) (N := none) #[true, true, true, true, true, true, true, true, true, true, true, true, false] rfl rfl (one_of HT_.out (by kernel_rfl)) (by decide) (fun K hK => ?_)
                  have hs101 : w100.cell? ⟨gb241, 0, none⟩ = some (.int .i64 0) := (blk_cell BK241.out 0).trans rfl
                  have hfs101 := blk_frozen BK241.out 0
                  have hns101_0 := NB201_241.out
                  have hms101_0 := NB241_201.out
                  have hs102 : w100.cell? ⟨gb241, 1, none⟩ = some (.int .i64 0) := (blk_cell BK241.out 1).trans rfl
                  have hfs102 := blk_frozen BK241.out 1
                  have hns102_0 := NB201_241.out
                  have hms102_0 := NB241_201.out
                  have hs103 : w100.cell? ⟨gb241, 2, none⟩ = some (.int .i64 0) := (blk_cell BK241.out 2).trans rfl
                  have hfs103 := blk_frozen BK241.out 2
                  have hns103_0 := NB201_241.out
                  have hms103_0 := NB241_201.out
                  have hs105 : w100.cell? ⟨gb241, 3, none⟩ = some (.slice none 0 0) := (blk_cell BK241.out 3).trans rfl
                  have hfs105 := blk_frozen BK241.out 3
                  have hns105_0 := NB201_241.out
                  have hms105_0 := NB241_201.out
                  refine skip_ (w1 := ?_) (by rfl) rfl ?_ ?_
                  rotate_left
                  · go_simp
                    rfl
                  refine hK.out _ _ ⟨((cell_far (p := ⟨gb241, _, none⟩) NB201_241.out _).trans (((cell_far (p := ⟨gb241, _, none⟩) NB201_241.out _).trans (((cell_far (p := ⟨gb241, _, none⟩) NB201_241.out _).trans (((cell_far (p := ⟨gb241, _, none⟩) NB201_241.out _).trans (hHeld.1)))))))), ((cell_far (p := ⟨gb241, _, none⟩) NB201_241.out _).trans (((cell_far (p := ⟨gb241, _, none⟩) NB201_241.out _).trans (((cell_far (p := ⟨gb241, _, none⟩) NB201_241.out _).trans (((cell_far (p := ⟨gb241, _, none⟩) NB201_241.out _).trans (hHeld.2.1)))))))), ((cell_far (p := ⟨gb241, _, none⟩) NB201_241.out _).trans (((cell_far (p := ⟨gb241, _, none⟩) NB201_241.out _).trans (((cell_far (p := ⟨gb241, _, none⟩) NB201_241.out _).trans (((cell_far (p := ⟨gb241, _, none⟩) NB201_241.out _).trans (hHeld.2.2.1)))))))), ((cell_far (p := ⟨gb241, _, none⟩) NB201_241.out _).trans (((cell_far (p := ⟨gb241, _, none⟩) NB201_241.out _).trans (((cell_far (p := ⟨gb241, _, none⟩) NB201_241.out _).trans (((cell_far (p := ⟨gb241, _, none⟩) NB201_241.out _).trans (hHeld.2.2.2))))))))⟩ (fun hHeld => ?_)
                  clear hK K
                  refine pure_ (i := 12) (N := some 13) (v := ?_) (a' := ?_) #[true, true, true, true, true, true, true, true, true, true, true, true, true] rfl rfl (any_of HT_.out (by kernel_rfl)) (fun _ _ _ h => h) (Or.inl ⟨by rfl, ?_⟩) ?_ ?_
                  rotate_left
                  · intro w'
                    go_simp
                    with_reducible rfl
                  rotate_left
                  · simp only [Act.put, List.setIfInBounds_toArray, List.set_cons_zero, List.set_cons_succ, i64_w, i32_w]
                    rfl
                  refine done_ (done_of HT_.out (by kernel_rfl)) ?_
                  try go_wp2
                  go_loopg [14, 15] k1 (fun kq v14 v15 w' => ∃ (x14_2 : Int) (x15_2 : Int), v14 = .int .i64 x14_2 ∧ v15 = .int .i64 x15_2 ∧ Aside0 (customslaw23_GuaranteeNever.l51 kq t202 x11_1 t238 x14_2 x15_2 x202000_1 x202001_1 x202002_1 x202003_1 t232 t233 t234 t235 = some true) ∧ Aside0 (kq ≤ k1) ∧ Aside0 (Kd.R k74 74 w' w.heap.size (fun _ => True) (.slice Ao89 t202.length co89) t202) ∧ Aside0 (Kd.R (Kd.int .i64) 27 w' w.heap.size (fun _ => True) v239 t238) ∧ Aside0 (Kd.R k39 39 w' w.heap.size (fun k_ => some k_ ≠ ((.slice Ao104 t235.length co104) : Value).ownBlock) (.slice Ao95 x202003_1.length co95) x202003_1) ∧ Aside0 (Kd.R k39 39 w' w.heap.size (fun k_ => some k_ ≠ ((.slice Ao95 x202003_1.length co95) : Value).ownBlock) (.slice Ao104 t235.length co104) t235) ∧ Aside0 (w'.heap[gb201]? = some (.cells #[.int .i64 x202000_1, .int .i64 x202001_1, .int .i64 x202002_1, (.slice Ao95 x202003_1.length co95)] 25 (0, 0))) ∧ Aside0 (w'.heap[gb241]? = some (.cells #[.int .i64 t232, .int .i64 t233, .int .i64 t234, (.slice Ao104 t235.length co104)] 25 (0, 0))) ∧ Aside0 (Below w.heap.size w w'))
                  case atStart => exact ⟨(0), (0), (by first | rfl | (simp; done) | (simp [*]; done)), (by first | rfl | (simp; done) | (simp [*]; done)), H', ⟨Nat.le_refl _⟩, ⟨by (with_reducible repeat (first | apply Kd.R_alloc | apply Kd.R_drewN | apply Kd.R_drew)); exact Kd.R_mono (Kd.R_far (p := ⟨gb241, 3, none⟩) (Kd.R_far (p := ⟨gb241, 2, none⟩) (Kd.R_far (p := ⟨gb241, 1, none⟩) (Kd.R_far (p := ⟨gb241, 0, none⟩) (Kd.R_types HO_10.out BK241.out (by decide)) (fun _ hk => hk.2) (.int .i64 t232)) (fun _ hk => hk.2) (.int .i64 t233)) (fun _ hk => hk.2) (.int .i64 t234)) (fun _ hk => hk.2) (.slice Ao104 t235.length co104)) (fun _ hk => trivial)⟩, ⟨by (with_reducible repeat (first | apply Kd.R_alloc | apply Kd.R_drewN | apply Kd.R_drew)); exact Kd.R_mono (Kd.R_far (p := ⟨gb241, 3, none⟩) (Kd.R_far (p := ⟨gb241, 2, none⟩) (Kd.R_far (p := ⟨gb241, 1, none⟩) (Kd.R_far (p := ⟨gb241, 0, none⟩) (Kd.R_types HO240.out BK241.out (by decide)) (fun _ hk => hk.2) (.int .i64 t232)) (fun _ hk => hk.2) (.int .i64 t233)) (fun _ hk => hk.2) (.int .i64 t234)) (fun _ hk => hk.2) (.slice Ao104 t235.length co104)) (fun _ hk => trivial)⟩, ⟨by (with_reducible repeat (first | apply Kd.R_alloc | apply Kd.R_drewN | apply Kd.R_drew)); exact Kd.R_mono (Kd.R_far (p := ⟨gb241, 3, none⟩) (Kd.R_far (p := ⟨gb241, 2, none⟩) (Kd.R_far (p := ⟨gb241, 1, none⟩) (Kd.R_far (p := ⟨gb241, 0, none⟩) (Kd.R_types HO_202003.out BK241.out (by decide)) (fun _ hk => hk.2) (.int .i64 t232)) (fun _ hk => hk.2) (.int .i64 t233)) (fun _ hk => hk.2) (.int .i64 t234)) (fun _ hk => hk.2) (.slice Ao104 t235.length co104)) (fun _ hk => hk.1)⟩, ⟨by (with_reducible repeat (first | apply Kd.R_alloc | apply Kd.R_drewN | apply Kd.R_drew)); exact Kd.R_mono (Kd.R_far (p := ⟨gb241, 3, none⟩) (Kd.R_far (p := ⟨gb241, 2, none⟩) (Kd.R_far (p := ⟨gb241, 1, none⟩) (Kd.R_far (p := ⟨gb241, 0, none⟩) (Kd.R_types HO237.out BK241.out (by decide)) (fun _ hk => hk.2) (.int .i64 t232)) (fun _ hk => hk.2) (.int .i64 t233)) (fun _ hk => hk.2) (.int .i64 t234)) (fun _ hk => hk.2) (.slice Ao104 t235.length co104)) (fun _ hk => hk.1)⟩, ⟨by (with_reducible repeat (first | refine blk_drewN ?_ _ | refine blk_drew ?_ | refine blk_alloc ?_ _)); refine blk_far ?_ NB201_241.out _; (with_reducible repeat (first | refine blk_drewN ?_ _ | refine blk_drew ?_ | refine blk_alloc ?_ _)); refine blk_far ?_ NB201_241.out _; (with_reducible repeat (first | refine blk_drewN ?_ _ | refine blk_drew ?_ | refine blk_alloc ?_ _)); refine blk_far ?_ NB201_241.out _; (with_reducible repeat (first | refine blk_drewN ?_ _ | refine blk_drew ?_ | refine blk_alloc ?_ _)); refine blk_far ?_ NB201_241.out _; (with_reducible repeat (first | refine blk_drewN ?_ _ | refine blk_drew ?_ | refine blk_alloc ?_ _)); exact BK201.out⟩, ⟨by (with_reducible repeat (first | refine blk_drewN ?_ _ | refine blk_drew ?_ | refine blk_alloc ?_ _)); refine blk_put (cs := #[.int .i64 t232, .int .i64 t233, .int .i64 t234, .slice none 0 0]) ?_ 3 _ rfl; (with_reducible repeat (first | refine blk_drewN ?_ _ | refine blk_drew ?_ | refine blk_alloc ?_ _)); refine blk_put (cs := #[.int .i64 t232, .int .i64 t233, .int .i64 0, .slice none 0 0]) ?_ 2 _ rfl; (with_reducible repeat (first | refine blk_drewN ?_ _ | refine blk_drew ?_ | refine blk_alloc ?_ _)); refine blk_put (cs := #[.int .i64 t232, .int .i64 0, .int .i64 0, .slice none 0 0]) ?_ 1 _ rfl; (with_reducible repeat (first | refine blk_drewN ?_ _ | refine blk_drew ?_ | refine blk_alloc ?_ _)); refine blk_put (cs := #[.int .i64 0, .int .i64 0, .int .i64 0, .slice none 0 0]) ?_ 0 _ rfl; (with_reducible repeat (first | refine blk_drewN ?_ _ | refine blk_drew ?_ | refine blk_alloc ?_ _)); exact BK241.out⟩, ⟨by repeat (first | (with_reducible first | exact HB.out | apply below_alloc | apply pw_below_drewN | apply below_drew1 | refine below_set ?_ GE201.out | refine below_set ?_ GE241.out) | exact HB.out)⟩⟩
                  case round =>
                    clear H'
                    try clear c1
                    try clear c2
                    try clear p2
                    try clear q2
                    try clear hx2
                    try clear qi2
                    try clear c3
                    try clear c4
                    try clear c5
                    try clear c6
                    try clear p6
                    try clear c7
                    try clear c9
                    try clear q9
                    try clear c18
                    try clear c18b0
                    try clear c19
                    try clear c19b0
                    try clear c19b1
                    try clear c20
                    try clear c20b0
                    try clear c20b1
                    try clear c21
                    try clear c21b0
                    try clear c21b1
                    try clear p22
                    try clear q22
                    try clear hx22
                    try clear qi22
                    try clear c25
                    try clear q25
                    try clear c26
                    try clear c27
                    try clear c34
                    try clear c34b0
                    try clear c35
                    try clear c35b0
                    try clear c36
                    try clear c36b0
                    try clear c37
                    try clear c40
                    try clear c42
                    try clear c42b0
                    try clear c42b1
                    try clear c43
                    try clear c43b0
                    try clear c45
                    try clear c48
                    try clear c48b0
                    try clear c48b1
                    try clear c49
                    try clear c49b0
                    try clear c49b1
                    try clear c50
                    try clear c50b0
                    try clear c50b1
                    try clear c52
                    try clear c57
                    try clear c64
                    try clear p64
                    try clear c68
                    try clear c69
                    try clear c75
                    try clear c75b0
                    try clear c75b1
                    try clear c90
                    try clear c90b0
                    try clear c91
                    try clear c91b0
                    try clear c91b1
                    try clear c92
                    try clear c92b0
                    try clear c92b1
                    try clear c93
                    try clear c93b0
                    try clear c93b1
                    try clear c97
                    try clear q97
                    try clear hcz11_0
                    try clear hcz11_1
                    try clear hcz11_2
                    try clear hcz11_3
                    try clear hcz16_0
                    try clear hcz16_1
                    try clear hcz16_2
                    try clear hcz16_3
                    try clear hcz38_0
                    try clear hcz38_1
                    try clear hcz38_2
                    try clear hcz38_3
                    try clear hcz41_0
                    try clear hcz41_1
                    try clear hcz41_2
                    try clear hcz41_3
                    try clear hcz46_0
                    try clear hcz46_1
                    try clear hcz46_2
                    try clear hcz46_3
                    try clear hcz53_0
                    try clear hcz53_1
                    try clear hcz53_2
                    try clear hcz53_3
                    try clear hcz58_0
                    try clear hcz58_1
                    try clear hcz58_2
                    try clear hcz58_3
                    try clear hcz60_0
                    try clear hcz60_1
                    try clear hcz60_2
                    try clear hcz60_3
                    try clear hcz61_0
                    try clear hcz61_1
                    try clear hcz61_2
                    try clear hcz61_3
                    try clear hcz65_0
                    try clear hcz65_1
                    try clear hcz65_2
                    try clear hcz65_3
                    try clear hcz70_0
                    try clear hcz70_1
                    try clear hcz70_2
                    try clear hcz70_3
                    try clear hcz71_0
                    try clear hcz71_1
                    try clear hcz71_2
                    try clear hcz71_3
                    try clear hcz79_0
                    try clear hcz79_1
                    try clear hcz79_2
                    try clear hcz79_3
                    try clear hcz86_0
                    try clear hcz86_1
                    try clear hcz86_2
                    try clear hcz86_3
                    try clear hfz11_0
                    try clear hfz11_1
                    try clear hfz11_2
                    try clear hfz11_3
                    try clear hfz16_0
                    try clear hfz16_1
                    try clear hfz16_2
                    try clear hfz16_3
                    try clear hfz38_0
                    try clear hfz38_1
                    try clear hfz38_2
                    try clear hfz38_3
                    try clear hfz41_0
                    try clear hfz41_1
                    try clear hfz41_2
                    try clear hfz41_3
                    try clear hfz46_0
                    try clear hfz46_1
                    try clear hfz46_2
                    try clear hfz46_3
                    try clear hfz53_0
                    try clear hfz53_1
                    try clear hfz53_2
                    try clear hfz53_3
                    try clear hfz58_0
                    try clear hfz58_1
                    try clear hfz58_2
                    try clear hfz58_3
                    try clear hfz60_0
                    try clear hfz60_1
                    try clear hfz60_2
                    try clear hfz60_3
                    try clear hfz61_0
                    try clear hfz61_1
                    try clear hfz61_2
                    try clear hfz61_3
                    try clear hfz65_0
                    try clear hfz65_1
                    try clear hfz65_2
                    try clear hfz65_3
                    try clear hfz70_0
                    try clear hfz70_1
                    try clear hfz70_2
                    try clear hfz70_3
                    try clear hfz71_0
                    try clear hfz71_1
                    try clear hfz71_2
                    try clear hfz71_3
                    try clear hfz79_0
                    try clear hfz79_1
                    try clear hfz79_2
                    try clear hfz79_3
                    try clear hfz86_0
                    try clear hfz86_1
                    try clear hfz86_2
                    try clear hfz86_3
                    try clear hx221_0
                    try clear hx221_1
                    try clear hx222_0
                    try clear hx222_1
                    try clear hx224_0
                    try clear p2
                    try clear p22
                    try clear p221
                    try clear p222
                    try clear p224
                    try clear p6
                    try clear p64
                    try clear q025
                    try clear q097
                    try clear q2
                    try clear q22
                    try clear q221
                    try clear q222
                    try clear q224
                    try clear q25
                    try clear q97
                    obtain ⟨x14_2, x15_2, rfl, rfl, HA, HK2, HO_10, HO_13, HO_202003, HO_242003, BK201, BK241, HB⟩ := hrel
                    cases gk with
                    | zero => exact absurd HA.out (by simp [customslaw23_GuaranteeNever.l51])
                    | succ k2 =>
                      have H := HA.out
                      clear HA
                      simp only [customslaw23_GuaranteeNever.l51] at H
                      by_cases c106 : x15_2 < (t235.length : Int)
                      · rw [if_pos c106] at H
                        have c106b0 : decide (x15_2 < (t235.length : Int)) = true := decide_eq_true c106
                        clear c106
                        by_cases c107 : 0 ≤ x15_2
                        · rw [if_pos c107] at H
                          have c107b0 : decide (0 ≤ x15_2) = true := decide_eq_true c107
                          clear c107
                          by_cases c108 : ((rd_T39 t235 x15_2).f1) < 0
                          · rw [if_pos c108] at H
                            have c108b0 : decide (((rd_T39 t235 x15_2).f1) < 0) = true := decide_eq_true c108
                            clear c108
                            cases H
                          · rw [if_neg c108] at H
                            have c108b0 : decide (((rd_T39 t235 x15_2).f1) < 0) = false := decide_eq_false c108
                            clear c108
                            have H' := Aside0.mk H
                            clear H
                            have hnb109 := NB241_201.out
                            have hnc109 := NB201_241.out
                            have hcz110_0 : wr.cell? ⟨gb241, 0, none⟩ = some (.int .i64 t232) := (blk_cell BK241.out 0).trans rfl
                            have hcz110_1 : wr.cell? ⟨gb241, 1, none⟩ = some (.int .i64 t233) := (blk_cell BK241.out 1).trans rfl
                            have hcz110_2 : wr.cell? ⟨gb241, 2, none⟩ = some (.int .i64 t234) := (blk_cell BK241.out 2).trans rfl
                            have hcz110_3 : wr.cell? ⟨gb241, 3, none⟩ = some (.slice Ao104 t235.length co104) := (blk_cell BK241.out 3).trans rfl
                            have hfz110_0 := blk_frozen BK241.out 0
                            have hfz110_1 := blk_frozen BK241.out 1
                            have hfz110_2 := blk_frozen BK241.out 2
                            have hfz110_3 := blk_frozen BK241.out 3
                            have p242 : 0 ≤ (x15_2 : Int) := of_decide_eq_true (by first | (with_reducible assumption) | assumption)
                            have q242 : x15_2 < (t235.length : Int) := of_decide_eq_true (by first | (with_reducible assumption) | assumption)
                            obtain ⟨ad242, e242, hx242_0, hx242_1⟩ := at_T39 (Kd.R_reads' HO_242003.out).2.2 x15_2 p242 q242
                            cases e242
                            replace p242 := eq_true p242
                            replace q242 := eq_true q242
                            have p243 : 0 ≤ (x15_2 : Int) := of_decide_eq_true (by first | (with_reducible assumption) | assumption)
                            have q243 : x15_2 < (t235.length : Int) := of_decide_eq_true (by first | (with_reducible assumption) | assumption)
                            obtain ⟨ad243, e243, hx243_0, hx243_1⟩ := at_T39 (Kd.R_reads' HO_242003.out).2.2 x15_2 p243 q243
                            obtain rfl : ad242 = ad243 := (by injection e243)
                            replace p243 := eq_true p243
                            replace q243 := eq_true q243
                            go_wp2
                            go_roundg k2
                            case measure => have := HK1.out; have := HK2.out; omega
                            case rel => exact ⟨(wrap64 (x14_2 + ((rd_T39 t235 x15_2).f1))), (wrap64 (x15_2 + 1)), (by first | rfl | (simp; done) | (simp [*]; done)), (by first | rfl | (simp; done) | (simp [*]; done)), H', ⟨by have := HK1.out; have := HK2.out; omega⟩, ⟨by (with_reducible repeat (first | apply Kd.R_alloc | apply Kd.R_drewN | apply Kd.R_drew)); exact HO_10.out⟩, ⟨by (with_reducible repeat (first | apply Kd.R_alloc | apply Kd.R_drewN | apply Kd.R_drew)); exact HO_13.out⟩, ⟨by (with_reducible repeat (first | apply Kd.R_alloc | apply Kd.R_drewN | apply Kd.R_drew)); exact HO_202003.out⟩, ⟨by (with_reducible repeat (first | apply Kd.R_alloc | apply Kd.R_drewN | apply Kd.R_drew)); exact HO_242003.out⟩, ⟨by (with_reducible repeat (first | refine blk_drewN ?_ _ | refine blk_drew ?_ | refine blk_alloc ?_ _)); exact BK201.out⟩, ⟨by (with_reducible repeat (first | refine blk_drewN ?_ _ | refine blk_drew ?_ | refine blk_alloc ?_ _)); exact BK241.out⟩, ⟨by repeat (first | (with_reducible first | exact HB.out | apply below_alloc | apply pw_below_drewN | apply below_drew1 | refine below_set ?_ GE201.out | refine below_set ?_ GE241.out) | exact HB.out)⟩⟩
                        · rw [if_neg c107] at H
                          exact absurd H (by simp)
                      · rw [if_neg c106] at H
                        have c106b0 : decide (x15_2 < (t235.length : Int)) = false := decide_eq_false c106
                        clear c106
                        have HC111 := Aside0.mk H
                        clear H
                        have hnb112 := NB241_201.out
                        have hnc112 := NB201_241.out
                        have hcz113_0 : wr.cell? ⟨gb241, 0, none⟩ = some (.int .i64 t232) := (blk_cell BK241.out 0).trans rfl
                        have hcz113_1 : wr.cell? ⟨gb241, 1, none⟩ = some (.int .i64 t233) := (blk_cell BK241.out 1).trans rfl
                        have hcz113_2 : wr.cell? ⟨gb241, 2, none⟩ = some (.int .i64 t234) := (blk_cell BK241.out 2).trans rfl
                        have hcz113_3 : wr.cell? ⟨gb241, 3, none⟩ = some (.slice Ao104 t235.length co104) := (blk_cell BK241.out 3).trans rfl
                        have hfz113_0 := blk_frozen BK241.out 0
                        have hfz113_1 := blk_frozen BK241.out 1
                        have hfz113_2 := blk_frozen BK241.out 2
                        have hfz113_3 := blk_frozen BK241.out 3
                        go_upto_region 17 with (fail)
                        go_cut [91] (fun v91 wc => ∃ (kq : Nat) (x91_110 : Bool), v91 = .bool x91_110 ∧ Aside0 (customslaw23_GuaranteeNever.j5 kq t202 x11_1 x91_110 t232 t233 t234 t235 = some true) ∧ Aside0 (kq ≤ k2) ∧ Aside0 (Kd.R k74 74 wc w.heap.size (fun _ => True) (.slice Ao89 t202.length co89) t202) ∧ Aside0 (Kd.R k39 39 wc w.heap.size (fun k_ => some k_ ≠ ((.slice Ao104 t235.length co104) : Value).ownBlock) (.slice Ao95 x202003_1.length co95) x202003_1) ∧ Aside0 (Kd.R k39 39 wc w.heap.size (fun k_ => some k_ ≠ ((.slice Ao95 x202003_1.length co95) : Value).ownBlock) (.slice Ao104 t235.length co104) t235) ∧ Aside0 (wc.heap[gb201]? = some (.cells #[.int .i64 x202000_1, .int .i64 x202001_1, .int .i64 x202002_1, (.slice Ao95 x202003_1.length co95)] 25 (0, 0))) ∧ Aside0 (wc.heap[gb241]? = some (.cells #[.int .i64 t232, .int .i64 t233, .int .i64 t234, (.slice Ao104 t235.length co104)] 25 (0, 0))) ∧ Aside0 (Below w.heap.size w wc))
                        case first =>
                          have H := HC111.out
                          clear HC111
                          by_cases c114 : (t238.length : Int) = 1
                          · rw [if_pos c114] at H
                            have c114b0 : ((t238.length : Int) == 1) = true := beq_iff_eq.mpr c114
                            have c114b1 : ((t238.length : Int) != 1) = false := bne_eq_false_iff_eq.mpr c114
                            clear c114
                            (first | rw [c114b0] | (simp only [i64_w, i32_w]; rw [c114b0]) | skip)
                            by_cases c115 : x14_2 > t233
                            · rw [if_pos c115] at H
                              have c115b0 : decide (t233 < x14_2) = true := decide_eq_true c115
                              clear c115
                              have H' := Aside0.mk H
                              clear H
                              obtain ⟨Ao116, co116, eo116⟩ := Kd.R_slice HO_13.out
                              subst eo116
                              have hnb117 := NB241_201.out
                              have hnc117 := NB201_241.out
                              have hcz118_0 : wr.cell? ⟨gb241, 0, none⟩ = some (.int .i64 t232) := (blk_cell BK241.out 0).trans rfl
                              have hcz118_1 : wr.cell? ⟨gb241, 1, none⟩ = some (.int .i64 t233) := (blk_cell BK241.out 1).trans rfl
                              have hcz118_2 : wr.cell? ⟨gb241, 2, none⟩ = some (.int .i64 t234) := (blk_cell BK241.out 2).trans rfl
                              have hcz118_3 : wr.cell? ⟨gb241, 3, none⟩ = some (.slice Ao104 t235.length co104) := (blk_cell BK241.out 3).trans rfl
                              have hfz118_0 := blk_frozen BK241.out 0
                              have hfz118_1 := blk_frozen BK241.out 1
                              have hfz118_2 := blk_frozen BK241.out 2
                              have hfz118_3 := blk_frozen BK241.out 3
                              go_wp2
                              go_meet
                              case rel => exact ⟨_, (true), (by first | rfl | (simp; done) | (simp [*]; done)), H', ⟨by have := HK1.out; have := HK2.out; first | omega | exact Nat.le_refl _⟩, ⟨by (with_reducible repeat (first | apply Kd.R_alloc | apply Kd.R_drewN | apply Kd.R_drew)); exact HO_10.out⟩, ⟨by (with_reducible repeat (first | apply Kd.R_alloc | apply Kd.R_drewN | apply Kd.R_drew)); exact HO_202003.out⟩, ⟨by (with_reducible repeat (first | apply Kd.R_alloc | apply Kd.R_drewN | apply Kd.R_drew)); exact HO_242003.out⟩, ⟨by (with_reducible repeat (first | refine blk_drewN ?_ _ | refine blk_drew ?_ | refine blk_alloc ?_ _)); exact BK201.out⟩, ⟨by (with_reducible repeat (first | refine blk_drewN ?_ _ | refine blk_drew ?_ | refine blk_alloc ?_ _)); exact BK241.out⟩, ⟨by repeat (first | (with_reducible first | exact HB.out | apply below_alloc | apply pw_below_drewN | apply below_drew1 | refine below_set ?_ GE201.out | refine below_set ?_ GE241.out) | exact HB.out)⟩⟩
                            · rw [if_neg c115] at H
                              have c115b0 : decide (t233 < x14_2) = false := decide_eq_false c115
                              clear c115
                              replace H := Option.bind_eq_some_iff.mp H
                              obtain ⟨t244, A1190, H⟩ := H
                              replace H : (if t244 = x14_2 then (if 0 < (t238.length : Int) then (if (rd t238 0) = 0 then (customslaw23_GuaranteeNever.j5 k2 t202 x11_1 false t232 t233 t234 t235) else ((customsref21_SameGuarantee.f k2 x202000_1 x202001_1 x202002_1 x202003_1 t232 t233 t234 t235).bind fun t246 => (customslaw23_GuaranteeNever.j5 k2 t202 x11_1 (!t246) t232 t233 t234 t235))) else (none)) else (customslaw23_GuaranteeNever.j5 k2 t202 x11_1 true t232 t233 t234 t235)) = some true := H
                              have A119 := Aside0.mk A1190
                              clear A1190
                              by_cases c120 : t244 = x14_2
                              · rw [if_pos c120] at H
                                have c120b0 : (t244 == x14_2) = true := beq_iff_eq.mpr c120
                                have c120b1 : (t244 != x14_2) = false := bne_eq_false_iff_eq.mpr c120
                                clear c120
                                by_cases c121 : 0 < (t238.length : Int)
                                · rw [if_pos c121] at H
                                  have c121b0 : decide (0 < (t238.length : Int)) = true := decide_eq_true c121
                                  have c121b1 : decide (0 < t238.length) = true := decide_eq_true (by omega)
                                  clear c121
                                  by_cases c122 : (rd t238 0) = 0
                                  · rw [if_pos c122] at H
                                    have c122b0 : ((rd t238 0) == 0) = true := beq_iff_eq.mpr c122
                                    have c122b1 : ((rd t238 0) != 0) = false := bne_eq_false_iff_eq.mpr c122
                                    clear c122
                                    have H' := Aside0.mk H
                                    clear H
                                    obtain ⟨Ao123, co123, eo123⟩ := Kd.R_slice HO_13.out
                                    subst eo123
                                    have hnb124 := NB241_201.out
                                    have hnc124 := NB201_241.out
                                    have hcz125_0 : wr.cell? ⟨gb241, 0, none⟩ = some (.int .i64 t232) := (blk_cell BK241.out 0).trans rfl
                                    have hcz125_1 : wr.cell? ⟨gb241, 1, none⟩ = some (.int .i64 t233) := (blk_cell BK241.out 1).trans rfl
                                    have hcz125_2 : wr.cell? ⟨gb241, 2, none⟩ = some (.int .i64 t234) := (blk_cell BK241.out 2).trans rfl
                                    have hcz125_3 : wr.cell? ⟨gb241, 3, none⟩ = some (.slice Ao104 t235.length co104) := (blk_cell BK241.out 3).trans rfl
                                    have hfz125_0 := blk_frozen BK241.out 0
                                    have hfz125_1 := blk_frozen BK241.out 1
                                    have hfz125_2 := blk_frozen BK241.out 2
                                    have hfz125_3 := blk_frozen BK241.out 3
                                    go_wp2_with (first | (go_at_call 13; (with_reducible refine (guarantee_Total.calls k2 t232 t233 t234 _ _ t235 t244 _ ?side1 ?side2 A119.out).mono ?_); (case side1 => repeat (first | exact (Kd.R_reads' HO_242003.out).2.2 | (with_reducible refine Kd.C_alloc ?_ _) | (with_reducible refine Kd.C_drewN ?_ _) | (with_reducible refine Kd.C_drew ?_))); (case side2 => exact (Kd.R_reads' HO_242003.out).2.1); rintro e w126 ⟨rfl, hb⟩; have n0_ := Aside0.mk (Kd.R_below (by (with_reducible repeat (first | apply Kd.R_alloc | apply Kd.R_drewN | apply Kd.R_drew)); exact HO_10.out) hb); have n1_ := Aside0.mk (Kd.R_below (by (with_reducible repeat (first | apply Kd.R_alloc | apply Kd.R_drewN | apply Kd.R_drew)); exact HO_13.out) hb); have n2_ := Aside0.mk (Kd.R_below (by (with_reducible repeat (first | apply Kd.R_alloc | apply Kd.R_drewN | apply Kd.R_drew)); exact HO_202003.out) hb); have n3_ := Aside0.mk (Kd.R_below (by (with_reducible repeat (first | apply Kd.R_alloc | apply Kd.R_drewN | apply Kd.R_drew)); exact HO_242003.out) hb); have n4_ := Aside0.mk (blk_below (g := gb201) (o := .cells #[.int .i64 x202000_1, .int .i64 x202001_1, .int .i64 x202002_1, .slice Ao95 x202003_1.length co95] 25 (0, 0)) (by (with_reducible repeat (first | refine blk_drewN ?_ _ | refine blk_drew ?_ | refine blk_alloc ?_ _)); exact BK201.out) hb); have n5_ := Aside0.mk (blk_below (g := gb241) (o := .cells #[.int .i64 t232, .int .i64 t233, .int .i64 t234, .slice Ao104 t235.length co104] 25 (0, 0)) (by (with_reducible repeat (first | refine blk_drewN ?_ _ | refine blk_drew ?_ | refine blk_alloc ?_ _)); exact BK241.out) hb); have n6_ := Aside0.mk (below_step (by repeat (first | (with_reducible first | exact HB.out | apply below_alloc | apply pw_below_drewN | apply below_drew1 | refine below_set ?_ GE201.out | refine below_set ?_ GE241.out) | exact HB.out)) hb); clear HO_10; clear HO_13; clear HO_202003; clear HO_242003; clear BK201; clear BK241; clear HB; have HO_10 := n0_; have HO_13 := n1_; have HO_202003 := n2_; have HO_242003 := n3_; have BK201 := n4_; have BK241 := n5_; have HB := n6_; clear n0_ n1_ n2_ n3_ n4_ n5_ n6_; (try clear hb); (try clear hb2); (try clear hk); (try clear hi); have p245 : 0 ≤ (0 : Int) := (by omega); have q245 : 0 < (t238.length : Int) := of_decide_eq_true (by first | (with_reducible assumption) | assumption); obtain ⟨ad245, e245, hx245_0⟩ := Kd.at_int (Kd.R_reads' HO_13.out).2.2 0 p245 q245; cases e245; have qi245 : (0 < t238.length) = True := eq_true (by omega); (try rw [show ((0 : Int)).toNat = 0 from rfl] at hx245_0); (try rw [Addr.add_zero'] at hx245_0); replace p245 := eq_true p245; replace q245 := eq_true q245))
                                    go_meet
                                    case rel => exact ⟨_, (false), (by first | rfl | (simp; done) | (simp [*]; done)), H', ⟨by have := HK1.out; have := HK2.out; first | omega | exact Nat.le_refl _⟩, ⟨by (with_reducible repeat (first | apply Kd.R_alloc | apply Kd.R_drewN | apply Kd.R_drew)); exact HO_10.out⟩, ⟨by (with_reducible repeat (first | apply Kd.R_alloc | apply Kd.R_drewN | apply Kd.R_drew)); exact HO_202003.out⟩, ⟨by (with_reducible repeat (first | apply Kd.R_alloc | apply Kd.R_drewN | apply Kd.R_drew)); exact HO_242003.out⟩, ⟨by (with_reducible repeat (first | refine blk_drewN ?_ _ | refine blk_drew ?_ | refine blk_alloc ?_ _)); exact BK201.out⟩, ⟨by (with_reducible repeat (first | refine blk_drewN ?_ _ | refine blk_drew ?_ | refine blk_alloc ?_ _)); exact BK241.out⟩, ⟨by repeat (first | (with_reducible first | exact HB.out | apply below_alloc | apply pw_below_drewN | apply below_drew1 | refine below_set ?_ GE201.out | refine below_set ?_ GE241.out) | exact HB.out)⟩⟩
                                  · rw [if_neg c122] at H
                                    have c122b0 : ((rd t238 0) == 0) = false := beq_eq_false_iff_ne.mpr c122
                                    have c122b1 : ((rd t238 0) != 0) = true := bne_iff_ne.mpr c122
                                    replace H := Option.bind_eq_some_iff.mp H
                                    obtain ⟨t246, A1270, H⟩ := H
                                    replace H : (customslaw23_GuaranteeNever.j5 k2 t202 x11_1 (!t246) t232 t233 t234 t235) = some true := H
                                    have A127 := Aside0.mk A1270
                                    clear A1270
                                    have H' := Aside0.mk H
                                    clear H
                                    obtain ⟨Ao128, co128, eo128⟩ := Kd.R_slice HO_13.out
                                    subst eo128
                                    have hnb129 := NB241_201.out
                                    have hnc129 := NB201_241.out
                                    have hcz130_0 : wr.cell? ⟨gb241, 0, none⟩ = some (.int .i64 t232) := (blk_cell BK241.out 0).trans rfl
                                    have hcz130_1 : wr.cell? ⟨gb241, 1, none⟩ = some (.int .i64 t233) := (blk_cell BK241.out 1).trans rfl
                                    have hcz130_2 : wr.cell? ⟨gb241, 2, none⟩ = some (.int .i64 t234) := (blk_cell BK241.out 2).trans rfl
                                    have hcz130_3 : wr.cell? ⟨gb241, 3, none⟩ = some (.slice Ao104 t235.length co104) := (blk_cell BK241.out 3).trans rfl
                                    have hfz130_0 := blk_frozen BK241.out 0
                                    have hfz130_1 := blk_frozen BK241.out 1
                                    have hfz130_2 := blk_frozen BK241.out 2
                                    have hfz130_3 := blk_frozen BK241.out 3
                                    go_wp2_with (first | (go_at_call 13; (with_reducible refine (guarantee_Total.calls k2 t232 t233 t234 _ _ t235 t244 _ ?side1 ?side2 A119.out).mono ?_); (case side1 => repeat (first | exact (Kd.R_reads' HO_242003.out).2.2 | (with_reducible refine Kd.C_alloc ?_ _) | (with_reducible refine Kd.C_drewN ?_ _) | (with_reducible refine Kd.C_drew ?_))); (case side2 => exact (Kd.R_reads' HO_242003.out).2.1); rintro e w131 ⟨rfl, hb⟩; have n0_ := Aside0.mk (Kd.R_below (by (with_reducible repeat (first | apply Kd.R_alloc | apply Kd.R_drewN | apply Kd.R_drew)); exact HO_10.out) hb); have n1_ := Aside0.mk (Kd.R_below (by (with_reducible repeat (first | apply Kd.R_alloc | apply Kd.R_drewN | apply Kd.R_drew)); exact HO_13.out) hb); have n2_ := Aside0.mk (Kd.R_below (by (with_reducible repeat (first | apply Kd.R_alloc | apply Kd.R_drewN | apply Kd.R_drew)); exact HO_202003.out) hb); have n3_ := Aside0.mk (Kd.R_below (by (with_reducible repeat (first | apply Kd.R_alloc | apply Kd.R_drewN | apply Kd.R_drew)); exact HO_242003.out) hb); have n4_ := Aside0.mk (blk_below (g := gb201) (o := .cells #[.int .i64 x202000_1, .int .i64 x202001_1, .int .i64 x202002_1, .slice Ao95 x202003_1.length co95] 25 (0, 0)) (by (with_reducible repeat (first | refine blk_drewN ?_ _ | refine blk_drew ?_ | refine blk_alloc ?_ _)); exact BK201.out) hb); have n5_ := Aside0.mk (blk_below (g := gb241) (o := .cells #[.int .i64 t232, .int .i64 t233, .int .i64 t234, .slice Ao104 t235.length co104] 25 (0, 0)) (by (with_reducible repeat (first | refine blk_drewN ?_ _ | refine blk_drew ?_ | refine blk_alloc ?_ _)); exact BK241.out) hb); have n6_ := Aside0.mk (below_step (by repeat (first | (with_reducible first | exact HB.out | apply below_alloc | apply pw_below_drewN | apply below_drew1 | refine below_set ?_ GE201.out | refine below_set ?_ GE241.out) | exact HB.out)) hb); clear HO_10; clear HO_13; clear HO_202003; clear HO_242003; clear BK201; clear BK241; clear HB; have HO_10 := n0_; have HO_13 := n1_; have HO_202003 := n2_; have HO_242003 := n3_; have BK201 := n4_; have BK241 := n5_; have HB := n6_; clear n0_ n1_ n2_ n3_ n4_ n5_ n6_; (try clear hb); (try clear hb2); (try clear hk); (try clear hi); have p245 : 0 ≤ (0 : Int) := (by omega); have q245 : 0 < (t238.length : Int) := of_decide_eq_true (by first | (with_reducible assumption) | assumption); obtain ⟨ad245, e245, hx245_0⟩ := Kd.at_int (Kd.R_reads' HO_13.out).2.2 0 p245 q245; cases e245; have qi245 : (0 < t238.length) = True := eq_true (by omega); (try rw [show ((0 : Int)).toNat = 0 from rfl] at hx245_0); (try rw [Addr.add_zero'] at hx245_0); replace p245 := eq_true p245; replace q245 := eq_true q245; have hcz132_0 : w131.cell? ⟨gb201, 0, none⟩ = some (.int .i64 x202000_1) := (blk_cell BK201.out 0).trans rfl; have hcz132_1 : w131.cell? ⟨gb201, 1, none⟩ = some (.int .i64 x202001_1) := (blk_cell BK201.out 1).trans rfl; have hcz132_2 : w131.cell? ⟨gb201, 2, none⟩ = some (.int .i64 x202002_1) := (blk_cell BK201.out 2).trans rfl; have hcz132_3 : w131.cell? ⟨gb201, 3, none⟩ = some (.slice Ao95 x202003_1.length co95) := (blk_cell BK201.out 3).trans rfl; have hfz132_0 := blk_frozen BK201.out 0; have hfz132_1 := blk_frozen BK201.out 1; have hfz132_2 := blk_frozen BK201.out 2; have hfz132_3 := blk_frozen BK201.out 3; have hcz133_0 : w131.cell? ⟨gb241, 0, none⟩ = some (.int .i64 t232) := (blk_cell BK241.out 0).trans rfl; have hcz133_1 : w131.cell? ⟨gb241, 1, none⟩ = some (.int .i64 t233) := (blk_cell BK241.out 1).trans rfl; have hcz133_2 : w131.cell? ⟨gb241, 2, none⟩ = some (.int .i64 t234) := (blk_cell BK241.out 2).trans rfl; have hcz133_3 : w131.cell? ⟨gb241, 3, none⟩ = some (.slice Ao104 t235.length co104) := (blk_cell BK241.out 3).trans rfl; have hfz133_0 := blk_frozen BK241.out 0; have hfz133_1 := blk_frozen BK241.out 1; have hfz133_2 := blk_frozen BK241.out 2; have hfz133_3 := blk_frozen BK241.out 3) | (go_at_call 21; (with_reducible refine (customsref21_SameGuarantee.calls k2 x202000_1 x202001_1 x202002_1 _ _ x202003_1 t232 t233 t234 _ _ t235 t246 _ ?side1 ?side2 ?side3 ?side4 A127.out).mono ?_); (case side1 => repeat (first | exact (Kd.R_reads' HO_202003.out).2.2 | (with_reducible refine Kd.C_alloc ?_ _) | (with_reducible refine Kd.C_drewN ?_ _) | (with_reducible refine Kd.C_drew ?_))); (case side2 => exact (Kd.R_reads' HO_202003.out).2.1); (case side3 => repeat (first | exact (Kd.R_reads' HO_242003.out).2.2 | (with_reducible refine Kd.C_alloc ?_ _) | (with_reducible refine Kd.C_drewN ?_ _) | (with_reducible refine Kd.C_drew ?_))); (case side4 => exact (Kd.R_reads' HO_242003.out).2.1); rintro e w134 ⟨rfl, hb⟩; have n0_ := Aside0.mk (Kd.R_below (by (with_reducible repeat (first | apply Kd.R_alloc | apply Kd.R_drewN | apply Kd.R_drew)); exact HO_10.out) hb); have n1_ := Aside0.mk (Kd.R_below (by (with_reducible repeat (first | apply Kd.R_alloc | apply Kd.R_drewN | apply Kd.R_drew)); exact HO_13.out) hb); have n2_ := Aside0.mk (Kd.R_below (by (with_reducible repeat (first | apply Kd.R_alloc | apply Kd.R_drewN | apply Kd.R_drew)); exact HO_202003.out) hb); have n3_ := Aside0.mk (Kd.R_below (by (with_reducible repeat (first | apply Kd.R_alloc | apply Kd.R_drewN | apply Kd.R_drew)); exact HO_242003.out) hb); have n4_ := Aside0.mk (blk_below (g := gb201) (o := .cells #[.int .i64 x202000_1, .int .i64 x202001_1, .int .i64 x202002_1, .slice Ao95 x202003_1.length co95] 25 (0, 0)) (by (with_reducible repeat (first | refine blk_drewN ?_ _ | refine blk_drew ?_ | refine blk_alloc ?_ _)); exact BK201.out) hb); have n5_ := Aside0.mk (blk_below (g := gb241) (o := .cells #[.int .i64 t232, .int .i64 t233, .int .i64 t234, .slice Ao104 t235.length co104] 25 (0, 0)) (by (with_reducible repeat (first | refine blk_drewN ?_ _ | refine blk_drew ?_ | refine blk_alloc ?_ _)); exact BK241.out) hb); have n6_ := Aside0.mk (below_step (by repeat (first | (with_reducible first | exact HB.out | apply below_alloc | apply pw_below_drewN | apply below_drew1 | refine below_set ?_ GE201.out | refine below_set ?_ GE241.out) | exact HB.out)) hb); clear HO_10; clear HO_13; clear HO_202003; clear HO_242003; clear BK201; clear BK241; clear HB; have HO_10 := n0_; have HO_13 := n1_; have HO_202003 := n2_; have HO_242003 := n3_; have BK201 := n4_; have BK241 := n5_; have HB := n6_; clear n0_ n1_ n2_ n3_ n4_ n5_ n6_; (try clear hb); (try clear hb2); (try clear hk); (try clear hi)))
                                    go_meet
                                    case rel => exact ⟨_, (!t246), (by first | rfl | (simp; done) | (simp [*]; done)), H', ⟨by have := HK1.out; have := HK2.out; first | omega | exact Nat.le_refl _⟩, ⟨by (with_reducible repeat (first | apply Kd.R_alloc | apply Kd.R_drewN | apply Kd.R_drew)); exact HO_10.out⟩, ⟨by (with_reducible repeat (first | apply Kd.R_alloc | apply Kd.R_drewN | apply Kd.R_drew)); exact HO_202003.out⟩, ⟨by (with_reducible repeat (first | apply Kd.R_alloc | apply Kd.R_drewN | apply Kd.R_drew)); exact HO_242003.out⟩, ⟨by (with_reducible repeat (first | refine blk_drewN ?_ _ | refine blk_drew ?_ | refine blk_alloc ?_ _)); exact BK201.out⟩, ⟨by (with_reducible repeat (first | refine blk_drewN ?_ _ | refine blk_drew ?_ | refine blk_alloc ?_ _)); exact BK241.out⟩, ⟨by repeat (first | (with_reducible first | exact HB.out | apply below_alloc | apply pw_below_drewN | apply below_drew1 | refine below_set ?_ GE201.out | refine below_set ?_ GE241.out) | exact HB.out)⟩⟩
                                · rw [if_neg c121] at H
                                  exact absurd H (by simp)
                              · rw [if_neg c120] at H
                                have c120b0 : (t244 == x14_2) = false := beq_eq_false_iff_ne.mpr c120
                                have c120b1 : (t244 != x14_2) = true := bne_iff_ne.mpr c120
                                have H' := Aside0.mk H
                                clear H
                                obtain ⟨Ao135, co135, eo135⟩ := Kd.R_slice HO_13.out
                                subst eo135
                                have hnb136 := NB241_201.out
                                have hnc136 := NB201_241.out
                                have hcz137_0 : wr.cell? ⟨gb241, 0, none⟩ = some (.int .i64 t232) := (blk_cell BK241.out 0).trans rfl
                                have hcz137_1 : wr.cell? ⟨gb241, 1, none⟩ = some (.int .i64 t233) := (blk_cell BK241.out 1).trans rfl
                                have hcz137_2 : wr.cell? ⟨gb241, 2, none⟩ = some (.int .i64 t234) := (blk_cell BK241.out 2).trans rfl
                                have hcz137_3 : wr.cell? ⟨gb241, 3, none⟩ = some (.slice Ao104 t235.length co104) := (blk_cell BK241.out 3).trans rfl
                                have hfz137_0 := blk_frozen BK241.out 0
                                have hfz137_1 := blk_frozen BK241.out 1
                                have hfz137_2 := blk_frozen BK241.out 2
                                have hfz137_3 := blk_frozen BK241.out 3
                                go_wp2_with (first | (go_at_call 13; (with_reducible refine (guarantee_Total.calls k2 t232 t233 t234 _ _ t235 t244 _ ?side1 ?side2 A119.out).mono ?_); (case side1 => repeat (first | exact (Kd.R_reads' HO_242003.out).2.2 | (with_reducible refine Kd.C_alloc ?_ _) | (with_reducible refine Kd.C_drewN ?_ _) | (with_reducible refine Kd.C_drew ?_))); (case side2 => exact (Kd.R_reads' HO_242003.out).2.1); rintro e w138 ⟨rfl, hb⟩; have n0_ := Aside0.mk (Kd.R_below (by (with_reducible repeat (first | apply Kd.R_alloc | apply Kd.R_drewN | apply Kd.R_drew)); exact HO_10.out) hb); have n1_ := Aside0.mk (Kd.R_below (by (with_reducible repeat (first | apply Kd.R_alloc | apply Kd.R_drewN | apply Kd.R_drew)); exact HO_13.out) hb); have n2_ := Aside0.mk (Kd.R_below (by (with_reducible repeat (first | apply Kd.R_alloc | apply Kd.R_drewN | apply Kd.R_drew)); exact HO_202003.out) hb); have n3_ := Aside0.mk (Kd.R_below (by (with_reducible repeat (first | apply Kd.R_alloc | apply Kd.R_drewN | apply Kd.R_drew)); exact HO_242003.out) hb); have n4_ := Aside0.mk (blk_below (g := gb201) (o := .cells #[.int .i64 x202000_1, .int .i64 x202001_1, .int .i64 x202002_1, .slice Ao95 x202003_1.length co95] 25 (0, 0)) (by (with_reducible repeat (first | refine blk_drewN ?_ _ | refine blk_drew ?_ | refine blk_alloc ?_ _)); exact BK201.out) hb); have n5_ := Aside0.mk (blk_below (g := gb241) (o := .cells #[.int .i64 t232, .int .i64 t233, .int .i64 t234, .slice Ao104 t235.length co104] 25 (0, 0)) (by (with_reducible repeat (first | refine blk_drewN ?_ _ | refine blk_drew ?_ | refine blk_alloc ?_ _)); exact BK241.out) hb); have n6_ := Aside0.mk (below_step (by repeat (first | (with_reducible first | exact HB.out | apply below_alloc | apply pw_below_drewN | apply below_drew1 | refine below_set ?_ GE201.out | refine below_set ?_ GE241.out) | exact HB.out)) hb); clear HO_10; clear HO_13; clear HO_202003; clear HO_242003; clear BK201; clear BK241; clear HB; have HO_10 := n0_; have HO_13 := n1_; have HO_202003 := n2_; have HO_242003 := n3_; have BK201 := n4_; have BK241 := n5_; have HB := n6_; clear n0_ n1_ n2_ n3_ n4_ n5_ n6_; (try clear hb); (try clear hb2); (try clear hk); (try clear hi)))
                                go_meet
                                case rel => exact ⟨_, (true), (by first | rfl | (simp; done) | (simp [*]; done)), H', ⟨by have := HK1.out; have := HK2.out; first | omega | exact Nat.le_refl _⟩, ⟨by (with_reducible repeat (first | apply Kd.R_alloc | apply Kd.R_drewN | apply Kd.R_drew)); exact HO_10.out⟩, ⟨by (with_reducible repeat (first | apply Kd.R_alloc | apply Kd.R_drewN | apply Kd.R_drew)); exact HO_202003.out⟩, ⟨by (with_reducible repeat (first | apply Kd.R_alloc | apply Kd.R_drewN | apply Kd.R_drew)); exact HO_242003.out⟩, ⟨by (with_reducible repeat (first | refine blk_drewN ?_ _ | refine blk_drew ?_ | refine blk_alloc ?_ _)); exact BK201.out⟩, ⟨by (with_reducible repeat (first | refine blk_drewN ?_ _ | refine blk_drew ?_ | refine blk_alloc ?_ _)); exact BK241.out⟩, ⟨by repeat (first | (with_reducible first | exact HB.out | apply below_alloc | apply pw_below_drewN | apply below_drew1 | refine below_set ?_ GE201.out | refine below_set ?_ GE241.out) | exact HB.out)⟩⟩
                          · rw [if_neg c114] at H
                            have c114b0 : ((t238.length : Int) == 1) = false := beq_eq_false_iff_ne.mpr c114
                            have c114b1 : ((t238.length : Int) != 1) = true := bne_iff_ne.mpr c114
                            (first | rw [c114b0] | (simp only [i64_w, i32_w]; rw [c114b0]) | skip)
                            have H' := Aside0.mk H
                            clear H
                            obtain ⟨Ao139, co139, eo139⟩ := Kd.R_slice HO_13.out
                            subst eo139
                            go_wp2
                            go_meet
                            case rel => exact ⟨_, (true), (by first | rfl | (simp; done) | (simp [*]; done)), H', ⟨by have := HK1.out; have := HK2.out; first | omega | exact Nat.le_refl _⟩, ⟨by (with_reducible repeat (first | apply Kd.R_alloc | apply Kd.R_drewN | apply Kd.R_drew)); exact HO_10.out⟩, ⟨by (with_reducible repeat (first | apply Kd.R_alloc | apply Kd.R_drewN | apply Kd.R_drew)); exact HO_202003.out⟩, ⟨by (with_reducible repeat (first | apply Kd.R_alloc | apply Kd.R_drewN | apply Kd.R_drew)); exact HO_242003.out⟩, ⟨by (with_reducible repeat (first | refine blk_drewN ?_ _ | refine blk_drew ?_ | refine blk_alloc ?_ _)); exact BK201.out⟩, ⟨by (with_reducible repeat (first | refine blk_drewN ?_ _ | refine blk_drew ?_ | refine blk_alloc ?_ _)); exact BK241.out⟩, ⟨by repeat (first | (with_reducible first | exact HB.out | apply below_alloc | apply pw_below_drewN | apply below_drew1 | refine below_set ?_ GE201.out | refine below_set ?_ GE241.out) | exact HB.out)⟩⟩
                        case rest =>
                          clear HC111
                          try clear c1
                          try clear c2
                          try clear p2
                          try clear q2
                          try clear hx2
                          try clear qi2
                          try clear c3
                          try clear c4
                          try clear c5
                          try clear c6
                          try clear p6
                          try clear c7
                          try clear c9
                          try clear q9
                          try clear c10
                          try clear c11
                          try clear c12
                          try clear c13
                          try clear c18
                          try clear c18b0
                          try clear c19
                          try clear c19b0
                          try clear c19b1
                          try clear c20
                          try clear c20b0
                          try clear c20b1
                          try clear c21
                          try clear c21b0
                          try clear c21b1
                          try clear p22
                          try clear q22
                          try clear hx22
                          try clear qi22
                          try clear p24
                          try clear q24
                          try clear hx24
                          try clear qi24
                          try clear c25
                          try clear q25
                          try clear c26
                          try clear c27
                          try clear c34
                          try clear c34b0
                          try clear c35
                          try clear c35b0
                          try clear c36
                          try clear c36b0
                          try clear c37
                          try clear c40
                          try clear c42
                          try clear c42b0
                          try clear c42b1
                          try clear c43
                          try clear c43b0
                          try clear c45
                          try clear c48
                          try clear c48b0
                          try clear c48b1
                          try clear c49
                          try clear c49b0
                          try clear c49b1
                          try clear c50
                          try clear c50b0
                          try clear c50b1
                          try clear c52
                          try clear c57
                          try clear c64
                          try clear p64
                          try clear c68
                          try clear c69
                          try clear c75
                          try clear c75b0
                          try clear c75b1
                          try clear c90
                          try clear c90b0
                          try clear c91
                          try clear c91b0
                          try clear c91b1
                          try clear c92
                          try clear c92b0
                          try clear c92b1
                          try clear c93
                          try clear c93b0
                          try clear c93b1
                          try clear c97
                          try clear q97
                          try clear c106
                          try clear c106b0
                          try clear c107
                          try clear c107b0
                          try clear c108
                          try clear c108b0
                          try clear c109
                          try clear c112
                          try clear c114
                          try clear c114b0
                          try clear c114b1
                          try clear c115
                          try clear c115b0
                          try clear c117
                          try clear c120
                          try clear c120b0
                          try clear c120b1
                          try clear c121
                          try clear c121b0
                          try clear c121b1
                          try clear c122
                          try clear c122b0
                          try clear c122b1
                          try clear c124
                          try clear c129
                          try clear c136
                          try clear hcz110_0
                          try clear hcz110_1
                          try clear hcz110_2
                          try clear hcz110_3
                          try clear hcz113_0
                          try clear hcz113_1
                          try clear hcz113_2
                          try clear hcz113_3
                          try clear hcz118_0
                          try clear hcz118_1
                          try clear hcz118_2
                          try clear hcz118_3
                          try clear hcz11_0
                          try clear hcz11_1
                          try clear hcz11_2
                          try clear hcz11_3
                          try clear hcz125_0
                          try clear hcz125_1
                          try clear hcz125_2
                          try clear hcz125_3
                          try clear hcz130_0
                          try clear hcz130_1
                          try clear hcz130_2
                          try clear hcz130_3
                          try clear hcz132_0
                          try clear hcz132_1
                          try clear hcz132_2
                          try clear hcz132_3
                          try clear hcz133_0
                          try clear hcz133_1
                          try clear hcz133_2
                          try clear hcz133_3
                          try clear hcz137_0
                          try clear hcz137_1
                          try clear hcz137_2
                          try clear hcz137_3
                          try clear hcz16_0
                          try clear hcz16_1
                          try clear hcz16_2
                          try clear hcz16_3
                          try clear hcz38_0
                          try clear hcz38_1
                          try clear hcz38_2
                          try clear hcz38_3
                          try clear hcz41_0
                          try clear hcz41_1
                          try clear hcz41_2
                          try clear hcz41_3
                          try clear hcz46_0
                          try clear hcz46_1
                          try clear hcz46_2
                          try clear hcz46_3
                          try clear hcz53_0
                          try clear hcz53_1
                          try clear hcz53_2
                          try clear hcz53_3
                          try clear hcz58_0
                          try clear hcz58_1
                          try clear hcz58_2
                          try clear hcz58_3
                          try clear hcz60_0
                          try clear hcz60_1
                          try clear hcz60_2
                          try clear hcz60_3
                          try clear hcz61_0
                          try clear hcz61_1
                          try clear hcz61_2
                          try clear hcz61_3
                          try clear hcz65_0
                          try clear hcz65_1
                          try clear hcz65_2
                          try clear hcz65_3
                          try clear hcz70_0
                          try clear hcz70_1
                          try clear hcz70_2
                          try clear hcz70_3
                          try clear hcz71_0
                          try clear hcz71_1
                          try clear hcz71_2
                          try clear hcz71_3
                          try clear hcz79_0
                          try clear hcz79_1
                          try clear hcz79_2
                          try clear hcz79_3
                          try clear hcz86_0
                          try clear hcz86_1
                          try clear hcz86_2
                          try clear hcz86_3
                          try clear hfz110_0
                          try clear hfz110_1
                          try clear hfz110_2
                          try clear hfz110_3
                          try clear hfz113_0
                          try clear hfz113_1
                          try clear hfz113_2
                          try clear hfz113_3
                          try clear hfz118_0
                          try clear hfz118_1
                          try clear hfz118_2
                          try clear hfz118_3
                          try clear hfz11_0
                          try clear hfz11_1
                          try clear hfz11_2
                          try clear hfz11_3
                          try clear hfz125_0
                          try clear hfz125_1
                          try clear hfz125_2
                          try clear hfz125_3
                          try clear hfz130_0
                          try clear hfz130_1
                          try clear hfz130_2
                          try clear hfz130_3
                          try clear hfz132_0
                          try clear hfz132_1
                          try clear hfz132_2
                          try clear hfz132_3
                          try clear hfz133_0
                          try clear hfz133_1
                          try clear hfz133_2
                          try clear hfz133_3
                          try clear hfz137_0
                          try clear hfz137_1
                          try clear hfz137_2
                          try clear hfz137_3
                          try clear hfz16_0
                          try clear hfz16_1
                          try clear hfz16_2
                          try clear hfz16_3
                          try clear hfz38_0
                          try clear hfz38_1
                          try clear hfz38_2
                          try clear hfz38_3
                          try clear hfz41_0
                          try clear hfz41_1
                          try clear hfz41_2
                          try clear hfz41_3
                          try clear hfz46_0
                          try clear hfz46_1
                          try clear hfz46_2
                          try clear hfz46_3
                          try clear hfz53_0
                          try clear hfz53_1
                          try clear hfz53_2
                          try clear hfz53_3
                          try clear hfz58_0
                          try clear hfz58_1
                          try clear hfz58_2
                          try clear hfz58_3
                          try clear hfz60_0
                          try clear hfz60_1
                          try clear hfz60_2
                          try clear hfz60_3
                          try clear hfz61_0
                          try clear hfz61_1
                          try clear hfz61_2
                          try clear hfz61_3
                          try clear hfz65_0
                          try clear hfz65_1
                          try clear hfz65_2
                          try clear hfz65_3
                          try clear hfz70_0
                          try clear hfz70_1
                          try clear hfz70_2
                          try clear hfz70_3
                          try clear hfz71_0
                          try clear hfz71_1
                          try clear hfz71_2
                          try clear hfz71_3
                          try clear hfz79_0
                          try clear hfz79_1
                          try clear hfz79_2
                          try clear hfz79_3
                          try clear hfz86_0
                          try clear hfz86_1
                          try clear hfz86_2
                          try clear hfz86_3
                          try clear hx221_0
                          try clear hx221_1
                          try clear hx222_0
                          try clear hx222_1
                          try clear hx224_0
                          try clear hx242_0
                          try clear hx242_1
                          try clear hx243_0
                          try clear hx243_1
                          try clear hx245_0
                          try clear p2
                          try clear p22
                          try clear p221
                          try clear p222
                          try clear p224
                          try clear p242
                          try clear p243
                          try clear p245
                          try clear p6
                          try clear p64
                          try clear q025
                          try clear q097
                          try clear q2
                          try clear q22
                          try clear q221
                          try clear q222
                          try clear q224
                          try clear q242
                          try clear q243
                          try clear q245
                          try clear q25
                          try clear q9
                          try clear q97
                          obtain ⟨kq, x91_110, rfl, HA, HJ110, HO_10, HO_202003, HO_242003, BK201, BK241, HB⟩ := hcut
                          cases kq with
                          | zero => exact absurd HA.out (by simp [customslaw23_GuaranteeNever.j5])
                          | succ kj110 =>
                            have H := HA.out
                            clear HA
                            simp only [customslaw23_GuaranteeNever.j5] at H
                            by_cases c140 : x91_110 = true
                            · subst c140
                              have H1 : (some false) = some true := by rw [if_pos rfl] at H; exact H
                              clear H
                              have H := H1
                              clear H1
                              cases H
                            · replace c140 := Bool.eq_false_iff.mpr c140
                              subst c140
                              have H1 : (customslaw23_GuaranteeNever.l50 kj110 t202 (wrap64 (x11_1 + 1)) t232 t233 t234 t235) = some true := by rw [if_neg (show ¬ (false = true) by decide)] at H; exact H
                              clear H
                              have H := H1
                              clear H1
                              have H' := Aside0.mk H
                              clear H
                              have hnb141 := NB241_201.out
                              have hnc141 := NB201_241.out
                              have hcz142_0 : wc.cell? ⟨gb241, 0, none⟩ = some (.int .i64 t232) := (blk_cell BK241.out 0).trans rfl
                              have hcz142_1 : wc.cell? ⟨gb241, 1, none⟩ = some (.int .i64 t233) := (blk_cell BK241.out 1).trans rfl
                              have hcz142_2 : wc.cell? ⟨gb241, 2, none⟩ = some (.int .i64 t234) := (blk_cell BK241.out 2).trans rfl
                              have hcz142_3 : wc.cell? ⟨gb241, 3, none⟩ = some (.slice Ao104 t235.length co104) := (blk_cell BK241.out 3).trans rfl
                              have hfz142_0 := blk_frozen BK241.out 0
                              have hfz142_1 := blk_frozen BK241.out 1
                              have hfz142_2 := blk_frozen BK241.out 2
                              have hfz142_3 := blk_frozen BK241.out 3
                              have hcz143_0 : wc.cell? ⟨gb201, 0, none⟩ = some (.int .i64 x202000_1) := (blk_cell BK201.out 0).trans rfl
                              have hcz143_1 : wc.cell? ⟨gb201, 1, none⟩ = some (.int .i64 x202001_1) := (blk_cell BK201.out 1).trans rfl
                              have hcz143_2 : wc.cell? ⟨gb201, 2, none⟩ = some (.int .i64 x202002_1) := (blk_cell BK201.out 2).trans rfl
                              have hcz143_3 : wc.cell? ⟨gb201, 3, none⟩ = some (.slice Ao95 x202003_1.length co95) := (blk_cell BK201.out 3).trans rfl
                              have hfz143_0 := blk_frozen BK201.out 0
                              have hfz143_1 := blk_frozen BK201.out 1
                              have hfz143_2 := blk_frozen BK201.out 2
                              have hfz143_3 := blk_frozen BK201.out 3
                              go_wp2
                              go_roundg kj110
                              case measure => have := HK1.out; have := HK2.out; have := HJ110.out; omega
                              case rel => exact ⟨(wrap64 (x11_1 + 1)), (t232), (t233), (t234), (t235), (.slice Ao104 t235.length co104), (by first | rfl | (simp; done) | (simp [*]; done)), H', ⟨by have := HK1.out; have := HK2.out; have := HJ110.out; omega⟩, ⟨by (with_reducible repeat (first | apply Kd.R_alloc | apply Kd.R_drewN | apply Kd.R_drew)); exact Kd.R_mono (Kd.R_far (p := ⟨gb201, 3, none⟩) (Kd.R_far (p := ⟨gb201, 2, none⟩) (Kd.R_far (p := ⟨gb201, 1, none⟩) (Kd.R_far (p := ⟨gb201, 0, none⟩) (Kd.R_types HO_10.out BK201.out (by decide)) (fun _ hk => hk.2) (.int .i64 t232)) (fun _ hk => hk.2) (.int .i64 t233)) (fun _ hk => hk.2) (.int .i64 t234)) (fun _ hk => hk.2) (.slice Ao104 t235.length co104)) (fun _ hk => trivial)⟩, ⟨by (with_reducible repeat (first | apply Kd.R_alloc | apply Kd.R_drewN | apply Kd.R_drew)); exact Kd.R_mono (Kd.R_far (p := ⟨gb201, 3, none⟩) (Kd.R_far (p := ⟨gb201, 2, none⟩) (Kd.R_far (p := ⟨gb201, 1, none⟩) (Kd.R_far (p := ⟨gb201, 0, none⟩) (Kd.R_types HO_242003.out BK201.out (by decide)) (fun _ hk => hk.2) (.int .i64 t232)) (fun _ hk => hk.2) (.int .i64 t233)) (fun _ hk => hk.2) (.int .i64 t234)) (fun _ hk => hk.2) (.slice Ao104 t235.length co104)) (fun _ hk => trivial)⟩, ⟨by (with_reducible repeat (first | refine blk_drewN ?_ _ | refine blk_drew ?_ | refine blk_alloc ?_ _)); refine blk_put (cs := #[.int .i64 t232, .int .i64 t233, .int .i64 t234, .slice Ao95 x202003_1.length co95]) ?_ 3 _ rfl; (with_reducible repeat (first | refine blk_drewN ?_ _ | refine blk_drew ?_ | refine blk_alloc ?_ _)); refine blk_put (cs := #[.int .i64 t232, .int .i64 t233, .int .i64 x202002_1, .slice Ao95 x202003_1.length co95]) ?_ 2 _ rfl; (with_reducible repeat (first | refine blk_drewN ?_ _ | refine blk_drew ?_ | refine blk_alloc ?_ _)); refine blk_put (cs := #[.int .i64 t232, .int .i64 x202001_1, .int .i64 x202002_1, .slice Ao95 x202003_1.length co95]) ?_ 1 _ rfl; (with_reducible repeat (first | refine blk_drewN ?_ _ | refine blk_drew ?_ | refine blk_alloc ?_ _)); refine blk_put (cs := #[.int .i64 x202000_1, .int .i64 x202001_1, .int .i64 x202002_1, .slice Ao95 x202003_1.length co95]) ?_ 0 _ rfl; (with_reducible repeat (first | refine blk_drewN ?_ _ | refine blk_drew ?_ | refine blk_alloc ?_ _)); exact BK201.out⟩, ⟨by repeat (first | (with_reducible first | exact HB.out | apply below_alloc | apply pw_below_drewN | apply below_drew1 | refine below_set ?_ GE201.out | refine below_set ?_ GE241.out) | exact HB.out)⟩⟩
                · rw [if_neg c93] at H
                  exact absurd H (by simp)
              · rw [if_neg c92] at H
                exact absurd H (by simp)
            · rw [if_neg c91] at H
              exact absurd H (by simp)
          · rw [if_neg c90] at H
            have c90b0 : decide (x11_1 < (t202.length : Int)) = false := decide_eq_false c90
            clear c90
            replace H := Option.bind_eq_some_iff.mp H
            obtain ⟨t227, A1440, H⟩ := H
            replace H : (some t227) = some true := H
            have A144 := Aside0.mk A1440
            clear A1440
            have HT_ := Option.some.inj H
            clear H
            go_wp2_with (first | ((with_reducible refine gate_callee (f := 15) rfl ?_); refine goesL_ (some 93) rfl rfl Try.func15 (by kernel_rfl) rfl #[] rfl (by (try simp only [List.map_toArray, List.map_cons, List.map_nil]); first | done | rfl | (simp only [List.length_drop, List.length_take]; rfl)) ?_; (with_reducible refine (customslaw23_awake.calls k1  t227 _ A144.out).mono ?_); rintro e w145 ⟨rfl, hb⟩; refine ⟨_, rfl, ?_⟩; have n0_ := Aside0.mk (Kd.R_below (by (with_reducible repeat (first | apply Kd.R_alloc | apply Kd.R_drewN | apply Kd.R_drew)); exact HO_10.out) hb); have n1_ := Aside0.mk (Kd.R_below (by (with_reducible repeat (first | apply Kd.R_alloc | apply Kd.R_drewN | apply Kd.R_drew)); exact HO_202003.out) hb); have n2_ := Aside0.mk (blk_below (g := gb201) (o := .cells #[.int .i64 x202000_1, .int .i64 x202001_1, .int .i64 x202002_1, u202003] 25 (0, 0)) (by (with_reducible repeat (first | refine blk_drewN ?_ _ | refine blk_drew ?_ | refine blk_alloc ?_ _)); exact BK201.out) hb); have n3_ := Aside0.mk (below_step (by repeat (first | (with_reducible first | exact HB.out | apply below_alloc | apply pw_below_drewN | apply below_drew1 | refine below_set ?_ GE201.out) | exact HB.out)) hb); clear HO_10; clear HO_202003; clear BK201; clear HB; have HO_10 := n0_; have HO_202003 := n1_; have BK201 := n2_; have HB := n3_; clear n0_ n1_ n2_ n3_; (try clear hb); (try clear hb2); (try clear hk); (try clear hi)))
            go_ret
            exact ⟨by first | rfl | (simp [errW_none, errW_some] <;> rfl) | (simp [*, errW_none, errW_some] <;> rfl), by repeat (first | (with_reducible first | exact HB.out | apply below_alloc | apply pw_below_drewN | apply below_drew1 | refine below_set ?_ GE201.out) | exact HB.out)⟩
end Go.Proofs.Ytakhjhiofmgpnaa.PD
/- The law GuaranteeNever in plain Lean. -/
namespace Go.Proofs.Ytakhjhiofmgpnaa.E
set_option linter.unusedVariables false
set_option linter.unusedSimpArgs false
open Go.RowKit Go.Proofs.YtakhjhiofmgpnaaW.PrintWords Go.Proofs.YtakhjhiofmgpnaaW.PrintLast Go.Proofs.YtakhjhiofmgpnaaW.PrintMore Go.Proofs.Ytakhjhiofmgpnaa.G Go.Proofs.Ytakhjhiofmgpnaa.PA Go.Proofs.Ytakhjhiofmgpnaa.PB Go.Proofs.Ytakhjhiofmgpnaa.PC Go.Proofs.Ytakhjhiofmgpnaa.PE Go.Proofs.Ytakhjhiofmgpnaa.PD
theorem raw_steps2 {l : List S74} (w : ∀ u ∈ l, (Lit.int .i64 u.f0).wf = true ∧ (Lit.int .i64 u.f1).wf = true ∧ (Lit.int .i64 u.f2).wf = true) : ∀ j, j < l.length → isI64 (sat l j).f1 := fun j hj => by
  have e : sat l j = l[j] := by unfold sat rd_T74; simp [hj]
  rw [e]
  exact wf_i64 (w _ (List.getElem_mem hj)).2.1
theorem one_step {s : List S74} (hs : ∀ j, j < s.length → isI64 (sat s j).f1) {a b c : Int} {u : List S39} (hv : vf a b c u = 0) {i : Nat} (hi : i < s.length) :
    ∃ x y z v e, Ev (fun k => guarantee_Run.f k a b c u ((s.take (i + 1)).drop i)) (x, y, z, v, [e]) ∧ vf x y z v = 0 ∧ (e ≠ 0 → (x, y, z, v) = (a, b, c, u)) := by
  have e1 : (s.take (i + 1)).drop i = [s[i]] := by
    rw [← List.take_append_getElem hi, List.drop_append_of_le_length (by simp; omega)]
    simp [List.drop_take]
  have e2 : sat [s[i]] 0 = sat s i := by unfold sat rd_T74; simp [hi]
  obtain ⟨x, y, z, v, fs, g1, g2, g3, g4⟩ := run_ev [s[i]] (fun j hj => by
    obtain rfl : j = 0 := by simpa using hj
    rw [e2]; exact hs i hi) (by simp) 1 0 a b c u [] (by simp) hv rfl
  obtain ⟨e, rfl, he⟩ := g4 rfl
  rw [e1]
  exact ⟨x, y, z, v, e, run_f hv g1, g2, he⟩
theorem never_loop {s : List S74} (hs : ∀ j, j < s.length → isI64 (sat s j).f1) (hl : s.length ≤ 1000) :
    ∀ (r i : Nat) (a b c : Int) (u : List S39), i + r = s.length → vf a b c u = 0 → Ev (fun k => customslaw23_GuaranteeNever.l0 k s (i : Int) a b c u) true := by
  intro r
  induction r with
  | zero =>
    intro i a b c u hi hv
    refine evShift ?_
    simp only [customslaw23_GuaranteeNever.l0]
    exact evNeg (by omega) (evBind awake_ev (evNow rfl))
  | succ r ih =>
    intro i a b c u hi hv
    obtain ⟨x, y, z, v, e, g1, g2, g3⟩ := one_step hs hv (i := i) (by omega)
    obtain ⟨hh, hlen, ho, ha, htot⟩ := vf_zero.1 g2
    have e2 : wrap64 ((i : Int) + 1) = ((i + 1 : Nat) : Int) := by rw [wrap64_id (by omega) (by omega)]; omega
    have go : Ev (fun k => customslaw23_GuaranteeNever.j2 k s (i : Int) false x y z v) true := by
      refine evShift ?_
      simp only [customslaw23_GuaranteeNever.j2]
      rw [e2]
      exact evNeg (by simp) (ih (i + 1) x y z v (by omega) g2)
    have key : ∀ (n j : Nat), j + n = v.length → Ev (fun k => customslaw23_GuaranteeNever.l1 k s (i : Int) [e] (psum v j) (j : Int) a b c u x y z v) true := by
      intro n
      induction n with
      | zero =>
        intro j hj
        obtain rfl : j = v.length := by omega
        refine evShift ?_
        simp only [customslaw23_GuaranteeNever.l1]
        have htf : tf x y z v = psum v v.length := by rw [tf, if_pos g2]; rfl
        have ht2 : tot v = psum v v.length := rfl
        refine evNeg (by omega) (evPos (by simp) (evNeg (by omega) (evBind (total_ev x y z v) (evPos htf (evPos (by simp) (evIf (fun h => go) (fun h => ?_)))))))
        have he : e ≠ 0 := h
        have g4 := g3 he
        simp only [Prod.mk.injEq] at g4
        obtain ⟨rfl, rfl, rfl, rfl⟩ := g4
        exact evBind (sameg_ev x y z v (by omega)) go
      | succ n ihn =>
        intro j hj
        refine evShift ?_
        simp only [customslaw23_GuaranteeNever.l1]
        have h0 := psum_range ho j (by omega)
        have h1 := (ho j (by omega)).2
        have e4 : wrap64 (psum v j + (rd_T39 v (j : Int)).f1) = psum v (j + 1) := by
          have : (rd_T39 v (j : Int)).f1 = (at_ v j).f1 := rfl
          rw [this, wrap64_id (by omega) (by omega)]; rfl
        have e5 : wrap64 ((j : Int) + 1) = ((j + 1 : Nat) : Int) := by rw [wrap64_id (by omega) (by omega)]; omega
        rw [e4, e5]
        clear e4 e5 e2
        refine evPos (by omega) (evPos (by omega) (evNeg ?_ (ihn (j + 1) (by omega))))
        show ¬ (at_ v j).f1 < 0
        omega
    refine evShift ?_
    simp only [customslaw23_GuaranteeNever.l0]
    rw [e2]
    clear e2
    refine evPos (by omega) (evPos (by omega) (evPos (by omega) (evPos (by omega) ?_)))
    rw [Int.toNat_natCast, Int.toNat_natCast]
    exact evBind g1 (key v.length 0 (by omega))
theorem never_loop2 {s : List S74} (hs : ∀ j, j < s.length → isI64 (sat s j).f1) (hl : s.length ≤ 1000) :
    ∀ (r i : Nat) (a b c : Int) (u : List S39), i + r = s.length → vf a b c u = 0 → Ev (fun k => customslaw23_GuaranteeNever.l50 k s (i : Int) a b c u) true := by
  intro r
  induction r with
  | zero =>
    intro i a b c u hi hv
    refine evShift ?_
    simp only [customslaw23_GuaranteeNever.l50]
    exact evNeg (by omega) (evBind awake_ev (evNow rfl))
  | succ r ih =>
    intro i a b c u hi hv
    obtain ⟨x, y, z, v, e, g1, g2, g3⟩ := one_step hs hv (i := i) (by omega)
    obtain ⟨hh, hlen, ho, ha, htot⟩ := vf_zero.1 g2
    have e2 : wrap64 ((i : Int) + 1) = ((i + 1 : Nat) : Int) := by rw [wrap64_id (by omega) (by omega)]; omega
    have go : Ev (fun k => customslaw23_GuaranteeNever.j5 k s (i : Int) false x y z v) true := by
      refine evShift ?_
      simp only [customslaw23_GuaranteeNever.j5]
      rw [e2]
      exact evNeg (by simp) (ih (i + 1) x y z v (by omega) g2)
    have key : ∀ (n j : Nat), j + n = v.length → Ev (fun k => customslaw23_GuaranteeNever.l51 k s (i : Int) [e] (psum v j) (j : Int) a b c u x y z v) true := by
      intro n
      induction n with
      | zero =>
        intro j hj
        obtain rfl : j = v.length := by omega
        refine evShift ?_
        simp only [customslaw23_GuaranteeNever.l51]
        have htf : tf x y z v = psum v v.length := by rw [tf, if_pos g2]; rfl
        have ht2 : tot v = psum v v.length := rfl
        refine evNeg (by omega) (evPos (by simp) (evNeg (by omega) (evBind (total_ev x y z v) (evPos htf (evPos (by simp) (evIf (fun h => go) (fun h => ?_)))))))
        have he : e ≠ 0 := h
        have g4 := g3 he
        simp only [Prod.mk.injEq] at g4
        obtain ⟨rfl, rfl, rfl, rfl⟩ := g4
        exact evBind (sameg_ev x y z v (by omega)) go
      | succ n ihn =>
        intro j hj
        refine evShift ?_
        simp only [customslaw23_GuaranteeNever.l51]
        have h0 := psum_range ho j (by omega)
        have h1 := (ho j (by omega)).2
        have e4 : wrap64 (psum v j + (rd_T39 v (j : Int)).f1) = psum v (j + 1) := by
          have : (rd_T39 v (j : Int)).f1 = (at_ v j).f1 := rfl
          rw [this, wrap64_id (by omega) (by omega)]; rfl
        have e5 : wrap64 ((j : Int) + 1) = ((j + 1 : Nat) : Int) := by rw [wrap64_id (by omega) (by omega)]; omega
        rw [e4, e5]
        clear e4 e5 e2
        refine evPos (by omega) (evPos (by omega) (evNeg ?_ (ihn (j + 1) (by omega))))
        show ¬ (at_ v j).f1 < 0
        omega
    refine evShift ?_
    simp only [customslaw23_GuaranteeNever.l50]
    rw [e2]
    clear e2
    refine evPos (by omega) (evPos (by omega) (evPos (by omega) (evPos (by omega) ?_)))
    rw [Int.toNat_natCast, Int.toNat_natCast]
    exact evBind g1 (key v.length 0 (by omega))
theorem never_law (l0 l1 : List Int) (l2 : List S74) (a3 : Bool) (m0 : l0.length ≤ maxLen) (v0 : ∀ n ∈ l0, (Lit.int .i64 n).wf = true) (m1 : l1.length ≤ maxLen) (v1 : ∀ n ∈ l1, (Lit.int .i64 n).wf = true) (m2 : l2.length ≤ maxLen) (v2 : ∀ u ∈ l2, (Lit.int .i64 u.f0).wf = true ∧ (Lit.int .i64 u.f1).wf = true ∧ (Lit.int .i64 u.f2).wf = true) :
    ∃ k, customslaw23_GuaranteeNever.f k l0 l1 l2 a3 = some true := by
  have h : Ev (fun k => customslaw23_GuaranteeNever.f k l0 l1 l2 a3) true := by
    unfold customslaw23_GuaranteeNever.f
    obtain ⟨a, b, c, u, h1, hM⟩ := made_ev l0
    refine evBind h1 (evIf (fun _ => evIf (fun _ => evBind awake_ev (evNow rfl)) (fun hn => ?_)) (fun _ => ?_))
    · exact never_loop (raw_steps2 v2) (by omega) l2.length 0 a b c u (by omega) hM.valid
    · obtain ⟨st, q1, q2, q3⟩ := steps_ev l1
      exact evBind q1 (evNeg (by omega) (never_loop2 q3 (by omega) st.length 0 a b c u (by omega) hM.valid))
  exact h.rounds
end Go.Proofs.Ytakhjhiofmgpnaa.E
/- What comes in, in the walks' own words: a slice of whole numbers, a slice of reservations, a guarantee by value. -/
namespace Go.Proofs.Ytakhjhiofmgpnaa.G
open Go.ChangeShapes Go.WideShapes Go.RowKit Go.Deep Go.Lib Go.Proofs.YtakhjhiofmgpnaaW.PrintWords Go.Proofs.YtakhjhiofmgpnaaW.PrintLast Go.Proofs.YtakhjhiofmgpnaaW.PrintMore Go.Proofs.Ytakhjhiofmgpnaa.PA
set_option linter.unusedVariables false
variable {H : Type} {enc : TypeId × Value → H} {P : Program} {W : World} {base : Nat} {spare : Nat → Bool} {held : Bool}
theorem in_ints {t e : TypeId} {fuel : Nat} {cs : List Value} {x : DataW H × List MemPlace} (ht : P.underlying t = some (.slice e)) (he : P.underlying e = some (.int .i64)) (hc : P.cellsOf e = 1)
    (h : DataW.trod enc P W base spare held fuel t cs = some x) :
    ∃ (A : Option Addr) (c : Nat) (l : List Int), cs = [.slice A l.length c] ∧ l.length ≤ c ∧ Kd.C (Kd.int .i64) W A l.length l ∧ l.length ≤ maxLen ∧ ∀ n ∈ l, (Lit.int .i64 n).wf = true := by
  rcases open_ints ht he hc h with ⟨rfl, _⟩ | ⟨a, len, cap, zs, rfl, _, hl, hm, hz, _, hcell, hwz⟩
  · exact ⟨none, 0, [], rfl, Nat.le_refl _, Kd.C_nil _ _, Nat.zero_le _, fun n h => by cases h⟩
  · have hlz : len ≤ zs.length := by rw [hz]; split <;> omega
    obtain ⟨l, hle⟩ : ∃ l, l = zs.take len := ⟨_, rfl⟩
    have hll : l.length = len := by rw [hle, List.length_take]; omega
    refine ⟨some a, cap, l, by rw [hll], by omega, ⟨rfl, by unfold maxLen at hm; omega, fun _ => ⟨a, rfl, fun j p hj => ?_⟩⟩, by omega, fun n hn => hwz n (by rw [hle] at hn; exact List.mem_of_mem_take hn)⟩
    have hj2 : j < len := by have := (List.getElem?_eq_some_iff.1 hj).1; omega
    refine ⟨[.int .i64 p], rfl, rfl, fun q u hq => ?_⟩
    have hq0 : q = 0 := by
      have := (List.getElem?_eq_some_iff.1 hq).1
      simp at this
      exact this
    subst hq0
    obtain rfl : Value.int .i64 p = u := by simpa using hq
    have hc1 := hcell j (by omega)
    rw [show j * (Kd.int .i64).sz + 0 = j by show j * 1 + 0 = j; omega, hc1]
    rw [hle, List.getElem?_take, if_pos hj2] at hj
    rw [List.getD_eq_getElem?_getD, hj]
    rfl
end Go.Proofs.Ytakhjhiofmgpnaa.G
/- What comes in, in the walks' own words: a slice of steps on a guarantee (three whole numbers each). -/
namespace Go.Proofs.Ytakhjhiofmgpnaa.G
open Go.ChangeShapes Go.WideShapes Go.RowKit Go.Deep Go.Lib Go.Proofs.YtakhjhiofmgpnaaW.PrintWords Go.Proofs.YtakhjhiofmgpnaaW.PrintLast Go.Proofs.YtakhjhiofmgpnaaW.PrintMore Go.Proofs.Ytakhjhiofmgpnaa.PA
set_option linter.unusedVariables false
variable {H : Type} {enc : TypeId × Value → H} {P : Program} {W : World} {base : Nat} {spare : Nat → Bool} {held : Bool}
theorem in_triples {t e : TypeId} {f0 f1 f2 : Field} {fuel : Nat} {cs : List Value} {x : DataW H × List MemPlace} (ht : P.underlying t = some (.slice e)) (he : P.underlying e = some (.struct #[f0, f1, f2]))
    (ce : P.cellsOf e = 3) (o0 : f0.offset = 0) (o1 : f1.offset = 1) (o2 : f2.offset = 2) (c0 : P.cellsOf f0.type = 1) (c1 : P.cellsOf f1.type = 1) (c2 : P.cellsOf f2.type = 1)
    (k0 : P.underlying f0.type = some (.int .i64)) (k1 : P.underlying f1.type = some (.int .i64)) (k2 : P.underlying f2.type = some (.int .i64))
    (h : DataW.trod enc P W base spare held fuel t cs = some x) :
    ∃ (A : Option Addr) (c : Nat) (l : List S74), cs = [.slice A l.length c] ∧ l.length ≤ c ∧ Kd.C k74 W A l.length l ∧ l.length ≤ maxLen ∧ ∀ u ∈ l, (Lit.int .i64 u.f0).wf = true ∧ (Lit.int .i64 u.f1).wf = true ∧ (Lit.int .i64 u.f2).wf = true := by
  rcases open_slice ht h with ⟨rfl, _⟩ | ⟨a, len, cap, m, n, D, Pl, rfl, hb, hl, hm, hmm, rfl, hx⟩
  · exact ⟨none, 0, [], rfl, Nat.le_refl _, Kd.C_nil _ _, Nat.zero_le _, fun n h => by cases h⟩
  · have hlm : len ≤ m := by rw [hmm]; split <;> omega
    have each : ∀ i, i < len → ∃ q : S74, W.cell? (a.add (i * 3)) = some (.int .i64 q.f0) ∧ W.cell? (a.add (i * 3 + 1)) = some (.int .i64 q.f1) ∧ W.cell? (a.add (i * 3 + 2)) = some (.int .i64 q.f2) ∧
        (Lit.int .i64 q.f0).wf = true ∧ (Lit.int .i64 q.f1).wf = true ∧ (Lit.int .i64 q.f2).wf = true := fun i hi => by
      obtain ⟨cs', h1, h2⟩ := hx i (by omega)
      rw [ce] at h1
      obtain ⟨_, hlen, hcell⟩ := World.cells?_some h1
      obtain ⟨xs, k, hk, hxy, _, hxl, hf⟩ := DataW.trod_struct he h2
      match xs, hxl, cs', hlen with
      | [y0, y1, y2], _, [v0, v1, v2], _ =>
        have g0 := hf 0 f0 rfl
        have g1 := hf 1 f1 rfl
        have g2 := hf 2 f2 rfl
        simp [o0, o1, o2, c0, c1, c2] at g0 g1 g2
        have e0 := hcell 0 (by omega)
        have e1 := hcell 1 (by omega)
        have e2 := hcell 2 (by omega)
        rw [Go.Deep.add_add] at e0 e1 e2
        obtain ⟨n0, q0, _, w0⟩ := DataW.trod_int k0 g0
        obtain ⟨n1, q1, _, w1⟩ := DataW.trod_int k1 g1
        obtain ⟨n2, q2, _, w2⟩ := DataW.trod_int k2 g2
        simp only [List.cons.injEq, and_true] at q0 q1 q2
        subst q0 q1 q2
        exact ⟨⟨n0, n1, n2⟩, by simpa using e0, by simpa using e1, by simpa using e2, w0, w1, w2⟩
    haveI : Inhabited S74 := ⟨⟨0, 0, 0⟩⟩
    obtain ⟨q, hq⟩ := choose_lt each
    refine ⟨some a, cap, (List.range len).map q, by simp, by simpa using hl, ⟨by simp, by simp; unfold maxLen at hm; omega, fun _ => ⟨a, rfl, fun j p hj => ?_⟩⟩, by simp; omega, fun u hu => ?_⟩
    · have hj2 : j < len := by have := (List.getElem?_eq_some_iff.1 hj).1; simpa using this
      obtain rfl : q j = p := by simpa [hj2] using hj
      obtain ⟨g0, g1, g2, _, _, _⟩ := hq j hj2
      refine ⟨[.int .i64 (q j).f0, .int .i64 (q j).f1, .int .i64 (q j).f2], rfl, k74_mk _ _, fun z u hz => ?_⟩
      match z, hz with
      | 0, hz => obtain rfl : Value.int .i64 (q j).f0 = u := by simpa using hz
                 exact g0
      | 1, hz => obtain rfl : Value.int .i64 (q j).f1 = u := by simpa using hz
                 exact g1
      | 2, hz => obtain rfl : Value.int .i64 (q j).f2 = u := by simpa using hz
                 exact g2
      | z + 3, hz => simp at hz
    · obtain ⟨i, hi, rfl⟩ := List.mem_map.1 hu
      have := hq i (List.mem_range.1 hi)
      exact ⟨this.2.2.2.1, this.2.2.2.2.1, this.2.2.2.2.2⟩
/-- A slice of steps. -/
theorem in_steps {r : Reach} {b0 : Nat} {t e : TypeId} {f0 f1 f2 : Field} {v : Value} {d : DataW H} {p : List MemPlace} (ht : P.underlying t = some (.slice e)) (he : P.underlying e = some (.struct #[f0, f1, f2]))
    (ce : P.cellsOf e = 3) (o0 : f0.offset = 0) (o1 : f1.offset = 1) (o2 : f2.offset = 2) (c0 : P.cellsOf f0.type = 1) (c1 : P.cellsOf f1.type = 1) (c2 : P.cellsOf f2.type = 1)
    (k0 : P.underlying f0.type = some (.int .i64)) (k1 : P.underlying f1.type = some (.int .i64)) (k2 : P.underlying f2.type = some (.int .i64))
    (hv : Value.okWide P W r b0 t v) (h : DataW.Trod enc P W base spare held t v d p) :
    ∃ (A : Option Addr) (c : Nat) (l : List S74), v = .slice A l.length c ∧ l.length ≤ c ∧ Kd.C k74 W A l.length l ∧ l.length ≤ maxLen ∧ ∀ u ∈ l, (Lit.int .i64 u.f0).wf = true ∧ (Lit.int .i64 u.f1).wf = true ∧ (Lit.int .i64 u.f2).wf = true := by
  obtain ⟨A, n, c, rfl⟩ := okWide_slice ht hv
  obtain ⟨fuel, hf⟩ := h
  obtain ⟨A', c', l, e, r⟩ := in_triples ht he ce o0 o1 o2 c0 c1 c2 k0 k1 k2 hf
  refine ⟨A', c', l, ?_, r⟩
  simpa [Value.cells] using e
end Go.Proofs.Ytakhjhiofmgpnaa.G

namespace Go.Proofs.Ytakhjhiofmgpnaa.guaranteeNever
open Go.ChangeShapes Go.WideShapes Go.ChangeAt Go.RowKit
open Go.Proofs.YtakhjhiofmgpnaaW.PrintWords Go.Proofs.YtakhjhiofmgpnaaW.PrintLast Go.Proofs.YtakhjhiofmgpnaaW.PrintMore Go.Proofs.Ytakhjhiofmgpnaa.G Go.Proofs.Ytakhjhiofmgpnaa.PA Go.Proofs.Ytakhjhiofmgpnaa.PB Go.Proofs.Ytakhjhiofmgpnaa.PC Go.Proofs.Ytakhjhiofmgpnaa.PE Go.Proofs.Ytakhjhiofmgpnaa.PD
set_option linter.unusedVariables false
theorem own : ownKnob Try.prog.godebug = none := by kernel_rfl
theorem laidOut : laidOutB Try.prog = true := by kernel_rfl
theorem walk (A0 : Option Addr) (c0 : Nat) (l0 : List Int) (A1 : Option Addr) (c1 : Nat) (l1 : List Int) (A2 : Option Addr) (c2 : Nat) (l2 : List S74) (a3 : Bool) (w : World) (r0_ : Kd.C (Kd.int .i64) w A0 l0.length l0) (n0_ : l0.length ≤ c0) (r1_ : Kd.C (Kd.int .i64) w A1 l1.length l1) (n1_ : l1.length ≤ c1) (r2_ : Kd.C k74 w A2 l2.length l2) (n2_ : l2.length ≤ c2) (m0_ : l0.length ≤ maxLen) (w0_ : ∀ n ∈ l0, (Lit.int .i64 n).wf = true) (m1_ : l1.length ≤ maxLen) (w1_ : ∀ n ∈ l1, (Lit.int .i64 n).wf = true) (m2_ : l2.length ≤ maxLen) (w2_ : ∀ u ∈ l2, (Lit.int .i64 u.f0).wf = true ∧ (Lit.int .i64 u.f1).wf = true ∧ (Lit.int .i64 u.f2).wf = true) :
    Calls Try.prog 9 #[.slice A0 l0.length c0, .slice A1 l1.length c1, .slice A2 l2.length c2, .bool a3] w fun e w' => e = .returned (.bool true) ∧ Below w.heap.size w w' := by
  obtain ⟨k, h⟩ := E.never_law l0 l1 l2 a3 m0_ w0_ m1_ w1_ m2_ w2_
  refine (customslaw23_GuaranteeNever.calls k A0 c0 l0 A1 c1 l1 A2 c2 l2 a3 w r0_ n0_ r1_ n1_ r2_ n2_ h).mono ?_
  rintro e w' ⟨rfl, hd⟩
  exact ⟨rfl, hd⟩
set_option maxRecDepth 100000 in
theorem lifted (os : Os) (started : os.Started) (H : Type) (enc : TypeId × Value → H) :
    ReturnsInHanded {} Try.checked os 9 .any (Rows.guaranteeNeverSpec.pre6 enc Try.prog Try.f9 Rows.guaranteeNeverRow.domain false) (Rows.guaranteeNeverSpec.post enc Try.prog Try.f9 false true false false) := by
  refine returnsInHanded_of_change (C := Try.checked) own started (by kernel_rfl) Try.func9
    (ChangeSpec.witness6 (enc := enc) (C := Try.checked) false ⟨#[], #[.slice none 0 0, .slice none 0 0, .slice none 0 0, .bool false], []⟩ 8 (by kernel_rfl) (by kernel_rfl) (by kernel_rfl) (by kernel_rfl)) ?_
  intro W base args ds gs before hval0 hW hcnd _
  have hval : ∀ (j : Nat) t v, Try.f9.params[j]? = some t → args[j]? = some v → Value.okWide Try.prog W .any base t v := hval0
  have hW' := hW
  obtain ⟨p, q, hA0, hV, rfl, hfz, hnd⟩ := hW
  have hA : DataW.TrodAll enc Try.prog W 0 (fun _ => true) true Try.f9.params.toList args.toList ds p := hA0
  rw [Try.params9] at hA hval
  obtain ⟨v0, vs0, d0, ds0, p0, q0, hargs, rfl, rfl, h0, r0⟩ := trodAll_cons hA
  obtain ⟨v1, vs1, d1, ds1, p1, q1, rfl, rfl, rfl, h1, r1⟩ := trodAll_cons r0
  obtain ⟨v2, vs2, d2, ds2, p2, q2, rfl, rfl, rfl, h2, r2⟩ := trodAll_cons r1
  obtain ⟨v3, vs3, d3, ds3, p3, q3, rfl, rfl, rfl, h3, r3⟩ := trodAll_cons r2
  obtain ⟨rfl, rfl, rfl⟩ := trodAll_nil r3
  obtain rfl : args = #[v0, v1, v2, v3] := by cases args; simp_all
  obtain ⟨rfl, rfl⟩ := trodVars_none hV
  obtain ⟨sa0, sl0, sc0, rfl⟩ := okWide_slice Try.underlying22 (hval 0 22 v0 rfl rfl)
  have k0 := h0
  have lt0 : ∀ x ∈ p0, x.block < W.heap.size := by obtain ⟨m, hm⟩ := k0; exact DataW.trod_lt m _ _ _ hm
  obtain ⟨A0, c0, l0, e0, n0_, r0_, m0_, w0_⟩ : ∃ A c, ∃ l : List Int, (sa0 = A ∧ sl0 = l.length ∧ sc0 = c) ∧ l.length ≤ c ∧ Kd.C (Kd.int .i64) W A l.length l ∧ l.length ≤ maxLen ∧ ∀ n ∈ l, (Lit.int .i64 n).wf = true := by
    obtain ⟨fuel, hf⟩ := h0
    obtain ⟨A, c, l, e, r⟩ := in_ints Try.underlying22 Try.underlying3 (by kernel_rfl) hf
    exact ⟨A, c, l, by simpa [Value.cells] using e, r⟩
  obtain ⟨rfl, rfl, rfl⟩ := e0
  obtain ⟨sa1, sl1, sc1, rfl⟩ := okWide_slice Try.underlying22 (hval 1 22 v1 rfl rfl)
  have k1 := h1
  have lt1 : ∀ x ∈ p1, x.block < W.heap.size := by obtain ⟨m, hm⟩ := k1; exact DataW.trod_lt m _ _ _ hm
  obtain ⟨A1, c1, l1, e1, n1_, r1_, m1_, w1_⟩ : ∃ A c, ∃ l : List Int, (sa1 = A ∧ sl1 = l.length ∧ sc1 = c) ∧ l.length ≤ c ∧ Kd.C (Kd.int .i64) W A l.length l ∧ l.length ≤ maxLen ∧ ∀ n ∈ l, (Lit.int .i64 n).wf = true := by
    obtain ⟨fuel, hf⟩ := h1
    obtain ⟨A, c, l, e, r⟩ := in_ints Try.underlying22 Try.underlying3 (by kernel_rfl) hf
    exact ⟨A, c, l, by simpa [Value.cells] using e, r⟩
  obtain ⟨rfl, rfl, rfl⟩ := e1
  have k2 := h2
  have lt2 : ∀ x ∈ p2, x.block < W.heap.size := by obtain ⟨m, hm⟩ := k2; exact DataW.trod_lt m _ _ _ hm
  obtain ⟨A2, c2, l2, rfl, n2_, r2_, m2_, w2_⟩ := in_steps Try.underlying45 Try.underlying74 (by kernel_rfl) rfl rfl rfl (by kernel_rfl) (by kernel_rfl) (by kernel_rfl) Try.underlying3 Try.underlying3 Try.underlying3 (hval 2 45 v2 rfl rfl) h2
  obtain ⟨a3, rfl, rfl, rfl⟩ := open_bool Try.underlying4 (hval 3 4 v3 rfl rfl) h3
  clear hA0 hval0
  refine (walk _ _ _ _ _ _ _ _ _ _ W r0_ n0_ r1_ n1_ r2_ n2_ m0_ w0_ m1_ w1_ m2_ w2_).mono fun e W' ⟨he, bel⟩ => ?_
  subst he
  exact ⟨_, rfl, _, _, _, [], _, [], hW', trodAll_mk1 (shut_bool Try.underlying4 _), (trodAll_cons_mk (Below.trod laidOut (by kernel_rfl) (of_decide_eq_true (by kernel_rfl)) k0 bel lt0) (trodAll_cons_mk (Below.trod laidOut (by kernel_rfl) (of_decide_eq_true (by kernel_rfl)) k1 bel lt1) (trodAll_cons_mk (Below.trod laidOut (by kernel_rfl) (of_decide_eq_true (by kernel_rfl)) k2 bel lt2) (trodAll_cons_mk (shut_bool Try.underlying4 _) trodAll_mk0)))), rfl, bel.frame _, fun h => by cases h⟩
theorem over : Rows.guaranteeNeverRow.holds Try.pinned (OpenSpec.ofChange Rows.guaranteeNeverSpec) :=
  OpenClaim.holds_of_wide 9 Try.f9 rfl rfl rfl rfl rfl rfl rfl ⟨rfl, rfl, rfl, rfl, rfl⟩ rfl rfl rfl rfl rfl (by kernel_rfl) Try.func9 (by kernel_rfl)
    (of_decide_eq_true (by kernel_rfl)) (by unfold Func.isWrapper; first | (rw [if_pos (by decide +kernel)]; kernel_rfl) | (rw [if_neg (by decide +kernel)]; exact ⟨rfl, rfl⟩))
    (fun os started H enc _ => lifted os started H enc)
theorem proved : Rows.GuaranteeNeverSaid := over
#print axioms proved
end Go.Proofs.Ytakhjhiofmgpnaa.guaranteeNever
namespace Go.Proofs.Ytakhjhiofmgpnaa
/-- The row, under a short name, for the claim. -/
theorem guaranteeNever_holds : Rows.GuaranteeNeverSaid := guaranteeNever.proved
end Go.Proofs.Ytakhjhiofmgpnaa
