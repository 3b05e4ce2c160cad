-- Written by a program of this claim (wip/tools: mkprint.py, pr.sh) out of the translation: plain functions and their contracts. Lean checks every line.
import Derived.Test.YtakhjhiofmgpnaaPBx0
import Derived.Test.YtakhjhiofmgpnaaPBx1
import Derived.Test.YtakhjhiofmgpnaaPBx2
namespace Go.Proofs.Ytakhjhiofmgpnaa.PB
open Go.RowKit Go.Proofs.YtakhjhiofmgpnaaW.PrintWords Go.Proofs.YtakhjhiofmgpnaaW.PrintLast Go.Proofs.YtakhjhiofmgpnaaW.PrintMore Go.Proofs.Ytakhjhiofmgpnaa.G Go.Proofs.Ytakhjhiofmgpnaa.PA
attribute [local go_sem] max2_int min2_int max_two min_two max_three min_three max_four min_four   -- for this text's walks alone
set_option linter.unusedVariables false
set_option linter.unusedSimpArgs false

attribute [local go_sem high] eqA39
/-! ### customslaw23_GuaranteeRefused: function 5 -/
mutual
def customslaw23_GuaranteeRefused.l0 : Nat → Int → Int → Int → Int → Int → Int → Int → Int → Int → List (S39) → Int → Int → Int → List (S39) → Option (Bool)
  | 0, _, _, _, _, _, _, _, _, _, _, _, _, _, _ => none
  | k + 1, x1, x9, x10, x11, x12, x13, x173000, x173001, x173002, x173003, x183000, x183001, x183002, x183003 => if x13 < (x173003.length : Int) then (if 0 ≤ x13 then (if ((rd_T39 x173003 x13).f0) = x1 then (customslaw23_GuaranteeRefused.l0 k x1 x9 x10 x11 x12 (wrap64 (x13 + 1)) x173000 x173001 x173002 x173003 x183000 x183001 x183002 x183003) else (customslaw23_GuaranteeRefused.l0 k x1 x9 x10 x11 (wrap64 (x12 + ((rd_T39 x173003 x13).f1))) (wrap64 (x13 + 1)) x173000 x173001 x173002 x173003 x183000 x183001 x183002 x183003)) else (none)) else (if x11 = 0 then (if ((x9 == 0) != (decide ((wrap64 (x12 + x10)) ≤ x173001))) = true then (customslaw23_GuaranteeRefused.j1 k x1 x9 x10 x12 true x173000 x173001 x173002 x173003 x183000 x183001 x183002 x183003) else (if x9 = 0 then (customslaw23_GuaranteeRefused.j1 k x1 x9 x10 x12 false x173000 x173001 x173002 x173003 x183000 x183001 x183002 x183003) else (customslaw23_GuaranteeRefused.j1 k x1 x9 x10 x12 (x9 != 16) x173000 x173001 x173002 x173003 x183000 x183001 x183002 x183003))) else (customslaw23_GuaranteeRefused.j1 k x1 x9 x10 x12 true x173000 x173001 x173002 x173003 x183000 x183001 x183002 x183003))
def customslaw23_GuaranteeRefused.j1 : Nat → Int → Int → Int → Int → Bool → Int → Int → Int → List (S39) → Int → Int → Int → List (S39) → Option (Bool)
  | 0, _, _, _, _, _, _, _, _, _, _, _, _, _ => none
  | k + 1, x1, x9, x10, x12, x79, x173000, x173001, x173002, x173003, x183000, x183001, x183002, x183003 => if x79 = true then (some false) else (if x9 = 0 then (customslaw23_GuaranteeRefused.l1 k x1 x10 x12 0 0 x173000 x173001 x173002 x173003 x183000 x183001 x183002 x183003) else ((customslaw23_awake.f k).bind fun t187 => (some t187)))
def customslaw23_GuaranteeRefused.l1 : Nat → Int → Int → Int → Int → Int → Int → Int → Int → List (S39) → Int → Int → Int → List (S39) → Option (Bool)
  | 0, _, _, _, _, _, _, _, _, _, _, _, _, _ => none
  | k + 1, x1, x10, x12, x14, x15, x173000, x173001, x173002, x173003, x183000, x183001, x183002, x183003 => if x15 < (x183003.length : Int) then (if 0 ≤ x15 then (if ((rd_T39 x183003 x15).f0) = x1 then (if ((rd_T39 x183003 x15).f1) = x10 then (customslaw23_GuaranteeRefused.l1 k x1 x10 x12 x14 (wrap64 (x15 + 1)) x173000 x173001 x173002 x173003 x183000 x183001 x183002 x183003) else (some false)) else (customslaw23_GuaranteeRefused.l2 k x1 x10 x12 x14 x15 x173000 x173001 x173002 x173003 x183000 x183001 x183002 x183003)) else (none)) else ((guarantee_Total.f k x183000 x183001 x183002 x183003).bind fun t188 => (if t188 = (wrap64 (x12 + x10)) then ((customslaw23_awake.f k).bind fun t189 => (some t189)) else (some false)))
def customslaw23_GuaranteeRefused.l2 : Nat → Int → Int → Int → Int → Int → Int → Int → Int → List (S39) → Int → Int → Int → List (S39) → Option (Bool)
  | 0, _, _, _, _, _, _, _, _, _, _, _, _, _ => none
  | k + 1, x1, x10, x12, x14, x15, x173000, x173001, x173002, x173003, x183000, x183001, x183002, x183003 => if x14 < (x173003.length : Int) then (if 0 ≤ x14 then (if ((rd_T39 x173003 x14).f0) = x1 then (customslaw23_GuaranteeRefused.l2 k x1 x10 x12 (wrap64 (x14 + 1)) x15 x173000 x173001 x173002 x173003 x183000 x183001 x183002 x183003) else (if x14 ≥ (x173003.length : Int) then (some false) else (if 0 ≤ x15 then (if x15 < (x183003.length : Int) then (if (!(((rd_T39 x173003 x14).f0) == ((rd_T39 x183003 x15).f0)) || (!(((rd_T39 x173003 x14).f1) == ((rd_T39 x183003 x15).f1)))) = true then (some false) else (customslaw23_GuaranteeRefused.l1 k x1 x10 x12 (wrap64 (x14 + 1)) (wrap64 (x15 + 1)) x173000 x173001 x173002 x173003 x183000 x183001 x183002 x183003)) else (none)) else (none)))) else (none)) else (if x14 ≥ (x173003.length : Int) then (some false) else (if 0 ≤ x14 then (none) else (none)))
end
def customslaw23_GuaranteeRefused.f (k : Nat) (l0 : List Int) (a1 : Int) (a2 : Int) : Option (Bool) := (customsmade_Guarantee.f k l0).bind fun bt166 => ((customsmade_Within.f a1 12).bind fun t173 => ((customsmade_Within.f a2 2000).bind fun t174 => ((guarantee_Set.f k bt166.1 bt166.2.1 bt166.2.2.1 bt166.2.2.2 (wrap64 (1 + t173)) t174).bind fun bt175 => ((guarantee_Required.f k bt166.1 bt166.2.1 bt166.2.2.1 bt166.2.2.2 t174).bind fun bt183 => (customslaw23_GuaranteeRefused.l0 k (wrap64 (1 + t173)) bt175.2.2.2.2 bt183.1 bt183.2 0 0 bt166.1 bt166.2.1 bt166.2.2.1 bt166.2.2.2 bt175.1 bt175.2.1 bt175.2.2.1 bt175.2.2.2.1)))))
theorem customslaw23_GuaranteeRefused.mono_l : ∀ k, (∀ y0 y1 y2 y3 y4 y5 y6 y7 y8 y9 y10 y11 y12 y13, LeO (customslaw23_GuaranteeRefused.l0 k y0 y1 y2 y3 y4 y5 y6 y7 y8 y9 y10 y11 y12 y13) (customslaw23_GuaranteeRefused.l0 (k + 1) y0 y1 y2 y3 y4 y5 y6 y7 y8 y9 y10 y11 y12 y13)) ∧ (∀ y0 y1 y2 y3 y4 y5 y6 y7 y8 y9 y10 y11 y12, LeO (customslaw23_GuaranteeRefused.j1 k y0 y1 y2 y3 y4 y5 y6 y7 y8 y9 y10 y11 y12) (customslaw23_GuaranteeRefused.j1 (k + 1) y0 y1 y2 y3 y4 y5 y6 y7 y8 y9 y10 y11 y12)) ∧ (∀ y0 y1 y2 y3 y4 y5 y6 y7 y8 y9 y10 y11 y12, LeO (customslaw23_GuaranteeRefused.l1 k y0 y1 y2 y3 y4 y5 y6 y7 y8 y9 y10 y11 y12) (customslaw23_GuaranteeRefused.l1 (k + 1) y0 y1 y2 y3 y4 y5 y6 y7 y8 y9 y10 y11 y12)) ∧ (∀ y0 y1 y2 y3 y4 y5 y6 y7 y8 y9 y10 y11 y12, LeO (customslaw23_GuaranteeRefused.l2 k y0 y1 y2 y3 y4 y5 y6 y7 y8 y9 y10 y11 y12) (customslaw23_GuaranteeRefused.l2 (k + 1) y0 y1 y2 y3 y4 y5 y6 y7 y8 y9 y10 y11 y12))
  | 0 => ⟨fun _ _ _ _ _ _ _ _ _ _ _ _ _ _ r h => by simp [customslaw23_GuaranteeRefused.l0] at h, fun _ _ _ _ _ _ _ _ _ _ _ _ _ r h => by simp [customslaw23_GuaranteeRefused.j1] at h, fun _ _ _ _ _ _ _ _ _ _ _ _ _ r h => by simp [customslaw23_GuaranteeRefused.l1] at h, fun _ _ _ _ _ _ _ _ _ _ _ _ _ r h => by simp [customslaw23_GuaranteeRefused.l2] at h⟩
  | k + 1 => by
    obtain ⟨ih0, ih1, ih2, ih3⟩ := customslaw23_GuaranteeRefused.mono_l k
    refine ⟨?_, ?_, ?_, ?_⟩
    · intro y0 y1 y2 y3 y4 y5 y6 y7 y8 y9 y10 y11 y12 y13
      unfold customslaw23_GuaranteeRefused.l0
      repeat' first
      | (with_reducible exact ih0 _ _ _ _ _ _ _ _ _ _ _ _ _ _)
      | (with_reducible exact ih1 _ _ _ _ _ _ _ _ _ _ _ _ _)
      | (with_reducible exact ih2 _ _ _ _ _ _ _ _ _ _ _ _ _)
      | (with_reducible exact ih3 _ _ _ _ _ _ _ _ _ _ _ _ _)
      | (with_reducible exact customslaw23_awake.mono _)
      | (with_reducible exact customsmade_Guarantee.mono _ _)
      | (with_reducible exact guarantee_Required.mono _ _ _ _ _ _)
      | (with_reducible exact guarantee_Set.mono _ _ _ _ _ _ _)
      | (with_reducible exact guarantee_Total.mono _ _ _ _ _)
      | (with_reducible exact LeO.refl _)
      | (with_reducible exact LeO.none _)
      | (with_reducible refine LeO.ite ?_ ?_)
      | (with_reducible refine LeO.bind ?_ (fun _ => ?_))
      | exact ih0 _ _ _ _ _ _ _ _ _ _ _ _ _ _
      | exact ih1 _ _ _ _ _ _ _ _ _ _ _ _ _
      | exact ih2 _ _ _ _ _ _ _ _ _ _ _ _ _
      | exact ih3 _ _ _ _ _ _ _ _ _ _ _ _ _
      | exact customslaw23_awake.mono _
      | exact customsmade_Guarantee.mono _ _
      | exact guarantee_Required.mono _ _ _ _ _ _
      | exact guarantee_Set.mono _ _ _ _ _ _ _
      | exact guarantee_Total.mono _ _ _ _ _
      | exact LeO.none _
      | refine LeO.ite ?_ ?_
      | refine LeO.bind ?_ (fun _ => ?_)
    · intro y0 y1 y2 y3 y4 y5 y6 y7 y8 y9 y10 y11 y12
      unfold customslaw23_GuaranteeRefused.j1
      repeat' first
      | (with_reducible exact ih0 _ _ _ _ _ _ _ _ _ _ _ _ _ _)
      | (with_reducible exact ih1 _ _ _ _ _ _ _ _ _ _ _ _ _)
      | (with_reducible exact ih2 _ _ _ _ _ _ _ _ _ _ _ _ _)
      | (with_reducible exact ih3 _ _ _ _ _ _ _ _ _ _ _ _ _)
      | (with_reducible exact customslaw23_awake.mono _)
      | (with_reducible exact customsmade_Guarantee.mono _ _)
      | (with_reducible exact guarantee_Required.mono _ _ _ _ _ _)
      | (with_reducible exact guarantee_Set.mono _ _ _ _ _ _ _)
      | (with_reducible exact guarantee_Total.mono _ _ _ _ _)
      | (with_reducible exact LeO.refl _)
      | (with_reducible exact LeO.none _)
      | (with_reducible refine LeO.ite ?_ ?_)
      | (with_reducible refine LeO.bind ?_ (fun _ => ?_))
      | exact ih0 _ _ _ _ _ _ _ _ _ _ _ _ _ _
      | exact ih1 _ _ _ _ _ _ _ _ _ _ _ _ _
      | exact ih2 _ _ _ _ _ _ _ _ _ _ _ _ _
      | exact ih3 _ _ _ _ _ _ _ _ _ _ _ _ _
      | exact customslaw23_awake.mono _
      | exact customsmade_Guarantee.mono _ _
      | exact guarantee_Required.mono _ _ _ _ _ _
      | exact guarantee_Set.mono _ _ _ _ _ _ _
      | exact guarantee_Total.mono _ _ _ _ _
      | exact LeO.none _
      | refine LeO.ite ?_ ?_
      | refine LeO.bind ?_ (fun _ => ?_)
    · intro y0 y1 y2 y3 y4 y5 y6 y7 y8 y9 y10 y11 y12
      unfold customslaw23_GuaranteeRefused.l1
      repeat' first
      | (with_reducible exact ih0 _ _ _ _ _ _ _ _ _ _ _ _ _ _)
      | (with_reducible exact ih1 _ _ _ _ _ _ _ _ _ _ _ _ _)
      | (with_reducible exact ih2 _ _ _ _ _ _ _ _ _ _ _ _ _)
      | (with_reducible exact ih3 _ _ _ _ _ _ _ _ _ _ _ _ _)
      | (with_reducible exact customslaw23_awake.mono _)
      | (with_reducible exact customsmade_Guarantee.mono _ _)
      | (with_reducible exact guarantee_Required.mono _ _ _ _ _ _)
      | (with_reducible exact guarantee_Set.mono _ _ _ _ _ _ _)
      | (with_reducible exact guarantee_Total.mono _ _ _ _ _)
      | (with_reducible exact LeO.refl _)
      | (with_reducible exact LeO.none _)
      | (with_reducible refine LeO.ite ?_ ?_)
      | (with_reducible refine LeO.bind ?_ (fun _ => ?_))
      | exact ih0 _ _ _ _ _ _ _ _ _ _ _ _ _ _
      | exact ih1 _ _ _ _ _ _ _ _ _ _ _ _ _
      | exact ih2 _ _ _ _ _ _ _ _ _ _ _ _ _
      | exact ih3 _ _ _ _ _ _ _ _ _ _ _ _ _
      | exact customslaw23_awake.mono _
      | exact customsmade_Guarantee.mono _ _
      | exact guarantee_Required.mono _ _ _ _ _ _
      | exact guarantee_Set.mono _ _ _ _ _ _ _
      | exact guarantee_Total.mono _ _ _ _ _
      | exact LeO.none _
      | refine LeO.ite ?_ ?_
      | refine LeO.bind ?_ (fun _ => ?_)
    · intro y0 y1 y2 y3 y4 y5 y6 y7 y8 y9 y10 y11 y12
      unfold customslaw23_GuaranteeRefused.l2
      repeat' first
      | (with_reducible exact ih0 _ _ _ _ _ _ _ _ _ _ _ _ _ _)
      | (with_reducible exact ih1 _ _ _ _ _ _ _ _ _ _ _ _ _)
      | (with_reducible exact ih2 _ _ _ _ _ _ _ _ _ _ _ _ _)
      | (with_reducible exact ih3 _ _ _ _ _ _ _ _ _ _ _ _ _)
      | (with_reducible exact customslaw23_awake.mono _)
      | (with_reducible exact customsmade_Guarantee.mono _ _)
      | (with_reducible exact guarantee_Required.mono _ _ _ _ _ _)
      | (with_reducible exact guarantee_Set.mono _ _ _ _ _ _ _)
      | (with_reducible exact guarantee_Total.mono _ _ _ _ _)
      | (with_reducible exact LeO.refl _)
      | (with_reducible exact LeO.none _)
      | (with_reducible refine LeO.ite ?_ ?_)
      | (with_reducible refine LeO.bind ?_ (fun _ => ?_))
      | exact ih0 _ _ _ _ _ _ _ _ _ _ _ _ _ _
      | exact ih1 _ _ _ _ _ _ _ _ _ _ _ _ _
      | exact ih2 _ _ _ _ _ _ _ _ _ _ _ _ _
      | exact ih3 _ _ _ _ _ _ _ _ _ _ _ _ _
      | exact customslaw23_awake.mono _
      | exact customsmade_Guarantee.mono _ _
      | exact guarantee_Required.mono _ _ _ _ _ _
      | exact guarantee_Set.mono _ _ _ _ _ _ _
      | exact guarantee_Total.mono _ _ _ _ _
      | exact LeO.none _
      | refine LeO.ite ?_ ?_
      | refine LeO.bind ?_ (fun _ => ?_)
theorem customslaw23_GuaranteeRefused.mono : ∀ a0 a1 a2 k, LeO (customslaw23_GuaranteeRefused.f k a0 a1 a2) (customslaw23_GuaranteeRefused.f (k + 1) a0 a1 a2) := by
  intro a0 a1 a2 k
  obtain ⟨ih0, ih1, ih2, ih3⟩ := customslaw23_GuaranteeRefused.mono_l k
  unfold customslaw23_GuaranteeRefused.f
  repeat' first
      | (with_reducible exact ih0 _ _ _ _ _ _ _ _ _ _ _ _ _ _)
      | (with_reducible exact ih1 _ _ _ _ _ _ _ _ _ _ _ _ _)
      | (with_reducible exact ih2 _ _ _ _ _ _ _ _ _ _ _ _ _)
      | (with_reducible exact ih3 _ _ _ _ _ _ _ _ _ _ _ _ _)
      | (with_reducible exact customslaw23_awake.mono _)
      | (with_reducible exact customsmade_Guarantee.mono _ _)
      | (with_reducible exact guarantee_Required.mono _ _ _ _ _ _)
      | (with_reducible exact guarantee_Set.mono _ _ _ _ _ _ _)
      | (with_reducible exact guarantee_Total.mono _ _ _ _ _)
      | (with_reducible exact LeO.refl _)
      | (with_reducible exact LeO.none _)
      | (with_reducible refine LeO.ite ?_ ?_)
      | (with_reducible refine LeO.bind ?_ (fun _ => ?_))
      | exact ih0 _ _ _ _ _ _ _ _ _ _ _ _ _ _
      | exact ih1 _ _ _ _ _ _ _ _ _ _ _ _ _
      | exact ih2 _ _ _ _ _ _ _ _ _ _ _ _ _
      | exact ih3 _ _ _ _ _ _ _ _ _ _ _ _ _
      | exact customslaw23_awake.mono _
      | exact customsmade_Guarantee.mono _ _
      | exact guarantee_Required.mono _ _ _ _ _ _
      | exact guarantee_Set.mono _ _ _ _ _ _ _
      | exact guarantee_Total.mono _ _ _ _ _
      | exact LeO.none _
      | refine LeO.ite ?_ ?_
      | refine LeO.bind ?_ (fun _ => ?_)
set_option maxHeartbeats 8000000 in
set_option maxRecDepth 100000 in
theorem customslaw23_GuaranteeRefused.calls (k : Nat) (A0 : Option Addr) (c0 : Nat) (l0 : List Int) (a1 : Int) (a2 : Int) (r : Bool) (w : World) (hr0 : Kd.C (Kd.int .i64) w A0 l0.length l0) (hc0 : l0.length ≤ c0) (h : customslaw23_GuaranteeRefused.f k l0 a1 a2 = some r) :
    Calls Try.prog 5 #[.slice A0 l0.length c0, .int .i64 a1, .int .i64 a2] w fun e w' => e = .returned (.bool r) ∧ Below w.heap.size w w' := by
  have hu25 := Try.underlying25
  have hu39 := Try.underlying39
  have HR0 := Aside0.mk hr0
  have HC0 := Aside0.mk hc0
  clear hr0 hc0
  have HB := Aside0.mk (Below.refl w.heap.size w)
  have H : ((customsmade_Guarantee.f k l0).bind fun bt166 => ((customsmade_Within.f a1 12).bind fun t173 => ((customsmade_Within.f a2 2000).bind fun t174 => ((guarantee_Set.f k bt166.1 bt166.2.1 bt166.2.2.1 bt166.2.2.2 (wrap64 (1 + t173)) t174).bind fun bt175 => ((guarantee_Required.f k bt166.1 bt166.2.1 bt166.2.2.1 bt166.2.2.2 t174).bind fun bt183 => (customslaw23_GuaranteeRefused.l0 k (wrap64 (1 + t173)) bt175.2.2.2.2 bt183.1 bt183.2 0 0 bt166.1 bt166.2.1 bt166.2.2.1 bt166.2.2.2 bt175.1 bt175.2.1 bt175.2.2.1 bt175.2.2.2.1)))))) = some r := h
  clear h
  replace H := Option.bind_eq_some_iff.mp H
  obtain ⟨⟨t166, t167, t168, t169⟩, A40, H⟩ := H
  replace H : ((customsmade_Within.f a1 12).bind fun t173 => ((customsmade_Within.f a2 2000).bind fun t174 => ((guarantee_Set.f k t166 t167 t168 t169 (wrap64 (1 + t173)) t174).bind fun bt175 => ((guarantee_Required.f k t166 t167 t168 t169 t174).bind fun bt183 => (customslaw23_GuaranteeRefused.l0 k (wrap64 (1 + t173)) bt175.2.2.2.2 bt183.1 bt183.2 0 0 t166 t167 t168 t169 bt175.1 bt175.2.1 bt175.2.2.1 bt175.2.2.2.1))))) = some r := H
  have A4 := Aside0.mk A40
  clear A40
  replace H := Option.bind_eq_some_iff.mp H
  obtain ⟨t173, A50, H⟩ := H
  replace H : ((customsmade_Within.f a2 2000).bind fun t174 => ((guarantee_Set.f k t166 t167 t168 t169 (wrap64 (1 + t173)) t174).bind fun bt175 => ((guarantee_Required.f k t166 t167 t168 t169 t174).bind fun bt183 => (customslaw23_GuaranteeRefused.l0 k (wrap64 (1 + t173)) bt175.2.2.2.2 bt183.1 bt183.2 0 0 t166 t167 t168 t169 bt175.1 bt175.2.1 bt175.2.2.1 bt175.2.2.2.1)))) = some r := H
  have A5 := Aside0.mk A50
  clear A50
  replace H := Option.bind_eq_some_iff.mp H
  obtain ⟨t174, A60, H⟩ := H
  replace H : ((guarantee_Set.f k t166 t167 t168 t169 (wrap64 (1 + t173)) t174).bind fun bt175 => ((guarantee_Required.f k t166 t167 t168 t169 t174).bind fun bt183 => (customslaw23_GuaranteeRefused.l0 k (wrap64 (1 + t173)) bt175.2.2.2.2 bt183.1 bt183.2 0 0 t166 t167 t168 t169 bt175.1 bt175.2.1 bt175.2.2.1 bt175.2.2.2.1))) = some r := H
  have A6 := Aside0.mk A60
  clear A60
  replace H := Option.bind_eq_some_iff.mp H
  obtain ⟨⟨t175, t176, t177, t178, t181⟩, A70, H⟩ := H
  replace H : ((guarantee_Required.f k t166 t167 t168 t169 t174).bind fun bt183 => (customslaw23_GuaranteeRefused.l0 k (wrap64 (1 + t173)) t181 bt183.1 bt183.2 0 0 t166 t167 t168 t169 t175 t176 t177 t178)) = some r := H
  have A7 := Aside0.mk A70
  clear A70
  replace H := Option.bind_eq_some_iff.mp H
  obtain ⟨⟨t183, t184⟩, A80, H⟩ := H
  replace H : (customslaw23_GuaranteeRefused.l0 k (wrap64 (1 + t173)) t181 t183 t184 0 0 t166 t167 t168 t169 t175 t176 t177 t178) = some r := H
  have A8 := Aside0.mk A80
  clear A80
  have H' := Aside0.mk H
  clear H
  go_enter Try.func5, Try.ntmps5
  go_wp2_with (first | (go_at_call 10; (with_reducible refine (customsmade_Guarantee.calls k _ _ l0 t166 t167 t168 t169 _ ?side1 ?side2 A4.out).mono ?_); (case side1 => repeat (first | exact HR0.out | (with_reducible refine Kd.C_alloc ?_ _) | (with_reducible refine Kd.C_drewN ?_ _) | (with_reducible refine Kd.C_drew ?_))); (case side2 => exact HC0.out); rintro e w9 ⟨v170, rfl, ho0, hb⟩; have n0_ := Aside0.mk (Kd.R_lower ho0 (below_size (by repeat (first | (with_reducible first | exact HB.out | apply below_alloc | apply pw_below_drewN | apply below_drew1) | exact HB.out)))); have n1_ := Aside0.mk (below_step (by repeat (first | (with_reducible first | exact HB.out | apply below_alloc | apply pw_below_drewN | apply below_drew1) | exact HB.out)) hb); clear HB; have HO171 := n0_; have HB := n1_; clear n0_ n1_; (try clear hb); (try clear hb2); (try clear hk); (try clear hi); (try clear ho0)) | ((with_reducible refine gate_dst (N := 7) rfl ?_); refine box_event ?hg (N := 7) ?hd (cs := #[.int .i64 0, .int .i64 0, .int .i64 0, .slice none 0 0]) (t := 25) ?hr ?_; (case hd => rfl); (case hg => rfl); (case hr => first | (go_simp; done) | (go_simp; rfl)); intro gb172 hg w10 hbox hb; have n0_ := Aside0.mk (Kd.R_below (by (with_reducible repeat (first | apply Kd.R_alloc | apply Kd.R_drewN | apply Kd.R_drew)); exact HO171.out) hb); have n1_ := Aside0.mk (below_step (by repeat (first | (with_reducible first | exact HB.out | apply below_alloc | apply pw_below_drewN | apply below_drew1) | exact HB.out)) hb); have n2_ := Aside0.mk (hbox); have n3_ := Aside0.mk ((by rw [hg]; exact (below_size (by repeat (first | (with_reducible first | exact HB.out | apply below_alloc | apply pw_below_drewN | apply below_drew1) | exact HB.out))) : w.heap.size ≤ gb172)); have n4_ := Aside0.mk ((by rw [hg]; exact (below_size (by repeat (first | (with_reducible first | exact HB.out | apply below_alloc | apply pw_below_drewN | apply below_drew1) | exact HB.out))) : w.heap.size ≤ gb172)); clear HO171; clear HB; have HO171 := n0_; have HB := n1_; have BK172 := n2_; have GW172 := n3_; have GE172 := n4_; clear n0_ n1_ n2_ n3_ n4_; clear hb hbox hg; have hcz11_0 : w10.cell? ⟨gb172, 0, none⟩ = some (.int .i64 0) := (blk_cell BK172.out 0).trans rfl; have hcz11_1 : w10.cell? ⟨gb172, 1, none⟩ = some (.int .i64 0) := (blk_cell BK172.out 1).trans rfl; have hcz11_2 : w10.cell? ⟨gb172, 2, none⟩ = some (.int .i64 0) := (blk_cell BK172.out 2).trans rfl; have hcz11_3 : w10.cell? ⟨gb172, 3, none⟩ = some (.slice none 0 0) := (blk_cell BK172.out 3).trans rfl; have hfz11_0 := blk_frozen BK172.out 0; have hfz11_1 := blk_frozen BK172.out 1; have hfz11_2 := blk_frozen BK172.out 2; have hfz11_3 := blk_frozen BK172.out 3; obtain ⟨Ao12, co12, eo12⟩ := Kd.R_slice HO171.out; subst eo12) | (go_at_call 16; (with_reducible refine (customsmade_Within.calls a1 12 t173 _ A5.out).mono ?_); rintro e w' ⟨rfl, ⟨nd, rfl⟩⟩; (try first | exact ⟨rfl, _, World.drewN_drewN _ _ _⟩ | exact ⟨rfl, _, Eq.trans (World.drewN_drewN _ _ _) (congrArg (World.drewN _) (Nat.add_assoc _ _ _))⟩)) | (go_at_call 16; (with_reducible refine (customsmade_Within.calls a2 2000 t174 _ A6.out).mono ?_); rintro e w' ⟨rfl, ⟨nd, rfl⟩⟩; (try first | exact ⟨rfl, _, World.drewN_drewN _ _ _⟩ | exact ⟨rfl, _, Eq.trans (World.drewN_drewN _ _ _) (congrArg (World.drewN _) (Nat.add_assoc _ _ _))⟩)) | (go_at_call 19; (with_reducible refine (guarantee_Set.calls k t166 t167 t168 _ _ t169 (wrap64 (1 + t173)) t174 t175 t176 t177 t178 t181 _ ?side1 ?side2 A7.out).mono ?_); (case side1 => refine (Kd.R_reads' (e := 39) (base := w.heap.size) (ok := fun k_ => True) (n := t169.length) (c := co12) ?_).2.2; exact (by (with_reducible repeat (first | apply Kd.R_alloc | apply Kd.R_drewN | apply Kd.R_drew)); exact (Kd.R_mono (Kd.R_far (p := ⟨gb172, 3, none⟩) (Kd.R_far (p := ⟨gb172, 2, none⟩) (Kd.R_far (p := ⟨gb172, 1, none⟩) (Kd.R_far (p := ⟨gb172, 0, none⟩) (Kd.R_types HO171.out BK172.out (by decide)) (fun _ hk => hk.2) (.int .i64 t166)) (fun _ hk => hk.2) (.int .i64 t167)) (fun _ hk => hk.2) (.int .i64 t168)) (fun _ hk => hk.2) (.slice Ao12 t169.length co12)) (fun _ h_ => h_.1)))); (case side2 => exact (Kd.R_reads' HO171.out).2.1); rintro e w13 ⟨v179, rfl, ho0, hb⟩; have n0_ := Aside0.mk (Kd.R_elder' (by (with_reducible repeat (first | apply Kd.R_alloc | apply Kd.R_drewN | apply Kd.R_drew)); exact (Kd.R_mono (Kd.R_far (p := ⟨gb172, 3, none⟩) (Kd.R_far (p := ⟨gb172, 2, none⟩) (Kd.R_far (p := ⟨gb172, 1, none⟩) (Kd.R_far (p := ⟨gb172, 0, none⟩) (Kd.R_types HO171.out BK172.out (by decide)) (fun _ hk => hk.2) (.int .i64 t166)) (fun _ hk => hk.2) (.int .i64 t167)) (fun _ hk => hk.2) (.int .i64 t168)) (fun _ hk => hk.2) (.slice Ao12 t169.length co12)) (fun _ h_ => h_.1))) (Kd.R_base ho0) hb); have n1_ := Aside0.mk (Kd.R_lower (Kd.R_new' ho0 (Kd.R_lt (by (with_reducible repeat (first | apply Kd.R_alloc | apply Kd.R_drewN | apply Kd.R_drew)); exact (Kd.R_mono (Kd.R_far (p := ⟨gb172, 3, none⟩) (Kd.R_far (p := ⟨gb172, 2, none⟩) (Kd.R_far (p := ⟨gb172, 1, none⟩) (Kd.R_far (p := ⟨gb172, 0, none⟩) (Kd.R_types HO171.out BK172.out (by decide)) (fun _ hk => hk.2) (.int .i64 t166)) (fun _ hk => hk.2) (.int .i64 t167)) (fun _ hk => hk.2) (.int .i64 t168)) (fun _ hk => hk.2) (.slice Ao12 t169.length co12)) (fun _ h_ => h_.1))))) (below_size (by repeat (first | (with_reducible first | exact HB.out | apply below_alloc | apply pw_below_drewN | apply below_drew1 | refine below_set ?_ GE172.out) | exact HB.out)))); have n2_ := Aside0.mk (blk_below (g := gb172) (o := .cells #[.int .i64 t166, .int .i64 t167, .int .i64 t168, .slice Ao12 t169.length co12] 25 (0, 0)) (by (with_reducible repeat (first | refine blk_drewN ?_ _ | refine blk_drew ?_ | refine blk_alloc ?_ _)); refine blk_put (cs := #[.int .i64 t166, .int .i64 t167, .int .i64 t168, .slice none 0 0]) ?_ 3 _ rfl; (with_reducible repeat (first | refine blk_drewN ?_ _ | refine blk_drew ?_ | refine blk_alloc ?_ _)); refine blk_put (cs := #[.int .i64 t166, .int .i64 t167, .int .i64 0, .slice none 0 0]) ?_ 2 _ rfl; (with_reducible repeat (first | refine blk_drewN ?_ _ | refine blk_drew ?_ | refine blk_alloc ?_ _)); refine blk_put (cs := #[.int .i64 t166, .int .i64 0, .int .i64 0, .slice none 0 0]) ?_ 1 _ rfl; (with_reducible repeat (first | refine blk_drewN ?_ _ | refine blk_drew ?_ | refine blk_alloc ?_ _)); refine blk_put (cs := #[.int .i64 0, .int .i64 0, .int .i64 0, .slice none 0 0]) ?_ 0 _ rfl; (with_reducible repeat (first | refine blk_drewN ?_ _ | refine blk_drew ?_ | refine blk_alloc ?_ _)); exact BK172.out) hb); have n3_ := Aside0.mk (below_step (by repeat (first | (with_reducible first | exact HB.out | apply below_alloc | apply pw_below_drewN | apply below_drew1 | refine below_set ?_ GE172.out) | exact HB.out)) hb); clear HO171; clear BK172; clear HB; have HO171 := n0_; have HO180 := n1_; have BK172 := n2_; have HB := n3_; clear n0_ n1_ n2_ n3_; (try clear hb); (try clear hb2); (try clear hk); (try clear hi); (try clear ho0)) | ((with_reducible refine gate_dst (N := 8) rfl ?_); refine box_event ?hg (N := 8) ?hd (cs := #[.int .i64 0, .int .i64 0, .int .i64 0, .slice none 0 0]) (t := 25) ?hr ?_; (case hd => rfl); (case hg => rfl); (case hr => first | (go_simp; done) | (go_simp; rfl)); intro gb182 hg w14 hbox hb; have n0_ := Aside0.mk (Kd.R_below (by (with_reducible repeat (first | apply Kd.R_alloc | apply Kd.R_drewN | apply Kd.R_drew)); exact HO171.out) hb); have n1_ := Aside0.mk (Kd.R_below (by (with_reducible repeat (first | apply Kd.R_alloc | apply Kd.R_drewN | apply Kd.R_drew)); exact HO180.out) hb); have n2_ := Aside0.mk (blk_below (g := gb172) (o := .cells #[.int .i64 t166, .int .i64 t167, .int .i64 t168, .slice Ao12 t169.length co12] 25 (0, 0)) (by (with_reducible repeat (first | refine blk_drewN ?_ _ | refine blk_drew ?_ | refine blk_alloc ?_ _)); exact BK172.out) hb); have n3_ := Aside0.mk (below_step (by repeat (first | (with_reducible first | exact HB.out | apply below_alloc | apply pw_below_drewN | apply below_drew1 | refine below_set ?_ GE172.out) | exact HB.out)) hb); have n4_ := Aside0.mk (hbox); have n5_ := Aside0.mk ((by rw [hg]; exact (below_size (by repeat (first | (with_reducible first | exact HB.out | apply below_alloc | apply pw_below_drewN | apply below_drew1 | refine below_set ?_ GE172.out) | exact HB.out))) : w.heap.size ≤ gb182)); have n6_ := Aside0.mk ((by rw [hg]; exact (below_size (by repeat (first | (with_reducible first | exact HB.out | apply below_alloc | apply pw_below_drewN | apply below_drew1 | refine below_set ?_ GE172.out) | exact HB.out))) : w.heap.size ≤ gb182)); have n7_ := Aside0.mk ((by rw [hg]; exact Nat.ne_of_lt (blk_lt (g := gb172) (o := .cells #[.int .i64 t166, .int .i64 t167, .int .i64 t168, .slice Ao12 t169.length co12] 25 (0, 0)) (by (with_reducible repeat (first | refine blk_drewN ?_ _ | refine blk_drew ?_ | refine blk_alloc ?_ _)); exact BK172.out)) : gb172 ≠ gb182)); have n8_ := Aside0.mk ((by rw [hg]; exact Nat.ne_of_gt (blk_lt (g := gb172) (o := .cells #[.int .i64 t166, .int .i64 t167, .int .i64 t168, .slice Ao12 t169.length co12] 25 (0, 0)) (by (with_reducible repeat (first | refine blk_drewN ?_ _ | refine blk_drew ?_ | refine blk_alloc ?_ _)); exact BK172.out)) : gb182 ≠ gb172)); clear HO171; clear HO180; clear BK172; clear HB; have HO171 := n0_; have HO180 := n1_; have BK172 := n2_; have HB := n3_; have BK182 := n4_; have GW182 := n5_; have GE182 := n6_; have NB172_182 := n7_; have NB182_172 := n8_; clear n0_ n1_ n2_ n3_ n4_ n5_ n6_ n7_ n8_; clear hb hbox hg; have hnb15 := NB182_172.out; have hnc15 := NB172_182.out; have hcz16_0 : w14.cell? ⟨gb182, 0, none⟩ = some (.int .i64 0) := (blk_cell BK182.out 0).trans rfl; have hcz16_1 : w14.cell? ⟨gb182, 1, none⟩ = some (.int .i64 0) := (blk_cell BK182.out 1).trans rfl; have hcz16_2 : w14.cell? ⟨gb182, 2, none⟩ = some (.int .i64 0) := (blk_cell BK182.out 2).trans rfl; have hcz16_3 : w14.cell? ⟨gb182, 3, none⟩ = some (.slice none 0 0) := (blk_cell BK182.out 3).trans rfl; have hfz16_0 := blk_frozen BK182.out 0; have hfz16_1 := blk_frozen BK182.out 1; have hfz16_2 := blk_frozen BK182.out 2; have hfz16_3 := blk_frozen BK182.out 3; obtain ⟨Ao17, co17, eo17⟩ := Kd.R_slice HO180.out; subst eo17; have hcz18_0 : w14.cell? ⟨gb172, 0, none⟩ = some (.int .i64 t166) := (blk_cell BK172.out 0).trans rfl; have hcz18_1 : w14.cell? ⟨gb172, 1, none⟩ = some (.int .i64 t167) := (blk_cell BK172.out 1).trans rfl; have hcz18_2 : w14.cell? ⟨gb172, 2, none⟩ = some (.int .i64 t168) := (blk_cell BK172.out 2).trans rfl; have hcz18_3 : w14.cell? ⟨gb172, 3, none⟩ = some (.slice Ao12 t169.length co12) := (blk_cell BK172.out 3).trans rfl; have hfz18_0 := blk_frozen BK172.out 0; have hfz18_1 := blk_frozen BK172.out 1; have hfz18_2 := blk_frozen BK172.out 2; have hfz18_3 := blk_frozen BK172.out 3) | (go_at_call 17; (with_reducible refine (guarantee_Required.calls k t166 t167 t168 _ _ t169 t174 t183 t184 _ ?side1 ?side2 A8.out).mono ?_); (case side1 => refine (Kd.R_reads' (e := 39) (base := w.heap.size) (ok := fun k_ => (True ∧ some k_ ≠ (.slice Ao17 t178.length co17 : Value).ownBlock)) (n := t169.length) (c := co12) ?_).2.2; exact (by (with_reducible repeat (first | apply Kd.R_alloc | apply Kd.R_drewN | apply Kd.R_drew)); exact (Kd.R_mono (Kd.R_far (p := ⟨gb182, 3, none⟩) (Kd.R_far (p := ⟨gb182, 2, none⟩) (Kd.R_far (p := ⟨gb182, 1, none⟩) (Kd.R_far (p := ⟨gb182, 0, none⟩) (Kd.R_types HO171.out BK182.out (by decide)) (fun _ hk => hk.2) (.int .i64 t175)) (fun _ hk => hk.2) (.int .i64 t176)) (fun _ hk => hk.2) (.int .i64 t177)) (fun _ hk => hk.2) (.slice Ao17 t178.length co17)) (fun _ h_ => h_.1)))); (case side2 => exact (Kd.R_reads' HO171.out).2.1); rintro e w19 ⟨rfl, hb⟩; have n0_ := Aside0.mk (Kd.R_below (by (with_reducible repeat (first | apply Kd.R_alloc | apply Kd.R_drewN | apply Kd.R_drew)); exact (Kd.R_mono (Kd.R_far (p := ⟨gb182, 3, none⟩) (Kd.R_far (p := ⟨gb182, 2, none⟩) (Kd.R_far (p := ⟨gb182, 1, none⟩) (Kd.R_far (p := ⟨gb182, 0, none⟩) (Kd.R_types HO171.out BK182.out (by decide)) (fun _ hk => hk.2) (.int .i64 t175)) (fun _ hk => hk.2) (.int .i64 t176)) (fun _ hk => hk.2) (.int .i64 t177)) (fun _ hk => hk.2) (.slice Ao17 t178.length co17)) (fun _ h_ => h_.1))) hb); have n1_ := Aside0.mk (Kd.R_below (by (with_reducible repeat (first | apply Kd.R_alloc | apply Kd.R_drewN | apply Kd.R_drew)); exact (Kd.R_mono (Kd.R_far (p := ⟨gb182, 3, none⟩) (Kd.R_far (p := ⟨gb182, 2, none⟩) (Kd.R_far (p := ⟨gb182, 1, none⟩) (Kd.R_far (p := ⟨gb182, 0, none⟩) (Kd.R_types HO180.out BK182.out (by decide)) (fun _ hk => hk.2) (.int .i64 t175)) (fun _ hk => hk.2) (.int .i64 t176)) (fun _ hk => hk.2) (.int .i64 t177)) (fun _ hk => hk.2) (.slice Ao17 t178.length co17)) (fun _ h_ => h_.1))) hb); have n2_ := Aside0.mk (blk_below (g := gb172) (o := .cells #[.int .i64 t166, .int .i64 t167, .int .i64 t168, .slice Ao12 t169.length co12] 25 (0, 0)) (by (with_reducible repeat (first | refine blk_drewN ?_ _ | refine blk_drew ?_ | refine blk_alloc ?_ _)); refine blk_far ?_ NB172_182.out _; (with_reducible repeat (first | refine blk_drewN ?_ _ | refine blk_drew ?_ | refine blk_alloc ?_ _)); refine blk_far ?_ NB172_182.out _; (with_reducible repeat (first | refine blk_drewN ?_ _ | refine blk_drew ?_ | refine blk_alloc ?_ _)); refine blk_far ?_ NB172_182.out _; (with_reducible repeat (first | refine blk_drewN ?_ _ | refine blk_drew ?_ | refine blk_alloc ?_ _)); refine blk_far ?_ NB172_182.out _; (with_reducible repeat (first | refine blk_drewN ?_ _ | refine blk_drew ?_ | refine blk_alloc ?_ _)); exact BK172.out) hb); have n3_ := Aside0.mk (blk_below (g := gb182) (o := .cells #[.int .i64 t175, .int .i64 t176, .int .i64 t177, .slice Ao17 t178.length co17] 25 (0, 0)) (by (with_reducible repeat (first | refine blk_drewN ?_ _ | refine blk_drew ?_ | refine blk_alloc ?_ _)); refine blk_put (cs := #[.int .i64 t175, .int .i64 t176, .int .i64 t177, .slice none 0 0]) ?_ 3 _ rfl; (with_reducible repeat (first | refine blk_drewN ?_ _ | refine blk_drew ?_ | refine blk_alloc ?_ _)); refine blk_put (cs := #[.int .i64 t175, .int .i64 t176, .int .i64 0, .slice none 0 0]) ?_ 2 _ rfl; (with_reducible repeat (first | refine blk_drewN ?_ _ | refine blk_drew ?_ | refine blk_alloc ?_ _)); refine blk_put (cs := #[.int .i64 t175, .int .i64 0, .int .i64 0, .slice none 0 0]) ?_ 1 _ rfl; (with_reducible repeat (first | refine blk_drewN ?_ _ | refine blk_drew ?_ | refine blk_alloc ?_ _)); refine blk_put (cs := #[.int .i64 0, .int .i64 0, .int .i64 0, .slice none 0 0]) ?_ 0 _ rfl; (with_reducible repeat (first | refine blk_drewN ?_ _ | refine blk_drew ?_ | refine blk_alloc ?_ _)); exact BK182.out) hb); have n4_ := Aside0.mk (below_step (by repeat (first | (with_reducible first | exact HB.out | apply below_alloc | apply pw_below_drewN | apply below_drew1 | refine below_set ?_ GE172.out | refine below_set ?_ GE182.out) | exact HB.out)) hb); clear HO171; clear HO180; clear BK172; clear BK182; clear HB; have HO171 := n0_; have HO180 := n1_; have BK172 := n2_; have BK182 := n3_; have HB := n4_; clear n0_ n1_ n2_ n3_ n4_; (try clear hb); (try clear hb2); (try clear hk); (try clear hi)))
  repeat (go_quiet (first | (go_at_call 10; (with_reducible refine (customsmade_Guarantee.calls k _ _ l0 t166 t167 t168 t169 _ ?side1 ?side2 A4.out).mono ?_); (case side1 => repeat (first | exact HR0.out | (with_reducible refine Kd.C_alloc ?_ _) | (with_reducible refine Kd.C_drewN ?_ _) | (with_reducible refine Kd.C_drew ?_))); (case side2 => exact HC0.out); rintro e w9 ⟨v170, rfl, ho0, hb⟩; have n0_ := Aside0.mk (Kd.R_lower ho0 (below_size (by repeat (first | (with_reducible first | exact HB.out | apply below_alloc | apply pw_below_drewN | apply below_drew1) | exact HB.out)))); have n1_ := Aside0.mk (below_step (by repeat (first | (with_reducible first | exact HB.out | apply below_alloc | apply pw_below_drewN | apply below_drew1) | exact HB.out)) hb); clear HB; have HO171 := n0_; have HB := n1_; clear n0_ n1_; (try clear hb); (try clear hb2); (try clear hk); (try clear hi); (try clear ho0)) | ((with_reducible refine gate_dst (N := 7) rfl ?_); refine box_event ?hg (N := 7) ?hd (cs := #[.int .i64 0, .int .i64 0, .int .i64 0, .slice none 0 0]) (t := 25) ?hr ?_; (case hd => rfl); (case hg => rfl); (case hr => first | (go_simp; done) | (go_simp; rfl)); intro gb172 hg w10 hbox hb; have n0_ := Aside0.mk (Kd.R_below (by (with_reducible repeat (first | apply Kd.R_alloc | apply Kd.R_drewN | apply Kd.R_drew)); exact HO171.out) hb); have n1_ := Aside0.mk (below_step (by repeat (first | (with_reducible first | exact HB.out | apply below_alloc | apply pw_below_drewN | apply below_drew1) | exact HB.out)) hb); have n2_ := Aside0.mk (hbox); have n3_ := Aside0.mk ((by rw [hg]; exact (below_size (by repeat (first | (with_reducible first | exact HB.out | apply below_alloc | apply pw_below_drewN | apply below_drew1) | exact HB.out))) : w.heap.size ≤ gb172)); have n4_ := Aside0.mk ((by rw [hg]; exact (below_size (by repeat (first | (with_reducible first | exact HB.out | apply below_alloc | apply pw_below_drewN | apply below_drew1) | exact HB.out))) : w.heap.size ≤ gb172)); clear HO171; clear HB; have HO171 := n0_; have HB := n1_; have BK172 := n2_; have GW172 := n3_; have GE172 := n4_; clear n0_ n1_ n2_ n3_ n4_; clear hb hbox hg; have hcz11_0 : w10.cell? ⟨gb172, 0, none⟩ = some (.int .i64 0) := (blk_cell BK172.out 0).trans rfl; have hcz11_1 : w10.cell? ⟨gb172, 1, none⟩ = some (.int .i64 0) := (blk_cell BK172.out 1).trans rfl; have hcz11_2 : w10.cell? ⟨gb172, 2, none⟩ = some (.int .i64 0) := (blk_cell BK172.out 2).trans rfl; have hcz11_3 : w10.cell? ⟨gb172, 3, none⟩ = some (.slice none 0 0) := (blk_cell BK172.out 3).trans rfl; have hfz11_0 := blk_frozen BK172.out 0; have hfz11_1 := blk_frozen BK172.out 1; have hfz11_2 := blk_frozen BK172.out 2; have hfz11_3 := blk_frozen BK172.out 3; obtain ⟨Ao12, co12, eo12⟩ := Kd.R_slice HO171.out; subst eo12) | (go_at_call 16; (with_reducible refine (customsmade_Within.calls a1 12 t173 _ A5.out).mono ?_); rintro e w' ⟨rfl, ⟨nd, rfl⟩⟩; (try first | exact ⟨rfl, _, World.drewN_drewN _ _ _⟩ | exact ⟨rfl, _, Eq.trans (World.drewN_drewN _ _ _) (congrArg (World.drewN _) (Nat.add_assoc _ _ _))⟩)) | (go_at_call 16; (with_reducible refine (customsmade_Within.calls a2 2000 t174 _ A6.out).mono ?_); rintro e w' ⟨rfl, ⟨nd, rfl⟩⟩; (try first | exact ⟨rfl, _, World.drewN_drewN _ _ _⟩ | exact ⟨rfl, _, Eq.trans (World.drewN_drewN _ _ _) (congrArg (World.drewN _) (Nat.add_assoc _ _ _))⟩)) | (go_at_call 19; (with_reducible refine (guarantee_Set.calls k t166 t167 t168 _ _ t169 (wrap64 (1 + t173)) t174 t175 t176 t177 t178 t181 _ ?side1 ?side2 A7.out).mono ?_); (case side1 => refine (Kd.R_reads' (e := 39) (base := w.heap.size) (ok := fun k_ => True) (n := t169.length) (c := co12) ?_).2.2; exact (by (with_reducible repeat (first | apply Kd.R_alloc | apply Kd.R_drewN | apply Kd.R_drew)); exact (Kd.R_mono (Kd.R_far (p := ⟨gb172, 3, none⟩) (Kd.R_far (p := ⟨gb172, 2, none⟩) (Kd.R_far (p := ⟨gb172, 1, none⟩) (Kd.R_far (p := ⟨gb172, 0, none⟩) (Kd.R_types HO171.out BK172.out (by decide)) (fun _ hk => hk.2) (.int .i64 t166)) (fun _ hk => hk.2) (.int .i64 t167)) (fun _ hk => hk.2) (.int .i64 t168)) (fun _ hk => hk.2) (.slice Ao12 t169.length co12)) (fun _ h_ => h_.1)))); (case side2 => exact (Kd.R_reads' HO171.out).2.1); rintro e w13 ⟨v179, rfl, ho0, hb⟩; have n0_ := Aside0.mk (Kd.R_elder' (by (with_reducible repeat (first | apply Kd.R_alloc | apply Kd.R_drewN | apply Kd.R_drew)); exact (Kd.R_mono (Kd.R_far (p := ⟨gb172, 3, none⟩) (Kd.R_far (p := ⟨gb172, 2, none⟩) (Kd.R_far (p := ⟨gb172, 1, none⟩) (Kd.R_far (p := ⟨gb172, 0, none⟩) (Kd.R_types HO171.out BK172.out (by decide)) (fun _ hk => hk.2) (.int .i64 t166)) (fun _ hk => hk.2) (.int .i64 t167)) (fun _ hk => hk.2) (.int .i64 t168)) (fun _ hk => hk.2) (.slice Ao12 t169.length co12)) (fun _ h_ => h_.1))) (Kd.R_base ho0) hb); have n1_ := Aside0.mk (Kd.R_lower (Kd.R_new' ho0 (Kd.R_lt (by (with_reducible repeat (first | apply Kd.R_alloc | apply Kd.R_drewN | apply Kd.R_drew)); exact (Kd.R_mono (Kd.R_far (p := ⟨gb172, 3, none⟩) (Kd.R_far (p := ⟨gb172, 2, none⟩) (Kd.R_far (p := ⟨gb172, 1, none⟩) (Kd.R_far (p := ⟨gb172, 0, none⟩) (Kd.R_types HO171.out BK172.out (by decide)) (fun _ hk => hk.2) (.int .i64 t166)) (fun _ hk => hk.2) (.int .i64 t167)) (fun _ hk => hk.2) (.int .i64 t168)) (fun _ hk => hk.2) (.slice Ao12 t169.length co12)) (fun _ h_ => h_.1))))) (below_size (by repeat (first | (with_reducible first | exact HB.out | apply below_alloc | apply pw_below_drewN | apply below_drew1 | refine below_set ?_ GE172.out) | exact HB.out)))); have n2_ := Aside0.mk (blk_below (g := gb172) (o := .cells #[.int .i64 t166, .int .i64 t167, .int .i64 t168, .slice Ao12 t169.length co12] 25 (0, 0)) (by (with_reducible repeat (first | refine blk_drewN ?_ _ | refine blk_drew ?_ | refine blk_alloc ?_ _)); refine blk_put (cs := #[.int .i64 t166, .int .i64 t167, .int .i64 t168, .slice none 0 0]) ?_ 3 _ rfl; (with_reducible repeat (first | refine blk_drewN ?_ _ | refine blk_drew ?_ | refine blk_alloc ?_ _)); refine blk_put (cs := #[.int .i64 t166, .int .i64 t167, .int .i64 0, .slice none 0 0]) ?_ 2 _ rfl; (with_reducible repeat (first | refine blk_drewN ?_ _ | refine blk_drew ?_ | refine blk_alloc ?_ _)); refine blk_put (cs := #[.int .i64 t166, .int .i64 0, .int .i64 0, .slice none 0 0]) ?_ 1 _ rfl; (with_reducible repeat (first | refine blk_drewN ?_ _ | refine blk_drew ?_ | refine blk_alloc ?_ _)); refine blk_put (cs := #[.int .i64 0, .int .i64 0, .int .i64 0, .slice none 0 0]) ?_ 0 _ rfl; (with_reducible repeat (first | refine blk_drewN ?_ _ | refine blk_drew ?_ | refine blk_alloc ?_ _)); exact BK172.out) hb); have n3_ := Aside0.mk (below_step (by repeat (first | (with_reducible first | exact HB.out | apply below_alloc | apply pw_below_drewN | apply below_drew1 | refine below_set ?_ GE172.out) | exact HB.out)) hb); clear HO171; clear BK172; clear HB; have HO171 := n0_; have HO180 := n1_; have BK172 := n2_; have HB := n3_; clear n0_ n1_ n2_ n3_; (try clear hb); (try clear hb2); (try clear hk); (try clear hi); (try clear ho0)) | ((with_reducible refine gate_dst (N := 8) rfl ?_); refine box_event ?hg (N := 8) ?hd (cs := #[.int .i64 0, .int .i64 0, .int .i64 0, .slice none 0 0]) (t := 25) ?hr ?_; (case hd => rfl); (case hg => rfl); (case hr => first | (go_simp; done) | (go_simp; rfl)); intro gb182 hg w14 hbox hb; have n0_ := Aside0.mk (Kd.R_below (by (with_reducible repeat (first | apply Kd.R_alloc | apply Kd.R_drewN | apply Kd.R_drew)); exact HO171.out) hb); have n1_ := Aside0.mk (Kd.R_below (by (with_reducible repeat (first | apply Kd.R_alloc | apply Kd.R_drewN | apply Kd.R_drew)); exact HO180.out) hb); have n2_ := Aside0.mk (blk_below (g := gb172) (o := .cells #[.int .i64 t166, .int .i64 t167, .int .i64 t168, .slice Ao12 t169.length co12] 25 (0, 0)) (by (with_reducible repeat (first | refine blk_drewN ?_ _ | refine blk_drew ?_ | refine blk_alloc ?_ _)); exact BK172.out) hb); have n3_ := Aside0.mk (below_step (by repeat (first | (with_reducible first | exact HB.out | apply below_alloc | apply pw_below_drewN | apply below_drew1 | refine below_set ?_ GE172.out) | exact HB.out)) hb); have n4_ := Aside0.mk (hbox); have n5_ := Aside0.mk ((by rw [hg]; exact (below_size (by repeat (first | (with_reducible first | exact HB.out | apply below_alloc | apply pw_below_drewN | apply below_drew1 | refine below_set ?_ GE172.out) | exact HB.out))) : w.heap.size ≤ gb182)); have n6_ := Aside0.mk ((by rw [hg]; exact (below_size (by repeat (first | (with_reducible first | exact HB.out | apply below_alloc | apply pw_below_drewN | apply below_drew1 | refine below_set ?_ GE172.out) | exact HB.out))) : w.heap.size ≤ gb182)); have n7_ := Aside0.mk ((by rw [hg]; exact Nat.ne_of_lt (blk_lt (g := gb172) (o := .cells #[.int .i64 t166, .int .i64 t167, .int .i64 t168, .slice Ao12 t169.length co12] 25 (0, 0)) (by (with_reducible repeat (first | refine blk_drewN ?_ _ | refine blk_drew ?_ | refine blk_alloc ?_ _)); exact BK172.out)) : gb172 ≠ gb182)); have n8_ := Aside0.mk ((by rw [hg]; exact Nat.ne_of_gt (blk_lt (g := gb172) (o := .cells #[.int .i64 t166, .int .i64 t167, .int .i64 t168, .slice Ao12 t169.length co12] 25 (0, 0)) (by (with_reducible repeat (first | refine blk_drewN ?_ _ | refine blk_drew ?_ | refine blk_alloc ?_ _)); exact BK172.out)) : gb182 ≠ gb172)); clear HO171; clear HO180; clear BK172; clear HB; have HO171 := n0_; have HO180 := n1_; have BK172 := n2_; have HB := n3_; have BK182 := n4_; have GW182 := n5_; have GE182 := n6_; have NB172_182 := n7_; have NB182_172 := n8_; clear n0_ n1_ n2_ n3_ n4_ n5_ n6_ n7_ n8_; clear hb hbox hg; have hnb15 := NB182_172.out; have hnc15 := NB172_182.out; have hcz16_0 : w14.cell? ⟨gb182, 0, none⟩ = some (.int .i64 0) := (blk_cell BK182.out 0).trans rfl; have hcz16_1 : w14.cell? ⟨gb182, 1, none⟩ = some (.int .i64 0) := (blk_cell BK182.out 1).trans rfl; have hcz16_2 : w14.cell? ⟨gb182, 2, none⟩ = some (.int .i64 0) := (blk_cell BK182.out 2).trans rfl; have hcz16_3 : w14.cell? ⟨gb182, 3, none⟩ = some (.slice none 0 0) := (blk_cell BK182.out 3).trans rfl; have hfz16_0 := blk_frozen BK182.out 0; have hfz16_1 := blk_frozen BK182.out 1; have hfz16_2 := blk_frozen BK182.out 2; have hfz16_3 := blk_frozen BK182.out 3; obtain ⟨Ao17, co17, eo17⟩ := Kd.R_slice HO180.out; subst eo17; have hcz18_0 : w14.cell? ⟨gb172, 0, none⟩ = some (.int .i64 t166) := (blk_cell BK172.out 0).trans rfl; have hcz18_1 : w14.cell? ⟨gb172, 1, none⟩ = some (.int .i64 t167) := (blk_cell BK172.out 1).trans rfl; have hcz18_2 : w14.cell? ⟨gb172, 2, none⟩ = some (.int .i64 t168) := (blk_cell BK172.out 2).trans rfl; have hcz18_3 : w14.cell? ⟨gb172, 3, none⟩ = some (.slice Ao12 t169.length co12) := (blk_cell BK172.out 3).trans rfl; have hfz18_0 := blk_frozen BK172.out 0; have hfz18_1 := blk_frozen BK172.out 1; have hfz18_2 := blk_frozen BK172.out 2; have hfz18_3 := blk_frozen BK172.out 3) | (go_at_call 17; (with_reducible refine (guarantee_Required.calls k t166 t167 t168 _ _ t169 t174 t183 t184 _ ?side1 ?side2 A8.out).mono ?_); (case side1 => refine (Kd.R_reads' (e := 39) (base := w.heap.size) (ok := fun k_ => (True ∧ some k_ ≠ (.slice Ao17 t178.length co17 : Value).ownBlock)) (n := t169.length) (c := co12) ?_).2.2; exact (by (with_reducible repeat (first | apply Kd.R_alloc | apply Kd.R_drewN | apply Kd.R_drew)); exact (Kd.R_mono (Kd.R_far (p := ⟨gb182, 3, none⟩) (Kd.R_far (p := ⟨gb182, 2, none⟩) (Kd.R_far (p := ⟨gb182, 1, none⟩) (Kd.R_far (p := ⟨gb182, 0, none⟩) (Kd.R_types HO171.out BK182.out (by decide)) (fun _ hk => hk.2) (.int .i64 t175)) (fun _ hk => hk.2) (.int .i64 t176)) (fun _ hk => hk.2) (.int .i64 t177)) (fun _ hk => hk.2) (.slice Ao17 t178.length co17)) (fun _ h_ => h_.1)))); (case side2 => exact (Kd.R_reads' HO171.out).2.1); rintro e w19 ⟨rfl, hb⟩; have n0_ := Aside0.mk (Kd.R_below (by (with_reducible repeat (first | apply Kd.R_alloc | apply Kd.R_drewN | apply Kd.R_drew)); exact (Kd.R_mono (Kd.R_far (p := ⟨gb182, 3, none⟩) (Kd.R_far (p := ⟨gb182, 2, none⟩) (Kd.R_far (p := ⟨gb182, 1, none⟩) (Kd.R_far (p := ⟨gb182, 0, none⟩) (Kd.R_types HO171.out BK182.out (by decide)) (fun _ hk => hk.2) (.int .i64 t175)) (fun _ hk => hk.2) (.int .i64 t176)) (fun _ hk => hk.2) (.int .i64 t177)) (fun _ hk => hk.2) (.slice Ao17 t178.length co17)) (fun _ h_ => h_.1))) hb); have n1_ := Aside0.mk (Kd.R_below (by (with_reducible repeat (first | apply Kd.R_alloc | apply Kd.R_drewN | apply Kd.R_drew)); exact (Kd.R_mono (Kd.R_far (p := ⟨gb182, 3, none⟩) (Kd.R_far (p := ⟨gb182, 2, none⟩) (Kd.R_far (p := ⟨gb182, 1, none⟩) (Kd.R_far (p := ⟨gb182, 0, none⟩) (Kd.R_types HO180.out BK182.out (by decide)) (fun _ hk => hk.2) (.int .i64 t175)) (fun _ hk => hk.2) (.int .i64 t176)) (fun _ hk => hk.2) (.int .i64 t177)) (fun _ hk => hk.2) (.slice Ao17 t178.length co17)) (fun _ h_ => h_.1))) hb); have n2_ := Aside0.mk (blk_below (g := gb172) (o := .cells #[.int .i64 t166, .int .i64 t167, .int .i64 t168, .slice Ao12 t169.length co12] 25 (0, 0)) (by (with_reducible repeat (first | refine blk_drewN ?_ _ | refine blk_drew ?_ | refine blk_alloc ?_ _)); refine blk_far ?_ NB172_182.out _; (with_reducible repeat (first | refine blk_drewN ?_ _ | refine blk_drew ?_ | refine blk_alloc ?_ _)); refine blk_far ?_ NB172_182.out _; (with_reducible repeat (first | refine blk_drewN ?_ _ | refine blk_drew ?_ | refine blk_alloc ?_ _)); refine blk_far ?_ NB172_182.out _; (with_reducible repeat (first | refine blk_drewN ?_ _ | refine blk_drew ?_ | refine blk_alloc ?_ _)); refine blk_far ?_ NB172_182.out _; (with_reducible repeat (first | refine blk_drewN ?_ _ | refine blk_drew ?_ | refine blk_alloc ?_ _)); exact BK172.out) hb); have n3_ := Aside0.mk (blk_below (g := gb182) (o := .cells #[.int .i64 t175, .int .i64 t176, .int .i64 t177, .slice Ao17 t178.length co17] 25 (0, 0)) (by (with_reducible repeat (first | refine blk_drewN ?_ _ | refine blk_drew ?_ | refine blk_alloc ?_ _)); refine blk_put (cs := #[.int .i64 t175, .int .i64 t176, .int .i64 t177, .slice none 0 0]) ?_ 3 _ rfl; (with_reducible repeat (first | refine blk_drewN ?_ _ | refine blk_drew ?_ | refine blk_alloc ?_ _)); refine blk_put (cs := #[.int .i64 t175, .int .i64 t176, .int .i64 0, .slice none 0 0]) ?_ 2 _ rfl; (with_reducible repeat (first | refine blk_drewN ?_ _ | refine blk_drew ?_ | refine blk_alloc ?_ _)); refine blk_put (cs := #[.int .i64 t175, .int .i64 0, .int .i64 0, .slice none 0 0]) ?_ 1 _ rfl; (with_reducible repeat (first | refine blk_drewN ?_ _ | refine blk_drew ?_ | refine blk_alloc ?_ _)); refine blk_put (cs := #[.int .i64 0, .int .i64 0, .int .i64 0, .slice none 0 0]) ?_ 0 _ rfl; (with_reducible repeat (first | refine blk_drewN ?_ _ | refine blk_drew ?_ | refine blk_alloc ?_ _)); exact BK182.out) hb); have n4_ := Aside0.mk (below_step (by repeat (first | (with_reducible first | exact HB.out | apply below_alloc | apply pw_below_drewN | apply below_drew1 | refine below_set ?_ GE172.out | refine below_set ?_ GE182.out) | exact HB.out)) hb); clear HO171; clear HO180; clear BK172; clear BK182; clear HB; have HO171 := n0_; have HO180 := n1_; have BK172 := n2_; have BK182 := n3_; have HB := n4_; clear n0_ n1_ n2_ n3_ n4_; (try clear hb); (try clear hb2); (try clear hk); (try clear hi))); try go_wp2_with (first | (go_at_call 10; (with_reducible refine (customsmade_Guarantee.calls k _ _ l0 t166 t167 t168 t169 _ ?side1 ?side2 A4.out).mono ?_); (case side1 => repeat (first | exact HR0.out | (with_reducible refine Kd.C_alloc ?_ _) | (with_reducible refine Kd.C_drewN ?_ _) | (with_reducible refine Kd.C_drew ?_))); (case side2 => exact HC0.out); rintro e w9 ⟨v170, rfl, ho0, hb⟩; have n0_ := Aside0.mk (Kd.R_lower ho0 (below_size (by repeat (first | (with_reducible first | exact HB.out | apply below_alloc | apply pw_below_drewN | apply below_drew1) | exact HB.out)))); have n1_ := Aside0.mk (below_step (by repeat (first | (with_reducible first | exact HB.out | apply below_alloc | apply pw_below_drewN | apply below_drew1) | exact HB.out)) hb); clear HB; have HO171 := n0_; have HB := n1_; clear n0_ n1_; (try clear hb); (try clear hb2); (try clear hk); (try clear hi); (try clear ho0)) | ((with_reducible refine gate_dst (N := 7) rfl ?_); refine box_event ?hg (N := 7) ?hd (cs := #[.int .i64 0, .int .i64 0, .int .i64 0, .slice none 0 0]) (t := 25) ?hr ?_; (case hd => rfl); (case hg => rfl); (case hr => first | (go_simp; done) | (go_simp; rfl)); intro gb172 hg w10 hbox hb; have n0_ := Aside0.mk (Kd.R_below (by (with_reducible repeat (first | apply Kd.R_alloc | apply Kd.R_drewN | apply Kd.R_drew)); exact HO171.out) hb); have n1_ := Aside0.mk (below_step (by repeat (first | (with_reducible first | exact HB.out | apply below_alloc | apply pw_below_drewN | apply below_drew1) | exact HB.out)) hb); have n2_ := Aside0.mk (hbox); have n3_ := Aside0.mk ((by rw [hg]; exact (below_size (by repeat (first | (with_reducible first | exact HB.out | apply below_alloc | apply pw_below_drewN | apply below_drew1) | exact HB.out))) : w.heap.size ≤ gb172)); have n4_ := Aside0.mk ((by rw [hg]; exact (below_size (by repeat (first | (with_reducible first | exact HB.out | apply below_alloc | apply pw_below_drewN | apply below_drew1) | exact HB.out))) : w.heap.size ≤ gb172)); clear HO171; clear HB; have HO171 := n0_; have HB := n1_; have BK172 := n2_; have GW172 := n3_; have GE172 := n4_; clear n0_ n1_ n2_ n3_ n4_; clear hb hbox hg; have hcz11_0 : w10.cell? ⟨gb172, 0, none⟩ = some (.int .i64 0) := (blk_cell BK172.out 0).trans rfl; have hcz11_1 : w10.cell? ⟨gb172, 1, none⟩ = some (.int .i64 0) := (blk_cell BK172.out 1).trans rfl; have hcz11_2 : w10.cell? ⟨gb172, 2, none⟩ = some (.int .i64 0) := (blk_cell BK172.out 2).trans rfl; have hcz11_3 : w10.cell? ⟨gb172, 3, none⟩ = some (.slice none 0 0) := (blk_cell BK172.out 3).trans rfl; have hfz11_0 := blk_frozen BK172.out 0; have hfz11_1 := blk_frozen BK172.out 1; have hfz11_2 := blk_frozen BK172.out 2; have hfz11_3 := blk_frozen BK172.out 3; obtain ⟨Ao12, co12, eo12⟩ := Kd.R_slice HO171.out; subst eo12) | (go_at_call 16; (with_reducible refine (customsmade_Within.calls a1 12 t173 _ A5.out).mono ?_); rintro e w' ⟨rfl, ⟨nd, rfl⟩⟩; (try first | exact ⟨rfl, _, World.drewN_drewN _ _ _⟩ | exact ⟨rfl, _, Eq.trans (World.drewN_drewN _ _ _) (congrArg (World.drewN _) (Nat.add_assoc _ _ _))⟩)) | (go_at_call 16; (with_reducible refine (customsmade_Within.calls a2 2000 t174 _ A6.out).mono ?_); rintro e w' ⟨rfl, ⟨nd, rfl⟩⟩; (try first | exact ⟨rfl, _, World.drewN_drewN _ _ _⟩ | exact ⟨rfl, _, Eq.trans (World.drewN_drewN _ _ _) (congrArg (World.drewN _) (Nat.add_assoc _ _ _))⟩)) | (go_at_call 19; (with_reducible refine (guarantee_Set.calls k t166 t167 t168 _ _ t169 (wrap64 (1 + t173)) t174 t175 t176 t177 t178 t181 _ ?side1 ?side2 A7.out).mono ?_); (case side1 => refine (Kd.R_reads' (e := 39) (base := w.heap.size) (ok := fun k_ => True) (n := t169.length) (c := co12) ?_).2.2; exact (by (with_reducible repeat (first | apply Kd.R_alloc | apply Kd.R_drewN | apply Kd.R_drew)); exact (Kd.R_mono (Kd.R_far (p := ⟨gb172, 3, none⟩) (Kd.R_far (p := ⟨gb172, 2, none⟩) (Kd.R_far (p := ⟨gb172, 1, none⟩) (Kd.R_far (p := ⟨gb172, 0, none⟩) (Kd.R_types HO171.out BK172.out (by decide)) (fun _ hk => hk.2) (.int .i64 t166)) (fun _ hk => hk.2) (.int .i64 t167)) (fun _ hk => hk.2) (.int .i64 t168)) (fun _ hk => hk.2) (.slice Ao12 t169.length co12)) (fun _ h_ => h_.1)))); (case side2 => exact (Kd.R_reads' HO171.out).2.1); rintro e w13 ⟨v179, rfl, ho0, hb⟩; have n0_ := Aside0.mk (Kd.R_elder' (by (with_reducible repeat (first | apply Kd.R_alloc | apply Kd.R_drewN | apply Kd.R_drew)); exact (Kd.R_mono (Kd.R_far (p := ⟨gb172, 3, none⟩) (Kd.R_far (p := ⟨gb172, 2, none⟩) (Kd.R_far (p := ⟨gb172, 1, none⟩) (Kd.R_far (p := ⟨gb172, 0, none⟩) (Kd.R_types HO171.out BK172.out (by decide)) (fun _ hk => hk.2) (.int .i64 t166)) (fun _ hk => hk.2) (.int .i64 t167)) (fun _ hk => hk.2) (.int .i64 t168)) (fun _ hk => hk.2) (.slice Ao12 t169.length co12)) (fun _ h_ => h_.1))) (Kd.R_base ho0) hb); have n1_ := Aside0.mk (Kd.R_lower (Kd.R_new' ho0 (Kd.R_lt (by (with_reducible repeat (first | apply Kd.R_alloc | apply Kd.R_drewN | apply Kd.R_drew)); exact (Kd.R_mono (Kd.R_far (p := ⟨gb172, 3, none⟩) (Kd.R_far (p := ⟨gb172, 2, none⟩) (Kd.R_far (p := ⟨gb172, 1, none⟩) (Kd.R_far (p := ⟨gb172, 0, none⟩) (Kd.R_types HO171.out BK172.out (by decide)) (fun _ hk => hk.2) (.int .i64 t166)) (fun _ hk => hk.2) (.int .i64 t167)) (fun _ hk => hk.2) (.int .i64 t168)) (fun _ hk => hk.2) (.slice Ao12 t169.length co12)) (fun _ h_ => h_.1))))) (below_size (by repeat (first | (with_reducible first | exact HB.out | apply below_alloc | apply pw_below_drewN | apply below_drew1 | refine below_set ?_ GE172.out) | exact HB.out)))); have n2_ := Aside0.mk (blk_below (g := gb172) (o := .cells #[.int .i64 t166, .int .i64 t167, .int .i64 t168, .slice Ao12 t169.length co12] 25 (0, 0)) (by (with_reducible repeat (first | refine blk_drewN ?_ _ | refine blk_drew ?_ | refine blk_alloc ?_ _)); refine blk_put (cs := #[.int .i64 t166, .int .i64 t167, .int .i64 t168, .slice none 0 0]) ?_ 3 _ rfl; (with_reducible repeat (first | refine blk_drewN ?_ _ | refine blk_drew ?_ | refine blk_alloc ?_ _)); refine blk_put (cs := #[.int .i64 t166, .int .i64 t167, .int .i64 0, .slice none 0 0]) ?_ 2 _ rfl; (with_reducible repeat (first | refine blk_drewN ?_ _ | refine blk_drew ?_ | refine blk_alloc ?_ _)); refine blk_put (cs := #[.int .i64 t166, .int .i64 0, .int .i64 0, .slice none 0 0]) ?_ 1 _ rfl; (with_reducible repeat (first | refine blk_drewN ?_ _ | refine blk_drew ?_ | refine blk_alloc ?_ _)); refine blk_put (cs := #[.int .i64 0, .int .i64 0, .int .i64 0, .slice none 0 0]) ?_ 0 _ rfl; (with_reducible repeat (first | refine blk_drewN ?_ _ | refine blk_drew ?_ | refine blk_alloc ?_ _)); exact BK172.out) hb); have n3_ := Aside0.mk (below_step (by repeat (first | (with_reducible first | exact HB.out | apply below_alloc | apply pw_below_drewN | apply below_drew1 | refine below_set ?_ GE172.out) | exact HB.out)) hb); clear HO171; clear BK172; clear HB; have HO171 := n0_; have HO180 := n1_; have BK172 := n2_; have HB := n3_; clear n0_ n1_ n2_ n3_; (try clear hb); (try clear hb2); (try clear hk); (try clear hi); (try clear ho0)) | ((with_reducible refine gate_dst (N := 8) rfl ?_); refine box_event ?hg (N := 8) ?hd (cs := #[.int .i64 0, .int .i64 0, .int .i64 0, .slice none 0 0]) (t := 25) ?hr ?_; (case hd => rfl); (case hg => rfl); (case hr => first | (go_simp; done) | (go_simp; rfl)); intro gb182 hg w14 hbox hb; have n0_ := Aside0.mk (Kd.R_below (by (with_reducible repeat (first | apply Kd.R_alloc | apply Kd.R_drewN | apply Kd.R_drew)); exact HO171.out) hb); have n1_ := Aside0.mk (Kd.R_below (by (with_reducible repeat (first | apply Kd.R_alloc | apply Kd.R_drewN | apply Kd.R_drew)); exact HO180.out) hb); have n2_ := Aside0.mk (blk_below (g := gb172) (o := .cells #[.int .i64 t166, .int .i64 t167, .int .i64 t168, .slice Ao12 t169.length co12] 25 (0, 0)) (by (with_reducible repeat (first | refine blk_drewN ?_ _ | refine blk_drew ?_ | refine blk_alloc ?_ _)); exact BK172.out) hb); have n3_ := Aside0.mk (below_step (by repeat (first | (with_reducible first | exact HB.out | apply below_alloc | apply pw_below_drewN | apply below_drew1 | refine below_set ?_ GE172.out) | exact HB.out)) hb); have n4_ := Aside0.mk (hbox); have n5_ := Aside0.mk ((by rw [hg]; exact (below_size (by repeat (first | (with_reducible first | exact HB.out | apply below_alloc | apply pw_below_drewN | apply below_drew1 | refine below_set ?_ GE172.out) | exact HB.out))) : w.heap.size ≤ gb182)); have n6_ := Aside0.mk ((by rw [hg]; exact (below_size (by repeat (first | (with_reducible first | exact HB.out | apply below_alloc | apply pw_below_drewN | apply below_drew1 | refine below_set ?_ GE172.out) | exact HB.out))) : w.heap.size ≤ gb182)); have n7_ := Aside0.mk ((by rw [hg]; exact Nat.ne_of_lt (blk_lt (g := gb172) (o := .cells #[.int .i64 t166, .int .i64 t167, .int .i64 t168, .slice Ao12 t169.length co12] 25 (0, 0)) (by (with_reducible repeat (first | refine blk_drewN ?_ _ | refine blk_drew ?_ | refine blk_alloc ?_ _)); exact BK172.out)) : gb172 ≠ gb182)); have n8_ := Aside0.mk ((by rw [hg]; exact Nat.ne_of_gt (blk_lt (g := gb172) (o := .cells #[.int .i64 t166, .int .i64 t167, .int .i64 t168, .slice Ao12 t169.length co12] 25 (0, 0)) (by (with_reducible repeat (first | refine blk_drewN ?_ _ | refine blk_drew ?_ | refine blk_alloc ?_ _)); exact BK172.out)) : gb182 ≠ gb172)); clear HO171; clear HO180; clear BK172; clear HB; have HO171 := n0_; have HO180 := n1_; have BK172 := n2_; have HB := n3_; have BK182 := n4_; have GW182 := n5_; have GE182 := n6_; have NB172_182 := n7_; have NB182_172 := n8_; clear n0_ n1_ n2_ n3_ n4_ n5_ n6_ n7_ n8_; clear hb hbox hg; have hnb15 := NB182_172.out; have hnc15 := NB172_182.out; have hcz16_0 : w14.cell? ⟨gb182, 0, none⟩ = some (.int .i64 0) := (blk_cell BK182.out 0).trans rfl; have hcz16_1 : w14.cell? ⟨gb182, 1, none⟩ = some (.int .i64 0) := (blk_cell BK182.out 1).trans rfl; have hcz16_2 : w14.cell? ⟨gb182, 2, none⟩ = some (.int .i64 0) := (blk_cell BK182.out 2).trans rfl; have hcz16_3 : w14.cell? ⟨gb182, 3, none⟩ = some (.slice none 0 0) := (blk_cell BK182.out 3).trans rfl; have hfz16_0 := blk_frozen BK182.out 0; have hfz16_1 := blk_frozen BK182.out 1; have hfz16_2 := blk_frozen BK182.out 2; have hfz16_3 := blk_frozen BK182.out 3; obtain ⟨Ao17, co17, eo17⟩ := Kd.R_slice HO180.out; subst eo17; have hcz18_0 : w14.cell? ⟨gb172, 0, none⟩ = some (.int .i64 t166) := (blk_cell BK172.out 0).trans rfl; have hcz18_1 : w14.cell? ⟨gb172, 1, none⟩ = some (.int .i64 t167) := (blk_cell BK172.out 1).trans rfl; have hcz18_2 : w14.cell? ⟨gb172, 2, none⟩ = some (.int .i64 t168) := (blk_cell BK172.out 2).trans rfl; have hcz18_3 : w14.cell? ⟨gb172, 3, none⟩ = some (.slice Ao12 t169.length co12) := (blk_cell BK172.out 3).trans rfl; have hfz18_0 := blk_frozen BK172.out 0; have hfz18_1 := blk_frozen BK172.out 1; have hfz18_2 := blk_frozen BK172.out 2; have hfz18_3 := blk_frozen BK172.out 3) | (go_at_call 17; (with_reducible refine (guarantee_Required.calls k t166 t167 t168 _ _ t169 t174 t183 t184 _ ?side1 ?side2 A8.out).mono ?_); (case side1 => refine (Kd.R_reads' (e := 39) (base := w.heap.size) (ok := fun k_ => (True ∧ some k_ ≠ (.slice Ao17 t178.length co17 : Value).ownBlock)) (n := t169.length) (c := co12) ?_).2.2; exact (by (with_reducible repeat (first | apply Kd.R_alloc | apply Kd.R_drewN | apply Kd.R_drew)); exact (Kd.R_mono (Kd.R_far (p := ⟨gb182, 3, none⟩) (Kd.R_far (p := ⟨gb182, 2, none⟩) (Kd.R_far (p := ⟨gb182, 1, none⟩) (Kd.R_far (p := ⟨gb182, 0, none⟩) (Kd.R_types HO171.out BK182.out (by decide)) (fun _ hk => hk.2) (.int .i64 t175)) (fun _ hk => hk.2) (.int .i64 t176)) (fun _ hk => hk.2) (.int .i64 t177)) (fun _ hk => hk.2) (.slice Ao17 t178.length co17)) (fun _ h_ => h_.1)))); (case side2 => exact (Kd.R_reads' HO171.out).2.1); rintro e w19 ⟨rfl, hb⟩; have n0_ := Aside0.mk (Kd.R_below (by (with_reducible repeat (first | apply Kd.R_alloc | apply Kd.R_drewN | apply Kd.R_drew)); exact (Kd.R_mono (Kd.R_far (p := ⟨gb182, 3, none⟩) (Kd.R_far (p := ⟨gb182, 2, none⟩) (Kd.R_far (p := ⟨gb182, 1, none⟩) (Kd.R_far (p := ⟨gb182, 0, none⟩) (Kd.R_types HO171.out BK182.out (by decide)) (fun _ hk => hk.2) (.int .i64 t175)) (fun _ hk => hk.2) (.int .i64 t176)) (fun _ hk => hk.2) (.int .i64 t177)) (fun _ hk => hk.2) (.slice Ao17 t178.length co17)) (fun _ h_ => h_.1))) hb); have n1_ := Aside0.mk (Kd.R_below (by (with_reducible repeat (first | apply Kd.R_alloc | apply Kd.R_drewN | apply Kd.R_drew)); exact (Kd.R_mono (Kd.R_far (p := ⟨gb182, 3, none⟩) (Kd.R_far (p := ⟨gb182, 2, none⟩) (Kd.R_far (p := ⟨gb182, 1, none⟩) (Kd.R_far (p := ⟨gb182, 0, none⟩) (Kd.R_types HO180.out BK182.out (by decide)) (fun _ hk => hk.2) (.int .i64 t175)) (fun _ hk => hk.2) (.int .i64 t176)) (fun _ hk => hk.2) (.int .i64 t177)) (fun _ hk => hk.2) (.slice Ao17 t178.length co17)) (fun _ h_ => h_.1))) hb); have n2_ := Aside0.mk (blk_below (g := gb172) (o := .cells #[.int .i64 t166, .int .i64 t167, .int .i64 t168, .slice Ao12 t169.length co12] 25 (0, 0)) (by (with_reducible repeat (first | refine blk_drewN ?_ _ | refine blk_drew ?_ | refine blk_alloc ?_ _)); refine blk_far ?_ NB172_182.out _; (with_reducible repeat (first | refine blk_drewN ?_ _ | refine blk_drew ?_ | refine blk_alloc ?_ _)); refine blk_far ?_ NB172_182.out _; (with_reducible repeat (first | refine blk_drewN ?_ _ | refine blk_drew ?_ | refine blk_alloc ?_ _)); refine blk_far ?_ NB172_182.out _; (with_reducible repeat (first | refine blk_drewN ?_ _ | refine blk_drew ?_ | refine blk_alloc ?_ _)); refine blk_far ?_ NB172_182.out _; (with_reducible repeat (first | refine blk_drewN ?_ _ | refine blk_drew ?_ | refine blk_alloc ?_ _)); exact BK172.out) hb); have n3_ := Aside0.mk (blk_below (g := gb182) (o := .cells #[.int .i64 t175, .int .i64 t176, .int .i64 t177, .slice Ao17 t178.length co17] 25 (0, 0)) (by (with_reducible repeat (first | refine blk_drewN ?_ _ | refine blk_drew ?_ | refine blk_alloc ?_ _)); refine blk_put (cs := #[.int .i64 t175, .int .i64 t176, .int .i64 t177, .slice none 0 0]) ?_ 3 _ rfl; (with_reducible repeat (first | refine blk_drewN ?_ _ | refine blk_drew ?_ | refine blk_alloc ?_ _)); refine blk_put (cs := #[.int .i64 t175, .int .i64 t176, .int .i64 0, .slice none 0 0]) ?_ 2 _ rfl; (with_reducible repeat (first | refine blk_drewN ?_ _ | refine blk_drew ?_ | refine blk_alloc ?_ _)); refine blk_put (cs := #[.int .i64 t175, .int .i64 0, .int .i64 0, .slice none 0 0]) ?_ 1 _ rfl; (with_reducible repeat (first | refine blk_drewN ?_ _ | refine blk_drew ?_ | refine blk_alloc ?_ _)); refine blk_put (cs := #[.int .i64 0, .int .i64 0, .int .i64 0, .slice none 0 0]) ?_ 0 _ rfl; (with_reducible repeat (first | refine blk_drewN ?_ _ | refine blk_drew ?_ | refine blk_alloc ?_ _)); exact BK182.out) hb); have n4_ := Aside0.mk (below_step (by repeat (first | (with_reducible first | exact HB.out | apply below_alloc | apply pw_below_drewN | apply below_drew1 | refine below_set ?_ GE172.out | refine below_set ?_ GE182.out) | exact HB.out)) hb); clear HO171; clear HO180; clear BK172; clear BK182; clear HB; have HO171 := n0_; have HO180 := n1_; have BK172 := n2_; have BK182 := n3_; have HB := n4_; clear n0_ n1_ n2_ n3_ n4_; (try clear hb); (try clear hb2); (try clear hk); (try clear hi))))
  go_loopg [12, 13] k (fun kq v12 v13 w' => ∃ (x12_1 : Int) (x13_1 : Int), v12 = .int .i64 x12_1 ∧ v13 = .int .i64 x13_1 ∧ Aside0 (customslaw23_GuaranteeRefused.l0 kq (wrap64 (1 + t173)) t181 t183 t184 x12_1 x13_1 t166 t167 t168 t169 t175 t176 t177 t178 = some r) ∧ Aside0 (kq ≤ k) ∧ Aside0 (Kd.R k39 39 w' w.heap.size (fun k_ => some k_ ≠ ((.slice Ao17 t178.length co17) : Value).ownBlock) (.slice Ao12 t169.length co12) t169) ∧ Aside0 (Kd.R k39 39 w' w.heap.size (fun k_ => some k_ ≠ ((.slice Ao12 t169.length co12) : Value).ownBlock) (.slice Ao17 t178.length co17) t178) ∧ Aside0 (w'.heap[gb172]? = some (.cells #[.int .i64 t166, .int .i64 t167, .int .i64 t168, (.slice Ao12 t169.length co12)] 25 (0, 0))) ∧ Aside0 (w'.heap[gb182]? = some (.cells #[.int .i64 t175, .int .i64 t176, .int .i64 t177, (.slice Ao17 t178.length co17)] 25 (0, 0))) ∧ Aside0 (Below w.heap.size w w'))
  case atStart => exact ⟨(0), (0), (by first | rfl | (simp; done) | (simp [*]; done)), (by first | rfl | (simp; done) | (simp [*]; done)), H', ⟨Nat.le_refl _⟩, ⟨by (with_reducible repeat (first | apply Kd.R_alloc | apply Kd.R_drewN | apply Kd.R_drew)); exact Kd.R_mono HO171.out (fun _ hk => hk.2)⟩, ⟨by (with_reducible repeat (first | apply Kd.R_alloc | apply Kd.R_drewN | apply Kd.R_drew)); exact Kd.R_mono HO180.out (fun _ hk => hk.2)⟩, ⟨by (with_reducible repeat (first | refine blk_drewN ?_ _ | refine blk_drew ?_ | refine blk_alloc ?_ _)); exact BK172.out⟩, ⟨by (with_reducible repeat (first | refine blk_drewN ?_ _ | refine blk_drew ?_ | refine blk_alloc ?_ _)); exact BK182.out⟩, ⟨by repeat (first | (with_reducible first | exact HB.out | apply below_alloc | apply pw_below_drewN | apply below_drew1 | refine below_set ?_ GE172.out | refine below_set ?_ GE182.out) | exact HB.out)⟩⟩
  case round =>
    clear H'
    try clear c1
    try clear p2
    try clear c5
    try clear p6
    try clear c15
    try clear hcz11_0
    try clear hcz11_1
    try clear hcz11_2
    try clear hcz11_3
    try clear hcz16_0
    try clear hcz16_1
    try clear hcz16_2
    try clear hcz16_3
    try clear hcz18_0
    try clear hcz18_1
    try clear hcz18_2
    try clear hcz18_3
    try clear hfz11_0
    try clear hfz11_1
    try clear hfz11_2
    try clear hfz11_3
    try clear hfz16_0
    try clear hfz16_1
    try clear hfz16_2
    try clear hfz16_3
    try clear hfz18_0
    try clear hfz18_1
    try clear hfz18_2
    try clear hfz18_3
    obtain ⟨x12_1, x13_1, rfl, rfl, HA, HK1, HO_173003, HO_183003, BK172, BK182, HB⟩ := hrel
    cases gk with
    | zero => exact absurd HA.out (by simp [customslaw23_GuaranteeRefused.l0])
    | succ k1 =>
      have H := HA.out
      clear HA
      simp only [customslaw23_GuaranteeRefused.l0] at H
      by_cases c20 : x13_1 < (t169.length : Int)
      · rw [if_pos c20] at H
        have c20b0 : decide (x13_1 < (t169.length : Int)) = true := decide_eq_true c20
        clear c20
        by_cases c21 : 0 ≤ x13_1
        · rw [if_pos c21] at H
          have c21b0 : decide (0 ≤ x13_1) = true := decide_eq_true c21
          clear c21
          by_cases c22 : ((rd_T39 t169 x13_1).f0) = (wrap64 (1 + t173))
          · rw [if_pos c22] at H
            have c22b0 : (((rd_T39 t169 x13_1).f0) == (wrap64 (1 + t173))) = true := beq_iff_eq.mpr c22
            have c22b1 : (((rd_T39 t169 x13_1).f0) != (wrap64 (1 + t173))) = false := bne_eq_false_iff_eq.mpr c22
            clear c22
            have H' := Aside0.mk H
            clear H
            have hnb23 := NB172_182.out
            have hnc23 := NB182_172.out
            have hcz24_0 : wr.cell? ⟨gb172, 0, none⟩ = some (.int .i64 t166) := (blk_cell BK172.out 0).trans rfl
            have hcz24_1 : wr.cell? ⟨gb172, 1, none⟩ = some (.int .i64 t167) := (blk_cell BK172.out 1).trans rfl
            have hcz24_2 : wr.cell? ⟨gb172, 2, none⟩ = some (.int .i64 t168) := (blk_cell BK172.out 2).trans rfl
            have hcz24_3 : wr.cell? ⟨gb172, 3, none⟩ = some (.slice Ao12 t169.length co12) := (blk_cell BK172.out 3).trans rfl
            have hfz24_0 := blk_frozen BK172.out 0
            have hfz24_1 := blk_frozen BK172.out 1
            have hfz24_2 := blk_frozen BK172.out 2
            have hfz24_3 := blk_frozen BK172.out 3
            have p185 : 0 ≤ (x13_1 : Int) := of_decide_eq_true (by first | (with_reducible assumption) | assumption)
            have q185 : x13_1 < (t169.length : Int) := of_decide_eq_true (by first | (with_reducible assumption) | assumption)
            obtain ⟨ad185, e185, hx185_0, hx185_1⟩ := at_T39 (Kd.R_reads' HO_173003.out).2.2 x13_1 p185 q185
            cases e185
            replace p185 := eq_true p185
            replace q185 := eq_true q185
            go_wp2
            repeat (go_quiet (fail); try go_wp2)
            go_roundg k1
            case measure => have := HK1.out; omega
            case rel => exact ⟨(x12_1), (wrap64 (x13_1 + 1)), (by first | rfl | (simp; done) | (simp [*]; done)), (by first | rfl | (simp; done) | (simp [*]; done)), H', ⟨by have := HK1.out; omega⟩, ⟨by (with_reducible repeat (first | apply Kd.R_alloc | apply Kd.R_drewN | apply Kd.R_drew)); exact HO_173003.out⟩, ⟨by (with_reducible repeat (first | apply Kd.R_alloc | apply Kd.R_drewN | apply Kd.R_drew)); exact HO_183003.out⟩, ⟨by (with_reducible repeat (first | refine blk_drewN ?_ _ | refine blk_drew ?_ | refine blk_alloc ?_ _)); exact BK172.out⟩, ⟨by (with_reducible repeat (first | refine blk_drewN ?_ _ | refine blk_drew ?_ | refine blk_alloc ?_ _)); exact BK182.out⟩, ⟨by repeat (first | (with_reducible first | exact HB.out | apply below_alloc | apply pw_below_drewN | apply below_drew1 | refine below_set ?_ GE172.out | refine below_set ?_ GE182.out) | exact HB.out)⟩⟩
          · rw [if_neg c22] at H
            have c22b0 : (((rd_T39 t169 x13_1).f0) == (wrap64 (1 + t173))) = false := beq_eq_false_iff_ne.mpr c22
            have c22b1 : (((rd_T39 t169 x13_1).f0) != (wrap64 (1 + t173))) = true := bne_iff_ne.mpr c22
            have H' := Aside0.mk H
            clear H
            have hnb25 := NB172_182.out
            have hnc25 := NB182_172.out
            have hcz26_0 : wr.cell? ⟨gb172, 0, none⟩ = some (.int .i64 t166) := (blk_cell BK172.out 0).trans rfl
            have hcz26_1 : wr.cell? ⟨gb172, 1, none⟩ = some (.int .i64 t167) := (blk_cell BK172.out 1).trans rfl
            have hcz26_2 : wr.cell? ⟨gb172, 2, none⟩ = some (.int .i64 t168) := (blk_cell BK172.out 2).trans rfl
            have hcz26_3 : wr.cell? ⟨gb172, 3, none⟩ = some (.slice Ao12 t169.length co12) := (blk_cell BK172.out 3).trans rfl
            have hfz26_0 := blk_frozen BK172.out 0
            have hfz26_1 := blk_frozen BK172.out 1
            have hfz26_2 := blk_frozen BK172.out 2
            have hfz26_3 := blk_frozen BK172.out 3
            have p185 : 0 ≤ (x13_1 : Int) := of_decide_eq_true (by first | (with_reducible assumption) | assumption)
            have q185 : x13_1 < (t169.length : Int) := of_decide_eq_true (by first | (with_reducible assumption) | assumption)
            obtain ⟨ad185, e185, hx185_0, hx185_1⟩ := at_T39 (Kd.R_reads' HO_173003.out).2.2 x13_1 p185 q185
            cases e185
            replace p185 := eq_true p185
            replace q185 := eq_true q185
            have p186 : 0 ≤ (x13_1 : Int) := of_decide_eq_true (by first | (with_reducible assumption) | assumption)
            have q186 : x13_1 < (t169.length : Int) := of_decide_eq_true (by first | (with_reducible assumption) | assumption)
            obtain ⟨ad186, e186, hx186_0, hx186_1⟩ := at_T39 (Kd.R_reads' HO_173003.out).2.2 x13_1 p186 q186
            obtain rfl : ad185 = ad186 := (by injection e186)
            replace p186 := eq_true p186
            replace q186 := eq_true q186
            go_wp2
            repeat (go_quiet (fail); try go_wp2)
            go_roundg k1
            case measure => have := HK1.out; omega
            case rel => exact ⟨(wrap64 (x12_1 + ((rd_T39 t169 x13_1).f1))), (wrap64 (x13_1 + 1)), (by first | rfl | (simp; done) | (simp [*]; done)), (by first | rfl | (simp; done) | (simp [*]; done)), H', ⟨by have := HK1.out; omega⟩, ⟨by (with_reducible repeat (first | apply Kd.R_alloc | apply Kd.R_drewN | apply Kd.R_drew)); exact HO_173003.out⟩, ⟨by (with_reducible repeat (first | apply Kd.R_alloc | apply Kd.R_drewN | apply Kd.R_drew)); exact HO_183003.out⟩, ⟨by (with_reducible repeat (first | refine blk_drewN ?_ _ | refine blk_drew ?_ | refine blk_alloc ?_ _)); exact BK172.out⟩, ⟨by (with_reducible repeat (first | refine blk_drewN ?_ _ | refine blk_drew ?_ | refine blk_alloc ?_ _)); exact BK182.out⟩, ⟨by repeat (first | (with_reducible first | exact HB.out | apply below_alloc | apply pw_below_drewN | apply below_drew1 | refine below_set ?_ GE172.out | refine below_set ?_ GE182.out) | exact HB.out)⟩⟩
        · rw [if_neg c21] at H
          exact absurd H (by simp)
      · rw [if_neg c20] at H
        have c20b0 : decide (x13_1 < (t169.length : Int)) = false := decide_eq_false c20
        clear c20
        have HC27 := Aside0.mk H
        clear H
        have hnb28 := NB172_182.out
        have hnc28 := NB182_172.out
        have hcz29_0 : wr.cell? ⟨gb172, 0, none⟩ = some (.int .i64 t166) := (blk_cell BK172.out 0).trans rfl
        have hcz29_1 : wr.cell? ⟨gb172, 1, none⟩ = some (.int .i64 t167) := (blk_cell BK172.out 1).trans rfl
        have hcz29_2 : wr.cell? ⟨gb172, 2, none⟩ = some (.int .i64 t168) := (blk_cell BK172.out 2).trans rfl
        have hcz29_3 : wr.cell? ⟨gb172, 3, none⟩ = some (.slice Ao12 t169.length co12) := (blk_cell BK172.out 3).trans rfl
        have hfz29_0 := blk_frozen BK172.out 0
        have hfz29_1 := blk_frozen BK172.out 1
        have hfz29_2 := blk_frozen BK172.out 2
        have hfz29_3 := blk_frozen BK172.out 3
        go_upto_region 11 with (fail)
        repeat (go_quiet (fail); go_upto_region 11 with (fail))
        go_cut [79] (fun v79 wc => ∃ (kq : Nat) (x79_26 : Bool), v79 = .bool x79_26 ∧ Aside0 (customslaw23_GuaranteeRefused.j1 kq (wrap64 (1 + t173)) t181 t183 x12_1 x79_26 t166 t167 t168 t169 t175 t176 t177 t178 = some r) ∧ Aside0 (kq ≤ k1) ∧ Aside0 (Kd.R k39 39 wc w.heap.size (fun k_ => some k_ ≠ ((.slice Ao17 t178.length co17) : Value).ownBlock) (.slice Ao12 t169.length co12) t169) ∧ Aside0 (Kd.R k39 39 wc w.heap.size (fun k_ => some k_ ≠ ((.slice Ao12 t169.length co12) : Value).ownBlock) (.slice Ao17 t178.length co17) t178) ∧ Aside0 (wc.heap[gb172]? = some (.cells #[.int .i64 t166, .int .i64 t167, .int .i64 t168, (.slice Ao12 t169.length co12)] 25 (0, 0))) ∧ Aside0 (wc.heap[gb182]? = some (.cells #[.int .i64 t175, .int .i64 t176, .int .i64 t177, (.slice Ao17 t178.length co17)] 25 (0, 0))) ∧ Aside0 (Below w.heap.size w wc))
        case first =>
          have H := HC27.out
          clear HC27
          by_cases c30 : t184 = 0
          · rw [if_pos c30] at H
            have c30b0 : (t184 == 0) = true := beq_iff_eq.mpr c30
            have c30b1 : (t184 != 0) = false := bne_eq_false_iff_eq.mpr c30
            clear c30
            (first | rw [c30b0] | (simp only [i64_w, i32_w]; rw [c30b0]) | skip)
            by_cases c31 : ((t181 == 0) != (decide ((wrap64 (x12_1 + t183)) ≤ t167))) = true
            · rw [if_pos c31] at H
              have c31b0 : ((t181 == 0) != (decide ((wrap64 (x12_1 + t183)) ≤ t167))) = true := c31
              (try (have c31b1 : decide ((t181 == 0) = (decide ((wrap64 (x12_1 + t183)) ≤ t167))) = false := by simpa using c31))
              (try (have c31b2 : ((t181 == 0) == (decide ((wrap64 (x12_1 + t183)) ≤ t167))) = false := by simpa using c31))
              (try (have c31b3 : ¬ ((t181 == 0) = (decide ((wrap64 (x12_1 + t183)) ≤ t167))) := by simpa using c31))
              clear c31
              have H' := Aside0.mk H
              clear H
              have hnb32 := NB172_182.out
              have hnc32 := NB182_172.out
              have hcz33_0 : wr.cell? ⟨gb172, 0, none⟩ = some (.int .i64 t166) := (blk_cell BK172.out 0).trans rfl
              have hcz33_1 : wr.cell? ⟨gb172, 1, none⟩ = some (.int .i64 t167) := (blk_cell BK172.out 1).trans rfl
              have hcz33_2 : wr.cell? ⟨gb172, 2, none⟩ = some (.int .i64 t168) := (blk_cell BK172.out 2).trans rfl
              have hcz33_3 : wr.cell? ⟨gb172, 3, none⟩ = some (.slice Ao12 t169.length co12) := (blk_cell BK172.out 3).trans rfl
              have hfz33_0 := blk_frozen BK172.out 0
              have hfz33_1 := blk_frozen BK172.out 1
              have hfz33_2 := blk_frozen BK172.out 2
              have hfz33_3 := blk_frozen BK172.out 3
              go_wp2
              repeat (go_quiet (fail); try go_wp2)
              go_meet
              case rel => exact ⟨_, (true), (by first | rfl | (simp; done) | (simp [*]; done)), H', ⟨by have := HK1.out; first | omega | exact Nat.le_refl _⟩, ⟨by (with_reducible repeat (first | apply Kd.R_alloc | apply Kd.R_drewN | apply Kd.R_drew)); exact HO_173003.out⟩, ⟨by (with_reducible repeat (first | apply Kd.R_alloc | apply Kd.R_drewN | apply Kd.R_drew)); exact HO_183003.out⟩, ⟨by (with_reducible repeat (first | refine blk_drewN ?_ _ | refine blk_drew ?_ | refine blk_alloc ?_ _)); exact BK172.out⟩, ⟨by (with_reducible repeat (first | refine blk_drewN ?_ _ | refine blk_drew ?_ | refine blk_alloc ?_ _)); exact BK182.out⟩, ⟨by repeat (first | (with_reducible first | exact HB.out | apply below_alloc | apply pw_below_drewN | apply below_drew1 | refine below_set ?_ GE172.out | refine below_set ?_ GE182.out) | exact HB.out)⟩⟩
            · rw [if_neg c31] at H
              have c31e := Aside0.mk (show decide ((wrap64 (x12_1 + t183)) ≤ t167) = (t181 == 0) by have h_ := c31; revert h_; cases (t181 == 0) <;> cases (decide ((wrap64 (x12_1 + t183)) ≤ t167)) <;> simp)
              have c31b0 : ((t181 == 0) != (decide ((wrap64 (x12_1 + t183)) ≤ t167))) = false := by simpa using c31
              (try (have c31b1 : decide ((t181 == 0) = (decide ((wrap64 (x12_1 + t183)) ≤ t167))) = true := by simpa using c31))
              (try (have c31b2 : ((t181 == 0) == (decide ((wrap64 (x12_1 + t183)) ≤ t167))) = true := by simpa using c31))
              clear c31
              by_cases c34 : t181 = 0
              · rw [if_pos c34] at H
                have c34b0 : (t181 == 0) = true := beq_iff_eq.mpr c34
                have c31d := c31e.out
                rw [c34b0] at c31d
                have c34b1 : (t181 != 0) = false := bne_eq_false_iff_eq.mpr c34
                clear c34
                have H' := Aside0.mk H
                clear H
                have hnb35 := NB172_182.out
                have hnc35 := NB182_172.out
                have hcz36_0 : wr.cell? ⟨gb172, 0, none⟩ = some (.int .i64 t166) := (blk_cell BK172.out 0).trans rfl
                have hcz36_1 : wr.cell? ⟨gb172, 1, none⟩ = some (.int .i64 t167) := (blk_cell BK172.out 1).trans rfl
                have hcz36_2 : wr.cell? ⟨gb172, 2, none⟩ = some (.int .i64 t168) := (blk_cell BK172.out 2).trans rfl
                have hcz36_3 : wr.cell? ⟨gb172, 3, none⟩ = some (.slice Ao12 t169.length co12) := (blk_cell BK172.out 3).trans rfl
                have hfz36_0 := blk_frozen BK172.out 0
                have hfz36_1 := blk_frozen BK172.out 1
                have hfz36_2 := blk_frozen BK172.out 2
                have hfz36_3 := blk_frozen BK172.out 3
                go_wp2
                repeat (go_quiet (fail); try go_wp2)
                go_meet
                case rel => exact ⟨_, (false), (by first | rfl | (simp; done) | (simp [*]; done)), H', ⟨by have := HK1.out; first | omega | exact Nat.le_refl _⟩, ⟨by (with_reducible repeat (first | apply Kd.R_alloc | apply Kd.R_drewN | apply Kd.R_drew)); exact HO_173003.out⟩, ⟨by (with_reducible repeat (first | apply Kd.R_alloc | apply Kd.R_drewN | apply Kd.R_drew)); exact HO_183003.out⟩, ⟨by (with_reducible repeat (first | refine blk_drewN ?_ _ | refine blk_drew ?_ | refine blk_alloc ?_ _)); exact BK172.out⟩, ⟨by (with_reducible repeat (first | refine blk_drewN ?_ _ | refine blk_drew ?_ | refine blk_alloc ?_ _)); exact BK182.out⟩, ⟨by repeat (first | (with_reducible first | exact HB.out | apply below_alloc | apply pw_below_drewN | apply below_drew1 | refine below_set ?_ GE172.out | refine below_set ?_ GE182.out) | exact HB.out)⟩⟩
              · rw [if_neg c34] at H
                have c34b0 : (t181 == 0) = false := beq_eq_false_iff_ne.mpr c34
                have c31d := c31e.out
                rw [c34b0] at c31d
                have c34b1 : (t181 != 0) = true := bne_iff_ne.mpr c34
                have H' := Aside0.mk H
                clear H
                have hnb37 := NB172_182.out
                have hnc37 := NB182_172.out
                have hcz38_0 : wr.cell? ⟨gb172, 0, none⟩ = some (.int .i64 t166) := (blk_cell BK172.out 0).trans rfl
                have hcz38_1 : wr.cell? ⟨gb172, 1, none⟩ = some (.int .i64 t167) := (blk_cell BK172.out 1).trans rfl
                have hcz38_2 : wr.cell? ⟨gb172, 2, none⟩ = some (.int .i64 t168) := (blk_cell BK172.out 2).trans rfl
                have hcz38_3 : wr.cell? ⟨gb172, 3, none⟩ = some (.slice Ao12 t169.length co12) := (blk_cell BK172.out 3).trans rfl
                have hfz38_0 := blk_frozen BK172.out 0
                have hfz38_1 := blk_frozen BK172.out 1
                have hfz38_2 := blk_frozen BK172.out 2
                have hfz38_3 := blk_frozen BK172.out 3
                go_wp2
                repeat (go_quiet (fail); try go_wp2)
                go_meet
                case rel => exact ⟨_, ((t181 != 16)), (by first | rfl | (simp; done) | (simp [*]; done)), H', ⟨by have := HK1.out; first | omega | exact Nat.le_refl _⟩, ⟨by (with_reducible repeat (first | apply Kd.R_alloc | apply Kd.R_drewN | apply Kd.R_drew)); exact HO_173003.out⟩, ⟨by (with_reducible repeat (first | apply Kd.R_alloc | apply Kd.R_drewN | apply Kd.R_drew)); exact HO_183003.out⟩, ⟨by (with_reducible repeat (first | refine blk_drewN ?_ _ | refine blk_drew ?_ | refine blk_alloc ?_ _)); exact BK172.out⟩, ⟨by (with_reducible repeat (first | refine blk_drewN ?_ _ | refine blk_drew ?_ | refine blk_alloc ?_ _)); exact BK182.out⟩, ⟨by repeat (first | (with_reducible first | exact HB.out | apply below_alloc | apply pw_below_drewN | apply below_drew1 | refine below_set ?_ GE172.out | refine below_set ?_ GE182.out) | exact HB.out)⟩⟩
          · rw [if_neg c30] at H
            have c30b0 : (t184 == 0) = false := beq_eq_false_iff_ne.mpr c30
            have c30b1 : (t184 != 0) = true := bne_iff_ne.mpr c30
            (first | rw [c30b0] | (simp only [i64_w, i32_w]; rw [c30b0]) | skip)
            have H' := Aside0.mk H
            clear H
            go_wp2
            repeat (go_quiet (fail); try go_wp2)
            go_meet
            case rel => exact ⟨_, (true), (by first | rfl | (simp; done) | (simp [*]; done)), H', ⟨by have := HK1.out; first | omega | exact Nat.le_refl _⟩, ⟨by (with_reducible repeat (first | apply Kd.R_alloc | apply Kd.R_drewN | apply Kd.R_drew)); exact HO_173003.out⟩, ⟨by (with_reducible repeat (first | apply Kd.R_alloc | apply Kd.R_drewN | apply Kd.R_drew)); exact HO_183003.out⟩, ⟨by (with_reducible repeat (first | refine blk_drewN ?_ _ | refine blk_drew ?_ | refine blk_alloc ?_ _)); exact BK172.out⟩, ⟨by (with_reducible repeat (first | refine blk_drewN ?_ _ | refine blk_drew ?_ | refine blk_alloc ?_ _)); exact BK182.out⟩, ⟨by repeat (first | (with_reducible first | exact HB.out | apply below_alloc | apply pw_below_drewN | apply below_drew1 | refine below_set ?_ GE172.out | refine below_set ?_ GE182.out) | exact HB.out)⟩⟩
        case rest =>
          clear HC27
          try clear c1
          try clear p1
          try clear q1
          try clear hx1
          try clear c2
          try clear p2
          try clear c3
          try clear c5
          try clear p6
          try clear c15
          try clear p18
          try clear q18
          try clear hx18
          try clear c20
          try clear c20b0
          try clear c21
          try clear c21b0
          try clear c22
          try clear c22b0
          try clear c22b1
          try clear c23
          try clear c25
          try clear c28
          try clear c30
          try clear c30b0
          try clear c30b1
          try clear c31
          try clear c31b0
          try clear c31b1
          try clear c31b2
          try clear c32
          try clear c34
          try clear c34b0
          try clear c34b1
          try clear c35
          try clear c37
          try clear hcz11_0
          try clear hcz11_1
          try clear hcz11_2
          try clear hcz11_3
          try clear hcz16_0
          try clear hcz16_1
          try clear hcz16_2
          try clear hcz16_3
          try clear hcz18_0
          try clear hcz18_1
          try clear hcz18_2
          try clear hcz18_3
          try clear hcz24_0
          try clear hcz24_1
          try clear hcz24_2
          try clear hcz24_3
          try clear hcz26_0
          try clear hcz26_1
          try clear hcz26_2
          try clear hcz26_3
          try clear hcz29_0
          try clear hcz29_1
          try clear hcz29_2
          try clear hcz29_3
          try clear hcz33_0
          try clear hcz33_1
          try clear hcz33_2
          try clear hcz33_3
          try clear hcz36_0
          try clear hcz36_1
          try clear hcz36_2
          try clear hcz36_3
          try clear hcz38_0
          try clear hcz38_1
          try clear hcz38_2
          try clear hcz38_3
          try clear hfz11_0
          try clear hfz11_1
          try clear hfz11_2
          try clear hfz11_3
          try clear hfz16_0
          try clear hfz16_1
          try clear hfz16_2
          try clear hfz16_3
          try clear hfz18_0
          try clear hfz18_1
          try clear hfz18_2
          try clear hfz18_3
          try clear hfz24_0
          try clear hfz24_1
          try clear hfz24_2
          try clear hfz24_3
          try clear hfz26_0
          try clear hfz26_1
          try clear hfz26_2
          try clear hfz26_3
          try clear hfz29_0
          try clear hfz29_1
          try clear hfz29_2
          try clear hfz29_3
          try clear hfz33_0
          try clear hfz33_1
          try clear hfz33_2
          try clear hfz33_3
          try clear hfz36_0
          try clear hfz36_1
          try clear hfz36_2
          try clear hfz36_3
          try clear hfz38_0
          try clear hfz38_1
          try clear hfz38_2
          try clear hfz38_3
          try clear hx185_0
          try clear hx185_1
          try clear hx186_0
          try clear hx186_1
          try clear p185
          try clear p186
          try clear p2
          try clear p6
          try clear q185
          try clear q186
          obtain ⟨kq, x79_26, rfl, HA, HJ26, HO_173003, HO_183003, BK172, BK182, HB⟩ := hcut
          cases kq with
          | zero => exact absurd HA.out (by simp [customslaw23_GuaranteeRefused.j1])
          | succ kj26 =>
            have H := HA.out
            clear HA
            simp only [customslaw23_GuaranteeRefused.j1] at H
            by_cases c39 : x79_26 = true
            · subst c39
              have H1 : (some false) = some r := by rw [if_pos rfl] at H; exact H
              clear H
              have H := H1
              clear H1
              obtain rfl := Option.some.inj H
              go_wp2
              repeat (go_quiet (fail); try go_wp2)
              go_ret
              exact ⟨by first | rfl | (simp [errW_none, errW_some] <;> rfl) | (simp [*, errW_none, errW_some] <;> rfl), by repeat (first | (with_reducible first | exact HB.out | apply below_alloc | apply pw_below_drewN | apply below_drew1 | refine below_set ?_ GE172.out | refine below_set ?_ GE182.out) | exact HB.out)⟩
            · replace c39 := Bool.eq_false_iff.mpr c39
              subst c39
              have H1 : (if t181 = 0 then (customslaw23_GuaranteeRefused.l1 kj26 (wrap64 (1 + t173)) t183 x12_1 0 0 t166 t167 t168 t169 t175 t176 t177 t178) else ((customslaw23_awake.f kj26).bind fun t187 => (some t187))) = some r := by rw [if_neg (show ¬ (false = true) by decide)] at H; exact H
              clear H
              have H := H1
              clear H1
              by_cases c40 : t181 = 0
              · rw [if_pos c40] at H
                have c40b0 : (t181 == 0) = true := beq_iff_eq.mpr c40
                have c40b1 : (t181 != 0) = false := bne_eq_false_iff_eq.mpr c40
                clear c40
                have H' := Aside0.mk H
                clear H
                go_wp2
                repeat (go_quiet (fail); try go_wp2)
                go_loopg [14, 15] kj26 (fun kq v14 v15 w' => ∃ (x14_3 : Int) (x15_3 : Int), v14 = .int .i64 x14_3 ∧ v15 = .int .i64 x15_3 ∧ Aside0 (customslaw23_GuaranteeRefused.l1 kq (wrap64 (1 + t173)) t183 x12_1 x14_3 x15_3 t166 t167 t168 t169 t175 t176 t177 t178 = some r) ∧ Aside0 (kq ≤ kj26) ∧ Aside0 (Kd.R k39 39 w' w.heap.size (fun k_ => some k_ ≠ ((.slice Ao17 t178.length co17) : Value).ownBlock) (.slice Ao12 t169.length co12) t169) ∧ Aside0 (Kd.R k39 39 w' w.heap.size (fun k_ => some k_ ≠ ((.slice Ao12 t169.length co12) : Value).ownBlock) (.slice Ao17 t178.length co17) t178) ∧ Aside0 (w'.heap[gb172]? = some (.cells #[.int .i64 t166, .int .i64 t167, .int .i64 t168, (.slice Ao12 t169.length co12)] 25 (0, 0))) ∧ Aside0 (w'.heap[gb182]? = some (.cells #[.int .i64 t175, .int .i64 t176, .int .i64 t177, (.slice Ao17 t178.length co17)] 25 (0, 0))) ∧ Aside0 (Below w.heap.size w w'))
                case atStart => exact ⟨(0), (0), (by first | rfl | (simp; done) | (simp [*]; done)), (by first | rfl | (simp; done) | (simp [*]; done)), H', ⟨Nat.le_refl _⟩, ⟨by (with_reducible repeat (first | apply Kd.R_alloc | apply Kd.R_drewN | apply Kd.R_drew)); exact HO_173003.out⟩, ⟨by (with_reducible repeat (first | apply Kd.R_alloc | apply Kd.R_drewN | apply Kd.R_drew)); exact HO_183003.out⟩, ⟨by (with_reducible repeat (first | refine blk_drewN ?_ _ | refine blk_drew ?_ | refine blk_alloc ?_ _)); exact BK172.out⟩, ⟨by (with_reducible repeat (first | refine blk_drewN ?_ _ | refine blk_drew ?_ | refine blk_alloc ?_ _)); exact BK182.out⟩, ⟨by repeat (first | (with_reducible first | exact HB.out | apply below_alloc | apply pw_below_drewN | apply below_drew1 | refine below_set ?_ GE172.out | refine below_set ?_ GE182.out) | exact HB.out)⟩⟩
                case round =>
                  clear H'
                  try clear c1
                  try clear p1
                  try clear q1
                  try clear hx1
                  try clear c2
                  try clear p2
                  try clear c3
                  try clear c4
                  try clear c5
                  try clear p6
                  try clear c15
                  try clear p18
                  try clear q18
                  try clear hx18
                  try clear c20
                  try clear c20b0
                  try clear c21
                  try clear c21b0
                  try clear c22
                  try clear c22b0
                  try clear c22b1
                  try clear c23
                  try clear c25
                  try clear c28
                  try clear c30
                  try clear c30b0
                  try clear c30b1
                  try clear c31
                  try clear c31b0
                  try clear c31b1
                  try clear c31b2
                  try clear c32
                  try clear c34
                  try clear c34b0
                  try clear c34b1
                  try clear c35
                  try clear c37
                  try clear c39
                  try clear c40
                  try clear c40b0
                  try clear c40b1
                  try clear hcz11_0
                  try clear hcz11_1
                  try clear hcz11_2
                  try clear hcz11_3
                  try clear hcz16_0
                  try clear hcz16_1
                  try clear hcz16_2
                  try clear hcz16_3
                  try clear hcz18_0
                  try clear hcz18_1
                  try clear hcz18_2
                  try clear hcz18_3
                  try clear hcz24_0
                  try clear hcz24_1
                  try clear hcz24_2
                  try clear hcz24_3
                  try clear hcz26_0
                  try clear hcz26_1
                  try clear hcz26_2
                  try clear hcz26_3
                  try clear hcz29_0
                  try clear hcz29_1
                  try clear hcz29_2
                  try clear hcz29_3
                  try clear hcz33_0
                  try clear hcz33_1
                  try clear hcz33_2
                  try clear hcz33_3
                  try clear hcz36_0
                  try clear hcz36_1
                  try clear hcz36_2
                  try clear hcz36_3
                  try clear hcz38_0
                  try clear hcz38_1
                  try clear hcz38_2
                  try clear hcz38_3
                  try clear hfz11_0
                  try clear hfz11_1
                  try clear hfz11_2
                  try clear hfz11_3
                  try clear hfz16_0
                  try clear hfz16_1
                  try clear hfz16_2
                  try clear hfz16_3
                  try clear hfz18_0
                  try clear hfz18_1
                  try clear hfz18_2
                  try clear hfz18_3
                  try clear hfz24_0
                  try clear hfz24_1
                  try clear hfz24_2
                  try clear hfz24_3
                  try clear hfz26_0
                  try clear hfz26_1
                  try clear hfz26_2
                  try clear hfz26_3
                  try clear hfz29_0
                  try clear hfz29_1
                  try clear hfz29_2
                  try clear hfz29_3
                  try clear hfz33_0
                  try clear hfz33_1
                  try clear hfz33_2
                  try clear hfz33_3
                  try clear hfz36_0
                  try clear hfz36_1
                  try clear hfz36_2
                  try clear hfz36_3
                  try clear hfz38_0
                  try clear hfz38_1
                  try clear hfz38_2
                  try clear hfz38_3
                  try clear hx185_0
                  try clear hx185_1
                  try clear hx186_0
                  try clear hx186_1
                  try clear p1
                  try clear p18
                  try clear p185
                  try clear p186
                  try clear p2
                  try clear p6
                  try clear q1
                  try clear q18
                  try clear q185
                  try clear q186
                  obtain ⟨x14_3, x15_3, rfl, rfl, HA, HK3, HO_173003, HO_183003, BK172, BK182, HB⟩ := hrel
                  cases gk with
                  | zero => exact absurd HA.out (by simp [customslaw23_GuaranteeRefused.l1])
                  | succ k3 =>
                    have H := HA.out
                    clear HA
                    simp only [customslaw23_GuaranteeRefused.l1] at H
                    by_cases c41 : x15_3 < (t178.length : Int)
                    · rw [if_pos c41] at H
                      have c41b0 : decide (x15_3 < (t178.length : Int)) = true := decide_eq_true c41
                      clear c41
                      by_cases c42 : 0 ≤ x15_3
                      · rw [if_pos c42] at H
                        have c42b0 : decide (0 ≤ x15_3) = true := decide_eq_true c42
                        clear c42
                        by_cases c43 : ((rd_T39 t178 x15_3).f0) = (wrap64 (1 + t173))
                        · rw [if_pos c43] at H
                          have c43b0 : (((rd_T39 t178 x15_3).f0) == (wrap64 (1 + t173))) = true := beq_iff_eq.mpr c43
                          have c43b1 : (((rd_T39 t178 x15_3).f0) != (wrap64 (1 + t173))) = false := bne_eq_false_iff_eq.mpr c43
                          clear c43
                          by_cases c44 : ((rd_T39 t178 x15_3).f1) = t183
                          · rw [if_pos c44] at H
                            have c44b0 : (((rd_T39 t178 x15_3).f1) == t183) = true := beq_iff_eq.mpr c44
                            have c44b1 : (((rd_T39 t178 x15_3).f1) != t183) = false := bne_eq_false_iff_eq.mpr c44
                            clear c44
                            have H' := Aside0.mk H
                            clear H
                            have hnb45 := NB182_172.out
                            have hnc45 := NB172_182.out
                            have hcz46_0 : wr.cell? ⟨gb182, 0, none⟩ = some (.int .i64 t175) := (blk_cell BK182.out 0).trans rfl
                            have hcz46_1 : wr.cell? ⟨gb182, 1, none⟩ = some (.int .i64 t176) := (blk_cell BK182.out 1).trans rfl
                            have hcz46_2 : wr.cell? ⟨gb182, 2, none⟩ = some (.int .i64 t177) := (blk_cell BK182.out 2).trans rfl
                            have hcz46_3 : wr.cell? ⟨gb182, 3, none⟩ = some (.slice Ao17 t178.length co17) := (blk_cell BK182.out 3).trans rfl
                            have hfz46_0 := blk_frozen BK182.out 0
                            have hfz46_1 := blk_frozen BK182.out 1
                            have hfz46_2 := blk_frozen BK182.out 2
                            have hfz46_3 := blk_frozen BK182.out 3
                            have p190 : 0 ≤ (x15_3 : Int) := of_decide_eq_true (by first | (with_reducible assumption) | assumption)
                            have q190 : x15_3 < (t178.length : Int) := of_decide_eq_true (by first | (with_reducible assumption) | assumption)
                            obtain ⟨ad190, e190, hx190_0, hx190_1⟩ := at_T39 (Kd.R_reads' HO_183003.out).2.2 x15_3 p190 q190
                            cases e190
                            replace p190 := eq_true p190
                            replace q190 := eq_true q190
                            have p191 : 0 ≤ (x15_3 : Int) := of_decide_eq_true (by first | (with_reducible assumption) | assumption)
                            have q191 : x15_3 < (t178.length : Int) := of_decide_eq_true (by first | (with_reducible assumption) | assumption)
                            obtain ⟨ad191, e191, hx191_0, hx191_1⟩ := at_T39 (Kd.R_reads' HO_183003.out).2.2 x15_3 p191 q191
                            obtain rfl : ad190 = ad191 := (by injection e191)
                            replace p191 := eq_true p191
                            replace q191 := eq_true q191
                            go_wp2
                            repeat (go_quiet (fail); try go_wp2)
                            go_roundg k3
                            case measure => have := HK1.out; have := HJ26.out; have := HK3.out; omega
                            case rel => exact ⟨(x14_3), (wrap64 (x15_3 + 1)), (by first | rfl | (simp; done) | (simp [*]; done)), (by first | rfl | (simp; done) | (simp [*]; done)), H', ⟨by have := HK1.out; have := HJ26.out; have := HK3.out; omega⟩, ⟨by (with_reducible repeat (first | apply Kd.R_alloc | apply Kd.R_drewN | apply Kd.R_drew)); exact HO_173003.out⟩, ⟨by (with_reducible repeat (first | apply Kd.R_alloc | apply Kd.R_drewN | apply Kd.R_drew)); exact HO_183003.out⟩, ⟨by (with_reducible repeat (first | refine blk_drewN ?_ _ | refine blk_drew ?_ | refine blk_alloc ?_ _)); exact BK172.out⟩, ⟨by (with_reducible repeat (first | refine blk_drewN ?_ _ | refine blk_drew ?_ | refine blk_alloc ?_ _)); exact BK182.out⟩, ⟨by repeat (first | (with_reducible first | exact HB.out | apply below_alloc | apply pw_below_drewN | apply below_drew1 | refine below_set ?_ GE172.out | refine below_set ?_ GE182.out) | exact HB.out)⟩⟩
                          · rw [if_neg c44] at H
                            have c44b0 : (((rd_T39 t178 x15_3).f1) == t183) = false := beq_eq_false_iff_ne.mpr c44
                            have c44b1 : (((rd_T39 t178 x15_3).f1) != t183) = true := bne_iff_ne.mpr c44
                            obtain rfl := Option.some.inj H
                            have hnb47 := NB182_172.out
                            have hnc47 := NB172_182.out
                            have hcz48_0 : wr.cell? ⟨gb182, 0, none⟩ = some (.int .i64 t175) := (blk_cell BK182.out 0).trans rfl
                            have hcz48_1 : wr.cell? ⟨gb182, 1, none⟩ = some (.int .i64 t176) := (blk_cell BK182.out 1).trans rfl
                            have hcz48_2 : wr.cell? ⟨gb182, 2, none⟩ = some (.int .i64 t177) := (blk_cell BK182.out 2).trans rfl
                            have hcz48_3 : wr.cell? ⟨gb182, 3, none⟩ = some (.slice Ao17 t178.length co17) := (blk_cell BK182.out 3).trans rfl
                            have hfz48_0 := blk_frozen BK182.out 0
                            have hfz48_1 := blk_frozen BK182.out 1
                            have hfz48_2 := blk_frozen BK182.out 2
                            have hfz48_3 := blk_frozen BK182.out 3
                            have p190 : 0 ≤ (x15_3 : Int) := of_decide_eq_true (by first | (with_reducible assumption) | assumption)
                            have q190 : x15_3 < (t178.length : Int) := of_decide_eq_true (by first | (with_reducible assumption) | assumption)
                            obtain ⟨ad190, e190, hx190_0, hx190_1⟩ := at_T39 (Kd.R_reads' HO_183003.out).2.2 x15_3 p190 q190
                            cases e190
                            replace p190 := eq_true p190
                            replace q190 := eq_true q190
                            have p191 : 0 ≤ (x15_3 : Int) := of_decide_eq_true (by first | (with_reducible assumption) | assumption)
                            have q191 : x15_3 < (t178.length : Int) := of_decide_eq_true (by first | (with_reducible assumption) | assumption)
                            obtain ⟨ad191, e191, hx191_0, hx191_1⟩ := at_T39 (Kd.R_reads' HO_183003.out).2.2 x15_3 p191 q191
                            obtain rfl : ad190 = ad191 := (by injection e191)
                            replace p191 := eq_true p191
                            replace q191 := eq_true q191
                            go_wp2
                            repeat (go_quiet (fail); try go_wp2)
                            go_ret
                            exact ⟨by first | rfl | (simp [errW_none, errW_some] <;> rfl) | (simp [*, errW_none, errW_some] <;> rfl), by repeat (first | (with_reducible first | exact HB.out | apply below_alloc | apply pw_below_drewN | apply below_drew1 | refine below_set ?_ GE172.out | refine below_set ?_ GE182.out) | exact HB.out)⟩
                        · rw [if_neg c43] at H
                          have c43b0 : (((rd_T39 t178 x15_3).f0) == (wrap64 (1 + t173))) = false := beq_eq_false_iff_ne.mpr c43
                          have c43b1 : (((rd_T39 t178 x15_3).f0) != (wrap64 (1 + t173))) = true := bne_iff_ne.mpr c43
                          have H' := Aside0.mk H
                          clear H
                          have hnb49 := NB182_172.out
                          have hnc49 := NB172_182.out
                          have hcz50_0 : wr.cell? ⟨gb182, 0, none⟩ = some (.int .i64 t175) := (blk_cell BK182.out 0).trans rfl
                          have hcz50_1 : wr.cell? ⟨gb182, 1, none⟩ = some (.int .i64 t176) := (blk_cell BK182.out 1).trans rfl
                          have hcz50_2 : wr.cell? ⟨gb182, 2, none⟩ = some (.int .i64 t177) := (blk_cell BK182.out 2).trans rfl
                          have hcz50_3 : wr.cell? ⟨gb182, 3, none⟩ = some (.slice Ao17 t178.length co17) := (blk_cell BK182.out 3).trans rfl
                          have hfz50_0 := blk_frozen BK182.out 0
                          have hfz50_1 := blk_frozen BK182.out 1
                          have hfz50_2 := blk_frozen BK182.out 2
                          have hfz50_3 := blk_frozen BK182.out 3
                          have p190 : 0 ≤ (x15_3 : Int) := of_decide_eq_true (by first | (with_reducible assumption) | assumption)
                          have q190 : x15_3 < (t178.length : Int) := of_decide_eq_true (by first | (with_reducible assumption) | assumption)
                          obtain ⟨ad190, e190, hx190_0, hx190_1⟩ := at_T39 (Kd.R_reads' HO_183003.out).2.2 x15_3 p190 q190
                          cases e190
                          replace p190 := eq_true p190
                          replace q190 := eq_true q190
                          go_wp2
                          repeat (go_quiet (fail); try go_wp2)
                          go_loopg [14] k3 (fun kq v14 w' => ∃ (x14_4 : Int), v14 = .int .i64 x14_4 ∧ Aside0 (customslaw23_GuaranteeRefused.l2 kq (wrap64 (1 + t173)) t183 x12_1 x14_4 x15_3 t166 t167 t168 t169 t175 t176 t177 t178 = some r) ∧ Aside0 (kq ≤ k3) ∧ Aside0 (Kd.R k39 39 w' w.heap.size (fun k_ => some k_ ≠ ((.slice (some ad190) t178.length co17) : Value).ownBlock) (.slice Ao12 t169.length co12) t169) ∧ Aside0 (Kd.R k39 39 w' w.heap.size (fun k_ => some k_ ≠ ((.slice Ao12 t169.length co12) : Value).ownBlock) (.slice (some ad190) t178.length co17) t178) ∧ Aside0 (w'.heap[gb172]? = some (.cells #[.int .i64 t166, .int .i64 t167, .int .i64 t168, (.slice Ao12 t169.length co12)] 25 (0, 0))) ∧ Aside0 (w'.heap[gb182]? = some (.cells #[.int .i64 t175, .int .i64 t176, .int .i64 t177, (.slice (some ad190) t178.length co17)] 25 (0, 0))) ∧ Aside0 (Below w.heap.size w w'))
                          case atStart => exact ⟨(x14_3), (by first | rfl | (simp; done) | (simp [*]; done)), H', ⟨Nat.le_refl _⟩, ⟨by (with_reducible repeat (first | apply Kd.R_alloc | apply Kd.R_drewN | apply Kd.R_drew)); exact HO_173003.out⟩, ⟨by (with_reducible repeat (first | apply Kd.R_alloc | apply Kd.R_drewN | apply Kd.R_drew)); exact HO_183003.out⟩, ⟨by (with_reducible repeat (first | refine blk_drewN ?_ _ | refine blk_drew ?_ | refine blk_alloc ?_ _)); exact BK172.out⟩, ⟨by (with_reducible repeat (first | refine blk_drewN ?_ _ | refine blk_drew ?_ | refine blk_alloc ?_ _)); exact BK182.out⟩, ⟨by repeat (first | (with_reducible first | exact HB.out | apply below_alloc | apply pw_below_drewN | apply below_drew1 | refine below_set ?_ GE172.out | refine below_set ?_ GE182.out) | exact HB.out)⟩⟩
                          case round =>
                            clear H'
                            try clear c1
                            try clear p1
                            try clear q1
                            try clear hx1
                            try clear c2
                            try clear p2
                            try clear c3
                            try clear c4
                            try clear c5
                            try clear p6
                            try clear c15
                            try clear p18
                            try clear q18
                            try clear hx18
                            try clear p19
                            try clear q19
                            try clear hx19
                            try clear c20
                            try clear c20b0
                            try clear c21
                            try clear c21b0
                            try clear c22
                            try clear c22b0
                            try clear c22b1
                            try clear c23
                            try clear c25
                            try clear c28
                            try clear c30
                            try clear c30b0
                            try clear c30b1
                            try clear c31
                            try clear c31b0
                            try clear c31b1
                            try clear c31b2
                            try clear c32
                            try clear c34
                            try clear c34b0
                            try clear c34b1
                            try clear c35
                            try clear c37
                            try clear c39
                            try clear c40
                            try clear c40b0
                            try clear c40b1
                            try clear c41
                            try clear c41b0
                            try clear c42
                            try clear c42b0
                            try clear c43
                            try clear c43b0
                            try clear c43b1
                            try clear c44
                            try clear c44b0
                            try clear c44b1
                            try clear c45
                            try clear c47
                            try clear c49
                            try clear hcz11_0
                            try clear hcz11_1
                            try clear hcz11_2
                            try clear hcz11_3
                            try clear hcz16_0
                            try clear hcz16_1
                            try clear hcz16_2
                            try clear hcz16_3
                            try clear hcz18_0
                            try clear hcz18_1
                            try clear hcz18_2
                            try clear hcz18_3
                            try clear hcz24_0
                            try clear hcz24_1
                            try clear hcz24_2
                            try clear hcz24_3
                            try clear hcz26_0
                            try clear hcz26_1
                            try clear hcz26_2
                            try clear hcz26_3
                            try clear hcz29_0
                            try clear hcz29_1
                            try clear hcz29_2
                            try clear hcz29_3
                            try clear hcz33_0
                            try clear hcz33_1
                            try clear hcz33_2
                            try clear hcz33_3
                            try clear hcz36_0
                            try clear hcz36_1
                            try clear hcz36_2
                            try clear hcz36_3
                            try clear hcz38_0
                            try clear hcz38_1
                            try clear hcz38_2
                            try clear hcz38_3
                            try clear hcz46_0
                            try clear hcz46_1
                            try clear hcz46_2
                            try clear hcz46_3
                            try clear hcz48_0
                            try clear hcz48_1
                            try clear hcz48_2
                            try clear hcz48_3
                            try clear hcz50_0
                            try clear hcz50_1
                            try clear hcz50_2
                            try clear hcz50_3
                            try clear hfz11_0
                            try clear hfz11_1
                            try clear hfz11_2
                            try clear hfz11_3
                            try clear hfz16_0
                            try clear hfz16_1
                            try clear hfz16_2
                            try clear hfz16_3
                            try clear hfz18_0
                            try clear hfz18_1
                            try clear hfz18_2
                            try clear hfz18_3
                            try clear hfz24_0
                            try clear hfz24_1
                            try clear hfz24_2
                            try clear hfz24_3
                            try clear hfz26_0
                            try clear hfz26_1
                            try clear hfz26_2
                            try clear hfz26_3
                            try clear hfz29_0
                            try clear hfz29_1
                            try clear hfz29_2
                            try clear hfz29_3
                            try clear hfz33_0
                            try clear hfz33_1
                            try clear hfz33_2
                            try clear hfz33_3
                            try clear hfz36_0
                            try clear hfz36_1
                            try clear hfz36_2
                            try clear hfz36_3
                            try clear hfz38_0
                            try clear hfz38_1
                            try clear hfz38_2
                            try clear hfz38_3
                            try clear hfz46_0
                            try clear hfz46_1
                            try clear hfz46_2
                            try clear hfz46_3
                            try clear hfz48_0
                            try clear hfz48_1
                            try clear hfz48_2
                            try clear hfz48_3
                            try clear hfz50_0
                            try clear hfz50_1
                            try clear hfz50_2
                            try clear hfz50_3
                            try clear hx185_0
                            try clear hx185_1
                            try clear hx186_0
                            try clear hx186_1
                            try clear hx190_0
                            try clear hx190_1
                            try clear hx191_0
                            try clear hx191_1
                            try clear p1
                            try clear p18
                            try clear p185
                            try clear p186
                            try clear p190
                            try clear p191
                            try clear p2
                            try clear p6
                            try clear q1
                            try clear q18
                            try clear q185
                            try clear q186
                            try clear q190
                            try clear q191
                            obtain ⟨x14_4, rfl, HA, HK4, HO_173003, HO_183003, BK172, BK182, HB⟩ := hrel
                            cases gk with
                            | zero => exact absurd HA.out (by simp [customslaw23_GuaranteeRefused.l2])
                            | succ k4 =>
                              have H := HA.out
                              clear HA
                              simp only [customslaw23_GuaranteeRefused.l2] at H
                              by_cases c51 : x14_4 < (t169.length : Int)
                              · rw [if_pos c51] at H
                                have c51b0 : decide (x14_4 < (t169.length : Int)) = true := decide_eq_true c51
                                clear c51
                                by_cases c52 : 0 ≤ x14_4
                                · rw [if_pos c52] at H
                                  have c52b0 : decide (0 ≤ x14_4) = true := decide_eq_true c52
                                  clear c52
                                  by_cases c53 : ((rd_T39 t169 x14_4).f0) = (wrap64 (1 + t173))
                                  · rw [if_pos c53] at H
                                    have c53b0 : (((rd_T39 t169 x14_4).f0) == (wrap64 (1 + t173))) = true := beq_iff_eq.mpr c53
                                    have c53b1 : (((rd_T39 t169 x14_4).f0) != (wrap64 (1 + t173))) = false := bne_eq_false_iff_eq.mpr c53
                                    clear c53
                                    have H' := Aside0.mk H
                                    clear H
                                    have hnb54 := NB172_182.out
                                    have hnc54 := NB182_172.out
                                    have hcz55_0 : wr.cell? ⟨gb172, 0, none⟩ = some (.int .i64 t166) := (blk_cell BK172.out 0).trans rfl
                                    have hcz55_1 : wr.cell? ⟨gb172, 1, none⟩ = some (.int .i64 t167) := (blk_cell BK172.out 1).trans rfl
                                    have hcz55_2 : wr.cell? ⟨gb172, 2, none⟩ = some (.int .i64 t168) := (blk_cell BK172.out 2).trans rfl
                                    have hcz55_3 : wr.cell? ⟨gb172, 3, none⟩ = some (.slice Ao12 t169.length co12) := (blk_cell BK172.out 3).trans rfl
                                    have hfz55_0 := blk_frozen BK172.out 0
                                    have hfz55_1 := blk_frozen BK172.out 1
                                    have hfz55_2 := blk_frozen BK172.out 2
                                    have hfz55_3 := blk_frozen BK172.out 3
                                    have p192 : 0 ≤ (x14_4 : Int) := of_decide_eq_true (by first | (with_reducible assumption) | assumption)
                                    have q192 : x14_4 < (t169.length : Int) := of_decide_eq_true (by first | (with_reducible assumption) | assumption)
                                    obtain ⟨ad192, e192, hx192_0, hx192_1⟩ := at_T39 (Kd.R_reads' HO_173003.out).2.2 x14_4 p192 q192
                                    cases e192
                                    replace p192 := eq_true p192
                                    replace q192 := eq_true q192
                                    go_wp2
                                    repeat (go_quiet (fail); try go_wp2)
                                    go_roundg k4
                                    case measure => have := HK1.out; have := HJ26.out; have := HK3.out; have := HK4.out; omega
                                    case rel => exact ⟨(wrap64 (x14_4 + 1)), (by first | rfl | (simp; done) | (simp [*]; done)), H', ⟨by have := HK1.out; have := HJ26.out; have := HK3.out; have := HK4.out; omega⟩, ⟨by (with_reducible repeat (first | apply Kd.R_alloc | apply Kd.R_drewN | apply Kd.R_drew)); exact HO_173003.out⟩, ⟨by (with_reducible repeat (first | apply Kd.R_alloc | apply Kd.R_drewN | apply Kd.R_drew)); exact HO_183003.out⟩, ⟨by (with_reducible repeat (first | refine blk_drewN ?_ _ | refine blk_drew ?_ | refine blk_alloc ?_ _)); exact BK172.out⟩, ⟨by (with_reducible repeat (first | refine blk_drewN ?_ _ | refine blk_drew ?_ | refine blk_alloc ?_ _)); exact BK182.out⟩, ⟨by repeat (first | (with_reducible first | exact HB.out | apply below_alloc | apply pw_below_drewN | apply below_drew1 | refine below_set ?_ GE172.out | refine below_set ?_ GE182.out) | exact HB.out)⟩⟩
                                  · rw [if_neg c53] at H
                                    have c53b0 : (((rd_T39 t169 x14_4).f0) == (wrap64 (1 + t173))) = false := beq_eq_false_iff_ne.mpr c53
                                    have c53b1 : (((rd_T39 t169 x14_4).f0) != (wrap64 (1 + t173))) = true := bne_iff_ne.mpr c53
                                    by_cases c56 : x14_4 ≥ (t169.length : Int)
                                    · rw [if_pos c56] at H
                                      have c56b0 : decide ((t169.length : Int) ≤ x14_4) = true := decide_eq_true c56
                                      clear c56
                                      obtain rfl := Option.some.inj H
                                      have hnb57 := NB172_182.out
                                      have hnc57 := NB182_172.out
                                      have hcz58_0 : wr.cell? ⟨gb172, 0, none⟩ = some (.int .i64 t166) := (blk_cell BK172.out 0).trans rfl
                                      have hcz58_1 : wr.cell? ⟨gb172, 1, none⟩ = some (.int .i64 t167) := (blk_cell BK172.out 1).trans rfl
                                      have hcz58_2 : wr.cell? ⟨gb172, 2, none⟩ = some (.int .i64 t168) := (blk_cell BK172.out 2).trans rfl
                                      have hcz58_3 : wr.cell? ⟨gb172, 3, none⟩ = some (.slice Ao12 t169.length co12) := (blk_cell BK172.out 3).trans rfl
                                      have hfz58_0 := blk_frozen BK172.out 0
                                      have hfz58_1 := blk_frozen BK172.out 1
                                      have hfz58_2 := blk_frozen BK172.out 2
                                      have hfz58_3 := blk_frozen BK172.out 3
                                      have p192 : 0 ≤ (x14_4 : Int) := of_decide_eq_true (by first | (with_reducible assumption) | assumption)
                                      have q192 : x14_4 < (t169.length : Int) := of_decide_eq_true (by first | (with_reducible assumption) | assumption)
                                      obtain ⟨ad192, e192, hx192_0, hx192_1⟩ := at_T39 (Kd.R_reads' HO_173003.out).2.2 x14_4 p192 q192
                                      cases e192
                                      replace p192 := eq_true p192
                                      replace q192 := eq_true q192
                                      go_wp2
                                      repeat (go_quiet (fail); try go_wp2)
                                      go_ret
                                      exact ⟨by first | rfl | (simp [errW_none, errW_some] <;> rfl) | (simp [*, errW_none, errW_some] <;> rfl), by repeat (first | (with_reducible first | exact HB.out | apply below_alloc | apply pw_below_drewN | apply below_drew1 | refine below_set ?_ GE172.out | refine below_set ?_ GE182.out) | exact HB.out)⟩
                                    · rw [if_neg c56] at H
                                      have c56b0 : decide ((t169.length : Int) ≤ x14_4) = false := decide_eq_false c56
                                      clear c56
                                      by_cases c59 : 0 ≤ x15_3
                                      · rw [if_pos c59] at H
                                        have c59b0 : decide (0 ≤ x15_3) = true := decide_eq_true c59
                                        clear c59
                                        by_cases c60 : x15_3 < (t178.length : Int)
                                        · rw [if_pos c60] at H
                                          have c60b0 : decide (x15_3 < (t178.length : Int)) = true := decide_eq_true c60
                                          clear c60
                                          by_cases c61 : (!(((rd_T39 t169 x14_4).f0) == ((rd_T39 t178 x15_3).f0)) || (!(((rd_T39 t169 x14_4).f1) == ((rd_T39 t178 x15_3).f1)))) = true
                                          · rw [if_pos c61] at H
                                            have c61b0 : (!(((rd_T39 t169 x14_4).f0) == ((rd_T39 t178 x15_3).f0)) || (!(((rd_T39 t169 x14_4).f1) == ((rd_T39 t178 x15_3).f1)))) = true := c61
                                            clear c61
                                            obtain rfl := Option.some.inj H
                                            have hnb62 := NB172_182.out
                                            have hnc62 := NB182_172.out
                                            have hcz63_0 : wr.cell? ⟨gb172, 0, none⟩ = some (.int .i64 t166) := (blk_cell BK172.out 0).trans rfl
                                            have hcz63_1 : wr.cell? ⟨gb172, 1, none⟩ = some (.int .i64 t167) := (blk_cell BK172.out 1).trans rfl
                                            have hcz63_2 : wr.cell? ⟨gb172, 2, none⟩ = some (.int .i64 t168) := (blk_cell BK172.out 2).trans rfl
                                            have hcz63_3 : wr.cell? ⟨gb172, 3, none⟩ = some (.slice Ao12 t169.length co12) := (blk_cell BK172.out 3).trans rfl
                                            have hfz63_0 := blk_frozen BK172.out 0
                                            have hfz63_1 := blk_frozen BK172.out 1
                                            have hfz63_2 := blk_frozen BK172.out 2
                                            have hfz63_3 := blk_frozen BK172.out 3
                                            have p192 : 0 ≤ (x14_4 : Int) := of_decide_eq_true (by first | (with_reducible assumption) | assumption)
                                            have q192 : x14_4 < (t169.length : Int) := of_decide_eq_true (by first | (with_reducible assumption) | assumption)
                                            obtain ⟨ad192, e192, hx192_0, hx192_1⟩ := at_T39 (Kd.R_reads' HO_173003.out).2.2 x14_4 p192 q192
                                            cases e192
                                            replace p192 := eq_true p192
                                            replace q192 := eq_true q192
                                            have p193 : 0 ≤ (x14_4 : Int) := of_decide_eq_true (by first | (with_reducible assumption) | assumption)
                                            have q193 : x14_4 < (t169.length : Int) := of_decide_eq_true (by first | (with_reducible assumption) | assumption)
                                            obtain ⟨ad193, e193, hx193_0, hx193_1⟩ := at_T39 (Kd.R_reads' HO_173003.out).2.2 x14_4 p193 q193
                                            obtain rfl : ad192 = ad193 := (by injection e193)
                                            replace p193 := eq_true p193
                                            replace q193 := eq_true q193
                                            have hcz64_0 : wr.cell? ⟨gb182, 0, none⟩ = some (.int .i64 t175) := (blk_cell BK182.out 0).trans rfl
                                            have hcz64_1 : wr.cell? ⟨gb182, 1, none⟩ = some (.int .i64 t176) := (blk_cell BK182.out 1).trans rfl
                                            have hcz64_2 : wr.cell? ⟨gb182, 2, none⟩ = some (.int .i64 t177) := (blk_cell BK182.out 2).trans rfl
                                            have hcz64_3 : wr.cell? ⟨gb182, 3, none⟩ = some (.slice (some ad190) t178.length co17) := (blk_cell BK182.out 3).trans rfl
                                            have hfz64_0 := blk_frozen BK182.out 0
                                            have hfz64_1 := blk_frozen BK182.out 1
                                            have hfz64_2 := blk_frozen BK182.out 2
                                            have hfz64_3 := blk_frozen BK182.out 3
                                            have p194 : 0 ≤ (x15_3 : Int) := of_decide_eq_true (by first | (with_reducible assumption) | assumption)
                                            have q194 : x15_3 < (t178.length : Int) := of_decide_eq_true (by first | (with_reducible assumption) | assumption)
                                            obtain ⟨ad194, e194, hx194_0, hx194_1⟩ := at_T39 (Kd.R_reads' HO_183003.out).2.2 x15_3 p194 q194
                                            obtain rfl : ad190 = ad194 := (by injection e194)
                                            replace p194 := eq_true p194
                                            replace q194 := eq_true q194
                                            go_wp2
                                            repeat (go_quiet (fail); try go_wp2)
                                            go_ret
                                            exact ⟨by first | rfl | (simp [errW_none, errW_some] <;> rfl) | (simp [*, errW_none, errW_some] <;> rfl), by repeat (first | (with_reducible first | exact HB.out | apply below_alloc | apply pw_below_drewN | apply below_drew1 | refine below_set ?_ GE172.out | refine below_set ?_ GE182.out) | exact HB.out)⟩
                                          · rw [if_neg c61] at H
                                            have c61b0 : (!(((rd_T39 t169 x14_4).f0) == ((rd_T39 t178 x15_3).f0)) || (!(((rd_T39 t169 x14_4).f1) == ((rd_T39 t178 x15_3).f1)))) = false := by simpa using c61
                                            clear c61
                                            have H' := Aside0.mk H
                                            clear H
                                            have hnb65 := NB172_182.out
                                            have hnc65 := NB182_172.out
                                            have hcz66_0 : wr.cell? ⟨gb172, 0, none⟩ = some (.int .i64 t166) := (blk_cell BK172.out 0).trans rfl
                                            have hcz66_1 : wr.cell? ⟨gb172, 1, none⟩ = some (.int .i64 t167) := (blk_cell BK172.out 1).trans rfl
                                            have hcz66_2 : wr.cell? ⟨gb172, 2, none⟩ = some (.int .i64 t168) := (blk_cell BK172.out 2).trans rfl
                                            have hcz66_3 : wr.cell? ⟨gb172, 3, none⟩ = some (.slice Ao12 t169.length co12) := (blk_cell BK172.out 3).trans rfl
                                            have hfz66_0 := blk_frozen BK172.out 0
                                            have hfz66_1 := blk_frozen BK172.out 1
                                            have hfz66_2 := blk_frozen BK172.out 2
                                            have hfz66_3 := blk_frozen BK172.out 3
                                            have p192 : 0 ≤ (x14_4 : Int) := of_decide_eq_true (by first | (with_reducible assumption) | assumption)
                                            have q192 : x14_4 < (t169.length : Int) := of_decide_eq_true (by first | (with_reducible assumption) | assumption)
                                            obtain ⟨ad192, e192, hx192_0, hx192_1⟩ := at_T39 (Kd.R_reads' HO_173003.out).2.2 x14_4 p192 q192
                                            cases e192
                                            replace p192 := eq_true p192
                                            replace q192 := eq_true q192
                                            have p193 : 0 ≤ (x14_4 : Int) := of_decide_eq_true (by first | (with_reducible assumption) | assumption)
                                            have q193 : x14_4 < (t169.length : Int) := of_decide_eq_true (by first | (with_reducible assumption) | assumption)
                                            obtain ⟨ad193, e193, hx193_0, hx193_1⟩ := at_T39 (Kd.R_reads' HO_173003.out).2.2 x14_4 p193 q193
                                            obtain rfl : ad192 = ad193 := (by injection e193)
                                            replace p193 := eq_true p193
                                            replace q193 := eq_true q193
                                            have hcz67_0 : wr.cell? ⟨gb182, 0, none⟩ = some (.int .i64 t175) := (blk_cell BK182.out 0).trans rfl
                                            have hcz67_1 : wr.cell? ⟨gb182, 1, none⟩ = some (.int .i64 t176) := (blk_cell BK182.out 1).trans rfl
                                            have hcz67_2 : wr.cell? ⟨gb182, 2, none⟩ = some (.int .i64 t177) := (blk_cell BK182.out 2).trans rfl
                                            have hcz67_3 : wr.cell? ⟨gb182, 3, none⟩ = some (.slice (some ad190) t178.length co17) := (blk_cell BK182.out 3).trans rfl
                                            have hfz67_0 := blk_frozen BK182.out 0
                                            have hfz67_1 := blk_frozen BK182.out 1
                                            have hfz67_2 := blk_frozen BK182.out 2
                                            have hfz67_3 := blk_frozen BK182.out 3
                                            have p194 : 0 ≤ (x15_3 : Int) := of_decide_eq_true (by first | (with_reducible assumption) | assumption)
                                            have q194 : x15_3 < (t178.length : Int) := of_decide_eq_true (by first | (with_reducible assumption) | assumption)
                                            obtain ⟨ad194, e194, hx194_0, hx194_1⟩ := at_T39 (Kd.R_reads' HO_183003.out).2.2 x15_3 p194 q194
                                            obtain rfl : ad190 = ad194 := (by injection e194)
                                            replace p194 := eq_true p194
                                            replace q194 := eq_true q194
                                            go_wp2
                                            repeat (go_quiet (fail); try go_wp2)
                                            go_roundg k4
                                            case measure => have := HK1.out; have := HJ26.out; have := HK3.out; have := HK4.out; omega
                                            case rel => exact ⟨(wrap64 (x14_4 + 1)), (wrap64 (x15_3 + 1)), (by first | rfl | (simp; done) | (simp [*]; done)), (by first | rfl | (simp; done) | (simp [*]; done)), H', ⟨by have := HK1.out; have := HJ26.out; have := HK3.out; have := HK4.out; omega⟩, ⟨by (with_reducible repeat (first | apply Kd.R_alloc | apply Kd.R_drewN | apply Kd.R_drew)); exact HO_173003.out⟩, ⟨by (with_reducible repeat (first | apply Kd.R_alloc | apply Kd.R_drewN | apply Kd.R_drew)); exact HO_183003.out⟩, ⟨by (with_reducible repeat (first | refine blk_drewN ?_ _ | refine blk_drew ?_ | refine blk_alloc ?_ _)); exact BK172.out⟩, ⟨by (with_reducible repeat (first | refine blk_drewN ?_ _ | refine blk_drew ?_ | refine blk_alloc ?_ _)); exact BK182.out⟩, ⟨by repeat (first | (with_reducible first | exact HB.out | apply below_alloc | apply pw_below_drewN | apply below_drew1 | refine below_set ?_ GE172.out | refine below_set ?_ GE182.out) | exact HB.out)⟩⟩
                                        · rw [if_neg c60] at H
                                          exact absurd H (by simp)
                                      · rw [if_neg c59] at H
                                        exact absurd H (by simp)
                                · rw [if_neg c52] at H
                                  exact absurd H (by simp)
                              · rw [if_neg c51] at H
                                have c51b0 : decide (x14_4 < (t169.length : Int)) = false := decide_eq_false c51
                                clear c51
                                by_cases c68 : x14_4 ≥ (t169.length : Int)
                                · rw [if_pos c68] at H
                                  have c68b0 : decide ((t169.length : Int) ≤ x14_4) = true := decide_eq_true c68
                                  clear c68
                                  obtain rfl := Option.some.inj H
                                  have hnb69 := NB172_182.out
                                  have hnc69 := NB182_172.out
                                  have hcz70_0 : wr.cell? ⟨gb172, 0, none⟩ = some (.int .i64 t166) := (blk_cell BK172.out 0).trans rfl
                                  have hcz70_1 : wr.cell? ⟨gb172, 1, none⟩ = some (.int .i64 t167) := (blk_cell BK172.out 1).trans rfl
                                  have hcz70_2 : wr.cell? ⟨gb172, 2, none⟩ = some (.int .i64 t168) := (blk_cell BK172.out 2).trans rfl
                                  have hcz70_3 : wr.cell? ⟨gb172, 3, none⟩ = some (.slice Ao12 t169.length co12) := (blk_cell BK172.out 3).trans rfl
                                  have hfz70_0 := blk_frozen BK172.out 0
                                  have hfz70_1 := blk_frozen BK172.out 1
                                  have hfz70_2 := blk_frozen BK172.out 2
                                  have hfz70_3 := blk_frozen BK172.out 3
                                  go_wp2
                                  repeat (go_quiet (fail); try go_wp2)
                                  go_ret
                                  exact ⟨by first | rfl | (simp [errW_none, errW_some] <;> rfl) | (simp [*, errW_none, errW_some] <;> rfl), by repeat (first | (with_reducible first | exact HB.out | apply below_alloc | apply pw_below_drewN | apply below_drew1 | refine below_set ?_ GE172.out | refine below_set ?_ GE182.out) | exact HB.out)⟩
                                · rw [if_neg c68] at H
                                  have c68b0 : decide ((t169.length : Int) ≤ x14_4) = false := decide_eq_false c68
                                  clear c68
                                  by_cases c71 : 0 ≤ x14_4
                                  · rw [if_pos c71] at H
                                    exact absurd H (by simp)
                                  · rw [if_neg c71] at H
                                    exact absurd H (by simp)
                      · rw [if_neg c42] at H
                        exact absurd H (by simp)
                    · rw [if_neg c41] at H
                      have c41b0 : decide (x15_3 < (t178.length : Int)) = false := decide_eq_false c41
                      clear c41
                      replace H := Option.bind_eq_some_iff.mp H
                      obtain ⟨t188, A720, H⟩ := H
                      replace H : (if t188 = (wrap64 (x12_1 + t183)) then ((customslaw23_awake.f k3).bind fun t189 => (some t189)) else (some false)) = some r := H
                      have A72 := Aside0.mk A720
                      clear A720
                      by_cases c73 : t188 = (wrap64 (x12_1 + t183))
                      · rw [if_pos c73] at H
                        have c73b0 : (t188 == (wrap64 (x12_1 + t183))) = true := beq_iff_eq.mpr c73
                        have c73b1 : (t188 != (wrap64 (x12_1 + t183))) = false := bne_eq_false_iff_eq.mpr c73
                        clear c73
                        replace H := Option.bind_eq_some_iff.mp H
                        obtain ⟨t189, A740, H⟩ := H
                        replace H : (some t189) = some r := H
                        have A74 := Aside0.mk A740
                        clear A740
                        obtain rfl := Option.some.inj H
                        have hnb75 := NB182_172.out
                        have hnc75 := NB172_182.out
                        have hcz76_0 : wr.cell? ⟨gb182, 0, none⟩ = some (.int .i64 t175) := (blk_cell BK182.out 0).trans rfl
                        have hcz76_1 : wr.cell? ⟨gb182, 1, none⟩ = some (.int .i64 t176) := (blk_cell BK182.out 1).trans rfl
                        have hcz76_2 : wr.cell? ⟨gb182, 2, none⟩ = some (.int .i64 t177) := (blk_cell BK182.out 2).trans rfl
                        have hcz76_3 : wr.cell? ⟨gb182, 3, none⟩ = some (.slice Ao17 t178.length co17) := (blk_cell BK182.out 3).trans rfl
                        have hfz76_0 := blk_frozen BK182.out 0
                        have hfz76_1 := blk_frozen BK182.out 1
                        have hfz76_2 := blk_frozen BK182.out 2
                        have hfz76_3 := blk_frozen BK182.out 3
                        go_wp2_with (first | (go_at_call 13; (with_reducible refine (guarantee_Total.calls k3 t175 t176 t177 _ _ t178 t188 _ ?side1 ?side2 A72.out).mono ?_); (case side1 => repeat (first | exact (Kd.R_reads' HO_183003.out).2.2 | (with_reducible refine Kd.C_alloc ?_ _) | (with_reducible refine Kd.C_drewN ?_ _) | (with_reducible refine Kd.C_drew ?_))); (case side2 => exact (Kd.R_reads' HO_183003.out).2.1); rintro e w77 ⟨rfl, hb⟩; have n0_ := Aside0.mk (Kd.R_below (by (with_reducible repeat (first | apply Kd.R_alloc | apply Kd.R_drewN | apply Kd.R_drew)); exact HO_173003.out) hb); have n1_ := Aside0.mk (Kd.R_below (by (with_reducible repeat (first | apply Kd.R_alloc | apply Kd.R_drewN | apply Kd.R_drew)); exact HO_183003.out) hb); have n2_ := Aside0.mk (blk_below (g := gb172) (o := .cells #[.int .i64 t166, .int .i64 t167, .int .i64 t168, .slice Ao12 t169.length co12] 25 (0, 0)) (by (with_reducible repeat (first | refine blk_drewN ?_ _ | refine blk_drew ?_ | refine blk_alloc ?_ _)); exact BK172.out) hb); have n3_ := Aside0.mk (blk_below (g := gb182) (o := .cells #[.int .i64 t175, .int .i64 t176, .int .i64 t177, .slice Ao17 t178.length co17] 25 (0, 0)) (by (with_reducible repeat (first | refine blk_drewN ?_ _ | refine blk_drew ?_ | refine blk_alloc ?_ _)); exact BK182.out) hb); have n4_ := Aside0.mk (below_step (by repeat (first | (with_reducible first | exact HB.out | apply below_alloc | apply pw_below_drewN | apply below_drew1 | refine below_set ?_ GE172.out | refine below_set ?_ GE182.out) | exact HB.out)) hb); clear HO_173003; clear HO_183003; clear BK172; clear BK182; clear HB; have HO_173003 := n0_; have HO_183003 := n1_; have BK172 := n2_; have BK182 := n3_; have HB := n4_; clear n0_ n1_ n2_ n3_ n4_; (try clear hb); (try clear hb2); (try clear hk); (try clear hi)) | (go_at_call 15; (with_reducible refine (customslaw23_awake.calls k3  t189 _ A74.out).mono ?_); rintro e w78 ⟨rfl, hb⟩; have n0_ := Aside0.mk (Kd.R_below (by (with_reducible repeat (first | apply Kd.R_alloc | apply Kd.R_drewN | apply Kd.R_drew)); exact HO_173003.out) hb); have n1_ := Aside0.mk (Kd.R_below (by (with_reducible repeat (first | apply Kd.R_alloc | apply Kd.R_drewN | apply Kd.R_drew)); exact HO_183003.out) hb); have n2_ := Aside0.mk (blk_below (g := gb172) (o := .cells #[.int .i64 t166, .int .i64 t167, .int .i64 t168, .slice Ao12 t169.length co12] 25 (0, 0)) (by (with_reducible repeat (first | refine blk_drewN ?_ _ | refine blk_drew ?_ | refine blk_alloc ?_ _)); exact BK172.out) hb); have n3_ := Aside0.mk (blk_below (g := gb182) (o := .cells #[.int .i64 t175, .int .i64 t176, .int .i64 t177, .slice Ao17 t178.length co17] 25 (0, 0)) (by (with_reducible repeat (first | refine blk_drewN ?_ _ | refine blk_drew ?_ | refine blk_alloc ?_ _)); exact BK182.out) hb); have n4_ := Aside0.mk (below_step (by repeat (first | (with_reducible first | exact HB.out | apply below_alloc | apply pw_below_drewN | apply below_drew1 | refine below_set ?_ GE172.out | refine below_set ?_ GE182.out) | exact HB.out)) hb); clear HO_173003; clear HO_183003; clear BK172; clear BK182; clear HB; have HO_173003 := n0_; have HO_183003 := n1_; have BK172 := n2_; have BK182 := n3_; have HB := n4_; clear n0_ n1_ n2_ n3_ n4_; (try clear hb); (try clear hb2); (try clear hk); (try clear hi)))
                        repeat (go_quiet (first | (go_at_call 13; (with_reducible refine (guarantee_Total.calls k3 t175 t176 t177 _ _ t178 t188 _ ?side1 ?side2 A72.out).mono ?_); (case side1 => repeat (first | exact (Kd.R_reads' HO_183003.out).2.2 | (with_reducible refine Kd.C_alloc ?_ _) | (with_reducible refine Kd.C_drewN ?_ _) | (with_reducible refine Kd.C_drew ?_))); (case side2 => exact (Kd.R_reads' HO_183003.out).2.1); rintro e w77 ⟨rfl, hb⟩; have n0_ := Aside0.mk (Kd.R_below (by (with_reducible repeat (first | apply Kd.R_alloc | apply Kd.R_drewN | apply Kd.R_drew)); exact HO_173003.out) hb); have n1_ := Aside0.mk (Kd.R_below (by (with_reducible repeat (first | apply Kd.R_alloc | apply Kd.R_drewN | apply Kd.R_drew)); exact HO_183003.out) hb); have n2_ := Aside0.mk (blk_below (g := gb172) (o := .cells #[.int .i64 t166, .int .i64 t167, .int .i64 t168, .slice Ao12 t169.length co12] 25 (0, 0)) (by (with_reducible repeat (first | refine blk_drewN ?_ _ | refine blk_drew ?_ | refine blk_alloc ?_ _)); exact BK172.out) hb); have n3_ := Aside0.mk (blk_below (g := gb182) (o := .cells #[.int .i64 t175, .int .i64 t176, .int .i64 t177, .slice Ao17 t178.length co17] 25 (0, 0)) (by (with_reducible repeat (first | refine blk_drewN ?_ _ | refine blk_drew ?_ | refine blk_alloc ?_ _)); exact BK182.out) hb); have n4_ := Aside0.mk (below_step (by repeat (first | (with_reducible first | exact HB.out | apply below_alloc | apply pw_below_drewN | apply below_drew1 | refine below_set ?_ GE172.out | refine below_set ?_ GE182.out) | exact HB.out)) hb); clear HO_173003; clear HO_183003; clear BK172; clear BK182; clear HB; have HO_173003 := n0_; have HO_183003 := n1_; have BK172 := n2_; have BK182 := n3_; have HB := n4_; clear n0_ n1_ n2_ n3_ n4_; (try clear hb); (try clear hb2); (try clear hk); (try clear hi)) | (go_at_call 15; (with_reducible refine (customslaw23_awake.calls k3  t189 _ A74.out).mono ?_); rintro e w78 ⟨rfl, hb⟩; have n0_ := Aside0.mk (Kd.R_below (by (with_reducible repeat (first | apply Kd.R_alloc | apply Kd.R_drewN | apply Kd.R_drew)); exact HO_173003.out) hb); have n1_ := Aside0.mk (Kd.R_below (by (with_reducible repeat (first | apply Kd.R_alloc | apply Kd.R_drewN | apply Kd.R_drew)); exact HO_183003.out) hb); have n2_ := Aside0.mk (blk_below (g := gb172) (o := .cells #[.int .i64 t166, .int .i64 t167, .int .i64 t168, .slice Ao12 t169.length co12] 25 (0, 0)) (by (with_reducible repeat (first | refine blk_drewN ?_ _ | refine blk_drew ?_ | refine blk_alloc ?_ _)); exact BK172.out) hb); have n3_ := Aside0.mk (blk_below (g := gb182) (o := .cells #[.int .i64 t175, .int .i64 t176, .int .i64 t177, .slice Ao17 t178.length co17] 25 (0, 0)) (by (with_reducible repeat (first | refine blk_drewN ?_ _ | refine blk_drew ?_ | refine blk_alloc ?_ _)); exact BK182.out) hb); have n4_ := Aside0.mk (below_step (by repeat (first | (with_reducible first | exact HB.out | apply below_alloc | apply pw_below_drewN | apply below_drew1 | refine below_set ?_ GE172.out | refine below_set ?_ GE182.out) | exact HB.out)) hb); clear HO_173003; clear HO_183003; clear BK172; clear BK182; clear HB; have HO_173003 := n0_; have HO_183003 := n1_; have BK172 := n2_; have BK182 := n3_; have HB := n4_; clear n0_ n1_ n2_ n3_ n4_; (try clear hb); (try clear hb2); (try clear hk); (try clear hi))); try go_wp2_with (first | (go_at_call 13; (with_reducible refine (guarantee_Total.calls k3 t175 t176 t177 _ _ t178 t188 _ ?side1 ?side2 A72.out).mono ?_); (case side1 => repeat (first | exact (Kd.R_reads' HO_183003.out).2.2 | (with_reducible refine Kd.C_alloc ?_ _) | (with_reducible refine Kd.C_drewN ?_ _) | (with_reducible refine Kd.C_drew ?_))); (case side2 => exact (Kd.R_reads' HO_183003.out).2.1); rintro e w77 ⟨rfl, hb⟩; have n0_ := Aside0.mk (Kd.R_below (by (with_reducible repeat (first | apply Kd.R_alloc | apply Kd.R_drewN | apply Kd.R_drew)); exact HO_173003.out) hb); have n1_ := Aside0.mk (Kd.R_below (by (with_reducible repeat (first | apply Kd.R_alloc | apply Kd.R_drewN | apply Kd.R_drew)); exact HO_183003.out) hb); have n2_ := Aside0.mk (blk_below (g := gb172) (o := .cells #[.int .i64 t166, .int .i64 t167, .int .i64 t168, .slice Ao12 t169.length co12] 25 (0, 0)) (by (with_reducible repeat (first | refine blk_drewN ?_ _ | refine blk_drew ?_ | refine blk_alloc ?_ _)); exact BK172.out) hb); have n3_ := Aside0.mk (blk_below (g := gb182) (o := .cells #[.int .i64 t175, .int .i64 t176, .int .i64 t177, .slice Ao17 t178.length co17] 25 (0, 0)) (by (with_reducible repeat (first | refine blk_drewN ?_ _ | refine blk_drew ?_ | refine blk_alloc ?_ _)); exact BK182.out) hb); have n4_ := Aside0.mk (below_step (by repeat (first | (with_reducible first | exact HB.out | apply below_alloc | apply pw_below_drewN | apply below_drew1 | refine below_set ?_ GE172.out | refine below_set ?_ GE182.out) | exact HB.out)) hb); clear HO_173003; clear HO_183003; clear BK172; clear BK182; clear HB; have HO_173003 := n0_; have HO_183003 := n1_; have BK172 := n2_; have BK182 := n3_; have HB := n4_; clear n0_ n1_ n2_ n3_ n4_; (try clear hb); (try clear hb2); (try clear hk); (try clear hi)) | (go_at_call 15; (with_reducible refine (customslaw23_awake.calls k3  t189 _ A74.out).mono ?_); rintro e w78 ⟨rfl, hb⟩; have n0_ := Aside0.mk (Kd.R_below (by (with_reducible repeat (first | apply Kd.R_alloc | apply Kd.R_drewN | apply Kd.R_drew)); exact HO_173003.out) hb); have n1_ := Aside0.mk (Kd.R_below (by (with_reducible repeat (first | apply Kd.R_alloc | apply Kd.R_drewN | apply Kd.R_drew)); exact HO_183003.out) hb); have n2_ := Aside0.mk (blk_below (g := gb172) (o := .cells #[.int .i64 t166, .int .i64 t167, .int .i64 t168, .slice Ao12 t169.length co12] 25 (0, 0)) (by (with_reducible repeat (first | refine blk_drewN ?_ _ | refine blk_drew ?_ | refine blk_alloc ?_ _)); exact BK172.out) hb); have n3_ := Aside0.mk (blk_below (g := gb182) (o := .cells #[.int .i64 t175, .int .i64 t176, .int .i64 t177, .slice Ao17 t178.length co17] 25 (0, 0)) (by (with_reducible repeat (first | refine blk_drewN ?_ _ | refine blk_drew ?_ | refine blk_alloc ?_ _)); exact BK182.out) hb); have n4_ := Aside0.mk (below_step (by repeat (first | (with_reducible first | exact HB.out | apply below_alloc | apply pw_below_drewN | apply below_drew1 | refine below_set ?_ GE172.out | refine below_set ?_ GE182.out) | exact HB.out)) hb); clear HO_173003; clear HO_183003; clear BK172; clear BK182; clear HB; have HO_173003 := n0_; have HO_183003 := n1_; have BK172 := n2_; have BK182 := n3_; have HB := n4_; clear n0_ n1_ n2_ n3_ n4_; (try clear hb); (try clear hb2); (try clear hk); (try clear hi))))
                        go_ret
                        exact ⟨by first | rfl | (simp [errW_none, errW_some] <;> rfl) | (simp [*, errW_none, errW_some] <;> rfl), by repeat (first | (with_reducible first | exact HB.out | apply below_alloc | apply pw_below_drewN | apply below_drew1 | refine below_set ?_ GE172.out | refine below_set ?_ GE182.out) | exact HB.out)⟩
                      · rw [if_neg c73] at H
                        have c73b0 : (t188 == (wrap64 (x12_1 + t183))) = false := beq_eq_false_iff_ne.mpr c73
                        have c73b1 : (t188 != (wrap64 (x12_1 + t183))) = true := bne_iff_ne.mpr c73
                        obtain rfl := Option.some.inj H
                        have hnb79 := NB182_172.out
                        have hnc79 := NB172_182.out
                        have hcz80_0 : wr.cell? ⟨gb182, 0, none⟩ = some (.int .i64 t175) := (blk_cell BK182.out 0).trans rfl
                        have hcz80_1 : wr.cell? ⟨gb182, 1, none⟩ = some (.int .i64 t176) := (blk_cell BK182.out 1).trans rfl
                        have hcz80_2 : wr.cell? ⟨gb182, 2, none⟩ = some (.int .i64 t177) := (blk_cell BK182.out 2).trans rfl
                        have hcz80_3 : wr.cell? ⟨gb182, 3, none⟩ = some (.slice Ao17 t178.length co17) := (blk_cell BK182.out 3).trans rfl
                        have hfz80_0 := blk_frozen BK182.out 0
                        have hfz80_1 := blk_frozen BK182.out 1
                        have hfz80_2 := blk_frozen BK182.out 2
                        have hfz80_3 := blk_frozen BK182.out 3
                        go_wp2_with (first | (go_at_call 13; (with_reducible refine (guarantee_Total.calls k3 t175 t176 t177 _ _ t178 t188 _ ?side1 ?side2 A72.out).mono ?_); (case side1 => repeat (first | exact (Kd.R_reads' HO_183003.out).2.2 | (with_reducible refine Kd.C_alloc ?_ _) | (with_reducible refine Kd.C_drewN ?_ _) | (with_reducible refine Kd.C_drew ?_))); (case side2 => exact (Kd.R_reads' HO_183003.out).2.1); rintro e w81 ⟨rfl, hb⟩; have n0_ := Aside0.mk (Kd.R_below (by (with_reducible repeat (first | apply Kd.R_alloc | apply Kd.R_drewN | apply Kd.R_drew)); exact HO_173003.out) hb); have n1_ := Aside0.mk (Kd.R_below (by (with_reducible repeat (first | apply Kd.R_alloc | apply Kd.R_drewN | apply Kd.R_drew)); exact HO_183003.out) hb); have n2_ := Aside0.mk (blk_below (g := gb172) (o := .cells #[.int .i64 t166, .int .i64 t167, .int .i64 t168, .slice Ao12 t169.length co12] 25 (0, 0)) (by (with_reducible repeat (first | refine blk_drewN ?_ _ | refine blk_drew ?_ | refine blk_alloc ?_ _)); exact BK172.out) hb); have n3_ := Aside0.mk (blk_below (g := gb182) (o := .cells #[.int .i64 t175, .int .i64 t176, .int .i64 t177, .slice Ao17 t178.length co17] 25 (0, 0)) (by (with_reducible repeat (first | refine blk_drewN ?_ _ | refine blk_drew ?_ | refine blk_alloc ?_ _)); exact BK182.out) hb); have n4_ := Aside0.mk (below_step (by repeat (first | (with_reducible first | exact HB.out | apply below_alloc | apply pw_below_drewN | apply below_drew1 | refine below_set ?_ GE172.out | refine below_set ?_ GE182.out) | exact HB.out)) hb); clear HO_173003; clear HO_183003; clear BK172; clear BK182; clear HB; have HO_173003 := n0_; have HO_183003 := n1_; have BK172 := n2_; have BK182 := n3_; have HB := n4_; clear n0_ n1_ n2_ n3_ n4_; (try clear hb); (try clear hb2); (try clear hk); (try clear hi)))
                        repeat (go_quiet (first | (go_at_call 13; (with_reducible refine (guarantee_Total.calls k3 t175 t176 t177 _ _ t178 t188 _ ?side1 ?side2 A72.out).mono ?_); (case side1 => repeat (first | exact (Kd.R_reads' HO_183003.out).2.2 | (with_reducible refine Kd.C_alloc ?_ _) | (with_reducible refine Kd.C_drewN ?_ _) | (with_reducible refine Kd.C_drew ?_))); (case side2 => exact (Kd.R_reads' HO_183003.out).2.1); rintro e w81 ⟨rfl, hb⟩; have n0_ := Aside0.mk (Kd.R_below (by (with_reducible repeat (first | apply Kd.R_alloc | apply Kd.R_drewN | apply Kd.R_drew)); exact HO_173003.out) hb); have n1_ := Aside0.mk (Kd.R_below (by (with_reducible repeat (first | apply Kd.R_alloc | apply Kd.R_drewN | apply Kd.R_drew)); exact HO_183003.out) hb); have n2_ := Aside0.mk (blk_below (g := gb172) (o := .cells #[.int .i64 t166, .int .i64 t167, .int .i64 t168, .slice Ao12 t169.length co12] 25 (0, 0)) (by (with_reducible repeat (first | refine blk_drewN ?_ _ | refine blk_drew ?_ | refine blk_alloc ?_ _)); exact BK172.out) hb); have n3_ := Aside0.mk (blk_below (g := gb182) (o := .cells #[.int .i64 t175, .int .i64 t176, .int .i64 t177, .slice Ao17 t178.length co17] 25 (0, 0)) (by (with_reducible repeat (first | refine blk_drewN ?_ _ | refine blk_drew ?_ | refine blk_alloc ?_ _)); exact BK182.out) hb); have n4_ := Aside0.mk (below_step (by repeat (first | (with_reducible first | exact HB.out | apply below_alloc | apply pw_below_drewN | apply below_drew1 | refine below_set ?_ GE172.out | refine below_set ?_ GE182.out) | exact HB.out)) hb); clear HO_173003; clear HO_183003; clear BK172; clear BK182; clear HB; have HO_173003 := n0_; have HO_183003 := n1_; have BK172 := n2_; have BK182 := n3_; have HB := n4_; clear n0_ n1_ n2_ n3_ n4_; (try clear hb); (try clear hb2); (try clear hk); (try clear hi))); try go_wp2_with (first | (go_at_call 13; (with_reducible refine (guarantee_Total.calls k3 t175 t176 t177 _ _ t178 t188 _ ?side1 ?side2 A72.out).mono ?_); (case side1 => repeat (first | exact (Kd.R_reads' HO_183003.out).2.2 | (with_reducible refine Kd.C_alloc ?_ _) | (with_reducible refine Kd.C_drewN ?_ _) | (with_reducible refine Kd.C_drew ?_))); (case side2 => exact (Kd.R_reads' HO_183003.out).2.1); rintro e w81 ⟨rfl, hb⟩; have n0_ := Aside0.mk (Kd.R_below (by (with_reducible repeat (first | apply Kd.R_alloc | apply Kd.R_drewN | apply Kd.R_drew)); exact HO_173003.out) hb); have n1_ := Aside0.mk (Kd.R_below (by (with_reducible repeat (first | apply Kd.R_alloc | apply Kd.R_drewN | apply Kd.R_drew)); exact HO_183003.out) hb); have n2_ := Aside0.mk (blk_below (g := gb172) (o := .cells #[.int .i64 t166, .int .i64 t167, .int .i64 t168, .slice Ao12 t169.length co12] 25 (0, 0)) (by (with_reducible repeat (first | refine blk_drewN ?_ _ | refine blk_drew ?_ | refine blk_alloc ?_ _)); exact BK172.out) hb); have n3_ := Aside0.mk (blk_below (g := gb182) (o := .cells #[.int .i64 t175, .int .i64 t176, .int .i64 t177, .slice Ao17 t178.length co17] 25 (0, 0)) (by (with_reducible repeat (first | refine blk_drewN ?_ _ | refine blk_drew ?_ | refine blk_alloc ?_ _)); exact BK182.out) hb); have n4_ := Aside0.mk (below_step (by repeat (first | (with_reducible first | exact HB.out | apply below_alloc | apply pw_below_drewN | apply below_drew1 | refine below_set ?_ GE172.out | refine below_set ?_ GE182.out) | exact HB.out)) hb); clear HO_173003; clear HO_183003; clear BK172; clear BK182; clear HB; have HO_173003 := n0_; have HO_183003 := n1_; have BK172 := n2_; have BK182 := n3_; have HB := n4_; clear n0_ n1_ n2_ n3_ n4_; (try clear hb); (try clear hb2); (try clear hk); (try clear hi))))
                        go_ret
                        exact ⟨by first | rfl | (simp [errW_none, errW_some] <;> rfl) | (simp [*, errW_none, errW_some] <;> rfl), by repeat (first | (with_reducible first | exact HB.out | apply below_alloc | apply pw_below_drewN | apply below_drew1 | refine below_set ?_ GE172.out | refine below_set ?_ GE182.out) | exact HB.out)⟩
              · rw [if_neg c40] at H
                have c40b0 : (t181 == 0) = false := beq_eq_false_iff_ne.mpr c40
                have c40b1 : (t181 != 0) = true := bne_iff_ne.mpr c40
                replace H := Option.bind_eq_some_iff.mp H
                obtain ⟨t187, A820, H⟩ := H
                replace H : (some t187) = some r := H
                have A82 := Aside0.mk A820
                clear A820
                obtain rfl := Option.some.inj H
                go_wp2_with (first | (go_at_call 15; (with_reducible refine (customslaw23_awake.calls kj26  t187 _ A82.out).mono ?_); rintro e w83 ⟨rfl, hb⟩; have n0_ := Aside0.mk (Kd.R_below (by (with_reducible repeat (first | apply Kd.R_alloc | apply Kd.R_drewN | apply Kd.R_drew)); exact HO_173003.out) hb); have n1_ := Aside0.mk (Kd.R_below (by (with_reducible repeat (first | apply Kd.R_alloc | apply Kd.R_drewN | apply Kd.R_drew)); exact HO_183003.out) hb); have n2_ := Aside0.mk (blk_below (g := gb172) (o := .cells #[.int .i64 t166, .int .i64 t167, .int .i64 t168, .slice Ao12 t169.length co12] 25 (0, 0)) (by (with_reducible repeat (first | refine blk_drewN ?_ _ | refine blk_drew ?_ | refine blk_alloc ?_ _)); exact BK172.out) hb); have n3_ := Aside0.mk (blk_below (g := gb182) (o := .cells #[.int .i64 t175, .int .i64 t176, .int .i64 t177, .slice Ao17 t178.length co17] 25 (0, 0)) (by (with_reducible repeat (first | refine blk_drewN ?_ _ | refine blk_drew ?_ | refine blk_alloc ?_ _)); exact BK182.out) hb); have n4_ := Aside0.mk (below_step (by repeat (first | (with_reducible first | exact HB.out | apply below_alloc | apply pw_below_drewN | apply below_drew1 | refine below_set ?_ GE172.out | refine below_set ?_ GE182.out) | exact HB.out)) hb); clear HO_173003; clear HO_183003; clear BK172; clear BK182; clear HB; have HO_173003 := n0_; have HO_183003 := n1_; have BK172 := n2_; have BK182 := n3_; have HB := n4_; clear n0_ n1_ n2_ n3_ n4_; (try clear hb); (try clear hb2); (try clear hk); (try clear hi)))
                repeat (go_quiet (first | (go_at_call 15; (with_reducible refine (customslaw23_awake.calls kj26  t187 _ A82.out).mono ?_); rintro e w83 ⟨rfl, hb⟩; have n0_ := Aside0.mk (Kd.R_below (by (with_reducible repeat (first | apply Kd.R_alloc | apply Kd.R_drewN | apply Kd.R_drew)); exact HO_173003.out) hb); have n1_ := Aside0.mk (Kd.R_below (by (with_reducible repeat (first | apply Kd.R_alloc | apply Kd.R_drewN | apply Kd.R_drew)); exact HO_183003.out) hb); have n2_ := Aside0.mk (blk_below (g := gb172) (o := .cells #[.int .i64 t166, .int .i64 t167, .int .i64 t168, .slice Ao12 t169.length co12] 25 (0, 0)) (by (with_reducible repeat (first | refine blk_drewN ?_ _ | refine blk_drew ?_ | refine blk_alloc ?_ _)); exact BK172.out) hb); have n3_ := Aside0.mk (blk_below (g := gb182) (o := .cells #[.int .i64 t175, .int .i64 t176, .int .i64 t177, .slice Ao17 t178.length co17] 25 (0, 0)) (by (with_reducible repeat (first | refine blk_drewN ?_ _ | refine blk_drew ?_ | refine blk_alloc ?_ _)); exact BK182.out) hb); have n4_ := Aside0.mk (below_step (by repeat (first | (with_reducible first | exact HB.out | apply below_alloc | apply pw_below_drewN | apply below_drew1 | refine below_set ?_ GE172.out | refine below_set ?_ GE182.out) | exact HB.out)) hb); clear HO_173003; clear HO_183003; clear BK172; clear BK182; clear HB; have HO_173003 := n0_; have HO_183003 := n1_; have BK172 := n2_; have BK182 := n3_; have HB := n4_; clear n0_ n1_ n2_ n3_ n4_; (try clear hb); (try clear hb2); (try clear hk); (try clear hi))); try go_wp2_with (first | (go_at_call 15; (with_reducible refine (customslaw23_awake.calls kj26  t187 _ A82.out).mono ?_); rintro e w83 ⟨rfl, hb⟩; have n0_ := Aside0.mk (Kd.R_below (by (with_reducible repeat (first | apply Kd.R_alloc | apply Kd.R_drewN | apply Kd.R_drew)); exact HO_173003.out) hb); have n1_ := Aside0.mk (Kd.R_below (by (with_reducible repeat (first | apply Kd.R_alloc | apply Kd.R_drewN | apply Kd.R_drew)); exact HO_183003.out) hb); have n2_ := Aside0.mk (blk_below (g := gb172) (o := .cells #[.int .i64 t166, .int .i64 t167, .int .i64 t168, .slice Ao12 t169.length co12] 25 (0, 0)) (by (with_reducible repeat (first | refine blk_drewN ?_ _ | refine blk_drew ?_ | refine blk_alloc ?_ _)); exact BK172.out) hb); have n3_ := Aside0.mk (blk_below (g := gb182) (o := .cells #[.int .i64 t175, .int .i64 t176, .int .i64 t177, .slice Ao17 t178.length co17] 25 (0, 0)) (by (with_reducible repeat (first | refine blk_drewN ?_ _ | refine blk_drew ?_ | refine blk_alloc ?_ _)); exact BK182.out) hb); have n4_ := Aside0.mk (below_step (by repeat (first | (with_reducible first | exact HB.out | apply below_alloc | apply pw_below_drewN | apply below_drew1 | refine below_set ?_ GE172.out | refine below_set ?_ GE182.out) | exact HB.out)) hb); clear HO_173003; clear HO_183003; clear BK172; clear BK182; clear HB; have HO_173003 := n0_; have HO_183003 := n1_; have BK172 := n2_; have BK182 := n3_; have HB := n4_; clear n0_ n1_ n2_ n3_ n4_; (try clear hb); (try clear hb2); (try clear hk); (try clear hi))))
                go_ret
                exact ⟨by first | rfl | (simp [errW_none, errW_some] <;> rfl) | (simp [*, errW_none, errW_some] <;> rfl), by repeat (first | (with_reducible first | exact HB.out | apply below_alloc | apply pw_below_drewN | apply below_drew1 | refine below_set ?_ GE172.out | refine below_set ?_ GE182.out) | exact HB.out)⟩

end Go.Proofs.Ytakhjhiofmgpnaa.PB
