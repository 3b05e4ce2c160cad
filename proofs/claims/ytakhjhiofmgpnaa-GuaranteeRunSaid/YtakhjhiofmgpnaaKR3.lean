/- Part 3 of the proof of guaranteeRun_holds: texts of this claim, printed and by hand, cut to what it needs (wip/tools/link.py). Lean checks every line. -/
import Derived.Test.YtakhjhiofmgpnaaKR2
import Derived.Laws.Bits64
import Derived.Shelf.Spec.SlicesInsertGrow
import Derived.Laws.CopyOwn
-- Written by a program of this claim (wip/tools: mkprint.py, pr.sh) out of the translation: plain functions and their contracts. Lean checks every line.
namespace Go.Proofs.Ytakhjhiofmgpnaa.PA
open Go.RowKit Go.Proofs.YtakhjhiofmgpnaaW.PrintWords Go.Proofs.YtakhjhiofmgpnaaW.PrintLast Go.Proofs.YtakhjhiofmgpnaaW.PrintMore Go.Proofs.Ytakhjhiofmgpnaa.G
attribute [local go_sem] max2_int min2_int max_two min_two max_three min_three max_four min_four   -- for this text's walks alone
set_option linter.unusedVariables false
set_option linter.unusedSimpArgs false
mutual
def bits_Div64.j2 : Nat → Int → Int → Int → Int → Int → Int → Int → Int → Option (Int × Int)
 | 0, _, _, _, _, _, _, _, _ => none
 | k + 1, x2, x8, x9, x10, x11, x13, x14, x15 => if x9 = 0 then (none) else (bits_Div64.l1 k x2 x8 x9 x10 x14 x15 (IntKind.u64.wrap ((IntKind.u64.wrap ((IntKind.u64.wrap ((IntKind.u64.wrap (x11 * 4294967296)) + x13)) - (IntKind.u64.wrap (x15 * x2)))) - (IntKind.u64.wrap ((IntKind.u64.wrap (Int.tdiv (IntKind.u64.wrap ((IntKind.u64.wrap ((IntKind.u64.wrap (x11 * 4294967296)) + x13)) - (IntKind.u64.wrap (x15 * x2)))) x9)) * x9)))) (IntKind.u64.wrap ((IntKind.u64.wrap ((IntKind.u64.wrap (x11 * 4294967296)) + x13)) - (IntKind.u64.wrap (x15 * x2)))) (IntKind.u64.wrap (Int.tdiv (IntKind.u64.wrap ((IntKind.u64.wrap ((IntKind.u64.wrap (x11 * 4294967296)) + x13)) - (IntKind.u64.wrap (x15 * x2)))) x9)))
def bits_Div64.l1 : Nat → Int → Int → Int → Int → Int → Int → Int → Int → Int → Option (Int × Int)
 | 0, _, _, _, _, _, _, _, _, _ => none
 | k + 1, x2, x8, x9, x10, x14, x15, x16, x17, x18 => if x18 ≥ 4294967296 then (bits_Div64.j4 k x2 x8 x9 x10 x14 x15 x16 x17 x18 true) else (bits_Div64.j4 k x2 x8 x9 x10 x14 x15 x16 x17 x18 (decide ((IntKind.u64.wrap (x18 * x10)) > (IntKind.u64.wrap ((IntKind.u64.wrap (4294967296 * x16)) + x14)))))
def bits_Div64.j4 : Nat → Int → Int → Int → Int → Int → Int → Int → Int → Int → Bool → Option (Int × Int)
 | 0, _, _, _, _, _, _, _, _, _, _ => none
 | k + 1, x2, x8, x9, x10, x14, x15, x16, x17, x18, x113 => if x113 = true then (if (IntKind.u64.wrap (x16 + x9)) ≥ 4294967296 then (if 0 ≤ x8 then (some (IntKind.u64.wrap ((IntKind.u64.wrap (x15 * 4294967296)) + (IntKind.u64.wrap (x18 - 1))), shr .u64 (IntKind.u64.wrap ((IntKind.u64.wrap ((IntKind.u64.wrap (x17 * 4294967296)) + x14)) - (IntKind.u64.wrap ((IntKind.u64.wrap (x18 - 1)) * x2)))) x8)) else (none)) else (bits_Div64.l1 k x2 x8 x9 x10 x14 x15 (IntKind.u64.wrap (x16 + x9)) x17 (IntKind.u64.wrap (x18 - 1)))) else (if 0 ≤ x8 then (some (IntKind.u64.wrap ((IntKind.u64.wrap (x15 * 4294967296)) + x18), shr .u64 (IntKind.u64.wrap ((IntKind.u64.wrap ((IntKind.u64.wrap (x17 * 4294967296)) + x14)) - (IntKind.u64.wrap (x18 * x2)))) x8)) else (none))
def bits_Div64.l0 : Nat → Int → Int → Int → Int → Int → Int → Int → Int → Int → Option (Int × Int)
 | 0, _, _, _, _, _, _, _, _, _ => none
 | k + 1, x2, x8, x9, x10, x11, x13, x14, x15, x16 => if x15 ≥ 4294967296 then (bits_Div64.j1 k x2 x8 x9 x10 x11 x13 x14 x15 x16 true) else (bits_Div64.j1 k x2 x8 x9 x10 x11 x13 x14 x15 x16 (decide ((IntKind.u64.wrap (x15 * x10)) > (IntKind.u64.wrap ((IntKind.u64.wrap (4294967296 * x16)) + x13)))))
def bits_Div64.j1 : Nat → Int → Int → Int → Int → Int → Int → Int → Int → Int → Bool → Option (Int × Int)
 | 0, _, _, _, _, _, _, _, _, _, _ => none
 | k + 1, x2, x8, x9, x10, x11, x13, x14, x15, x16, x78 => if x78 = true then (if (IntKind.u64.wrap (x16 + x9)) ≥ 4294967296 then (bits_Div64.j2 k x2 x8 x9 x10 x11 x13 x14 (IntKind.u64.wrap (x15 - 1))) else (bits_Div64.l0 k x2 x8 x9 x10 x11 x13 x14 (IntKind.u64.wrap (x15 - 1)) (IntKind.u64.wrap (x16 + x9)))) else (bits_Div64.j2 k x2 x8 x9 x10 x11 x13 x14 x15)
end
def bits_Div64.f (k : Nat) (a0 : Int) (a1 : Int) (a2 : Int) : Option (Int × Int) := if a2 = 0 then (none) else (if a2 ≤ a0 then (none) else (if a0 = 0 then (some (IntKind.u64.wrap (Int.tdiv a1 a2), Int.tmod a1 a2)) else ((bits_LeadingZeros64.f k a2).bind fun t174 => (if 0 ≤ (IntKind.u64.wrap (t174)) then (if 0 ≤ (IntKind.u64.wrap (64 - (IntKind.u64.wrap (t174)))) then (if ((shl .u64 a2 (IntKind.u64.wrap (t174))) / 4294967296) = 0 then (none) else (bits_Div64.l0 k (shl .u64 a2 (IntKind.u64.wrap (t174))) (IntKind.u64.wrap (t174)) ((shl .u64 a2 (IntKind.u64.wrap (t174))) / 4294967296) (Go.bits .and .u64 (shl .u64 a2 (IntKind.u64.wrap (t174))) 4294967295) (Go.bits .or .u64 (shl .u64 a0 (IntKind.u64.wrap (t174))) (shr .u64 a1 (IntKind.u64.wrap (64 - (IntKind.u64.wrap (t174)))))) ((shl .u64 a1 (IntKind.u64.wrap (t174))) / 4294967296) (Go.bits .and .u64 (shl .u64 a1 (IntKind.u64.wrap (t174))) 4294967295) (IntKind.u64.wrap (Int.tdiv (Go.bits .or .u64 (shl .u64 a0 (IntKind.u64.wrap (t174))) (shr .u64 a1 (IntKind.u64.wrap (64 - (IntKind.u64.wrap (t174)))))) ((shl .u64 a2 (IntKind.u64.wrap (t174))) / 4294967296))) (IntKind.u64.wrap ((Go.bits .or .u64 (shl .u64 a0 (IntKind.u64.wrap (t174))) (shr .u64 a1 (IntKind.u64.wrap (64 - (IntKind.u64.wrap (t174)))))) - (IntKind.u64.wrap ((IntKind.u64.wrap (Int.tdiv (Go.bits .or .u64 (shl .u64 a0 (IntKind.u64.wrap (t174))) (shr .u64 a1 (IntKind.u64.wrap (64 - (IntKind.u64.wrap (t174)))))) ((shl .u64 a2 (IntKind.u64.wrap (t174))) / 4294967296))) * ((shl .u64 a2 (IntKind.u64.wrap (t174))) / 4294967296))))))) else (none)) else (none)))))
theorem bits_Div64.mono_l : ∀ k, (∀ y0 y1 y2 y3 y4 y5 y6 y7, LeO (bits_Div64.j2 k y0 y1 y2 y3 y4 y5 y6 y7) (bits_Div64.j2 (k + 1) y0 y1 y2 y3 y4 y5 y6 y7)) ∧ (∀ y0 y1 y2 y3 y4 y5 y6 y7 y8, LeO (bits_Div64.l1 k y0 y1 y2 y3 y4 y5 y6 y7 y8) (bits_Div64.l1 (k + 1) y0 y1 y2 y3 y4 y5 y6 y7 y8)) ∧ (∀ y0 y1 y2 y3 y4 y5 y6 y7 y8 y9, LeO (bits_Div64.j4 k y0 y1 y2 y3 y4 y5 y6 y7 y8 y9) (bits_Div64.j4 (k + 1) y0 y1 y2 y3 y4 y5 y6 y7 y8 y9)) ∧ (∀ y0 y1 y2 y3 y4 y5 y6 y7 y8, LeO (bits_Div64.l0 k y0 y1 y2 y3 y4 y5 y6 y7 y8) (bits_Div64.l0 (k + 1) y0 y1 y2 y3 y4 y5 y6 y7 y8)) ∧ (∀ y0 y1 y2 y3 y4 y5 y6 y7 y8 y9, LeO (bits_Div64.j1 k y0 y1 y2 y3 y4 y5 y6 y7 y8 y9) (bits_Div64.j1 (k + 1) y0 y1 y2 y3 y4 y5 y6 y7 y8 y9))
 | 0 => ⟨fun _ _ _ _ _ _ _ _ r h => by simp [bits_Div64.j2] at h, fun _ _ _ _ _ _ _ _ _ r h => by simp [bits_Div64.l1] at h, fun _ _ _ _ _ _ _ _ _ _ r h => by simp [bits_Div64.j4] at h, fun _ _ _ _ _ _ _ _ _ r h => by simp [bits_Div64.l0] at h, fun _ _ _ _ _ _ _ _ _ _ r h => by simp [bits_Div64.j1] at h⟩
 | k + 1 => by
  obtain ⟨ih0, ih1, ih2, ih3, ih4⟩ := bits_Div64.mono_l k
  refine ⟨?_, ?_, ?_, ?_, ?_⟩
  ·intro y0 y1 y2 y3 y4 y5 y6 y7
   unfold bits_Div64.j2
   repeat' first
   | (with_reducible exact ih0 _ _ _ _ _ _ _ _)
   | (with_reducible exact ih1 _ _ _ _ _ _ _ _ _)
   | (with_reducible exact ih2 _ _ _ _ _ _ _ _ _ _)
   | (with_reducible exact ih3 _ _ _ _ _ _ _ _ _)
   | (with_reducible exact ih4 _ _ _ _ _ _ _ _ _ _)
   | (with_reducible exact bits_LeadingZeros64.mono _ _)
   | (with_reducible exact LeO.refl _)
   | (with_reducible exact LeO.none _)
   | (with_reducible refine LeO.ite ?_ ?_)
   | (with_reducible refine LeO.bind ?_ (fun _ => ?_))
  ·intro y0 y1 y2 y3 y4 y5 y6 y7 y8
   unfold bits_Div64.l1
   repeat' first
   | (with_reducible exact ih0 _ _ _ _ _ _ _ _)
   | (with_reducible exact ih1 _ _ _ _ _ _ _ _ _)
   | (with_reducible exact ih2 _ _ _ _ _ _ _ _ _ _)
   | (with_reducible exact ih3 _ _ _ _ _ _ _ _ _)
   | (with_reducible exact ih4 _ _ _ _ _ _ _ _ _ _)
   | (with_reducible exact bits_LeadingZeros64.mono _ _)
   | (with_reducible exact LeO.refl _)
   | (with_reducible exact LeO.none _)
   | (with_reducible refine LeO.ite ?_ ?_)
   | (with_reducible refine LeO.bind ?_ (fun _ => ?_))
  ·intro y0 y1 y2 y3 y4 y5 y6 y7 y8 y9
   unfold bits_Div64.j4
   repeat' first
   | (with_reducible exact ih0 _ _ _ _ _ _ _ _)
   | (with_reducible exact ih1 _ _ _ _ _ _ _ _ _)
   | (with_reducible exact ih2 _ _ _ _ _ _ _ _ _ _)
   | (with_reducible exact ih3 _ _ _ _ _ _ _ _ _)
   | (with_reducible exact ih4 _ _ _ _ _ _ _ _ _ _)
   | (with_reducible exact bits_LeadingZeros64.mono _ _)
   | (with_reducible exact LeO.refl _)
   | (with_reducible exact LeO.none _)
   | (with_reducible refine LeO.ite ?_ ?_)
   | (with_reducible refine LeO.bind ?_ (fun _ => ?_))
  ·intro y0 y1 y2 y3 y4 y5 y6 y7 y8
   unfold bits_Div64.l0
   repeat' first
   | (with_reducible exact ih0 _ _ _ _ _ _ _ _)
   | (with_reducible exact ih1 _ _ _ _ _ _ _ _ _)
   | (with_reducible exact ih2 _ _ _ _ _ _ _ _ _ _)
   | (with_reducible exact ih3 _ _ _ _ _ _ _ _ _)
   | (with_reducible exact ih4 _ _ _ _ _ _ _ _ _ _)
   | (with_reducible exact bits_LeadingZeros64.mono _ _)
   | (with_reducible exact LeO.refl _)
   | (with_reducible exact LeO.none _)
   | (with_reducible refine LeO.ite ?_ ?_)
   | (with_reducible refine LeO.bind ?_ (fun _ => ?_))
  ·intro y0 y1 y2 y3 y4 y5 y6 y7 y8 y9
   unfold bits_Div64.j1
   repeat' first
   | (with_reducible exact ih0 _ _ _ _ _ _ _ _)
   | (with_reducible exact ih1 _ _ _ _ _ _ _ _ _)
   | (with_reducible exact ih2 _ _ _ _ _ _ _ _ _ _)
   | (with_reducible exact ih3 _ _ _ _ _ _ _ _ _)
   | (with_reducible exact ih4 _ _ _ _ _ _ _ _ _ _)
   | (with_reducible exact bits_LeadingZeros64.mono _ _)
   | (with_reducible exact LeO.refl _)
   | (with_reducible exact LeO.none _)
   | (with_reducible refine LeO.ite ?_ ?_)
   | (with_reducible refine LeO.bind ?_ (fun _ => ?_))
theorem bits_Div64.mono : ∀ a0 a1 a2 k, LeO (bits_Div64.f k a0 a1 a2) (bits_Div64.f (k + 1) a0 a1 a2) := by
 intro a0 a1 a2 k
 obtain ⟨ih0, ih1, ih2, ih3, ih4⟩ := bits_Div64.mono_l k
 unfold bits_Div64.f
 repeat' first
   | (with_reducible exact ih0 _ _ _ _ _ _ _ _)
   | (with_reducible exact ih1 _ _ _ _ _ _ _ _ _)
   | (with_reducible exact ih2 _ _ _ _ _ _ _ _ _ _)
   | (with_reducible exact ih3 _ _ _ _ _ _ _ _ _)
   | (with_reducible exact ih4 _ _ _ _ _ _ _ _ _ _)
   | (with_reducible exact bits_LeadingZeros64.mono _ _)
   | (with_reducible exact LeO.refl _)
   | (with_reducible exact LeO.none _)
   | (with_reducible refine LeO.ite ?_ ?_)
   | (with_reducible refine LeO.bind ?_ (fun _ => ?_))
set_option maxHeartbeats 8000000 in
set_option maxRecDepth 100000 in
theorem bits_Div64.calls (k : Nat) (a0 : Int) (a1 : Int) (a2 : Int) (r1 : Int) (r2 : Int) (w : World) (h : bits_Div64.f k a0 a1 a2 = some (r1, r2)) :
  Calls Try.prog 51 #[.int .u64 a0, .int .u64 a1, .int .u64 a2] w fun e w' => e = .returned (.tuple #[.int .u64 r1, .int .u64 r2]) ∧ Drawn0 w w' := by
 have H : (if a2 = 0 then (none) else (if a2 ≤ a0 then (none) else (if a0 = 0 then (some (IntKind.u64.wrap (Int.tdiv a1 a2), Int.tmod a1 a2)) else ((bits_LeadingZeros64.f k a2).bind fun t174 => (if 0 ≤ (IntKind.u64.wrap (t174)) then (if 0 ≤ (IntKind.u64.wrap (64 - (IntKind.u64.wrap (t174)))) then (if ((shl .u64 a2 (IntKind.u64.wrap (t174))) / 4294967296) = 0 then (none) else (bits_Div64.l0 k (shl .u64 a2 (IntKind.u64.wrap (t174))) (IntKind.u64.wrap (t174)) ((shl .u64 a2 (IntKind.u64.wrap (t174))) / 4294967296) (Go.bits .and .u64 (shl .u64 a2 (IntKind.u64.wrap (t174))) 4294967295) (Go.bits .or .u64 (shl .u64 a0 (IntKind.u64.wrap (t174))) (shr .u64 a1 (IntKind.u64.wrap (64 - (IntKind.u64.wrap (t174)))))) ((shl .u64 a1 (IntKind.u64.wrap (t174))) / 4294967296) (Go.bits .and .u64 (shl .u64 a1 (IntKind.u64.wrap (t174))) 4294967295) (IntKind.u64.wrap (Int.tdiv (Go.bits .or .u64 (shl .u64 a0 (IntKind.u64.wrap (t174))) (shr .u64 a1 (IntKind.u64.wrap (64 - (IntKind.u64.wrap (t174)))))) ((shl .u64 a2 (IntKind.u64.wrap (t174))) / 4294967296))) (IntKind.u64.wrap ((Go.bits .or .u64 (shl .u64 a0 (IntKind.u64.wrap (t174))) (shr .u64 a1 (IntKind.u64.wrap (64 - (IntKind.u64.wrap (t174)))))) - (IntKind.u64.wrap ((IntKind.u64.wrap (Int.tdiv (Go.bits .or .u64 (shl .u64 a0 (IntKind.u64.wrap (t174))) (shr .u64 a1 (IntKind.u64.wrap (64 - (IntKind.u64.wrap (t174)))))) ((shl .u64 a2 (IntKind.u64.wrap (t174))) / 4294967296))) * ((shl .u64 a2 (IntKind.u64.wrap (t174))) / 4294967296))))))) else (none)) else (none)))))) = some (r1, r2) := h
 clear h
 by_cases c4 : a2 = 0
 ·rw [if_pos c4] at H
  exact absurd H (by simp)
 ·rw [if_neg c4] at H
  have c4b0 : (a2 == 0) = false := beq_eq_false_iff_ne.mpr c4
  have c4b1 : (a2 != 0) = true := bne_iff_ne.mpr c4
  by_cases c5 : a2 ≤ a0
  ·rw [if_pos c5] at H
   exact absurd H (by simp)
  ·rw [if_neg c5] at H
   have c5b0 : decide (a2 ≤ a0) = false := decide_eq_false c5
   clear c5
   by_cases c6 : a0 = 0
   ·rw [if_pos c6] at H
    have c6b0 : (a0 == 0) = true := beq_iff_eq.mpr c6
    have c6b1 : (a0 != 0) = false := bne_eq_false_iff_eq.mpr c6
    clear c6
    simp only [Option.some.injEq, Prod.mk.injEq] at H
    obtain ⟨rfl, rfl⟩ := H
    go_enter Try.func51, Try.ntmps51
    go_wp2
    repeat (go_quiet (fail); try go_wp2)
    go_ret2
    exact ⟨by first | rfl | (simp; done) | (simp [*]; done), by repeat (first | exact Drawn0.refl _ | apply Drawn0.step)⟩
   ·rw [if_neg c6] at H
    have c6b0 : (a0 == 0) = false := beq_eq_false_iff_ne.mpr c6
    have c6b1 : (a0 != 0) = true := bne_iff_ne.mpr c6
    replace H := Option.bind_eq_some_iff.mp H
    obtain ⟨t174, A70, H⟩ := H
    replace H : (if 0 ≤ (IntKind.u64.wrap (t174)) then (if 0 ≤ (IntKind.u64.wrap (64 - (IntKind.u64.wrap (t174)))) then (if ((shl .u64 a2 (IntKind.u64.wrap (t174))) / 4294967296) = 0 then (none) else (bits_Div64.l0 k (shl .u64 a2 (IntKind.u64.wrap (t174))) (IntKind.u64.wrap (t174)) ((shl .u64 a2 (IntKind.u64.wrap (t174))) / 4294967296) (Go.bits .and .u64 (shl .u64 a2 (IntKind.u64.wrap (t174))) 4294967295) (Go.bits .or .u64 (shl .u64 a0 (IntKind.u64.wrap (t174))) (shr .u64 a1 (IntKind.u64.wrap (64 - (IntKind.u64.wrap (t174)))))) ((shl .u64 a1 (IntKind.u64.wrap (t174))) / 4294967296) (Go.bits .and .u64 (shl .u64 a1 (IntKind.u64.wrap (t174))) 4294967295) (IntKind.u64.wrap (Int.tdiv (Go.bits .or .u64 (shl .u64 a0 (IntKind.u64.wrap (t174))) (shr .u64 a1 (IntKind.u64.wrap (64 - (IntKind.u64.wrap (t174)))))) ((shl .u64 a2 (IntKind.u64.wrap (t174))) / 4294967296))) (IntKind.u64.wrap ((Go.bits .or .u64 (shl .u64 a0 (IntKind.u64.wrap (t174))) (shr .u64 a1 (IntKind.u64.wrap (64 - (IntKind.u64.wrap (t174)))))) - (IntKind.u64.wrap ((IntKind.u64.wrap (Int.tdiv (Go.bits .or .u64 (shl .u64 a0 (IntKind.u64.wrap (t174))) (shr .u64 a1 (IntKind.u64.wrap (64 - (IntKind.u64.wrap (t174)))))) ((shl .u64 a2 (IntKind.u64.wrap (t174))) / 4294967296))) * ((shl .u64 a2 (IntKind.u64.wrap (t174))) / 4294967296))))))) else (none)) else (none)) = some (r1, r2) := H
    have A7 := Aside0.mk A70
    clear A70
    obtain ⟨ji8, hji8⟩ : ∃ j_ : Int, (IntKind.u64.wrap (t174)) = j_ := ⟨_, rfl⟩
    replace H : (if 0 ≤ (ji8) then (if 0 ≤ (IntKind.u64.wrap (64 - (ji8))) then (if ((shl .u64 a2 (ji8)) / 4294967296) = 0 then (none) else (bits_Div64.l0 k (shl .u64 a2 (ji8)) ji8 ((shl .u64 a2 (ji8)) / 4294967296) (Go.bits .and .u64 (shl .u64 a2 (ji8)) 4294967295) (Go.bits .or .u64 (shl .u64 a0 (ji8)) (shr .u64 a1 (IntKind.u64.wrap (64 - (ji8))))) ((shl .u64 a1 (ji8)) / 4294967296) (Go.bits .and .u64 (shl .u64 a1 (ji8)) 4294967295) (IntKind.u64.wrap (Int.tdiv (Go.bits .or .u64 (shl .u64 a0 (ji8)) (shr .u64 a1 (IntKind.u64.wrap (64 - (ji8))))) ((shl .u64 a2 (ji8)) / 4294967296))) (IntKind.u64.wrap ((Go.bits .or .u64 (shl .u64 a0 (ji8)) (shr .u64 a1 (IntKind.u64.wrap (64 - (ji8))))) - (IntKind.u64.wrap ((IntKind.u64.wrap (Int.tdiv (Go.bits .or .u64 (shl .u64 a0 (ji8)) (shr .u64 a1 (IntKind.u64.wrap (64 - (ji8))))) ((shl .u64 a2 (ji8)) / 4294967296))) * ((shl .u64 a2 (ji8)) / 4294967296))))))) else (none)) else (none)) = some (r1, r2) := by first | (rw [hji8] at H; exact H) | (simp only [hji8] at H ⊢; exact H)
    (try rw [hji8] at A7)
    by_cases c9 : 0 ≤ (ji8)
    ·rw [if_pos c9] at H
     have c9b0 := eq_true c9
     have c9b1 : decide (0 ≤ (ji8)) = true := decide_eq_true c9
     clear c9
     obtain ⟨ji10, hji10⟩ : ∃ j_ : Int, (shl .u64 a2 (ji8)) = j_ := ⟨_, rfl⟩
     replace H : (if 0 ≤ (IntKind.u64.wrap (64 - (ji8))) then (if ((ji10) / 4294967296) = 0 then (none) else (bits_Div64.l0 k ji10 ji8 ((ji10) / 4294967296) (Go.bits .and .u64 (ji10) 4294967295) (Go.bits .or .u64 (shl .u64 a0 (ji8)) (shr .u64 a1 (IntKind.u64.wrap (64 - (ji8))))) ((shl .u64 a1 (ji8)) / 4294967296) (Go.bits .and .u64 (shl .u64 a1 (ji8)) 4294967295) (IntKind.u64.wrap (Int.tdiv (Go.bits .or .u64 (shl .u64 a0 (ji8)) (shr .u64 a1 (IntKind.u64.wrap (64 - (ji8))))) ((ji10) / 4294967296))) (IntKind.u64.wrap ((Go.bits .or .u64 (shl .u64 a0 (ji8)) (shr .u64 a1 (IntKind.u64.wrap (64 - (ji8))))) - (IntKind.u64.wrap ((IntKind.u64.wrap (Int.tdiv (Go.bits .or .u64 (shl .u64 a0 (ji8)) (shr .u64 a1 (IntKind.u64.wrap (64 - (ji8))))) ((ji10) / 4294967296))) * ((ji10) / 4294967296))))))) else (none)) = some (r1, r2) := by first | (rw [hji10] at H; exact H) | (simp only [hji10] at H ⊢; exact H)
     (try rw [hji10] at A7)
     have hji10_ : (IntKind.u64.wrap (a2 * 2 ^ min (ji8).toNat 64)) = ji10 := hji10
     have hji10z : (ji8) ≤ 64 → (IntKind.u64.wrap (a2 * 2 ^ (ji8).toNat)) = ji10 := shl_small hji10
     have c11b0 := eq_true (of_decide_eq_true (by first | (with_reducible assumption) | assumption) : 0 ≤ (ji8))
     obtain ⟨ji12, hji12⟩ : ∃ j_ : Int, (shl .u64 a0 (ji8)) = j_ := ⟨_, rfl⟩
     replace H : (if 0 ≤ (IntKind.u64.wrap (64 - (ji8))) then (if ((ji10) / 4294967296) = 0 then (none) else (bits_Div64.l0 k ji10 ji8 ((ji10) / 4294967296) (Go.bits .and .u64 (ji10) 4294967295) (Go.bits .or .u64 (ji12) (shr .u64 a1 (IntKind.u64.wrap (64 - (ji8))))) ((shl .u64 a1 (ji8)) / 4294967296) (Go.bits .and .u64 (shl .u64 a1 (ji8)) 4294967295) (IntKind.u64.wrap (Int.tdiv (Go.bits .or .u64 (ji12) (shr .u64 a1 (IntKind.u64.wrap (64 - (ji8))))) ((ji10) / 4294967296))) (IntKind.u64.wrap ((Go.bits .or .u64 (ji12) (shr .u64 a1 (IntKind.u64.wrap (64 - (ji8))))) - (IntKind.u64.wrap ((IntKind.u64.wrap (Int.tdiv (Go.bits .or .u64 (ji12) (shr .u64 a1 (IntKind.u64.wrap (64 - (ji8))))) ((ji10) / 4294967296))) * ((ji10) / 4294967296))))))) else (none)) = some (r1, r2) := by first | (rw [hji12] at H; exact H) | (simp only [hji12] at H ⊢; exact H)
     (try rw [hji12] at A7)
     have hji12_ : (IntKind.u64.wrap (a0 * 2 ^ min (ji8).toNat 64)) = ji12 := hji12
     have hji12z : (ji8) ≤ 64 → (IntKind.u64.wrap (a0 * 2 ^ (ji8).toNat)) = ji12 := shl_small hji12
     obtain ⟨ji13, hji13⟩ : ∃ j_ : Int, (IntKind.u64.wrap (64 - (ji8))) = j_ := ⟨_, rfl⟩
     replace H : (if 0 ≤ (ji13) then (if ((ji10) / 4294967296) = 0 then (none) else (bits_Div64.l0 k ji10 ji8 ((ji10) / 4294967296) (Go.bits .and .u64 (ji10) 4294967295) (Go.bits .or .u64 (ji12) (shr .u64 a1 (ji13))) ((shl .u64 a1 (ji8)) / 4294967296) (Go.bits .and .u64 (shl .u64 a1 (ji8)) 4294967295) (IntKind.u64.wrap (Int.tdiv (Go.bits .or .u64 (ji12) (shr .u64 a1 (ji13))) ((ji10) / 4294967296))) (IntKind.u64.wrap ((Go.bits .or .u64 (ji12) (shr .u64 a1 (ji13))) - (IntKind.u64.wrap ((IntKind.u64.wrap (Int.tdiv (Go.bits .or .u64 (ji12) (shr .u64 a1 (ji13))) ((ji10) / 4294967296))) * ((ji10) / 4294967296))))))) else (none)) = some (r1, r2) := by first | (rw [hji13] at H; exact H) | (simp only [hji13] at H ⊢; exact H)
     (try rw [hji13] at A7)
     by_cases c14 : 0 ≤ (ji13)
     ·rw [if_pos c14] at H
      have c14b0 := eq_true c14
      have c14b1 : decide (0 ≤ (ji13)) = true := decide_eq_true c14
      clear c14
      obtain ⟨ji15, hji15⟩ : ∃ j_ : Int, (shr .u64 a1 (ji13)) = j_ := ⟨_, rfl⟩
      replace H : (if ((ji10) / 4294967296) = 0 then (none) else (bits_Div64.l0 k ji10 ji8 ((ji10) / 4294967296) (Go.bits .and .u64 (ji10) 4294967295) (Go.bits .or .u64 (ji12) (ji15)) ((shl .u64 a1 (ji8)) / 4294967296) (Go.bits .and .u64 (shl .u64 a1 (ji8)) 4294967295) (IntKind.u64.wrap (Int.tdiv (Go.bits .or .u64 (ji12) (ji15)) ((ji10) / 4294967296))) (IntKind.u64.wrap ((Go.bits .or .u64 (ji12) (ji15)) - (IntKind.u64.wrap ((IntKind.u64.wrap (Int.tdiv (Go.bits .or .u64 (ji12) (ji15)) ((ji10) / 4294967296))) * ((ji10) / 4294967296))))))) = some (r1, r2) := by first | (rw [hji15] at H; exact H) | (simp only [hji15] at H ⊢; exact H)
      (try rw [hji15] at A7)
      have hji15_ : (a1 / 2 ^ min (ji13).toNat 64) = ji15 := hji15
      have hji15z : (ji13) ≤ 64 → (a1 / 2 ^ (ji13).toNat) = ji15 := shr_small hji15
      have c16b0 := eq_true (of_decide_eq_true (by first | (with_reducible assumption) | assumption) : 0 ≤ (ji8))
      obtain ⟨ji17, hji17⟩ : ∃ j_ : Int, (shl .u64 a1 (ji8)) = j_ := ⟨_, rfl⟩
      replace H : (if ((ji10) / 4294967296) = 0 then (none) else (bits_Div64.l0 k ji10 ji8 ((ji10) / 4294967296) (Go.bits .and .u64 (ji10) 4294967295) (Go.bits .or .u64 (ji12) (ji15)) ((ji17) / 4294967296) (Go.bits .and .u64 (ji17) 4294967295) (IntKind.u64.wrap (Int.tdiv (Go.bits .or .u64 (ji12) (ji15)) ((ji10) / 4294967296))) (IntKind.u64.wrap ((Go.bits .or .u64 (ji12) (ji15)) - (IntKind.u64.wrap ((IntKind.u64.wrap (Int.tdiv (Go.bits .or .u64 (ji12) (ji15)) ((ji10) / 4294967296))) * ((ji10) / 4294967296))))))) = some (r1, r2) := by first | (rw [hji17] at H; exact H) | (simp only [hji17] at H ⊢; exact H)
      (try rw [hji17] at A7)
      have hji17_ : (IntKind.u64.wrap (a1 * 2 ^ min (ji8).toNat 64)) = ji17 := hji17
      have hji17z : (ji8) ≤ 64 → (IntKind.u64.wrap (a1 * 2 ^ (ji8).toNat)) = ji17 := shl_small hji17
      by_cases c18 : ((ji10) / 4294967296) = 0
      ·rw [if_pos c18] at H
       exact absurd H (by simp)
      ·rw [if_neg c18] at H
       have c18b0 : (((ji10) / 4294967296) == 0) = false := beq_eq_false_iff_ne.mpr c18
       have c18b1 : (((ji10) / 4294967296) != 0) = true := bne_iff_ne.mpr c18
       have HC19 := Aside0.mk H
       clear H
       go_enter Try.func51, Try.ntmps51
       go_upto_block 0 with (first | (go_at_call 55; (with_reducible refine (bits_LeadingZeros64.calls k a2 t174 _ A7.out).mono ?_); rintro e w' ⟨rfl, ⟨nd, rfl⟩⟩; (try first | exact ⟨rfl, _, World.drewN_drewN _ _ _⟩ | exact ⟨rfl, _, Eq.trans (World.drewN_drewN _ _ _) (congrArg (World.drewN _) (Nat.add_assoc _ _ _))⟩)))
       repeat (go_quiet (first | (go_at_call 55; (with_reducible refine (bits_LeadingZeros64.calls k a2 t174 _ A7.out).mono ?_); rintro e w' ⟨rfl, ⟨nd, rfl⟩⟩; (try first | exact ⟨rfl, _, World.drewN_drewN _ _ _⟩ | exact ⟨rfl, _, Eq.trans (World.drewN_drewN _ _ _) (congrArg (World.drewN _) (Nat.add_assoc _ _ _))⟩))); go_upto_block 0 with (first | (go_at_call 55; (with_reducible refine (bits_LeadingZeros64.calls k a2 t174 _ A7.out).mono ?_); rintro e w' ⟨rfl, ⟨nd, rfl⟩⟩; (try first | exact ⟨rfl, _, World.drewN_drewN _ _ _⟩ | exact ⟨rfl, _, Eq.trans (World.drewN_drewN _ _ _) (congrArg (World.drewN _) (Nat.add_assoc _ _ _))⟩))))
       (try simp only [Act.put, List.setIfInBounds_toArray, List.set_cons_zero, List.set_cons_succ])
       go_cut [15] (fun v15 wc => ∃ (kq : Nat) (x15_18 : Int), v15 = .int .u64 x15_18 ∧ Aside0 (bits_Div64.j2 kq ji10 ji8 ((ji10) / 4294967296) (Go.bits .and .u64 (ji10) 4294967295) (Go.bits .or .u64 (ji12) (ji15)) ((ji17) / 4294967296) (Go.bits .and .u64 (ji17) 4294967295) x15_18 = some (r1, r2)) ∧ Aside0 (kq ≤ k) ∧ Drawn0 w wc)
       case first =>
        have H := HC19.out
        clear HC19
        have H' := Aside0.mk H
        clear H
        go_wp2
        repeat (go_quiet (fail); try go_wp2)
        go_loopg [15, 16] k (fun kq v15 v16 w' => ∃ (x15_1 : Int) (x16_1 : Int), v15 = .int .u64 x15_1 ∧ v16 = .int .u64 x16_1 ∧ Aside0 (bits_Div64.l0 kq ji10 ji8 ((ji10) / 4294967296) (Go.bits .and .u64 (ji10) 4294967295) (Go.bits .or .u64 (ji12) (ji15)) ((ji17) / 4294967296) (Go.bits .and .u64 (ji17) 4294967295) x15_1 x16_1 = some (r1, r2)) ∧ Aside0 (kq ≤ k) ∧ Drawn0 w w')
        case atStart => exact ⟨(IntKind.u64.wrap (Int.tdiv (Go.bits .or .u64 (ji12) (ji15)) ((ji10) / 4294967296))), (IntKind.u64.wrap ((Go.bits .or .u64 (ji12) (ji15)) - (IntKind.u64.wrap ((IntKind.u64.wrap (Int.tdiv (Go.bits .or .u64 (ji12) (ji15)) ((ji10) / 4294967296))) * ((ji10) / 4294967296))))), (by first | rfl | (simp; done) | (simp only [← hji10, ← hji12, ← hji15] <;> (first | rfl | simp)) | (simp [*]; done)), (by first | rfl | (simp; done) | (simp only [← hji10, ← hji12, ← hji15] <;> (first | rfl | simp)) | (simp [*]; done)), H', ⟨Nat.le_refl _⟩, by repeat (first | exact Drawn0.refl _ | apply Drawn0.step)⟩
        case round =>
         clear H'
         try clear c1
         try clear p2
         try clear c4
         try clear c4b0
         try clear c4b1
         try clear c5
         try clear c5b0
         try clear c6
         try clear c6b0
         try clear c6b1
         try clear c9
         try clear c9b0
         try clear c9b1
         try clear c11
         try clear c11b0
         try clear c14
         try clear c14b0
         try clear c14b1
         try clear c16
         try clear c16b0
         try clear c18
         try clear c18b0
         try clear c18b1
         obtain ⟨x15_1, x16_1, rfl, rfl, HA, HK1, ⟨m1, rfl⟩⟩ := hrel
         cases gk with
         | zero => exact absurd HA.out (by simp [bits_Div64.l0])
         | succ k1 =>
          have H := HA.out
          clear HA
          simp only [bits_Div64.l0] at H
          have HC20 := Aside0.mk H
          clear H
          go_upto_region 17 with (fail)
          repeat (go_quiet (fail); go_upto_region 17 with (fail))
          go_cut [78] (fun v78 wc => ∃ (kq : Nat) (x78_19 : Bool), v78 = .bool x78_19 ∧ Aside0 (bits_Div64.j1 kq ji10 ji8 ((ji10) / 4294967296) (Go.bits .and .u64 (ji10) 4294967295) (Go.bits .or .u64 (ji12) (ji15)) ((ji17) / 4294967296) (Go.bits .and .u64 (ji17) 4294967295) x15_1 x16_1 x78_19 = some (r1, r2)) ∧ Aside0 (kq ≤ k1) ∧ Drawn0 w wc)
          case first =>
           have H := HC20.out
           clear HC20
           by_cases c21 : x15_1 ≥ 4294967296
           ·rw [if_pos c21] at H
            have c21b0 : decide (4294967296 ≤ x15_1) = true := decide_eq_true c21
            clear c21
            (first | rw [c21b0] | (simp only [i64_w, i32_w]; rw [c21b0]) | skip)
            have H' := Aside0.mk H
            clear H
            go_wp2
            repeat (go_quiet (fail); try go_wp2)
            go_meet
            case rel => exact ⟨_, (true), (by first | rfl | (simp; done) | (simp [*]; done)), H', ⟨by have := HK1.out; first | omega | exact Nat.le_refl _⟩, by repeat (first | exact Drawn0.refl _ | apply Drawn0.step)⟩
           ·rw [if_neg c21] at H
            have c21b0 : decide (4294967296 ≤ x15_1) = false := decide_eq_false c21
            clear c21
            (first | rw [c21b0] | (simp only [i64_w, i32_w]; rw [c21b0]) | skip)
            have H' := Aside0.mk H
            clear H
            go_wp2
            repeat (go_quiet (fail); try go_wp2)
            go_meet
            case rel => exact ⟨_, (decide ((IntKind.u64.wrap (x15_1 * (Go.bits .and .u64 (ji10) 4294967295))) > (IntKind.u64.wrap ((IntKind.u64.wrap (4294967296 * x16_1)) + ((ji17) / 4294967296))))), (by first | rfl | (simp; done) | (simp only [← hji10, ← hji17] <;> (first | rfl | simp)) | (simp [*]; done)), H', ⟨by have := HK1.out; first | omega | exact Nat.le_refl _⟩, by repeat (first | exact Drawn0.refl _ | apply Drawn0.step)⟩
          case rest =>
           clear HC20
           try clear c1
           try clear c2
           try clear p2
           try clear c4
           try clear c4b0
           try clear c4b1
           try clear c5
           try clear c5b0
           try clear c6
           try clear c6b0
           try clear c6b1
           try clear c9
           try clear c9b0
           try clear c9b1
           try clear c11
           try clear c11b0
           try clear c14
           try clear c14b0
           try clear c14b1
           try clear c16
           try clear c16b0
           try clear c18
           try clear c18b0
           try clear c18b1
           try clear c21
           try clear c21b0
           try clear p2
           obtain ⟨kq, x78_19, rfl, HA, HJ19, ⟨mc19, rfl⟩⟩ := hcut
           cases kq with
           | zero => exact absurd HA.out (by simp [bits_Div64.j1])
           | succ kj19 =>
            have H := HA.out
            clear HA
            simp only [bits_Div64.j1] at H
            by_cases c22 : x78_19 = true
            ·subst c22
             have H1 : (if (IntKind.u64.wrap (x16_1 + ((ji10) / 4294967296))) ≥ 4294967296 then (bits_Div64.j2 kj19 ji10 ji8 ((ji10) / 4294967296) (Go.bits .and .u64 (ji10) 4294967295) (Go.bits .or .u64 (ji12) (ji15)) ((ji17) / 4294967296) (Go.bits .and .u64 (ji17) 4294967295) (IntKind.u64.wrap (x15_1 - 1))) else (bits_Div64.l0 kj19 ji10 ji8 ((ji10) / 4294967296) (Go.bits .and .u64 (ji10) 4294967295) (Go.bits .or .u64 (ji12) (ji15)) ((ji17) / 4294967296) (Go.bits .and .u64 (ji17) 4294967295) (IntKind.u64.wrap (x15_1 - 1)) (IntKind.u64.wrap (x16_1 + ((ji10) / 4294967296))))) = some (r1, r2) := by rw [if_pos rfl] at H; exact H
             clear H
             have H := H1
             clear H1
             by_cases c23 : (IntKind.u64.wrap (x16_1 + ((ji10) / 4294967296))) ≥ 4294967296
             ·rw [if_pos c23] at H
              have c23b0 : decide (4294967296 ≤ (IntKind.u64.wrap (x16_1 + ((ji10) / 4294967296)))) = true := decide_eq_true c23
              clear c23
              have H' := Aside0.mk H
              clear H
              go_wp2
              repeat (go_quiet (fail); try go_wp2)
              go_meet
              case rel => exact ⟨_, (IntKind.u64.wrap (x15_1 - 1)), (by first | rfl | (simp; done) | (simp [*]; done)), H', ⟨by have := HK1.out; have := HJ19.out; first | omega | exact Nat.le_refl _⟩, by repeat (first | exact Drawn0.refl _ | apply Drawn0.step)⟩
             ·rw [if_neg c23] at H
              have c23b0 : decide (4294967296 ≤ (IntKind.u64.wrap (x16_1 + ((ji10) / 4294967296)))) = false := decide_eq_false c23
              clear c23
              have H' := Aside0.mk H
              clear H
              go_wp2
              repeat (go_quiet (fail); try go_wp2)
              go_roundg kj19
              case measure => have := HK1.out; have := HJ19.out; omega
              case rel => exact ⟨(IntKind.u64.wrap (x15_1 - 1)), (IntKind.u64.wrap (x16_1 + ((ji10) / 4294967296))), (by first | rfl | (simp; done) | (simp [*]; done)), (by first | rfl | (simp; done) | (simp only [← hji10] <;> (first | rfl | simp)) | (simp [*]; done)), H', ⟨by have := HK1.out; have := HJ19.out; omega⟩, by repeat (first | exact Drawn0.refl _ | apply Drawn0.step)⟩
            ·replace c22 := Bool.eq_false_iff.mpr c22
             subst c22
             have H1 : (bits_Div64.j2 kj19 ji10 ji8 ((ji10) / 4294967296) (Go.bits .and .u64 (ji10) 4294967295) (Go.bits .or .u64 (ji12) (ji15)) ((ji17) / 4294967296) (Go.bits .and .u64 (ji17) 4294967295) x15_1) = some (r1, r2) := by rw [if_neg (show ¬ (false = true) by decide)] at H; exact H
             clear H
             have H := H1
             clear H1
             have H' := Aside0.mk H
             clear H
             go_wp2
             repeat (go_quiet (fail); try go_wp2)
             go_meet
             case rel => exact ⟨_, (x15_1), (by first | rfl | (simp; done) | (simp [*]; done)), H', ⟨by have := HK1.out; have := HJ19.out; first | omega | exact Nat.le_refl _⟩, by repeat (first | exact Drawn0.refl _ | apply Drawn0.step)⟩
       case rest =>
        clear HC19
        try clear c1
        try clear c2
        try clear p2
        try clear c4
        try clear c4b0
        try clear c4b1
        try clear c5
        try clear c5b0
        try clear c6
        try clear c6b0
        try clear c6b1
        try clear c9
        try clear c9b0
        try clear c9b1
        try clear c11
        try clear c11b0
        try clear c14
        try clear c14b0
        try clear c14b1
        try clear c16
        try clear c16b0
        try clear c18
        try clear c18b0
        try clear c18b1
        try clear c19
        try clear c21
        try clear c21b0
        try clear c22
        try clear c23
        try clear c23b0
        try clear p2
        obtain ⟨kq, x15_18, rfl, HA, HJ18, ⟨mc18, rfl⟩⟩ := hcut
        cases kq with
        | zero => exact absurd HA.out (by simp [bits_Div64.j2])
        | succ kj18 =>
         have H := HA.out
         clear HA
         simp only [bits_Div64.j2] at H
         by_cases c24 : ((ji10) / 4294967296) = 0
         ·rw [if_pos c24] at H
          exact absurd H (by simp)
         ·rw [if_neg c24] at H
          have c24b0 : (((ji10) / 4294967296) == 0) = false := beq_eq_false_iff_ne.mpr c24
          have c24b1 : (((ji10) / 4294967296) != 0) = true := bne_iff_ne.mpr c24
          have H' := Aside0.mk H
          clear H
          go_wp2
          repeat (go_quiet (fail); try go_wp2)
          go_loopg [16, 18] kj18 (fun kq v16 v18 w' => ∃ (x16_2 : Int) (x18_2 : Int), v16 = .int .u64 x16_2 ∧ v18 = .int .u64 x18_2 ∧ Aside0 (bits_Div64.l1 kq ji10 ji8 ((ji10) / 4294967296) (Go.bits .and .u64 (ji10) 4294967295) (Go.bits .and .u64 (ji17) 4294967295) x15_18 x16_2 (IntKind.u64.wrap ((IntKind.u64.wrap ((IntKind.u64.wrap ((Go.bits .or .u64 (ji12) (ji15)) * 4294967296)) + ((ji17) / 4294967296))) - (IntKind.u64.wrap (x15_18 * ji10)))) x18_2 = some (r1, r2)) ∧ Aside0 (kq ≤ kj18) ∧ Drawn0 w w')
          case atStart => exact ⟨(IntKind.u64.wrap ((IntKind.u64.wrap ((IntKind.u64.wrap ((IntKind.u64.wrap ((Go.bits .or .u64 (ji12) (ji15)) * 4294967296)) + ((ji17) / 4294967296))) - (IntKind.u64.wrap (x15_18 * ji10)))) - (IntKind.u64.wrap ((IntKind.u64.wrap (Int.tdiv (IntKind.u64.wrap ((IntKind.u64.wrap ((IntKind.u64.wrap ((Go.bits .or .u64 (ji12) (ji15)) * 4294967296)) + ((ji17) / 4294967296))) - (IntKind.u64.wrap (x15_18 * ji10)))) ((ji10) / 4294967296))) * ((ji10) / 4294967296))))), (IntKind.u64.wrap (Int.tdiv (IntKind.u64.wrap ((IntKind.u64.wrap ((IntKind.u64.wrap ((Go.bits .or .u64 (ji12) (ji15)) * 4294967296)) + ((ji17) / 4294967296))) - (IntKind.u64.wrap (x15_18 * ji10)))) ((ji10) / 4294967296))), (by first | rfl | (simp; done) | (simp only [← hji10, ← hji12, ← hji15, ← hji17] <;> (first | rfl | simp)) | (simp [*]; done)), (by first | rfl | (simp; done) | (simp only [← hji10, ← hji12, ← hji15, ← hji17] <;> (first | rfl | simp)) | (simp [*]; done)), H', ⟨Nat.le_refl _⟩, by repeat (first | exact Drawn0.refl _ | apply Drawn0.step)⟩
          case round =>
           clear H'
           try clear c1
           try clear c2
           try clear p2
           try clear c4
           try clear c4b0
           try clear c4b1
           try clear c5
           try clear c5b0
           try clear c6
           try clear c6b0
           try clear c6b1
           try clear c9
           try clear c9b0
           try clear c9b1
           try clear c11
           try clear c11b0
           try clear c14
           try clear c14b0
           try clear c14b1
           try clear c16
           try clear c16b0
           try clear c18
           try clear c18b0
           try clear c18b1
           try clear c19
           try clear c21
           try clear c21b0
           try clear c22
           try clear c23
           try clear c23b0
           try clear c24
           try clear c24b0
           try clear c24b1
           try clear p2
           obtain ⟨x16_2, x18_2, rfl, rfl, HA, HK2, ⟨m2, rfl⟩⟩ := hrel
           cases gk with
           | zero => exact absurd HA.out (by simp [bits_Div64.l1])
           | succ k2 =>
            have H := HA.out
            clear HA
            simp only [bits_Div64.l1] at H
            have HC25 := Aside0.mk H
            clear H
            go_upto_region 24 with (fail)
            repeat (go_quiet (fail); go_upto_region 24 with (fail))
            go_cut [113] (fun v113 wc => ∃ (kq : Nat) (x113_24 : Bool), v113 = .bool x113_24 ∧ Aside0 (bits_Div64.j4 kq ji10 ji8 ((ji10) / 4294967296) (Go.bits .and .u64 (ji10) 4294967295) (Go.bits .and .u64 (ji17) 4294967295) x15_18 x16_2 (IntKind.u64.wrap ((IntKind.u64.wrap ((IntKind.u64.wrap ((Go.bits .or .u64 (ji12) (ji15)) * 4294967296)) + ((ji17) / 4294967296))) - (IntKind.u64.wrap (x15_18 * ji10)))) x18_2 x113_24 = some (r1, r2)) ∧ Aside0 (kq ≤ k2) ∧ Drawn0 w wc)
            case first =>
             have H := HC25.out
             clear HC25
             by_cases c26 : x18_2 ≥ 4294967296
             ·rw [if_pos c26] at H
              have c26b0 : decide (4294967296 ≤ x18_2) = true := decide_eq_true c26
              clear c26
              (first | rw [c26b0] | (simp only [i64_w, i32_w]; rw [c26b0]) | skip)
              have H' := Aside0.mk H
              clear H
              go_wp2
              repeat (go_quiet (fail); try go_wp2)
              go_meet
              case rel => exact ⟨_, (true), (by first | rfl | (simp; done) | (simp [*]; done)), H', ⟨by have := HJ18.out; have := HK2.out; first | omega | exact Nat.le_refl _⟩, by repeat (first | exact Drawn0.refl _ | apply Drawn0.step)⟩
             ·rw [if_neg c26] at H
              have c26b0 : decide (4294967296 ≤ x18_2) = false := decide_eq_false c26
              clear c26
              (first | rw [c26b0] | (simp only [i64_w, i32_w]; rw [c26b0]) | skip)
              have H' := Aside0.mk H
              clear H
              go_wp2
              repeat (go_quiet (fail); try go_wp2)
              go_meet
              case rel => exact ⟨_, (decide ((IntKind.u64.wrap (x18_2 * (Go.bits .and .u64 (ji10) 4294967295))) > (IntKind.u64.wrap ((IntKind.u64.wrap (4294967296 * x16_2)) + (Go.bits .and .u64 (ji17) 4294967295))))), (by first | rfl | (simp; done) | (simp only [← hji10, ← hji17] <;> (first | rfl | simp)) | (simp [*]; done)), H', ⟨by have := HJ18.out; have := HK2.out; first | omega | exact Nat.le_refl _⟩, by repeat (first | exact Drawn0.refl _ | apply Drawn0.step)⟩
            case rest =>
             clear HC25
             try clear c1
             try clear c2
             try clear p2
             try clear c4
             try clear c4b0
             try clear c4b1
             try clear c5
             try clear c5b0
             try clear c6
             try clear c6b0
             try clear c6b1
             try clear c9
             try clear c9b0
             try clear c9b1
             try clear c11
             try clear c11b0
             try clear c14
             try clear c14b0
             try clear c14b1
             try clear c16
             try clear c16b0
             try clear c18
             try clear c18b0
             try clear c18b1
             try clear c19
             try clear c21
             try clear c21b0
             try clear c22
             try clear c23
             try clear c23b0
             try clear c24
             try clear c24b0
             try clear c24b1
             try clear c26
             try clear c26b0
             try clear p2
             obtain ⟨kq, x113_24, rfl, HA, HJ24, ⟨mc24, rfl⟩⟩ := hcut
             cases kq with
             | zero => exact absurd HA.out (by simp [bits_Div64.j4])
             | succ kj24 =>
              have H := HA.out
              clear HA
              simp only [bits_Div64.j4] at H
              by_cases c27 : x113_24 = true
              ·subst c27
               have H1 : (if (IntKind.u64.wrap (x16_2 + ((ji10) / 4294967296))) ≥ 4294967296 then (if 0 ≤ ji8 then (some (IntKind.u64.wrap ((IntKind.u64.wrap (x15_18 * 4294967296)) + (IntKind.u64.wrap (x18_2 - 1))), shr .u64 (IntKind.u64.wrap ((IntKind.u64.wrap ((IntKind.u64.wrap ((IntKind.u64.wrap ((IntKind.u64.wrap ((IntKind.u64.wrap ((Go.bits .or .u64 (ji12) (ji15)) * 4294967296)) + ((ji17) / 4294967296))) - (IntKind.u64.wrap (x15_18 * ji10)))) * 4294967296)) + (Go.bits .and .u64 (ji17) 4294967295))) - (IntKind.u64.wrap ((IntKind.u64.wrap (x18_2 - 1)) * ji10)))) ji8)) else (none)) else (bits_Div64.l1 kj24 ji10 ji8 ((ji10) / 4294967296) (Go.bits .and .u64 (ji10) 4294967295) (Go.bits .and .u64 (ji17) 4294967295) x15_18 (IntKind.u64.wrap (x16_2 + ((ji10) / 4294967296))) (IntKind.u64.wrap ((IntKind.u64.wrap ((IntKind.u64.wrap ((Go.bits .or .u64 (ji12) (ji15)) * 4294967296)) + ((ji17) / 4294967296))) - (IntKind.u64.wrap (x15_18 * ji10)))) (IntKind.u64.wrap (x18_2 - 1)))) = some (r1, r2) := by rw [if_pos rfl] at H; exact H
               clear H
               have H := H1
               clear H1
               by_cases c28 : (IntKind.u64.wrap (x16_2 + ((ji10) / 4294967296))) ≥ 4294967296
               ·rw [if_pos c28] at H
                have c28b0 : decide (4294967296 ≤ (IntKind.u64.wrap (x16_2 + ((ji10) / 4294967296)))) = true := decide_eq_true c28
                clear c28
                by_cases c29 : 0 ≤ ji8
                ·rw [if_pos c29] at H
                 have c29b0 := eq_true c29
                 have c29b1 : decide (0 ≤ ji8) = true := decide_eq_true c29
                 clear c29
                 obtain ⟨ji30, hji30⟩ : ∃ j_ : Int, (shr .u64 (IntKind.u64.wrap ((IntKind.u64.wrap ((IntKind.u64.wrap ((IntKind.u64.wrap ((IntKind.u64.wrap ((IntKind.u64.wrap ((Go.bits .or .u64 (ji12) (ji15)) * 4294967296)) + ((ji17) / 4294967296))) - (IntKind.u64.wrap (x15_18 * ji10)))) * 4294967296)) + (Go.bits .and .u64 (ji17) 4294967295))) - (IntKind.u64.wrap ((IntKind.u64.wrap (x18_2 - 1)) * ji10)))) ji8) = j_ := ⟨_, rfl⟩
                 replace H : (some (IntKind.u64.wrap ((IntKind.u64.wrap (x15_18 * 4294967296)) + (IntKind.u64.wrap (x18_2 - 1))), ji30)) = some (r1, r2) := by first | (rw [hji30] at H; exact H) | (simp only [hji30] at H ⊢; exact H)
                 have hji30_ : ((IntKind.u64.wrap ((IntKind.u64.wrap ((IntKind.u64.wrap ((IntKind.u64.wrap ((IntKind.u64.wrap ((IntKind.u64.wrap ((Go.bits .or .u64 (ji12) (ji15)) * 4294967296)) + ((ji17) / 4294967296))) - (IntKind.u64.wrap (x15_18 * ji10)))) * 4294967296)) + (Go.bits .and .u64 (ji17) 4294967295))) - (IntKind.u64.wrap ((IntKind.u64.wrap (x18_2 - 1)) * ji10)))) / 2 ^ min ji8.toNat 64) = ji30 := hji30
                 have hji30z : ji8 ≤ 64 → ((IntKind.u64.wrap ((IntKind.u64.wrap ((IntKind.u64.wrap ((IntKind.u64.wrap ((IntKind.u64.wrap ((IntKind.u64.wrap ((Go.bits .or .u64 (ji12) (ji15)) * 4294967296)) + ((ji17) / 4294967296))) - (IntKind.u64.wrap (x15_18 * ji10)))) * 4294967296)) + (Go.bits .and .u64 (ji17) 4294967295))) - (IntKind.u64.wrap ((IntKind.u64.wrap (x18_2 - 1)) * ji10)))) / 2 ^ ji8.toNat) = ji30 := shr_small hji30
                 simp only [Option.some.injEq, Prod.mk.injEq] at H
                 obtain ⟨rfl, rfl⟩ := H
                 go_wp2
                 repeat (go_quiet (fail); try go_wp2)
                 go_ret2
                 exact ⟨by first | rfl | (simp; done) | (simp only [← hji8, ← hji10, ← hji12, ← hji13, ← hji15, ← hji17, ← hji30] <;> (first | rfl | simp)) | (simp [*]; done), by repeat (first | exact Drawn0.refl _ | apply Drawn0.step)⟩
                ·rw [if_neg c29] at H
                 exact absurd H (by simp)
               ·rw [if_neg c28] at H
                have c28b0 : decide (4294967296 ≤ (IntKind.u64.wrap (x16_2 + ((ji10) / 4294967296)))) = false := decide_eq_false c28
                clear c28
                have H' := Aside0.mk H
                clear H
                go_wp2
                repeat (go_quiet (fail); try go_wp2)
                go_roundg kj24
                case measure => have := HJ18.out; have := HK2.out; have := HJ24.out; omega
                case rel => exact ⟨(IntKind.u64.wrap (x16_2 + ((ji10) / 4294967296))), (IntKind.u64.wrap (x18_2 - 1)), (by first | rfl | (simp; done) | (simp only [← hji10] <;> (first | rfl | simp)) | (simp [*]; done)), (by first | rfl | (simp; done) | (simp [*]; done)), H', ⟨by have := HJ18.out; have := HK2.out; have := HJ24.out; omega⟩, by repeat (first | exact Drawn0.refl _ | apply Drawn0.step)⟩
              ·replace c27 := Bool.eq_false_iff.mpr c27
               subst c27
               have H1 : (if 0 ≤ ji8 then (some (IntKind.u64.wrap ((IntKind.u64.wrap (x15_18 * 4294967296)) + x18_2), shr .u64 (IntKind.u64.wrap ((IntKind.u64.wrap ((IntKind.u64.wrap ((IntKind.u64.wrap ((IntKind.u64.wrap ((IntKind.u64.wrap ((Go.bits .or .u64 (ji12) (ji15)) * 4294967296)) + ((ji17) / 4294967296))) - (IntKind.u64.wrap (x15_18 * ji10)))) * 4294967296)) + (Go.bits .and .u64 (ji17) 4294967295))) - (IntKind.u64.wrap (x18_2 * ji10)))) ji8)) else (none)) = some (r1, r2) := by rw [if_neg (show ¬ (false = true) by decide)] at H; exact H
               clear H
               have H := H1
               clear H1
               by_cases c31 : 0 ≤ ji8
               ·rw [if_pos c31] at H
                have c31b0 := eq_true c31
                have c31b1 : decide (0 ≤ ji8) = true := decide_eq_true c31
                clear c31
                obtain ⟨ji32, hji32⟩ : ∃ j_ : Int, (shr .u64 (IntKind.u64.wrap ((IntKind.u64.wrap ((IntKind.u64.wrap ((IntKind.u64.wrap ((IntKind.u64.wrap ((IntKind.u64.wrap ((Go.bits .or .u64 (ji12) (ji15)) * 4294967296)) + ((ji17) / 4294967296))) - (IntKind.u64.wrap (x15_18 * ji10)))) * 4294967296)) + (Go.bits .and .u64 (ji17) 4294967295))) - (IntKind.u64.wrap (x18_2 * ji10)))) ji8) = j_ := ⟨_, rfl⟩
                replace H : (some (IntKind.u64.wrap ((IntKind.u64.wrap (x15_18 * 4294967296)) + x18_2), ji32)) = some (r1, r2) := by first | (rw [hji32] at H; exact H) | (simp only [hji32] at H ⊢; exact H)
                have hji32_ : ((IntKind.u64.wrap ((IntKind.u64.wrap ((IntKind.u64.wrap ((IntKind.u64.wrap ((IntKind.u64.wrap ((IntKind.u64.wrap ((Go.bits .or .u64 (ji12) (ji15)) * 4294967296)) + ((ji17) / 4294967296))) - (IntKind.u64.wrap (x15_18 * ji10)))) * 4294967296)) + (Go.bits .and .u64 (ji17) 4294967295))) - (IntKind.u64.wrap (x18_2 * ji10)))) / 2 ^ min ji8.toNat 64) = ji32 := hji32
                have hji32z : ji8 ≤ 64 → ((IntKind.u64.wrap ((IntKind.u64.wrap ((IntKind.u64.wrap ((IntKind.u64.wrap ((IntKind.u64.wrap ((IntKind.u64.wrap ((Go.bits .or .u64 (ji12) (ji15)) * 4294967296)) + ((ji17) / 4294967296))) - (IntKind.u64.wrap (x15_18 * ji10)))) * 4294967296)) + (Go.bits .and .u64 (ji17) 4294967295))) - (IntKind.u64.wrap (x18_2 * ji10)))) / 2 ^ ji8.toNat) = ji32 := shr_small hji32
                simp only [Option.some.injEq, Prod.mk.injEq] at H
                obtain ⟨rfl, rfl⟩ := H
                go_wp2
                repeat (go_quiet (fail); try go_wp2)
                go_ret2
                exact ⟨by first | rfl | (simp; done) | (simp only [← hji8, ← hji10, ← hji12, ← hji13, ← hji15, ← hji17, ← hji32] <;> (first | rfl | simp)) | (simp [*]; done), by repeat (first | exact Drawn0.refl _ | apply Drawn0.step)⟩
               ·rw [if_neg c31] at H
                exact absurd H (by simp)
     ·rw [if_neg c14] at H
      exact absurd H (by simp)
    ·rw [if_neg c9] at H
     exact absurd H (by simp)
def exact_order.f (a0 : Int) (a1 : Int) : Option (Int) := if a0 < a1 then (some (-1)) else (if a0 > a1 then (some 1) else (some 0))
set_option maxHeartbeats 8000000 in
set_option maxRecDepth 100000 in
theorem exact_order.calls (a0 : Int) (a1 : Int) (r : Int) (w : World) (h : exact_order.f a0 a1 = some r) :
  Calls Try.prog 56 #[.int .u64 a0, .int .u64 a1] w fun e w' => e = .returned (.int .i64 r) ∧ Drawn0 w w' := by
 have H : (if a0 < a1 then (some (-1)) else (if a0 > a1 then (some 1) else (some 0))) = some r := h
 clear h
 by_cases c3 : a0 < a1
 ·rw [if_pos c3] at H
  have c3b0 : decide (a0 < a1) = true := decide_eq_true c3
  clear c3
  obtain rfl := Option.some.inj H
  go_enter Try.func56, Try.ntmps56
  go_wp2
  go_ret
  exact ⟨by first | rfl | (simp; done) | (simp [*]; done), by repeat (first | exact Drawn0.refl _ | apply Drawn0.step)⟩
 ·rw [if_neg c3] at H
  have c3b0 : decide (a0 < a1) = false := decide_eq_false c3
  clear c3
  by_cases c4 : a0 > a1
  ·rw [if_pos c4] at H
   have c4b0 : decide (a1 < a0) = true := decide_eq_true c4
   clear c4
   obtain rfl := Option.some.inj H
   go_enter Try.func56, Try.ntmps56
   go_wp2
   go_ret
   exact ⟨by first | rfl | (simp; done) | (simp [*]; done), by repeat (first | exact Drawn0.refl _ | apply Drawn0.step)⟩
  ·rw [if_neg c4] at H
   have c4b0 : decide (a1 < a0) = false := decide_eq_false c4
   clear c4
   obtain rfl := Option.some.inj H
   go_enter Try.func56, Try.ntmps56
   go_wp2
   go_ret
   exact ⟨by first | rfl | (simp; done) | (simp [*]; done), by repeat (first | exact Drawn0.refl _ | apply Drawn0.step)⟩
def exact_above.f (a0 : Int) (a1 : Int) (a2 : Int) (a3 : Int) : Option (Bool) := (exact_order.f a1 (IntKind.u64.wrap (a2 - a1))).bind fun t175 => (if a3 = 1 then (some (decide (a1 > 0))) else (if a3 = 2 then (some (decide (t175 ≥ 0))) else (if a3 = 3 then (if t175 > 0 then (some true) else (if t175 = 0 then (some ((Int.tmod a0 2) == 1)) else (some false))) else (some false))))
set_option maxHeartbeats 8000000 in
set_option maxRecDepth 100000 in
theorem exact_above.calls (a0 : Int) (a1 : Int) (a2 : Int) (a3 : Int) (r : Bool) (w : World) (h : exact_above.f a0 a1 a2 a3 = some r) :
  Calls Try.prog 52 #[.int .u64 a0, .int .u64 a1, .int .u64 a2, .int .i64 a3] w fun e w' => e = .returned (.bool r) ∧ Drawn0 w w' := by
 have H : ((exact_order.f a1 (IntKind.u64.wrap (a2 - a1))).bind fun t175 => (if a3 = 1 then (some (decide (a1 > 0))) else (if a3 = 2 then (some (decide (t175 ≥ 0))) else (if a3 = 3 then (if t175 > 0 then (some true) else (if t175 = 0 then (some ((Int.tmod a0 2) == 1)) else (some false))) else (some false))))) = some r := h
 clear h
 replace H := Option.bind_eq_some_iff.mp H
 obtain ⟨t175, A50, H⟩ := H
 replace H : (if a3 = 1 then (some (decide (a1 > 0))) else (if a3 = 2 then (some (decide (t175 ≥ 0))) else (if a3 = 3 then (if t175 > 0 then (some true) else (if t175 = 0 then (some ((Int.tmod a0 2) == 1)) else (some false))) else (some false)))) = some r := H
 have A5 := Aside0.mk A50
 clear A50
 by_cases c6 : a3 = 1
 ·rw [if_pos c6] at H
  have c6b0 : (a3 == 1) = true := beq_iff_eq.mpr c6
  have c6b1 : (a3 != 1) = false := bne_eq_false_iff_eq.mpr c6
  clear c6
  obtain rfl := Option.some.inj H
  go_enter Try.func52, Try.ntmps52
  go_wp2_with (first | ((with_reducible refine gate_callee (f := 56) rfl ?_); refine goesL_ (some 14) rfl rfl Try.func56 (by kernel_rfl) rfl #[.int .u64 a1, .int .u64 (IntKind.u64.wrap (a2 - a1))] rfl argx ?_; (with_reducible refine (exact_order.calls a1 (IntKind.u64.wrap (a2 - a1)) t175 _ A5.out).mono ?_); rintro e w' ⟨rfl, ⟨nd, rfl⟩⟩; refine ⟨_, rfl, ?_⟩))
  go_ret
  exact ⟨by first | rfl | (simp; done) | (simp [*]; done), by repeat (first | exact Drawn0.refl _ | apply Drawn0.step)⟩
 ·rw [if_neg c6] at H
  have c6b0 : (a3 == 1) = false := beq_eq_false_iff_ne.mpr c6
  have c6b1 : (a3 != 1) = true := bne_iff_ne.mpr c6
  by_cases c7 : a3 = 2
  ·rw [if_pos c7] at H
   have c7b0 : (a3 == 2) = true := beq_iff_eq.mpr c7
   have c7b1 : (a3 != 2) = false := bne_eq_false_iff_eq.mpr c7
   clear c7
   obtain rfl := Option.some.inj H
   go_enter Try.func52, Try.ntmps52
   go_wp2_with (first | ((with_reducible refine gate_callee (f := 56) rfl ?_); refine goesL_ (some 14) rfl rfl Try.func56 (by kernel_rfl) rfl #[.int .u64 a1, .int .u64 (IntKind.u64.wrap (a2 - a1))] rfl argx ?_; (with_reducible refine (exact_order.calls a1 (IntKind.u64.wrap (a2 - a1)) t175 _ A5.out).mono ?_); rintro e w' ⟨rfl, ⟨nd, rfl⟩⟩; refine ⟨_, rfl, ?_⟩))
   go_ret
   exact ⟨by first | rfl | (simp; done) | (simp [*]; done), by repeat (first | exact Drawn0.refl _ | apply Drawn0.step)⟩
  ·rw [if_neg c7] at H
   have c7b0 : (a3 == 2) = false := beq_eq_false_iff_ne.mpr c7
   have c7b1 : (a3 != 2) = true := bne_iff_ne.mpr c7
   by_cases c8 : a3 = 3
   ·rw [if_pos c8] at H
    have c8b0 : (a3 == 3) = true := beq_iff_eq.mpr c8
    have c8b1 : (a3 != 3) = false := bne_eq_false_iff_eq.mpr c8
    clear c8
    by_cases c9 : t175 > 0
    ·rw [if_pos c9] at H
     have c9b0 : decide (0 < t175) = true := decide_eq_true c9
     clear c9
     obtain rfl := Option.some.inj H
     go_enter Try.func52, Try.ntmps52
     go_wp2_with (first | ((with_reducible refine gate_callee (f := 56) rfl ?_); refine goesL_ (some 14) rfl rfl Try.func56 (by kernel_rfl) rfl #[.int .u64 a1, .int .u64 (IntKind.u64.wrap (a2 - a1))] rfl argx ?_; (with_reducible refine (exact_order.calls a1 (IntKind.u64.wrap (a2 - a1)) t175 _ A5.out).mono ?_); rintro e w' ⟨rfl, ⟨nd, rfl⟩⟩; refine ⟨_, rfl, ?_⟩))
     go_ret
     exact ⟨by first | rfl | (simp; done) | (simp [*]; done), by repeat (first | exact Drawn0.refl _ | apply Drawn0.step)⟩
    ·rw [if_neg c9] at H
     have c9b0 : decide (0 < t175) = false := decide_eq_false c9
     clear c9
     by_cases c10 : t175 = 0
     ·rw [if_pos c10] at H
      have c10b0 : (t175 == 0) = true := beq_iff_eq.mpr c10
      have c10b1 : (t175 != 0) = false := bne_eq_false_iff_eq.mpr c10
      clear c10
      obtain rfl := Option.some.inj H
      go_enter Try.func52, Try.ntmps52
      go_wp2_with (first | ((with_reducible refine gate_callee (f := 56) rfl ?_); refine goesL_ (some 14) rfl rfl Try.func56 (by kernel_rfl) rfl #[.int .u64 a1, .int .u64 (IntKind.u64.wrap (a2 - a1))] rfl argx ?_; (with_reducible refine (exact_order.calls a1 (IntKind.u64.wrap (a2 - a1)) t175 _ A5.out).mono ?_); rintro e w' ⟨rfl, ⟨nd, rfl⟩⟩; refine ⟨_, rfl, ?_⟩))
      go_ret
      exact ⟨by first | rfl | (simp; done) | (simp [*]; done), by repeat (first | exact Drawn0.refl _ | apply Drawn0.step)⟩
     ·rw [if_neg c10] at H
      have c10b0 : (t175 == 0) = false := beq_eq_false_iff_ne.mpr c10
      have c10b1 : (t175 != 0) = true := bne_iff_ne.mpr c10
      obtain rfl := Option.some.inj H
      go_enter Try.func52, Try.ntmps52
      go_wp2_with (first | ((with_reducible refine gate_callee (f := 56) rfl ?_); refine goesL_ (some 14) rfl rfl Try.func56 (by kernel_rfl) rfl #[.int .u64 a1, .int .u64 (IntKind.u64.wrap (a2 - a1))] rfl argx ?_; (with_reducible refine (exact_order.calls a1 (IntKind.u64.wrap (a2 - a1)) t175 _ A5.out).mono ?_); rintro e w' ⟨rfl, ⟨nd, rfl⟩⟩; refine ⟨_, rfl, ?_⟩))
      go_ret
      exact ⟨by first | rfl | (simp; done) | (simp [*]; done), by repeat (first | exact Drawn0.refl _ | apply Drawn0.step)⟩
   ·rw [if_neg c8] at H
    have c8b0 : (a3 == 3) = false := beq_eq_false_iff_ne.mpr c8
    have c8b1 : (a3 != 3) = true := bne_iff_ne.mpr c8
    obtain rfl := Option.some.inj H
    go_enter Try.func52, Try.ntmps52
    go_wp2_with (first | ((with_reducible refine gate_callee (f := 56) rfl ?_); refine goesL_ (some 14) rfl rfl Try.func56 (by kernel_rfl) rfl #[.int .u64 a1, .int .u64 (IntKind.u64.wrap (a2 - a1))] rfl argx ?_; (with_reducible refine (exact_order.calls a1 (IntKind.u64.wrap (a2 - a1)) t175 _ A5.out).mono ?_); rintro e w' ⟨rfl, ⟨nd, rfl⟩⟩; refine ⟨_, rfl, ?_⟩))
    go_ret
    exact ⟨by first | rfl | (simp; done) | (simp [*]; done), by repeat (first | exact Drawn0.refl _ | apply Drawn0.step)⟩
end Go.Proofs.Ytakhjhiofmgpnaa.PA
-- Written by a program of this claim (wip/tools: mkprint.py, pr.sh) out of the translation: plain functions and their contracts. Lean checks every line.
namespace Go.Proofs.Ytakhjhiofmgpnaa.PA
open Go.RowKit Go.Proofs.YtakhjhiofmgpnaaW.PrintWords Go.Proofs.YtakhjhiofmgpnaaW.PrintLast Go.Proofs.YtakhjhiofmgpnaaW.PrintMore Go.Proofs.Ytakhjhiofmgpnaa.G
attribute [local go_sem] max2_int min2_int max_two min_two max_three min_three max_four min_four   -- for this text's walks alone
set_option linter.unusedVariables false
set_option linter.unusedSimpArgs false
def exact_Div.j0 : Nat → Int → Int → Bool → Int → Int → Option (Int × Int)
 | 0, _, _, _, _, _ => none
 | k + 1, x1, x2, x19, x177000, x177001 => if x19 = true then (some (0, 2)) else (if x177000 ≥ x1 then (some (0, 3)) else ((bits_Div64.f k x177000 x177001 x1).bind fun bt177 => ((exact_above.f bt177.1 bt177.2 x1 x2).bind fun t179 => (if t179 = true then (if (IntKind.u64.wrap (bt177.1 + 1)) = 0 then (some (0, 3)) else (some (IntKind.u64.wrap (bt177.1 + 1), 0))) else (some (bt177.1, 0))))))
def exact_Div.f (k : Nat) (a0_0 : Int) (a0_1 : Int) (a1 : Int) (a2 : Int) : Option (Int × Int) := if a1 = 0 then (exact_Div.j0 k a1 a2 true a0_0 a0_1) else (if a2 < 0 then (exact_Div.j0 k a1 a2 true a0_0 a0_1) else (exact_Div.j0 k a1 a2 (decide (a2 > 3)) a0_0 a0_1))
theorem exact_Div.mono_l : ∀ k, (∀ y0 y1 y2 y3 y4, LeO (exact_Div.j0 k y0 y1 y2 y3 y4) (exact_Div.j0 (k + 1) y0 y1 y2 y3 y4))
 | 0 => fun _ _ _ _ _ r h => by simp [exact_Div.j0] at h
 | k + 1 => by
  have ih0 := exact_Div.mono_l k
  ·intro y0 y1 y2 y3 y4
   unfold exact_Div.j0
   repeat' first
   | (with_reducible exact ih0 _ _ _ _ _)
   | (with_reducible exact bits_Div64.mono _ _ _ _)
   | (with_reducible exact LeO.refl _)
   | (with_reducible exact LeO.none _)
   | (with_reducible refine LeO.ite ?_ ?_)
   | (with_reducible refine LeO.bind ?_ (fun _ => ?_))
theorem exact_Div.mono : ∀ a0 a1 a2 a3 k, LeO (exact_Div.f k a0 a1 a2 a3) (exact_Div.f (k + 1) a0 a1 a2 a3) := by
 intro a0 a1 a2 a3 k
 have ih0 := exact_Div.mono_l k
 unfold exact_Div.f
 repeat' first
   | (with_reducible exact ih0 _ _ _ _ _)
   | (with_reducible exact bits_Div64.mono _ _ _ _)
   | (with_reducible exact LeO.refl _)
   | (with_reducible exact LeO.none _)
   | (with_reducible refine LeO.ite ?_ ?_)
   | (with_reducible refine LeO.bind ?_ (fun _ => ?_))
set_option maxHeartbeats 8000000 in
set_option maxRecDepth 100000 in
theorem exact_Div.calls (k : Nat) (a0_0 : Int) (a0_1 : Int) (a1 : Int) (a2 : Int) (r1 : Int) (r2 : Int) (w : World) (h : exact_Div.f k a0_0 a0_1 a1 a2 = some (r1, r2)) :
  Calls Try.prog 45 #[.agg #[.int .u64 a0_0, .int .u64 a0_1], .int .u64 a1, .int .i64 a2] w fun e w' => e = .returned (.tuple #[.int .u64 r1, .int .i64 r2]) ∧ Below w.heap.size w w' := by
 have hu78 := Try.underlying78
 have HB := Aside0.mk (Below.refl w.heap.size w)
 have H : (if a1 = 0 then (exact_Div.j0 k a1 a2 true a0_0 a0_1) else (if a2 < 0 then (exact_Div.j0 k a1 a2 true a0_0 a0_1) else (exact_Div.j0 k a1 a2 (decide (a2 > 3)) a0_0 a0_1))) = some (r1, r2) := h
 clear h
 have HC4 := Aside0.mk H
 clear H
 go_enter Try.func45, Try.ntmps45
 go_upto_region 1 with (first | ((with_reducible refine gate_dst (N := 3) rfl ?_); refine box_event ?hg (N := 3) ?hd (cs := #[.int .u64 a0_0, .int .u64 a0_1]) (t := 78) ?hr ?_; (case hd => rfl); (case hg => rfl); (case hr => first | (go_simp; done) | (go_simp; rfl)); intro gb176 hg w5 hbox hb; have qb_ := below_both bel hb; have n0_ := Aside0.mk (qb_.1); have n1_ := Aside0.mk (hbox); have n2_ := Aside0.mk ((by rw [hg]; exact qb_.2 : w.heap.size ≤ gb176)); have n3_ := n2_; clear HB; have HB := n0_; have BK176 := n1_; have GW176 := n2_; have GE176 := n3_; clear qb_; clear n0_ n1_ n2_ n3_; clear hb hbox hg))
 (try simp only [Act.put, List.setIfInBounds_toArray, List.set_cons_zero, List.set_cons_succ])
 go_cut [19] (fun v19 wc => ∃ (kq : Nat) (x19_3 : Bool), v19 = .bool x19_3 ∧ Aside0 (exact_Div.j0 kq a1 a2 x19_3 a0_0 a0_1 = some (r1, r2)) ∧ Aside0 (kq ≤ k) ∧ Aside0 (wc.heap[gb176]? = some (.cells #[.int .u64 a0_0, .int .u64 a0_1] 78 (0, 0))) ∧ Aside0 (Below w.heap.size w wc))
 case first =>
  have H := HC4.out
  clear HC4
  by_cases c6 : a1 = 0
  ·rw [if_pos c6] at H
   have c6b0 : (a1 == 0) = true := beq_iff_eq.mpr c6
   have c6b1 : (a1 != 0) = false := bne_eq_false_iff_eq.mpr c6
   clear c6
   (first | rw [c6b0] | (simp only [i64_w, i32_w]; rw [c6b0]) | skip)
   have H' := Aside0.mk H
   clear H
   go_wp2
   go_meet
   case rel => exact ⟨_, (true), (by first | rfl | (simp; done) | (simp [*]; done)), H', ⟨by first | omega | exact Nat.le_refl _⟩, ⟨by (with_reducible repeat (first | refine blk_drewN ?_ _ | refine blk_drew ?_ | refine blk_alloc ?_ _)); exact BK176.out⟩, ⟨bel⟩⟩
  ·rw [if_neg c6] at H
   have c6b0 : (a1 == 0) = false := beq_eq_false_iff_ne.mpr c6
   have c6b1 : (a1 != 0) = true := bne_iff_ne.mpr c6
   (first | rw [c6b0] | (simp only [i64_w, i32_w]; rw [c6b0]) | skip)
   by_cases c7 : a2 < 0
   ·rw [if_pos c7] at H
    have c7b0 : decide (a2 < 0) = true := decide_eq_true c7
    clear c7
    have H' := Aside0.mk H
    clear H
    go_wp2
    go_meet
    case rel => exact ⟨_, (true), (by first | rfl | (simp; done) | (simp [*]; done)), H', ⟨by first | omega | exact Nat.le_refl _⟩, ⟨by (with_reducible repeat (first | refine blk_drewN ?_ _ | refine blk_drew ?_ | refine blk_alloc ?_ _)); exact BK176.out⟩, ⟨bel⟩⟩
   ·rw [if_neg c7] at H
    have c7b0 : decide (a2 < 0) = false := decide_eq_false c7
    clear c7
    have H' := Aside0.mk H
    clear H
    go_wp2
    go_meet
    case rel => exact ⟨_, (decide (a2 > 3)), (by first | rfl | (simp; done) | (simp [*]; done)), H', ⟨by first | omega | exact Nat.le_refl _⟩, ⟨by (with_reducible repeat (first | refine blk_drewN ?_ _ | refine blk_drew ?_ | refine blk_alloc ?_ _)); exact BK176.out⟩, ⟨bel⟩⟩
 case rest =>
  clear HC4
  try clear p2
  try clear c4
  try clear c6
  try clear c6b0
  try clear c6b1
  try clear c7
  try clear c7b0
  obtain ⟨kq, x19_3, rfl, HA, HJ3, BK176, HB⟩ := hcut
  cases kq with
  | zero => exact absurd HA.out (by simp [exact_Div.j0])
  | succ kj3 =>
   have H := HA.out
   clear HA
   simp only [exact_Div.j0] at H
   by_cases c8 : x19_3 = true
   ·subst c8
    have H1 : (some (0, 2)) = some (r1, r2) := by rw [if_pos rfl] at H; exact H
    clear H
    have H := H1
    clear H1
    simp only [Option.some.injEq, Prod.mk.injEq] at H
    obtain ⟨rfl, rfl⟩ := H
    go_wp2
    go_ret2
    exact ⟨by first | rfl | (simp [errW_none, errW_some] <;> rfl) | (simp [*, errW_none, errW_some] <;> rfl), bel⟩
   ·replace c8 := Bool.eq_false_iff.mpr c8
    subst c8
    have H1 : (if a0_0 ≥ a1 then (some (0, 3)) else ((bits_Div64.f kj3 a0_0 a0_1 a1).bind fun bt177 => ((exact_above.f bt177.1 bt177.2 a1 a2).bind fun t179 => (if t179 = true then (if (IntKind.u64.wrap (bt177.1 + 1)) = 0 then (some (0, 3)) else (some (IntKind.u64.wrap (bt177.1 + 1), 0))) else (some (bt177.1, 0)))))) = some (r1, r2) := by rw [if_neg (show ¬ (false = true) by decide)] at H; exact H
    clear H
    have H := H1
    clear H1
    by_cases c9 : a0_0 ≥ a1
    ·rw [if_pos c9] at H
     have c9b0 : decide (a1 ≤ a0_0) = true := decide_eq_true c9
     clear c9
     simp only [Option.some.injEq, Prod.mk.injEq] at H
     obtain ⟨rfl, rfl⟩ := H
     obtain ⟨hcz10_0, hcz10_1, hfz10_0, hfz10_1⟩ := cells2 BK176.out
     go_wp2
     go_ret2
     exact ⟨by first | rfl | (simp [errW_none, errW_some] <;> rfl) | (simp [*, errW_none, errW_some] <;> rfl), bel⟩
    ·rw [if_neg c9] at H
     have c9b0 : decide (a1 ≤ a0_0) = false := decide_eq_false c9
     clear c9
     replace H := Option.bind_eq_some_iff.mp H
     obtain ⟨⟨t177, t178⟩, A110, H⟩ := H
     replace H : ((exact_above.f t177 t178 a1 a2).bind fun t179 => (if t179 = true then (if (IntKind.u64.wrap (t177 + 1)) = 0 then (some (0, 3)) else (some (IntKind.u64.wrap (t177 + 1), 0))) else (some (t177, 0)))) = some (r1, r2) := H
     have A11 := Aside0.mk A110
     clear A110
     replace H := Option.bind_eq_some_iff.mp H
     obtain ⟨t179, A120, H⟩ := H
     replace H : (if t179 = true then (if (IntKind.u64.wrap (t177 + 1)) = 0 then (some (0, 3)) else (some (IntKind.u64.wrap (t177 + 1), 0))) else (some (t177, 0))) = some (r1, r2) := H
     have A12 := Aside0.mk A120
     clear A120
     by_cases c13 : t179 = true
     ·subst c13
      have H1 : (if (IntKind.u64.wrap (t177 + 1)) = 0 then (some (0, 3)) else (some (IntKind.u64.wrap (t177 + 1), 0))) = some (r1, r2) := by rw [if_pos rfl] at H; exact H
      clear H
      have H := H1
      clear H1
      by_cases c14 : (IntKind.u64.wrap (t177 + 1)) = 0
      ·rw [if_pos c14] at H
       have c14b0 : ((IntKind.u64.wrap (t177 + 1)) == 0) = true := beq_iff_eq.mpr c14
       have c14b1 : ((IntKind.u64.wrap (t177 + 1)) != 0) = false := bne_eq_false_iff_eq.mpr c14
       clear c14
       simp only [Option.some.injEq, Prod.mk.injEq] at H
       obtain ⟨rfl, rfl⟩ := H
       obtain ⟨hcz15_0, hcz15_1, hfz15_0, hfz15_1⟩ := cells2 BK176.out
       go_wp2_with (first | ((with_reducible refine gate_callee (f := 51) rfl ?_); refine goesL_ (some 30) rfl rfl Try.func51 (by kernel_rfl) rfl #[.int .u64 a0_0, .int .u64 a0_1, .int .u64 a1] rfl argx ?_; (with_reducible refine (bits_Div64.calls kj3 a0_0 a0_1 a1 t177 t178 _ A11.out).mono ?_); rintro e w' ⟨rfl, ⟨nd, rfl⟩⟩; refine ⟨_, rfl, ?_⟩) | ((with_reducible refine gate_callee (f := 52) rfl ?_); refine goesL_ (some 37) rfl rfl Try.func52 (by kernel_rfl) rfl #[.int .u64 t177, .int .u64 t178, .int .u64 a1, .int .i64 a2] rfl argx ?_; (with_reducible refine (exact_above.calls t177 t178 a1 a2 true _ A12.out).mono ?_); rintro e w' ⟨rfl, ⟨nd, rfl⟩⟩; refine ⟨_, rfl, ?_⟩))
       go_ret2
       exact ⟨by first | rfl | (simp [errW_none, errW_some] <;> rfl) | (simp [*, errW_none, errW_some] <;> rfl), bel⟩
      ·rw [if_neg c14] at H
       have c14b0 : ((IntKind.u64.wrap (t177 + 1)) == 0) = false := beq_eq_false_iff_ne.mpr c14
       have c14b1 : ((IntKind.u64.wrap (t177 + 1)) != 0) = true := bne_iff_ne.mpr c14
       simp only [Option.some.injEq, Prod.mk.injEq] at H
       obtain ⟨rfl, rfl⟩ := H
       obtain ⟨hcz16_0, hcz16_1, hfz16_0, hfz16_1⟩ := cells2 BK176.out
       go_wp2_with (first | ((with_reducible refine gate_callee (f := 51) rfl ?_); refine goesL_ (some 30) rfl rfl Try.func51 (by kernel_rfl) rfl #[.int .u64 a0_0, .int .u64 a0_1, .int .u64 a1] rfl argx ?_; (with_reducible refine (bits_Div64.calls kj3 a0_0 a0_1 a1 t177 t178 _ A11.out).mono ?_); rintro e w' ⟨rfl, ⟨nd, rfl⟩⟩; refine ⟨_, rfl, ?_⟩) | ((with_reducible refine gate_callee (f := 52) rfl ?_); refine goesL_ (some 37) rfl rfl Try.func52 (by kernel_rfl) rfl #[.int .u64 t177, .int .u64 t178, .int .u64 a1, .int .i64 a2] rfl argx ?_; (with_reducible refine (exact_above.calls t177 t178 a1 a2 true _ A12.out).mono ?_); rintro e w' ⟨rfl, ⟨nd, rfl⟩⟩; refine ⟨_, rfl, ?_⟩))
       go_ret2
       exact ⟨by first | rfl | (simp [errW_none, errW_some] <;> rfl) | (simp [*, errW_none, errW_some] <;> rfl), bel⟩
     ·replace c13 := Bool.eq_false_iff.mpr c13
      subst c13
      have H1 : (some (t177, 0)) = some (r1, r2) := by rw [if_neg (show ¬ (false = true) by decide)] at H; exact H
      clear H
      have H := H1
      clear H1
      simp only [Option.some.injEq, Prod.mk.injEq] at H
      obtain ⟨rfl, rfl⟩ := H
      obtain ⟨hcz17_0, hcz17_1, hfz17_0, hfz17_1⟩ := cells2 BK176.out
      go_wp2_with (first | ((with_reducible refine gate_callee (f := 51) rfl ?_); refine goesL_ (some 30) rfl rfl Try.func51 (by kernel_rfl) rfl #[.int .u64 a0_0, .int .u64 a0_1, .int .u64 a1] rfl argx ?_; (with_reducible refine (bits_Div64.calls kj3 a0_0 a0_1 a1 t177 t178 _ A11.out).mono ?_); rintro e w' ⟨rfl, ⟨nd, rfl⟩⟩; refine ⟨_, rfl, ?_⟩) | ((with_reducible refine gate_callee (f := 52) rfl ?_); refine goesL_ (some 37) rfl rfl Try.func52 (by kernel_rfl) rfl #[.int .u64 t177, .int .u64 t178, .int .u64 a1, .int .i64 a2] rfl argx ?_; (with_reducible refine (exact_above.calls t177 t178 a1 a2 false _ A12.out).mono ?_); rintro e w' ⟨rfl, ⟨nd, rfl⟩⟩; refine ⟨_, rfl, ?_⟩))
      go_ret2
      exact ⟨by first | rfl | (simp [errW_none, errW_some] <;> rfl) | (simp [*, errW_none, errW_some] <;> rfl), bel⟩
def bits_Mul64.f (a0 : Int) (a1 : Int) : Option (Int × Int) := some (IntKind.u64.wrap ((IntKind.u64.wrap ((IntKind.u64.wrap ((a0 / 4294967296) * (a1 / 4294967296))) + ((IntKind.u64.wrap ((IntKind.u64.wrap ((a0 / 4294967296) * (Go.bits .and .u64 a1 4294967295))) + ((IntKind.u64.wrap ((Go.bits .and .u64 a0 4294967295) * (Go.bits .and .u64 a1 4294967295))) / 4294967296))) / 4294967296))) + ((IntKind.u64.wrap ((Go.bits .and .u64 (IntKind.u64.wrap ((IntKind.u64.wrap ((a0 / 4294967296) * (Go.bits .and .u64 a1 4294967295))) + ((IntKind.u64.wrap ((Go.bits .and .u64 a0 4294967295) * (Go.bits .and .u64 a1 4294967295))) / 4294967296))) 4294967295) + (IntKind.u64.wrap ((Go.bits .and .u64 a0 4294967295) * (a1 / 4294967296))))) / 4294967296)), IntKind.u64.wrap (a0 * a1))
set_option maxHeartbeats 8000000 in
set_option maxRecDepth 100000 in
theorem bits_Mul64.calls (a0 : Int) (a1 : Int) (r1 : Int) (r2 : Int) (w : World) (h : bits_Mul64.f a0 a1 = some (r1, r2)) :
  Calls Try.prog 53 #[.int .u64 a0, .int .u64 a1] w fun e w' => e = .returned (.tuple #[.int .u64 r1, .int .u64 r2]) ∧ Drawn0 w w' := by
 have H : (some (IntKind.u64.wrap ((IntKind.u64.wrap ((IntKind.u64.wrap ((a0 / 4294967296) * (a1 / 4294967296))) + ((IntKind.u64.wrap ((IntKind.u64.wrap ((a0 / 4294967296) * (Go.bits .and .u64 a1 4294967295))) + ((IntKind.u64.wrap ((Go.bits .and .u64 a0 4294967295) * (Go.bits .and .u64 a1 4294967295))) / 4294967296))) / 4294967296))) + ((IntKind.u64.wrap ((Go.bits .and .u64 (IntKind.u64.wrap ((IntKind.u64.wrap ((a0 / 4294967296) * (Go.bits .and .u64 a1 4294967295))) + ((IntKind.u64.wrap ((Go.bits .and .u64 a0 4294967295) * (Go.bits .and .u64 a1 4294967295))) / 4294967296))) 4294967295) + (IntKind.u64.wrap ((Go.bits .and .u64 a0 4294967295) * (a1 / 4294967296))))) / 4294967296)), IntKind.u64.wrap (a0 * a1))) = some (r1, r2) := h
 clear h
 simp only [Option.some.injEq, Prod.mk.injEq] at H
 obtain ⟨rfl, rfl⟩ := H
 go_enter Try.func53, Try.ntmps53
 go_wp2
 go_ret2
 exact ⟨by first | rfl | (simp; done) | (simp [*]; done), by repeat (first | exact Drawn0.refl _ | apply Drawn0.step)⟩
def exact_Mul.f (a0 : Int) (a1 : Int) : Option (Int × Int) := (bits_Mul64.f a0 a1).bind fun bt181 => (some (bt181.1, bt181.2))
set_option maxHeartbeats 8000000 in
set_option maxRecDepth 100000 in
theorem exact_Mul.calls (a0 : Int) (a1 : Int) (r1 : Int) (r2 : Int) (w : World) (h : exact_Mul.f a0 a1 = some (r1, r2)) :
  Calls Try.prog 46 #[.int .u64 a0, .int .u64 a1] w fun e w' => e = .returned (.agg #[.int .u64 r1, .int .u64 r2]) ∧ Below w.heap.size w w' := by
 have hu78 := Try.underlying78
 have HB := Aside0.mk (Below.refl w.heap.size w)
 have H : ((bits_Mul64.f a0 a1).bind fun bt181 => (some (bt181.1, bt181.2))) = some (r1, r2) := h
 clear h
 replace H := Option.bind_eq_some_iff.mp H
 obtain ⟨⟨t181, t182⟩, A30, H⟩ := H
 replace H : (some (t181, t182)) = some (r1, r2) := H
 have A3 := Aside0.mk A30
 clear A30
 simp only [Option.some.injEq, Prod.mk.injEq] at H
 obtain ⟨rfl, rfl⟩ := H
 go_enter Try.func46, Try.ntmps46
 go_wp2_with (first | ((with_reducible refine gate_dst (N := 4) rfl ?_); refine box_event ?hg (N := 4) ?hd (cs := #[.int .u64 0, .int .u64 0]) (t := 78) ?hr ?_; (case hd => rfl); (case hg => rfl); (case hr => first | (go_simp; done) | (go_simp; rfl)); intro gb180 hg w4 hbox hb; have qb_ := below_both bel hb; have n0_ := Aside0.mk (qb_.1); have n1_ := Aside0.mk (hbox); have n3_ := Aside0.mk ((by rw [hg]; exact qb_.2 : w.heap.size ≤ gb180)); clear HB; have HB := n0_; have BK180 := n1_; have GE180 := n3_; clear qb_; clear n0_ n1_ n3_; clear hb hbox hg) | ((with_reducible refine gate_callee (f := 53) rfl ?_); refine goesL_ (some 10) rfl rfl Try.func53 (by kernel_rfl) rfl #[.int .u64 a0, .int .u64 a1] rfl argx ?_; (with_reducible refine (bits_Mul64.calls a0 a1 t181 t182 _ A3.out).mono ?_); rintro e w' ⟨rfl, ⟨nd, rfl⟩⟩; refine ⟨_, rfl, ?_⟩; (try (rw [drewN_self w4]; generalize hq_ : World.drewN w4 _ = w4; have n0_ : Aside0 (w4.heap[gb180]? = some (.cells #[.int .u64 0, .int .u64 0] 78 (0, 0))) := ⟨by rw [← hq_]; exact blkx⟩; have n1_ : Aside0 (Below w.heap.size w w4) := ⟨by rw [← hq_]; exact bel⟩; clear BK180 HB hq_; have BK180 := n0_; have HB := n1_; clear n0_ n1_)); obtain ⟨hcz5_0, hcz5_1, hfz5_0, hfz5_1⟩ := cells2 BK180.out))
 refine bodyPost_ret (results_cell_row rfl _ _ gb180 78 #[.int .u64 t181, .int .u64 t182] (0, 0) _ rfl (by (with_reducible repeat (first | refine blk_drewN ?_ _ | refine blk_drew ?_ | refine blk_alloc ?_ _)); refine blk_put (cs := #[.int .u64 t181, .int .u64 0]) ?_ 1 _ rfl; refine blk_put (cs := #[.int .u64 0, .int .u64 0]) ?_ 0 _ rfl; (with_reducible repeat (first | refine blk_drewN ?_ _ | refine blk_drew ?_ | refine blk_alloc ?_ _)); exact BK180.out) Try.underlying78 rfl (by kernel_rfl)) rfl ?_
 exact ⟨by first | rfl | (simp [errW_none, errW_some] <;> rfl) | (simp [*, errW_none, errW_some] <;> rfl), bel⟩
def exact_MulDiv.f (k : Nat) (a0 : Int) (a1 : Int) (a2 : Int) (a3 : Int) : Option (Int × Int) := (exact_Mul.f a0 a1).bind fun bt183 => ((exact_Div.f k bt183.1 bt183.2 a2 a3).bind fun bt185 => (some (bt185.1, bt185.2)))
theorem exact_MulDiv.mono : ∀ a0 a1 a2 a3 k, LeO (exact_MulDiv.f k a0 a1 a2 a3) (exact_MulDiv.f (k + 1) a0 a1 a2 a3) := by
 intro a0 a1 a2 a3 k
 unfold exact_MulDiv.f
 repeat' first
   | (with_reducible exact exact_Div.mono _ _ _ _ _)
   | (with_reducible exact LeO.refl _)
   | (with_reducible exact LeO.none _)
   | (with_reducible refine LeO.ite ?_ ?_)
   | (with_reducible refine LeO.bind ?_ (fun _ => ?_))
set_option maxHeartbeats 8000000 in
set_option maxRecDepth 100000 in
theorem exact_MulDiv.calls (k : Nat) (a0 : Int) (a1 : Int) (a2 : Int) (a3 : Int) (r1 : Int) (r2 : Int) (w : World) (h : exact_MulDiv.f k a0 a1 a2 a3 = some (r1, r2)) :
  Calls Try.prog 36 #[.int .u64 a0, .int .u64 a1, .int .u64 a2, .int .i64 a3] w fun e w' => e = .returned (.tuple #[.int .u64 r1, .int .i64 r2]) ∧ Below w.heap.size w w' := by
 have HB := Aside0.mk (Below.refl w.heap.size w)
 have H : ((exact_Mul.f a0 a1).bind fun bt183 => ((exact_Div.f k bt183.1 bt183.2 a2 a3).bind fun bt185 => (some (bt185.1, bt185.2)))) = some (r1, r2) := h
 clear h
 replace H := Option.bind_eq_some_iff.mp H
 obtain ⟨⟨t183, t184⟩, A50, H⟩ := H
 replace H : ((exact_Div.f k t183 t184 a2 a3).bind fun bt185 => (some (bt185.1, bt185.2))) = some (r1, r2) := H
 have A5 := Aside0.mk A50
 clear A50
 replace H := Option.bind_eq_some_iff.mp H
 obtain ⟨⟨t185, t186⟩, A60, H⟩ := H
 replace H : (some (t185, t186)) = some (r1, r2) := H
 have A6 := Aside0.mk A60
 clear A60
 simp only [Option.some.injEq, Prod.mk.injEq] at H
 obtain ⟨rfl, rfl⟩ := H
 go_enter Try.func36, Try.ntmps36
 go_wp2_with (first | ((with_reducible refine gate_callee (f := 46) rfl ?_); refine goesL_ (some 12) rfl rfl Try.func46 (by kernel_rfl) rfl #[.int .u64 a0, .int .u64 a1] rfl argx ?_; (with_reducible refine (exact_Mul.calls a0 a1 t183 t184 _ A5.out).mono ?_); rintro e w7 ⟨rfl, hb⟩; refine ⟨_, rfl, ?_⟩; have n0_ := Aside0.mk (below_step bel hb); clear HB; have HB := n0_; clear n0_; (try clear hb); (try clear hb2); (try clear hk); (try clear hi)) | ((with_reducible refine gate_callee (f := 45) rfl ?_); refine goesL_ (some 15) rfl rfl Try.func45 (by kernel_rfl) rfl #[.agg #[.int .u64 t183, .int .u64 t184], .int .u64 a2, .int .i64 a3] rfl argx ?_; (with_reducible refine (exact_Div.calls k t183 t184 a2 a3 t185 t186 _ A6.out).mono ?_); rintro e w8 ⟨rfl, hb⟩; refine ⟨_, rfl, ?_⟩; have n0_ := Aside0.mk (below_step bel hb); clear HB; have HB := n0_; clear n0_; (try clear hb); (try clear hb2); (try clear hk); (try clear hi)))
 go_ret2
 exact ⟨by first | rfl | (simp [errW_none, errW_some] <;> rfl) | (simp [*, errW_none, errW_some] <;> rfl), bel⟩
def guarantee_Required.f (k : Nat) (a0_0 : Int) (a0_1 : Int) (a0_2 : Int) (l0_3 : List (S39)) (a1 : Int) : Option (Int × Int) := (guarantee_within_int.f a0_2 0 1000000).bind fun t188 => (if t188 = true then ((guarantee_within_int.f a1 0 1000000000000).bind fun t189 => (if t189 = true then ((exact_MulDiv.f k (IntKind.u64.wrap (a1)) (IntKind.u64.wrap (a0_2)) 1000000 1).bind fun bt190 => (some (wrap64 (bt190.1), bt190.2))) else (some (0, 2)))) else (some (0, 2)))
theorem guarantee_Required.mono : ∀ a0 a1 a2 a3 a4 k, LeO (guarantee_Required.f k a0 a1 a2 a3 a4) (guarantee_Required.f (k + 1) a0 a1 a2 a3 a4) := by
 intro a0 a1 a2 a3 a4 k
 unfold guarantee_Required.f
 repeat' first
   | (with_reducible exact exact_MulDiv.mono _ _ _ _ _)
   | (with_reducible exact LeO.refl _)
   | (with_reducible exact LeO.none _)
   | (with_reducible refine LeO.ite ?_ ?_)
   | (with_reducible refine LeO.bind ?_ (fun _ => ?_))
set_option maxHeartbeats 8000000 in
set_option maxRecDepth 100000 in
theorem guarantee_Required.calls (k : Nat) (a0_0 : Int) (a0_1 : Int) (a0_2 : Int) (A0_3 : Option Addr) (c0_3 : Nat) (l0_3 : List (S39)) (a1 : Int) (r1 : Int) (r2 : Int) (w : World) (hr0_3 : Kd.C k39 w A0_3 l0_3.length l0_3) (hc0_3 : l0_3.length ≤ c0_3) (h : guarantee_Required.f k a0_0 a0_1 a0_2 l0_3 a1 = some (r1, r2)) :
  Calls Try.prog 17 #[.agg #[.int .i64 a0_0, .int .i64 a0_1, .int .i64 a0_2, .slice A0_3 l0_3.length c0_3], .int .i64 a1] w fun e w' => e = .returned (.tuple #[.int .i64 r1, .int .i64 r2]) ∧ Below w.heap.size w w' := by
 have hu25 := Try.underlying25
 have HR0_3 := Aside0.mk hr0_3
 have HC0_3 := Aside0.mk hc0_3
 clear hr0_3 hc0_3
 have HB := Aside0.mk (Below.refl w.heap.size w)
 have H : ((guarantee_within_int.f a0_2 0 1000000).bind fun t188 => (if t188 = true then ((guarantee_within_int.f a1 0 1000000000000).bind fun t189 => (if t189 = true then ((exact_MulDiv.f k (IntKind.u64.wrap (a1)) (IntKind.u64.wrap (a0_2)) 1000000 1).bind fun bt190 => (some (wrap64 (bt190.1), bt190.2))) else (some (0, 2)))) else (some (0, 2)))) = some (r1, r2) := h
 clear h
 replace H := Option.bind_eq_some_iff.mp H
 obtain ⟨t188, A30, H⟩ := H
 replace H : (if t188 = true then ((guarantee_within_int.f a1 0 1000000000000).bind fun t189 => (if t189 = true then ((exact_MulDiv.f k (IntKind.u64.wrap (a1)) (IntKind.u64.wrap (a0_2)) 1000000 1).bind fun bt190 => (some (wrap64 (bt190.1), bt190.2))) else (some (0, 2)))) else (some (0, 2))) = some (r1, r2) := H
 have A3 := Aside0.mk A30
 clear A30
 by_cases c4 : t188 = true
 ·subst c4
  have H1 : ((guarantee_within_int.f a1 0 1000000000000).bind fun t189 => (if t189 = true then ((exact_MulDiv.f k (IntKind.u64.wrap (a1)) (IntKind.u64.wrap (a0_2)) 1000000 1).bind fun bt190 => (some (wrap64 (bt190.1), bt190.2))) else (some (0, 2)))) = some (r1, r2) := by rw [if_pos rfl] at H; exact H
  clear H
  have H := H1
  clear H1
  replace H := Option.bind_eq_some_iff.mp H
  obtain ⟨t189, A50, H⟩ := H
  replace H : (if t189 = true then ((exact_MulDiv.f k (IntKind.u64.wrap (a1)) (IntKind.u64.wrap (a0_2)) 1000000 1).bind fun bt190 => (some (wrap64 (bt190.1), bt190.2))) else (some (0, 2))) = some (r1, r2) := H
  have A5 := Aside0.mk A50
  clear A50
  by_cases c6 : t189 = true
  ·subst c6
   have H1 : ((exact_MulDiv.f k (IntKind.u64.wrap (a1)) (IntKind.u64.wrap (a0_2)) 1000000 1).bind fun bt190 => (some (wrap64 (bt190.1), bt190.2))) = some (r1, r2) := by rw [if_pos rfl] at H; exact H
   clear H
   have H := H1
   clear H1
   replace H := Option.bind_eq_some_iff.mp H
   obtain ⟨⟨t190, t191⟩, A70, H⟩ := H
   replace H : (some (wrap64 (t190), t191)) = some (r1, r2) := H
   have A7 := Aside0.mk A70
   clear A70
   simp only [Option.some.injEq, Prod.mk.injEq] at H
   obtain ⟨rfl, rfl⟩ := H
   go_enter Try.func17, Try.ntmps17
   go_wp2_with (first | ((with_reducible refine gate_dst (N := 2) rfl ?_); refine box_event ?hg (N := 2) ?hd (cs := #[.int .i64 a0_0, .int .i64 a0_1, .int .i64 a0_2, .slice A0_3 l0_3.length c0_3]) (t := 25) ?hr ?_; (case hd => rfl); (case hg => rfl); (case hr => first | (go_simp; done) | (go_simp; rfl)); intro gb187 hg w8 hbox hb; have qb_ := below_both bel hb; have n0_ := Aside0.mk (qb_.1); have n1_ := Aside0.mk (hbox); have n3_ := Aside0.mk ((by rw [hg]; exact qb_.2 : w.heap.size ≤ gb187)); clear HB; have HB := n0_; have BK187 := n1_; have GE187 := n3_; clear qb_; clear n0_ n1_ n3_; clear hb hbox hg; obtain ⟨hcz9_0, hcz9_1, hcz9_2, hcz9_3, hfz9_0, hfz9_1, hfz9_2, hfz9_3⟩ := cells4 BK187.out) | ((with_reducible refine gate_callee (f := 34) rfl ?_); refine goesL_ (some 10) rfl rfl Try.func34 (by kernel_rfl) rfl #[.int .i64 a0_2, .int .i64 0, .int .i64 1000000] rfl argx ?_; (with_reducible refine (guarantee_within_int.calls a0_2 0 1000000 true _ A3.out).mono ?_); rintro e w' ⟨rfl, ⟨nd, rfl⟩⟩; refine ⟨_, rfl, ?_⟩) | (go_at_call 34; (with_reducible refine (guarantee_within_int.calls a1 0 1000000000000 true _ A5.out).mono ?_); rintro e w' ⟨rfl, ⟨nd, rfl⟩⟩) | ((with_reducible refine gate_callee (f := 36) rfl ?_); refine goesL_ (some 23) rfl rfl Try.func36 (by kernel_rfl) rfl #[.int .u64 (IntKind.u64.wrap (a1)), .int .u64 (IntKind.u64.wrap (a0_2)), .int .u64 1000000, .int .i64 1] rfl argx ?_; (with_reducible refine (exact_MulDiv.calls k (IntKind.u64.wrap (a1)) (IntKind.u64.wrap (a0_2)) 1000000 1 t190 t191 _ A7.out).mono ?_); rintro e w10 ⟨rfl, hb⟩; refine ⟨_, rfl, ?_⟩; have n1_ := Aside0.mk (below_step bel hb); (try clear BK187); clear HB; have HB := n1_; clear n1_; (try clear hb); (try clear hb2); (try clear hk); (try clear hi)))
   go_ret2
   exact ⟨by first | rfl | (simp [errW_none, errW_some] <;> rfl) | (simp [*, errW_none, errW_some] <;> rfl), bel⟩
  ·replace c6 := Bool.eq_false_iff.mpr c6
   subst c6
   have H1 : (some (0, 2)) = some (r1, r2) := by rw [if_neg (show ¬ (false = true) by decide)] at H; exact H
   clear H
   have H := H1
   clear H1
   simp only [Option.some.injEq, Prod.mk.injEq] at H
   obtain ⟨rfl, rfl⟩ := H
   go_enter Try.func17, Try.ntmps17
   go_wp2_with (first | ((with_reducible refine gate_dst (N := 2) rfl ?_); refine box_event ?hg (N := 2) ?hd (cs := #[.int .i64 a0_0, .int .i64 a0_1, .int .i64 a0_2, .slice A0_3 l0_3.length c0_3]) (t := 25) ?hr ?_; (case hd => rfl); (case hg => rfl); (case hr => first | (go_simp; done) | (go_simp; rfl)); intro gb187 hg w11 hbox hb; have qb_ := below_both bel hb; have n0_ := Aside0.mk (qb_.1); have n1_ := Aside0.mk (hbox); have n3_ := Aside0.mk ((by rw [hg]; exact qb_.2 : w.heap.size ≤ gb187)); clear HB; have HB := n0_; have BK187 := n1_; have GE187 := n3_; clear qb_; clear n0_ n1_ n3_; clear hb hbox hg; obtain ⟨hcz12_0, hcz12_1, hcz12_2, hcz12_3, hfz12_0, hfz12_1, hfz12_2, hfz12_3⟩ := cells4 BK187.out) | ((with_reducible refine gate_callee (f := 34) rfl ?_); refine goesL_ (some 10) rfl rfl Try.func34 (by kernel_rfl) rfl #[.int .i64 a0_2, .int .i64 0, .int .i64 1000000] rfl argx ?_; (with_reducible refine (guarantee_within_int.calls a0_2 0 1000000 true _ A3.out).mono ?_); rintro e w' ⟨rfl, ⟨nd, rfl⟩⟩; refine ⟨_, rfl, ?_⟩) | (go_at_call 34; (with_reducible refine (guarantee_within_int.calls a1 0 1000000000000 false _ A5.out).mono ?_); rintro e w' ⟨rfl, ⟨nd, rfl⟩⟩))
   go_ret2
   exact ⟨by first | rfl | (simp [errW_none, errW_some] <;> rfl) | (simp [*, errW_none, errW_some] <;> rfl), bel⟩
 ·replace c4 := Bool.eq_false_iff.mpr c4
  subst c4
  have H1 : (some (0, 2)) = some (r1, r2) := by rw [if_neg (show ¬ (false = true) by decide)] at H; exact H
  clear H
  have H := H1
  clear H1
  simp only [Option.some.injEq, Prod.mk.injEq] at H
  obtain ⟨rfl, rfl⟩ := H
  go_enter Try.func17, Try.ntmps17
  go_wp2_with (first | ((with_reducible refine gate_dst (N := 2) rfl ?_); refine box_event ?hg (N := 2) ?hd (cs := #[.int .i64 a0_0, .int .i64 a0_1, .int .i64 a0_2, .slice A0_3 l0_3.length c0_3]) (t := 25) ?hr ?_; (case hd => rfl); (case hg => rfl); (case hr => first | (go_simp; done) | (go_simp; rfl)); intro gb187 hg w13 hbox hb; have qb_ := below_both bel hb; have n0_ := Aside0.mk (qb_.1); have n1_ := Aside0.mk (hbox); have n3_ := Aside0.mk ((by rw [hg]; exact qb_.2 : w.heap.size ≤ gb187)); clear HB; have HB := n0_; have BK187 := n1_; have GE187 := n3_; clear qb_; clear n0_ n1_ n3_; clear hb hbox hg; obtain ⟨hcz14_0, hcz14_1, hcz14_2, hcz14_3, hfz14_0, hfz14_1, hfz14_2, hfz14_3⟩ := cells4 BK187.out) | ((with_reducible refine gate_callee (f := 34) rfl ?_); refine goesL_ (some 10) rfl rfl Try.func34 (by kernel_rfl) rfl #[.int .i64 a0_2, .int .i64 0, .int .i64 1000000] rfl argx ?_; (with_reducible refine (guarantee_within_int.calls a0_2 0 1000000 false _ A3.out).mono ?_); rintro e w' ⟨rfl, ⟨nd, rfl⟩⟩; refine ⟨_, rfl, ?_⟩))
  go_ret2
  exact ⟨by first | rfl | (simp [errW_none, errW_some] <;> rfl) | (simp [*, errW_none, errW_some] <;> rfl), bel⟩
end Go.Proofs.Ytakhjhiofmgpnaa.PA
/- Small words on functions with rounds ('Ev'), and the fixed example of the laws of chapter 28. -/
namespace Go.Proofs.Ytakhjhiofmgpnaa.E
set_option linter.unusedVariables false
set_option linter.unusedSimpArgs false
open Go.RowKit Go.Proofs.YtakhjhiofmgpnaaW.PrintWords Go.Proofs.YtakhjhiofmgpnaaW.PrintLast Go.Proofs.YtakhjhiofmgpnaaW.PrintMore Go.Proofs.Ytakhjhiofmgpnaa.PA
theorem evShift {α : Type} {g : Nat → Option α} {r : α} (h : Ev (fun k => g (k + 1)) r) : Ev g r := by
  obtain ⟨K, h⟩ := h
  refine ⟨K + 1, fun k hk => ?_⟩
  obtain ⟨k, rfl⟩ : ∃ m, k = m + 1 := ⟨k - 1, by omega⟩
  exact h k (by omega)
theorem evNow {α : Type} {o : Option α} {r : α} (h : o = some r) : Ev (fun _ => o) r := ⟨0, fun _ _ => h⟩
theorem evPos {α : Type} {c : Prop} [Decidable c] {f g : Nat → Option α} {r : α} (hc : c) (h : Ev f r) : Ev (fun k => if c then f k else g k) r := by simpa [hc] using h
theorem evNeg {α : Type} {c : Prop} [Decidable c] {f g : Nat → Option α} {r : α} (hc : ¬ c) (h : Ev g r) : Ev (fun k => if c then f k else g k) r := by simpa [hc] using h
theorem evIf {α : Type} {c : Prop} [Decidable c] {f g : Nat → Option α} {r : α} (h1 : c → Ev f r) (h2 : ¬ c → Ev g r) : Ev (fun k => if c then f k else g k) r := by
  by_cases hc : c
  · exact evPos hc (h1 hc)
  · exact evNeg hc (h2 hc)
theorem evBind {α β : Type} {g : Nat → Option α} {f : Nat → α → Option β} {a : α} {r : β} (h : Ev g a) (k : Ev (fun n => f n a) r) : Ev (fun n => (g n).bind (f n)) r := h.bind k
theorem evBind0 {α β : Type} {g : Option α} {f : Nat → α → Option β} {a : α} {r : β} (h : g = some a) (k : Ev (fun n => f n a) r) : Ev (fun n => g.bind (f n)) r := by subst h; exact k
theorem wrap64_id {x : Int} (h1 : -9223372036854775808 ≤ x) (h2 : x ≤ 9223372036854775807) : wrap64 x = x := by unfold wrap64; omega
theorem wf_i64 {x : Int} (h : (Lit.int .i64 x).wf = true) : -9223372036854775808 ≤ x ∧ x ≤ 9223372036854775807 := by
  simp [Lit.wf, IntKind.min, IntKind.max, IntKind.signed, IntKind.bits] at h
  omega
theorem within_some (x n : Int) (hn : 0 < n) (hb : n ≤ 4611686018427387904) : ∃ r, customsmade_Within.f x n = some r ∧ 0 ≤ r ∧ r < n := by
  unfold customsmade_Within.f
  rw [if_neg (by omega)]
  have h1 : Int.tmod x n < n := Int.tmod_lt_of_pos x hn
  have h2 : -n < Int.tmod x n := by
    have := Int.lt_tmod_of_pos x hn
    omega
  rw [wrap64_id (by omega) (by omega)]
  refine ⟨_, rfl, ?_, Int.tmod_lt_of_pos _ hn⟩
  exact Int.tmod_nonneg _ (by omega)
end Go.Proofs.Ytakhjhiofmgpnaa.E
/- The quotient of 128 bits: bits.Div64 as printed is floor division (Knuth's algorithm D with two digits), bits.Mul64 the product. -/
namespace Go.Proofs.Ytakhjhiofmgpnaa.E
set_option linter.unusedVariables false
set_option linter.unusedSimpArgs false
open Go.RowKit Go.Proofs.YtakhjhiofmgpnaaW.PrintWords Go.Proofs.YtakhjhiofmgpnaaW.PrintLast Go.Proofs.YtakhjhiofmgpnaaW.PrintMore Go.Proofs.Ytakhjhiofmgpnaa.PA
theorem w_id {x : Int} (h1 : 0 ≤ x) (h2 : x < 18446744073709551616) : IntKind.u64.wrap x = x := by rw [IntKind.wrap_u64]; omega
/-- What one digit is found by. -/
structure Dig (yn1 yn0 un c Q : Int) : Prop where
  y1 : 2147483648 ≤ yn1
  y1' : yn1 < 4294967296
  y0 : 0 ≤ yn0
  y0' : yn0 < 4294967296
  c0 : 0 ≤ c
  c1 : c < 4294967296
  u0 : 0 ≤ un
  u1 : un < yn1 * 4294967296 + yn0
  lo : Q * (yn1 * 4294967296 + yn0) ≤ un * 4294967296 + c
  hi : un * 4294967296 + c < (Q + 1) * (yn1 * 4294967296 + yn0)
theorem Dig.q_nonneg {yn1 yn0 un c Q : Int} (h : Dig yn1 yn0 un c Q) : 0 ≤ Q := by
  obtain ⟨a1, a2, a3, a4, a5, a6, a7, a8, a9, a10⟩ := h
  have hy : 0 < yn1 * 4294967296 + yn0 := by omega
  have : 0 < Q + 1 := by
    rcases Int.lt_or_le 0 (Q + 1) with h | h
    · exact h
    · have := Int.mul_le_mul_of_nonneg_right h (Int.le_of_lt hy)
      omega
  omega
theorem Dig.q_lt {yn1 yn0 un c Q : Int} (h : Dig yn1 yn0 un c Q) : Q < 4294967296 := by
  obtain ⟨a1, a2, a3, a4, a5, a6, a7, a8, a9, a10⟩ := h
  have hy : 0 < yn1 * 4294967296 + yn0 := by omega
  rcases Int.lt_or_le Q 4294967296 with h | h
  · exact h
  · have := Int.mul_le_mul_of_nonneg_right h (Int.le_of_lt hy)
    omega
theorem Dig.prod {yn1 yn0 un q r : Int} (e : q * yn1 + r = un) : q * (yn1 * 4294967296 + yn0) = (un - r) * 4294967296 + q * yn0 := by
  rw [Int.mul_add, ← Int.mul_assoc, ← e]
  omega
theorem Dig.stop {yn1 yn0 un c Q q r : Int} (h : Dig yn1 yn0 un c Q) (e : q * yn1 + r = un) (hc : q * yn0 ≤ 4294967296 * r + c) : q ≤ Q := by
  have hp := Dig.prod (yn0 := yn0) e
  have hy : 0 < yn1 * 4294967296 + yn0 := by have := h.y1; have := h.y0; omega
  have h1 : q * (yn1 * 4294967296 + yn0) < (Q + 1) * (yn1 * 4294967296 + yn0) := by have := h.hi; omega
  have := Int.lt_of_mul_lt_mul_right h1 (Int.le_of_lt hy)
  omega
theorem Dig.more {yn1 yn0 un c Q q r : Int} (h : Dig yn1 yn0 un c Q) (e : q * yn1 + r = un) (hc : 4294967296 * r + c < q * yn0) : Q < q := by
  have hp := Dig.prod (yn0 := yn0) e
  have hy : 0 < yn1 * 4294967296 + yn0 := by have := h.y1; have := h.y0; omega
  have h1 : Q * (yn1 * 4294967296 + yn0) < q * (yn1 * 4294967296 + yn0) := by have := h.lo; omega
  exact Int.lt_of_mul_lt_mul_right h1 (Int.le_of_lt hy)
theorem Dig.next {yn1 un q r : Int} (e : q * yn1 + r = un) : (q - 1) * yn1 + (r + yn1) = un := by
  rw [Int.sub_mul]; omega
/-- Behind a step down with a great rest the digit is found. -/
theorem Dig.last {yn1 yn0 un c Q q r : Int} (h : Dig yn1 yn0 un c Q) (e : q * yn1 + r = un) (hq : q ≤ 4294967296) (hq0 : 0 ≤ q) (hr : 4294967296 ≤ r) : q ≤ Q := by
  refine h.stop e ?_
  have h1 : q * yn0 ≤ 4294967296 * yn0 := Int.mul_le_mul_of_nonneg_right hq h.y0
  have := h.y0'
  have := h.c0
  omega
theorem mul_lt_sq {a b : Int} (h1 : 0 ≤ a) (h2 : a < 4294967296) (h3 : 0 ≤ b) (h4 : b < 4294967296) : 0 ≤ a * b ∧ a * b ≤ 18446744065119617025 := by
  refine ⟨Int.mul_nonneg h1 h3, ?_⟩
  have := Int.mul_le_mul (show a ≤ 4294967295 by omega) (show b ≤ 4294967295 by omega) h3 (by decide)
  omega
/-- The first digit's loop. -/
theorem first_digit {x2 x8 yn1 yn0 un c x14 Q : Int} {res : Int × Int} (h : Dig yn1 yn0 un c Q) (hj : Ev (fun k => bits_Div64.j2 k x2 x8 yn1 yn0 un c x14 Q) res) (n : Nat) :
    ∀ q r : Int, q - Q = n → q ≤ 4294967297 → q * yn1 + r = un → 0 ≤ r → r < 4294967296 → Ev (fun k => bits_Div64.l0 k x2 x8 yn1 yn0 un c x14 q r) res := by
  have y1 := h.y1
  have y1' := h.y1'
  have q0 := h.q_nonneg
  have q1 := h.q_lt
  have c0 := h.c0
  have c1 := h.c1
  induction n with
  | zero =>
    intro q r hn hq e r0 r1
    obtain rfl : q = Q := by omega
    obtain ⟨p0, p1⟩ := mul_lt_sq q0 q1 h.y0 h.y0'
    refine evShift ?_
    simp only [bits_Div64.l0]
    refine evNeg (by omega) ?_
    rw [w_id p0 (by omega), w_id (x := 4294967296 * r) (by omega) (by omega), w_id (x := 4294967296 * r + c) (by omega) (by omega)]
    have hno : decide (q * yn0 > 4294967296 * r + c) = false := by
      rw [decide_eq_false_iff_not]
      intro hh
      have := h.more e hh
      omega
    rw [hno]
    refine evShift ?_
    simp only [bits_Div64.j1]
    exact evNeg (by simp) hj
  | succ n ih =>
    intro q r hn hq e r0 r1
    have down : Ev (fun k => bits_Div64.j1 k x2 x8 yn1 yn0 un c x14 q r true) res := by
      refine evShift ?_
      simp only [bits_Div64.j1]
      refine evPos (by trivial) ?_
      rw [w_id (x := r + yn1) (by omega) (by omega), w_id (x := q - 1) (by omega) (by omega)]
      have e' := Dig.next e
      refine evIf (fun hr => ?_) (fun hr => ih (q - 1) (r + yn1) (by omega) (by omega) e' (by omega) (by omega))
      have hl := h.last e' (by omega) (by omega) hr
      obtain rfl : q - 1 = Q := by omega
      exact hj
    refine evShift ?_
    simp only [bits_Div64.l0]
    refine evIf (fun _ => down) (fun hlt => ?_)
    obtain ⟨p0, p1⟩ := mul_lt_sq (show 0 ≤ q by omega) (show q < 4294967296 by omega) h.y0 h.y0'
    rw [w_id p0 (by omega), w_id (x := 4294967296 * r) (by omega) (by omega), w_id (x := 4294967296 * r + c) (by omega) (by omega)]
    have hyes : decide (q * yn0 > 4294967296 * r + c) = true := by
      rw [decide_eq_true_iff]
      rcases Int.lt_or_le (4294967296 * r + c) (q * yn0) with hh | hh
      · exact hh
      · have := h.stop e hh
        omega
    rw [hyes]
    exact down
/-- The second digit's loop. -/
theorem second_digit {x2 x8 yn1 yn0 un c x15 Q : Int} {res : Int × Int} (h : Dig yn1 yn0 un c Q) (hs : 0 ≤ x8)
    (hres : (IntKind.u64.wrap ((IntKind.u64.wrap (x15 * 4294967296)) + Q), shr .u64 (IntKind.u64.wrap ((IntKind.u64.wrap ((IntKind.u64.wrap (un * 4294967296)) + c)) - (IntKind.u64.wrap (Q * x2)))) x8) = res) (n : Nat) :
    ∀ q r : Int, q - Q = n → q ≤ 4294967297 → q * yn1 + r = un → 0 ≤ r → r < 4294967296 → Ev (fun k => bits_Div64.l1 k x2 x8 yn1 yn0 c x15 r un q) res := by
  have y1 := h.y1
  have y1' := h.y1'
  have q0 := h.q_nonneg
  have q1 := h.q_lt
  have c0 := h.c0
  have c1 := h.c1
  induction n with
  | zero =>
    intro q r hn hq e r0 r1
    obtain rfl : q = Q := by omega
    obtain ⟨p0, p1⟩ := mul_lt_sq q0 q1 h.y0 h.y0'
    refine evShift ?_
    simp only [bits_Div64.l1]
    refine evNeg (by omega) ?_
    rw [w_id p0 (by omega), w_id (x := 4294967296 * r) (by omega) (by omega), w_id (x := 4294967296 * r + c) (by omega) (by omega)]
    have hno : decide (q * yn0 > 4294967296 * r + c) = false := by
      rw [decide_eq_false_iff_not]
      intro hh
      have := h.more e hh
      omega
    rw [hno]
    refine evShift ?_
    simp only [bits_Div64.j4]
    exact evNeg (by simp) (evPos hs (evNow (by rw [hres])))
  | succ n ih =>
    intro q r hn hq e r0 r1
    have down : Ev (fun k => bits_Div64.j4 k x2 x8 yn1 yn0 c x15 r un q true) res := by
      refine evShift ?_
      simp only [bits_Div64.j4]
      refine evPos (by trivial) ?_
      rw [w_id (x := r + yn1) (by omega) (by omega), w_id (x := q - 1) (by omega) (by omega)]
      have e' := Dig.next e
      refine evIf (fun hr => ?_) (fun hr => ih (q - 1) (r + yn1) (by omega) (by omega) e' (by omega) (by omega))
      have hl := h.last e' (by omega) (by omega) hr
      obtain rfl : q - 1 = Q := by omega
      exact evPos hs (evNow (by rw [hres]))
    refine evShift ?_
    simp only [bits_Div64.l1]
    refine evIf (fun _ => down) (fun hlt => ?_)
    obtain ⟨p0, p1⟩ := mul_lt_sq (show 0 ≤ q by omega) (show q < 4294967296 by omega) h.y0 h.y0'
    rw [w_id p0 (by omega), w_id (x := 4294967296 * r) (by omega) (by omega), w_id (x := 4294967296 * r + c) (by omega) (by omega)]
    have hyes : decide (q * yn0 > 4294967296 * r + c) = true := by
      rw [decide_eq_true_iff]
      rcases Int.lt_or_le (4294967296 * r + c) (q * yn0) with hh | hh
      · exact hh
      · have := h.stop e hh
        omega
    rw [hyes]
    exact down
end Go.Proofs.Ytakhjhiofmgpnaa.E
/- bits.Div64 and bits.Mul64 as printed: floor division of 128 bits, the product. -/
namespace Go.Proofs.Ytakhjhiofmgpnaa.E
set_option linter.unusedVariables false
set_option linter.unusedSimpArgs false
open Go.RowKit Go.Proofs.YtakhjhiofmgpnaaW.PrintWords Go.Proofs.YtakhjhiofmgpnaaW.PrintLast Go.Proofs.YtakhjhiofmgpnaaW.PrintMore Go.Proofs.Ytakhjhiofmgpnaa.PA
/-- n bits. -/
def Bits (x : Int) (n : Nat) : Prop := x < 2 ^ n ∧ (n = 0 ∨ 2 ^ (n - 1) ≤ x)
def tabB : ByteArray := ⟨#[0, 1, 2, 2, 3, 3, 3, 3, 4, 4, 4, 4, 4, 4, 4, 4, 5, 5, 5, 5, 5, 5, 5, 5, 5, 5, 5, 5, 5, 5, 5, 5, 6, 6, 6, 6, 6, 6, 6, 6, 6, 6, 6, 6, 6, 6, 6, 6, 6, 6, 6, 6, 6, 6, 6, 6, 6, 6, 6, 6, 6, 6, 6, 6, 7, 7, 7, 7, 7, 7, 7, 7, 7, 7, 7, 7, 7, 7, 7, 7, 7, 7, 7, 7, 7, 7, 7, 7, 7, 7, 7, 7, 7, 7, 7, 7, 7, 7, 7, 7, 7, 7, 7, 7, 7, 7, 7, 7, 7, 7, 7, 7, 7, 7, 7, 7, 7, 7, 7, 7, 7, 7, 7, 7, 7, 7, 7, 7, 8, 8, 8, 8, 8, 8, 8, 8, 8, 8, 8, 8, 8, 8, 8, 8, 8, 8, 8, 8, 8, 8, 8, 8, 8, 8, 8, 8, 8, 8, 8, 8, 8, 8, 8, 8, 8, 8, 8, 8, 8, 8, 8, 8, 8, 8, 8, 8, 8, 8, 8, 8, 8, 8, 8, 8, 8, 8, 8, 8, 8, 8, 8, 8, 8, 8, 8, 8, 8, 8, 8, 8, 8, 8, 8, 8, 8, 8, 8, 8, 8, 8, 8, 8, 8, 8, 8, 8, 8, 8, 8, 8, 8, 8, 8, 8, 8, 8, 8, 8, 8, 8, 8, 8, 8, 8, 8, 8, 8, 8, 8, 8, 8, 8, 8, 8, 8, 8, 8, 8, 8, 8, 8, 8, 8, 8, 8, 8]⟩
theorem tab_all : ∀ i : Nat, i < 256 → ∃ n : Nat, bt tabB (i : Int) = n ∧ Bits i n ∧ n ≤ 8 := by
  have h : ∀ i : Fin 256, bt tabB ((i.val : Nat) : Int) = (((bt tabB ((i.val : Nat) : Int)).toNat : Nat) : Int) ∧ ((i.val : Nat) : Int) < 2 ^ (bt tabB ((i.val : Nat) : Int)).toNat ∧ ((bt tabB ((i.val : Nat) : Int)).toNat = 0 ∨ (2 : Int) ^ ((bt tabB ((i.val : Nat) : Int)).toNat - 1) ≤ ((i.val : Nat) : Int)) ∧ (bt tabB ((i.val : Nat) : Int)).toNat ≤ 8 := by decide +kernel
  intro i hi
  obtain ⟨h1, h2, h3, h4⟩ := h ⟨i, hi⟩
  exact ⟨_, h1, ⟨h2, h3⟩, h4⟩
theorem tab_at (i : Int) (h0 : 0 ≤ i) (h1 : i < 256) : ∃ n : Nat, bt tabB i = n ∧ Bits i n ∧ n ≤ 8 := by
  obtain ⟨j, rfl⟩ := Int.eq_ofNat_of_zero_le h0
  exact tab_all j (by omega)
theorem Bits.shift {x : Int} {n j : Nat} (h : Bits (x / 2 ^ j) n) (h1 : 1 ≤ x / 2 ^ j) : Bits x (n + j) := by
  obtain ⟨a, b⟩ := h
  have hp : (0 : Int) < 2 ^ j := Int.pow_pos (by decide)
  refine ⟨?_, .inr ?_⟩
  · rw [Int.pow_add]
    exact Int.lt_mul_of_ediv_lt hp a
  · rcases b with b | b
    · subst b
      simp at a
      omega
    · have hn : n ≠ 0 := by
        rintro rfl
        simp at a
        omega
      rw [show n + j - 1 = (n - 1) + j by omega, Int.pow_add]
      have := Int.mul_le_mul_of_nonneg_right b (Int.le_of_lt hp)
      have h2 := Int.ediv_mul_le x (Int.ne_of_gt hp)
      omega
set_option maxRecDepth 100000 in
theorem len_step (x c : Int) (k : Nat) : bits_Len64.j0 (k + 1) x c = (if x ≥ 65536 then (if (x / 65536) ≥ 256 then (if 0 ≤ (((x / 65536) / 256) % 256) then (if (((x / 65536) / 256) % 256) < 256 then (some (wrap64 ((wrap64 ((wrap64 (c + 16)) + 8)) + (wrap64 (bt tabB (((x / 65536) / 256) % 256)))))) else (none)) else (none)) else (if 0 ≤ ((x / 65536) % 256) then (if ((x / 65536) % 256) < 256 then (some (wrap64 ((wrap64 (c + 16)) + (wrap64 (bt tabB ((x / 65536) % 256)))))) else (none)) else (none))) else (if x ≥ 256 then (if 0 ≤ ((x / 256) % 256) then (if ((x / 256) % 256) < 256 then (some (wrap64 ((wrap64 (c + 8)) + (wrap64 (bt tabB ((x / 256) % 256)))))) else (none)) else (none)) else (if 0 ≤ ((x) % 256) then (if ((x) % 256) < 256 then (some (wrap64 (c + (wrap64 (bt tabB ((x) % 256)))))) else (none)) else (none)))) := rfl
theorem len_j0 (x c : Int) (h0 : 0 ≤ x) (h1 : x < 4294967296) (hc : 0 ≤ c) (hc1 : c ≤ 32) : ∃ n : Nat, Ev (fun k => bits_Len64.j0 k x c) (c + n) ∧ Bits x n ∧ n ≤ 32 := by
  have fin : ∀ (i : Int) (e : Int), 0 ≤ i → i < 256 → 0 ≤ e → e ≤ 100 → ∃ n : Nat, wrap64 (e + wrap64 (bt tabB i)) = e + n ∧ Bits i n ∧ n ≤ 8 := by
    intro i e a b e0 e1
    obtain ⟨n, q1, q2, q3⟩ := tab_at i a b
    exact ⟨n, by rw [q1, wrap64_id (x := (n : Int)) (by omega) (by omega), wrap64_id (by omega) (by omega)], q2, q3⟩
  have w1 : wrap64 (c + 16) = c + 16 := wrap64_id (by omega) (by omega)
  have w2 : wrap64 (c + 16 + 8) = c + 16 + 8 := wrap64_id (by omega) (by omega)
  have w3 : wrap64 (c + 8) = c + 8 := wrap64_id (by omega) (by omega)
  by_cases c1 : x ≥ 65536
  · by_cases c2 : x / 65536 ≥ 256
    · obtain ⟨n, q1, q2, q3⟩ := fin (x / 65536 / 256 % 256) (c + 16 + 8) (by omega) (by omega) (by omega) (by omega)
      refine ⟨n + 24, ?_, ?_, by omega⟩
      · refine evShift ?_
        simp only [len_step]
        refine evPos c1 (evPos c2 (evPos (by omega) (evPos (by omega) ?_)))
        exact evNow (by rw [w1, w2]; refine congrArg some (Eq.trans q1 ?_); push_cast; omega)
      · have e : x / 65536 / 256 % 256 = x / 2 ^ 24 := by omega
        rw [e] at q2
        exact q2.shift (by omega)
    · obtain ⟨n, q1, q2, q3⟩ := fin (x / 65536 % 256) (c + 16) (by omega) (by omega) (by omega) (by omega)
      refine ⟨n + 16, ?_, ?_, by omega⟩
      · refine evShift ?_
        simp only [len_step]
        refine evPos c1 (evNeg c2 (evPos (by omega) (evPos (by omega) ?_)))
        exact evNow (by rw [w1]; refine congrArg some (Eq.trans q1 ?_); push_cast; omega)
      · have e : x / 65536 % 256 = x / 2 ^ 16 := by omega
        rw [e] at q2
        exact q2.shift (by omega)
  · by_cases c2 : x ≥ 256
    · obtain ⟨n, q1, q2, q3⟩ := fin (x / 256 % 256) (c + 8) (by omega) (by omega) (by omega) (by omega)
      refine ⟨n + 8, ?_, ?_, by omega⟩
      · refine evShift ?_
        simp only [len_step]
        refine evNeg c1 (evPos c2 (evPos (by omega) (evPos (by omega) ?_)))
        exact evNow (by rw [w3]; refine congrArg some (Eq.trans q1 ?_); push_cast; omega)
      · have e : x / 256 % 256 = x / 2 ^ 8 := by omega
        rw [e] at q2
        exact q2.shift (by omega)
    · obtain ⟨n, q1, q2, q3⟩ := fin (x % 256) c (by omega) (by omega) (by omega) (by omega)
      refine ⟨n, ?_, ?_, by omega⟩
      · refine evShift ?_
        simp only [len_step]
        refine evNeg c1 (evNeg c2 (evPos (by omega) (evPos (by omega) ?_)))
        exact evNow (by refine congrArg some (Eq.trans q1 ?_); omega)
      · have e : x % 256 = x := by omega
        rw [e] at q2
        exact q2
theorem len_ev (x : Int) (h0 : 1 ≤ x) (h1 : x < 18446744073709551616) : ∃ n : Nat, Ev (fun k => bits_LeadingZeros64.f k x) (64 - n) ∧ x < 2 ^ n ∧ 2 ^ (n - 1) ≤ x ∧ 1 ≤ n ∧ n ≤ 64 := by
  have pack : ∀ n : Nat, Ev (fun k => bits_Len64.f k x) n → Bits x n → n ≤ 64 → Ev (fun k => bits_LeadingZeros64.f k x) (64 - n) ∧ x < 2 ^ n ∧ 2 ^ (n - 1) ≤ x ∧ 1 ≤ n ∧ n ≤ 64 := by
    intro n a b c
    have hn : n ≠ 0 := by
      rintro rfl
      have := b.1
      simp at this
      omega
    refine ⟨?_, b.1, ?_, by omega, c⟩
    · simp only [bits_LeadingZeros64.f]
      exact evBind a (evNow (by rw [wrap64_id (by omega) (by omega)]))
    · rcases b.2 with h | h
      · exact absurd h hn
      · exact h
  by_cases c : x ≥ 4294967296
  · obtain ⟨n, a, b, d⟩ := len_j0 (x / 4294967296) 32 (by omega) (by omega) (by omega) (by omega)
    refine ⟨n + 32, pack _ ?_ ?_ (by omega)⟩
    · simp only [bits_Len64.f]
      refine evPos c ?_
      have : ((n + 32 : Nat) : Int) = 32 + n := by push_cast; omega
      rw [this]
      exact a
    · exact Bits.shift (j := 32) b (by omega)
  · obtain ⟨n, a, b, d⟩ := len_j0 x 0 (by omega) (by omega) (by omega) (by omega)
    refine ⟨n, pack _ ?_ b (by omega)⟩
    simp only [bits_Len64.f]
    refine evNeg c ?_
    rw [show (n : Int) = 0 + n by omega]
    exact a
theorem and_low (x : Int) (h0 : 0 ≤ x) (h1 : x < 18446744073709551616) : Go.bits .and .u64 x 4294967295 = x % 4294967296 :=
  bits_mask .u64 64 (by decide) (fun n a b => w_id a (by simpa using b)) 32 (by decide) x h0 (by simpa using h1)
theorem mul64_some (a b : Int) (a0 : 0 ≤ a) (a1 : a < 18446744073709551616) (b0 : 0 ≤ b) (b1 : b < 18446744073709551616) :
    bits_Mul64.f a b = some (a * b / 18446744073709551616, a * b % 18446744073709551616) := by
  unfold bits_Mul64.f
  rw [and_low a a0 a1, and_low b b0 b1]
  have ha : a = (a / 4294967296) * 4294967296 + a % 4294967296 := by omega
  have ea0 : 0 ≤ a / 4294967296 := by omega
  have ea1 : a / 4294967296 < 4294967296 := by omega
  have fa0 : 0 ≤ a % 4294967296 := by omega
  have fa1 : a % 4294967296 < 4294967296 := by omega
  have hb : b = (b / 4294967296) * 4294967296 + b % 4294967296 := by omega
  have eb0 : 0 ≤ b / 4294967296 := by omega
  have eb1 : b / 4294967296 < 4294967296 := by omega
  have fb0 : 0 ≤ b % 4294967296 := by omega
  have fb1 : b % 4294967296 < 4294967296 := by omega
  have hab : a * b = (a / 4294967296) * (b / 4294967296) * 18446744073709551616 + (a / 4294967296) * (b % 4294967296) * 4294967296 + (a % 4294967296) * (b / 4294967296) * 4294967296 + (a % 4294967296) * (b % 4294967296) := by
    generalize a / 4294967296 = p at *
    generalize a % 4294967296 = q at *
    generalize b / 4294967296 = r at *
    generalize b % 4294967296 = s at *
    subst ha hb
    grind
  rw [hab]
  obtain ⟨w1, w2⟩ := mul_lt_sq ea0 ea1 eb0 eb1
  obtain ⟨x1, x2⟩ := mul_lt_sq ea0 ea1 fb0 fb1
  obtain ⟨y1, y2⟩ := mul_lt_sq fa0 fa1 eb0 eb1
  obtain ⟨z1, z2⟩ := mul_lt_sq fa0 fa1 fb0 fb1
  generalize (a / 4294967296) * (b / 4294967296) = W at *
  generalize (a / 4294967296) * (b % 4294967296) = X at *
  generalize (a % 4294967296) * (b / 4294967296) = Y at *
  generalize (a % 4294967296) * (b % 4294967296) = Z at *
  rw [w_id w1 (by omega), w_id x1 (by omega), w_id y1 (by omega), w_id z1 (by omega)]
  clear ha hb hab
  have hz : 0 ≤ Z / 4294967296 ∧ Z / 4294967296 ≤ 4294967294 := by omega
  have hT : 0 ≤ X + Z / 4294967296 ∧ X + Z / 4294967296 < 18446744073709551616 := by omega
  rw [w_id (x := X + Z / 4294967296) hT.1 hT.2]
  rw [and_low (X + Z / 4294967296) (by omega) (by omega)]
  rw [w_id (x := W + (X + Z / 4294967296) / 4294967296) (by omega) (by omega), w_id (x := (X + Z / 4294967296) % 4294967296 + Y) (by omega) (by omega)]
  rw [w_id (x := W + (X + Z / 4294967296) / 4294967296 + _) (by omega) (by omega)]
  rw [IntKind.wrap_u64]
  simp only [Option.some.injEq, Prod.mk.injEq]
  refine ⟨?_, trivial⟩
  clear w1 w2 x1 x2 y1 y2 hz hT
  obtain ⟨z1', z0, hz, hz0, hz1⟩ : ∃ z1' z0 : Int, Z = 4294967296 * z1' + z0 ∧ 0 ≤ z0 ∧ z0 < 4294967296 := ⟨Z / 4294967296, Z % 4294967296, by omega, by omega, by omega⟩
  have e1 : Z / 4294967296 = z1' := by omega
  rw [e1]
  obtain ⟨t1, t0, ht, ht0, ht1⟩ : ∃ t1 t0 : Int, X + z1' = 4294967296 * t1 + t0 ∧ 0 ≤ t0 ∧ t0 < 4294967296 := ⟨(X + z1') / 4294967296, (X + z1') % 4294967296, by omega, by omega, by omega⟩
  have e2 : (X + z1') / 4294967296 = t1 := by omega
  have e3 : (X + z1') % 4294967296 = t0 := by omega
  rw [e2, e3]
  obtain ⟨v1, v0, hv, hv0, hv1⟩ : ∃ v1 v0 : Int, t0 + Y = 4294967296 * v1 + v0 ∧ 0 ≤ v0 ∧ v0 < 4294967296 := ⟨(t0 + Y) / 4294967296, (t0 + Y) % 4294967296, by omega, by omega, by omega⟩
  have e4 : (t0 + Y) / 4294967296 = v1 := by omega
  rw [e4]
  have e5 : W * 18446744073709551616 + X * 4294967296 + Y * 4294967296 + Z = (W + t1 + v1) * 18446744073709551616 + (v0 * 4294967296 + z0) := by omega
  rw [e5]
  omega
end Go.Proofs.Ytakhjhiofmgpnaa.E
/- bits.Div64 as printed is floor division of 128 bits. -/
namespace Go.Proofs.Ytakhjhiofmgpnaa.E
set_option linter.unusedVariables false
set_option linter.unusedSimpArgs false
open Go.RowKit Go.Proofs.YtakhjhiofmgpnaaW.PrintWords Go.Proofs.YtakhjhiofmgpnaaW.PrintLast Go.Proofs.YtakhjhiofmgpnaaW.PrintMore Go.Proofs.Ytakhjhiofmgpnaa.PA
theorem pow_pair (n : Nat) (h : n ≤ 64) : (2 : Int) ^ n * 2 ^ (64 - n) = 18446744073709551616 := by
  rw [← Int.pow_add, show n + (64 - n) = 64 by omega]
  decide
theorem or_join (x y : Int) (i : Nat) (hx0 : 0 ≤ x) (hx : x % 2 ^ i = 0) (hx1 : x < 18446744073709551616) (hy0 : 0 ≤ y) (hy : y < 2 ^ i) (hy1 : y < 18446744073709551616) : Go.bits .or .u64 x y = x + y :=
  bits_join .u64 64 (by decide) (fun n a b => w_id a (by simpa using b)) i x y hx0 hx (by simpa using hx1) hy0 hy (by simpa using hy1)
theorem digit {y1 y0 un c y : Int} (hy : y = y1 * 4294967296 + y0) (a1 : 2147483648 ≤ y1) (a2 : y1 < 4294967296) (a3 : 0 ≤ y0) (a4 : y0 < 4294967296) (c0 : 0 ≤ c) (c1 : c < 4294967296) (u0 : 0 ≤ un) (u1 : un < y) : Dig y1 y0 un c ((un * 4294967296 + c) / y) := by
  subst hy
  have hpos : 0 < y1 * 4294967296 + y0 := by omega
  refine ⟨a1, a2, a3, a4, c0, c1, u0, u1, Int.ediv_mul_le _ (Int.ne_of_gt hpos), ?_⟩
  have := Int.lt_ediv_add_one_mul_self (un * 4294967296 + c) hpos
  exact this
theorem first_q {y1 y0 un : Int} (a1 : 2147483648 ≤ y1) (a2 : y1 < 4294967296) (a4 : y0 < 4294967296) (u0 : 0 ≤ un) (u1 : un < y1 * 4294967296 + y0) : 0 ≤ un / y1 ∧ un / y1 ≤ 4294967297 ∧ un / y1 * y1 + un % y1 = un ∧ 0 ≤ un % y1 ∧ un % y1 < 4294967296 := by
  have hpos : 0 < y1 := by omega
  refine ⟨Int.ediv_nonneg u0 (Int.le_of_lt hpos), ?_, Int.ediv_mul_add_emod un y1, Int.emod_nonneg _ (Int.ne_of_gt hpos), Int.lt_trans (Int.emod_lt_of_pos _ hpos) a2⟩
  have : un / y1 < 4294967298 := by
    apply Int.ediv_lt_of_lt_mul hpos
    omega
  omega
theorem rem_word {un c y Q : Int} (hy0 : 0 < y) (hy1 : y < 18446744073709551616) (h0 : 0 ≤ un) (c0 : 0 ≤ c) (hQ : Q = (un * 4294967296 + c) / y) :
    IntKind.u64.wrap ((IntKind.u64.wrap ((IntKind.u64.wrap (un * 4294967296)) + c)) - (IntKind.u64.wrap (Q * y))) = (un * 4294967296 + c) % y := by
  have e := Int.ediv_mul_add_emod (un * 4294967296 + c) y
  rw [← hQ] at e
  have r0 := Int.emod_nonneg (un * 4294967296 + c) (Int.ne_of_gt hy0)
  have r1 := Int.emod_lt_of_pos (un * 4294967296 + c) hy0
  rw [IntKind.wrap_u64, IntKind.wrap_u64, IntKind.wrap_u64, IntKind.wrap_u64]
  generalize Q * y = z at *
  generalize (un * 4294967296 + c) % y = r at *
  omega
theorem emod_mul (a b : Int) {p : Int} (hp : 0 < p) : a * p % (b * p) = a % b * p := by
  rw [Int.mul_comm a, Int.mul_comm b, Int.mul_emod_mul_of_pos _ _ hp, Int.mul_comm]
theorem digit_le {yn1 yn0 un c Q : Int} (h : Dig yn1 yn0 un c Q) : Q ≤ un / yn1 := by
  obtain ⟨a1, a2, a3, a4, a5, a6, a7, a8, a9, a10⟩ := id h
  have q0 := h.q_nonneg
  apply Int.le_ediv_of_mul_le (by omega)
  have e : Q * (yn1 * 4294967296 + yn0) = Q * yn1 * 4294967296 + Q * yn0 := by rw [Int.mul_add, Int.mul_assoc]
  have p := Int.mul_nonneg q0 a3
  omega
theorem digit_q {yn1 yn0 un c Q : Int} (h : Dig yn1 yn0 un c Q) : IntKind.u64.wrap (Int.tdiv un yn1) = un / yn1 ∧ IntKind.u64.wrap (un - IntKind.u64.wrap (un / yn1 * yn1)) = un % yn1 ∧ (∃ m : Nat, un / yn1 - Q = m) ∧ un / yn1 ≤ 4294967297 ∧ un / yn1 * yn1 + un % yn1 = un ∧ 0 ≤ un % yn1 ∧ un % yn1 < 4294967296 := by
  obtain ⟨a1, a2, a3, a4, a5, a6, a7, a8, a9, a10⟩ := id h
  obtain ⟨f0, f1, f2, f3, f4⟩ := first_q a1 a2 a4 a7 a8
  have hl := digit_le h
  have p := Int.mul_nonneg f0 (show 0 ≤ yn1 by omega)
  have hb : yn1 * 4294967296 + yn0 < 18446744073709551616 := by omega
  refine ⟨?_, ?_, ⟨(un / yn1 - Q).toNat, by omega⟩, f1, f2, f3, f4⟩
  · rw [Int.tdiv_eq_ediv_of_nonneg a7, w_id f0 (by omega)]
  · rw [w_id (x := un / yn1 * yn1) p (by omega), w_id (by omega) (by omega)]
    omega
theorem div64_ev (hi lo y : Int) (h0 : 0 ≤ hi) (h1 : hi < y) (l0 : 0 ≤ lo) (l1 : lo < 18446744073709551616) (y1 : y < 18446744073709551616) :
    Ev (fun k => bits_Div64.f k hi lo y) ((hi * 18446744073709551616 + lo) / y, (hi * 18446744073709551616 + lo) % y) := by
  simp only [bits_Div64.f]
  refine evNeg (by omega) (evNeg (by omega) (evIf (fun h => ?_) (fun h => ?_)))
  · subst h
    have d0 : 0 ≤ lo / y := Int.ediv_nonneg l0 (by omega)
    have d1 : lo / y ≤ lo := Int.ediv_le_self _ l0
    refine evNow ?_
    rw [Int.tdiv_eq_ediv_of_nonneg l0, Int.tmod_eq_emod_of_nonneg l0, w_id d0 (by omega)]
    simp
  · obtain ⟨n, ln, n1, n2, n3, n4⟩ := len_ev y (by omega) y1
    have hs : IntKind.u64.wrap (64 - (n : Int)) = 64 - n := w_id (by omega) (by omega)
    have hs2 : IntKind.u64.wrap (64 - (64 - (n : Int))) = n := by rw [w_id (by omega) (by omega)]; omega
    refine evBind ln ?_
    rw [hs, hs2]
    refine evPos (by omega) (evPos (by omega) ?_)
    have hP : (0 : Int) < 2 ^ (64 - n) := Int.pow_pos (by decide)
    have hR : (0 : Int) < 2 ^ n := Int.pow_pos (by decide)
    have hPR := pow_pair n n4
    have e1 : (64 - (n : Int)).toNat = 64 - n := by omega
    have e2 : min (64 - n) 64 = 64 - n := by omega
    have e3 : min n 64 = n := by omega
    have sh : ∀ x, shl .u64 x (64 - (n : Int)) = (x * 2 ^ (64 - n)) % 18446744073709551616 := by
      intro x
      unfold shl
      rw [IntKind.wrap_u64, e1, show IntKind.u64.bits = 64 from rfl, e2]
    have sr : ∀ x, shr .u64 x (n : Int) = x / 2 ^ n := by
      intro x
      unfold shr
      rw [show IntKind.u64.bits = 64 from rfl, Int.toNat_natCast, e3]
    have sr2 : ∀ x, shr .u64 x (64 - (n : Int)) = x / 2 ^ (64 - n) := by
      intro x
      unfold shr
      rw [e1, show IntKind.u64.bits = 64 from rfl, e2]
    rw [sh y, sh hi, sh lo, sr lo]
    generalize hPd : (2 : Int) ^ (64 - n) = P at *
    -- the divisor, laid left
    have yP0 : 9223372036854775808 ≤ y * P := by
      have a := Int.mul_le_mul_of_nonneg_right n2 (Int.le_of_lt hP)
      have b : (2 : Int) ^ (n - 1) * P = 9223372036854775808 := by
        have c : (2 : Int) ^ n = 2 ^ (n - 1) * 2 := by
          obtain ⟨m, rfl⟩ : ∃ m, n = m + 1 := ⟨n - 1, by omega⟩
          rw [Int.pow_succ]; rfl
        rw [c, Int.mul_right_comm] at hPR
        omega
      omega
    have yP1 : y * P < 18446744073709551616 := by
      have a := Int.mul_lt_mul_of_pos_right n1 hP
      omega
    have hiP : hi * P + P ≤ y * P := by
      have a := Int.mul_le_mul_of_nonneg_right (show hi + 1 ≤ y by omega) (Int.le_of_lt hP)
      rw [Int.add_mul, Int.one_mul] at a
      exact a
    have hiP0 : 0 ≤ hi * P := Int.mul_nonneg h0 (Int.le_of_lt hP)
    have loR0 : 0 ≤ lo / 2 ^ n := Int.ediv_nonneg l0 (Int.le_of_lt hR)
    have loR1 : lo / 2 ^ n < P := by
      apply Int.ediv_lt_of_lt_mul hR
      rw [Int.mul_comm]
      omega
    have hm : lo * P = (lo / 2 ^ n) * 18446744073709551616 + (lo * P) % 18446744073709551616 := by
      have a : lo * P / 18446744073709551616 = lo / 2 ^ n := by
        rw [← hPR]
        exact Int.mul_ediv_mul_of_pos_left _ _ hP
      rw [← a]
      omega
    rw [show y * P % 18446744073709551616 = y * P from Int.emod_eq_of_lt (by omega) yP1, show hi * P % 18446744073709551616 = hi * P from Int.emod_eq_of_lt hiP0 (by omega)]
    have hor : Go.bits .or .u64 (hi * P) (lo / 2 ^ n) = hi * P + lo / 2 ^ n := by
      refine or_join _ _ (64 - n) hiP0 ?_ (by omega) loR0 (by omega) (by omega)
      rw [hPd]
      exact Int.mul_emod_left _ _
    rw [hor, and_low (y * P) (by omega) yP1, and_low (lo * P % 18446744073709551616) (by omega) (by omega)]
    have key : (hi * 18446744073709551616 + lo) * P = (hi * P + lo / 2 ^ n) * 18446744073709551616 + lo * P % 18446744073709551616 := by
      rw [Int.add_mul, Int.add_mul, Int.mul_right_comm]
      omega
    have hdiv : (hi * 18446744073709551616 + lo) / y = ((hi * P + lo / 2 ^ n) * 18446744073709551616 + lo * P % 18446744073709551616) / (y * P) := by
      rw [← key]
      exact (Int.mul_ediv_mul_of_pos_left _ _ hP).symm
    have hmod : (hi * 18446744073709551616 + lo) % y = ((hi * P + lo / 2 ^ n) * 18446744073709551616 + lo * P % 18446744073709551616) % (y * P) / P := by
      rw [← key, emod_mul _ _ hP, Int.mul_ediv_cancel _ (Int.ne_of_gt hP)]
    rw [hdiv, hmod]
    generalize hun : hi * P + lo / 2 ^ n = un at *
    generalize hul : lo * P % 18446744073709551616 = ul at *
    have ul0 : 0 ≤ ul := by omega
    have ul1 : ul < 18446744073709551616 := by omega
    have un0 : 0 ≤ un := by omega
    have un1 : un < y * P := by omega
    generalize hY : y * P = Y at *
    clear hm key hdiv hmod hiP hiP0 loR0 loR1 hor sh sr hul hun e1 e2 e3 n1 n2 hY hs hs2
    have hY : Y = Y / 4294967296 * 4294967296 + Y % 4294967296 := by omega
    have a1 : 2147483648 ≤ Y / 4294967296 := by omega
    have a2 : Y / 4294967296 < 4294967296 := by omega
    have a3 : 0 ≤ Y % 4294967296 := by omega
    have a4 : Y % 4294967296 < 4294967296 := by omega
    have c0 : 0 ≤ ul / 4294967296 := by omega
    have c1 : ul / 4294967296 < 4294967296 := by omega
    have d0 : 0 ≤ ul % 4294967296 := by omega
    have d1 : ul % 4294967296 < 4294967296 := by omega
    refine evNeg (by omega) ?_
    have D1 := digit hY a1 a2 a3 a4 c0 c1 un0 un1
    have Y0 : 0 < Y := by omega
    have hQ1 : (un * 4294967296 + ul / 4294967296) / Y = (un * 4294967296 + ul / 4294967296) / Y := rfl
    have R1 := rem_word (c := ul / 4294967296) Y0 yP1 un0 c0 hQ1
    have r0 := Int.emod_nonneg (un * 4294967296 + ul / 4294967296) (Int.ne_of_gt Y0)
    have r1 := Int.emod_lt_of_pos (un * 4294967296 + ul / 4294967296) Y0
    have eq1 := Int.ediv_mul_add_emod (un * 4294967296 + ul / 4294967296) Y
    have D2 := digit hY a1 a2 a3 a4 d0 d1 r0 r1
    obtain ⟨g1, g2, ⟨m, g3⟩, g4, g5, g6, g7⟩ := digit_q D1
    obtain ⟨k1, k2, ⟨m2, k3⟩, k4, k5, k6, k7⟩ := digit_q D2
    have R2 := rem_word (c := ul % 4294967296) Y0 yP1 r0 d0 rfl
    have q10 := D1.q_nonneg
    have q11 := D1.q_lt
    have q20 := D2.q_nonneg
    have q21 := D2.q_lt
    rw [g1, g2]
    refine first_digit D1 ?_ m _ _ g3 g4 g5 g6 g7
    refine evShift ?_
    simp only [bits_Div64.j2]
    refine evNeg (by omega) ?_
    rw [R1, k1, k2]
    refine second_digit D2 (by omega) ?_ m2 _ _ k3 k4 k5 k6 k7
    rw [R2, sr2]
    generalize hq1 : (un * 4294967296 + ul / 4294967296) / Y = q1 at *
    generalize hr1 : (un * 4294967296 + ul / 4294967296) % Y = ρ at *
    have eq2 := Int.ediv_mul_add_emod (ρ * 4294967296 + ul % 4294967296) Y
    have s0 := Int.emod_nonneg (ρ * 4294967296 + ul % 4294967296) (Int.ne_of_gt Y0)
    have s1 := Int.emod_lt_of_pos (ρ * 4294967296 + ul % 4294967296) Y0
    generalize hq2 : (ρ * 4294967296 + ul % 4294967296) / Y = q2 at *
    generalize hr2 : (ρ * 4294967296 + ul % 4294967296) % Y = σ at *
    rw [w_id (x := q1 * 4294967296) (by omega) (by omega), w_id (by omega) (by omega)]
    have all : un * 18446744073709551616 + ul = σ + (q1 * 4294967296 + q2) * Y := by
      rw [Int.add_mul, Int.mul_right_comm]
      omega
    rw [all, Int.add_mul_ediv_right _ _ (Int.ne_of_gt Y0), Int.add_mul_emod_self_right, Int.ediv_eq_zero_of_lt s0 s1, Int.emod_eq_of_lt s0 s1, Int.zero_add]
end Go.Proofs.Ytakhjhiofmgpnaa.E
/- exact.MulDiv as printed. -/
namespace Go.Proofs.Ytakhjhiofmgpnaa.E
set_option linter.unusedVariables false
set_option linter.unusedSimpArgs false
open Go.RowKit Go.Proofs.YtakhjhiofmgpnaaW.PrintWords Go.Proofs.YtakhjhiofmgpnaaW.PrintLast Go.Proofs.YtakhjhiofmgpnaaW.PrintMore Go.Proofs.Ytakhjhiofmgpnaa.PA
/-- Is a quotient rounded up? -/
def goesUp (q r c m : Int) : Bool := if m = 1 then decide (r > 0) else if m = 2 then decide (r ≥ c - r) else if m = 3 then (decide (r > c - r) || (decide (r = c - r) && decide (q % 2 = 1))) else false
theorem above_some (q r c m : Int) (q0 : 0 ≤ q) (r0 : 0 ≤ r) (r1 : r < c) (c1 : c < 18446744073709551616) : exact_above.f q r c m = some (goesUp q r c m) := by
  unfold exact_above.f exact_order.f goesUp
  rw [w_id (x := c - r) (by omega) (by omega), Int.tmod_eq_emod_of_nonneg q0]
  obtain ⟨o, ho, h1, h2⟩ : ∃ o : Int, (if r < c - r then some (-1 : Int) else if r > c - r then some 1 else some 0) = some o ∧ ((o ≥ 0) = (r ≥ c - r)) ∧ ((o > 0) = (r > c - r)) ∧ ((o = 0) = (r = c - r)) := by
    rcases Int.lt_trichotomy r (c - r) with h | h | h
    · exact ⟨-1, by rw [if_pos h], by apply propext; omega, by apply propext; omega, by apply propext; omega⟩
    · exact ⟨0, by rw [if_neg (by omega), if_neg (by omega)], by apply propext; omega, by apply propext; omega, by apply propext; omega⟩
    · exact ⟨1, by rw [if_neg (by omega), if_pos h], by apply propext; omega, by apply propext; omega, by apply propext; omega⟩
  rw [ho]
  simp only [Option.bind_some, h1, h2]
  by_cases m1 : m = 1
  · simp [m1]
  · by_cases m2 : m = 2
    · simp [m2]
    · by_cases m3 : m = 3
      · subst m3
        by_cases g : r > c - r
        · simp [g]
        · by_cases g2 : r = c - r
          · rw [if_neg m1, if_neg m2, if_pos rfl, if_neg g, if_pos g2]
            simp only [g, decide_eq_true g2]
            simp only [decide_false, Bool.true_and, Bool.false_or]
            rfl
          · simp [g, g2]
      · simp [m1, m2, m3]
/-- The product's quotient, rounded. -/
def rounded (p c m : Int) : Int := if goesUp (p / c) (p % c) c m = true then p / c + 1 else p / c
theorem muldiv_ev (a b c m : Int) (a0 : 0 ≤ a) (a1 : a < 18446744073709551616) (b0 : 0 ≤ b) (b1 : b < 18446744073709551616) (c0 : 0 < c) (c1 : c < 18446744073709551616) (m0 : 0 ≤ m) (m1 : m ≤ 3)
    (hr : rounded (a * b) c m < 18446744073709551616) : Ev (fun k => exact_MulDiv.f k a b c m) (rounded (a * b) c m, 0) := by
  have p0 := Int.mul_nonneg a0 b0
  have hq : a * b / c < 18446744073709551616 := by
    unfold rounded at hr
    split at hr <;> omega
  have q0 : 0 ≤ a * b / c := Int.ediv_nonneg p0 (Int.le_of_lt c0)
  have r0 := Int.emod_nonneg (a * b) (Int.ne_of_gt c0)
  have r1 := Int.emod_lt_of_pos (a * b) c0
  have hp : a * b < 18446744073709551616 * c := Int.lt_mul_of_ediv_lt c0 hq
  have hhi : a * b / 18446744073709551616 < c := by omega
  simp only [exact_MulDiv.f, exact_Mul.f, mul64_some a b a0 a1 b0 b1]
  refine evBind0 rfl (evBind (a := (rounded (a * b) c m, 0)) ?_ (evNow rfl))
  simp only [exact_Div.f]
  refine evNeg (by omega) (evNeg (by omega) ?_)
  have e : decide (m > 3) = false := by simp; omega
  rw [e]
  refine evShift ?_
  simp only [exact_Div.j0]
  refine evNeg (by simp) (evNeg (by omega) ?_)
  refine evBind (div64_ev _ _ c (by omega) hhi (by omega) (by omega) c1) ?_
  have es : a * b / 18446744073709551616 * 18446744073709551616 + a * b % 18446744073709551616 = a * b := Int.ediv_mul_add_emod _ _
  rw [es]
  refine evBind0 (above_some _ _ c m q0 r0 r1 c1) ?_
  unfold rounded at hr ⊢
  refine evIf (fun h => ?_) (fun h => ?_)
  · rw [if_pos h] at hr ⊢
    rw [w_id (by omega) hr]
    exact evNeg (by omega) (evNow rfl)
  · rw [if_neg h] at hr ⊢
    exact evNow rfl
end Go.Proofs.Ytakhjhiofmgpnaa.E
-- Written by a program of this claim (wip/tools: mkprint.py, pr.sh) out of the translation: plain functions and their contracts. Lean checks every line.
namespace Go.Proofs.Ytakhjhiofmgpnaa.PA
open Go.RowKit Go.Proofs.YtakhjhiofmgpnaaW.PrintWords Go.Proofs.YtakhjhiofmgpnaaW.PrintLast Go.Proofs.YtakhjhiofmgpnaaW.PrintMore Go.Proofs.Ytakhjhiofmgpnaa.G
attribute [local go_sem] max2_int min2_int max_two min_two max_three min_three max_four min_four   -- for this text's walks alone
set_option linter.unusedVariables false
set_option linter.unusedSimpArgs false
mutual
def customsref21_ValidGuarantee.j0 : Nat → Bool → Int → Int → Int → List (S39) → Option (Int)
 | 0, _, _, _, _, _ => none
 | k + 1, x34, x193000, x193001, x193002, x193003 => if x34 = true then (some 2) else (if (x193003.length : Int) > 64 then (some 8) else (customsref21_ValidGuarantee.l0 k 0 0 x193000 x193001 x193002 x193003))
def customsref21_ValidGuarantee.l0 : Nat → Int → Int → Int → Int → Int → List (S39) → Option (Int)
 | 0, _, _, _, _, _, _ => none
 | k + 1, x3, x4, x193000, x193001, x193002, x193003 => if x4 < (x193003.length : Int) then (if 0 ≤ x4 then (if ((rd_T39 x193003 x4).f0) < 1 then (some 2) else (if ((rd_T39 x193003 x4).f0) > 1000000 then (some 2) else (if ((rd_T39 x193003 x4).f1) < 0 then (some 2) else (if ((rd_T39 x193003 x4).f1) > 1000000000000 then (some 2) else (customsref21_ValidGuarantee.l0 k (wrap64 (x3 + ((rd_T39 x193003 x4).f1))) (wrap64 (x4 + 1)) x193000 x193001 x193002 x193003))))) else (none)) else (customsref21_ValidGuarantee.l1 k x3 1 x193000 x193001 x193002 x193003)
def customsref21_ValidGuarantee.l1 : Nat → Int → Int → Int → Int → Int → List (S39) → Option (Int)
 | 0, _, _, _, _, _, _ => none
 | k + 1, x3, x6, x193000, x193001, x193002, x193003 => if x6 < (x193003.length : Int) then (if 0 ≤ x6 then (if 0 ≤ (wrap64 (x6 - 1)) then (if (wrap64 (x6 - 1)) < (x193003.length : Int) then (if ((rd_T39 x193003 x6).f0) ≤ ((rd_T39 x193003 (wrap64 (x6 - 1))).f0) then (some 9) else (customsref21_ValidGuarantee.l1 k x3 (wrap64 (x6 + 1)) x193000 x193001 x193002 x193003)) else (none)) else (none)) else (none)) else (if x3 > x193001 then (some 16) else (some 0))
end
def customsref21_ValidGuarantee.f (k : Nat) (a0_0 : Int) (a0_1 : Int) (a0_2 : Int) (l0_3 : List (S39)) : Option (Int) := if a0_0 < 1 then (customsref21_ValidGuarantee.j0 k true a0_0 a0_1 a0_2 l0_3) else (if a0_0 > 1000000 then (customsref21_ValidGuarantee.j0 k true a0_0 a0_1 a0_2 l0_3) else (if a0_1 < 0 then (customsref21_ValidGuarantee.j0 k true a0_0 a0_1 a0_2 l0_3) else (if a0_1 > 1000000000000 then (customsref21_ValidGuarantee.j0 k true a0_0 a0_1 a0_2 l0_3) else (if a0_2 < 0 then (customsref21_ValidGuarantee.j0 k true a0_0 a0_1 a0_2 l0_3) else (customsref21_ValidGuarantee.j0 k (decide (a0_2 > 1000000)) a0_0 a0_1 a0_2 l0_3)))))
set_option maxHeartbeats 8000000 in
set_option maxRecDepth 100000 in
theorem customsref21_ValidGuarantee.calls (k : Nat) (a0_0 : Int) (a0_1 : Int) (a0_2 : Int) (A0_3 : Option Addr) (c0_3 : Nat) (l0_3 : List (S39)) (r : Int) (w : World) (hr0_3 : Kd.C k39 w A0_3 l0_3.length l0_3) (hc0_3 : l0_3.length ≤ c0_3) (h : customsref21_ValidGuarantee.f k a0_0 a0_1 a0_2 l0_3 = some r) :
  Calls Try.prog 12 #[.agg #[.int .i64 a0_0, .int .i64 a0_1, .int .i64 a0_2, .slice A0_3 l0_3.length c0_3]] w fun e w' => e = .returned (.int .i64 r) ∧ Below w.heap.size w w' := by
 have hu25 := Try.underlying25
 have hu39 := Try.underlying39
 have HR0_3 := Aside0.mk hr0_3
 have HC0_3 := Aside0.mk hc0_3
 clear hr0_3 hc0_3
 have HB := Aside0.mk (Below.refl w.heap.size w)
 have H : (if a0_0 < 1 then (customsref21_ValidGuarantee.j0 k true a0_0 a0_1 a0_2 l0_3) else (if a0_0 > 1000000 then (customsref21_ValidGuarantee.j0 k true a0_0 a0_1 a0_2 l0_3) else (if a0_1 < 0 then (customsref21_ValidGuarantee.j0 k true a0_0 a0_1 a0_2 l0_3) else (if a0_1 > 1000000000000 then (customsref21_ValidGuarantee.j0 k true a0_0 a0_1 a0_2 l0_3) else (if a0_2 < 0 then (customsref21_ValidGuarantee.j0 k true a0_0 a0_1 a0_2 l0_3) else (customsref21_ValidGuarantee.j0 k (decide (a0_2 > 1000000)) a0_0 a0_1 a0_2 l0_3)))))) = some r := h
 clear h
 have HC2 := Aside0.mk H
 clear H
 go_enter Try.func12, Try.ntmps12
 go_upto_region 1 with (first | ((with_reducible refine gate_dst (N := 1) rfl ?_); refine box_event ?hg (N := 1) ?hd (cs := #[.int .i64 a0_0, .int .i64 a0_1, .int .i64 a0_2, .slice A0_3 l0_3.length c0_3]) (t := 25) ?hr ?_; (case hd => rfl); (case hg => rfl); (case hr => first | (go_simp; done) | (go_simp; rfl)); intro gb192 hg w3 hbox hb; have qb_ := below_both bel hb; have n0_ := Aside0.mk (qb_.1); have n1_ := Aside0.mk (hbox); have n2_ := Aside0.mk ((by rw [hg]; exact qb_.2 : w.heap.size ≤ gb192)); have n3_ := n2_; clear HB; have HB := n0_; have BK192 := n1_; have GW192 := n2_; have GE192 := n3_; clear qb_; clear n0_ n1_ n2_ n3_; clear hb hbox hg))
 repeat (go_quiet (first | ((with_reducible refine gate_dst (N := 1) rfl ?_); refine box_event ?hg (N := 1) ?hd (cs := #[.int .i64 a0_0, .int .i64 a0_1, .int .i64 a0_2, .slice A0_3 l0_3.length c0_3]) (t := 25) ?hr ?_; (case hd => rfl); (case hg => rfl); (case hr => first | (go_simp; done) | (go_simp; rfl)); intro gb192 hg w3 hbox hb; have qb_ := below_both bel hb; have n0_ := Aside0.mk (qb_.1); have n1_ := Aside0.mk (hbox); have n2_ := Aside0.mk ((by rw [hg]; exact qb_.2 : w.heap.size ≤ gb192)); have n3_ := n2_; clear HB; have HB := n0_; have BK192 := n1_; have GW192 := n2_; have GE192 := n3_; clear qb_; clear n0_ n1_ n2_ n3_; clear hb hbox hg)); go_upto_region 1 with (first | ((with_reducible refine gate_dst (N := 1) rfl ?_); refine box_event ?hg (N := 1) ?hd (cs := #[.int .i64 a0_0, .int .i64 a0_1, .int .i64 a0_2, .slice A0_3 l0_3.length c0_3]) (t := 25) ?hr ?_; (case hd => rfl); (case hg => rfl); (case hr => first | (go_simp; done) | (go_simp; rfl)); intro gb192 hg w3 hbox hb; have qb_ := below_both bel hb; have n0_ := Aside0.mk (qb_.1); have n1_ := Aside0.mk (hbox); have n2_ := Aside0.mk ((by rw [hg]; exact qb_.2 : w.heap.size ≤ gb192)); have n3_ := n2_; clear HB; have HB := n0_; have BK192 := n1_; have GW192 := n2_; have GE192 := n3_; clear qb_; clear n0_ n1_ n2_ n3_; clear hb hbox hg)))
 (try simp only [Act.put, List.setIfInBounds_toArray, List.set_cons_zero, List.set_cons_succ])
 go_cut [34] (fun v34 wc => ∃ (kq : Nat) (x34_1 : Bool), v34 = .bool x34_1 ∧ Aside0 (customsref21_ValidGuarantee.j0 kq x34_1 a0_0 a0_1 a0_2 l0_3 = some r) ∧ Aside0 (kq ≤ k) ∧ Aside0 (wc.heap[gb192]? = some (.cells #[.int .i64 a0_0, .int .i64 a0_1, .int .i64 a0_2, (.slice A0_3 l0_3.length c0_3)] 25 (0, 0))) ∧ Aside0 (Below w.heap.size w wc))
 case first =>
  have H := HC2.out
  clear HC2
  by_cases c4 : a0_0 < 1
  ·rw [if_pos c4] at H
   have c4b0 : decide (a0_0 < 1) = true := decide_eq_true c4
   clear c4
   (first | rw [c4b0] | (simp only [i64_w, i32_w]; rw [c4b0]) | skip)
   have H' := Aside0.mk H
   clear H
   obtain ⟨hcz5_0, hcz5_1, hcz5_2, hcz5_3, hfz5_0, hfz5_1, hfz5_2, hfz5_3⟩ := cells4 BK192.out
   go_wp2
   repeat (go_quiet (fail); try go_wp2)
   go_meet
   case rel => exact ⟨_, (true), (by first | rfl | (simp; done) | (simp [*]; done)), H', ⟨by first | omega | exact Nat.le_refl _⟩, ⟨by (with_reducible repeat (first | refine blk_drewN ?_ _ | refine blk_drew ?_ | refine blk_alloc ?_ _)); exact BK192.out⟩, ⟨bel⟩⟩
  ·rw [if_neg c4] at H
   have c4b0 : decide (a0_0 < 1) = false := decide_eq_false c4
   clear c4
   (first | rw [c4b0] | (simp only [i64_w, i32_w]; rw [c4b0]) | skip)
   by_cases c6 : a0_0 > 1000000
   ·rw [if_pos c6] at H
    have c6b0 : decide (1000000 < a0_0) = true := decide_eq_true c6
    clear c6
    have H' := Aside0.mk H
    clear H
    obtain ⟨hcz7_0, hcz7_1, hcz7_2, hcz7_3, hfz7_0, hfz7_1, hfz7_2, hfz7_3⟩ := cells4 BK192.out
    go_wp2
    repeat (go_quiet (fail); try go_wp2)
    go_meet
    case rel => exact ⟨_, (true), (by first | rfl | (simp; done) | (simp [*]; done)), H', ⟨by first | omega | exact Nat.le_refl _⟩, ⟨by (with_reducible repeat (first | refine blk_drewN ?_ _ | refine blk_drew ?_ | refine blk_alloc ?_ _)); exact BK192.out⟩, ⟨bel⟩⟩
   ·rw [if_neg c6] at H
    have c6b0 : decide (1000000 < a0_0) = false := decide_eq_false c6
    clear c6
    by_cases c8 : a0_1 < 0
    ·rw [if_pos c8] at H
     have c8b0 : decide (a0_1 < 0) = true := decide_eq_true c8
     clear c8
     have H' := Aside0.mk H
     clear H
     obtain ⟨hcz9_0, hcz9_1, hcz9_2, hcz9_3, hfz9_0, hfz9_1, hfz9_2, hfz9_3⟩ := cells4 BK192.out
     go_wp2
     repeat (go_quiet (fail); try go_wp2)
     go_meet
     case rel => exact ⟨_, (true), (by first | rfl | (simp; done) | (simp [*]; done)), H', ⟨by first | omega | exact Nat.le_refl _⟩, ⟨by (with_reducible repeat (first | refine blk_drewN ?_ _ | refine blk_drew ?_ | refine blk_alloc ?_ _)); exact BK192.out⟩, ⟨bel⟩⟩
    ·rw [if_neg c8] at H
     have c8b0 : decide (a0_1 < 0) = false := decide_eq_false c8
     clear c8
     by_cases c10 : a0_1 > 1000000000000
     ·rw [if_pos c10] at H
      have c10b0 : decide (1000000000000 < a0_1) = true := decide_eq_true c10
      clear c10
      have H' := Aside0.mk H
      clear H
      obtain ⟨hcz11_0, hcz11_1, hcz11_2, hcz11_3, hfz11_0, hfz11_1, hfz11_2, hfz11_3⟩ := cells4 BK192.out
      go_wp2
      repeat (go_quiet (fail); try go_wp2)
      go_meet
      case rel => exact ⟨_, (true), (by first | rfl | (simp; done) | (simp [*]; done)), H', ⟨by first | omega | exact Nat.le_refl _⟩, ⟨by (with_reducible repeat (first | refine blk_drewN ?_ _ | refine blk_drew ?_ | refine blk_alloc ?_ _)); exact BK192.out⟩, ⟨bel⟩⟩
     ·rw [if_neg c10] at H
      have c10b0 : decide (1000000000000 < a0_1) = false := decide_eq_false c10
      clear c10
      by_cases c12 : a0_2 < 0
      ·rw [if_pos c12] at H
       have c12b0 : decide (a0_2 < 0) = true := decide_eq_true c12
       clear c12
       have H' := Aside0.mk H
       clear H
       obtain ⟨hcz13_0, hcz13_1, hcz13_2, hcz13_3, hfz13_0, hfz13_1, hfz13_2, hfz13_3⟩ := cells4 BK192.out
       go_wp2
       repeat (go_quiet (fail); try go_wp2)
       go_meet
       case rel => exact ⟨_, (true), (by first | rfl | (simp; done) | (simp [*]; done)), H', ⟨by first | omega | exact Nat.le_refl _⟩, ⟨by (with_reducible repeat (first | refine blk_drewN ?_ _ | refine blk_drew ?_ | refine blk_alloc ?_ _)); exact BK192.out⟩, ⟨bel⟩⟩
      ·rw [if_neg c12] at H
       have c12b0 : decide (a0_2 < 0) = false := decide_eq_false c12
       clear c12
       have H' := Aside0.mk H
       clear H
       obtain ⟨hcz14_0, hcz14_1, hcz14_2, hcz14_3, hfz14_0, hfz14_1, hfz14_2, hfz14_3⟩ := cells4 BK192.out
       go_wp2
       repeat (go_quiet (fail); try go_wp2)
       go_meet
       case rel => exact ⟨_, (decide (a0_2 > 1000000)), (by first | rfl | (simp; done) | (simp [*]; done)), H', ⟨by first | omega | exact Nat.le_refl _⟩, ⟨by (with_reducible repeat (first | refine blk_drewN ?_ _ | refine blk_drew ?_ | refine blk_alloc ?_ _)); exact BK192.out⟩, ⟨bel⟩⟩
 case rest =>
  clear HC2
  try clear c1
  try clear p2
  try clear c4
  try clear c4b0
  try clear c6
  try clear c6b0
  try clear c8
  try clear c8b0
  try clear c10
  try clear c10b0
  try clear c12
  try clear c12b0
  try clear hcz11_0
  try clear hcz11_1
  try clear hcz11_2
  try clear hcz11_3
  try clear hcz13_0
  try clear hcz13_1
  try clear hcz13_2
  try clear hcz13_3
  try clear hcz14_0
  try clear hcz14_1
  try clear hcz14_2
  try clear hcz14_3
  try clear hcz5_0
  try clear hcz5_1
  try clear hcz5_2
  try clear hcz5_3
  try clear hcz7_0
  try clear hcz7_1
  try clear hcz7_2
  try clear hcz7_3
  try clear hcz9_0
  try clear hcz9_1
  try clear hcz9_2
  try clear hcz9_3
  try clear hfz11_0
  try clear hfz11_1
  try clear hfz11_2
  try clear hfz11_3
  try clear hfz13_0
  try clear hfz13_1
  try clear hfz13_2
  try clear hfz13_3
  try clear hfz14_0
  try clear hfz14_1
  try clear hfz14_2
  try clear hfz14_3
  try clear hfz5_0
  try clear hfz5_1
  try clear hfz5_2
  try clear hfz5_3
  try clear hfz7_0
  try clear hfz7_1
  try clear hfz7_2
  try clear hfz7_3
  try clear hfz9_0
  try clear hfz9_1
  try clear hfz9_2
  try clear hfz9_3
  obtain ⟨kq, x34_1, rfl, HA, HJ1, BK192, HB⟩ := hcut
  cases kq with
  | zero => exact absurd HA.out (by simp [customsref21_ValidGuarantee.j0])
  | succ kj1 =>
   have H := HA.out
   clear HA
   simp only [customsref21_ValidGuarantee.j0] at H
   by_cases c15 : x34_1 = true
   ·subst c15
    have H1 : (some 2) = some r := by rw [if_pos rfl] at H; exact H
    clear H
    have H := H1
    clear H1
    obtain rfl := Option.some.inj H
    go_wp2
    repeat (go_quiet (fail); try go_wp2)
    go_ret
    exact ⟨by first | rfl | (simp [errW_none, errW_some] <;> rfl) | (simp [*, errW_none, errW_some] <;> rfl), bel⟩
   ·replace c15 := Bool.eq_false_iff.mpr c15
    subst c15
    have H1 : (if (l0_3.length : Int) > 64 then (some 8) else (customsref21_ValidGuarantee.l0 kj1 0 0 a0_0 a0_1 a0_2 l0_3)) = some r := by rw [if_neg (show ¬ (false = true) by decide)] at H; exact H
    clear H
    have H := H1
    clear H1
    by_cases c16 : (l0_3.length : Int) > 64
    ·rw [if_pos c16] at H
     have c16b0 : decide (64 < (l0_3.length : Int)) = true := decide_eq_true c16
     have c16b1 : decide (64 < l0_3.length) = true := decide_eq_true (by omega)
     clear c16
     obtain rfl := Option.some.inj H
     obtain ⟨hcz17_0, hcz17_1, hcz17_2, hcz17_3, hfz17_0, hfz17_1, hfz17_2, hfz17_3⟩ := cells4 BK192.out
     go_wp2
     repeat (go_quiet (fail); try go_wp2)
     go_ret
     exact ⟨by first | rfl | (simp [errW_none, errW_some] <;> rfl) | (simp [*, errW_none, errW_some] <;> rfl), bel⟩
    ·rw [if_neg c16] at H
     have c16b0 : decide (64 < (l0_3.length : Int)) = false := decide_eq_false c16
     have c16b1 : decide (64 < l0_3.length) = false := decide_eq_false (by omega)
     clear c16
     have H' := Aside0.mk H
     clear H
     obtain ⟨hcz18_0, hcz18_1, hcz18_2, hcz18_3, hfz18_0, hfz18_1, hfz18_2, hfz18_3⟩ := cells4 BK192.out
     go_wp2
     repeat (go_quiet (fail); try go_wp2)
     go_loopg [3, 4] kj1 (fun kq v3 v4 w' => ∃ (x3_2 : Int) (x4_2 : Int), v3 = .int .i64 x3_2 ∧ v4 = .int .i64 x4_2 ∧ Aside0 (customsref21_ValidGuarantee.l0 kq x3_2 x4_2 a0_0 a0_1 a0_2 l0_3 = some r) ∧ Aside0 (kq ≤ kj1) ∧ Aside0 (w'.heap[gb192]? = some (.cells #[.int .i64 a0_0, .int .i64 a0_1, .int .i64 a0_2, (.slice A0_3 l0_3.length c0_3)] 25 (0, 0))) ∧ Aside0 (Below w.heap.size w w'))
     case atStart => exact ⟨(0), (0), (by first | rfl | (simp; done) | (simp [*]; done)), (by first | rfl | (simp; done) | (simp [*]; done)), H', ⟨Nat.le_refl _⟩, ⟨by (with_reducible repeat (first | refine blk_drewN ?_ _ | refine blk_drew ?_ | refine blk_alloc ?_ _)); exact BK192.out⟩, ⟨bel⟩⟩
     case round =>
      clear H'
      try clear c1
      try clear p2
      try clear c4
      try clear c4b0
      try clear c6
      try clear c6b0
      try clear c8
      try clear c8b0
      try clear c10
      try clear c10b0
      try clear c12
      try clear c12b0
      try clear c15
      try clear c16
      try clear c16b0
      try clear c16b1
      try clear hcz11_0
      try clear hcz11_1
      try clear hcz11_2
      try clear hcz11_3
      try clear hcz13_0
      try clear hcz13_1
      try clear hcz13_2
      try clear hcz13_3
      try clear hcz14_0
      try clear hcz14_1
      try clear hcz14_2
      try clear hcz14_3
      try clear hcz17_0
      try clear hcz17_1
      try clear hcz17_2
      try clear hcz17_3
      try clear hcz18_0
      try clear hcz18_1
      try clear hcz18_2
      try clear hcz18_3
      try clear hcz5_0
      try clear hcz5_1
      try clear hcz5_2
      try clear hcz5_3
      try clear hcz7_0
      try clear hcz7_1
      try clear hcz7_2
      try clear hcz7_3
      try clear hcz9_0
      try clear hcz9_1
      try clear hcz9_2
      try clear hcz9_3
      try clear hfz11_0
      try clear hfz11_1
      try clear hfz11_2
      try clear hfz11_3
      try clear hfz13_0
      try clear hfz13_1
      try clear hfz13_2
      try clear hfz13_3
      try clear hfz14_0
      try clear hfz14_1
      try clear hfz14_2
      try clear hfz14_3
      try clear hfz17_0
      try clear hfz17_1
      try clear hfz17_2
      try clear hfz17_3
      try clear hfz18_0
      try clear hfz18_1
      try clear hfz18_2
      try clear hfz18_3
      try clear hfz5_0
      try clear hfz5_1
      try clear hfz5_2
      try clear hfz5_3
      try clear hfz7_0
      try clear hfz7_1
      try clear hfz7_2
      try clear hfz7_3
      try clear hfz9_0
      try clear hfz9_1
      try clear hfz9_2
      try clear hfz9_3
      try clear p2
      obtain ⟨x3_2, x4_2, rfl, rfl, HA, HK2, BK192, HB⟩ := hrel
      cases gk with
      | zero => exact absurd HA.out (by simp [customsref21_ValidGuarantee.l0])
      | succ k2 =>
       have H := HA.out
       clear HA
       simp only [customsref21_ValidGuarantee.l0] at H
       by_cases c19 : x4_2 < (l0_3.length : Int)
       ·rw [if_pos c19] at H
        have c19b0 : decide (x4_2 < (l0_3.length : Int)) = true := decide_eq_true c19
        clear c19
        by_cases c20 : 0 ≤ x4_2
        ·rw [if_pos c20] at H
         have c20b0 : decide (0 ≤ x4_2) = true := decide_eq_true c20
         clear c20
         by_cases c21 : ((rd_T39 l0_3 x4_2).f0) < 1
         ·rw [if_pos c21] at H
          have c21b0 : decide (((rd_T39 l0_3 x4_2).f0) < 1) = true := decide_eq_true c21
          clear c21
          obtain rfl := Option.some.inj H
          obtain ⟨hcz22_0, hcz22_1, hcz22_2, hcz22_3, hfz22_0, hfz22_1, hfz22_2, hfz22_3⟩ := cells4 BK192.out
          have p193 : 0 ≤ (x4_2 : Int) := of_decide_eq_true (by first | (with_reducible assumption) | assumption)
          have q193 : x4_2 < (l0_3.length : Int) := of_decide_eq_true (by first | (with_reducible assumption) | assumption)
          obtain ⟨ad193, e193, hx193_0, hx193_1⟩ := at_T39 HR0_3.out x4_2 p193 q193
          cases e193
          replace hx193_0 := (HB.out.cell (World.block_lt_of_cell? w _ hx193_0)).trans hx193_0
          replace hx193_1 := (HB.out.cell (World.block_lt_of_cell? w _ hx193_1)).trans hx193_1
          replace p193 := eq_true p193
          replace q193 := eq_true q193
          go_wp2_with (first | ((with_reducible refine gate_dst (N := 5) rfl ?_); refine box_event ?hg (N := 5) ?hd (cs := #[.int .i64 0, .int .i64 0]) (t := 39) ?hr ?_; (case hd => rfl); (case hg => rfl); (case hr => first | (go_simp; done) | (go_simp; rfl)); intro gb194 hg w23 hbox hb; have qb_ := below_both bel hb; have q1_ := blk_below2 (g := gb192) (o := .cells #[.int .i64 a0_0, .int .i64 a0_1, .int .i64 a0_2, .slice (some ad193) l0_3.length c0_3] 25 (0, 0)) blkx hb; have n0_ := Aside0.mk (q1_.1); have n1_ := Aside0.mk (qb_.1); have n2_ := Aside0.mk (hbox); have n3_ := Aside0.mk ((by rw [hg]; exact qb_.2 : w.heap.size ≤ gb194)); have n4_ := n3_; have n5_ := Aside0.mk ((by rw [hg]; exact Nat.ne_of_lt q1_.2 : gb192 ≠ gb194)); have n6_ := Aside0.mk (Ne.symm n5_.out); clear BK192; clear HB; have BK192 := n0_; have HB := n1_; have BK194 := n2_; have GW194 := n3_; have GE194 := n4_; have NB192_194 := n5_; have NB194_192 := n6_; clear q1_; clear qb_; clear n0_ n1_ n2_ n3_ n4_ n5_ n6_; clear hb hbox hg; have hnb24 := NB194_192.out; have hnc24 := NB192_194.out; obtain ⟨hcz25_0, hcz25_1, hfz25_0, hfz25_1⟩ := cells2 BK194.out))
          repeat (go_quiet (first | ((with_reducible refine gate_dst (N := 5) rfl ?_); refine box_event ?hg (N := 5) ?hd (cs := #[.int .i64 0, .int .i64 0]) (t := 39) ?hr ?_; (case hd => rfl); (case hg => rfl); (case hr => first | (go_simp; done) | (go_simp; rfl)); intro gb194 hg w23 hbox hb; have qb_ := below_both bel hb; have q1_ := blk_below2 (g := gb192) (o := .cells #[.int .i64 a0_0, .int .i64 a0_1, .int .i64 a0_2, .slice (some ad193) l0_3.length c0_3] 25 (0, 0)) blkx hb; have n0_ := Aside0.mk (q1_.1); have n1_ := Aside0.mk (qb_.1); have n2_ := Aside0.mk (hbox); have n3_ := Aside0.mk ((by rw [hg]; exact qb_.2 : w.heap.size ≤ gb194)); have n4_ := n3_; have n5_ := Aside0.mk ((by rw [hg]; exact Nat.ne_of_lt q1_.2 : gb192 ≠ gb194)); have n6_ := Aside0.mk (Ne.symm n5_.out); clear BK192; clear HB; have BK192 := n0_; have HB := n1_; have BK194 := n2_; have GW194 := n3_; have GE194 := n4_; have NB192_194 := n5_; have NB194_192 := n6_; clear q1_; clear qb_; clear n0_ n1_ n2_ n3_ n4_ n5_ n6_; clear hb hbox hg; have hnb24 := NB194_192.out; have hnc24 := NB192_194.out; obtain ⟨hcz25_0, hcz25_1, hfz25_0, hfz25_1⟩ := cells2 BK194.out)); try go_wp2_with (first | ((with_reducible refine gate_dst (N := 5) rfl ?_); refine box_event ?hg (N := 5) ?hd (cs := #[.int .i64 0, .int .i64 0]) (t := 39) ?hr ?_; (case hd => rfl); (case hg => rfl); (case hr => first | (go_simp; done) | (go_simp; rfl)); intro gb194 hg w23 hbox hb; have qb_ := below_both bel hb; have q1_ := blk_below2 (g := gb192) (o := .cells #[.int .i64 a0_0, .int .i64 a0_1, .int .i64 a0_2, .slice (some ad193) l0_3.length c0_3] 25 (0, 0)) blkx hb; have n0_ := Aside0.mk (q1_.1); have n1_ := Aside0.mk (qb_.1); have n2_ := Aside0.mk (hbox); have n3_ := Aside0.mk ((by rw [hg]; exact qb_.2 : w.heap.size ≤ gb194)); have n4_ := n3_; have n5_ := Aside0.mk ((by rw [hg]; exact Nat.ne_of_lt q1_.2 : gb192 ≠ gb194)); have n6_ := Aside0.mk (Ne.symm n5_.out); clear BK192; clear HB; have BK192 := n0_; have HB := n1_; have BK194 := n2_; have GW194 := n3_; have GE194 := n4_; have NB192_194 := n5_; have NB194_192 := n6_; clear q1_; clear qb_; clear n0_ n1_ n2_ n3_ n4_ n5_ n6_; clear hb hbox hg; have hnb24 := NB194_192.out; have hnc24 := NB192_194.out; obtain ⟨hcz25_0, hcz25_1, hfz25_0, hfz25_1⟩ := cells2 BK194.out)))
          go_ret
          exact ⟨by first | rfl | (simp [errW_none, errW_some] <;> rfl) | (simp [*, errW_none, errW_some] <;> rfl), bel⟩
         ·rw [if_neg c21] at H
          have c21b0 : decide (((rd_T39 l0_3 x4_2).f0) < 1) = false := decide_eq_false c21
          clear c21
          by_cases c26 : ((rd_T39 l0_3 x4_2).f0) > 1000000
          ·rw [if_pos c26] at H
           have c26b0 : decide (1000000 < ((rd_T39 l0_3 x4_2).f0)) = true := decide_eq_true c26
           clear c26
           obtain rfl := Option.some.inj H
           obtain ⟨hcz27_0, hcz27_1, hcz27_2, hcz27_3, hfz27_0, hfz27_1, hfz27_2, hfz27_3⟩ := cells4 BK192.out
           have p193 : 0 ≤ (x4_2 : Int) := of_decide_eq_true (by first | (with_reducible assumption) | assumption)
           have q193 : x4_2 < (l0_3.length : Int) := of_decide_eq_true (by first | (with_reducible assumption) | assumption)
           obtain ⟨ad193, e193, hx193_0, hx193_1⟩ := at_T39 HR0_3.out x4_2 p193 q193
           cases e193
           replace hx193_0 := (HB.out.cell (World.block_lt_of_cell? w _ hx193_0)).trans hx193_0
           replace hx193_1 := (HB.out.cell (World.block_lt_of_cell? w _ hx193_1)).trans hx193_1
           replace p193 := eq_true p193
           replace q193 := eq_true q193
           go_wp2_with (first | ((with_reducible refine gate_dst (N := 5) rfl ?_); refine box_event ?hg (N := 5) ?hd (cs := #[.int .i64 0, .int .i64 0]) (t := 39) ?hr ?_; (case hd => rfl); (case hg => rfl); (case hr => first | (go_simp; done) | (go_simp; rfl)); intro gb194 hg w28 hbox hb; have qb_ := below_both bel hb; have q1_ := blk_below2 (g := gb192) (o := .cells #[.int .i64 a0_0, .int .i64 a0_1, .int .i64 a0_2, .slice (some ad193) l0_3.length c0_3] 25 (0, 0)) blkx hb; have n0_ := Aside0.mk (q1_.1); have n1_ := Aside0.mk (qb_.1); have n2_ := Aside0.mk (hbox); have n3_ := Aside0.mk ((by rw [hg]; exact qb_.2 : w.heap.size ≤ gb194)); have n4_ := n3_; have n5_ := Aside0.mk ((by rw [hg]; exact Nat.ne_of_lt q1_.2 : gb192 ≠ gb194)); have n6_ := Aside0.mk (Ne.symm n5_.out); clear BK192; clear HB; have BK192 := n0_; have HB := n1_; have BK194 := n2_; have GW194 := n3_; have GE194 := n4_; have NB192_194 := n5_; have NB194_192 := n6_; clear q1_; clear qb_; clear n0_ n1_ n2_ n3_ n4_ n5_ n6_; clear hb hbox hg; have hnb29 := NB194_192.out; have hnc29 := NB192_194.out; obtain ⟨hcz30_0, hcz30_1, hfz30_0, hfz30_1⟩ := cells2 BK194.out))
           repeat (go_quiet (first | ((with_reducible refine gate_dst (N := 5) rfl ?_); refine box_event ?hg (N := 5) ?hd (cs := #[.int .i64 0, .int .i64 0]) (t := 39) ?hr ?_; (case hd => rfl); (case hg => rfl); (case hr => first | (go_simp; done) | (go_simp; rfl)); intro gb194 hg w28 hbox hb; have qb_ := below_both bel hb; have q1_ := blk_below2 (g := gb192) (o := .cells #[.int .i64 a0_0, .int .i64 a0_1, .int .i64 a0_2, .slice (some ad193) l0_3.length c0_3] 25 (0, 0)) blkx hb; have n0_ := Aside0.mk (q1_.1); have n1_ := Aside0.mk (qb_.1); have n2_ := Aside0.mk (hbox); have n3_ := Aside0.mk ((by rw [hg]; exact qb_.2 : w.heap.size ≤ gb194)); have n4_ := n3_; have n5_ := Aside0.mk ((by rw [hg]; exact Nat.ne_of_lt q1_.2 : gb192 ≠ gb194)); have n6_ := Aside0.mk (Ne.symm n5_.out); clear BK192; clear HB; have BK192 := n0_; have HB := n1_; have BK194 := n2_; have GW194 := n3_; have GE194 := n4_; have NB192_194 := n5_; have NB194_192 := n6_; clear q1_; clear qb_; clear n0_ n1_ n2_ n3_ n4_ n5_ n6_; clear hb hbox hg; have hnb29 := NB194_192.out; have hnc29 := NB192_194.out; obtain ⟨hcz30_0, hcz30_1, hfz30_0, hfz30_1⟩ := cells2 BK194.out)); try go_wp2_with (first | ((with_reducible refine gate_dst (N := 5) rfl ?_); refine box_event ?hg (N := 5) ?hd (cs := #[.int .i64 0, .int .i64 0]) (t := 39) ?hr ?_; (case hd => rfl); (case hg => rfl); (case hr => first | (go_simp; done) | (go_simp; rfl)); intro gb194 hg w28 hbox hb; have qb_ := below_both bel hb; have q1_ := blk_below2 (g := gb192) (o := .cells #[.int .i64 a0_0, .int .i64 a0_1, .int .i64 a0_2, .slice (some ad193) l0_3.length c0_3] 25 (0, 0)) blkx hb; have n0_ := Aside0.mk (q1_.1); have n1_ := Aside0.mk (qb_.1); have n2_ := Aside0.mk (hbox); have n3_ := Aside0.mk ((by rw [hg]; exact qb_.2 : w.heap.size ≤ gb194)); have n4_ := n3_; have n5_ := Aside0.mk ((by rw [hg]; exact Nat.ne_of_lt q1_.2 : gb192 ≠ gb194)); have n6_ := Aside0.mk (Ne.symm n5_.out); clear BK192; clear HB; have BK192 := n0_; have HB := n1_; have BK194 := n2_; have GW194 := n3_; have GE194 := n4_; have NB192_194 := n5_; have NB194_192 := n6_; clear q1_; clear qb_; clear n0_ n1_ n2_ n3_ n4_ n5_ n6_; clear hb hbox hg; have hnb29 := NB194_192.out; have hnc29 := NB192_194.out; obtain ⟨hcz30_0, hcz30_1, hfz30_0, hfz30_1⟩ := cells2 BK194.out)))
           go_ret
           exact ⟨by first | rfl | (simp [errW_none, errW_some] <;> rfl) | (simp [*, errW_none, errW_some] <;> rfl), bel⟩
          ·rw [if_neg c26] at H
           have c26b0 : decide (1000000 < ((rd_T39 l0_3 x4_2).f0)) = false := decide_eq_false c26
           clear c26
           by_cases c31 : ((rd_T39 l0_3 x4_2).f1) < 0
           ·rw [if_pos c31] at H
            have c31b0 : decide (((rd_T39 l0_3 x4_2).f1) < 0) = true := decide_eq_true c31
            clear c31
            obtain rfl := Option.some.inj H
            obtain ⟨hcz32_0, hcz32_1, hcz32_2, hcz32_3, hfz32_0, hfz32_1, hfz32_2, hfz32_3⟩ := cells4 BK192.out
            have p193 : 0 ≤ (x4_2 : Int) := of_decide_eq_true (by first | (with_reducible assumption) | assumption)
            have q193 : x4_2 < (l0_3.length : Int) := of_decide_eq_true (by first | (with_reducible assumption) | assumption)
            obtain ⟨ad193, e193, hx193_0, hx193_1⟩ := at_T39 HR0_3.out x4_2 p193 q193
            cases e193
            replace hx193_0 := (HB.out.cell (World.block_lt_of_cell? w _ hx193_0)).trans hx193_0
            replace hx193_1 := (HB.out.cell (World.block_lt_of_cell? w _ hx193_1)).trans hx193_1
            replace p193 := eq_true p193
            replace q193 := eq_true q193
            go_wp2_with (first | ((with_reducible refine gate_dst (N := 5) rfl ?_); refine box_event ?hg (N := 5) ?hd (cs := #[.int .i64 0, .int .i64 0]) (t := 39) ?hr ?_; (case hd => rfl); (case hg => rfl); (case hr => first | (go_simp; done) | (go_simp; rfl)); intro gb194 hg w33 hbox hb; have qb_ := below_both bel hb; have q1_ := blk_below2 (g := gb192) (o := .cells #[.int .i64 a0_0, .int .i64 a0_1, .int .i64 a0_2, .slice (some ad193) l0_3.length c0_3] 25 (0, 0)) blkx hb; have n0_ := Aside0.mk (q1_.1); have n1_ := Aside0.mk (qb_.1); have n2_ := Aside0.mk (hbox); have n3_ := Aside0.mk ((by rw [hg]; exact qb_.2 : w.heap.size ≤ gb194)); have n4_ := n3_; have n5_ := Aside0.mk ((by rw [hg]; exact Nat.ne_of_lt q1_.2 : gb192 ≠ gb194)); have n6_ := Aside0.mk (Ne.symm n5_.out); clear BK192; clear HB; have BK192 := n0_; have HB := n1_; have BK194 := n2_; have GW194 := n3_; have GE194 := n4_; have NB192_194 := n5_; have NB194_192 := n6_; clear q1_; clear qb_; clear n0_ n1_ n2_ n3_ n4_ n5_ n6_; clear hb hbox hg; have hnb34 := NB194_192.out; have hnc34 := NB192_194.out; obtain ⟨hcz35_0, hcz35_1, hfz35_0, hfz35_1⟩ := cells2 BK194.out))
            repeat (go_quiet (first | ((with_reducible refine gate_dst (N := 5) rfl ?_); refine box_event ?hg (N := 5) ?hd (cs := #[.int .i64 0, .int .i64 0]) (t := 39) ?hr ?_; (case hd => rfl); (case hg => rfl); (case hr => first | (go_simp; done) | (go_simp; rfl)); intro gb194 hg w33 hbox hb; have qb_ := below_both bel hb; have q1_ := blk_below2 (g := gb192) (o := .cells #[.int .i64 a0_0, .int .i64 a0_1, .int .i64 a0_2, .slice (some ad193) l0_3.length c0_3] 25 (0, 0)) blkx hb; have n0_ := Aside0.mk (q1_.1); have n1_ := Aside0.mk (qb_.1); have n2_ := Aside0.mk (hbox); have n3_ := Aside0.mk ((by rw [hg]; exact qb_.2 : w.heap.size ≤ gb194)); have n4_ := n3_; have n5_ := Aside0.mk ((by rw [hg]; exact Nat.ne_of_lt q1_.2 : gb192 ≠ gb194)); have n6_ := Aside0.mk (Ne.symm n5_.out); clear BK192; clear HB; have BK192 := n0_; have HB := n1_; have BK194 := n2_; have GW194 := n3_; have GE194 := n4_; have NB192_194 := n5_; have NB194_192 := n6_; clear q1_; clear qb_; clear n0_ n1_ n2_ n3_ n4_ n5_ n6_; clear hb hbox hg; have hnb34 := NB194_192.out; have hnc34 := NB192_194.out; obtain ⟨hcz35_0, hcz35_1, hfz35_0, hfz35_1⟩ := cells2 BK194.out)); try go_wp2_with (first | ((with_reducible refine gate_dst (N := 5) rfl ?_); refine box_event ?hg (N := 5) ?hd (cs := #[.int .i64 0, .int .i64 0]) (t := 39) ?hr ?_; (case hd => rfl); (case hg => rfl); (case hr => first | (go_simp; done) | (go_simp; rfl)); intro gb194 hg w33 hbox hb; have qb_ := below_both bel hb; have q1_ := blk_below2 (g := gb192) (o := .cells #[.int .i64 a0_0, .int .i64 a0_1, .int .i64 a0_2, .slice (some ad193) l0_3.length c0_3] 25 (0, 0)) blkx hb; have n0_ := Aside0.mk (q1_.1); have n1_ := Aside0.mk (qb_.1); have n2_ := Aside0.mk (hbox); have n3_ := Aside0.mk ((by rw [hg]; exact qb_.2 : w.heap.size ≤ gb194)); have n4_ := n3_; have n5_ := Aside0.mk ((by rw [hg]; exact Nat.ne_of_lt q1_.2 : gb192 ≠ gb194)); have n6_ := Aside0.mk (Ne.symm n5_.out); clear BK192; clear HB; have BK192 := n0_; have HB := n1_; have BK194 := n2_; have GW194 := n3_; have GE194 := n4_; have NB192_194 := n5_; have NB194_192 := n6_; clear q1_; clear qb_; clear n0_ n1_ n2_ n3_ n4_ n5_ n6_; clear hb hbox hg; have hnb34 := NB194_192.out; have hnc34 := NB192_194.out; obtain ⟨hcz35_0, hcz35_1, hfz35_0, hfz35_1⟩ := cells2 BK194.out)))
            go_ret
            exact ⟨by first | rfl | (simp [errW_none, errW_some] <;> rfl) | (simp [*, errW_none, errW_some] <;> rfl), bel⟩
           ·rw [if_neg c31] at H
            have c31b0 : decide (((rd_T39 l0_3 x4_2).f1) < 0) = false := decide_eq_false c31
            clear c31
            by_cases c36 : ((rd_T39 l0_3 x4_2).f1) > 1000000000000
            ·rw [if_pos c36] at H
             have c36b0 : decide (1000000000000 < ((rd_T39 l0_3 x4_2).f1)) = true := decide_eq_true c36
             clear c36
             obtain rfl := Option.some.inj H
             obtain ⟨hcz37_0, hcz37_1, hcz37_2, hcz37_3, hfz37_0, hfz37_1, hfz37_2, hfz37_3⟩ := cells4 BK192.out
             have p193 : 0 ≤ (x4_2 : Int) := of_decide_eq_true (by first | (with_reducible assumption) | assumption)
             have q193 : x4_2 < (l0_3.length : Int) := of_decide_eq_true (by first | (with_reducible assumption) | assumption)
             obtain ⟨ad193, e193, hx193_0, hx193_1⟩ := at_T39 HR0_3.out x4_2 p193 q193
             cases e193
             replace hx193_0 := (HB.out.cell (World.block_lt_of_cell? w _ hx193_0)).trans hx193_0
             replace hx193_1 := (HB.out.cell (World.block_lt_of_cell? w _ hx193_1)).trans hx193_1
             replace p193 := eq_true p193
             replace q193 := eq_true q193
             go_wp2_with (first | ((with_reducible refine gate_dst (N := 5) rfl ?_); refine box_event ?hg (N := 5) ?hd (cs := #[.int .i64 0, .int .i64 0]) (t := 39) ?hr ?_; (case hd => rfl); (case hg => rfl); (case hr => first | (go_simp; done) | (go_simp; rfl)); intro gb194 hg w38 hbox hb; have qb_ := below_both bel hb; have q1_ := blk_below2 (g := gb192) (o := .cells #[.int .i64 a0_0, .int .i64 a0_1, .int .i64 a0_2, .slice (some ad193) l0_3.length c0_3] 25 (0, 0)) blkx hb; have n0_ := Aside0.mk (q1_.1); have n1_ := Aside0.mk (qb_.1); have n2_ := Aside0.mk (hbox); have n3_ := Aside0.mk ((by rw [hg]; exact qb_.2 : w.heap.size ≤ gb194)); have n4_ := n3_; have n5_ := Aside0.mk ((by rw [hg]; exact Nat.ne_of_lt q1_.2 : gb192 ≠ gb194)); have n6_ := Aside0.mk (Ne.symm n5_.out); clear BK192; clear HB; have BK192 := n0_; have HB := n1_; have BK194 := n2_; have GW194 := n3_; have GE194 := n4_; have NB192_194 := n5_; have NB194_192 := n6_; clear q1_; clear qb_; clear n0_ n1_ n2_ n3_ n4_ n5_ n6_; clear hb hbox hg; have hnb39 := NB194_192.out; have hnc39 := NB192_194.out; obtain ⟨hcz40_0, hcz40_1, hfz40_0, hfz40_1⟩ := cells2 BK194.out))
             repeat (go_quiet (first | ((with_reducible refine gate_dst (N := 5) rfl ?_); refine box_event ?hg (N := 5) ?hd (cs := #[.int .i64 0, .int .i64 0]) (t := 39) ?hr ?_; (case hd => rfl); (case hg => rfl); (case hr => first | (go_simp; done) | (go_simp; rfl)); intro gb194 hg w38 hbox hb; have qb_ := below_both bel hb; have q1_ := blk_below2 (g := gb192) (o := .cells #[.int .i64 a0_0, .int .i64 a0_1, .int .i64 a0_2, .slice (some ad193) l0_3.length c0_3] 25 (0, 0)) blkx hb; have n0_ := Aside0.mk (q1_.1); have n1_ := Aside0.mk (qb_.1); have n2_ := Aside0.mk (hbox); have n3_ := Aside0.mk ((by rw [hg]; exact qb_.2 : w.heap.size ≤ gb194)); have n4_ := n3_; have n5_ := Aside0.mk ((by rw [hg]; exact Nat.ne_of_lt q1_.2 : gb192 ≠ gb194)); have n6_ := Aside0.mk (Ne.symm n5_.out); clear BK192; clear HB; have BK192 := n0_; have HB := n1_; have BK194 := n2_; have GW194 := n3_; have GE194 := n4_; have NB192_194 := n5_; have NB194_192 := n6_; clear q1_; clear qb_; clear n0_ n1_ n2_ n3_ n4_ n5_ n6_; clear hb hbox hg; have hnb39 := NB194_192.out; have hnc39 := NB192_194.out; obtain ⟨hcz40_0, hcz40_1, hfz40_0, hfz40_1⟩ := cells2 BK194.out)); try go_wp2_with (first | ((with_reducible refine gate_dst (N := 5) rfl ?_); refine box_event ?hg (N := 5) ?hd (cs := #[.int .i64 0, .int .i64 0]) (t := 39) ?hr ?_; (case hd => rfl); (case hg => rfl); (case hr => first | (go_simp; done) | (go_simp; rfl)); intro gb194 hg w38 hbox hb; have qb_ := below_both bel hb; have q1_ := blk_below2 (g := gb192) (o := .cells #[.int .i64 a0_0, .int .i64 a0_1, .int .i64 a0_2, .slice (some ad193) l0_3.length c0_3] 25 (0, 0)) blkx hb; have n0_ := Aside0.mk (q1_.1); have n1_ := Aside0.mk (qb_.1); have n2_ := Aside0.mk (hbox); have n3_ := Aside0.mk ((by rw [hg]; exact qb_.2 : w.heap.size ≤ gb194)); have n4_ := n3_; have n5_ := Aside0.mk ((by rw [hg]; exact Nat.ne_of_lt q1_.2 : gb192 ≠ gb194)); have n6_ := Aside0.mk (Ne.symm n5_.out); clear BK192; clear HB; have BK192 := n0_; have HB := n1_; have BK194 := n2_; have GW194 := n3_; have GE194 := n4_; have NB192_194 := n5_; have NB194_192 := n6_; clear q1_; clear qb_; clear n0_ n1_ n2_ n3_ n4_ n5_ n6_; clear hb hbox hg; have hnb39 := NB194_192.out; have hnc39 := NB192_194.out; obtain ⟨hcz40_0, hcz40_1, hfz40_0, hfz40_1⟩ := cells2 BK194.out)))
             go_ret
             exact ⟨by first | rfl | (simp [errW_none, errW_some] <;> rfl) | (simp [*, errW_none, errW_some] <;> rfl), bel⟩
            ·rw [if_neg c36] at H
             have c36b0 : decide (1000000000000 < ((rd_T39 l0_3 x4_2).f1)) = false := decide_eq_false c36
             clear c36
             have H' := Aside0.mk H
             clear H
             obtain ⟨hcz41_0, hcz41_1, hcz41_2, hcz41_3, hfz41_0, hfz41_1, hfz41_2, hfz41_3⟩ := cells4 BK192.out
             have p193 : 0 ≤ (x4_2 : Int) := of_decide_eq_true (by first | (with_reducible assumption) | assumption)
             have q193 : x4_2 < (l0_3.length : Int) := of_decide_eq_true (by first | (with_reducible assumption) | assumption)
             obtain ⟨ad193, e193, hx193_0, hx193_1⟩ := at_T39 HR0_3.out x4_2 p193 q193
             cases e193
             replace hx193_0 := (HB.out.cell (World.block_lt_of_cell? w _ hx193_0)).trans hx193_0
             replace hx193_1 := (HB.out.cell (World.block_lt_of_cell? w _ hx193_1)).trans hx193_1
             replace p193 := eq_true p193
             replace q193 := eq_true q193
             go_wp2_with (first | ((with_reducible refine gate_dst (N := 5) rfl ?_); refine box_event ?hg (N := 5) ?hd (cs := #[.int .i64 0, .int .i64 0]) (t := 39) ?hr ?_; (case hd => rfl); (case hg => rfl); (case hr => first | (go_simp; done) | (go_simp; rfl)); intro gb194 hg w42 hbox hb; have qb_ := below_both bel hb; have q1_ := blk_below2 (g := gb192) (o := .cells #[.int .i64 a0_0, .int .i64 a0_1, .int .i64 a0_2, .slice (some ad193) l0_3.length c0_3] 25 (0, 0)) blkx hb; have n0_ := Aside0.mk (q1_.1); have n1_ := Aside0.mk (qb_.1); have n2_ := Aside0.mk (hbox); have n3_ := Aside0.mk ((by rw [hg]; exact qb_.2 : w.heap.size ≤ gb194)); have n4_ := n3_; have n5_ := Aside0.mk ((by rw [hg]; exact Nat.ne_of_lt q1_.2 : gb192 ≠ gb194)); have n6_ := Aside0.mk (Ne.symm n5_.out); clear BK192; clear HB; have BK192 := n0_; have HB := n1_; have BK194 := n2_; have GW194 := n3_; have GE194 := n4_; have NB192_194 := n5_; have NB194_192 := n6_; clear q1_; clear qb_; clear n0_ n1_ n2_ n3_ n4_ n5_ n6_; clear hb hbox hg; have hnb43 := NB194_192.out; have hnc43 := NB192_194.out; obtain ⟨hcz44_0, hcz44_1, hfz44_0, hfz44_1⟩ := cells2 BK194.out))
             repeat (go_quiet (first | ((with_reducible refine gate_dst (N := 5) rfl ?_); refine box_event ?hg (N := 5) ?hd (cs := #[.int .i64 0, .int .i64 0]) (t := 39) ?hr ?_; (case hd => rfl); (case hg => rfl); (case hr => first | (go_simp; done) | (go_simp; rfl)); intro gb194 hg w42 hbox hb; have qb_ := below_both bel hb; have q1_ := blk_below2 (g := gb192) (o := .cells #[.int .i64 a0_0, .int .i64 a0_1, .int .i64 a0_2, .slice (some ad193) l0_3.length c0_3] 25 (0, 0)) blkx hb; have n0_ := Aside0.mk (q1_.1); have n1_ := Aside0.mk (qb_.1); have n2_ := Aside0.mk (hbox); have n3_ := Aside0.mk ((by rw [hg]; exact qb_.2 : w.heap.size ≤ gb194)); have n4_ := n3_; have n5_ := Aside0.mk ((by rw [hg]; exact Nat.ne_of_lt q1_.2 : gb192 ≠ gb194)); have n6_ := Aside0.mk (Ne.symm n5_.out); clear BK192; clear HB; have BK192 := n0_; have HB := n1_; have BK194 := n2_; have GW194 := n3_; have GE194 := n4_; have NB192_194 := n5_; have NB194_192 := n6_; clear q1_; clear qb_; clear n0_ n1_ n2_ n3_ n4_ n5_ n6_; clear hb hbox hg; have hnb43 := NB194_192.out; have hnc43 := NB192_194.out; obtain ⟨hcz44_0, hcz44_1, hfz44_0, hfz44_1⟩ := cells2 BK194.out)); try go_wp2_with (first | ((with_reducible refine gate_dst (N := 5) rfl ?_); refine box_event ?hg (N := 5) ?hd (cs := #[.int .i64 0, .int .i64 0]) (t := 39) ?hr ?_; (case hd => rfl); (case hg => rfl); (case hr => first | (go_simp; done) | (go_simp; rfl)); intro gb194 hg w42 hbox hb; have qb_ := below_both bel hb; have q1_ := blk_below2 (g := gb192) (o := .cells #[.int .i64 a0_0, .int .i64 a0_1, .int .i64 a0_2, .slice (some ad193) l0_3.length c0_3] 25 (0, 0)) blkx hb; have n0_ := Aside0.mk (q1_.1); have n1_ := Aside0.mk (qb_.1); have n2_ := Aside0.mk (hbox); have n3_ := Aside0.mk ((by rw [hg]; exact qb_.2 : w.heap.size ≤ gb194)); have n4_ := n3_; have n5_ := Aside0.mk ((by rw [hg]; exact Nat.ne_of_lt q1_.2 : gb192 ≠ gb194)); have n6_ := Aside0.mk (Ne.symm n5_.out); clear BK192; clear HB; have BK192 := n0_; have HB := n1_; have BK194 := n2_; have GW194 := n3_; have GE194 := n4_; have NB192_194 := n5_; have NB194_192 := n6_; clear q1_; clear qb_; clear n0_ n1_ n2_ n3_ n4_ n5_ n6_; clear hb hbox hg; have hnb43 := NB194_192.out; have hnc43 := NB192_194.out; obtain ⟨hcz44_0, hcz44_1, hfz44_0, hfz44_1⟩ := cells2 BK194.out)))
             go_roundg k2
             case measure => have := HJ1.out; have := HK2.out; omega
             case rel => exact ⟨(wrap64 (x3_2 + ((rd_T39 l0_3 x4_2).f1))), (wrap64 (x4_2 + 1)), (by first | rfl | (simp; done) | (simp [*]; done)), (by first | rfl | (simp; done) | (simp [*]; done)), H', ⟨by have := HJ1.out; have := HK2.out; omega⟩, ⟨by (with_reducible repeat (first | refine blk_drewN ?_ _ | refine blk_drew ?_ | refine blk_alloc ?_ _)); refine blk_far ?_ NB192_194.out _; (with_reducible repeat (first | refine blk_drewN ?_ _ | refine blk_drew ?_ | refine blk_alloc ?_ _)); refine blk_far ?_ NB192_194.out _; (with_reducible repeat (first | refine blk_drewN ?_ _ | refine blk_drew ?_ | refine blk_alloc ?_ _)); exact BK192.out⟩, ⟨bel⟩⟩
        ·rw [if_neg c20] at H
         exact absurd H (by simp)
       ·rw [if_neg c19] at H
        have c19b0 : decide (x4_2 < (l0_3.length : Int)) = false := decide_eq_false c19
        clear c19
        have H' := Aside0.mk H
        clear H
        obtain ⟨hcz45_0, hcz45_1, hcz45_2, hcz45_3, hfz45_0, hfz45_1, hfz45_2, hfz45_3⟩ := cells4 BK192.out
        go_wp2
        repeat (go_quiet (fail); try go_wp2)
        go_loopg [6] k2 (fun kq v6 w' => ∃ (x6_3 : Int), v6 = .int .i64 x6_3 ∧ Aside0 (customsref21_ValidGuarantee.l1 kq x3_2 x6_3 a0_0 a0_1 a0_2 l0_3 = some r) ∧ Aside0 (kq ≤ k2) ∧ Aside0 (w'.heap[gb192]? = some (.cells #[.int .i64 a0_0, .int .i64 a0_1, .int .i64 a0_2, (.slice A0_3 l0_3.length c0_3)] 25 (0, 0))) ∧ Aside0 (Below w.heap.size w w'))
        case atStart => exact ⟨(1), (by first | rfl | (simp; done) | (simp [*]; done)), H', ⟨Nat.le_refl _⟩, ⟨by (with_reducible repeat (first | refine blk_drewN ?_ _ | refine blk_drew ?_ | refine blk_alloc ?_ _)); exact BK192.out⟩, ⟨bel⟩⟩
        case round =>
         clear H'
         try clear c1
         try clear p1
         try clear q1
         try clear hx1
         try clear c2
         try clear p2
         try clear c3
         try clear c4
         try clear c4b0
         try clear c6
         try clear c6b0
         try clear p6
         try clear c8
         try clear c8b0
         try clear c10
         try clear c10b0
         try clear c12
         try clear c12b0
         try clear c15
         try clear c16
         try clear c16b0
         try clear c16b1
         try clear c19
         try clear c19b0
         try clear p19
         try clear q19
         try clear hx19
         try clear c20
         try clear c20b0
         try clear c21
         try clear c21b0
         try clear c24
         try clear c26
         try clear c26b0
         try clear c29
         try clear c31
         try clear c31b0
         try clear c34
         try clear c36
         try clear c36b0
         try clear c39
         try clear c43
         try clear hcz11_0
         try clear hcz11_1
         try clear hcz11_2
         try clear hcz11_3
         try clear hcz13_0
         try clear hcz13_1
         try clear hcz13_2
         try clear hcz13_3
         try clear hcz14_0
         try clear hcz14_1
         try clear hcz14_2
         try clear hcz14_3
         try clear hcz17_0
         try clear hcz17_1
         try clear hcz17_2
         try clear hcz17_3
         try clear hcz18_0
         try clear hcz18_1
         try clear hcz18_2
         try clear hcz18_3
         try clear hcz22_0
         try clear hcz22_1
         try clear hcz22_2
         try clear hcz22_3
         try clear hcz25_0
         try clear hcz25_1
         try clear hcz27_0
         try clear hcz27_1
         try clear hcz27_2
         try clear hcz27_3
         try clear hcz30_0
         try clear hcz30_1
         try clear hcz32_0
         try clear hcz32_1
         try clear hcz32_2
         try clear hcz32_3
         try clear hcz35_0
         try clear hcz35_1
         try clear hcz37_0
         try clear hcz37_1
         try clear hcz37_2
         try clear hcz37_3
         try clear hcz40_0
         try clear hcz40_1
         try clear hcz41_0
         try clear hcz41_1
         try clear hcz41_2
         try clear hcz41_3
         try clear hcz44_0
         try clear hcz44_1
         try clear hcz45_0
         try clear hcz45_1
         try clear hcz45_2
         try clear hcz45_3
         try clear hcz5_0
         try clear hcz5_1
         try clear hcz5_2
         try clear hcz5_3
         try clear hcz7_0
         try clear hcz7_1
         try clear hcz7_2
         try clear hcz7_3
         try clear hcz9_0
         try clear hcz9_1
         try clear hcz9_2
         try clear hcz9_3
         try clear hfz11_0
         try clear hfz11_1
         try clear hfz11_2
         try clear hfz11_3
         try clear hfz13_0
         try clear hfz13_1
         try clear hfz13_2
         try clear hfz13_3
         try clear hfz14_0
         try clear hfz14_1
         try clear hfz14_2
         try clear hfz14_3
         try clear hfz17_0
         try clear hfz17_1
         try clear hfz17_2
         try clear hfz17_3
         try clear hfz18_0
         try clear hfz18_1
         try clear hfz18_2
         try clear hfz18_3
         try clear hfz22_0
         try clear hfz22_1
         try clear hfz22_2
         try clear hfz22_3
         try clear hfz25_0
         try clear hfz25_1
         try clear hfz27_0
         try clear hfz27_1
         try clear hfz27_2
         try clear hfz27_3
         try clear hfz30_0
         try clear hfz30_1
         try clear hfz32_0
         try clear hfz32_1
         try clear hfz32_2
         try clear hfz32_3
         try clear hfz35_0
         try clear hfz35_1
         try clear hfz37_0
         try clear hfz37_1
         try clear hfz37_2
         try clear hfz37_3
         try clear hfz40_0
         try clear hfz40_1
         try clear hfz41_0
         try clear hfz41_1
         try clear hfz41_2
         try clear hfz41_3
         try clear hfz44_0
         try clear hfz44_1
         try clear hfz45_0
         try clear hfz45_1
         try clear hfz45_2
         try clear hfz45_3
         try clear hfz5_0
         try clear hfz5_1
         try clear hfz5_2
         try clear hfz5_3
         try clear hfz7_0
         try clear hfz7_1
         try clear hfz7_2
         try clear hfz7_3
         try clear hfz9_0
         try clear hfz9_1
         try clear hfz9_2
         try clear hfz9_3
         try clear hx193_0
         try clear hx193_1
         try clear p193
         try clear p2
         try clear q193
         obtain ⟨x6_3, rfl, HA, HK3, BK192, HB⟩ := hrel
         cases gk with
         | zero => exact absurd HA.out (by simp [customsref21_ValidGuarantee.l1])
         | succ k3 =>
          have H := HA.out
          clear HA
          simp only [customsref21_ValidGuarantee.l1] at H
          by_cases c46 : x6_3 < (l0_3.length : Int)
          ·rw [if_pos c46] at H
           have c46b0 : decide (x6_3 < (l0_3.length : Int)) = true := decide_eq_true c46
           clear c46
           by_cases c47 : 0 ≤ x6_3
           ·rw [if_pos c47] at H
            have c47b0 : decide (0 ≤ x6_3) = true := decide_eq_true c47
            clear c47
            obtain ⟨ji48, hji48⟩ : ∃ j_ : Int, (wrap64 (x6_3 - 1)) = j_ := ⟨_, rfl⟩
            replace H : (if 0 ≤ (ji48) then (if (ji48) < (l0_3.length : Int) then (if ((rd_T39 l0_3 x6_3).f0) ≤ ((rd_T39 l0_3 (ji48)).f0) then (some 9) else (customsref21_ValidGuarantee.l1 k3 x3_2 (wrap64 (x6_3 + 1)) a0_0 a0_1 a0_2 l0_3)) else (none)) else (none)) = some r := by first | (rw [hji48] at H; exact H) | (simp only [hji48] at H ⊢; exact H)
            have hji48w : (IntKind.i64.wrap (x6_3 - 1)) = ji48 := (i64_w _).trans hji48
            by_cases c49 : 0 ≤ (ji48)
            ·rw [if_pos c49] at H
             have c49b0 : decide (0 ≤ (ji48)) = true := decide_eq_true c49
             clear c49
             by_cases c50 : (ji48) < (l0_3.length : Int)
             ·rw [if_pos c50] at H
              have c50b0 : decide ((ji48) < (l0_3.length : Int)) = true := decide_eq_true c50
              clear c50
              by_cases c51 : ((rd_T39 l0_3 x6_3).f0) ≤ ((rd_T39 l0_3 (ji48)).f0)
              ·rw [if_pos c51] at H
               have c51b0 : decide (((rd_T39 l0_3 x6_3).f0) ≤ ((rd_T39 l0_3 (ji48)).f0)) = true := decide_eq_true c51
               clear c51
               obtain rfl := Option.some.inj H
               obtain ⟨hcz52_0, hcz52_1, hcz52_2, hcz52_3, hfz52_0, hfz52_1, hfz52_2, hfz52_3⟩ := cells4 BK192.out
               have p195 : 0 ≤ (x6_3 : Int) := of_decide_eq_true (by first | (with_reducible assumption) | assumption)
               have q195 : x6_3 < (l0_3.length : Int) := of_decide_eq_true (by first | (with_reducible assumption) | assumption)
               obtain ⟨ad195, e195, hx195_0, hx195_1⟩ := at_T39 HR0_3.out x6_3 p195 q195
               cases e195
               replace hx195_0 := (HB.out.cell (World.block_lt_of_cell? w _ hx195_0)).trans hx195_0
               replace hx195_1 := (HB.out.cell (World.block_lt_of_cell? w _ hx195_1)).trans hx195_1
               replace p195 := eq_true p195
               replace q195 := eq_true q195
               have p196 : 0 ≤ ((ji48) : Int) := of_decide_eq_true (by first | (with_reducible assumption) | assumption)
               have q196 : (ji48) < (l0_3.length : Int) := of_decide_eq_true (by first | (with_reducible assumption) | assumption)
               obtain ⟨ad196, e196, hx196_0, hx196_1⟩ := at_T39 HR0_3.out (ji48) p196 q196
               obtain rfl : ad195 = ad196 := (by injection e196)
               replace hx196_0 := (HB.out.cell (World.block_lt_of_cell? w _ hx196_0)).trans hx196_0
               replace hx196_1 := (HB.out.cell (World.block_lt_of_cell? w _ hx196_1)).trans hx196_1
               replace p196 := eq_true p196
               replace q196 := eq_true q196
               go_wp2
               repeat (go_quiet (fail); try go_wp2)
               go_ret
               exact ⟨by first | rfl | (simp [errW_none, errW_some] <;> rfl) | (simp only [← hji48]; first | rfl | (simp [errW_none, errW_some] <;> rfl)) | (simp [*, errW_none, errW_some] <;> rfl), bel⟩
              ·rw [if_neg c51] at H
               have c51b0 : decide (((rd_T39 l0_3 x6_3).f0) ≤ ((rd_T39 l0_3 (ji48)).f0)) = false := decide_eq_false c51
               clear c51
               have H' := Aside0.mk H
               clear H
               obtain ⟨hcz53_0, hcz53_1, hcz53_2, hcz53_3, hfz53_0, hfz53_1, hfz53_2, hfz53_3⟩ := cells4 BK192.out
               have p195 : 0 ≤ (x6_3 : Int) := of_decide_eq_true (by first | (with_reducible assumption) | assumption)
               have q195 : x6_3 < (l0_3.length : Int) := of_decide_eq_true (by first | (with_reducible assumption) | assumption)
               obtain ⟨ad195, e195, hx195_0, hx195_1⟩ := at_T39 HR0_3.out x6_3 p195 q195
               cases e195
               replace hx195_0 := (HB.out.cell (World.block_lt_of_cell? w _ hx195_0)).trans hx195_0
               replace hx195_1 := (HB.out.cell (World.block_lt_of_cell? w _ hx195_1)).trans hx195_1
               replace p195 := eq_true p195
               replace q195 := eq_true q195
               have p196 : 0 ≤ ((ji48) : Int) := of_decide_eq_true (by first | (with_reducible assumption) | assumption)
               have q196 : (ji48) < (l0_3.length : Int) := of_decide_eq_true (by first | (with_reducible assumption) | assumption)
               obtain ⟨ad196, e196, hx196_0, hx196_1⟩ := at_T39 HR0_3.out (ji48) p196 q196
               obtain rfl : ad195 = ad196 := (by injection e196)
               replace hx196_0 := (HB.out.cell (World.block_lt_of_cell? w _ hx196_0)).trans hx196_0
               replace hx196_1 := (HB.out.cell (World.block_lt_of_cell? w _ hx196_1)).trans hx196_1
               replace p196 := eq_true p196
               replace q196 := eq_true q196
               go_wp2
               repeat (go_quiet (fail); try go_wp2)
               go_roundg k3
               case measure => have := HJ1.out; have := HK2.out; have := HK3.out; omega
               case rel => exact ⟨(wrap64 (x6_3 + 1)), (by first | rfl | (simp; done) | (simp [*]; done)), H', ⟨by have := HJ1.out; have := HK2.out; have := HK3.out; omega⟩, ⟨by (with_reducible repeat (first | refine blk_drewN ?_ _ | refine blk_drew ?_ | refine blk_alloc ?_ _)); exact BK192.out⟩, ⟨bel⟩⟩
             ·rw [if_neg c50] at H
              exact absurd H (by simp)
            ·rw [if_neg c49] at H
             exact absurd H (by simp)
           ·rw [if_neg c47] at H
            exact absurd H (by simp)
          ·rw [if_neg c46] at H
           have c46b0 : decide (x6_3 < (l0_3.length : Int)) = false := decide_eq_false c46
           clear c46
           by_cases c54 : x3_2 > a0_1
           ·rw [if_pos c54] at H
            have c54b0 : decide (a0_1 < x3_2) = true := decide_eq_true c54
            clear c54
            obtain rfl := Option.some.inj H
            obtain ⟨hcz55_0, hcz55_1, hcz55_2, hcz55_3, hfz55_0, hfz55_1, hfz55_2, hfz55_3⟩ := cells4 BK192.out
            go_wp2
            repeat (go_quiet (fail); try go_wp2)
            go_ret
            exact ⟨by first | rfl | (simp [errW_none, errW_some] <;> rfl) | (simp [*, errW_none, errW_some] <;> rfl), bel⟩
           ·rw [if_neg c54] at H
            have c54b0 : decide (a0_1 < x3_2) = false := decide_eq_false c54
            clear c54
            obtain rfl := Option.some.inj H
            obtain ⟨hcz56_0, hcz56_1, hcz56_2, hcz56_3, hfz56_0, hfz56_1, hfz56_2, hfz56_3⟩ := cells4 BK192.out
            go_wp2
            repeat (go_quiet (fail); try go_wp2)
            go_ret
            exact ⟨by first | rfl | (simp [errW_none, errW_some] <;> rfl) | (simp [*, errW_none, errW_some] <;> rfl), bel⟩
end Go.Proofs.Ytakhjhiofmgpnaa.PA
-- Written by a program of this claim (wip/tools: mkprint.py, pr.sh) out of the translation: plain functions and their contracts. Lean checks every line.
namespace Go.Proofs.Ytakhjhiofmgpnaa.PA
open Go.RowKit Go.Proofs.YtakhjhiofmgpnaaW.PrintWords Go.Proofs.YtakhjhiofmgpnaaW.PrintLast Go.Proofs.YtakhjhiofmgpnaaW.PrintMore Go.Proofs.Ytakhjhiofmgpnaa.G
attribute [local go_sem] max2_int min2_int max_two min_two max_three min_three max_four min_four   -- for this text's walks alone
set_option linter.unusedVariables false
set_option linter.unusedSimpArgs false
theorem eqA39 (d : Nat) (w : World) (x0 y0 : Int) (x1 y1 : Int) :
  (Op.equalIn (d + 2) 39 (.agg #[.int .i64 x0, .int .i64 x1]) (.agg #[.int .i64 y0, .int .i64 y1])).run Try.prog w = .ok (x0 == y0 && (x1 == y1)) w := by
 refine eqA_of Try.underlying39 (by kernel_rfl) ?_
 refine eqf_cons (by rfl) (by go_simp; rfl) (by go_simp; rfl) (by go_simp) ?_
 exact eqf_last (by rfl) (by go_simp; rfl) (by go_simp; rfl) (by go_simp)
end Go.Proofs.Ytakhjhiofmgpnaa.PA
-- Written by a program of this claim (wip/tools: mkprint.py, pr.sh) out of the translation: plain functions and their contracts. Lean checks every line.
namespace Go.Proofs.Ytakhjhiofmgpnaa.PA
open Go.RowKit Go.Proofs.YtakhjhiofmgpnaaW.PrintWords Go.Proofs.YtakhjhiofmgpnaaW.PrintLast Go.Proofs.YtakhjhiofmgpnaaW.PrintMore Go.Proofs.Ytakhjhiofmgpnaa.G
attribute [local go_sem] max2_int min2_int max_two min_two max_three min_three max_four min_four   -- for this text's walks alone
set_option linter.unusedVariables false
set_option linter.unusedSimpArgs false
attribute [local go_sem high] eqA39
def customsref21_Total.l0 : Nat → Int → Int → Int → Int → Int → List (S39) → Option (Int)
 | 0, _, _, _, _, _, _ => none
 | k + 1, x3, x4, x198000, x198001, x198002, x198003 => if x4 < (x198003.length : Int) then (if 0 ≤ x4 then (customsref21_Total.l0 k (wrap64 (x3 + ((rd_T39 x198003 x4).f1))) (wrap64 (x4 + 1)) x198000 x198001 x198002 x198003) else (none)) else (some x3)
def customsref21_Total.f (k : Nat) (a0_0 : Int) (a0_1 : Int) (a0_2 : Int) (l0_3 : List (S39)) : Option (Int) := (customsref21_ValidGuarantee.f k a0_0 a0_1 a0_2 l0_3).bind fun t198 => (if t198 = 0 then (customsref21_Total.l0 k 0 0 a0_0 a0_1 a0_2 l0_3) else (some 0))
set_option maxHeartbeats 8000000 in
set_option maxRecDepth 100000 in
theorem customsref21_Total.calls (k : Nat) (a0_0 : Int) (a0_1 : Int) (a0_2 : Int) (A0_3 : Option Addr) (c0_3 : Nat) (l0_3 : List (S39)) (r : Int) (w : World) (hr0_3 : Kd.C k39 w A0_3 l0_3.length l0_3) (hc0_3 : l0_3.length ≤ c0_3) (h : customsref21_Total.f k a0_0 a0_1 a0_2 l0_3 = some r) :
  Calls Try.prog 14 #[.agg #[.int .i64 a0_0, .int .i64 a0_1, .int .i64 a0_2, .slice A0_3 l0_3.length c0_3]] w fun e w' => e = .returned (.int .i64 r) ∧ Below w.heap.size w w' := by
 have hu25 := Try.underlying25
 have HR0_3 := Aside0.mk hr0_3
 have HC0_3 := Aside0.mk hc0_3
 clear hr0_3 hc0_3
 have HB := Aside0.mk (Below.refl w.heap.size w)
 have H : ((customsref21_ValidGuarantee.f k a0_0 a0_1 a0_2 l0_3).bind fun t198 => (if t198 = 0 then (customsref21_Total.l0 k 0 0 a0_0 a0_1 a0_2 l0_3) else (some 0))) = some r := h
 clear h
 replace H := Option.bind_eq_some_iff.mp H
 obtain ⟨t198, A20, H⟩ := H
 replace H : (if t198 = 0 then (customsref21_Total.l0 k 0 0 a0_0 a0_1 a0_2 l0_3) else (some 0)) = some r := H
 have A2 := Aside0.mk A20
 clear A20
 by_cases c3 : t198 = 0
 ·rw [if_pos c3] at H
  have c3b0 : (t198 == 0) = true := beq_iff_eq.mpr c3
  have c3b1 : (t198 != 0) = false := bne_eq_false_iff_eq.mpr c3
  clear c3
  have H' := Aside0.mk H
  clear H
  go_enter Try.func14, Try.ntmps14
  go_wp2_with (first | ((with_reducible refine gate_dst (N := 1) rfl ?_); refine box_event ?hg (N := 1) ?hd (cs := #[.int .i64 a0_0, .int .i64 a0_1, .int .i64 a0_2, .slice A0_3 l0_3.length c0_3]) (t := 25) ?hr ?_; (case hd => rfl); (case hg => rfl); (case hr => first | (go_simp; done) | (go_simp; rfl)); intro gb197 hg w4 hbox hb; have qb_ := below_both bel hb; have n0_ := Aside0.mk (qb_.1); have n1_ := Aside0.mk (hbox); have n3_ := Aside0.mk ((by rw [hg]; exact qb_.2 : w.heap.size ≤ gb197)); clear HB; have HB := n0_; have BK197 := n1_; have GE197 := n3_; clear qb_; clear n0_ n1_ n3_; clear hb hbox hg; obtain ⟨hcz5_0, hcz5_1, hcz5_2, hcz5_3, hfz5_0, hfz5_1, hfz5_2, hfz5_3⟩ := cells4 BK197.out) | ((with_reducible refine gate_callee (f := 12) rfl ?_); refine goesL_ (some 6) rfl rfl Try.func12 (by kernel_rfl) rfl #[.agg #[.int .i64 a0_0, .int .i64 a0_1, .int .i64 a0_2, .slice A0_3 l0_3.length c0_3]] rfl argx ?_; (with_reducible refine (customsref21_ValidGuarantee.calls k a0_0 a0_1 a0_2 _ _ l0_3 t198 _ ?side1 ?side2 A2.out).mono ?_); (case side1 => repeat (first | exact (Kd.C_below HR0_3.out HB.out) | (with_reducible refine Kd.C_alloc ?_ _) | (with_reducible refine Kd.C_drewN ?_ _) | (with_reducible refine Kd.C_drew ?_))); (case side2 => exact HC0_3.out); rintro e w6 ⟨rfl, hb⟩; refine ⟨_, rfl, ?_⟩; have n0_ := Aside0.mk (blk_below (g := gb197) (o := .cells #[.int .i64 a0_0, .int .i64 a0_1, .int .i64 a0_2, .slice A0_3 l0_3.length c0_3] 25 (0, 0)) blkx hb); have n1_ := Aside0.mk (below_step bel hb); clear BK197; clear HB; have BK197 := n0_; have HB := n1_; clear n0_ n1_; (try clear hb); (try clear hb2); (try clear hk); (try clear hi)))
  go_loopg [3, 4] k (fun kq v3 v4 w' => ∃ (x3_1 : Int) (x4_1 : Int), v3 = .int .i64 x3_1 ∧ v4 = .int .i64 x4_1 ∧ Aside0 (customsref21_Total.l0 kq x3_1 x4_1 a0_0 a0_1 a0_2 l0_3 = some r) ∧ Aside0 (kq ≤ k) ∧ Aside0 (w'.heap[gb197]? = some (.cells #[.int .i64 a0_0, .int .i64 a0_1, .int .i64 a0_2, (.slice A0_3 l0_3.length c0_3)] 25 (0, 0))) ∧ Aside0 (Below w.heap.size w w'))
  case atStart => exact ⟨(0), (0), (by first | rfl | (simp; done) | (simp [*]; done)), (by first | rfl | (simp; done) | (simp [*]; done)), H', ⟨Nat.le_refl _⟩, ⟨by (with_reducible repeat (first | refine blk_drewN ?_ _ | refine blk_drew ?_ | refine blk_alloc ?_ _)); exact BK197.out⟩, ⟨bel⟩⟩
  case round =>
   clear H'
   try clear c1
   try clear p2
   try clear c3
   try clear c3b0
   try clear c3b1
   try clear hcz5_0
   try clear hcz5_1
   try clear hcz5_2
   try clear hcz5_3
   try clear hfz5_0
   try clear hfz5_1
   try clear hfz5_2
   try clear hfz5_3
   obtain ⟨x3_1, x4_1, rfl, rfl, HA, HK1, BK197, HB⟩ := hrel
   cases gk with
   | zero => exact absurd HA.out (by simp [customsref21_Total.l0])
   | succ k1 =>
    have H := HA.out
    clear HA
    simp only [customsref21_Total.l0] at H
    by_cases c7 : x4_1 < (l0_3.length : Int)
    ·rw [if_pos c7] at H
     have c7b0 : decide (x4_1 < (l0_3.length : Int)) = true := decide_eq_true c7
     clear c7
     by_cases c8 : 0 ≤ x4_1
     ·rw [if_pos c8] at H
      have c8b0 : decide (0 ≤ x4_1) = true := decide_eq_true c8
      clear c8
      have H' := Aside0.mk H
      clear H
      obtain ⟨hcz9_0, hcz9_1, hcz9_2, hcz9_3, hfz9_0, hfz9_1, hfz9_2, hfz9_3⟩ := cells4 BK197.out
      have p199 : 0 ≤ (x4_1 : Int) := of_decide_eq_true (by first | (with_reducible assumption) | assumption)
      have q199 : x4_1 < (l0_3.length : Int) := of_decide_eq_true (by first | (with_reducible assumption) | assumption)
      obtain ⟨ad199, e199, hx199_0, hx199_1⟩ := at_T39 HR0_3.out x4_1 p199 q199
      cases e199
      replace hx199_0 := (HB.out.cell (World.block_lt_of_cell? w _ hx199_0)).trans hx199_0
      replace hx199_1 := (HB.out.cell (World.block_lt_of_cell? w _ hx199_1)).trans hx199_1
      replace p199 := eq_true p199
      replace q199 := eq_true q199
      go_wp2
      go_roundg k1
      case measure => have := HK1.out; omega
      case rel => exact ⟨(wrap64 (x3_1 + ((rd_T39 l0_3 x4_1).f1))), (wrap64 (x4_1 + 1)), (by first | rfl | (simp; done) | (simp [*]; done)), (by first | rfl | (simp; done) | (simp [*]; done)), H', ⟨by have := HK1.out; omega⟩, ⟨by (with_reducible repeat (first | refine blk_drewN ?_ _ | refine blk_drew ?_ | refine blk_alloc ?_ _)); exact BK197.out⟩, ⟨bel⟩⟩
     ·rw [if_neg c8] at H
      exact absurd H (by simp)
    ·rw [if_neg c7] at H
     have c7b0 : decide (x4_1 < (l0_3.length : Int)) = false := decide_eq_false c7
     clear c7
     obtain rfl := Option.some.inj H
     obtain ⟨hcz10_0, hcz10_1, hcz10_2, hcz10_3, hfz10_0, hfz10_1, hfz10_2, hfz10_3⟩ := cells4 BK197.out
     go_wp2
     go_ret
     exact ⟨by first | rfl | (simp [errW_none, errW_some] <;> rfl) | (simp [*, errW_none, errW_some] <;> rfl), bel⟩
 ·rw [if_neg c3] at H
  have c3b0 : (t198 == 0) = false := beq_eq_false_iff_ne.mpr c3
  have c3b1 : (t198 != 0) = true := bne_iff_ne.mpr c3
  obtain rfl := Option.some.inj H
  go_enter Try.func14, Try.ntmps14
  go_wp2_with (first | ((with_reducible refine gate_dst (N := 1) rfl ?_); refine box_event ?hg (N := 1) ?hd (cs := #[.int .i64 a0_0, .int .i64 a0_1, .int .i64 a0_2, .slice A0_3 l0_3.length c0_3]) (t := 25) ?hr ?_; (case hd => rfl); (case hg => rfl); (case hr => first | (go_simp; done) | (go_simp; rfl)); intro gb197 hg w11 hbox hb; have qb_ := below_both bel hb; have n0_ := Aside0.mk (qb_.1); have n1_ := Aside0.mk (hbox); have n3_ := Aside0.mk ((by rw [hg]; exact qb_.2 : w.heap.size ≤ gb197)); clear HB; have HB := n0_; have BK197 := n1_; have GE197 := n3_; clear qb_; clear n0_ n1_ n3_; clear hb hbox hg; obtain ⟨hcz12_0, hcz12_1, hcz12_2, hcz12_3, hfz12_0, hfz12_1, hfz12_2, hfz12_3⟩ := cells4 BK197.out) | ((with_reducible refine gate_callee (f := 12) rfl ?_); refine goesL_ (some 6) rfl rfl Try.func12 (by kernel_rfl) rfl #[.agg #[.int .i64 a0_0, .int .i64 a0_1, .int .i64 a0_2, .slice A0_3 l0_3.length c0_3]] rfl argx ?_; (with_reducible refine (customsref21_ValidGuarantee.calls k a0_0 a0_1 a0_2 _ _ l0_3 t198 _ ?side1 ?side2 A2.out).mono ?_); (case side1 => repeat (first | exact (Kd.C_below HR0_3.out HB.out) | (with_reducible refine Kd.C_alloc ?_ _) | (with_reducible refine Kd.C_drewN ?_ _) | (with_reducible refine Kd.C_drew ?_))); (case side2 => exact HC0_3.out); rintro e w13 ⟨rfl, hb⟩; refine ⟨_, rfl, ?_⟩; have n1_ := Aside0.mk (below_step bel hb); (try clear BK197); clear HB; have HB := n1_; clear n1_; (try clear hb); (try clear hb2); (try clear hk); (try clear hi)))
  go_ret
  exact ⟨by first | rfl | (simp [errW_none, errW_some] <;> rfl) | (simp [*, errW_none, errW_some] <;> rfl), bel⟩
def customsref21_Required.f (a0_0 : Int) (a0_1 : Int) (a0_2 : Int) (l0_3 : List (S39)) (a1 : Int) : Option (Int × Int) := if a0_2 < 0 then (some (0, 2)) else (if a0_2 > 1000000 then (some (0, 2)) else (if a1 < 0 then (some (0, 2)) else (if a1 > 1000000000000 then (some (0, 2)) else (some (wrap64 (Int.tdiv (wrap64 ((wrap64 ((wrap64 (a1 * a0_2)) + 1000000)) - 1)) 1000000), 0)))))
set_option maxHeartbeats 8000000 in
set_option maxRecDepth 100000 in
theorem customsref21_Required.calls (a0_0 : Int) (a0_1 : Int) (a0_2 : Int) (A0_3 : Option Addr) (c0_3 : Nat) (l0_3 : List (S39)) (a1 : Int) (r1 : Int) (r2 : Int) (w : World) (hr0_3 : Kd.C k39 w A0_3 l0_3.length l0_3) (hc0_3 : l0_3.length ≤ c0_3) (h : customsref21_Required.f a0_0 a0_1 a0_2 l0_3 a1 = some (r1, r2)) :
  Calls Try.prog 18 #[.agg #[.int .i64 a0_0, .int .i64 a0_1, .int .i64 a0_2, .slice A0_3 l0_3.length c0_3], .int .i64 a1] w fun e w' => e = .returned (.tuple #[.int .i64 r1, .int .i64 r2]) ∧ Below w.heap.size w w' := by
 have hu25 := Try.underlying25
 have HR0_3 := Aside0.mk hr0_3
 have HC0_3 := Aside0.mk hc0_3
 clear hr0_3 hc0_3
 have HB := Aside0.mk (Below.refl w.heap.size w)
 have H : (if a0_2 < 0 then (some (0, 2)) else (if a0_2 > 1000000 then (some (0, 2)) else (if a1 < 0 then (some (0, 2)) else (if a1 > 1000000000000 then (some (0, 2)) else (some (wrap64 (Int.tdiv (wrap64 ((wrap64 ((wrap64 (a1 * a0_2)) + 1000000)) - 1)) 1000000), 0)))))) = some (r1, r2) := h
 clear h
 by_cases c3 : a0_2 < 0
 ·rw [if_pos c3] at H
  have c3b0 : decide (a0_2 < 0) = true := decide_eq_true c3
  clear c3
  simp only [Option.some.injEq, Prod.mk.injEq] at H
  obtain ⟨rfl, rfl⟩ := H
  go_enter Try.func18, Try.ntmps18
  go_wp2_with (first | ((with_reducible refine gate_dst (N := 2) rfl ?_); refine box_event ?hg (N := 2) ?hd (cs := #[.int .i64 a0_0, .int .i64 a0_1, .int .i64 a0_2, .slice A0_3 l0_3.length c0_3]) (t := 25) ?hr ?_; (case hd => rfl); (case hg => rfl); (case hr => first | (go_simp; done) | (go_simp; rfl)); intro gb200 hg w4 hbox hb; have qb_ := below_both bel hb; have n0_ := Aside0.mk (qb_.1); have n1_ := Aside0.mk (hbox); have n3_ := Aside0.mk ((by rw [hg]; exact qb_.2 : w.heap.size ≤ gb200)); clear HB; have HB := n0_; have BK200 := n1_; have GE200 := n3_; clear qb_; clear n0_ n1_ n3_; clear hb hbox hg; obtain ⟨hcz5_0, hcz5_1, hcz5_2, hcz5_3, hfz5_0, hfz5_1, hfz5_2, hfz5_3⟩ := cells4 BK200.out))
  go_ret2
  exact ⟨by first | rfl | (simp [errW_none, errW_some] <;> rfl) | (simp [*, errW_none, errW_some] <;> rfl), bel⟩
 ·rw [if_neg c3] at H
  have c3b0 : decide (a0_2 < 0) = false := decide_eq_false c3
  clear c3
  by_cases c6 : a0_2 > 1000000
  ·rw [if_pos c6] at H
   have c6b0 : decide (1000000 < a0_2) = true := decide_eq_true c6
   clear c6
   simp only [Option.some.injEq, Prod.mk.injEq] at H
   obtain ⟨rfl, rfl⟩ := H
   go_enter Try.func18, Try.ntmps18
   go_wp2_with (first | ((with_reducible refine gate_dst (N := 2) rfl ?_); refine box_event ?hg (N := 2) ?hd (cs := #[.int .i64 a0_0, .int .i64 a0_1, .int .i64 a0_2, .slice A0_3 l0_3.length c0_3]) (t := 25) ?hr ?_; (case hd => rfl); (case hg => rfl); (case hr => first | (go_simp; done) | (go_simp; rfl)); intro gb200 hg w7 hbox hb; have qb_ := below_both bel hb; have n0_ := Aside0.mk (qb_.1); have n1_ := Aside0.mk (hbox); have n3_ := Aside0.mk ((by rw [hg]; exact qb_.2 : w.heap.size ≤ gb200)); clear HB; have HB := n0_; have BK200 := n1_; have GE200 := n3_; clear qb_; clear n0_ n1_ n3_; clear hb hbox hg; obtain ⟨hcz8_0, hcz8_1, hcz8_2, hcz8_3, hfz8_0, hfz8_1, hfz8_2, hfz8_3⟩ := cells4 BK200.out))
   go_ret2
   exact ⟨by first | rfl | (simp [errW_none, errW_some] <;> rfl) | (simp [*, errW_none, errW_some] <;> rfl), bel⟩
  ·rw [if_neg c6] at H
   have c6b0 : decide (1000000 < a0_2) = false := decide_eq_false c6
   clear c6
   by_cases c9 : a1 < 0
   ·rw [if_pos c9] at H
    have c9b0 : decide (a1 < 0) = true := decide_eq_true c9
    clear c9
    simp only [Option.some.injEq, Prod.mk.injEq] at H
    obtain ⟨rfl, rfl⟩ := H
    go_enter Try.func18, Try.ntmps18
    go_wp2_with (first | ((with_reducible refine gate_dst (N := 2) rfl ?_); refine box_event ?hg (N := 2) ?hd (cs := #[.int .i64 a0_0, .int .i64 a0_1, .int .i64 a0_2, .slice A0_3 l0_3.length c0_3]) (t := 25) ?hr ?_; (case hd => rfl); (case hg => rfl); (case hr => first | (go_simp; done) | (go_simp; rfl)); intro gb200 hg w10 hbox hb; have qb_ := below_both bel hb; have n0_ := Aside0.mk (qb_.1); have n1_ := Aside0.mk (hbox); have n3_ := Aside0.mk ((by rw [hg]; exact qb_.2 : w.heap.size ≤ gb200)); clear HB; have HB := n0_; have BK200 := n1_; have GE200 := n3_; clear qb_; clear n0_ n1_ n3_; clear hb hbox hg; obtain ⟨hcz11_0, hcz11_1, hcz11_2, hcz11_3, hfz11_0, hfz11_1, hfz11_2, hfz11_3⟩ := cells4 BK200.out))
    go_ret2
    exact ⟨by first | rfl | (simp [errW_none, errW_some] <;> rfl) | (simp [*, errW_none, errW_some] <;> rfl), bel⟩
   ·rw [if_neg c9] at H
    have c9b0 : decide (a1 < 0) = false := decide_eq_false c9
    clear c9
    by_cases c12 : a1 > 1000000000000
    ·rw [if_pos c12] at H
     have c12b0 : decide (1000000000000 < a1) = true := decide_eq_true c12
     clear c12
     simp only [Option.some.injEq, Prod.mk.injEq] at H
     obtain ⟨rfl, rfl⟩ := H
     go_enter Try.func18, Try.ntmps18
     go_wp2_with (first | ((with_reducible refine gate_dst (N := 2) rfl ?_); refine box_event ?hg (N := 2) ?hd (cs := #[.int .i64 a0_0, .int .i64 a0_1, .int .i64 a0_2, .slice A0_3 l0_3.length c0_3]) (t := 25) ?hr ?_; (case hd => rfl); (case hg => rfl); (case hr => first | (go_simp; done) | (go_simp; rfl)); intro gb200 hg w13 hbox hb; have qb_ := below_both bel hb; have n0_ := Aside0.mk (qb_.1); have n1_ := Aside0.mk (hbox); have n3_ := Aside0.mk ((by rw [hg]; exact qb_.2 : w.heap.size ≤ gb200)); clear HB; have HB := n0_; have BK200 := n1_; have GE200 := n3_; clear qb_; clear n0_ n1_ n3_; clear hb hbox hg; obtain ⟨hcz14_0, hcz14_1, hcz14_2, hcz14_3, hfz14_0, hfz14_1, hfz14_2, hfz14_3⟩ := cells4 BK200.out))
     go_ret2
     exact ⟨by first | rfl | (simp [errW_none, errW_some] <;> rfl) | (simp [*, errW_none, errW_some] <;> rfl), bel⟩
    ·rw [if_neg c12] at H
     have c12b0 : decide (1000000000000 < a1) = false := decide_eq_false c12
     clear c12
     simp only [Option.some.injEq, Prod.mk.injEq] at H
     obtain ⟨rfl, rfl⟩ := H
     go_enter Try.func18, Try.ntmps18
     go_wp2_with (first | ((with_reducible refine gate_dst (N := 2) rfl ?_); refine box_event ?hg (N := 2) ?hd (cs := #[.int .i64 a0_0, .int .i64 a0_1, .int .i64 a0_2, .slice A0_3 l0_3.length c0_3]) (t := 25) ?hr ?_; (case hd => rfl); (case hg => rfl); (case hr => first | (go_simp; done) | (go_simp; rfl)); intro gb200 hg w15 hbox hb; have qb_ := below_both bel hb; have n0_ := Aside0.mk (qb_.1); have n1_ := Aside0.mk (hbox); have n3_ := Aside0.mk ((by rw [hg]; exact qb_.2 : w.heap.size ≤ gb200)); clear HB; have HB := n0_; have BK200 := n1_; have GE200 := n3_; clear qb_; clear n0_ n1_ n3_; clear hb hbox hg; obtain ⟨hcz16_0, hcz16_1, hcz16_2, hcz16_3, hfz16_0, hfz16_1, hfz16_2, hfz16_3⟩ := cells4 BK200.out))
     go_ret2
     exact ⟨by first | rfl | (simp [errW_none, errW_some] <;> rfl) | (simp [*, errW_none, errW_some] <;> rfl), bel⟩
def customsref21_SameReservations.l0 : Nat → List (S39) → List (S39) → Int → Option (Bool)
 | 0, _, _, _ => none
 | k + 1, x0, x1, x5 => if x5 < (x0.length : Int) then (if 0 ≤ x5 then (if x5 < (x1.length : Int) then (if (!(((rd_T39 x0 x5).f0) == ((rd_T39 x1 x5).f0)) || (!(((rd_T39 x0 x5).f1) == ((rd_T39 x1 x5).f1)))) = true then (some false) else (customsref21_SameReservations.l0 k x0 x1 (wrap64 (x5 + 1)))) else (none)) else (none)) else (some true)
def customsref21_SameReservations.f (k : Nat) (l0 : List (S39)) (l1 : List (S39)) : Option (Bool) := if (l0.length : Int) = (l1.length : Int) then (customsref21_SameReservations.l0 k l0 l1 0) else (some false)
set_option maxHeartbeats 8000000 in
set_option maxRecDepth 100000 in
theorem customsref21_SameReservations.calls (k : Nat) (A0 : Option Addr) (c0 : Nat) (l0 : List (S39)) (A1 : Option Addr) (c1 : Nat) (l1 : List (S39)) (r : Bool) (w : World) (hr0 : Kd.C k39 w A0 l0.length l0) (hc0 : l0.length ≤ c0) (hr1 : Kd.C k39 w A1 l1.length l1) (hc1 : l1.length ≤ c1) (h : customsref21_SameReservations.f k l0 l1 = some r) :
  Calls Try.prog 41 #[.slice A0 l0.length c0, .slice A1 l1.length c1] w fun e w' => e = .returned (.bool r) ∧ Drawn0 w w' := by
 have hu39 := Try.underlying39
 have HR0 := Aside0.mk hr0
 have HC0 := Aside0.mk hc0
 clear hr0 hc0
 have HR1 := Aside0.mk hr1
 have HC1 := Aside0.mk hc1
 clear hr1 hc1
 have H : (if (l0.length : Int) = (l1.length : Int) then (customsref21_SameReservations.l0 k l0 l1 0) else (some false)) = some r := h
 clear h
 by_cases c3 : (l0.length : Int) = (l1.length : Int)
 ·rw [if_pos c3] at H
  have c3b0 : ((l0.length : Int) == (l1.length : Int)) = true := beq_iff_eq.mpr c3
  have c3b1 : ((l0.length : Int) != (l1.length : Int)) = false := bne_eq_false_iff_eq.mpr c3
  have c3b2 : (l0.length == l1.length) = true := by first | simpa using c3 | (simp at c3 ⊢; omega)
  clear c3
  have H' := Aside0.mk H
  clear H
  go_enter Try.func41, Try.ntmps41
  go_wp2
  repeat (go_quiet (fail); try go_wp2)
  go_loopg [5] k (fun kq v5 w' => ∃ (x5_1 : Int), v5 = .int .i64 x5_1 ∧ Aside0 (customsref21_SameReservations.l0 kq l0 l1 x5_1 = some r) ∧ Aside0 (kq ≤ k) ∧ Drawn0 w w')
  case atStart => exact ⟨(0), (by first | rfl | (simp; done) | (simp [*]; done)), H', ⟨Nat.le_refl _⟩, by repeat (first | exact Drawn0.refl _ | apply Drawn0.step)⟩
  case round =>
   clear H'
   try clear c1
   try clear p2
   try clear c3
   try clear c3b0
   try clear c3b1
   try clear c3b2
   obtain ⟨x5_1, rfl, HA, HK1, ⟨m1, rfl⟩⟩ := hrel
   cases gk with
   | zero => exact absurd HA.out (by simp [customsref21_SameReservations.l0])
   | succ k1 =>
    have H := HA.out
    clear HA
    simp only [customsref21_SameReservations.l0] at H
    by_cases c4 : x5_1 < (l0.length : Int)
    ·rw [if_pos c4] at H
     have c4b0 : decide (x5_1 < (l0.length : Int)) = true := decide_eq_true c4
     clear c4
     by_cases c5 : 0 ≤ x5_1
     ·rw [if_pos c5] at H
      have c5b0 : decide (0 ≤ x5_1) = true := decide_eq_true c5
      clear c5
      by_cases c6 : x5_1 < (l1.length : Int)
      ·rw [if_pos c6] at H
       have c6b0 : decide (x5_1 < (l1.length : Int)) = true := decide_eq_true c6
       clear c6
       by_cases c7 : (!(((rd_T39 l0 x5_1).f0) == ((rd_T39 l1 x5_1).f0)) || (!(((rd_T39 l0 x5_1).f1) == ((rd_T39 l1 x5_1).f1)))) = true
       ·rw [if_pos c7] at H
        have c7b0 : (!(((rd_T39 l0 x5_1).f0) == ((rd_T39 l1 x5_1).f0)) || (!(((rd_T39 l0 x5_1).f1) == ((rd_T39 l1 x5_1).f1)))) = true := c7
        clear c7
        obtain rfl := Option.some.inj H
        have p201 : 0 ≤ (x5_1 : Int) := of_decide_eq_true (by first | (with_reducible assumption) | assumption)
        have q201 : x5_1 < (l0.length : Int) := of_decide_eq_true (by first | (with_reducible assumption) | assumption)
        obtain ⟨ad201, e201, hx201_0, hx201_1⟩ := at_T39 HR0.out x5_1 p201 q201
        cases e201
        replace p201 := eq_true p201
        replace q201 := eq_true q201
        have p202 : 0 ≤ (x5_1 : Int) := of_decide_eq_true (by first | (with_reducible assumption) | assumption)
        have q202 : x5_1 < (l1.length : Int) := of_decide_eq_true (by first | (with_reducible assumption) | assumption)
        obtain ⟨ad202, e202, hx202_0, hx202_1⟩ := at_T39 HR1.out x5_1 p202 q202
        cases e202
        replace p202 := eq_true p202
        replace q202 := eq_true q202
        go_wp2
        repeat (go_quiet (fail); try go_wp2)
        go_ret
        exact ⟨by first | rfl | (simp; done) | (simp [*]; done), by repeat (first | exact Drawn0.refl _ | apply Drawn0.step)⟩
       ·rw [if_neg c7] at H
        have c7b0 : (!(((rd_T39 l0 x5_1).f0) == ((rd_T39 l1 x5_1).f0)) || (!(((rd_T39 l0 x5_1).f1) == ((rd_T39 l1 x5_1).f1)))) = false := by simpa using c7
        clear c7
        have H' := Aside0.mk H
        clear H
        have p201 : 0 ≤ (x5_1 : Int) := of_decide_eq_true (by first | (with_reducible assumption) | assumption)
        have q201 : x5_1 < (l0.length : Int) := of_decide_eq_true (by first | (with_reducible assumption) | assumption)
        obtain ⟨ad201, e201, hx201_0, hx201_1⟩ := at_T39 HR0.out x5_1 p201 q201
        cases e201
        replace p201 := eq_true p201
        replace q201 := eq_true q201
        have p202 : 0 ≤ (x5_1 : Int) := of_decide_eq_true (by first | (with_reducible assumption) | assumption)
        have q202 : x5_1 < (l1.length : Int) := of_decide_eq_true (by first | (with_reducible assumption) | assumption)
        obtain ⟨ad202, e202, hx202_0, hx202_1⟩ := at_T39 HR1.out x5_1 p202 q202
        cases e202
        replace p202 := eq_true p202
        replace q202 := eq_true q202
        go_wp2
        repeat (go_quiet (fail); try go_wp2)
        go_roundg k1
        case measure => have := HK1.out; omega
        case rel => exact ⟨(wrap64 (x5_1 + 1)), (by first | rfl | (simp; done) | (simp [*]; done)), H', ⟨by have := HK1.out; omega⟩, by repeat (first | exact Drawn0.refl _ | apply Drawn0.step)⟩
      ·rw [if_neg c6] at H
       exact absurd H (by simp)
     ·rw [if_neg c5] at H
      exact absurd H (by simp)
    ·rw [if_neg c4] at H
     have c4b0 : decide (x5_1 < (l0.length : Int)) = false := decide_eq_false c4
     clear c4
     obtain rfl := Option.some.inj H
     go_wp2
     repeat (go_quiet (fail); try go_wp2)
     go_ret
     exact ⟨by first | rfl | (simp; done) | (simp [*]; done), by repeat (first | exact Drawn0.refl _ | apply Drawn0.step)⟩
 ·rw [if_neg c3] at H
  have c3b0 : ((l0.length : Int) == (l1.length : Int)) = false := beq_eq_false_iff_ne.mpr c3
  have c3b1 : ((l0.length : Int) != (l1.length : Int)) = true := bne_iff_ne.mpr c3
  have c3b2 : (l0.length == l1.length) = false := by first | simpa using c3 | (simp at c3 ⊢; omega)
  obtain rfl := Option.some.inj H
  go_enter Try.func41, Try.ntmps41
  go_wp2
  repeat (go_quiet (fail); try go_wp2)
  go_ret
  exact ⟨by first | rfl | (simp; done) | (simp [*]; done), by repeat (first | exact Drawn0.refl _ | apply Drawn0.step)⟩
def customsref21_SameGuarantee.f (k : Nat) (a0_0 : Int) (a0_1 : Int) (a0_2 : Int) (l0_3 : List (S39)) (a1_0 : Int) (a1_1 : Int) (a1_2 : Int) (l1_3 : List (S39)) : Option (Bool) := if a0_0 = a1_0 then (if a0_1 = a1_1 then (if a0_2 = a1_2 then ((customsref21_SameReservations.f k l0_3 l1_3).bind fun t205 => (some t205)) else (some false)) else (some false)) else (some false)
set_option maxHeartbeats 8000000 in
set_option maxRecDepth 100000 in
theorem customsref21_SameGuarantee.calls (k : Nat) (a0_0 : Int) (a0_1 : Int) (a0_2 : Int) (A0_3 : Option Addr) (c0_3 : Nat) (l0_3 : List (S39)) (a1_0 : Int) (a1_1 : Int) (a1_2 : Int) (A1_3 : Option Addr) (c1_3 : Nat) (l1_3 : List (S39)) (r : Bool) (w : World) (hr0_3 : Kd.C k39 w A0_3 l0_3.length l0_3) (hc0_3 : l0_3.length ≤ c0_3) (hr1_3 : Kd.C k39 w A1_3 l1_3.length l1_3) (hc1_3 : l1_3.length ≤ c1_3) (h : customsref21_SameGuarantee.f k a0_0 a0_1 a0_2 l0_3 a1_0 a1_1 a1_2 l1_3 = some r) :
  Calls Try.prog 21 #[.agg #[.int .i64 a0_0, .int .i64 a0_1, .int .i64 a0_2, .slice A0_3 l0_3.length c0_3], .agg #[.int .i64 a1_0, .int .i64 a1_1, .int .i64 a1_2, .slice A1_3 l1_3.length c1_3]] w fun e w' => e = .returned (.bool r) ∧ Below w.heap.size w w' := by
 have hu25 := Try.underlying25
 have HR0_3 := Aside0.mk hr0_3
 have HC0_3 := Aside0.mk hc0_3
 clear hr0_3 hc0_3
 have HR1_3 := Aside0.mk hr1_3
 have HC1_3 := Aside0.mk hc1_3
 clear hr1_3 hc1_3
 have HB := Aside0.mk (Below.refl w.heap.size w)
 have H : (if a0_0 = a1_0 then (if a0_1 = a1_1 then (if a0_2 = a1_2 then ((customsref21_SameReservations.f k l0_3 l1_3).bind fun t205 => (some t205)) else (some false)) else (some false)) else (some false)) = some r := h
 clear h
 by_cases c3 : a0_0 = a1_0
 ·rw [if_pos c3] at H
  have c3b0 : (a0_0 == a1_0) = true := beq_iff_eq.mpr c3
  have c3b1 : (a0_0 != a1_0) = false := bne_eq_false_iff_eq.mpr c3
  clear c3
  by_cases c4 : a0_1 = a1_1
  ·rw [if_pos c4] at H
   have c4b0 : (a0_1 == a1_1) = true := beq_iff_eq.mpr c4
   have c4b1 : (a0_1 != a1_1) = false := bne_eq_false_iff_eq.mpr c4
   clear c4
   by_cases c5 : a0_2 = a1_2
   ·rw [if_pos c5] at H
    have c5b0 : (a0_2 == a1_2) = true := beq_iff_eq.mpr c5
    have c5b1 : (a0_2 != a1_2) = false := bne_eq_false_iff_eq.mpr c5
    clear c5
    replace H := Option.bind_eq_some_iff.mp H
    obtain ⟨t205, A60, H⟩ := H
    replace H : (some t205) = some r := H
    have A6 := Aside0.mk A60
    clear A60
    obtain rfl := Option.some.inj H
    go_enter Try.func21, Try.ntmps21
    go_wp2_with (first | ((with_reducible refine gate_dst (N := 2) rfl ?_); refine box_event ?hg (N := 2) ?hd (cs := #[.int .i64 a0_0, .int .i64 a0_1, .int .i64 a0_2, .slice A0_3 l0_3.length c0_3]) (t := 25) ?hr ?_; (case hd => rfl); (case hg => rfl); (case hr => first | (go_simp; done) | (go_simp; rfl)); intro gb203 hg w7 hbox hb; have qb_ := below_both bel hb; have n0_ := Aside0.mk (qb_.1); have n1_ := Aside0.mk (hbox); have n3_ := Aside0.mk ((by rw [hg]; exact qb_.2 : w.heap.size ≤ gb203)); clear HB; have HB := n0_; have BK203 := n1_; have GE203 := n3_; clear qb_; clear n0_ n1_ n3_; clear hb hbox hg) | ((with_reducible refine gate_dst (N := 3) rfl ?_); refine box_event ?hg (N := 3) ?hd (cs := #[.int .i64 a1_0, .int .i64 a1_1, .int .i64 a1_2, .slice A1_3 l1_3.length c1_3]) (t := 25) ?hr ?_; (case hd => rfl); (case hg => rfl); (case hr => first | (go_simp; done) | (go_simp; rfl)); intro gb204 hg w8 hbox hb; have qb_ := below_both bel hb; have q1_ := blk_below2 (g := gb203) (o := .cells #[.int .i64 a0_0, .int .i64 a0_1, .int .i64 a0_2, .slice A0_3 l0_3.length c0_3] 25 (0, 0)) blkx hb; have n0_ := Aside0.mk (q1_.1); have n1_ := Aside0.mk (qb_.1); have n2_ := Aside0.mk (hbox); have n4_ := Aside0.mk ((by rw [hg]; exact qb_.2 : w.heap.size ≤ gb204)); have n5_ := Aside0.mk ((by rw [hg]; exact Nat.ne_of_lt q1_.2 : gb203 ≠ gb204)); have n6_ := Aside0.mk (Ne.symm n5_.out); clear BK203; clear HB; have BK203 := n0_; have HB := n1_; have BK204 := n2_; have GE204 := n4_; have NB203_204 := n5_; have NB204_203 := n6_; clear q1_; clear qb_; clear n0_ n1_ n2_ n4_ n5_ n6_; clear hb hbox hg; have hnb9 := NB203_204.out; have hnc9 := NB204_203.out; obtain ⟨hcz10_0, hcz10_1, hcz10_2, hcz10_3, hfz10_0, hfz10_1, hfz10_2, hfz10_3⟩ := cells4 BK203.out; obtain ⟨hcz11_0, hcz11_1, hcz11_2, hcz11_3, hfz11_0, hfz11_1, hfz11_2, hfz11_3⟩ := cells4 BK204.out) | (go_at_call 41; (with_reducible refine (customsref21_SameReservations.calls k _ _ l0_3 _ _ l1_3 t205 _ ?side1 ?side2 ?side3 ?side4 A6.out).mono ?_); (case side1 => repeat (first | exact (Kd.C_below HR0_3.out HB.out) | (with_reducible refine Kd.C_alloc ?_ _) | (with_reducible refine Kd.C_drewN ?_ _) | (with_reducible refine Kd.C_drew ?_))); (case side2 => exact HC0_3.out); (case side3 => repeat (first | exact (Kd.C_below HR1_3.out HB.out) | (with_reducible refine Kd.C_alloc ?_ _) | (with_reducible refine Kd.C_drewN ?_ _) | (with_reducible refine Kd.C_drew ?_))); (case side4 => exact HC1_3.out); rintro e w' ⟨rfl, ⟨nd, rfl⟩⟩))
    go_ret
    exact ⟨by first | rfl | (simp [errW_none, errW_some] <;> rfl) | (simp [*, errW_none, errW_some] <;> rfl), bel⟩
   ·rw [if_neg c5] at H
    have c5b0 : (a0_2 == a1_2) = false := beq_eq_false_iff_ne.mpr c5
    have c5b1 : (a0_2 != a1_2) = true := bne_iff_ne.mpr c5
    obtain rfl := Option.some.inj H
    go_enter Try.func21, Try.ntmps21
    go_wp2_with (first | ((with_reducible refine gate_dst (N := 2) rfl ?_); refine box_event ?hg (N := 2) ?hd (cs := #[.int .i64 a0_0, .int .i64 a0_1, .int .i64 a0_2, .slice A0_3 l0_3.length c0_3]) (t := 25) ?hr ?_; (case hd => rfl); (case hg => rfl); (case hr => first | (go_simp; done) | (go_simp; rfl)); intro gb203 hg w12 hbox hb; have qb_ := below_both bel hb; have n0_ := Aside0.mk (qb_.1); have n1_ := Aside0.mk (hbox); have n3_ := Aside0.mk ((by rw [hg]; exact qb_.2 : w.heap.size ≤ gb203)); clear HB; have HB := n0_; have BK203 := n1_; have GE203 := n3_; clear qb_; clear n0_ n1_ n3_; clear hb hbox hg) | ((with_reducible refine gate_dst (N := 3) rfl ?_); refine box_event ?hg (N := 3) ?hd (cs := #[.int .i64 a1_0, .int .i64 a1_1, .int .i64 a1_2, .slice A1_3 l1_3.length c1_3]) (t := 25) ?hr ?_; (case hd => rfl); (case hg => rfl); (case hr => first | (go_simp; done) | (go_simp; rfl)); intro gb204 hg w13 hbox hb; have qb_ := below_both bel hb; have q1_ := blk_below2 (g := gb203) (o := .cells #[.int .i64 a0_0, .int .i64 a0_1, .int .i64 a0_2, .slice A0_3 l0_3.length c0_3] 25 (0, 0)) blkx hb; have n0_ := Aside0.mk (q1_.1); have n1_ := Aside0.mk (qb_.1); have n2_ := Aside0.mk (hbox); have n4_ := Aside0.mk ((by rw [hg]; exact qb_.2 : w.heap.size ≤ gb204)); have n5_ := Aside0.mk ((by rw [hg]; exact Nat.ne_of_lt q1_.2 : gb203 ≠ gb204)); have n6_ := Aside0.mk (Ne.symm n5_.out); clear BK203; clear HB; have BK203 := n0_; have HB := n1_; have BK204 := n2_; have GE204 := n4_; have NB203_204 := n5_; have NB204_203 := n6_; clear q1_; clear qb_; clear n0_ n1_ n2_ n4_ n5_ n6_; clear hb hbox hg; have hnb14 := NB203_204.out; have hnc14 := NB204_203.out; obtain ⟨hcz15_0, hcz15_1, hcz15_2, hcz15_3, hfz15_0, hfz15_1, hfz15_2, hfz15_3⟩ := cells4 BK203.out; obtain ⟨hcz16_0, hcz16_1, hcz16_2, hcz16_3, hfz16_0, hfz16_1, hfz16_2, hfz16_3⟩ := cells4 BK204.out))
    go_ret
    exact ⟨by first | rfl | (simp [errW_none, errW_some] <;> rfl) | (simp [*, errW_none, errW_some] <;> rfl), bel⟩
  ·rw [if_neg c4] at H
   have c4b0 : (a0_1 == a1_1) = false := beq_eq_false_iff_ne.mpr c4
   have c4b1 : (a0_1 != a1_1) = true := bne_iff_ne.mpr c4
   obtain rfl := Option.some.inj H
   go_enter Try.func21, Try.ntmps21
   go_wp2_with (first | ((with_reducible refine gate_dst (N := 2) rfl ?_); refine box_event ?hg (N := 2) ?hd (cs := #[.int .i64 a0_0, .int .i64 a0_1, .int .i64 a0_2, .slice A0_3 l0_3.length c0_3]) (t := 25) ?hr ?_; (case hd => rfl); (case hg => rfl); (case hr => first | (go_simp; done) | (go_simp; rfl)); intro gb203 hg w17 hbox hb; have qb_ := below_both bel hb; have n0_ := Aside0.mk (qb_.1); have n1_ := Aside0.mk (hbox); have n3_ := Aside0.mk ((by rw [hg]; exact qb_.2 : w.heap.size ≤ gb203)); clear HB; have HB := n0_; have BK203 := n1_; have GE203 := n3_; clear qb_; clear n0_ n1_ n3_; clear hb hbox hg) | ((with_reducible refine gate_dst (N := 3) rfl ?_); refine box_event ?hg (N := 3) ?hd (cs := #[.int .i64 a1_0, .int .i64 a1_1, .int .i64 a1_2, .slice A1_3 l1_3.length c1_3]) (t := 25) ?hr ?_; (case hd => rfl); (case hg => rfl); (case hr => first | (go_simp; done) | (go_simp; rfl)); intro gb204 hg w18 hbox hb; have qb_ := below_both bel hb; have q1_ := blk_below2 (g := gb203) (o := .cells #[.int .i64 a0_0, .int .i64 a0_1, .int .i64 a0_2, .slice A0_3 l0_3.length c0_3] 25 (0, 0)) blkx hb; have n0_ := Aside0.mk (q1_.1); have n1_ := Aside0.mk (qb_.1); have n2_ := Aside0.mk (hbox); have n4_ := Aside0.mk ((by rw [hg]; exact qb_.2 : w.heap.size ≤ gb204)); have n5_ := Aside0.mk ((by rw [hg]; exact Nat.ne_of_lt q1_.2 : gb203 ≠ gb204)); have n6_ := Aside0.mk (Ne.symm n5_.out); clear BK203; clear HB; have BK203 := n0_; have HB := n1_; have BK204 := n2_; have GE204 := n4_; have NB203_204 := n5_; have NB204_203 := n6_; clear q1_; clear qb_; clear n0_ n1_ n2_ n4_ n5_ n6_; clear hb hbox hg; have hnb19 := NB203_204.out; have hnc19 := NB204_203.out; obtain ⟨hcz20_0, hcz20_1, hcz20_2, hcz20_3, hfz20_0, hfz20_1, hfz20_2, hfz20_3⟩ := cells4 BK203.out; obtain ⟨hcz21_0, hcz21_1, hcz21_2, hcz21_3, hfz21_0, hfz21_1, hfz21_2, hfz21_3⟩ := cells4 BK204.out))
   go_ret
   exact ⟨by first | rfl | (simp [errW_none, errW_some] <;> rfl) | (simp [*, errW_none, errW_some] <;> rfl), bel⟩
 ·rw [if_neg c3] at H
  have c3b0 : (a0_0 == a1_0) = false := beq_eq_false_iff_ne.mpr c3
  have c3b1 : (a0_0 != a1_0) = true := bne_iff_ne.mpr c3
  obtain rfl := Option.some.inj H
  go_enter Try.func21, Try.ntmps21
  go_wp2_with (first | ((with_reducible refine gate_dst (N := 2) rfl ?_); refine box_event ?hg (N := 2) ?hd (cs := #[.int .i64 a0_0, .int .i64 a0_1, .int .i64 a0_2, .slice A0_3 l0_3.length c0_3]) (t := 25) ?hr ?_; (case hd => rfl); (case hg => rfl); (case hr => first | (go_simp; done) | (go_simp; rfl)); intro gb203 hg w22 hbox hb; have qb_ := below_both bel hb; have n0_ := Aside0.mk (qb_.1); have n1_ := Aside0.mk (hbox); have n3_ := Aside0.mk ((by rw [hg]; exact qb_.2 : w.heap.size ≤ gb203)); clear HB; have HB := n0_; have BK203 := n1_; have GE203 := n3_; clear qb_; clear n0_ n1_ n3_; clear hb hbox hg) | ((with_reducible refine gate_dst (N := 3) rfl ?_); refine box_event ?hg (N := 3) ?hd (cs := #[.int .i64 a1_0, .int .i64 a1_1, .int .i64 a1_2, .slice A1_3 l1_3.length c1_3]) (t := 25) ?hr ?_; (case hd => rfl); (case hg => rfl); (case hr => first | (go_simp; done) | (go_simp; rfl)); intro gb204 hg w23 hbox hb; have qb_ := below_both bel hb; have q1_ := blk_below2 (g := gb203) (o := .cells #[.int .i64 a0_0, .int .i64 a0_1, .int .i64 a0_2, .slice A0_3 l0_3.length c0_3] 25 (0, 0)) blkx hb; have n0_ := Aside0.mk (q1_.1); have n1_ := Aside0.mk (qb_.1); have n2_ := Aside0.mk (hbox); have n4_ := Aside0.mk ((by rw [hg]; exact qb_.2 : w.heap.size ≤ gb204)); have n5_ := Aside0.mk ((by rw [hg]; exact Nat.ne_of_lt q1_.2 : gb203 ≠ gb204)); have n6_ := Aside0.mk (Ne.symm n5_.out); clear BK203; clear HB; have BK203 := n0_; have HB := n1_; have BK204 := n2_; have GE204 := n4_; have NB203_204 := n5_; have NB204_203 := n6_; clear q1_; clear qb_; clear n0_ n1_ n2_ n4_ n5_ n6_; clear hb hbox hg; have hnb24 := NB203_204.out; have hnc24 := NB204_203.out; obtain ⟨hcz25_0, hcz25_1, hcz25_2, hcz25_3, hfz25_0, hfz25_1, hfz25_2, hfz25_3⟩ := cells4 BK203.out; obtain ⟨hcz26_0, hcz26_1, hcz26_2, hcz26_3, hfz26_0, hfz26_1, hfz26_2, hfz26_3⟩ := cells4 BK204.out))
  go_ret
  exact ⟨by first | rfl | (simp [errW_none, errW_some] <;> rfl) | (simp [*, errW_none, errW_some] <;> rfl), bel⟩
def customsref21_without.l0 : Nat → List (S39) → Int → List (S39) → Int → Int → Option ((List (S39)) × Int)
 | 0, _, _, _, _, _ => none
 | k + 1, x0, x1, x6, x7, x8 => if x8 < (x0.length : Int) then (if 0 ≤ x8 then (if ((rd_T39 x0 x8).f0) = x1 then (customsref21_without.l0 k x0 x1 x6 ((rd_T39 x0 x8).f1) (wrap64 (x8 + 1))) else (if x6.length < 8796093022208 then (customsref21_without.l0 k x0 x1 (x6 ++ [(⟨(rd_T39 x0 x8).f0, (rd_T39 x0 x8).f1⟩ : S39)]) x7 (wrap64 (x8 + 1))) else (none))) else (none)) else (some (x6, x7))
def customsref21_without.f (k : Nat) (l0 : List (S39)) (a1 : Int) : Option ((List (S39)) × Int) := customsref21_without.l0 k l0 a1 ([] : List (S39)) (-1) 0
set_option maxHeartbeats 8000000 in
set_option maxRecDepth 100000 in
theorem customsref21_without.calls (k : Nat) (A0 : Option Addr) (c0 : Nat) (l0 : List (S39)) (a1 : Int) (r1 : List (S39)) (r2 : Int) (w : World) (hr0 : Kd.C k39 w A0 l0.length l0) (hc0 : l0.length ≤ c0) (h : customsref21_without.f k l0 a1 = some (r1, r2)) :
  Calls Try.prog 42 #[.slice A0 l0.length c0, .int .i64 a1] w fun e w' => ∃ v0_ : Value, e = .returned (.tuple #[v0_, .int .i64 r2]) ∧ Kd.R k39 39 w' w.heap.size (fun _ => True) v0_ r1 ∧ Below w.heap.size w w' := by
 have hu39 := Try.underlying39
 have HR0 := Aside0.mk hr0
 have HC0 := Aside0.mk hc0
 clear hr0 hc0
 have HB := Aside0.mk (Below.refl w.heap.size w)
 have H : (customsref21_without.l0 k l0 a1 ([] : List (S39)) (-1) 0) = some (r1, r2) := h
 clear h
 have H' := Aside0.mk H
 clear H
 go_enter Try.func42, Try.ntmps42
 go_wp2
 go_loopg [6, 7, 8] k (fun kq v6 v7 v8 w' => ∃ (x6_1 : List (S39)) (x7_1 : Int) (x8_1 : Int), v7 = .int .i64 x7_1 ∧ v8 = .int .i64 x8_1 ∧ Aside0 (customsref21_without.l0 kq l0 a1 x6_1 x7_1 x8_1 = some (r1, r2)) ∧ Aside0 (kq ≤ k) ∧ Aside0 (Kd.R k39 39 w' w.heap.size (fun _ => True) v6 x6_1) ∧ Aside0 (Below w.heap.size w w'))
 case atStart => exact ⟨(([] : List (S39))), ((-1)), (0), (by first | rfl | (simp; done) | (simp [*]; done)), (by first | rfl | (simp; done) | (simp [*]; done)), H', ⟨Nat.le_refl _⟩, ⟨by first | exact Kd.R_nil _ _ _ _ _ | exact Kd.N_nil _ _ _ _ _ | exact Kd.V_nil _ _ _ _ _ | exact Kd.Q_nil _ _ _ _ _ | exact Kd.S_nil _ _ _ _ _⟩, ⟨bel⟩⟩
 case round =>
  clear H'
  try clear p2
  obtain ⟨x6_1, x7_1, x8_1, rfl, rfl, HA, HK1, HO_6, HB⟩ := hrel
  cases gk with
  | zero => exact absurd HA.out (by simp [customsref21_without.l0])
  | succ k1 =>
   have H := HA.out
   clear HA
   simp only [customsref21_without.l0] at H
   by_cases c3 : x8_1 < (l0.length : Int)
   ·rw [if_pos c3] at H
    have c3b0 : decide (x8_1 < (l0.length : Int)) = true := decide_eq_true c3
    clear c3
    by_cases c4 : 0 ≤ x8_1
    ·rw [if_pos c4] at H
     have c4b0 : decide (0 ≤ x8_1) = true := decide_eq_true c4
     clear c4
     by_cases c5 : ((rd_T39 l0 x8_1).f0) = a1
     ·rw [if_pos c5] at H
      have c5b0 : (((rd_T39 l0 x8_1).f0) == a1) = true := beq_iff_eq.mpr c5
      have c5b1 : (((rd_T39 l0 x8_1).f0) != a1) = false := bne_eq_false_iff_eq.mpr c5
      clear c5
      have H' := Aside0.mk H
      clear H
      have p206 : 0 ≤ (x8_1 : Int) := of_decide_eq_true (by first | (with_reducible assumption) | assumption)
      have q206 : x8_1 < (l0.length : Int) := of_decide_eq_true (by first | (with_reducible assumption) | assumption)
      obtain ⟨ad206, e206, hx206_0, hx206_1⟩ := at_T39 HR0.out x8_1 p206 q206
      cases e206
      replace hx206_0 := (HB.out.cell (World.block_lt_of_cell? w _ hx206_0)).trans hx206_0
      replace hx206_1 := (HB.out.cell (World.block_lt_of_cell? w _ hx206_1)).trans hx206_1
      replace p206 := eq_true p206
      replace q206 := eq_true q206
      have p207 : 0 ≤ (x8_1 : Int) := of_decide_eq_true (by first | (with_reducible assumption) | assumption)
      have q207 : x8_1 < (l0.length : Int) := of_decide_eq_true (by first | (with_reducible assumption) | assumption)
      obtain ⟨ad207, e207, hx207_0, hx207_1⟩ := at_T39 HR0.out x8_1 p207 q207
      obtain rfl : ad206 = ad207 := (by injection e207)
      replace hx207_0 := (HB.out.cell (World.block_lt_of_cell? w _ hx207_0)).trans hx207_0
      replace hx207_1 := (HB.out.cell (World.block_lt_of_cell? w _ hx207_1)).trans hx207_1
      replace p207 := eq_true p207
      replace q207 := eq_true q207
      go_wp2
      go_roundg k1
      case measure => have := HK1.out; omega
      case rel => exact ⟨(x6_1), ((rd_T39 l0 x8_1).f1), (wrap64 (x8_1 + 1)), (by first | rfl | (simp; done) | (simp [*]; done)), (by first | rfl | (simp; done) | (simp [*]; done)), H', ⟨by have := HK1.out; omega⟩, ⟨by (with_reducible repeat (first | apply Kd.R_alloc | apply Kd.R_drewN | apply Kd.R_drew)); exact HO_6.out⟩, ⟨bel⟩⟩
     ·rw [if_neg c5] at H
      have c5b0 : (((rd_T39 l0 x8_1).f0) == a1) = false := beq_eq_false_iff_ne.mpr c5
      have c5b1 : (((rd_T39 l0 x8_1).f0) != a1) = true := bne_iff_ne.mpr c5
      by_cases c6 : x6_1.length < 8796093022208
      ·rw [if_pos c6] at H
       have LMc6 := Aside0.mk c6
       clear c6
       obtain ⟨y209, hy209⟩ : ∃ y_ : List (S39), y_ = (x6_1 ++ [(⟨(rd_T39 l0 x8_1).f0, (rd_T39 l0 x8_1).f1⟩ : S39)]) := ⟨_, rfl⟩
       replace H : (customsref21_without.l0 k1 l0 a1 y209 x7_1 (wrap64 (x8_1 + 1))) = some (r1, r2) := by first | (rw [hy209]; with_reducible exact H) | (have H2_ := (Option.bind_some _ _).symm.trans H; rw [hy209]; with_reducible exact H2_) | (have H2_ := (Option.bind_some _ _).symm.trans H; with_reducible exact H2_) | with_reducible exact H | (rw [hy209]; exact H) | exact H
       have Ny209 := Aside0.mk hy209
       clear hy209
       have H' := Aside0.mk H
       clear H
       have p206 : 0 ≤ (x8_1 : Int) := of_decide_eq_true (by first | (with_reducible assumption) | assumption)
       have q206 : x8_1 < (l0.length : Int) := of_decide_eq_true (by first | (with_reducible assumption) | assumption)
       obtain ⟨ad206, e206, hx206_0, hx206_1⟩ := at_T39 HR0.out x8_1 p206 q206
       cases e206
       replace hx206_0 := (HB.out.cell (World.block_lt_of_cell? w _ hx206_0)).trans hx206_0
       replace hx206_1 := (HB.out.cell (World.block_lt_of_cell? w _ hx206_1)).trans hx206_1
       replace p206 := eq_true p206
       replace q206 := eq_true q206
       have p208 : 0 ≤ (x8_1 : Int) := of_decide_eq_true (by first | (with_reducible assumption) | assumption)
       have q208 : x8_1 < (l0.length : Int) := of_decide_eq_true (by first | (with_reducible assumption) | assumption)
       obtain ⟨ad208, e208, hx208_0, hx208_1⟩ := at_T39 HR0.out x8_1 p208 q208
       obtain rfl : ad206 = ad208 := (by injection e208)
       replace hx208_0 := (HB.out.cell (World.block_lt_of_cell? w _ hx208_0)).trans hx208_0
       replace hx208_1 := (HB.out.cell (World.block_lt_of_cell? w _ hx208_1)).trans hx208_1
       replace p208 := eq_true p208
       replace q208 := eq_true q208
       go_wp2_with (first | ((with_reducible refine gate_builtin (b := .append) (xs := #[.tmp 27, .tmp 32]) rfl ?_); at_builtin; refine Kd.R_append k39 (w0 := w) w.heap.size rfl (.tmp 27) (.tmp 32) 23 39 (.agg #[(.int .i64 0), (.int .i64 0)]) 16 rfl Try.underlying23 info39 rfl (by decide) (by omega) u6 x6_1 (⟨(rd_T39 l0 x8_1).f0, (rd_T39 l0 x8_1).f1⟩ : S39) [.int .i64 ((rd_T39 l0 x8_1).f0), .int .i64 ((rd_T39 l0 x8_1).f1)] (fun _ => True) (fun _ => False) rfl rfl ?aP (fun _ hk => hk.elim) ?aF ?aO ?aB ?aS ?aL ?_; (case aP => exact k39_mkM _ _ _ (⟨(rd_T39 l0 x8_1).f0, (rd_T39 l0 x8_1).f1⟩ : S39)); (case aB => exact bel); (case aF => exact (fun _ _ => trivial)); (case aO => exact (rowx HO_6.out)); (case aS => exact (below_size bel)); (case aL => have := LMc6.out; omega); intro v210 w7 ho hb hg hat; rw [← Ny209.out] at ho; have n0_ := Aside0.mk (hb); have n1_ := Aside0.mk (ho); clear HB; clear HO_6; have HB := n0_; have HO211 := n1_; clear n0_ n1_; clear ho hb hg hat))
       go_roundg k1
       case measure => have := HK1.out; omega
       case rel => exact ⟨(y209), (x7_1), (wrap64 (x8_1 + 1)), (by first | rfl | (simp; done) | (simp [*]; done)), (by first | rfl | (simp; done) | (simp [*]; done)), H', ⟨by have := HK1.out; omega⟩, ⟨by (with_reducible repeat (first | apply Kd.R_alloc | apply Kd.R_drewN | apply Kd.R_drew)); exact HO211.out⟩, ⟨bel⟩⟩
      ·rw [if_neg c6] at H
       exact absurd H (by simp)
    ·rw [if_neg c4] at H
     exact absurd H (by simp)
   ·rw [if_neg c3] at H
    have c3b0 : decide (x8_1 < (l0.length : Int)) = false := decide_eq_false c3
    clear c3
    simp only [Option.some.injEq, Prod.mk.injEq] at H
    obtain ⟨rfl, rfl⟩ := H
    go_wp2
    go_ret2
    exact ⟨_, by first | rfl | (simp [errW_none, errW_some] <;> rfl) | (simp [*, errW_none, errW_some] <;> rfl), by (with_reducible repeat (first | apply Kd.R_alloc | apply Kd.R_drewN | apply Kd.R_drew)); exact HO_6.out, bel⟩
end Go.Proofs.Ytakhjhiofmgpnaa.PA
/- Cells, plain laws: a copy of elements of any size; elements put into a row; a row that has been written twice. -/
namespace Go.Proofs.Ytakhjhiofmgpnaa.G
open Go.RowKit Go.Proofs Go.Proofs.YtakhjhiofmgpnaaW.PrintWords Go.Proofs.YtakhjhiofmgpnaaW.PrintWords.Kd Go.Proofs.YtakhjhiofmgpnaaW.PrintLast Go.Proofs.YtakhjhiofmgpnaaW.PrintMore
set_option linter.unusedVariables false
set_option linter.unusedSimpArgs false
/-- 'copy' at elements of k cells. -/
theorem run_copy_k {P : Program} (w : World) (dT sT ty elem : TypeId) (g o dLen dCap : Nat) (a : Addr) (sLen sCap : Nat) (cur : Array Value) (t : TypeId) (cs : List Value) (k m : Nat)
    (hu : P.underlying dT = some (.slice elem)) (hs : (P.info? elem).map (·.size) = some k) (hm : m = Nat.min sLen dLen)
    (hg : w.heap[g]? = some (.cells cur t (0, 0))) (hn : cs.length = m * k)
    (hsrc : ∀ j v, cs[j]? = some v → w.cell? (a.add j) = some v) (hfit : o + cs.length ≤ cur.size) (h1 : ∀ v ∈ cs, v.oneCell' = true) :
    (Builtin.copy_ #[dT, sT] ty #[.slice (some ⟨g, o, none⟩) dLen dCap, .slice (some a) sLen sCap]).run P w =
      .ok (goInt m) (w.setRow g (splice cur.toList o cs).toArray) := by
  have hl := run_loadCells_list (P := P) w a cs hsrc
  have hst := run_storeCells_at P g o t cs 0 cur w hg (by simpa using hfit) h1
  rw [hn] at hl
  cases hq : P.info? elem with
  | none => simp [hq] at hs
  | some i =>
    have hi : i.size = k := by simpa [hq] using hs
    simp [Builtin.copy_, run_underlying hu, Builtin.lenOf, Builtin.firstCells, sizeOf, typeInfo, hq, hi, ← hm, hl, hst, splice]
theorem flat_M {α : Type} {d : Kd α} (hE : d.E = []) {w w1 : World} {b b1 : Nat} {ok ok1 : Nat → Prop} {x : α} {cs : List Value} (h : d.M w b ok x cs) (hb : b1 ≤ b) : d.M w1 b1 ok1 x cs := by
  have h1 : d.M w b (fun _ => False) x cs := d.M_mono (fun k hk => by
    obtain ⟨_, _, _, q, hq, _⟩ := hk
    rw [hE] at hq
    cases hq) (d.M_bound h)
  have h2 : d.M w1 b (fun _ => False) x cs := d.M_move (fun k hk => hk.elim) h1
  exact d.M_lower hb (d.M_mono (fun k hk => hk.elim) h2)
theorem reps_mid {α : Type} {R : α → List Value → Prop} {sz : Nat} {ps qs : List α} {cs ds : List Value} (h : Reps R sz ps cs) (h' : Reps R sz qs ds) (i : Nat) (hi : i ≤ ps.length) :
    Reps R sz (ps.take i ++ qs ++ ps.drop i) (cs.take (i * sz) ++ ds ++ cs.drop (i * sz)) :=
  reps_append (reps_append (reps_take h hi) h') (reps_drop h)
theorem info39 : (Try.prog.info? 39).map (fun i => (i.zero, i.size, i.bytes)) = some (some (.agg #[(.int .i64 0), (.int .i64 0)]), 2, 16) := by kernel_rfl
set_option maxHeartbeats 4000000 in
set_option maxRecDepth 100000 in
/-- slices.Insert of one element: THERE IS ROOM, i < len(s): in place. -/
theorem ins_shift (g n c i vb vc : Nat) (cur curv : Array Value) (w : World) (hi : i < n) (hroom : n + 1 ≤ c) (hc63 : c ≤ 9223372036854775807) (hvb : vb ≠ g)
    (hg : w.heap[g]? = some (.cells cur 39 (0, 0))) (hsz : cur.size = c * 2) (hv : w.heap[vb]? = some (.cells curv 39 (0, 0))) (hvz : 2 ≤ curv.size)
    (h1c : ∀ v ∈ cur.toList.take (n * 2), v.oneCell' = true) (h1v : ∀ v ∈ curv.toList.take 2, v.oneCell' = true) (R1 R2 : List Value)
    (hR1 : R1 = splice cur.toList ((i + 1) * 2) ((cur.toList.take (n * 2)).drop (i * 2))) (hR2 : R2 = splice R1 (i * 2) (curv.toList.take 2)) :
    Calls Try.prog 39 #[.slice (some ⟨g, 0, none⟩) n c, .int .i64 i, .slice (some ⟨vb, 0, none⟩) 1 vc] w fun e w' =>
      e = .returned (.slice (some ⟨g, 0, none⟩) (n + 1) c) ∧ w' = (w.drew.setRow g R1.toArray).setRow g R2.toArray := by
  have u23 := Try.underlying23
  obtain ⟨i39, hq39, hs39⟩ : ∃ i, Try.prog.info? 39 = some i ∧ i.size = 2 := by
    have := info39
    cases hq : Try.prog.info? 39 with
    | none => simp [hq] at this
    | some x => exact ⟨x, rfl, by simp [hq] at this; exact this.2.1⟩
  have hsz39 : (Try.prog.info? 39).map (·.size) = some 2 := by kernel_rfl
  have hz2 : ¬ ((i : Int) = (n : Int)) := by omega
  have hov : ∀ lb cb, (callFunc 49 #[.slice (some ⟨vb, 0, none⟩) 1 vc, .slice (some ⟨g, (i + 1) * 2, none⟩) lb cb]).run Try.prog w = .ok (.value (.bool false)) w := fun lb cb => by
    rw [run_callFunc_extern Try.func49 (by kernel_rfl) (by kernel_rfl) (by kernel_rfl) (e := Extern.SlicesOverlaps.overlaps #[23, 23] #[4]) (by kernel_rfl),
      Lib.run_overlaps_apart w 23 4 39 u23 2 (fun w => by simp [sizeOf, typeInfo, hq39, hs39]) ⟨vb, 0, none⟩ ⟨g, (i + 1) * 2, none⟩ 1 vc lb cb hvb 39 39 curv.size cur.size (by simp [World.shape?, hv]) (by simp [World.shape?, hg]) (by omega) (by simp [World.frozen?, hv]) (by simp [World.frozen?, hv])]
    rfl
  have mixed : Try.prog.follows Departure.mixedOrders = true := by kernel_rfl
  have hw1 : IntKind.i64.wrap ((i : Int) + 1) = (i : Int) + 1 := by rw [IntKind.wrap_i64]; omega
  have hb1 : (0 : Int) ≤ (i : Int) + 1 := by omega
  have hin : i ≤ n := by omega
  have htn : ((i : Int) + 1).toNat = i + 1 := by omega
  have hb2 : ¬ (c = i + 1) := by omega
  have hb3 : (i : Int) ≤ (n : Int) + 1 := by omega
  have hb4 : ¬ (c = i) := by omega
  have hc0 : cur.toList.length = c * 2 := by simpa using hsz
  have hcell : ∀ j, w.cell? ⟨g, j, none⟩ = cur[j]? := fun j => cell_of_row w g j cur 39 (0, 0) hg
  have hcp1 : ∀ ty dc sc, (Builtin.copy_ #[23, 23] ty #[.slice (some ⟨g, (i + 1) * 2, none⟩) (n - i) dc, .slice (some ⟨g, i * 2, none⟩) (n + 1 - i) sc]).run Try.prog w.drew = .ok (goInt ((n - i : Nat) : Int)) (w.drew.setRow g R1.toArray) := fun ty dc sc => by
    rw [hR1]
    exact run_copy_k w.drew _ _ ty 39 g ((i + 1) * 2) (n - i) dc ⟨g, i * 2, none⟩ (n + 1 - i) sc cur 39 _ 2 (n - i) u23 hsz39 (by simp only [Nat.min_def]; split <;> omega) hg (by simp; omega)
      (fun j v hj => by
        rw [Addr.add_lit]
        show w.cell? _ = _
        rw [hcell, ← hj, List.getElem?_drop, List.getElem?_take]
        have hl : j < (List.drop (i * 2) (List.take (n * 2) cur.toList)).length := (List.getElem?_eq_some_iff.1 hj).1
        have : i * 2 + j < n * 2 := by simp at hl; omega
        simp [this])
      (by simp; omega) (fun v hv => h1c v (List.mem_of_mem_drop hv))
  have hl1 : R1.length = c * 2 := by rw [hR1, length_splice _ _ _ (by simp; omega)]; simpa using hsz
  have hcp2 : ∀ ty dc, (Builtin.copy_ #[23, 23] ty #[.slice (some ⟨g, i * 2, none⟩) (n + 1 - i) dc, .slice (some ⟨vb, 0, none⟩) 1 vc]).run Try.prog (w.drew.setRow g R1.toArray) = .ok (goInt ((1 : Nat) : Int)) ((w.drew.setRow g R1.toArray).setRow g R2.toArray) := fun ty dc => by
    rw [hR2]
    exact run_copy_k (w.drew.setRow g R1.toArray) _ _ ty 39 g (i * 2) (n + 1 - i) dc ⟨vb, 0, none⟩ 1 vc R1.toArray 39 _ 2 1 u23 hsz39 (by simp only [Nat.min_def]; split <;> omega) (setRow_heap w.drew g cur _ 39 _ hg) (by simp; omega)
      (fun j v hj => by
        rw [Addr.add_lit, Nat.zero_add]
        rw [World.cell?_of_block (setRow_other w.drew g vb _ hvb)]
        show w.cell? _ = _
        rw [cell_of_row w vb j curv 39 (0, 0) hv, ← hj, List.getElem?_take]
        have hl : j < (List.take 2 curv.toList).length := (List.getElem?_eq_some_iff.1 hj).1
        have : j < 2 := by simp at hl; omega
        simp [this])
      (by simp; omega) h1v
  clear hR1 hR2
  go_enter Try.func39, Try.ntmps39
  go_wp2
  go_region_law_o (refine step_copy_runI rfl _ _ 23 23 rfl _ _ (by simp [Act.eval, Act.put]) (by simp [Act.eval, Act.put]) (hcp1 _ _ _) ?_)
  go_wp2_with (at_builtin; refine wpList_copy_runI _ rfl _ _ 23 23 rfl _ _ rfl rfl (hcp2 _ _) ?_)
  go_ret
  exact ⟨rfl, rfl⟩
theorem size_zero39 (k : Nat) : (Builtin.zeroCells (Value.agg #[.int .i64 0, .int .i64 0]).cells k).size = k * 2 := by rw [size_zeroCells]; rfl
set_option maxHeartbeats 4000000 in
set_option maxRecDepth 100000 in
/-- slices.Insert of one element: NO ROOM, i < len(s): a new row. -/
theorem ins_grow (g n c i vb vc : Nat) (cur curv : Array Value) (w : World) (hi : i < n) (hnc : n ≤ c) (hroom : c < n + 1) (hbig : (n + 1) * 16 ≤ 140737488355328) (hvb : vb ≠ g)
    (hg : w.heap[g]? = some (.cells cur 39 (0, 0))) (hsz : cur.size = c * 2) (hv : w.heap[vb]? = some (.cells curv 39 (0, 0))) (hvz : 2 ≤ curv.size)
    (h1c : ∀ v ∈ cur.toList.take (n * 2), v.oneCell' = true) (h1v : ∀ v ∈ curv.toList.take 2, v.oneCell' = true) :
    Calls Try.prog 39 #[.slice (some ⟨g, 0, none⟩) n c, .int .i64 i, .slice (some ⟨vb, 0, none⟩) 1 vc] w fun e w' =>
      ∃ G R, e = .returned (.slice (some ⟨w.heap.size, 0, none⟩) (n + 1) G) ∧ n + 1 ≤ G ∧ G ≤ maxLen ∧ w'.heap[w.heap.size]? = some (.cells R 39 (0, 0)) ∧ R.size = G * 2 ∧
        R.toList.take ((n + 1) * 2) = cur.toList.take (i * 2) ++ curv.toList.take 2 ++ (cur.toList.take (n * 2)).drop (i * 2) ∧ Below w.heap.size w w' := by
  have u23 := Try.underlying23
  have u3 := Try.underlying3
  obtain ⟨i39, hq39, hz39, hs39, hb39⟩ : ∃ i, Try.prog.info? 39 = some i ∧ i.zero = some (.agg #[.int .i64 0, .int .i64 0]) ∧ i.size = 2 ∧ i.bytes = 16 := by
    have := info39
    cases hq : Try.prog.info? 39 with
    | none => simp [hq] at this
    | some x => exact ⟨x, rfl, by simp [hq] at this; exact this⟩
  have hsz39 : (Try.prog.info? 39).map (·.size) = some 2 := by kernel_rfl
  have mixed : Try.prog.follows Departure.mixedOrders = true := by kernel_rfl
  have hz2 : ¬ ((i : Int) = (n : Int)) := by omega
  have hz3 : (c : Int) < (n : Int) + 1 := by omega
  have hgw : g < w.heap.size := (Array.getElem?_eq_some_iff.1 hg).1
  have hvw : vb < w.heap.size := (Array.getElem?_eq_some_iff.1 hv).1
  have hc0 : cur.toList.length = c * 2 := by simpa using hsz
  have hcell : ∀ j, w.cell? ⟨g, j, none⟩ = cur[j]? := fun j => cell_of_row w g j cur 39 (0, 0) hg
  have hkk : (n : Int) + 1 - (i : Int) = ((n + 1 - i : Nat) : Int) := by omega
  have hik : i + (n + 1 - i) = n + 1 := by omega
  have hold : (Builtin.firstCells i39.size i (.slice (some ⟨g, 0, none⟩) i c)).run Try.prog w.drew = .ok (cur.toList.take (i * 2)).toArray w.drew := by
    rw [hs39]
    exact run_firstCells_some w.drew 2 i ⟨g, 0, none⟩ i c (cur.toList.take (i * 2)) (by rw [List.length_take]; omega) (fun j v hj => by
      rw [Addr.add_lit, Nat.zero_add]
      show w.cell? _ = _
      rw [hcell, ← hj, List.getElem?_take]
      have hl : j < (List.take (i * 2) cur.toList).length := (List.getElem?_eq_some_iff.1 hj).1
      have : j < i * 2 := by simp at hl; omega
      simp [this])
  have hrz : ∀ ty, (Builtin.append_ #[23, 3] ty #[.slice (some ⟨g, 0, none⟩) i c, .int .i64 ((n : Int) + 1 - (i : Int))]).run Try.prog w =
      .ok (.slice (some ⟨w.heap.size, 0, none⟩) (n + 1) (grownCap w (n + 1) c 39)) (w.drew.alloc (.cells ((cur.toList.take (i * 2)).toArray ++ Builtin.zeroCells (Value.agg #[.int .i64 0, .int .i64 0]).cells (n + 1 - i) ++ Builtin.zeroCells (Value.agg #[.int .i64 0, .int .i64 0]).cells (grownCap w (n + 1) c 39 - (n + 1))) 39)) := fun ty => by
    have h := Lib.run_append_grow_zeros w 23 3 ty 39 i39 _ .i64 .i64 u23 u3 hq39 hz39 (some ⟨g, 0, none⟩) i c (cur.toList.take (i * 2)) hold (n + 1 - i) (by omega) (by omega) (by omega) (by omega) (by rw [hb39]; omega) (by rw [hb39, hik]; exact growslice_fits hroom hbig)
    rw [hik] at h
    rw [hkk]
    exact h
  have hGn : n + 1 ≤ grownCap w (n + 1) c 39 := grownCap_ge w _ _ _
  have hG63 : grownCap w (n + 1) c 39 ≤ maxLen := grownCap_le_maxLen w (n + 1) c 39 (by unfold maxLen; omega)
  revert hGn hG63 hrz
  generalize grownCap w (n + 1) c 39 = G
  intro hrz hGn hG63
  obtain ⟨ROW, hROW⟩ : ∃ ROW : Array Value, ROW = (cur.toList.take (i * 2)).toArray ++ Builtin.zeroCells (Value.agg #[.int .i64 0, .int .i64 0]).cells (n + 1 - i) ++ Builtin.zeroCells (Value.agg #[.int .i64 0, .int .i64 0]).cells (G - (n + 1)) := ⟨_, rfl⟩
  rw [← hROW] at hrz
  have hRl : ROW.size = G * 2 := by
    rw [hROW, Array.size_append, Array.size_append, size_zero39, size_zero39]
    simp
    omega
  have hRt : ROW.toList.take (i * 2) = cur.toList.take (i * 2) := by
    rw [hROW]
    simp only [Array.toList_append, List.append_assoc]
    rw [List.take_append_of_le_length (by simp; omega), List.take_take, Nat.min_self]
  obtain ⟨R1, hR1⟩ : ∃ R1, R1 = splice ROW.toList (i * 2) (curv.toList.take 2) := ⟨_, rfl⟩
  obtain ⟨R2, hR2⟩ : ∃ R2, R2 = splice R1 ((i + 1) * 2) ((cur.toList.take (n * 2)).drop (i * 2)) := ⟨_, rfl⟩
  have hl1 : R1.length = G * 2 := by rw [hR1, length_splice _ _ _ (by simp; omega)]; simpa using hRl
  have hl2 : R2.length = G * 2 := by rw [hR2, length_splice _ _ _ (by simp; omega)]; exact hl1
  have hR2t : R2.take ((n + 1) * 2) = cur.toList.take (i * 2) ++ curv.toList.take 2 ++ (cur.toList.take (n * 2)).drop (i * 2) := by
    have e1 : R1.take ((i + 1) * 2) = cur.toList.take (i * 2) ++ curv.toList.take 2 := by
      rw [hR1, splice, hRt, ← List.append_assoc, List.take_append_of_le_length (by simp; omega), List.take_of_length_le (by simp; omega)]
    rw [hR2, splice, e1, ← List.append_assoc, List.take_append_of_le_length (by simp; omega), List.take_of_length_le (by simp; omega)]
  have hcpA : ∀ (W : World), W.heap = (w.alloc (.cells ROW 39)).heap → ∀ ty dc, (Builtin.copy_ #[23, 23] ty #[.slice (some ⟨w.heap.size, i * 2, none⟩) (n + 1 - i) dc, .slice (some ⟨vb, 0, none⟩) 1 vc]).run Try.prog W = .ok (goInt ((1 : Nat) : Int)) (W.setRow w.heap.size R1.toArray) := fun W hW ty dc => by
    rw [hR1]
    exact run_copy_k W _ _ ty 39 w.heap.size (i * 2) (n + 1 - i) dc ⟨vb, 0, none⟩ 1 vc ROW 39 _ 2 1 u23 hsz39 (by simp only [Nat.min_def]; split <;> omega) (by rw [hW]; exact heap_alloc_new w _) (by simp; omega)
      (fun j v hj => by
        rw [Addr.add_lit, Nat.zero_add]
        rw [cell_of_row W vb j curv 39 (0, 0) (by rw [hW]; exact (heap_alloc_old w _ hvw).trans hv), ← hj, List.getElem?_take]
        have hl : j < (List.take 2 curv.toList).length := (List.getElem?_eq_some_iff.1 hj).1
        have : j < 2 := by simp at hl; omega
        simp [this])
      (by simp; omega) h1v
  have hcpB : ∀ (W : World), W.heap = ((w.alloc (.cells ROW 39)).setRow w.heap.size R1.toArray).heap → ∀ ty dc sc, (Builtin.copy_ #[23, 23] ty #[.slice (some ⟨w.heap.size, (i + 1) * 2, none⟩) (n - i) dc, .slice (some ⟨g, i * 2, none⟩) (n - i) sc]).run Try.prog W = .ok (goInt ((n - i : Nat) : Int)) (W.setRow w.heap.size R2.toArray) := fun W hW ty dc sc => by
    rw [hR2]
    refine run_copy_k W _ _ ty 39 w.heap.size ((i + 1) * 2) (n - i) dc ⟨g, i * 2, none⟩ (n - i) sc R1.toArray 39 _ 2 (n - i) u23 hsz39 (by simp only [Nat.min_def]; split <;> omega) (by rw [hW]; exact setRow_heap _ _ ROW _ 39 _ (heap_alloc_new w _)) (by simp; omega)
      (fun j v hj => ?_) (by simp; omega) (fun v hv => h1c v (List.mem_of_mem_drop hv))
    rw [Addr.add_lit]
    rw [cell_of_row W g _ cur 39 (0, 0) (by rw [hW, setRow_other _ _ _ _ (by omega)]; exact (heap_alloc_old w _ hgw).trans hg), ← hj, List.getElem?_drop, List.getElem?_take]
    have hl : j < (List.drop (i * 2) (List.take (n * 2) cur.toList)).length := (List.getElem?_eq_some_iff.1 hj).1
    have : i * 2 + j < n * 2 := by simp at hl; omega
    simp [this]
  have hGi : ¬ (G = i) := by omega
  have hGim : ¬ (G = i + 1) := by omega
  have hci : ¬ (c = i) := by omega
  have hw1 : IntKind.i64.wrap ((i : Int) + 1) = (i : Int) + 1 := by rw [IntKind.wrap_i64]; omega
  have hb1 : (0 : Int) ≤ (i : Int) + 1 := by omega
  have hin : i ≤ n := by omega
  have htn : ((i : Int) + 1).toNat = i + 1 := by omega
  have hb3 : (i : Int) ≤ (n : Int) := by omega
  have hcpA1 := hcpA ((w.alloc (.cells ROW 39)).drew) rfl
  have hcpB1 := hcpB (((w.alloc (.cells ROW 39)).drew.setRow w.heap.size R1.toArray).drew) rfl
  clear hcpA hcpB
  clear hkk hik hold hR1 hR2 hROW hRt
  go_enter Try.func39, Try.ntmps39
  go_wp2_with (at_builtin; refine Lib.wpList_append_run _ rfl _ _ _ _ rfl _ _ rfl rfl _ _ (hrz _) ?_)
  go_region_law_o (refine step_copy_runI rfl _ _ 23 23 rfl _ _ (by simp [Act.eval, Act.put]) (by simp [Act.eval, Act.put]) (hcpB1 _ _ _) ?_)
  go_wp2
  go_ret
  refine ⟨G, R2.toArray, rfl, hGn, hG63, setRow_heap _ _ R1.toArray _ 39 _ (setRow_heap _ _ ROW _ 39 _ (heap_alloc_new w _)), by simpa using hl2, by simpa using hR2t, ?_⟩
  exact below_setRow (below_drew (below_setRow (below_drew (below_alloc (Below.refl _ _) _)) (Nat.le_refl _) _)) (Nat.le_refl _) _
end Go.Proofs.Ytakhjhiofmgpnaa.G
/- The contracts by hand of slices.Clone and slices.Insert at reservations. -/
namespace Go.Proofs.Ytakhjhiofmgpnaa.G
open Go.RowKit Go.Proofs.YtakhjhiofmgpnaaW.PrintWords Go.Proofs.YtakhjhiofmgpnaaW.PrintLast Go.Proofs.YtakhjhiofmgpnaaW.PrintMore Go.Proofs.Ytakhjhiofmgpnaa.PA
set_option linter.unusedVariables false
set_option linter.unusedSimpArgs false
def slices_Clone.f {α : Type} (l : List α) : Option (List α) := if l.length < 8796093022207 then some l else none
set_option maxHeartbeats 400000 in
theorem slices_Clone.calls (A0 : Option Addr) (c0 : Nat) (l0 : List S39) (r : List S39) (w : World) (hr0 : Kd.C k39 w A0 l0.length l0) (hc0 : l0.length ≤ c0) (h : slices_Clone.f l0 = some r) :
    Calls Try.prog 38 #[.slice A0 l0.length c0] w fun e w' => ∃ v0_ : Value, e = .returned (v0_) ∧ Kd.R k39 39 w' w.heap.size (fun _ => True) v0_ r ∧ Below w.heap.size w w' := by
  unfold slices_Clone.f at h
  by_cases hn : l0.length < 8796093022207
  · rw [if_pos hn] at h
    obtain rfl := Option.some.inj h
    clear h
    have HR0_ := Aside0.mk hr0
    have HC0 := Aside0.mk hc0
    clear hr0 hc0
    have hu39 := Try.underlying39
    rcases A0 with _ | ad
    · have h0 : l0.length = 0 := by
        rcases Nat.eq_zero_or_pos l0.length with h0 | h0
        · exact h0
        · obtain ⟨ad, h, _⟩ := HR0_.out.2.2 h0
          cases h
      have hl : l0 = [] := List.eq_nil_of_length_eq_zero h0
      subst hl
      clear h0
      have heq : ∀ w, (binOp .eql 23 (.slice none 0 c0) (.slice none 0 0)).run Try.prog w = .ok (.bool true) w := fun w => Lib.run_eql_slice_nil (P := Try.prog) w 23 39 none 0 c0 0 0 Try.underlying23
      go_enter Try.func38, Try.ntmps38
      go_wp2
      go_ret
      exact ⟨_, rfl, Kd.R_nil _ _ _ _ _, Below.refl _ _⟩
    · have heq : ∀ w, (binOp .eql 23 (.slice (some ad) l0.length c0) (.slice none 0 0)).run Try.prog w = .ok (.bool false) w := fun w => Lib.run_eql_slice_nil (P := Try.prog) w 23 39 (some ad) l0.length c0 0 0 Try.underlying23
      go_enter Try.func38, Try.ntmps38
      go_wp2_with (first
        | ((with_reducible refine gate_dst (N := 5) rfl ?_); refine Kd.R_lit k39 _ 39 ?hg (N := 5) ?hd (xs := ([] : List (S39))) (inner := []) (ok := fun _ => True) (okp := fun _ => True) ?hr ?hp (fun _ hk => hk) trivial (Below.refl _ _) (Nat.le_refl _) (by simp) ?_; (case hd => rfl); (case hg => rfl); (case hr => first | (go_simp; done) | (go_simp; rfl)); (case hp => exact (Reps.none _ _)); intro v1 w1 ho1 hb hg_ hnew_; clear hg_ hnew_; have HO1 := Aside0.mk ho1; have HB := Aside0.mk hb; clear ho1 hb)
        | ((with_reducible refine gate_builtin (b := .append) (xs := #[.tmp 5, .tmp 6]) rfl ?_); at_builtin; refine Kd.R_append_rows k39 (w0 := w) w.heap.size rfl (.tmp 5) (.tmp 6) 23 39 (.agg #[(.int .i64 0), (.int .i64 0)]) 16 rfl Try.underlying23 info39 rfl (by decide) (by omega) v1 ([] : List S39) l0 _ _ _ (fun _ => True) (fun _ => False) rfl rfl HO1.out (Kd.C_below HR0_.out HB.out) (fun _ _ h => h) (fun _ h => h.elim) (fun _ _ => trivial) HB.out (below_size HB.out) (by simp; omega) ?_; intro v2 w2 ho hb hg hat; have HO2 := Aside0.mk ho; have HB2 := Aside0.mk hb; clear ho hb hg hat))
      go_ret
      exact ⟨_, rfl, HO2.out, HB2.out⟩
  · rw [if_neg hn] at h
    cases h
/-- One element (a literal row), put in. -/
def slices_Insert.f {α : Type} (l : List α) (i : Int) (v : List α) : Option (List α) :=
  if v.length = 1 ∧ 0 ≤ i ∧ i ≤ (l.length : Int) ∧ l.length < 8796093022206 then some (l.take i.toNat ++ v ++ l.drop i.toNat) else none
theorem k39_one {w : World} {base : Nat} {ok : Nat → Prop} {x : S39} {cs : List Value} (h : k39.M w base ok x cs) : ∀ u ∈ cs, u.oneCell' = true := k39.K_one (k39.K_of_M h)
theorem reps39_one {w : World} {base : Nat} {ok : Nat → Prop} {xs : List S39} {cs : List Value} (h : Reps (k39.M w base ok) 2 xs cs) : ∀ u ∈ cs, u.oneCell' = true := by
  intro u hu
  obtain ⟨j, hj, rfl⟩ := List.mem_iff_getElem.1 hu
  have h1 := h.1
  have hj2 : j / 2 < xs.length := by omega
  have := k39_one (h.2 (j / 2) _ (List.getElem?_eq_getElem hj2)) cs[j]
  apply this
  rw [List.mem_iff_getElem?]
  refine ⟨j % 2, ?_⟩
  rw [List.getElem?_take, if_pos (Nat.mod_lt _ (by omega)), List.getElem?_drop, show j / 2 * 2 + j % 2 = j by omega, List.getElem?_eq_getElem hj]
set_option maxHeartbeats 1000000 in
theorem slices_Insert.calls (P0_ : Nat → Prop) (u0 : Value) (l0 : List S39) (a1 : Int) (P2_ : Nat → Prop) (u2 : Value) (l2 : List S39) (r : List S39) (w0 w : World) (hB : Below w0.heap.size w0 w)
    (ho0 : Kd.R k39 39 w w0.heap.size P0_ u0 l0) (hs0 : ∀ k, P0_ k → ¬ P2_ k) (ho2 : Kd.R k39 39 w w0.heap.size P2_ u2 l2) (hs2 : ∀ k, P2_ k → ¬ P0_ k) (h : slices_Insert.f l0 a1 l2 = some r) :
    Calls Try.prog 39 #[u0, .int .i64 a1, u2] w fun e w' => ∃ v0_ : Value, e = .returned (v0_) ∧ Kd.R k39 39 w' w0.heap.size (fun k_ => (P0_ k_ ∨ P2_ k_) ∨ w.heap.size ≤ k_) v0_ r ∧ Below w0.heap.size w0 w' ∧ Kept w w' (fun k_ => P0_ k_ ∨ P2_ k_) := by
  unfold slices_Insert.f at h
  by_cases hc : l2.length = 1 ∧ 0 ≤ a1 ∧ a1 ≤ (l0.length : Int) ∧ l0.length < 8796093022206
  case neg => rw [if_neg hc] at h; cases h
  rw [if_pos hc] at h
  obtain rfl := Option.some.inj h
  clear h
  obtain ⟨hv1, hi0, hin, hlim⟩ := hc
  obtain ⟨i, rfl⟩ : ∃ i : Nat, a1 = (i : Int) := ⟨a1.toNat, by omega⟩
  have hin' : i ≤ l0.length := by omega
  rw [Int.toNat_natCast]
  clear hi0
  by_cases he : i = l0.length
  · -- at the end: an append
    subst he
    rw [List.take_length, List.drop_length, List.append_nil]
    obtain ⟨A0, c0, e0⟩ := Kd.R_slice ho0
    obtain ⟨A2, c2, e2⟩ := Kd.R_slice ho2
    subst e0 e2
    have hr2 := Kd.R_reads' ho2
    rw [hv1] at hr2 ⊢
    have HO0 := Aside0.mk ho0
    have HR2 := Aside0.mk hr2.2.2
    have HB := Aside0.mk hB
    have HC := Aside0.mk (Kd.R_reads' ho0).2.1
    have HC2 := Aside0.mk hr2.2.1
    clear ho0 ho2 hr2 hB hs2 hs0
    go_enter Try.func39, Try.ntmps39
    go_wp2_with ((with_reducible refine gate_builtin (b := .append) (xs := #[.tmp 23, .tmp 24]) rfl ?_); at_builtin; refine Kd.R_append_rows k39 (w0 := w0) w0.heap.size rfl (.tmp 23) (.tmp 24) 23 39 (.agg #[(.int .i64 0), (.int .i64 0)]) 16 rfl Try.underlying23 info39 rfl (by decide) (by omega) _ l0 l2 _ _ _ (fun k_ => (P0_ k_ ∨ P2_ k_) ∨ w.heap.size ≤ k_) (fun _ => False) rfl rfl (Kd.R_mono HO0.out (fun _ hk => .inl (.inl hk))) HR2.out (fun _ _ h => h) (fun _ h => h.elim) (fun _ hk => .inr hk) HB.out (below_size HB.out) (by omega) ?_; intro v2 w2 ho hb hg hat; have HO2 := Aside0.mk ho; have HB2 := Aside0.mk hb; have HG2 := Aside0.mk hg; clear ho hb hg hat)
    all_goals
      go_ret
      refine ⟨_, rfl, HO2.out, HB2.out, ?_⟩
      exact Kept.of_grown HG2.out (Kept.refl _ _) (fun k hk => .inl (.inl (HO0.out.1 k hk)))
  · have hi : i < l0.length := by omega
    obtain ⟨hP0, in0, ow0, rp0⟩ := ho0
    obtain ⟨hP2, in2, ow2, rp2⟩ := ho2
    rcases ow0 with ⟨hl0, ⟨rfl, hn⟩ | ⟨g, cap, cur, rfl, hbg, hg, hnc, hcm, hcs, ht0⟩⟩
    · omega
    rcases ow2 with ⟨hl2, ⟨rfl, hn⟩ | ⟨vb, vc, curv, rfl, hbv, hv, hvc, hvm, hvs, ht2⟩⟩
    · omega
    have hk39 : k39.sz = 2 := rfl
    rw [hv1] at ht2 hvc hl2 ⊢
    replace hl0 : in0.length = l0.length * 2 := hl0
    replace hcs : cur.size = cap * 2 := hcs
    replace ht0 : cur.toList.take (l0.length * 2) = in0 := ht0
    replace hvs : curv.size = vc * 2 := hvs
    replace hl2 : in2.length = 1 * 2 := hl2
    replace ht2 : curv.toList.take (1 * 2) = in2 := ht2
    have hvb : vb ≠ g := fun e => hs0 g (hP0 g rfl) (by rw [← e]; exact hP2 vb rfl)
    have h1c : ∀ v ∈ cur.toList.take (l0.length * 2), v.oneCell' = true := by rw [ht0]; exact reps39_one rp0
    have h1v : ∀ v ∈ curv.toList.take 2, v.oneCell' = true := by rw [Nat.one_mul] at ht2; rw [ht2]; exact reps39_one rp2
    rw [Nat.one_mul] at ht2 hl2
    have hmid : ∀ (W : World) (b : Nat) (ok : Nat → Prop), b ≤ w0.heap.size → Reps (k39.M W b ok) 2 (l0.take i ++ l2 ++ l0.drop i) (cur.toList.take (i * 2) ++ curv.toList.take 2 ++ (cur.toList.take (l0.length * 2)).drop (i * 2)) := fun W b ok hb => by
      have := reps_mid (rp0.imp_ (fun x cs h => flat_M (d := k39) rfl (w1 := W) (b1 := b) (ok1 := ok) h hb)) (rp2.imp_ (fun x cs h => flat_M (d := k39) rfl (w1 := W) (b1 := b) (ok1 := ok) h hb)) i hin'
      rw [ht2, ht0]
      rwa [show cur.toList.take (i * 2) = in0.take (i * 2) by rw [← ht0, List.take_take, Nat.min_eq_left (by omega)]]
    have hlr : (l0.take i ++ l2 ++ l0.drop i).length = l0.length + 1 := by simp [hv1]; omega
    have hll : (cur.toList.take (i * 2) ++ curv.toList.take 2 ++ (cur.toList.take (l0.length * 2)).drop (i * 2)).length = (l0.length + 1) * 2 := by
      have := (hmid w 0 (fun _ => True) (Nat.zero_le _)).1
      rw [this, hlr]
    by_cases hroom : l0.length + 1 ≤ cap
    · refine (ins_shift g l0.length cap i vb vc cur curv w hi hroom (by unfold maxLen at hcm; omega) hvb hg hcs hv (by omega) h1c h1v _ _ rfl rfl).mono ?_
      rintro e w' ⟨rfl, rfl⟩
      have hg1 := setRow_heap w.drew g cur (splice cur.toList ((i + 1) * 2) ((cur.toList.take (l0.length * 2)).drop (i * 2))).toArray 39 (0, 0) hg
      have hg2 := setRow_heap _ g _ (splice (splice cur.toList ((i + 1) * 2) ((cur.toList.take (l0.length * 2)).drop (i * 2))) (i * 2) (curv.toList.take 2)).toArray 39 (0, 0) hg1
      have hcl : cur.toList.length = cap * 2 := by simpa using hcs
      have hcvl : curv.toList.length = vc * 2 := by simpa using hvs
      refine ⟨_, rfl, ⟨fun k hk => ?_, _, ⟨hll.trans (by rw [hlr]; rfl), .inr ⟨g, cap, _, by rw [hlr], hbg, hg2, by rw [hlr]; exact hroom, hcm, ?_, ?_⟩⟩, hmid _ _ _ (Nat.le_refl _)⟩, below_setRow (below_setRow (below_drew hB) hbg _) hbg _, ?_⟩
      · simp [Value.ownBlock] at hk
        exact .inl (.inl (hk ▸ hP0 g rfl))
      · rw [List.size_toArray, length_splice _ _ _ (by rw [length_splice _ _ _ (by simp; omega)]; simp; omega), length_splice _ _ _ (by simp; omega)]
        exact hcl
      · rw [hlr, hk39]
        have e1 : (splice cur.toList ((i + 1) * 2) ((cur.toList.take (l0.length * 2)).drop (i * 2))).take (i * 2) = cur.toList.take (i * 2) := by
          rw [splice, List.take_append_of_le_length (by simp; omega), List.take_take, Nat.min_eq_left (by omega)]
        have e2 : ((splice cur.toList ((i + 1) * 2) ((cur.toList.take (l0.length * 2)).drop (i * 2))).drop (i * 2 + (curv.toList.take 2).length)).take ((l0.length - i) * 2) = (cur.toList.take (l0.length * 2)).drop (i * 2) := by
          rw [show i * 2 + (curv.toList.take 2).length = (i + 1) * 2 by simp; omega]
          rw [splice, List.drop_append_of_le_length (by simp; omega), List.drop_of_length_le (by simp; omega), List.nil_append, List.take_append_of_le_length (by simp; omega), List.take_of_length_le (by simp; omega)]
        show List.take _ (splice _ _ _) = _
        rw [splice, e1, ← List.append_assoc, List.take_append, List.take_of_length_le (by simp; omega)]
        congr 1
        rw [show (l0.length + 1) * 2 - (cur.toList.take (i * 2) ++ curv.toList.take 2).length = (l0.length - i) * 2 by simp; omega]
        exact e2
      · refine Kept.then_ (S := fun k_ => P0_ k_ ∨ P2_ k_) (Kept.refl w _) (S2 := fun k => k = g) ⟨by simp [World.setRow], fun k hk hn => ?_⟩ (fun k hk => .inl (.inl (hk ▸ hP0 g rfl)))
        rw [setRow_other _ _ _ _ hn, setRow_other _ _ _ _ hn]
        rfl
    · refine (ins_grow g l0.length cap i vb vc cur curv w hi hnc (by omega) (by omega) hvb hg hcs hv (by omega) h1c h1v).mono ?_
      rintro e w' ⟨G, R, rfl, hGn, hGm, hG, hRs, hRt, hbW⟩
      have hsz := hB.size
      refine ⟨_, rfl, ⟨fun k hk => ?_, _, ⟨hll.trans (by rw [hlr]; rfl), .inr ⟨w.heap.size, G, R, by rw [hlr], hsz, hG, by rw [hlr]; exact hGn, hGm, hRs, by rw [hlr]; exact hRt⟩⟩, hmid _ _ _ (Nat.le_refl _)⟩, below_then hB hsz hbW, Kept.of_below hbW _⟩
      simp [Value.ownBlock] at hk
      exact .inr (hk ▸ Nat.le_refl _)
end Go.Proofs.Ytakhjhiofmgpnaa.G
/- The contract by hand of slices.Delete at reservations (one element is taken out of a row of the call's own). -/
namespace Go.Proofs.Ytakhjhiofmgpnaa.G
open Go.RowKit Go.Proofs Go.Proofs.YtakhjhiofmgpnaaW.PrintWords Go.Proofs.YtakhjhiofmgpnaaW.PrintWords.Kd Go.Proofs.YtakhjhiofmgpnaaW.PrintLast Go.Proofs.YtakhjhiofmgpnaaW.PrintMore Go.Proofs.Ytakhjhiofmgpnaa.PA
set_option linter.unusedVariables false
set_option linter.unusedSimpArgs false
/-- 'clear' at one element of k cells. -/
theorem run_clear_one {P : Program} (w : World) (t e ty : TypeId) (z : Value) (ht : P.underlying t = some (.slice e)) (hv : ∀ w, (zeroValue e).run P w = .ok z w) (h1 : ∀ v ∈ (Builtin.zeroCells z.cells 1).toList, v.oneCell' = true) (g o c : Nat) (cur : Array Value) (t' : TypeId)
    (hg : w.heap[g]? = some (.cells cur t' (0, 0))) (hfit : o + (Builtin.zeroCells z.cells 1).size ≤ cur.size) :
    (Builtin.clear_ #[t] ty #[.slice (some ⟨g, o, none⟩) 1 c]).run P w = .ok (.tuple #[]) (w.setRow g (splice cur.toList o (Builtin.zeroCells z.cells 1).toList).toArray) := by
  have hst := run_storeCells_at P g o t' (Builtin.zeroCells z.cells 1).toList 0 cur w hg (by simpa using hfit) h1
  simp only [Nat.add_zero] at hst
  simp [Builtin.clear_, run_underlying ht, hv, hst, splice]
theorem step_append_runI {P : Program} {ops : Array Oper} {o : Oper} {a : Act} {w : World} {K : Act → World → Prop} {Q : Exit → Act → World → Prop} {E : Prop}
    (hg : o.guard = none) (d x : Operand) (dT sT : TypeId) (hop : o.op = Op.call { callee := Callee.builtin Builtin.append, args := #[d, x], argTypes := #[dT, sT] })
    (v u : Value) (hd : a.eval d = v) (hx : a.eval x = u) {v' : Value} {w' : World} (hr : (Builtin.append_ #[dT, sT] o.type #[v, u]).run P w = .ok v' w') (hK : K (a.put o.dst v') w') :
    if Region.wanted o (yielded ops a.tmps) = true then Oper.wp P o a w K Q else E := by
  have hw : Region.wanted o (yielded ops a.tmps) = true := by simp [Region.wanted, hg]
  rw [if_pos hw]
  unfold Oper.wp
  simp [execOp, hop, resolve, invoke, builtin, hd, hx, hr, Result.andThen]
  exact hK
set_option maxHeartbeats 4000000 in
set_option maxRecDepth 100000 in
theorem del_one (g n c i : Nat) (cur : Array Value) (w : World) (hi : i < n) (hnc : n ≤ c) (hc63 : c ≤ 9223372036854775807)
    (hg : w.heap[g]? = some (.cells cur 39 (0, 0))) (hsz : cur.size = c * 2) (h1c : ∀ v ∈ cur.toList.take (n * 2), v.oneCell' = true) (R1 R2 : List Value)
    (hR1 : R1 = splice cur.toList (i * 2) ((cur.toList.take (n * 2)).drop ((i + 1) * 2))) (hR2 : R2 = splice R1 ((n - 1) * 2) [.int .i64 0, .int .i64 0]) :
    Calls Try.prog 40 #[.slice (some ⟨g, 0, none⟩) n c, .int .i64 i, .int .i64 ((i : Int) + 1)] w fun e w' =>
      e = .returned (.slice (some ⟨g, 0, none⟩) (n - 1) c) ∧ w' = (w.drew.setRow g R1.toArray).setRow g R2.toArray := by
  have u23 := Try.underlying23
  obtain ⟨i39, hq39, hz39, hs39, hb39⟩ : ∃ i, Try.prog.info? 39 = some i ∧ i.zero = some (.agg #[.int .i64 0, .int .i64 0]) ∧ i.size = 2 ∧ i.bytes = 16 := by
    have := G.info39
    cases hq : Try.prog.info? 39 with
    | none => simp [hq] at this
    | some x => exact ⟨x, rfl, by simp [hq] at this; exact this⟩
  have mixed : Try.prog.follows Departure.mixedOrders = true := by kernel_rfl
  have hc0 : cur.toList.length = c * 2 := by simpa using hsz
  have hl1 : R1.length = c * 2 := by rw [hR1, length_splice _ _ _ (by simp; omega)]; simpa using hsz
  have hz0 : ∀ w, (zeroValue 39).run Try.prog w = .ok (.agg #[.int .i64 0, .int .i64 0]) w := fun w => by simp [zeroValue, typeInfo, hq39, hz39]
  have hzc : (Builtin.zeroCells (Value.agg #[.int .i64 0, .int .i64 0]).cells 1).toList = [.int .i64 0, .int .i64 0] := by simp [Builtin.zeroCells, Value.cells, List.range, List.range.loop]
  have hap : ∀ ty (A : Addr) c', A = ⟨g, (i + 1) * 2, none⟩ ∨ n = i + 1 → (Builtin.append_ #[23, 23] ty #[.slice (some ⟨g, 0, none⟩) i c, .slice (some A) (n - (i + 1)) c']).run Try.prog w.drew = .ok (.slice (some ⟨g, 0, none⟩) (n - 1) c) (w.drew.setRow g R1.toArray) := fun ty A c' hA => by
    have h := run_append_room (P := Try.prog) w.drew 23 ty 39 i39 u23 hq39 g i c cur hg A (n - (i + 1)) c' ((cur.toList.take (n * 2)).drop ((i + 1) * 2)) (by rw [hs39]; simp; omega)
      (fun j v hj => by
        have hl : j < (List.drop ((i + 1) * 2) (List.take (n * 2) cur.toList)).length := (List.getElem?_eq_some_iff.1 hj).1
        have : (i + 1) * 2 + j < n * 2 := by simp at hl; omega
        rcases hA with rfl | e
        · rw [Addr.add_lit]
          show w.cell? _ = _
          rw [cell_of_row w g _ cur 39 (0, 0) hg, ← hj, List.getElem?_drop, List.getElem?_take]
          simp [this]
        · omega) (fun v hv => h1c v (List.mem_of_mem_drop hv)) (by omega) (by rw [hs39]; simp; omega)
    rw [h, hs39, hR1, splice, List.append_assoc, show i + (n - (i + 1)) = n - 1 by omega]
  have hclr : ∀ ty c', (Builtin.clear_ #[23] ty #[.slice (some ⟨g, (n - 1) * 2, none⟩) 1 c']).run Try.prog (w.drew.setRow g R1.toArray) = .ok (.tuple #[]) ((w.drew.setRow g R1.toArray).setRow g R2.toArray) := fun ty c' => by
    rw [hR2, ← hzc]
    exact run_clear_one (w.drew.setRow g R1.toArray) 23 39 ty _ u23 hz0 (by rw [hzc]; intro v hv; simp at hv; rw [hv]; rfl) g ((n - 1) * 2) c' R1.toArray 39 (setRow_heap w.drew g cur _ 39 _ hg) (by rw [← Array.length_toList, hzc]; simp; omega)
  have hb1 : (0 : Int) ≤ (i : Int) + 1 := by omega
  have hb2 : (i : Int) + 1 ≤ (n : Int) := by omega
  have hb3 : (n : Int) ≤ (c : Int) := by omega
  have hin : i ≤ n := by omega
  have htn : ((i : Int) + 1).toNat = i + 1 := by omega
  have hne : ¬ ((i : Int) = (i : Int) + 1) := by omega
  have hci : ¬ (c = i) := by omega
  have hn1 : ¬ (c = n - 1) := by omega
  have hnn : ((n - 1 : Nat) : Int) = (n : Int) - 1 := by omega
  have hnd : n - (n - 1) = 1 := by omega
  have hic : i ≤ c := by omega
  have hic' : (i : Int) ≤ (c : Int) := by omega
  by_cases hcc : c = i + 1
  · obtain rfl : n = i + 1 := by omega
    subst hcc
    have hsame : w.drew.setRow g R1.toArray = w.drew := by
      rw [show R1 = cur.toList by rw [hR1, splice, List.drop_of_length_le (by simp; omega)]; simp]
      exact setRow_self w.drew g cur 39 (0, 0) hg
    rw [hsame] at hclr ⊢
    have hclr1 : ∀ ty c', (Builtin.clear_ #[23] ty #[.slice (some ⟨g, i * 2, none⟩) 1 c']).run Try.prog w.drew = .ok (.tuple #[]) (w.drew.setRow g R2.toArray) := fun ty c' => by
      have := hclr ty c'
      rwa [show i + 1 - 1 = i by omega] at this
    rw [show i + 1 - 1 = i by omega]
    clear hap hclr hn1 hnn hnd hR1 hR2
    have hii : (i : Int) ≤ (i : Int) + 1 := by omega
    have hi3 : ¬ (i + 1 = i) := by omega
    go_enter Try.func40, Try.ntmps40
    go_wp2
    go_region
    go_wp2
    go_ret
    exact ⟨rfl, rfl⟩
  · have hap1 := fun ty c' => hap ty _ c' (.inl rfl)
    clear hap hR1 hR2
    have hcj : ¬ (c = i + 1) := hcc
    go_enter Try.func40, Try.ntmps40
    go_wp2
    go_region_law_o (refine step_append_runI rfl _ _ 23 23 rfl _ _ rfl rfl (hap1 _ _) ?_)
    go_wp2
    go_ret
    exact ⟨rfl, rfl⟩
/-- One element, taken out. -/
def slices_Delete.f {α : Type} (l : List α) (i j : Int) : Option (List α) :=
  if 0 ≤ i ∧ i < (l.length : Int) ∧ j = i + 1 ∧ l.length < 8796093022206 then some (l.take i.toNat ++ l.drop (i.toNat + 1)) else none
set_option maxHeartbeats 1000000 in
theorem slices_Delete.calls (P0_ : Nat → Prop) (u0 : Value) (l0 : List S39) (a1 a2 : Int) (r : List S39) (w0 w : World) (hB : Below w0.heap.size w0 w)
    (ho0 : Kd.R k39 39 w w0.heap.size P0_ u0 l0) (h : slices_Delete.f l0 a1 a2 = some r) :
    Calls Try.prog 40 #[u0, .int .i64 a1, .int .i64 a2] w fun e w' => ∃ v0_ : Value, e = .returned (v0_) ∧ Kd.R k39 39 w' w0.heap.size (fun k_ => (P0_ k_ ∨ w.heap.size ≤ k_)) v0_ r ∧ Below w0.heap.size w0 w' ∧ Kept w w' (fun k_ => P0_ k_) := by
  unfold slices_Delete.f at h
  by_cases hc : 0 ≤ a1 ∧ a1 < (l0.length : Int) ∧ a2 = a1 + 1 ∧ l0.length < 8796093022206
  case neg => rw [if_neg hc] at h; cases h
  rw [if_pos hc] at h
  obtain rfl := Option.some.inj h
  clear h
  obtain ⟨hi0, hin, rfl, hlim⟩ := hc
  obtain ⟨i, rfl⟩ : ∃ i : Nat, a1 = (i : Int) := ⟨a1.toNat, by omega⟩
  have hi : i < l0.length := by omega
  rw [Int.toNat_natCast]
  clear hi0
  obtain ⟨hP0, in0, ow0, rp0⟩ := ho0
  rcases ow0 with ⟨hl0, ⟨rfl, hn⟩ | ⟨g, cap, cur, rfl, hbg, hg, hnc, hcm, hcs, ht0⟩⟩
  · omega
  have hk39 : k39.sz = 2 := rfl
  replace hl0 : in0.length = l0.length * 2 := hl0
  replace hcs : cur.size = cap * 2 := hcs
  replace ht0 : cur.toList.take (l0.length * 2) = in0 := ht0
  have hcl : cur.toList.length = cap * 2 := by simpa using hcs
  have h1c : ∀ v ∈ cur.toList.take (l0.length * 2), v.oneCell' = true := by rw [ht0]; exact reps39_one rp0
  have hlr : (l0.take i ++ l0.drop (i + 1)).length = l0.length - 1 := by simp; omega
  refine (del_one g l0.length cap i cur w hi hnc (by unfold maxLen at hcm; omega) hg hcs h1c _ _ rfl rfl).mono ?_
  rintro e w' ⟨rfl, rfl⟩
  have hg1 := setRow_heap w.drew g cur (splice cur.toList (i * 2) ((cur.toList.take (l0.length * 2)).drop ((i + 1) * 2))).toArray 39 (0, 0) hg
  have hg2 := setRow_heap _ g _ (splice (splice cur.toList (i * 2) ((cur.toList.take (l0.length * 2)).drop ((i + 1) * 2))) ((l0.length - 1) * 2) [.int .i64 0, .int .i64 0]).toArray 39 (0, 0) hg1
  have hls : (splice cur.toList (i * 2) ((cur.toList.take (l0.length * 2)).drop ((i + 1) * 2))).length = cap * 2 := by rw [length_splice _ _ _ (by simp; omega)]; exact hcl
  have hin2 : cur.toList.take (i * 2) = in0.take (i * 2) := by rw [← ht0, List.take_take, Nat.min_eq_left (by omega)]
  refine ⟨_, rfl, ⟨fun k hk => ?_, in0.take (i * 2) ++ in0.drop ((i + 1) * 2), ⟨by rw [hlr, hk39]; simp; omega, .inr ⟨g, cap, _, by rw [hlr], hbg, hg2, by rw [hlr]; omega, hcm, ?_, ?_⟩⟩, ?_⟩, below_setRow (below_setRow (below_drew hB) hbg _) hbg _, ?_⟩
  · simp [Value.ownBlock] at hk
    exact .inl (hk ▸ hP0 g rfl)
  · rw [List.size_toArray, length_splice _ _ _ (by rw [hls]; simp; omega)]
    exact hls
  · rw [hlr, hk39]
    show List.take _ (splice _ _ _) = _
    rw [splice, List.take_append_of_le_length (by rw [List.length_take, hls]; omega), List.take_take, Nat.min_self, splice, hin2, ht0, ← List.append_assoc, List.take_append_of_le_length (by simp; omega), List.take_of_length_le (by simp; omega)]
  · exact reps_append (reps_take (rp0.imp_ (fun x cs h => flat_M (d := k39) rfl h (Nat.le_refl _))) (by omega)) (reps_drop (rp0.imp_ (fun x cs h => flat_M (d := k39) rfl h (Nat.le_refl _))))
  · refine Kept.then_ (S := fun k_ => P0_ k_) (Kept.refl w _) (S2 := fun k => k = g) ⟨by simp [World.setRow], fun k hk hn => ?_⟩ (fun k hk => .inl (hk ▸ hP0 g rfl))
    rw [setRow_other _ _ _ _ hn, setRow_other _ _ _ _ hn]
    rfl
end Go.Proofs.Ytakhjhiofmgpnaa.G
/- The contract by hand of guarantee.find: a binary search in a list of reservations by their movement. -/
namespace Go.Proofs.Ytakhjhiofmgpnaa.G
open Go.RowKit Go.Proofs.YtakhjhiofmgpnaaW.PrintWords Go.Proofs.YtakhjhiofmgpnaaW.PrintLast Go.Proofs.YtakhjhiofmgpnaaW.PrintMore Go.Proofs.Ytakhjhiofmgpnaa.PA
set_option linter.unusedVariables false
set_option linter.unusedSimpArgs false
/-- What the search does: the place, by halving. -/
def bsi (l : List S39) (m : Int) : Nat → Nat → Nat → Nat
  | 0, i, _ => i
  | k + 1, i, j => if i < j then (if wrap64 ((rd_T39 l (((i + j) / 2 : Nat) : Int)).f0 - m) < 0 then bsi l m k ((i + j) / 2 + 1) j else bsi l m k i ((i + j) / 2)) else i
def guarantee_find.f (l : List S39) (m : Int) : Option (Int × Bool) :=
  if l.length < 4611686018427387904 then some (((bsi l m l.length 0 l.length : Nat) : Int), decide (bsi l m l.length 0 l.length < l.length) && decide (wrap64 ((rd_T39 l ((bsi l m l.length 0 l.length : Nat) : Int)).f0 - m) = 0)) else none
set_option maxHeartbeats 1000000 in
theorem find_bs (A0 : Option Addr) (c0 : Nat) (l0 : List S39) (m : Int) (w : World) (hr0 : Kd.C k39 w A0 l0.length l0) (hc0 : l0.length ≤ c0) (hlim : l0.length < 4611686018427387904) (R : Nat) (hR : bsi l0 m l0.length 0 l0.length = R) :
    Calls Try.prog 47 #[.slice A0 l0.length c0, .int .i64 m, .func (.func 48) #[] #[]] w fun e w' => e = .returned (.tuple #[.int .i64 R, .bool (decide (R < l0.length) && decide (wrap64 ((rd_T39 l0 (R : Int)).f0 - m) = 0))]) ∧ Below w.heap.size w w' := by
  have hu39 := Try.underlying39
  have mixed : Try.prog.follows Departure.mixedOrders = true := by kernel_rfl
  have HR0 := Aside0.mk hr0
  have HC0 := Aside0.mk hc0
  have HB := Aside0.mk (Below.refl w.heap.size w)
  have HR := Aside0.mk hR
  generalize hfin : (decide (R < l0.length) && decide (wrap64 ((rd_T39 l0 (R : Int)).f0 - m) = 0)) = fin
  have FIN := Aside0.mk hfin
  have HL := Aside0.mk hlim
  clear hr0 hc0 hR hfin hlim
  go_enter Try.func47, Try.ntmps47
  go_wp2
  go_loopg [9, 10] l0.length (fun kx s9 s10 wr => ∃ lo hi : Nat, s9 = .int .i64 lo ∧ s10 = .int .i64 hi ∧ lo ≤ hi ∧ hi ≤ l0.length ∧ hi - lo ≤ kx ∧ Aside0 (bsi l0 m kx lo hi = R) ∧ Aside0 (Below w.heap.size w wr))
  case atStart => exact ⟨0, l0.length, rfl, rfl, Nat.zero_le _, Nat.le_refl _, by omega, HR, HB⟩
  case round =>
    clear HR
    obtain ⟨lo, hi, rfl, rfl, hlh, hin, hg, HR, HB⟩ := hrel
    by_cases hlt : lo < hi
    · obtain ⟨k1, rfl⟩ : ∃ k1, gk = k1 + 1 := ⟨gk - 1, by omega⟩
      have H := HR.out
      rw [bsi, if_pos hlt] at H
      obtain ⟨ad, e1, hx0, hx1⟩ := at_T39 HR0.out (((lo + hi) / 2 : Nat) : Int) (by omega) (by omega)
      subst e1
      replace hx0 := (HB.out.cell (World.block_lt_of_cell? w _ hx0)).trans hx0
      replace hx1 := (HB.out.cell (World.block_lt_of_cell? w _ hx1)).trans hx1
      rw [Int.toNat_natCast] at hx0 hx1
      have hmid : wrap64 (IntKind.u64.wrap (wrap64 ((lo : Int) + (hi : Int))) / 2) = (((lo + hi) / 2 : Nat) : Int) := by
        have := HL.out
        have e1 : wrap64 ((lo : Int) + (hi : Int)) = (lo : Int) + hi := by unfold wrap64; omega
        have e2 : IntKind.u64.wrap ((lo : Int) + (hi : Int)) = (lo : Int) + hi := by rw [IntKind.wrap_u64]; omega
        rw [e1, e2]
        unfold wrap64
        omega
      have p0 := eq_true (show (0 : Int) ≤ (((lo + hi) / 2 : Nat) : Int) by omega)
      have q0 := eq_true (show (((lo + hi) / 2 : Nat) : Int) < (l0.length : Int) by omega)
      have MB := Aside0.mk (show lo ≤ (lo + hi) / 2 ∧ (lo + hi) / 2 < hi ∧ hi ≤ l0.length ∧ hi - lo ≤ k1 + 1 by omega)
      have hw1 : ∀ x : Nat, x < l0.length → wrap64 ((x : Int) + 1) = ((x + 1 : Nat) : Int) := fun x hx => by
        have := HL.out
        unfold wrap64
        omega
      have HW1 := Aside0.mk hw1
      clear hw1 hg
      generalize rd_T39 l0 (((lo + hi) / 2 : Nat) : Int) = y at H hx0 hx1
      by_cases hyx : wrap64 (y.f0 - m) < 0
      · rw [if_pos hyx] at H
        have HR := Aside0.mk H
        clear H
        have hyx1 : decide (wrap64 (y.f0 - m) < 0) = true := decide_eq_true hyx
        clear hyx
        go_wp2
        go_roundg k1
        case measure => omega
        case rel => exact ⟨(lo + hi) / 2 + 1, hi, by rw [show ((lo : Int) + (hi : Int)) / 2 = (((lo + hi) / 2 : Nat) : Int) by omega, HW1.out _ (by omega)], rfl, by omega, hin, by have := MB.out; omega, HR, ⟨below_alloc HB.out _⟩⟩
      · rw [if_neg hyx] at H
        have HR := Aside0.mk H
        clear H
        have hyx1 : decide (wrap64 (y.f0 - m) < 0) = false := decide_eq_false hyx
        clear hyx
        go_wp2
        go_roundg k1
        case measure => omega
        case rel => exact ⟨lo, (lo + hi) / 2, rfl, by rw [hmid], by omega, by omega, by have := MB.out; omega, HR, ⟨below_alloc HB.out _⟩⟩
    · have hRl : R = lo := by
        rw [← HR.out]
        cases gk with
        | zero => rfl
        | succ k => rw [bsi, if_neg hlt]
      subst hRl
      obtain rfl : hi = R := by omega
      by_cases hn : hi < l0.length
      · obtain ⟨ad, e1, hx0, hx1⟩ := at_T39 HR0.out (hi : Int) (by omega) (by omega)
        subst e1
        replace hx0 := (HB.out.cell (World.block_lt_of_cell? w _ hx0)).trans hx0
        replace hx1 := (HB.out.cell (World.block_lt_of_cell? w _ hx1)).trans hx1
        rw [Int.toNat_natCast] at hx0 hx1
        have FIN1 := FIN.out
        clear hg
        generalize rd_T39 l0 (hi : Int) = y at FIN1 hx0 hx1
        rw [decide_eq_true hn, Bool.true_and] at FIN1
        have F2 := Aside0.mk FIN1
        clear FIN1
        by_cases hyx : wrap64 (y.f0 - m) = 0
        · have F3 : fin = true := by rw [← F2.out, decide_eq_true hyx]
          have hyx1 : (wrap64 (y.f0 - m) == 0) = true := by simpa using hyx
          clear hyx
          go_wp2
          go_ret2
          exact ⟨by rw [F3]; rfl, below_alloc HB.out _⟩
        · have F3 : fin = false := by rw [← F2.out, decide_eq_false hyx]
          have hyx1 : (wrap64 (y.f0 - m) == 0) = false := by simpa using hyx
          clear hyx
          go_wp2
          go_ret2
          exact ⟨by rw [F3]; rfl, below_alloc HB.out _⟩
      · have F3 : fin = false := by rw [← FIN.out, decide_eq_false hn, Bool.false_and]
        clear hg
        go_wp2
        go_ret2
        exact ⟨by rw [F3]; rfl, HB.out⟩
theorem guarantee_find.calls (A0 : Option Addr) (c0 : Nat) (l0 : List S39) (a1 : Int) (r1 : Int) (r2 : Bool) (w : World) (hr0 : Kd.C k39 w A0 l0.length l0) (hc0 : l0.length ≤ c0) (h : guarantee_find.f l0 a1 = some (r1, r2)) :
    Calls Try.prog 37 #[.slice A0 l0.length c0, .int .i64 a1] w fun e w' => e = .returned (.tuple #[.int .i64 r1, .bool r2]) ∧ Below w.heap.size w w' := by
  unfold guarantee_find.f at h
  by_cases hlim : l0.length < 4611686018427387904
  case neg => rw [if_neg hlim] at h; cases h
  rw [if_pos hlim] at h
  obtain ⟨rfl, rfl⟩ := Prod.mk.inj (Option.some.inj h)
  clear h
  have H := Aside0.mk (find_bs A0 c0 l0 a1 w hr0 hc0 hlim _ rfl)
  clear hr0 hc0 hlim
  generalize bsi l0 a1 l0.length 0 l0.length = R at H ⊢
  generalize (decide (R < l0.length) && decide (wrap64 ((rd_T39 l0 (R : Int)).f0 - a1) = 0)) = fin at H ⊢
  go_enter Try.func37, Try.ntmps37
  go_wp2_with ((with_reducible refine gate_callee (f := 47) rfl ?_); refine goesL_ (some 8) rfl rfl Try.func47 (by kernel_rfl) rfl #[.slice A0 l0.length c0, .int .i64 a1, .func (.func 48) #[] #[]] rfl (by (try simp only [List.map_toArray, List.map_cons, List.map_nil]); first | done | rfl) ?_; refine H.out.mono ?_; rintro e w1 ⟨rfl, hb⟩; refine ⟨_, rfl, ?_⟩; have HB := Aside0.mk hb; clear hb)
  go_ret2
  exact ⟨rfl, HB.out⟩
end Go.Proofs.Ytakhjhiofmgpnaa.G
-- Written by a program of this claim (wip/tools: mkprint.py, pr.sh) out of the translation: plain functions and their contracts. Lean checks every line.
namespace Go.Proofs.Ytakhjhiofmgpnaa.PB
open Go.RowKit Go.Proofs.YtakhjhiofmgpnaaW.PrintWords Go.Proofs.YtakhjhiofmgpnaaW.PrintLast Go.Proofs.YtakhjhiofmgpnaaW.PrintMore Go.Proofs.Ytakhjhiofmgpnaa.G Go.Proofs.Ytakhjhiofmgpnaa.PA
attribute [local go_sem] max2_int min2_int max_two min_two max_three min_three max_four min_four   -- for this text's walks alone
set_option linter.unusedVariables false
set_option linter.unusedSimpArgs false
def errW : Option Int → Value
 | none => .nilIface
 | some c => .iface 0 (.int .i64 c)
theorem errW_none : errW none = .nilIface := rfl
theorem errW_some (c : Int) : errW (some c) = .iface 0 (.int .i64 c) := rfl
-- the values' own types
end Go.Proofs.Ytakhjhiofmgpnaa.PB
