/- The row of the law GuaranteeRun: whatever the arguments, the call returns true and leaves them as they were. Its conditions: those of the given row. -/
import Derived.Test.YtakhjhiofmgpnaaKR5
import Derived.Deep.SlicePairs
import Derived.Lib.SmallJoins
import Derived.ChangeSlices
import Derived.OpenShut
import Derived.Test.YtakhjhiofmgpnaaRows
import Derived.ProofKit
import Derived.ShutString
import Derived.ChangeOld
import Derived.Carry
import Derived.SizedLaws
/- Run of the program and of the reference, in plain Lean: the same guarantee, the same errors, valid after each step. -/
namespace Go.Proofs.Ytakhjhiofmgpnaa.E
set_option linter.unusedVariables false
set_option linter.unusedSimpArgs false
open Go.RowKit Go.Proofs.YtakhjhiofmgpnaaW.PrintWords Go.Proofs.YtakhjhiofmgpnaaW.PrintLast Go.Proofs.YtakhjhiofmgpnaaW.PrintMore Go.Proofs.Ytakhjhiofmgpnaa.G Go.Proofs.Ytakhjhiofmgpnaa.PA Go.Proofs.Ytakhjhiofmgpnaa.PB Go.Proofs.Ytakhjhiofmgpnaa.PC Go.Proofs.Ytakhjhiofmgpnaa.PE
def sat (l : List S74) (i : Nat) : S74 := rd_T74 l (i : Int)
def isI64 (x : Int) : Prop := -9223372036854775808 ≤ x ∧ x ≤ 9223372036854775807
/-- What a step does on a valid guarantee. -/
structure Did (a b c : Int) (u : List S39) (s : S74) (x y z : Int) (v : List S39) (e : Int) : Prop where
  run : Ev (fun k => guarantee_step.f k a b c u s.f0 s.f1 s.f2) (x, y, z, v, e)
  ok : e = 0 → vf x y z v = 0
  set : s.f0 = 1 → Ev (fun k => customsref21_Set.f k a b c u s.f1 s.f2) (x, y, z, v, e)
  rel : s.f0 = 2 → Ev (fun k => customsref21_Release.f k a b c u s.f1) (x, y, z, v, e)
  siz : s.f0 = 3 → Ev (fun k => customsref21_Resize.f k a b c u s.f2) (x, y, z, v, e)
  oth : s.f0 ≠ 1 → s.f0 ≠ 2 → s.f0 ≠ 3 → (x, y, z, v, e) = (0, 0, 0, [], 2)
theorem did {a b c : Int} {u : List S39} (hv : vf a b c u = 0) (s : S74) (hs : isI64 s.f1) : ∃ x y z v e, Did a b c u s x y z v e := by
  by_cases h1 : s.f0 = 1
  · obtain ⟨x, y, z, v, e, g1, g2, _, g3⟩ := set_both a b c u s.f1 s.f2 hs
    refine ⟨x, y, z, v, e, ⟨?_, g3, fun _ => g2, fun h => absurd (h1.symm.trans h) (by decide), fun h => absurd (h1.symm.trans h) (by decide), fun h => absurd h1 h⟩⟩
    unfold guarantee_step.f PG.guarantee_step.f
    exact evPos (.inl h1) (evPos h1 (evBind g1 (evNow rfl)))
  by_cases h2 : s.f0 = 2
  · obtain ⟨x, y, z, v, e, g1, g2, _, g3⟩ := release_both a b c u s.f1 hs
    refine ⟨x, y, z, v, e, ⟨?_, g3, fun h => absurd h h1, fun _ => g2, fun h => absurd (h2.symm.trans h) (by decide), fun _ h => absurd h2 h⟩⟩
    unfold guarantee_step.f PG.guarantee_step.f
    exact evPos (.inr (.inl h2)) (evNeg h1 (evPos h2 (evBind g1 (evNow rfl))))
  by_cases h3 : s.f0 = 3
  · obtain ⟨x, y, z, v, e, g1, g2, _, g3⟩ := resize_both a b c u s.f2
    refine ⟨x, y, z, v, e, ⟨?_, g3, fun h => absurd h h1, fun h => absurd h h2, fun _ => g2, fun _ _ h => absurd h3 h⟩⟩
    unfold guarantee_step.f PG.guarantee_step.f
    exact evPos (.inr (.inr h3)) (evNeg h1 (evNeg h2 (evPos h3 (evBind g1 (evNow rfl)))))
  refine ⟨0, 0, 0, [], 2, ⟨?_, fun h => absurd h (by decide), fun h => absurd h h1, fun h => absurd h h2, fun h => absurd h h3, fun _ _ _ => rfl⟩⟩
  unfold guarantee_step.f
  refine evNeg (by omega) (evBind (validate_ev a b c u) (evNow ?_))
  rw [if_pos hv]
theorem run_f {a b c : Int} {u : List S39} (hv : vf a b c u = 0) {s : List S74} {R : Int × Int × Int × List S39 × List Int} (h : Ev (fun k => guarantee_Run.l0 k [] s (s.length : Int) 0 a b c u) R) : Ev (fun k => guarantee_Run.f k a b c u s) R := by
  unfold guarantee_Run.f
  have := (vf_zero.1 hv).2.1
  exact evBind0 (a := u) (by unfold slices_Clone.f; rw [if_pos (by omega)]) h
/-- The steps that are made. -/
theorem next2 (s : List Int) (hs : s.length ≤ 1000) (i n : Int) (i0 : 0 ≤ i) (i1 : i ≤ s.length) (hn : 0 < n) (hb : n ≤ 4611686018427387904) :
    ∃ r j, customsmade_Source_Next.f s i n = some (r, j) ∧ 0 ≤ r ∧ r < n ∧ i ≤ j ∧ j ≤ s.length ∧ (i < s.length → i < j) := by
  unfold customsmade_Source_Next.f
  by_cases h : i ≥ (s.length : Int)
  · exact ⟨0, i, by rw [if_pos h], by omega, by omega, by omega, i1, fun h2 => by omega⟩
  · have e1 : wrap64 (i + 1) = i + 1 := wrap64_id (by omega) (by omega)
    have e2 : wrap64 (i + 1 - 1) = i := by rw [wrap64_id (by omega) (by omega)]; omega
    rw [if_neg h, e1, e2, if_pos i0, if_pos (by omega)]
    obtain ⟨r, h1, h2, h3⟩ := within_some (rd s i) n hn hb
    exact ⟨r, i + 1, by rw [h1]; rfl, h2, h3, by omega, by omega, fun _ => by omega⟩
theorem small2 (s : List Int) (hs : s.length ≤ 1000) (i a b : Int) (i0 : 0 ≤ i) (i1 : i ≤ s.length) (ha : 0 < a) (hab : a ≤ b) (hb : b ≤ 4611686018427387904) :
    ∃ r j, customsmade_Small.f s i a b = some (r, j) ∧ 0 ≤ r ∧ r < b ∧ i ≤ j ∧ j ≤ s.length := by
  unfold customsmade_Small.f
  obtain ⟨r, j, h1, h2, h3, h4, h5, _⟩ := next2 s hs i 5 i0 i1 (by omega) (by omega)
  rw [h1]
  show ∃ r' j', (if r = 4 then _ else _) = _ ∧ _
  by_cases h : r = 4
  · rw [if_pos h]
    obtain ⟨r2, j2, g1, g2, g3, g4, g5, _⟩ := next2 s hs j b (by omega) h5 (by omega) hb
    exact ⟨r2, j2, by rw [g1]; rfl, g2, g3, by omega, g5⟩
  · rw [if_neg h]
    obtain ⟨r2, j2, g1, g2, g3, g4, g5, _⟩ := next2 s hs j a (by omega) h5 ha (by omega)
    exact ⟨r2, j2, by rw [g1]; rfl, g2, by omega, by omega, g5⟩
theorem sat_old {u : List S74} {v : S74} {j : Nat} (h : j < u.length) : sat (u ++ [v]) j = sat u j := by
  unfold sat rd_T74
  simp [List.getElem?_append_left h]
theorem sat_new {u : List S74} {v : S74} : sat (u ++ [v]) u.length = v := by
  unfold sat rd_T74
  simp
theorem steps_ev (l : List Int) : ∃ st, Ev (fun k => customsmade_GuaranteeSteps.f k l) st ∧ st.length ≤ 80 ∧ ∀ j, j < st.length → isI64 (sat st j).f1 := by
  obtain ⟨s, hcut, hs⟩ : ∃ s, customsmade_Cut.f l 80 = some s ∧ s.length ≤ 80 := by
    unfold customsmade_Cut.f
    by_cases h : (l.length : Int) > 80
    · exact ⟨l.take 80, by rw [if_pos h, if_pos (by omega)]; rfl, by rw [List.length_take]; omega⟩
    · exact ⟨l, by rw [if_neg h], by omega⟩
  have key : ∀ (n : Nat) (i : Int) (st : List S74), (s.length : Int) - i ≤ n → 0 ≤ i → i ≤ s.length → (st.length : Int) ≤ i → (∀ j, j < st.length → isI64 (sat st j).f1) →
      ∃ st', Ev (fun k => customsmade_GuaranteeSteps.l0 k st s i) st' ∧ st'.length ≤ 80 ∧ ∀ j, j < st'.length → isI64 (sat st' j).f1 := by
    intro n
    induction n with
    | zero =>
      intro i st h1 i0 i1 h2 h3
      refine ⟨st, evShift ?_, by omega, h3⟩
      simp only [customsmade_GuaranteeSteps.l0]
      refine evBind0 rfl (evNeg (by simp; omega) (evNow rfl))
    | succ n ih =>
      intro i st h1 i0 i1 h2 h3
      by_cases hi : i < (s.length : Int)
      · obtain ⟨r1, j1, a1, a2, a3, a4, a5, a6⟩ := next2 s (by omega) i 9 i0 i1 (by omega) (by omega)
        obtain ⟨r2, j2, b1, b2, b3, b4, b5, _⟩ := next2 s (by omega) j1 6 (by omega) a5 (by omega) (by omega)
        obtain ⟨r3, j3, c1, c2, c3, c4, c5⟩ := small2 s (by omega) j2 80 1000000000001 (by omega) b5 (by omega) (by omega) (by omega)
        have a7 := a6 hi
        have add : ∀ kd : Int, ∃ st', Ev (fun k => customsmade_GuaranteeSteps.l0 k (st ++ [⟨kd, wrap64 (1 + r1), r3⟩]) s j3) st' ∧ st'.length ≤ 80 ∧ ∀ j, j < st'.length → isI64 (sat st' j).f1 := fun kd => by
          refine ih j3 _ (by omega) (by omega) c5 (by simp; omega) (fun j hj => ?_)
          simp at hj
          by_cases hj2 : j < st.length
          · rw [sat_old hj2]; exact h3 j hj2
          · obtain rfl : j = st.length := by omega
            rw [sat_new, wrap64_id (by omega) (by omega)]
            exact ⟨by show -9223372036854775808 ≤ 1 + r1; omega, by show 1 + r1 ≤ 9223372036854775807; omega⟩
        by_cases k4 : r2 = 4
        · obtain ⟨st', q1, q2⟩ := add 2
          refine ⟨st', evShift ?_, q2⟩
          simp only [customsmade_GuaranteeSteps.l0]
          exact evBind0 rfl (evPos (by simpa using hi) (evBind0 a1 (evBind0 b1 (evPos k4 (evBind0 c1 (evPos (by omega) q1))))))
        by_cases k5 : r2 = 5
        · obtain ⟨st', q1, q2⟩ := add 3
          refine ⟨st', evShift ?_, q2⟩
          simp only [customsmade_GuaranteeSteps.l0]
          exact evBind0 rfl (evPos (by simpa using hi) (evBind0 a1 (evBind0 b1 (evNeg k4 (evPos k5 (evBind0 c1 (evPos (by omega) q1)))))))
        · obtain ⟨st', q1, q2⟩ := add 1
          refine ⟨st', evShift ?_, q2⟩
          simp only [customsmade_GuaranteeSteps.l0]
          exact evBind0 rfl (evPos (by simpa using hi) (evBind0 a1 (evBind0 b1 (evNeg k4 (evNeg k5 (evBind0 c1 (evPos (by omega) q1)))))))
      · refine ⟨st, evShift ?_, by omega, h3⟩
        simp only [customsmade_GuaranteeSteps.l0]
        refine evBind0 rfl (evNeg (by simp; omega) (evNow rfl))
  obtain ⟨st, q1, q2⟩ := key s.length 0 [] (by omega) (by omega) (by omega) (by simp) (fun j hj => by simp at hj)
  refine ⟨st, ?_, q2⟩
  unfold customsmade_GuaranteeSteps.f
  exact evBind0 hcut q1
end Go.Proofs.Ytakhjhiofmgpnaa.E
-- Written by a program of this claim (wip/tools: mkprint.py, pr.sh) out of the translation: plain functions and their contracts. Lean checks every line.
namespace Go.Proofs.Ytakhjhiofmgpnaa.PD
open Go.RowKit Go.Proofs.YtakhjhiofmgpnaaW.PrintWords Go.Proofs.YtakhjhiofmgpnaaW.PrintLast Go.Proofs.YtakhjhiofmgpnaaW.PrintMore Go.Proofs.Ytakhjhiofmgpnaa.G Go.Proofs.Ytakhjhiofmgpnaa.PA Go.Proofs.Ytakhjhiofmgpnaa.PB Go.Proofs.Ytakhjhiofmgpnaa.PE
attribute [local go_sem] max2_int min2_int max_two min_two max_three min_three max_four min_four   -- for this text's walks alone
set_option linter.unusedVariables false
set_option linter.unusedSimpArgs false
def errW : Option Int → Value
 | none => .nilIface
 | some c => .iface 0 (.int .i64 c)
theorem errW_none : errW none = .nilIface := rfl
theorem errW_some (c : Int) : errW (some c) = .iface 0 (.int .i64 c) := rfl
theorem info27 : (Try.prog.info? 27).map (fun i => (i.zero, i.size, i.bytes)) = some (some (.int .i64 0), 1, 8) := by kernel_rfl
-- the values' own types
end Go.Proofs.Ytakhjhiofmgpnaa.PD
-- Written by a program of this claim (wip/tools: mkprint.py, pr.sh) out of the translation: plain functions and their contracts. Lean checks every line.
namespace Go.Proofs.Ytakhjhiofmgpnaa.PD
open Go.RowKit Go.Proofs.YtakhjhiofmgpnaaW.PrintWords Go.Proofs.YtakhjhiofmgpnaaW.PrintLast Go.Proofs.YtakhjhiofmgpnaaW.PrintMore Go.Proofs.Ytakhjhiofmgpnaa.G Go.Proofs.Ytakhjhiofmgpnaa.PA Go.Proofs.Ytakhjhiofmgpnaa.PB Go.Proofs.Ytakhjhiofmgpnaa.PE
attribute [local go_sem] max2_int min2_int max_two min_two max_three min_three max_four min_four   -- for this text's walks alone
set_option linter.unusedVariables false
set_option linter.unusedSimpArgs false
mutual
def customsref21_Run.l0 : Nat → List (S74) → List Int → Int → Int → Int → Int → List (S39) → Option (Int × Int × Int × (List (S39)) × List Int)
 | 0, _, _, _, _, _, _, _ => none
 | k + 1, x1, x6, x7, x102000, x102001, x102002, x102003 => if x7 < (x1.length : Int) then ((customsref21_ValidGuarantee.f k x102000 x102001 x102002 x102003).bind fun t104 => (if t104 = 0 then (if 0 ≤ x7 then (if ((rd_T74 x1 x7).f0) = 1 then ((customsref21_Set.f k x102000 x102001 x102002 x102003 ((rd_T74 x1 x7).f1) ((rd_T74 x1 x7).f2)).bind fun bt108 => (customsref21_Run.j1 k x1 x6 x7 bt108.2.2.2.2 x102000 x102001 x102002 x102003 bt108.1 bt108.2.1 bt108.2.2.1 bt108.2.2.2.1)) else (if ((rd_T74 x1 x7).f0) = 2 then ((customsref21_Release.f k x102000 x102001 x102002 x102003 ((rd_T74 x1 x7).f1)).bind fun bt116 => (customsref21_Run.j1 k x1 x6 x7 bt116.2.2.2.2 x102000 x102001 x102002 x102003 bt116.1 bt116.2.1 bt116.2.2.1 bt116.2.2.2.1)) else (if ((rd_T74 x1 x7).f0) = 3 then ((customsref21_Resize.f k x102000 x102001 x102002 x102003 ((rd_T74 x1 x7).f2)).bind fun bt124 => (customsref21_Run.j1 k x1 x6 x7 bt124.2.2.2.2 x102000 x102001 x102002 x102003 bt124.1 bt124.2.1 bt124.2.2.1 bt124.2.2.2.1)) else (customsref21_Run.j1 k x1 x6 x7 2 x102000 x102001 x102002 x102003 0 0 0 ([] : List (S39)))))) else (none)) else (customsref21_Run.j1 k x1 x6 x7 t104 x102000 x102001 x102002 x102003 0 0 0 ([] : List (S39))))) else (some (x102000, x102001, x102002, x102003, x6))
def customsref21_Run.j1 : Nat → List (S74) → List Int → Int → Int → Int → Int → Int → List (S39) → Int → Int → Int → List (S39) → Option (Int × Int × Int × (List (S39)) × List Int)
 | 0, _, _, _, _, _, _, _, _, _, _, _, _ => none
 | k + 1, x1, x6, x7, x9, x102000, x102001, x102002, x102003, x104000, x104001, x104002, x104003 => if x9 = 0 then (if x6.length < 17592186044416 then (customsref21_Run.l0 k x1 (x6 ++ [x9]) (wrap64 (x7 + 1)) x104000 x104001 x104002 x104003) else (none)) else (if x6.length < 17592186044416 then (customsref21_Run.l0 k x1 (x6 ++ [x9]) (wrap64 (x7 + 1)) x102000 x102001 x102002 x102003) else (none))
end
def customsref21_Run.f (k : Nat) (a0_0 : Int) (a0_1 : Int) (a0_2 : Int) (l0_3 : List (S39)) (l1 : List (S74)) : Option (Int × Int × Int × (List (S39)) × List Int) := customsref21_Run.l0 k l1 ([] : List Int) 0 a0_0 a0_1 a0_2 l0_3
def customsref21_Run.T11 : Bool × List (List Nat × List Nat) := (true, [([], []), ([], []), ([], []), ([1, 2], [1, 2]), ([3], [3]), ([4], [4]), ([], []), ([], []), ([6, 7], [6, 7]), ([8], [8]), ([9], [9]), ([0, 5, 10], [0, 5, 10]), ([11], [11]), ([12], [12]), ([12], [12]), ([13, 11, 0, 1, 2, 3, 4, 5, 6, 7, 8, 9, 10, 11, 12, 13], [13]), ([14, 15, 0, 1, 2, 3, 4, 5, 6, 7, 8, 9, 10, 11, 12, 13, 14, 15], [14])])
def customsref21_Run.B11 : List Nat := [0, 0, 0, 6, 14, 30, 0, 0, 192, 448, 960, 2047, 4095, 8191, 8191, 16383, 65535]
theorem customsref21_Run.tab11 : rtab .any (opsOf Try.f28 11) = customsref21_Run.T11 := by kernel_rfl
theorem customsref21_Run.bits11 : waitsOk customsref21_Run.T11.2 customsref21_Run.B11 = true := by kernel_rfl
def customsref21_Run.T13 : Bool × List (List Nat × List Nat) := (true, [([], []), ([], []), ([], []), ([1, 2], [1, 2]), ([3], [3]), ([4], [4]), ([0, 5], [0, 5]), ([6], [6]), ([7], [7]), ([7], [7]), ([8, 6, 0, 1, 2, 3, 4, 5, 6, 7, 8], [8]), ([9, 10, 0, 1, 2, 3, 4, 5, 6, 7, 8, 9, 10], [9])])
def customsref21_Run.B13 : List Nat := [0, 0, 0, 6, 14, 30, 63, 127, 255, 255, 511, 2047]
theorem customsref21_Run.tab13 : rtab .any (opsOf Try.f28 13) = customsref21_Run.T13 := by kernel_rfl
theorem customsref21_Run.bits13 : waitsOk customsref21_Run.T13.2 customsref21_Run.B13 = true := by kernel_rfl
def customsref21_Run.T15 : Bool × List (List Nat × List Nat) := (true, [([], []), ([], []), ([], []), ([1, 2], [1, 2]), ([3], [3]), ([4], [4]), ([0, 5], [0, 5]), ([6], [6]), ([7], [7]), ([7], [7]), ([8, 6, 0, 1, 2, 3, 4, 5, 6, 7, 8], [8]), ([9, 10, 0, 1, 2, 3, 4, 5, 6, 7, 8, 9, 10], [9])])
def customsref21_Run.B15 : List Nat := [0, 0, 0, 6, 14, 30, 63, 127, 255, 255, 511, 2047]
theorem customsref21_Run.tab15 : rtab .any (opsOf Try.f28 15) = customsref21_Run.T15 := by kernel_rfl
theorem customsref21_Run.bits15 : waitsOk customsref21_Run.T15.2 customsref21_Run.B15 = true := by kernel_rfl
set_option maxHeartbeats 8000000 in
set_option maxRecDepth 100000 in
theorem customsref21_Run.calls (k : Nat) (a0_0 : Int) (a0_1 : Int) (a0_2 : Int) (P0_3_ : Nat → Prop) (A0_3 : Option Addr) (c0_3 : Nat) (l0_3 : List (S39)) (A1 : Option Addr) (c1 : Nat) (l1 : List (S74)) (r1 : Int) (r2 : Int) (r3 : Int) (r4 : List (S39)) (r5 : List Int) (w : World) (hs0_3 : Kd.V k39 39 w w.heap.size (fun k_ => P0_3_ k_) (.slice A0_3 l0_3.length c0_3) l0_3) (hr1 : Kd.C k74 w A1 l1.length l1) (hc1 : l1.length ≤ c1) (h : customsref21_Run.f k a0_0 a0_1 a0_2 l0_3 l1 = some (r1, r2, r3, r4, r5)) :
  Calls Try.prog 28 #[.agg #[.int .i64 a0_0, .int .i64 a0_1, .int .i64 a0_2, .slice A0_3 l0_3.length c0_3], .slice A1 l1.length c1] w fun e w' => ∃ v3_ v4_ : Value, e = .returned (.tuple #[.agg #[.int .i64 r1, .int .i64 r2, .int .i64 r3, v3_], v4_]) ∧ Kd.V k39 39 w' w.heap.size (fun k_ => (P0_3_ k_ ∨ w.heap.size ≤ k_) ∧ some k_ ≠ (v4_ : Value).ownBlock) v3_ r4 ∧ Kd.R (Kd.int .i64) 27 w' w.heap.size (fun k_ => (w.heap.size ≤ k_)) v4_ r5 ∧ Below w.heap.size w w' := by
 have hu25 := Try.underlying25
 have HO0_3 := Aside0.mk (show Kd.V k39 39 w w.heap.size (fun k_ => (P0_3_ k_ ∨ w.heap.size ≤ k_)) (.slice A0_3 l0_3.length c0_3) l0_3 from Kd.V_mono hs0_3 (fun k_ hk => .inl hk))
 have HR1 := Aside0.mk hr1
 have HC1 := Aside0.mk hc1
 clear hr1 hc1
 have HB := Aside0.mk (Below.refl w.heap.size w)
 have H : (customsref21_Run.l0 k l1 ([] : List Int) 0 a0_0 a0_1 a0_2 l0_3) = some (r1, r2, r3, r4, r5) := h
 clear h
 have H' := Aside0.mk H
 clear H
 go_enter Try.func28, Try.ntmps28
 go_wp2_with (first | ((with_reducible refine gate_dst (N := 2) rfl ?_); refine box_event ?hg (N := 2) ?hd (cs := #[.int .i64 a0_0, .int .i64 a0_1, .int .i64 a0_2, .slice A0_3 l0_3.length c0_3]) (t := 25) ?hr ?_; (case hd => rfl); (case hg => rfl); (case hr => first | (go_simp; done) | (go_simp; rfl)); intro gb101 hg w3 hbox hb; have qb_ := below_both bel hb; have n0_ := Aside0.mk (Kd.V_below (Kd.V_elderB (by (with_reducible repeat (first | apply Kd.V_alloc | apply Kd.V_drewN | apply Kd.V_drew)); exact HO0_3.out) gb101 (Nat.le_of_eq hg.symm)) hb); have n1_ := Aside0.mk (qb_.1); have n2_ := Aside0.mk (hbox); have n4_ := Aside0.mk ((by rw [hg]; exact qb_.2 : w.heap.size ≤ gb101)); clear HO0_3; clear HB; have HO0_3 := n0_; have HB := n1_; have BK101 := n2_; have GE101 := n4_; clear qb_; clear n0_ n1_ n2_ n4_; clear hb hbox hg) | ((with_reducible refine gate_dst (N := 4) rfl ?_); refine box_event ?hg (N := 4) ?hd (cs := #[.int .i64 0, .int .i64 0, .int .i64 0, .slice none 0 0]) (t := 25) ?hr ?_; (case hd => rfl); (case hg => rfl); (case hr => first | (go_simp; done) | (go_simp; rfl)); intro gb102 hg w4 hbox hb; have qb_ := below_both bel hb; have n0_ := Aside0.mk (Kd.V_below (Kd.V_elderB (by (with_reducible repeat (first | apply Kd.V_alloc | apply Kd.V_drewN | apply Kd.V_drew)); exact HO0_3.out) gb102 (Nat.le_of_eq hg.symm)) hb); have q1_ := blk_below2 (g := gb101) (o := .cells #[.int .i64 a0_0, .int .i64 a0_1, .int .i64 a0_2, .slice A0_3 l0_3.length c0_3] 25 (0, 0)) blkx hb; have n1_ := Aside0.mk (q1_.1); have n2_ := Aside0.mk (qb_.1); have n3_ := Aside0.mk (hbox); have n5_ := Aside0.mk ((by rw [hg]; exact qb_.2 : w.heap.size ≤ gb102)); have n6_ := Aside0.mk ((by rw [hg]; exact Nat.ne_of_lt q1_.2 : gb101 ≠ gb102)); have n7_ := Aside0.mk (Ne.symm n6_.out); clear HO0_3; clear BK101; clear HB; have HO0_3 := n0_; have BK101 := n1_; have HB := n2_; have BK102 := n3_; have GE102 := n5_; have NB101_102 := n6_; have NB102_101 := n7_; clear q1_; clear qb_; clear n0_ n1_ n2_ n3_ n5_ n6_ n7_; clear hb hbox hg))
 go_loopg [6, 7] k (fun kq v6 v7 w' => ∃ (x6_1 : List Int) (x7_1 : Int) (x102000_1 : Int) (x102001_1 : Int) (x102002_1 : Int) (x102003_1 : List (S39)) (u102003 : Value), v7 = .int .i64 x7_1 ∧ Aside0 (customsref21_Run.l0 kq l1 x6_1 x7_1 x102000_1 x102001_1 x102002_1 x102003_1 = some (r1, r2, r3, r4, r5)) ∧ Aside0 (kq ≤ k) ∧ Aside0 (Kd.R (Kd.int .i64) 27 w' w.heap.size (fun k_ => (w.heap.size ≤ k_)) v6 x6_1) ∧ Aside0 (Kd.V k39 39 w' w.heap.size (fun k_ => (P0_3_ k_ ∨ w.heap.size ≤ k_) ∧ some k_ ≠ (v6 : Value).ownBlock ∧ k_ ≠ gb101 ∧ k_ ≠ gb102) u102003 x102003_1) ∧ Aside0 (w'.heap[gb101]? = some (.cells #[.int .i64 x102000_1, .int .i64 x102001_1, .int .i64 x102002_1, u102003] 25 (0, 0))) ∧ Aside0 (w'.heap[gb102]? = some (.cells #[.int .i64 0, .int .i64 0, .int .i64 0, (.slice none 0 0)] 25 (0, 0))) ∧ Aside0 (Below w.heap.size w w'))
 case atStart => exact ⟨(([] : List Int)), (0), (a0_0), (a0_1), (a0_2), (l0_3), (.slice A0_3 l0_3.length c0_3), (by first | rfl | (simp; done) | (simp [*]; done)), H', ⟨Nat.le_refl _⟩, ⟨by first | exact Kd.R_nil _ _ _ _ _ | exact Kd.N_nil _ _ _ _ _ | exact Kd.V_nil _ _ _ _ _ | exact Kd.Q_nil _ _ _ _ _ | exact Kd.S_nil _ _ _ _ _⟩, ⟨by (with_reducible repeat (first | apply Kd.V_alloc | apply Kd.V_drewN | apply Kd.V_drew)); exact Kd.V_mono HO0_3.out (fun _ hk => ⟨hk.1.1, ⟨(by simp [Value.ownBlock]), ⟨hk.1.2, hk.2⟩⟩⟩)⟩, ⟨by (with_reducible repeat (first | refine blk_drewN ?_ _ | refine blk_drew ?_ | refine blk_alloc ?_ _)); exact BK101.out⟩, ⟨by (with_reducible repeat (first | refine blk_drewN ?_ _ | refine blk_drew ?_ | refine blk_alloc ?_ _)); exact BK102.out⟩, ⟨bel⟩⟩
 case round =>
  clear H'
  try clear c1
  try clear c2
  try clear p2
  obtain ⟨x6_1, x7_1, x102000_1, x102001_1, x102002_1, x102003_1, u102003, rfl, HA, HK1, HO_6, HO_102003, BK101, BK102, HB⟩ := hrel
  cases gk with
  | zero => exact absurd HA.out (by simp [customsref21_Run.l0])
  | succ k1 =>
   have H := HA.out
   clear HA
   simp only [customsref21_Run.l0] at H
   by_cases c5 : x7_1 < (l1.length : Int)
   ·rw [if_pos c5] at H
    have c5b0 : decide (x7_1 < (l1.length : Int)) = true := decide_eq_true c5
    clear c5
    replace H := Option.bind_eq_some_iff.mp H
    obtain ⟨t104, A60, H⟩ := H
    replace H : (if t104 = 0 then (if 0 ≤ x7_1 then (if ((rd_T74 l1 x7_1).f0) = 1 then ((customsref21_Set.f k1 x102000_1 x102001_1 x102002_1 x102003_1 ((rd_T74 l1 x7_1).f1) ((rd_T74 l1 x7_1).f2)).bind fun bt108 => (customsref21_Run.j1 k1 l1 x6_1 x7_1 bt108.2.2.2.2 x102000_1 x102001_1 x102002_1 x102003_1 bt108.1 bt108.2.1 bt108.2.2.1 bt108.2.2.2.1)) else (if ((rd_T74 l1 x7_1).f0) = 2 then ((customsref21_Release.f k1 x102000_1 x102001_1 x102002_1 x102003_1 ((rd_T74 l1 x7_1).f1)).bind fun bt116 => (customsref21_Run.j1 k1 l1 x6_1 x7_1 bt116.2.2.2.2 x102000_1 x102001_1 x102002_1 x102003_1 bt116.1 bt116.2.1 bt116.2.2.1 bt116.2.2.2.1)) else (if ((rd_T74 l1 x7_1).f0) = 3 then ((customsref21_Resize.f k1 x102000_1 x102001_1 x102002_1 x102003_1 ((rd_T74 l1 x7_1).f2)).bind fun bt124 => (customsref21_Run.j1 k1 l1 x6_1 x7_1 bt124.2.2.2.2 x102000_1 x102001_1 x102002_1 x102003_1 bt124.1 bt124.2.1 bt124.2.2.1 bt124.2.2.2.1)) else (customsref21_Run.j1 k1 l1 x6_1 x7_1 2 x102000_1 x102001_1 x102002_1 x102003_1 0 0 0 ([] : List (S39)))))) else (none)) else (customsref21_Run.j1 k1 l1 x6_1 x7_1 t104 x102000_1 x102001_1 x102002_1 x102003_1 0 0 0 ([] : List (S39)))) = some (r1, r2, r3, r4, r5) := H
    have A6 := Aside0.mk A60
    clear A60
    have HC7 := Aside0.mk H
    clear H
    go_upto_if 19 with (first | ((with_reducible refine gate_dst (N := 8) rfl ?_); refine box_event ?hg (N := 8) ?hd (cs := #[.int .i64 0, .int .i64 0, .int .i64 0, .slice none 0 0]) (t := 25) ?hr ?_; (case hd => rfl); (case hg => rfl); (case hr => first | (go_simp; done) | (go_simp; rfl)); intro gb103 hg w8 hbox hb; have qb_ := below_both bel hb; have n0_ := Aside0.mk (Kd.R_below (rowx HO_6.out) hb); have n1_ := Aside0.mk (Kd.V_below (Kd.V_elderB (by (with_reducible repeat (first | apply Kd.V_alloc | apply Kd.V_drewN | apply Kd.V_drew)); exact HO_102003.out) gb103 (Nat.le_of_eq hg.symm)) hb); have q1_ := blk_below2 (g := gb101) (o := .cells #[.int .i64 x102000_1, .int .i64 x102001_1, .int .i64 x102002_1, u102003] 25 (0, 0)) blkx hb; have n2_ := Aside0.mk (q1_.1); have q2_ := blk_below2 (g := gb102) (o := .cells #[.int .i64 0, .int .i64 0, .int .i64 0, .slice none 0 0] 25 (0, 0)) blkx hb; have n3_ := Aside0.mk (q2_.1); have n4_ := Aside0.mk (qb_.1); have n5_ := Aside0.mk (hbox); have n6_ := Aside0.mk ((by rw [hg]; exact qb_.2 : w.heap.size ≤ gb103)); have n7_ := n6_; have n8_ := Aside0.mk ((by rw [hg]; exact Nat.ne_of_lt q1_.2 : gb101 ≠ gb103)); have n9_ := Aside0.mk (Ne.symm n8_.out); have n10_ := Aside0.mk ((by rw [hg]; exact Nat.ne_of_lt q2_.2 : gb102 ≠ gb103)); have n11_ := Aside0.mk (Ne.symm n10_.out); clear HO_6; clear HO_102003; clear BK101; clear BK102; clear HB; have HO_6 := n0_; have HO_102003 := n1_; have BK101 := n2_; have BK102 := n3_; have HB := n4_; have BK103 := n5_; have GW103 := n6_; have GE103 := n7_; have NB101_103 := n8_; have NB103_101 := n9_; have NB102_103 := n10_; have NB103_102 := n11_; clear q1_ q2_; clear qb_; clear n0_ n1_ n2_ n3_ n4_ n5_ n6_ n7_ n8_ n9_ n10_ n11_; clear hb hbox hg; have hnb9 := NB101_102.out; have hnc9 := NB102_101.out; have hnb10 := NB101_103.out; have hnc10 := NB103_101.out; obtain ⟨hcz11_0, hcz11_1, hcz11_2, hcz11_3, hfz11_0, hfz11_1, hfz11_2, hfz11_3⟩ := cells4 BK101.out; obtain ⟨Ao12, co12, eo12⟩ := Kd.V_slice HO_102003.out; subst eo12) | ((with_reducible refine gate_callee (f := 12) rfl ?_); refine goesL_ (some 17) rfl rfl Try.func12 (by kernel_rfl) rfl #[.agg #[.int .i64 x102000_1, .int .i64 x102001_1, .int .i64 x102002_1, .slice Ao12 x102003_1.length co12]] rfl argx ?_; (with_reducible refine (customsref21_ValidGuarantee.calls k1 x102000_1 x102001_1 x102002_1 _ _ x102003_1 t104 _ ?side1 ?side2 A6.out).mono ?_); (case side1 => repeat (first | exact (Kd.V_reads' HO_102003.out).2.2 | (with_reducible refine Kd.C_alloc ?_ _) | (with_reducible refine Kd.C_drewN ?_ _) | (with_reducible refine Kd.C_drew ?_))); (case side2 => exact (Kd.V_reads' HO_102003.out).2.1); rintro e w13 ⟨rfl, hb⟩; refine ⟨_, rfl, ?_⟩; have n0_ := Aside0.mk (Kd.R_below (rowx HO_6.out) hb); have n1_ := Aside0.mk (Kd.V_below (by (with_reducible repeat (first | apply Kd.V_alloc | apply Kd.V_drewN | apply Kd.V_drew)); exact HO_102003.out) hb); have n2_ := Aside0.mk (blk_below (g := gb101) (o := .cells #[.int .i64 x102000_1, .int .i64 x102001_1, .int .i64 x102002_1, .slice Ao12 x102003_1.length co12] 25 (0, 0)) blkx hb); have n3_ := Aside0.mk (blk_below (g := gb102) (o := .cells #[.int .i64 0, .int .i64 0, .int .i64 0, .slice none 0 0] 25 (0, 0)) blkx hb); have n4_ := Aside0.mk (blk_below (g := gb103) (o := .cells #[.int .i64 0, .int .i64 0, .int .i64 0, .slice none 0 0] 25 (0, 0)) blkx hb); have n5_ := Aside0.mk (below_step bel hb); clear HO_6; clear HO_102003; clear BK101; clear BK102; clear BK103; clear HB; have HO_6 := n0_; have HO_102003 := n1_; have BK101 := n2_; have BK102 := n3_; have BK103 := n4_; have HB := n5_; clear n0_ n1_ n2_ n3_ n4_ n5_; (try clear hb); (try clear hb2); (try clear hk); (try clear hi)))
    (try simp only [Act.put, List.setIfInBounds_toArray, List.set_cons_zero, List.set_cons_succ])
    go_cut [9] (fun v9 wc => ∃ (kq : Nat) (x9_6 : Int) (x104000_6 : Int) (x104001_6 : Int) (x104002_6 : Int) (x104003_6 : List (S39)) (u104003 : Value), v9 = .int .i64 x9_6 ∧ Aside0 (customsref21_Run.j1 kq l1 x6_1 x7_1 x9_6 x102000_1 x102001_1 x102002_1 x102003_1 x104000_6 x104001_6 x104002_6 x104003_6 = some (r1, r2, r3, r4, r5)) ∧ Aside0 (kq ≤ k1) ∧ Aside0 (Kd.R (Kd.int .i64) 27 wc w.heap.size (fun k_ => (w.heap.size ≤ k_)) u6 x6_1) ∧ Aside0 (Kd.V k39 39 wc w.heap.size (fun k_ => (P0_3_ k_ ∨ w.heap.size ≤ k_) ∧ some k_ ≠ (u6 : Value).ownBlock ∧ some k_ ≠ (u104003 : Value).ownBlock ∧ k_ ≠ gb101 ∧ k_ ≠ gb102 ∧ k_ ≠ gb103) (.slice Ao12 x102003_1.length co12) x102003_1) ∧ Aside0 (Kd.R k39 39 wc w.heap.size (fun k_ => (w.heap.size ≤ k_)) u104003 x104003_6) ∧ Aside0 (wc.heap[gb101]? = some (.cells #[.int .i64 x102000_1, .int .i64 x102001_1, .int .i64 x102002_1, (.slice Ao12 x102003_1.length co12)] 25 (0, 0))) ∧ Aside0 (wc.heap[gb102]? = some (.cells #[.int .i64 0, .int .i64 0, .int .i64 0, (.slice none 0 0)] 25 (0, 0))) ∧ Aside0 (wc.heap[gb103]? = some (.cells #[.int .i64 x104000_6, .int .i64 x104001_6, .int .i64 x104002_6, u104003] 25 (0, 0))) ∧ Aside0 (Below w.heap.size w wc))
    case first =>
     have H := HC7.out
     clear HC7
     by_cases c14 : t104 = 0
     ·rw [if_pos c14] at H
      have c14b0 : (t104 == 0) = true := beq_iff_eq.mpr c14
      have c14b1 : (t104 != 0) = false := bne_eq_false_iff_eq.mpr c14
      clear c14
      (first | rw [c14b0] | (simp only [i64_w, i32_w]; rw [c14b0]) | skip)
      by_cases c15 : 0 ≤ x7_1
      ·rw [if_pos c15] at H
       have c15b0 : decide (0 ≤ x7_1) = true := decide_eq_true c15
       clear c15
       by_cases c16 : ((rd_T74 l1 x7_1).f0) = 1
       ·rw [if_pos c16] at H
        have c16b0 : (((rd_T74 l1 x7_1).f0) == 1) = true := beq_iff_eq.mpr c16
        have c16b1 : (((rd_T74 l1 x7_1).f0) != 1) = false := bne_eq_false_iff_eq.mpr c16
        clear c16
        replace H := Option.bind_eq_some_iff.mp H
        obtain ⟨⟨t108, t109, t110, t111, t114⟩, A170, H⟩ := H
        replace H : (customsref21_Run.j1 k1 l1 x6_1 x7_1 t114 x102000_1 x102001_1 x102002_1 x102003_1 t108 t109 t110 t111) = some (r1, r2, r3, r4, r5) := H
        have A17 := Aside0.mk A170
        clear A170
        have H' := Aside0.mk H
        clear H
        have p105 : 0 ≤ (x7_1 : Int) := of_decide_eq_true (by first | (with_reducible assumption) | assumption)
        have q105 : x7_1 < (l1.length : Int) := of_decide_eq_true (by first | (with_reducible assumption) | assumption)
        obtain ⟨ad105, e105, hx105_0, hx105_1, hx105_2⟩ := at_T74 HR1.out x7_1 p105 q105
        cases e105
        replace hx105_0 := (HB.out.cell (World.block_lt_of_cell? w _ hx105_0)).trans hx105_0
        replace hx105_1 := (HB.out.cell (World.block_lt_of_cell? w _ hx105_1)).trans hx105_1
        replace hx105_2 := (HB.out.cell (World.block_lt_of_cell? w _ hx105_2)).trans hx105_2
        replace p105 := eq_true p105
        replace q105 := eq_true q105
        try go_wp2
        have n0_ := Aside0.mk (Kd.R_drew HO_6.out)
        have n1_ := Aside0.mk (Kd.V_drew HO_102003.out)
        have n2_ := Aside0.mk (blk_drew BK101.out)
        have n3_ := Aside0.mk (blk_drew BK102.out)
        have n4_ := Aside0.mk (blk_drew BK103.out)
        have n5_ := Aside0.mk (below_drew1 HB.out)
        clear HO_6
        clear HO_102003
        clear BK101
        clear BK102
        clear BK103
        clear HB
        have HO_6 := n0_
        have HO_102003 := n1_
        have BK101 := n2_
        have BK102 := n3_
        have BK103 := n4_
        have HB := n5_
        clear n0_ n1_ n2_ n3_ n4_ n5_
        have p106 : 0 ≤ (x7_1 : Int) := of_decide_eq_true (by first | (with_reducible assumption) | assumption)
        have q106 : x7_1 < (l1.length : Int) := of_decide_eq_true (by first | (with_reducible assumption) | assumption)
        obtain ⟨ad106, e106, hx106_0, hx106_1, hx106_2⟩ := at_T74 HR1.out x7_1 p106 q106
        have hw106_2 := hx106_2
        have hw106_1 := hx106_1
        have hw106_0 := hx106_0
        obtain rfl : ad105 = ad106 := (by injection e106)
        replace hx106_0 := (HB.out.cell (World.block_lt_of_cell? w _ hx106_0)).trans hx106_0
        replace hx106_1 := (HB.out.cell (World.block_lt_of_cell? w _ hx106_1)).trans hx106_1
        replace hx106_2 := (HB.out.cell (World.block_lt_of_cell? w _ hx106_2)).trans hx106_2
        replace p106 := eq_true p106
        replace q106 := eq_true q106
        have p107 : 0 ≤ (x7_1 : Int) := of_decide_eq_true (by first | (with_reducible assumption) | assumption)
        have q107 : x7_1 < (l1.length : Int) := of_decide_eq_true (by first | (with_reducible assumption) | assumption)
        obtain ⟨ad107, e107, hx107_0, hx107_1, hx107_2⟩ := at_T74 HR1.out x7_1 p107 q107
        have hw107_2 := hx107_2
        have hw107_1 := hx107_1
        have hw107_0 := hx107_0
        obtain rfl : ad105 = ad107 := (by injection e107)
        replace hx107_0 := (HB.out.cell (World.block_lt_of_cell? w _ hx107_0)).trans hx107_0
        replace hx107_1 := (HB.out.cell (World.block_lt_of_cell? w _ hx107_1)).trans hx107_1
        replace hx107_2 := (HB.out.cell (World.block_lt_of_cell? w _ hx107_2)).trans hx107_2
        replace p107 := eq_true p107
        replace q107 := eq_true q107
        refine start_ (n := 17) (S := fun w' => w'.cell? ⟨gb101, 0, none⟩ = some (.int .i64 x102000_1) ∧ w'.cell? ⟨gb101, 1, none⟩ = some (.int .i64 x102001_1) ∧ w'.cell? ⟨gb101, 2, none⟩ = some (.int .i64 x102002_1) ∧ w'.cell? ⟨gb101, 3, none⟩ = some (.slice Ao12 x102003_1.length co12) ∧ w'.cell? (ad105.add ((x7_1).toNat * 3)) = some (.int .i64 ((rd_T74 l1 x7_1).f0)) ∧ w'.cell? ⟨(ad105.add ((x7_1).toNat * 3)).block, (ad105.add ((x7_1).toNat * 3)).off + 1, none⟩ = some (.int .i64 ((rd_T74 l1 x7_1).f1)) ∧ w'.cell? ⟨(ad105.add ((x7_1).toNat * 3)).block, (ad105.add ((x7_1).toNat * 3)).off + 2, none⟩ = some (.int .i64 ((rd_T74 l1 x7_1).f2)) ∧ w'.cell? (ad105.add ((x7_1).toNat * 3)) = some (.int .i64 ((rd_T74 l1 x7_1).f0)) ∧ w'.cell? ⟨(ad105.add ((x7_1).toNat * 3)).block, (ad105.add ((x7_1).toNat * 3)).off + 1, none⟩ = some (.int .i64 ((rd_T74 l1 x7_1).f1)) ∧ w'.cell? ⟨(ad105.add ((x7_1).toNat * 3)).block, (ad105.add ((x7_1).toNat * 3)).off + 2, none⟩ = some (.int .i64 ((rd_T74 l1 x7_1).f2))) (ds := []) #[false, false, false, false, false, false, false, false, false, false, false, false, false, false, false, false, false] (by kernel_rfl) rfl rfl ⟨(blk_cell BK101.out 0).trans rfl, (blk_cell BK101.out 1).trans rfl, (blk_cell BK101.out 2).trans rfl, (blk_cell BK101.out 3).trans rfl, ((HB.out.cell (World.block_lt_of_cell? w _ hw106_0)).trans hw106_0), ((HB.out.cell (World.block_lt_of_cell? w _ hw106_1)).trans hw106_1), ((HB.out.cell (World.block_lt_of_cell? w _ hw106_2)).trans hw106_2), ((HB.out.cell (World.block_lt_of_cell? w _ hw107_0)).trans hw107_0), ((HB.out.cell (World.block_lt_of_cell? w _ hw107_1)).trans hw107_1), ((HB.out.cell (World.block_lt_of_cell? w _ hw107_2)).trans hw107_2)⟩ (fun hHeld => ?_); refine with_tabW customsref21_Run.tab11 customsref21_Run.bits11 (fun HT_ HW_ => ?_)
        generalize w13.drew = w18 at HO_6 HO_102003 BK101 BK102 BK103 HB hx106_0 hx106_1 hx106_2 hx107_0 hx107_1 hx107_2 hHeld ⊢
        refine pure_ (i := 1) (N := some 29) (v := ?_) (a' := ?_) #[false, true, false, false, false, false, false, false, false, false, false, false, false, false, false, false, false] rfl rfl (any_of HT_.out (by kernel_rfl)) (fun _ _ _ h => h) (Or.inl ⟨by rfl, ?_⟩) ?_ ?_
        rotate_left
        ·intro w'
         go_simp
         with_reducible rfl
        rotate_left
        ·simp only [Act.put, List.setIfInBounds_toArray, List.set_cons_zero, List.set_cons_succ, i64_w, i32_w]
         rfl
        refine pure_ (i := 2) (N := some 30) (v := ?_) (a' := ?_) #[false, true, true, false, false, false, false, false, false, false, false, false, false, false, false, false, false] rfl rfl (any_of HT_.out (by kernel_rfl)) (fun _ _ _ h => h) (Or.inl ⟨by rfl, ?_⟩) ?_ ?_
        rotate_left
        ·intro w'
         go_simp
         with_reducible rfl
        rotate_left
        ·simp only [Act.put, List.setIfInBounds_toArray, List.set_cons_zero, List.set_cons_succ, i64_w, i32_w]
         rfl
        refine pure_ (i := 3) (N := some 31) (v := ?_) (a' := ?_) #[false, true, true, true, false, false, false, false, false, false, false, false, false, false, false, false, false] rfl rfl (any_of HT_.out (by kernel_rfl)) (fun _ _ _ h => h) (Or.inl ⟨by rfl, ?_⟩) ?_ ?_
        rotate_left
        ·intro w'
         go_simp
         with_reducible rfl
        rotate_left
        ·simp only [Act.put, List.setIfInBounds_toArray, List.set_cons_zero, List.set_cons_succ, i64_w, i32_w]
         rfl
        refine pure_ (i := 4) (N := some 32) (v := ?_) (a' := ?_) #[false, true, true, true, true, false, false, false, false, false, false, false, false, false, false, false, false] rfl rfl (any_of HT_.out (by kernel_rfl)) (fun _ _ _ h => h) (Or.inl ⟨by rfl, ?_⟩) ?_ ?_
        rotate_left
        ·intro w'
         go_simp
         with_reducible rfl
        rotate_left
        ·simp only [Act.put, List.setIfInBounds_toArray, List.set_cons_zero, List.set_cons_succ, i64_w, i32_w]
         rfl
        refine pure_ (i := 6) (N := some 34) (v := ?_) (a' := ?_) #[false, true, true, true, true, false, true, false, false, false, false, false, false, false, false, false, false] rfl rfl (any_of HT_.out (by kernel_rfl)) (fun _ _ _ h => h) (Or.inl ⟨by rfl, ?_⟩) ?_ ?_
        rotate_left
        ·intro w'
         go_simp
         with_reducible rfl
        rotate_left
        ·simp only [Act.put, List.setIfInBounds_toArray, List.set_cons_zero, List.set_cons_succ, i64_w, i32_w]
         rfl
        refine pure_ (i := 7) (N := some 35) (v := ?_) (a' := ?_) #[false, true, true, true, true, false, true, true, false, false, false, false, false, false, false, false, false] rfl rfl (any_of HT_.out (by kernel_rfl)) (fun _ _ _ h => h) (Or.inl ⟨by rfl, ?_⟩) ?_ ?_
        rotate_left
        ·intro w'
         go_simp
         with_reducible rfl
        rotate_left
        ·simp only [Act.put, List.setIfInBounds_toArray, List.set_cons_zero, List.set_cons_succ, i64_w, i32_w]
         rfl
        refine pure_ (i := 8) (N := some 36) (v := ?_) (a' := ?_) #[false, true, true, true, true, false, true, true, true, false, false, false, false, false, false, false, false] rfl rfl (any_of HT_.out (by kernel_rfl)) (fun _ _ _ h => h) (Or.inl ⟨by rfl, ?_⟩) ?_ ?_
        rotate_left
        ·intro w'
         go_simp
         with_reducible rfl
        rotate_left
        ·simp only [Act.put, List.setIfInBounds_toArray, List.set_cons_zero, List.set_cons_succ, i64_w, i32_w]
         rfl
        refine pure_ (i := 9) (N := some 37) (v := ?_) (a' := ?_) #[false, true, true, true, true, false, true, true, true, true, false, false, false, false, false, false, false] rfl rfl (any_of HT_.out (by kernel_rfl)) (fun _ _ _ h => h) (Or.inl ⟨by rfl, ?_⟩) ?_ ?_
        rotate_left
        ·intro w'
         go_simp
         with_reducible rfl
        rotate_left
        ·simp only [Act.put, List.setIfInBounds_toArray, List.set_cons_zero, List.set_cons_succ, i64_w, i32_w]
         rfl
        refine take_ (i := 0) (N := some 28) (v := ?_) (a' := ?_) #[true, true, true, true, true, false, true, true, true, true, false, false, false, false, false, false, false] rfl rfl (take_ofW HT_.out HW_.out (by kernel_rfl)) (fun _ _ _ h => h) (Or.inl ⟨by rfl, ?_⟩) hHeld ?_ ?_
        rotate_left
        ·rintro w' ⟨s0, s1, s2, s3, s4, s5, s6, s7, s8, s9⟩
         go_simp
         with_reducible rfl
        rotate_left
        ·simp only [Act.put, List.setIfInBounds_toArray, List.set_cons_zero, List.set_cons_succ, i64_w, i32_w]
         rfl
        refine take_ (i := 5) (N := some 33) (v := ?_) (a' := ?_) #[true, true, true, true, true, true, true, true, true, true, false, false, false, false, false, false, false] rfl rfl (take_ofW HT_.out HW_.out (by kernel_rfl)) (fun _ _ _ h => h) (Or.inl ⟨by rfl, ?_⟩) hHeld ?_ ?_
        rotate_left
        ·rintro w' ⟨s0, s1, s2, s3, s4, s5, s6, s7, s8, s9⟩
         go_simp
         with_reducible rfl
        rotate_left
        ·simp only [Act.put, List.setIfInBounds_toArray, List.set_cons_zero, List.set_cons_succ, i64_w, i32_w]
         rfl
        refine take_ (i := 10) (N := some 38) (v := ?_) (a' := ?_) #[true, true, true, true, true, true, true, true, true, true, true, false, false, false, false, false, false] rfl rfl (take_ofW HT_.out HW_.out (by kernel_rfl)) (fun _ _ _ h => h) (Or.inl ⟨by rfl, ?_⟩) hHeld ?_ ?_
        rotate_left
        ·rintro w' ⟨s0, s1, s2, s3, s4, s5, s6, s7, s8, s9⟩
         go_simp
         with_reducible rfl
        rotate_left
        ·simp only [Act.put, List.setIfInBounds_toArray, List.set_cons_zero, List.set_cons_succ, i64_w, i32_w]
         rfl
        refine one_ (i := 11) (N := some 39) #[true, true, true, true, true, true, true, true, true, true, true, true, false, false, false, false, false] rfl rfl (one_of HT_.out (by kernel_rfl)) (by decide) (fun K hK => ?_)
        refine goes_ Try.func22 (by kernel_rfl) rfl #[.agg #[.int .i64 x102000_1, .int .i64 x102001_1, .int .i64 x102002_1, .slice Ao12 x102003_1.length co12], .int .i64 ((rd_T74 l1 x7_1).f1), .int .i64 ((rd_T74 l1 x7_1).f2)] (by rfl) rfl rfl argx ?_
        with_reducible refine (customsref21_Set.calls k1 x102000_1 x102001_1 x102002_1 _ _ x102003_1 ((rd_T74 l1 x7_1).f1) ((rd_T74 l1 x7_1).f2) t108 t109 t110 t111 t114 _ ?side1 ?side2 A17.out).mono ?_
        (case side1 => repeat (first | exact (Kd.V_reads' HO_102003.out).2.2 | (with_reducible refine Kd.C_alloc ?_ _) | (with_reducible refine Kd.C_drewN ?_ _) | (with_reducible refine Kd.C_drew ?_)))
        (case side2 => exact (Kd.V_reads' HO_102003.out).2.1)
        rintro e w19 ⟨v112, rfl, ho0, hb⟩
        refine ⟨_, rfl, ?_⟩
        have n0_ := Aside0.mk (Kd.R_below (rowx HO_6.out) hb)
        have n1_ := Aside0.mk (Kd.V_elder' (by (with_reducible repeat (first | apply Kd.V_alloc | apply Kd.V_drewN | apply Kd.V_drew)); exact HO_102003.out) (Kd.R_base ho0) hb)
        have n2_ := Aside0.mk (Kd.R_lower (Kd.R_newM (M := fun k_ => (w.heap.size ≤ k_)) ho0 (below_size bel) (fun k_ h_ => h_)) (below_size bel))
        have n3_ := Aside0.mk (blk_below (g := gb101) (o := .cells #[.int .i64 x102000_1, .int .i64 x102001_1, .int .i64 x102002_1, .slice Ao12 x102003_1.length co12] 25 (0, 0)) blkx hb)
        have n4_ := Aside0.mk (blk_below (g := gb102) (o := .cells #[.int .i64 0, .int .i64 0, .int .i64 0, .slice none 0 0] 25 (0, 0)) blkx hb)
        have n5_ := Aside0.mk (blk_below (g := gb103) (o := .cells #[.int .i64 0, .int .i64 0, .int .i64 0, .slice none 0 0] 25 (0, 0)) blkx hb)
        have n6_ := Aside0.mk (below_step bel hb)
        clear HO_6
        clear HO_102003
        clear BK101
        clear BK102
        clear BK103
        clear HB
        have HO_6 := n0_
        have HO_102003 := n1_
        have HO113 := n2_
        have BK101 := n3_
        have BK102 := n4_
        have BK103 := n5_
        have HB := n6_
        clear n0_ n1_ n2_ n3_ n4_ n5_ n6_
        (try clear hb)
        (try clear hb2)
        (try clear hk)
        (try clear hi)
        (try clear ho0)
        obtain ⟨Ao23, co23, eo23⟩ := Kd.R_slice HO113.out
        (first | subst eo23 | (injection eo23 with f1_ f2_ f3_; have f4_ := f1_.symm; have f5_ := f3_.symm; clear f1_ f2_ f3_; subst f4_; subst f5_))
        refine hK.out _ _ ⟨(blk_cell BK101.out 0).trans rfl, (blk_cell BK101.out 1).trans rfl, (blk_cell BK101.out 2).trans rfl, (blk_cell BK101.out 3).trans rfl, ((HB.out.cell (World.block_lt_of_cell? w _ hw106_0)).trans hw106_0), ((HB.out.cell (World.block_lt_of_cell? w _ hw106_1)).trans hw106_1), ((HB.out.cell (World.block_lt_of_cell? w _ hw106_2)).trans hw106_2), ((HB.out.cell (World.block_lt_of_cell? w _ hw107_0)).trans hw107_0), ((HB.out.cell (World.block_lt_of_cell? w _ hw107_1)).trans hw107_1), ((HB.out.cell (World.block_lt_of_cell? w _ hw107_2)).trans hw107_2)⟩ (fun hHeld => ?_)
        clear hK K
        refine norm_ (a' := ?_) ?_ ?_
        rotate_left
        ·show Act.put _ (some 39) _ = _
         simp only [Act.put, List.setIfInBounds_toArray, List.set_cons_zero, List.set_cons_succ, i64_w, i32_w]
         rfl
        refine pure_ (i := 12) (N := some 27) (v := ?_) (a' := ?_) #[true, true, true, true, true, true, true, true, true, true, true, true, true, false, false, false, false] rfl rfl (any_of HT_.out (by kernel_rfl)) (fun _ _ _ h => h) (Or.inl ⟨by rfl, ?_⟩) ?_ ?_
        rotate_left
        ·intro w'
         go_simp
         with_reducible rfl
        rotate_left
        ·simp only [Act.put, List.setIfInBounds_toArray, List.set_cons_zero, List.set_cons_succ, i64_w, i32_w]
         rfl
        refine pure_ (i := 13) (N := some 40) (v := ?_) (a' := ?_) #[true, true, true, true, true, true, true, true, true, true, true, true, true, true, false, false, false] rfl rfl (any_of HT_.out (by kernel_rfl)) (fun _ _ _ h => h) (Or.inl ⟨by rfl, ?_⟩) ?_ ?_
        rotate_left
        ·intro w'
         go_simp
         with_reducible rfl
        rotate_left
        ·simp only [Act.put, List.setIfInBounds_toArray, List.set_cons_zero, List.set_cons_succ, i64_w, i32_w]
         rfl
        refine pure_ (i := 14) (N := some 41) (v := ?_) (a' := ?_) #[true, true, true, true, true, true, true, true, true, true, true, true, true, true, true, false, false] rfl rfl (any_of HT_.out (by kernel_rfl)) (fun _ _ _ h => h) (Or.inl ⟨by rfl, ?_⟩) ?_ ?_
        rotate_left
        ·intro w'
         go_simp
         with_reducible rfl
        rotate_left
        ·simp only [Act.put, List.setIfInBounds_toArray, List.set_cons_zero, List.set_cons_succ, i64_w, i32_w]
         rfl
        refine one_ (i := 15) (N := none) #[true, true, true, true, true, true, true, true, true, true, true, true, true, true, true, true, false] rfl rfl (one_of HT_.out (by kernel_rfl)) (by decide) (fun K hK => ?_)
        have hs20 : w19.cell? ⟨gb103, 0, none⟩ = some (.int .i64 0) := (blk_cell BK103.out 0).trans rfl
        have hfs20 := blk_frozen BK103.out 0
        have hns20_0 := NB101_103.out
        have hns20_1 := NB102_103.out
        have hms20_0 := NB103_101.out
        have hms20_1 := NB103_102.out
        have hs21 : w19.cell? ⟨gb103, 1, none⟩ = some (.int .i64 0) := (blk_cell BK103.out 1).trans rfl
        have hfs21 := blk_frozen BK103.out 1
        have hns21_0 := NB101_103.out
        have hns21_1 := NB102_103.out
        have hms21_0 := NB103_101.out
        have hms21_1 := NB103_102.out
        have hs22 : w19.cell? ⟨gb103, 2, none⟩ = some (.int .i64 0) := (blk_cell BK103.out 2).trans rfl
        have hfs22 := blk_frozen BK103.out 2
        have hns22_0 := NB101_103.out
        have hns22_1 := NB102_103.out
        have hms22_0 := NB103_101.out
        have hms22_1 := NB103_102.out
        have hs24 : w19.cell? ⟨gb103, 3, none⟩ = some (.slice none 0 0) := (blk_cell BK103.out 3).trans rfl
        have hfs24 := blk_frozen BK103.out 3
        have hns24_0 := NB101_103.out
        have hns24_1 := NB102_103.out
        have hms24_0 := NB103_101.out
        have hms24_1 := NB103_102.out
        refine skip_ (w1 := ?_) (by rfl) rfl ?_ ?_
        rotate_left
        ·go_simp
         rfl
        refine hK.out _ _ ⟨((cell_far (p := ⟨gb103, _, none⟩) NB101_103.out _).trans (((cell_far (p := ⟨gb103, _, none⟩) NB101_103.out _).trans (((cell_far (p := ⟨gb103, _, none⟩) NB101_103.out _).trans (((cell_far (p := ⟨gb103, _, none⟩) NB101_103.out _).trans (hHeld.1)))))))), ((cell_far (p := ⟨gb103, _, none⟩) NB101_103.out _).trans (((cell_far (p := ⟨gb103, _, none⟩) NB101_103.out _).trans (((cell_far (p := ⟨gb103, _, none⟩) NB101_103.out _).trans (((cell_far (p := ⟨gb103, _, none⟩) NB101_103.out _).trans (hHeld.2.1)))))))), ((cell_far (p := ⟨gb103, _, none⟩) NB101_103.out _).trans (((cell_far (p := ⟨gb103, _, none⟩) NB101_103.out _).trans (((cell_far (p := ⟨gb103, _, none⟩) NB101_103.out _).trans (((cell_far (p := ⟨gb103, _, none⟩) NB101_103.out _).trans (hHeld.2.2.1)))))))), ((cell_far (p := ⟨gb103, _, none⟩) NB101_103.out _).trans (((cell_far (p := ⟨gb103, _, none⟩) NB101_103.out _).trans (((cell_far (p := ⟨gb103, _, none⟩) NB101_103.out _).trans (((cell_far (p := ⟨gb103, _, none⟩) NB101_103.out _).trans (hHeld.2.2.2.1)))))))), ((cell_far (p := ⟨gb103, _, none⟩) (by first | exact Nat.ne_of_lt (Nat.lt_of_lt_of_le (by have := World.block_lt_of_cell? _ _ hw106_0; first | rwa [add_block] at this | exact this) GW103.out) | (rw [add_block]; exact Nat.ne_of_lt (Nat.lt_of_lt_of_le (by have := World.block_lt_of_cell? _ _ hw106_0; first | rwa [add_block] at this | exact this) GW103.out)) | (show (Addr.add _ _).block ≠ _; rw [add_block]; exact Nat.ne_of_lt (Nat.lt_of_lt_of_le (by have := World.block_lt_of_cell? _ _ hw106_0; first | rwa [add_block] at this | exact this) GW103.out)) | (dsimp only; exact Nat.ne_of_lt (Nat.lt_of_lt_of_le (by have := World.block_lt_of_cell? _ _ hw106_0; first | rwa [add_block] at this | exact this) GW103.out))) _).trans (((cell_far (p := ⟨gb103, _, none⟩) (by first | exact Nat.ne_of_lt (Nat.lt_of_lt_of_le (by have := World.block_lt_of_cell? _ _ hw106_0; first | rwa [add_block] at this | exact this) GW103.out) | (rw [add_block]; exact Nat.ne_of_lt (Nat.lt_of_lt_of_le (by have := World.block_lt_of_cell? _ _ hw106_0; first | rwa [add_block] at this | exact this) GW103.out)) | (show (Addr.add _ _).block ≠ _; rw [add_block]; exact Nat.ne_of_lt (Nat.lt_of_lt_of_le (by have := World.block_lt_of_cell? _ _ hw106_0; first | rwa [add_block] at this | exact this) GW103.out)) | (dsimp only; exact Nat.ne_of_lt (Nat.lt_of_lt_of_le (by have := World.block_lt_of_cell? _ _ hw106_0; first | rwa [add_block] at this | exact this) GW103.out))) _).trans (((cell_far (p := ⟨gb103, _, none⟩) (by first | exact Nat.ne_of_lt (Nat.lt_of_lt_of_le (by have := World.block_lt_of_cell? _ _ hw106_0; first | rwa [add_block] at this | exact this) GW103.out) | (rw [add_block]; exact Nat.ne_of_lt (Nat.lt_of_lt_of_le (by have := World.block_lt_of_cell? _ _ hw106_0; first | rwa [add_block] at this | exact this) GW103.out)) | (show (Addr.add _ _).block ≠ _; rw [add_block]; exact Nat.ne_of_lt (Nat.lt_of_lt_of_le (by have := World.block_lt_of_cell? _ _ hw106_0; first | rwa [add_block] at this | exact this) GW103.out)) | (dsimp only; exact Nat.ne_of_lt (Nat.lt_of_lt_of_le (by have := World.block_lt_of_cell? _ _ hw106_0; first | rwa [add_block] at this | exact this) GW103.out))) _).trans (((cell_far (p := ⟨gb103, _, none⟩) (by first | exact Nat.ne_of_lt (Nat.lt_of_lt_of_le (by have := World.block_lt_of_cell? _ _ hw106_0; first | rwa [add_block] at this | exact this) GW103.out) | (rw [add_block]; exact Nat.ne_of_lt (Nat.lt_of_lt_of_le (by have := World.block_lt_of_cell? _ _ hw106_0; first | rwa [add_block] at this | exact this) GW103.out)) | (show (Addr.add _ _).block ≠ _; rw [add_block]; exact Nat.ne_of_lt (Nat.lt_of_lt_of_le (by have := World.block_lt_of_cell? _ _ hw106_0; first | rwa [add_block] at this | exact this) GW103.out)) | (dsimp only; exact Nat.ne_of_lt (Nat.lt_of_lt_of_le (by have := World.block_lt_of_cell? _ _ hw106_0; first | rwa [add_block] at this | exact this) GW103.out))) _).trans (hHeld.2.2.2.2.1)))))))), ((cell_far (p := ⟨gb103, _, none⟩) (by first | exact Nat.ne_of_lt (Nat.lt_of_lt_of_le (by have := World.block_lt_of_cell? _ _ hw106_1; first | rwa [add_block] at this | exact this) GW103.out) | (rw [add_block]; exact Nat.ne_of_lt (Nat.lt_of_lt_of_le (by have := World.block_lt_of_cell? _ _ hw106_1; first | rwa [add_block] at this | exact this) GW103.out)) | (show (Addr.add _ _).block ≠ _; rw [add_block]; exact Nat.ne_of_lt (Nat.lt_of_lt_of_le (by have := World.block_lt_of_cell? _ _ hw106_1; first | rwa [add_block] at this | exact this) GW103.out)) | (dsimp only; exact Nat.ne_of_lt (Nat.lt_of_lt_of_le (by have := World.block_lt_of_cell? _ _ hw106_1; first | rwa [add_block] at this | exact this) GW103.out))) _).trans (((cell_far (p := ⟨gb103, _, none⟩) (by first | exact Nat.ne_of_lt (Nat.lt_of_lt_of_le (by have := World.block_lt_of_cell? _ _ hw106_1; first | rwa [add_block] at this | exact this) GW103.out) | (rw [add_block]; exact Nat.ne_of_lt (Nat.lt_of_lt_of_le (by have := World.block_lt_of_cell? _ _ hw106_1; first | rwa [add_block] at this | exact this) GW103.out)) | (show (Addr.add _ _).block ≠ _; rw [add_block]; exact Nat.ne_of_lt (Nat.lt_of_lt_of_le (by have := World.block_lt_of_cell? _ _ hw106_1; first | rwa [add_block] at this | exact this) GW103.out)) | (dsimp only; exact Nat.ne_of_lt (Nat.lt_of_lt_of_le (by have := World.block_lt_of_cell? _ _ hw106_1; first | rwa [add_block] at this | exact this) GW103.out))) _).trans (((cell_far (p := ⟨gb103, _, none⟩) (by first | exact Nat.ne_of_lt (Nat.lt_of_lt_of_le (by have := World.block_lt_of_cell? _ _ hw106_1; first | rwa [add_block] at this | exact this) GW103.out) | (rw [add_block]; exact Nat.ne_of_lt (Nat.lt_of_lt_of_le (by have := World.block_lt_of_cell? _ _ hw106_1; first | rwa [add_block] at this | exact this) GW103.out)) | (show (Addr.add _ _).block ≠ _; rw [add_block]; exact Nat.ne_of_lt (Nat.lt_of_lt_of_le (by have := World.block_lt_of_cell? _ _ hw106_1; first | rwa [add_block] at this | exact this) GW103.out)) | (dsimp only; exact Nat.ne_of_lt (Nat.lt_of_lt_of_le (by have := World.block_lt_of_cell? _ _ hw106_1; first | rwa [add_block] at this | exact this) GW103.out))) _).trans (((cell_far (p := ⟨gb103, _, none⟩) (by first | exact Nat.ne_of_lt (Nat.lt_of_lt_of_le (by have := World.block_lt_of_cell? _ _ hw106_1; first | rwa [add_block] at this | exact this) GW103.out) | (rw [add_block]; exact Nat.ne_of_lt (Nat.lt_of_lt_of_le (by have := World.block_lt_of_cell? _ _ hw106_1; first | rwa [add_block] at this | exact this) GW103.out)) | (show (Addr.add _ _).block ≠ _; rw [add_block]; exact Nat.ne_of_lt (Nat.lt_of_lt_of_le (by have := World.block_lt_of_cell? _ _ hw106_1; first | rwa [add_block] at this | exact this) GW103.out)) | (dsimp only; exact Nat.ne_of_lt (Nat.lt_of_lt_of_le (by have := World.block_lt_of_cell? _ _ hw106_1; first | rwa [add_block] at this | exact this) GW103.out))) _).trans (hHeld.2.2.2.2.2.1)))))))), ((cell_far (p := ⟨gb103, _, none⟩) (by first | exact Nat.ne_of_lt (Nat.lt_of_lt_of_le (by have := World.block_lt_of_cell? _ _ hw106_2; first | rwa [add_block] at this | exact this) GW103.out) | (rw [add_block]; exact Nat.ne_of_lt (Nat.lt_of_lt_of_le (by have := World.block_lt_of_cell? _ _ hw106_2; first | rwa [add_block] at this | exact this) GW103.out)) | (show (Addr.add _ _).block ≠ _; rw [add_block]; exact Nat.ne_of_lt (Nat.lt_of_lt_of_le (by have := World.block_lt_of_cell? _ _ hw106_2; first | rwa [add_block] at this | exact this) GW103.out)) | (dsimp only; exact Nat.ne_of_lt (Nat.lt_of_lt_of_le (by have := World.block_lt_of_cell? _ _ hw106_2; first | rwa [add_block] at this | exact this) GW103.out))) _).trans (((cell_far (p := ⟨gb103, _, none⟩) (by first | exact Nat.ne_of_lt (Nat.lt_of_lt_of_le (by have := World.block_lt_of_cell? _ _ hw106_2; first | rwa [add_block] at this | exact this) GW103.out) | (rw [add_block]; exact Nat.ne_of_lt (Nat.lt_of_lt_of_le (by have := World.block_lt_of_cell? _ _ hw106_2; first | rwa [add_block] at this | exact this) GW103.out)) | (show (Addr.add _ _).block ≠ _; rw [add_block]; exact Nat.ne_of_lt (Nat.lt_of_lt_of_le (by have := World.block_lt_of_cell? _ _ hw106_2; first | rwa [add_block] at this | exact this) GW103.out)) | (dsimp only; exact Nat.ne_of_lt (Nat.lt_of_lt_of_le (by have := World.block_lt_of_cell? _ _ hw106_2; first | rwa [add_block] at this | exact this) GW103.out))) _).trans (((cell_far (p := ⟨gb103, _, none⟩) (by first | exact Nat.ne_of_lt (Nat.lt_of_lt_of_le (by have := World.block_lt_of_cell? _ _ hw106_2; first | rwa [add_block] at this | exact this) GW103.out) | (rw [add_block]; exact Nat.ne_of_lt (Nat.lt_of_lt_of_le (by have := World.block_lt_of_cell? _ _ hw106_2; first | rwa [add_block] at this | exact this) GW103.out)) | (show (Addr.add _ _).block ≠ _; rw [add_block]; exact Nat.ne_of_lt (Nat.lt_of_lt_of_le (by have := World.block_lt_of_cell? _ _ hw106_2; first | rwa [add_block] at this | exact this) GW103.out)) | (dsimp only; exact Nat.ne_of_lt (Nat.lt_of_lt_of_le (by have := World.block_lt_of_cell? _ _ hw106_2; first | rwa [add_block] at this | exact this) GW103.out))) _).trans (((cell_far (p := ⟨gb103, _, none⟩) (by first | exact Nat.ne_of_lt (Nat.lt_of_lt_of_le (by have := World.block_lt_of_cell? _ _ hw106_2; first | rwa [add_block] at this | exact this) GW103.out) | (rw [add_block]; exact Nat.ne_of_lt (Nat.lt_of_lt_of_le (by have := World.block_lt_of_cell? _ _ hw106_2; first | rwa [add_block] at this | exact this) GW103.out)) | (show (Addr.add _ _).block ≠ _; rw [add_block]; exact Nat.ne_of_lt (Nat.lt_of_lt_of_le (by have := World.block_lt_of_cell? _ _ hw106_2; first | rwa [add_block] at this | exact this) GW103.out)) | (dsimp only; exact Nat.ne_of_lt (Nat.lt_of_lt_of_le (by have := World.block_lt_of_cell? _ _ hw106_2; first | rwa [add_block] at this | exact this) GW103.out))) _).trans (hHeld.2.2.2.2.2.2.1)))))))), ((cell_far (p := ⟨gb103, _, none⟩) (by first | exact Nat.ne_of_lt (Nat.lt_of_lt_of_le (by have := World.block_lt_of_cell? _ _ hw107_0; first | rwa [add_block] at this | exact this) GW103.out) | (rw [add_block]; exact Nat.ne_of_lt (Nat.lt_of_lt_of_le (by have := World.block_lt_of_cell? _ _ hw107_0; first | rwa [add_block] at this | exact this) GW103.out)) | (show (Addr.add _ _).block ≠ _; rw [add_block]; exact Nat.ne_of_lt (Nat.lt_of_lt_of_le (by have := World.block_lt_of_cell? _ _ hw107_0; first | rwa [add_block] at this | exact this) GW103.out)) | (dsimp only; exact Nat.ne_of_lt (Nat.lt_of_lt_of_le (by have := World.block_lt_of_cell? _ _ hw107_0; first | rwa [add_block] at this | exact this) GW103.out))) _).trans (((cell_far (p := ⟨gb103, _, none⟩) (by first | exact Nat.ne_of_lt (Nat.lt_of_lt_of_le (by have := World.block_lt_of_cell? _ _ hw107_0; first | rwa [add_block] at this | exact this) GW103.out) | (rw [add_block]; exact Nat.ne_of_lt (Nat.lt_of_lt_of_le (by have := World.block_lt_of_cell? _ _ hw107_0; first | rwa [add_block] at this | exact this) GW103.out)) | (show (Addr.add _ _).block ≠ _; rw [add_block]; exact Nat.ne_of_lt (Nat.lt_of_lt_of_le (by have := World.block_lt_of_cell? _ _ hw107_0; first | rwa [add_block] at this | exact this) GW103.out)) | (dsimp only; exact Nat.ne_of_lt (Nat.lt_of_lt_of_le (by have := World.block_lt_of_cell? _ _ hw107_0; first | rwa [add_block] at this | exact this) GW103.out))) _).trans (((cell_far (p := ⟨gb103, _, none⟩) (by first | exact Nat.ne_of_lt (Nat.lt_of_lt_of_le (by have := World.block_lt_of_cell? _ _ hw107_0; first | rwa [add_block] at this | exact this) GW103.out) | (rw [add_block]; exact Nat.ne_of_lt (Nat.lt_of_lt_of_le (by have := World.block_lt_of_cell? _ _ hw107_0; first | rwa [add_block] at this | exact this) GW103.out)) | (show (Addr.add _ _).block ≠ _; rw [add_block]; exact Nat.ne_of_lt (Nat.lt_of_lt_of_le (by have := World.block_lt_of_cell? _ _ hw107_0; first | rwa [add_block] at this | exact this) GW103.out)) | (dsimp only; exact Nat.ne_of_lt (Nat.lt_of_lt_of_le (by have := World.block_lt_of_cell? _ _ hw107_0; first | rwa [add_block] at this | exact this) GW103.out))) _).trans (((cell_far (p := ⟨gb103, _, none⟩) (by first | exact Nat.ne_of_lt (Nat.lt_of_lt_of_le (by have := World.block_lt_of_cell? _ _ hw107_0; first | rwa [add_block] at this | exact this) GW103.out) | (rw [add_block]; exact Nat.ne_of_lt (Nat.lt_of_lt_of_le (by have := World.block_lt_of_cell? _ _ hw107_0; first | rwa [add_block] at this | exact this) GW103.out)) | (show (Addr.add _ _).block ≠ _; rw [add_block]; exact Nat.ne_of_lt (Nat.lt_of_lt_of_le (by have := World.block_lt_of_cell? _ _ hw107_0; first | rwa [add_block] at this | exact this) GW103.out)) | (dsimp only; exact Nat.ne_of_lt (Nat.lt_of_lt_of_le (by have := World.block_lt_of_cell? _ _ hw107_0; first | rwa [add_block] at this | exact this) GW103.out))) _).trans (hHeld.2.2.2.2.2.2.2.1)))))))), ((cell_far (p := ⟨gb103, _, none⟩) (by first | exact Nat.ne_of_lt (Nat.lt_of_lt_of_le (by have := World.block_lt_of_cell? _ _ hw107_1; first | rwa [add_block] at this | exact this) GW103.out) | (rw [add_block]; exact Nat.ne_of_lt (Nat.lt_of_lt_of_le (by have := World.block_lt_of_cell? _ _ hw107_1; first | rwa [add_block] at this | exact this) GW103.out)) | (show (Addr.add _ _).block ≠ _; rw [add_block]; exact Nat.ne_of_lt (Nat.lt_of_lt_of_le (by have := World.block_lt_of_cell? _ _ hw107_1; first | rwa [add_block] at this | exact this) GW103.out)) | (dsimp only; exact Nat.ne_of_lt (Nat.lt_of_lt_of_le (by have := World.block_lt_of_cell? _ _ hw107_1; first | rwa [add_block] at this | exact this) GW103.out))) _).trans (((cell_far (p := ⟨gb103, _, none⟩) (by first | exact Nat.ne_of_lt (Nat.lt_of_lt_of_le (by have := World.block_lt_of_cell? _ _ hw107_1; first | rwa [add_block] at this | exact this) GW103.out) | (rw [add_block]; exact Nat.ne_of_lt (Nat.lt_of_lt_of_le (by have := World.block_lt_of_cell? _ _ hw107_1; first | rwa [add_block] at this | exact this) GW103.out)) | (show (Addr.add _ _).block ≠ _; rw [add_block]; exact Nat.ne_of_lt (Nat.lt_of_lt_of_le (by have := World.block_lt_of_cell? _ _ hw107_1; first | rwa [add_block] at this | exact this) GW103.out)) | (dsimp only; exact Nat.ne_of_lt (Nat.lt_of_lt_of_le (by have := World.block_lt_of_cell? _ _ hw107_1; first | rwa [add_block] at this | exact this) GW103.out))) _).trans (((cell_far (p := ⟨gb103, _, none⟩) (by first | exact Nat.ne_of_lt (Nat.lt_of_lt_of_le (by have := World.block_lt_of_cell? _ _ hw107_1; first | rwa [add_block] at this | exact this) GW103.out) | (rw [add_block]; exact Nat.ne_of_lt (Nat.lt_of_lt_of_le (by have := World.block_lt_of_cell? _ _ hw107_1; first | rwa [add_block] at this | exact this) GW103.out)) | (show (Addr.add _ _).block ≠ _; rw [add_block]; exact Nat.ne_of_lt (Nat.lt_of_lt_of_le (by have := World.block_lt_of_cell? _ _ hw107_1; first | rwa [add_block] at this | exact this) GW103.out)) | (dsimp only; exact Nat.ne_of_lt (Nat.lt_of_lt_of_le (by have := World.block_lt_of_cell? _ _ hw107_1; first | rwa [add_block] at this | exact this) GW103.out))) _).trans (((cell_far (p := ⟨gb103, _, none⟩) (by first | exact Nat.ne_of_lt (Nat.lt_of_lt_of_le (by have := World.block_lt_of_cell? _ _ hw107_1; first | rwa [add_block] at this | exact this) GW103.out) | (rw [add_block]; exact Nat.ne_of_lt (Nat.lt_of_lt_of_le (by have := World.block_lt_of_cell? _ _ hw107_1; first | rwa [add_block] at this | exact this) GW103.out)) | (show (Addr.add _ _).block ≠ _; rw [add_block]; exact Nat.ne_of_lt (Nat.lt_of_lt_of_le (by have := World.block_lt_of_cell? _ _ hw107_1; first | rwa [add_block] at this | exact this) GW103.out)) | (dsimp only; exact Nat.ne_of_lt (Nat.lt_of_lt_of_le (by have := World.block_lt_of_cell? _ _ hw107_1; first | rwa [add_block] at this | exact this) GW103.out))) _).trans (hHeld.2.2.2.2.2.2.2.2.1)))))))), ((cell_far (p := ⟨gb103, _, none⟩) (by first | exact Nat.ne_of_lt (Nat.lt_of_lt_of_le (by have := World.block_lt_of_cell? _ _ hw107_2; first | rwa [add_block] at this | exact this) GW103.out) | (rw [add_block]; exact Nat.ne_of_lt (Nat.lt_of_lt_of_le (by have := World.block_lt_of_cell? _ _ hw107_2; first | rwa [add_block] at this | exact this) GW103.out)) | (show (Addr.add _ _).block ≠ _; rw [add_block]; exact Nat.ne_of_lt (Nat.lt_of_lt_of_le (by have := World.block_lt_of_cell? _ _ hw107_2; first | rwa [add_block] at this | exact this) GW103.out)) | (dsimp only; exact Nat.ne_of_lt (Nat.lt_of_lt_of_le (by have := World.block_lt_of_cell? _ _ hw107_2; first | rwa [add_block] at this | exact this) GW103.out))) _).trans (((cell_far (p := ⟨gb103, _, none⟩) (by first | exact Nat.ne_of_lt (Nat.lt_of_lt_of_le (by have := World.block_lt_of_cell? _ _ hw107_2; first | rwa [add_block] at this | exact this) GW103.out) | (rw [add_block]; exact Nat.ne_of_lt (Nat.lt_of_lt_of_le (by have := World.block_lt_of_cell? _ _ hw107_2; first | rwa [add_block] at this | exact this) GW103.out)) | (show (Addr.add _ _).block ≠ _; rw [add_block]; exact Nat.ne_of_lt (Nat.lt_of_lt_of_le (by have := World.block_lt_of_cell? _ _ hw107_2; first | rwa [add_block] at this | exact this) GW103.out)) | (dsimp only; exact Nat.ne_of_lt (Nat.lt_of_lt_of_le (by have := World.block_lt_of_cell? _ _ hw107_2; first | rwa [add_block] at this | exact this) GW103.out))) _).trans (((cell_far (p := ⟨gb103, _, none⟩) (by first | exact Nat.ne_of_lt (Nat.lt_of_lt_of_le (by have := World.block_lt_of_cell? _ _ hw107_2; first | rwa [add_block] at this | exact this) GW103.out) | (rw [add_block]; exact Nat.ne_of_lt (Nat.lt_of_lt_of_le (by have := World.block_lt_of_cell? _ _ hw107_2; first | rwa [add_block] at this | exact this) GW103.out)) | (show (Addr.add _ _).block ≠ _; rw [add_block]; exact Nat.ne_of_lt (Nat.lt_of_lt_of_le (by have := World.block_lt_of_cell? _ _ hw107_2; first | rwa [add_block] at this | exact this) GW103.out)) | (dsimp only; exact Nat.ne_of_lt (Nat.lt_of_lt_of_le (by have := World.block_lt_of_cell? _ _ hw107_2; first | rwa [add_block] at this | exact this) GW103.out))) _).trans (((cell_far (p := ⟨gb103, _, none⟩) (by first | exact Nat.ne_of_lt (Nat.lt_of_lt_of_le (by have := World.block_lt_of_cell? _ _ hw107_2; first | rwa [add_block] at this | exact this) GW103.out) | (rw [add_block]; exact Nat.ne_of_lt (Nat.lt_of_lt_of_le (by have := World.block_lt_of_cell? _ _ hw107_2; first | rwa [add_block] at this | exact this) GW103.out)) | (show (Addr.add _ _).block ≠ _; rw [add_block]; exact Nat.ne_of_lt (Nat.lt_of_lt_of_le (by have := World.block_lt_of_cell? _ _ hw107_2; first | rwa [add_block] at this | exact this) GW103.out)) | (dsimp only; exact Nat.ne_of_lt (Nat.lt_of_lt_of_le (by have := World.block_lt_of_cell? _ _ hw107_2; first | rwa [add_block] at this | exact this) GW103.out))) _).trans (hHeld.2.2.2.2.2.2.2.2.2))))))))⟩ (fun hHeld => ?_)
        clear hK K
        refine pure_ (i := 16) (N := some 9) (v := ?_) (a' := ?_) #[true, true, true, true, true, true, true, true, true, true, true, true, true, true, true, true, true] rfl rfl (any_of HT_.out (by kernel_rfl)) (fun _ _ _ h => h) (Or.inl ⟨by rfl, ?_⟩) ?_ ?_
        rotate_left
        ·intro w'
         go_simp
         with_reducible rfl
        rotate_left
        ·simp only [Act.put, List.setIfInBounds_toArray, List.set_cons_zero, List.set_cons_succ, i64_w, i32_w]
         rfl
        refine done_ (done_of HT_.out (by kernel_rfl)) ?_
        try go_wp2
        go_meet
        case rel => exact ⟨_, (t114), (t108), (t109), (t110), (t111), (.slice Ao23 t111.length co23), (by first | rfl | (simp; done) | (simp [*]; done)), H', ⟨by have := HK1.out; first | omega | exact Nat.le_refl _⟩, ⟨by (with_reducible repeat (first | apply Kd.R_alloc | apply Kd.R_drewN | apply Kd.R_drew)); exact Kd.R_mono (Kd.R_far (p := ⟨gb103, 3, none⟩) (Kd.R_far (p := ⟨gb103, 2, none⟩) (Kd.R_far (p := ⟨gb103, 1, none⟩) (Kd.R_far (p := ⟨gb103, 0, none⟩) (Kd.R_types HO_6.out BK103.out (by decide)) (fun _ hk => hk.2) (.int .i64 t108)) (fun _ hk => hk.2) (.int .i64 t109)) (fun _ hk => hk.2) (.int .i64 t110)) (fun _ hk => hk.2) (.slice Ao23 t111.length co23)) (fun _ hk => hk.1)⟩, ⟨by (with_reducible repeat (first | apply Kd.V_alloc | apply Kd.V_drewN | apply Kd.V_drew)); exact Kd.V_mono (Kd.V_far (p := ⟨gb103, 3, none⟩) (Kd.V_far (p := ⟨gb103, 2, none⟩) (Kd.V_far (p := ⟨gb103, 1, none⟩) (Kd.V_far (p := ⟨gb103, 0, none⟩) (Kd.V_mono HO_102003.out (fun k_ hk => (⟨hk, hk.1.2⟩ : _ ∧ k_ ≠ gb103))) (fun _ hk => hk.2) (.int .i64 t108)) (fun _ hk => hk.2) (.int .i64 t109)) (fun _ hk => hk.2) (.int .i64 t110)) (fun _ hk => hk.2) (.slice Ao23 t111.length co23)) (fun _ hk => ⟨hk.1.1.1.1, ⟨hk.1.1.1.2.1, ⟨hk.1.2, ⟨hk.1.1.1.2.2.1, ⟨hk.1.1.1.2.2.2, hk.1.1.2⟩⟩⟩⟩⟩)⟩, ⟨by (with_reducible repeat (first | apply Kd.R_alloc | apply Kd.R_drewN | apply Kd.R_drew)); exact Kd.R_mono (Kd.R_far (p := ⟨gb103, 3, none⟩) (Kd.R_far (p := ⟨gb103, 2, none⟩) (Kd.R_far (p := ⟨gb103, 1, none⟩) (Kd.R_far (p := ⟨gb103, 0, none⟩) (Kd.R_types HO113.out BK103.out (by decide)) (fun _ hk => hk.2) (.int .i64 t108)) (fun _ hk => hk.2) (.int .i64 t109)) (fun _ hk => hk.2) (.int .i64 t110)) (fun _ hk => hk.2) (.slice Ao23 t111.length co23)) (fun _ hk => hk.1.1)⟩, ⟨by (with_reducible repeat (first | refine blk_drewN ?_ _ | refine blk_drew ?_ | refine blk_alloc ?_ _)); refine blk_far ?_ NB101_103.out _; (with_reducible repeat (first | refine blk_drewN ?_ _ | refine blk_drew ?_ | refine blk_alloc ?_ _)); refine blk_far ?_ NB101_103.out _; (with_reducible repeat (first | refine blk_drewN ?_ _ | refine blk_drew ?_ | refine blk_alloc ?_ _)); refine blk_far ?_ NB101_103.out _; (with_reducible repeat (first | refine blk_drewN ?_ _ | refine blk_drew ?_ | refine blk_alloc ?_ _)); refine blk_far ?_ NB101_103.out _; (with_reducible repeat (first | refine blk_drewN ?_ _ | refine blk_drew ?_ | refine blk_alloc ?_ _)); exact BK101.out⟩, ⟨by (with_reducible repeat (first | refine blk_drewN ?_ _ | refine blk_drew ?_ | refine blk_alloc ?_ _)); refine blk_far ?_ NB102_103.out _; (with_reducible repeat (first | refine blk_drewN ?_ _ | refine blk_drew ?_ | refine blk_alloc ?_ _)); refine blk_far ?_ NB102_103.out _; (with_reducible repeat (first | refine blk_drewN ?_ _ | refine blk_drew ?_ | refine blk_alloc ?_ _)); refine blk_far ?_ NB102_103.out _; (with_reducible repeat (first | refine blk_drewN ?_ _ | refine blk_drew ?_ | refine blk_alloc ?_ _)); refine blk_far ?_ NB102_103.out _; (with_reducible repeat (first | refine blk_drewN ?_ _ | refine blk_drew ?_ | refine blk_alloc ?_ _)); exact BK102.out⟩, ⟨by (with_reducible repeat (first | refine blk_drewN ?_ _ | refine blk_drew ?_ | refine blk_alloc ?_ _)); refine blk_put (cs := #[.int .i64 t108, .int .i64 t109, .int .i64 t110, .slice none 0 0]) ?_ 3 _ rfl; (with_reducible repeat (first | refine blk_drewN ?_ _ | refine blk_drew ?_ | refine blk_alloc ?_ _)); refine blk_put (cs := #[.int .i64 t108, .int .i64 t109, .int .i64 0, .slice none 0 0]) ?_ 2 _ rfl; (with_reducible repeat (first | refine blk_drewN ?_ _ | refine blk_drew ?_ | refine blk_alloc ?_ _)); refine blk_put (cs := #[.int .i64 t108, .int .i64 0, .int .i64 0, .slice none 0 0]) ?_ 1 _ rfl; (with_reducible repeat (first | refine blk_drewN ?_ _ | refine blk_drew ?_ | refine blk_alloc ?_ _)); refine blk_put (cs := #[.int .i64 0, .int .i64 0, .int .i64 0, .slice none 0 0]) ?_ 0 _ rfl; (with_reducible repeat (first | refine blk_drewN ?_ _ | refine blk_drew ?_ | refine blk_alloc ?_ _)); exact BK103.out⟩, ⟨bel⟩⟩
       ·rw [if_neg c16] at H
        have c16b0 : (((rd_T74 l1 x7_1).f0) == 1) = false := beq_eq_false_iff_ne.mpr c16
        have c16b1 : (((rd_T74 l1 x7_1).f0) != 1) = true := bne_iff_ne.mpr c16
        by_cases c25 : ((rd_T74 l1 x7_1).f0) = 2
        ·rw [if_pos c25] at H
         have c25b0 : (((rd_T74 l1 x7_1).f0) == 2) = true := beq_iff_eq.mpr c25
         have c25b1 : (((rd_T74 l1 x7_1).f0) != 2) = false := bne_eq_false_iff_eq.mpr c25
         clear c25
         replace H := Option.bind_eq_some_iff.mp H
         obtain ⟨⟨t116, t117, t118, t119, t122⟩, A260, H⟩ := H
         replace H : (customsref21_Run.j1 k1 l1 x6_1 x7_1 t122 x102000_1 x102001_1 x102002_1 x102003_1 t116 t117 t118 t119) = some (r1, r2, r3, r4, r5) := H
         have A26 := Aside0.mk A260
         clear A260
         have H' := Aside0.mk H
         clear H
         have p105 : 0 ≤ (x7_1 : Int) := of_decide_eq_true (by first | (with_reducible assumption) | assumption)
         have q105 : x7_1 < (l1.length : Int) := of_decide_eq_true (by first | (with_reducible assumption) | assumption)
         obtain ⟨ad105, e105, hx105_0, hx105_1, hx105_2⟩ := at_T74 HR1.out x7_1 p105 q105
         cases e105
         replace hx105_0 := (HB.out.cell (World.block_lt_of_cell? w _ hx105_0)).trans hx105_0
         replace hx105_1 := (HB.out.cell (World.block_lt_of_cell? w _ hx105_1)).trans hx105_1
         replace hx105_2 := (HB.out.cell (World.block_lt_of_cell? w _ hx105_2)).trans hx105_2
         replace p105 := eq_true p105
         replace q105 := eq_true q105
         try go_wp2
         have n0_ := Aside0.mk (Kd.R_drew HO_6.out)
         have n1_ := Aside0.mk (Kd.V_drew HO_102003.out)
         have n2_ := Aside0.mk (blk_drew BK101.out)
         have n3_ := Aside0.mk (blk_drew BK102.out)
         have n4_ := Aside0.mk (blk_drew BK103.out)
         have n5_ := Aside0.mk (below_drew1 HB.out)
         clear HO_6
         clear HO_102003
         clear BK101
         clear BK102
         clear BK103
         clear HB
         have HO_6 := n0_
         have HO_102003 := n1_
         have BK101 := n2_
         have BK102 := n3_
         have BK103 := n4_
         have HB := n5_
         clear n0_ n1_ n2_ n3_ n4_ n5_
         have p115 : 0 ≤ (x7_1 : Int) := of_decide_eq_true (by first | (with_reducible assumption) | assumption)
         have q115 : x7_1 < (l1.length : Int) := of_decide_eq_true (by first | (with_reducible assumption) | assumption)
         obtain ⟨ad115, e115, hx115_0, hx115_1, hx115_2⟩ := at_T74 HR1.out x7_1 p115 q115
         have hw115_2 := hx115_2
         have hw115_1 := hx115_1
         have hw115_0 := hx115_0
         obtain rfl : ad105 = ad115 := (by injection e115)
         replace hx115_0 := (HB.out.cell (World.block_lt_of_cell? w _ hx115_0)).trans hx115_0
         replace hx115_1 := (HB.out.cell (World.block_lt_of_cell? w _ hx115_1)).trans hx115_1
         replace hx115_2 := (HB.out.cell (World.block_lt_of_cell? w _ hx115_2)).trans hx115_2
         replace p115 := eq_true p115
         replace q115 := eq_true q115
         refine start_ (n := 12) (S := fun w' => w'.cell? ⟨gb101, 0, none⟩ = some (.int .i64 x102000_1) ∧ w'.cell? ⟨gb101, 1, none⟩ = some (.int .i64 x102001_1) ∧ w'.cell? ⟨gb101, 2, none⟩ = some (.int .i64 x102002_1) ∧ w'.cell? ⟨gb101, 3, none⟩ = some (.slice Ao12 x102003_1.length co12) ∧ w'.cell? (ad105.add ((x7_1).toNat * 3)) = some (.int .i64 ((rd_T74 l1 x7_1).f0)) ∧ w'.cell? ⟨(ad105.add ((x7_1).toNat * 3)).block, (ad105.add ((x7_1).toNat * 3)).off + 1, none⟩ = some (.int .i64 ((rd_T74 l1 x7_1).f1)) ∧ w'.cell? ⟨(ad105.add ((x7_1).toNat * 3)).block, (ad105.add ((x7_1).toNat * 3)).off + 2, none⟩ = some (.int .i64 ((rd_T74 l1 x7_1).f2))) (ds := []) #[false, false, false, false, false, false, false, false, false, false, false, false] (by kernel_rfl) rfl rfl ⟨(blk_cell BK101.out 0).trans rfl, (blk_cell BK101.out 1).trans rfl, (blk_cell BK101.out 2).trans rfl, (blk_cell BK101.out 3).trans rfl, ((HB.out.cell (World.block_lt_of_cell? w _ hw115_0)).trans hw115_0), ((HB.out.cell (World.block_lt_of_cell? w _ hw115_1)).trans hw115_1), ((HB.out.cell (World.block_lt_of_cell? w _ hw115_2)).trans hw115_2)⟩ (fun hHeld => ?_); refine with_tabW customsref21_Run.tab13 customsref21_Run.bits13 (fun HT_ HW_ => ?_)
         generalize w13.drew = w27 at HO_6 HO_102003 BK101 BK102 BK103 HB hx115_0 hx115_1 hx115_2 hHeld ⊢
         refine pure_ (i := 1) (N := some 46) (v := ?_) (a' := ?_) #[false, true, false, false, false, false, false, false, false, false, false, false] rfl rfl (any_of HT_.out (by kernel_rfl)) (fun _ _ _ h => h) (Or.inl ⟨by rfl, ?_⟩) ?_ ?_
         rotate_left
         ·intro w'
          go_simp
          with_reducible rfl
         rotate_left
         ·simp only [Act.put, List.setIfInBounds_toArray, List.set_cons_zero, List.set_cons_succ, i64_w, i32_w]
          rfl
         refine pure_ (i := 2) (N := some 47) (v := ?_) (a' := ?_) #[false, true, true, false, false, false, false, false, false, false, false, false] rfl rfl (any_of HT_.out (by kernel_rfl)) (fun _ _ _ h => h) (Or.inl ⟨by rfl, ?_⟩) ?_ ?_
         rotate_left
         ·intro w'
          go_simp
          with_reducible rfl
         rotate_left
         ·simp only [Act.put, List.setIfInBounds_toArray, List.set_cons_zero, List.set_cons_succ, i64_w, i32_w]
          rfl
         refine pure_ (i := 3) (N := some 48) (v := ?_) (a' := ?_) #[false, true, true, true, false, false, false, false, false, false, false, false] rfl rfl (any_of HT_.out (by kernel_rfl)) (fun _ _ _ h => h) (Or.inl ⟨by rfl, ?_⟩) ?_ ?_
         rotate_left
         ·intro w'
          go_simp
          with_reducible rfl
         rotate_left
         ·simp only [Act.put, List.setIfInBounds_toArray, List.set_cons_zero, List.set_cons_succ, i64_w, i32_w]
          rfl
         refine pure_ (i := 4) (N := some 49) (v := ?_) (a' := ?_) #[false, true, true, true, true, false, false, false, false, false, false, false] rfl rfl (any_of HT_.out (by kernel_rfl)) (fun _ _ _ h => h) (Or.inl ⟨by rfl, ?_⟩) ?_ ?_
         rotate_left
         ·intro w'
          go_simp
          with_reducible rfl
         rotate_left
         ·simp only [Act.put, List.setIfInBounds_toArray, List.set_cons_zero, List.set_cons_succ, i64_w, i32_w]
          rfl
         refine take_ (i := 0) (N := some 45) (v := ?_) (a' := ?_) #[true, true, true, true, true, false, false, false, false, false, false, false] rfl rfl (take_ofW HT_.out HW_.out (by kernel_rfl)) (fun _ _ _ h => h) (Or.inl ⟨by rfl, ?_⟩) hHeld ?_ ?_
         rotate_left
         ·rintro w' ⟨s0, s1, s2, s3, s4, s5, s6⟩
          go_simp
          with_reducible rfl
         rotate_left
         ·simp only [Act.put, List.setIfInBounds_toArray, List.set_cons_zero, List.set_cons_succ, i64_w, i32_w]
          rfl
         refine take_ (i := 5) (N := some 50) (v := ?_) (a' := ?_) #[true, true, true, true, true, true, false, false, false, false, false, false] rfl rfl (take_ofW HT_.out HW_.out (by kernel_rfl)) (fun _ _ _ h => h) (Or.inl ⟨by rfl, ?_⟩) hHeld ?_ ?_
         rotate_left
         ·rintro w' ⟨s0, s1, s2, s3, s4, s5, s6⟩
          go_simp
          with_reducible rfl
         rotate_left
         ·simp only [Act.put, List.setIfInBounds_toArray, List.set_cons_zero, List.set_cons_succ, i64_w, i32_w]
          rfl
         refine one_ (i := 6) (N := some 51) #[true, true, true, true, true, true, true, false, false, false, false, false] rfl rfl (one_of HT_.out (by kernel_rfl)) (by decide) (fun K hK => ?_)
         refine goes_ Try.func23 (by kernel_rfl) rfl #[.agg #[.int .i64 x102000_1, .int .i64 x102001_1, .int .i64 x102002_1, .slice Ao12 x102003_1.length co12], .int .i64 ((rd_T74 l1 x7_1).f1)] (by rfl) rfl rfl argx ?_
         with_reducible refine (customsref21_Release.calls k1 x102000_1 x102001_1 x102002_1 _ _ x102003_1 ((rd_T74 l1 x7_1).f1) t116 t117 t118 t119 t122 _ ?side1 ?side2 A26.out).mono ?_
         (case side1 => repeat (first | exact (Kd.V_reads' HO_102003.out).2.2 | (with_reducible refine Kd.C_alloc ?_ _) | (with_reducible refine Kd.C_drewN ?_ _) | (with_reducible refine Kd.C_drew ?_)))
         (case side2 => exact (Kd.V_reads' HO_102003.out).2.1)
         rintro e w28 ⟨v120, rfl, ho0, hb⟩
         refine ⟨_, rfl, ?_⟩
         have n0_ := Aside0.mk (Kd.R_below (rowx HO_6.out) hb)
         have n1_ := Aside0.mk (Kd.V_elder' (by (with_reducible repeat (first | apply Kd.V_alloc | apply Kd.V_drewN | apply Kd.V_drew)); exact HO_102003.out) (Kd.R_base ho0) hb)
         have n2_ := Aside0.mk (Kd.R_lower (Kd.R_newM (M := fun k_ => (w.heap.size ≤ k_)) ho0 (below_size bel) (fun k_ h_ => h_)) (below_size bel))
         have n3_ := Aside0.mk (blk_below (g := gb101) (o := .cells #[.int .i64 x102000_1, .int .i64 x102001_1, .int .i64 x102002_1, .slice Ao12 x102003_1.length co12] 25 (0, 0)) blkx hb)
         have n4_ := Aside0.mk (blk_below (g := gb102) (o := .cells #[.int .i64 0, .int .i64 0, .int .i64 0, .slice none 0 0] 25 (0, 0)) blkx hb)
         have n5_ := Aside0.mk (blk_below (g := gb103) (o := .cells #[.int .i64 0, .int .i64 0, .int .i64 0, .slice none 0 0] 25 (0, 0)) blkx hb)
         have n6_ := Aside0.mk (below_step bel hb)
         clear HO_6
         clear HO_102003
         clear BK101
         clear BK102
         clear BK103
         clear HB
         have HO_6 := n0_
         have HO_102003 := n1_
         have HO121 := n2_
         have BK101 := n3_
         have BK102 := n4_
         have BK103 := n5_
         have HB := n6_
         clear n0_ n1_ n2_ n3_ n4_ n5_ n6_
         (try clear hb)
         (try clear hb2)
         (try clear hk)
         (try clear hi)
         (try clear ho0)
         obtain ⟨Ao32, co32, eo32⟩ := Kd.R_slice HO121.out
         (first | subst eo32 | (injection eo32 with f1_ f2_ f3_; have f4_ := f1_.symm; have f5_ := f3_.symm; clear f1_ f2_ f3_; subst f4_; subst f5_))
         refine hK.out _ _ ⟨(blk_cell BK101.out 0).trans rfl, (blk_cell BK101.out 1).trans rfl, (blk_cell BK101.out 2).trans rfl, (blk_cell BK101.out 3).trans rfl, ((HB.out.cell (World.block_lt_of_cell? w _ hw115_0)).trans hw115_0), ((HB.out.cell (World.block_lt_of_cell? w _ hw115_1)).trans hw115_1), ((HB.out.cell (World.block_lt_of_cell? w _ hw115_2)).trans hw115_2)⟩ (fun hHeld => ?_)
         clear hK K
         refine norm_ (a' := ?_) ?_ ?_
         rotate_left
         ·show Act.put _ (some 51) _ = _
          simp only [Act.put, List.setIfInBounds_toArray, List.set_cons_zero, List.set_cons_succ, i64_w, i32_w]
          rfl
         refine pure_ (i := 7) (N := some 44) (v := ?_) (a' := ?_) #[true, true, true, true, true, true, true, true, false, false, false, false] rfl rfl (any_of HT_.out (by kernel_rfl)) (fun _ _ _ h => h) (Or.inl ⟨by rfl, ?_⟩) ?_ ?_
         rotate_left
         ·intro w'
          go_simp
          with_reducible rfl
         rotate_left
         ·simp only [Act.put, List.setIfInBounds_toArray, List.set_cons_zero, List.set_cons_succ, i64_w, i32_w]
          rfl
         refine pure_ (i := 8) (N := some 52) (v := ?_) (a' := ?_) #[true, true, true, true, true, true, true, true, true, false, false, false] rfl rfl (any_of HT_.out (by kernel_rfl)) (fun _ _ _ h => h) (Or.inl ⟨by rfl, ?_⟩) ?_ ?_
         rotate_left
         ·intro w'
          go_simp
          with_reducible rfl
         rotate_left
         ·simp only [Act.put, List.setIfInBounds_toArray, List.set_cons_zero, List.set_cons_succ, i64_w, i32_w]
          rfl
         refine pure_ (i := 9) (N := some 53) (v := ?_) (a' := ?_) #[true, true, true, true, true, true, true, true, true, true, false, false] rfl rfl (any_of HT_.out (by kernel_rfl)) (fun _ _ _ h => h) (Or.inl ⟨by rfl, ?_⟩) ?_ ?_
         rotate_left
         ·intro w'
          go_simp
          with_reducible rfl
         rotate_left
         ·simp only [Act.put, List.setIfInBounds_toArray, List.set_cons_zero, List.set_cons_succ, i64_w, i32_w]
          rfl
         refine one_ (i := 10) (N := none) #[true, true, true, true, true, true, true, true, true, true, true, false] rfl rfl (one_of HT_.out (by kernel_rfl)) (by decide) (fun K hK => ?_)
         have hs29 : w28.cell? ⟨gb103, 0, none⟩ = some (.int .i64 0) := (blk_cell BK103.out 0).trans rfl
         have hfs29 := blk_frozen BK103.out 0
         have hns29_0 := NB101_103.out
         have hns29_1 := NB102_103.out
         have hms29_0 := NB103_101.out
         have hms29_1 := NB103_102.out
         have hs30 : w28.cell? ⟨gb103, 1, none⟩ = some (.int .i64 0) := (blk_cell BK103.out 1).trans rfl
         have hfs30 := blk_frozen BK103.out 1
         have hns30_0 := NB101_103.out
         have hns30_1 := NB102_103.out
         have hms30_0 := NB103_101.out
         have hms30_1 := NB103_102.out
         have hs31 : w28.cell? ⟨gb103, 2, none⟩ = some (.int .i64 0) := (blk_cell BK103.out 2).trans rfl
         have hfs31 := blk_frozen BK103.out 2
         have hns31_0 := NB101_103.out
         have hns31_1 := NB102_103.out
         have hms31_0 := NB103_101.out
         have hms31_1 := NB103_102.out
         have hs33 : w28.cell? ⟨gb103, 3, none⟩ = some (.slice none 0 0) := (blk_cell BK103.out 3).trans rfl
         have hfs33 := blk_frozen BK103.out 3
         have hns33_0 := NB101_103.out
         have hns33_1 := NB102_103.out
         have hms33_0 := NB103_101.out
         have hms33_1 := NB103_102.out
         refine skip_ (w1 := ?_) (by rfl) rfl ?_ ?_
         rotate_left
         ·go_simp
          rfl
         refine hK.out _ _ ⟨((cell_far (p := ⟨gb103, _, none⟩) NB101_103.out _).trans (((cell_far (p := ⟨gb103, _, none⟩) NB101_103.out _).trans (((cell_far (p := ⟨gb103, _, none⟩) NB101_103.out _).trans (((cell_far (p := ⟨gb103, _, none⟩) NB101_103.out _).trans (hHeld.1)))))))), ((cell_far (p := ⟨gb103, _, none⟩) NB101_103.out _).trans (((cell_far (p := ⟨gb103, _, none⟩) NB101_103.out _).trans (((cell_far (p := ⟨gb103, _, none⟩) NB101_103.out _).trans (((cell_far (p := ⟨gb103, _, none⟩) NB101_103.out _).trans (hHeld.2.1)))))))), ((cell_far (p := ⟨gb103, _, none⟩) NB101_103.out _).trans (((cell_far (p := ⟨gb103, _, none⟩) NB101_103.out _).trans (((cell_far (p := ⟨gb103, _, none⟩) NB101_103.out _).trans (((cell_far (p := ⟨gb103, _, none⟩) NB101_103.out _).trans (hHeld.2.2.1)))))))), ((cell_far (p := ⟨gb103, _, none⟩) NB101_103.out _).trans (((cell_far (p := ⟨gb103, _, none⟩) NB101_103.out _).trans (((cell_far (p := ⟨gb103, _, none⟩) NB101_103.out _).trans (((cell_far (p := ⟨gb103, _, none⟩) NB101_103.out _).trans (hHeld.2.2.2.1)))))))), ((cell_far (p := ⟨gb103, _, none⟩) (by first | exact Nat.ne_of_lt (Nat.lt_of_lt_of_le (by have := World.block_lt_of_cell? _ _ hw115_0; first | rwa [add_block] at this | exact this) GW103.out) | (rw [add_block]; exact Nat.ne_of_lt (Nat.lt_of_lt_of_le (by have := World.block_lt_of_cell? _ _ hw115_0; first | rwa [add_block] at this | exact this) GW103.out)) | (show (Addr.add _ _).block ≠ _; rw [add_block]; exact Nat.ne_of_lt (Nat.lt_of_lt_of_le (by have := World.block_lt_of_cell? _ _ hw115_0; first | rwa [add_block] at this | exact this) GW103.out)) | (dsimp only; exact Nat.ne_of_lt (Nat.lt_of_lt_of_le (by have := World.block_lt_of_cell? _ _ hw115_0; first | rwa [add_block] at this | exact this) GW103.out))) _).trans (((cell_far (p := ⟨gb103, _, none⟩) (by first | exact Nat.ne_of_lt (Nat.lt_of_lt_of_le (by have := World.block_lt_of_cell? _ _ hw115_0; first | rwa [add_block] at this | exact this) GW103.out) | (rw [add_block]; exact Nat.ne_of_lt (Nat.lt_of_lt_of_le (by have := World.block_lt_of_cell? _ _ hw115_0; first | rwa [add_block] at this | exact this) GW103.out)) | (show (Addr.add _ _).block ≠ _; rw [add_block]; exact Nat.ne_of_lt (Nat.lt_of_lt_of_le (by have := World.block_lt_of_cell? _ _ hw115_0; first | rwa [add_block] at this | exact this) GW103.out)) | (dsimp only; exact Nat.ne_of_lt (Nat.lt_of_lt_of_le (by have := World.block_lt_of_cell? _ _ hw115_0; first | rwa [add_block] at this | exact this) GW103.out))) _).trans (((cell_far (p := ⟨gb103, _, none⟩) (by first | exact Nat.ne_of_lt (Nat.lt_of_lt_of_le (by have := World.block_lt_of_cell? _ _ hw115_0; first | rwa [add_block] at this | exact this) GW103.out) | (rw [add_block]; exact Nat.ne_of_lt (Nat.lt_of_lt_of_le (by have := World.block_lt_of_cell? _ _ hw115_0; first | rwa [add_block] at this | exact this) GW103.out)) | (show (Addr.add _ _).block ≠ _; rw [add_block]; exact Nat.ne_of_lt (Nat.lt_of_lt_of_le (by have := World.block_lt_of_cell? _ _ hw115_0; first | rwa [add_block] at this | exact this) GW103.out)) | (dsimp only; exact Nat.ne_of_lt (Nat.lt_of_lt_of_le (by have := World.block_lt_of_cell? _ _ hw115_0; first | rwa [add_block] at this | exact this) GW103.out))) _).trans (((cell_far (p := ⟨gb103, _, none⟩) (by first | exact Nat.ne_of_lt (Nat.lt_of_lt_of_le (by have := World.block_lt_of_cell? _ _ hw115_0; first | rwa [add_block] at this | exact this) GW103.out) | (rw [add_block]; exact Nat.ne_of_lt (Nat.lt_of_lt_of_le (by have := World.block_lt_of_cell? _ _ hw115_0; first | rwa [add_block] at this | exact this) GW103.out)) | (show (Addr.add _ _).block ≠ _; rw [add_block]; exact Nat.ne_of_lt (Nat.lt_of_lt_of_le (by have := World.block_lt_of_cell? _ _ hw115_0; first | rwa [add_block] at this | exact this) GW103.out)) | (dsimp only; exact Nat.ne_of_lt (Nat.lt_of_lt_of_le (by have := World.block_lt_of_cell? _ _ hw115_0; first | rwa [add_block] at this | exact this) GW103.out))) _).trans (hHeld.2.2.2.2.1)))))))), ((cell_far (p := ⟨gb103, _, none⟩) (by first | exact Nat.ne_of_lt (Nat.lt_of_lt_of_le (by have := World.block_lt_of_cell? _ _ hw115_1; first | rwa [add_block] at this | exact this) GW103.out) | (rw [add_block]; exact Nat.ne_of_lt (Nat.lt_of_lt_of_le (by have := World.block_lt_of_cell? _ _ hw115_1; first | rwa [add_block] at this | exact this) GW103.out)) | (show (Addr.add _ _).block ≠ _; rw [add_block]; exact Nat.ne_of_lt (Nat.lt_of_lt_of_le (by have := World.block_lt_of_cell? _ _ hw115_1; first | rwa [add_block] at this | exact this) GW103.out)) | (dsimp only; exact Nat.ne_of_lt (Nat.lt_of_lt_of_le (by have := World.block_lt_of_cell? _ _ hw115_1; first | rwa [add_block] at this | exact this) GW103.out))) _).trans (((cell_far (p := ⟨gb103, _, none⟩) (by first | exact Nat.ne_of_lt (Nat.lt_of_lt_of_le (by have := World.block_lt_of_cell? _ _ hw115_1; first | rwa [add_block] at this | exact this) GW103.out) | (rw [add_block]; exact Nat.ne_of_lt (Nat.lt_of_lt_of_le (by have := World.block_lt_of_cell? _ _ hw115_1; first | rwa [add_block] at this | exact this) GW103.out)) | (show (Addr.add _ _).block ≠ _; rw [add_block]; exact Nat.ne_of_lt (Nat.lt_of_lt_of_le (by have := World.block_lt_of_cell? _ _ hw115_1; first | rwa [add_block] at this | exact this) GW103.out)) | (dsimp only; exact Nat.ne_of_lt (Nat.lt_of_lt_of_le (by have := World.block_lt_of_cell? _ _ hw115_1; first | rwa [add_block] at this | exact this) GW103.out))) _).trans (((cell_far (p := ⟨gb103, _, none⟩) (by first | exact Nat.ne_of_lt (Nat.lt_of_lt_of_le (by have := World.block_lt_of_cell? _ _ hw115_1; first | rwa [add_block] at this | exact this) GW103.out) | (rw [add_block]; exact Nat.ne_of_lt (Nat.lt_of_lt_of_le (by have := World.block_lt_of_cell? _ _ hw115_1; first | rwa [add_block] at this | exact this) GW103.out)) | (show (Addr.add _ _).block ≠ _; rw [add_block]; exact Nat.ne_of_lt (Nat.lt_of_lt_of_le (by have := World.block_lt_of_cell? _ _ hw115_1; first | rwa [add_block] at this | exact this) GW103.out)) | (dsimp only; exact Nat.ne_of_lt (Nat.lt_of_lt_of_le (by have := World.block_lt_of_cell? _ _ hw115_1; first | rwa [add_block] at this | exact this) GW103.out))) _).trans (((cell_far (p := ⟨gb103, _, none⟩) (by first | exact Nat.ne_of_lt (Nat.lt_of_lt_of_le (by have := World.block_lt_of_cell? _ _ hw115_1; first | rwa [add_block] at this | exact this) GW103.out) | (rw [add_block]; exact Nat.ne_of_lt (Nat.lt_of_lt_of_le (by have := World.block_lt_of_cell? _ _ hw115_1; first | rwa [add_block] at this | exact this) GW103.out)) | (show (Addr.add _ _).block ≠ _; rw [add_block]; exact Nat.ne_of_lt (Nat.lt_of_lt_of_le (by have := World.block_lt_of_cell? _ _ hw115_1; first | rwa [add_block] at this | exact this) GW103.out)) | (dsimp only; exact Nat.ne_of_lt (Nat.lt_of_lt_of_le (by have := World.block_lt_of_cell? _ _ hw115_1; first | rwa [add_block] at this | exact this) GW103.out))) _).trans (hHeld.2.2.2.2.2.1)))))))), ((cell_far (p := ⟨gb103, _, none⟩) (by first | exact Nat.ne_of_lt (Nat.lt_of_lt_of_le (by have := World.block_lt_of_cell? _ _ hw115_2; first | rwa [add_block] at this | exact this) GW103.out) | (rw [add_block]; exact Nat.ne_of_lt (Nat.lt_of_lt_of_le (by have := World.block_lt_of_cell? _ _ hw115_2; first | rwa [add_block] at this | exact this) GW103.out)) | (show (Addr.add _ _).block ≠ _; rw [add_block]; exact Nat.ne_of_lt (Nat.lt_of_lt_of_le (by have := World.block_lt_of_cell? _ _ hw115_2; first | rwa [add_block] at this | exact this) GW103.out)) | (dsimp only; exact Nat.ne_of_lt (Nat.lt_of_lt_of_le (by have := World.block_lt_of_cell? _ _ hw115_2; first | rwa [add_block] at this | exact this) GW103.out))) _).trans (((cell_far (p := ⟨gb103, _, none⟩) (by first | exact Nat.ne_of_lt (Nat.lt_of_lt_of_le (by have := World.block_lt_of_cell? _ _ hw115_2; first | rwa [add_block] at this | exact this) GW103.out) | (rw [add_block]; exact Nat.ne_of_lt (Nat.lt_of_lt_of_le (by have := World.block_lt_of_cell? _ _ hw115_2; first | rwa [add_block] at this | exact this) GW103.out)) | (show (Addr.add _ _).block ≠ _; rw [add_block]; exact Nat.ne_of_lt (Nat.lt_of_lt_of_le (by have := World.block_lt_of_cell? _ _ hw115_2; first | rwa [add_block] at this | exact this) GW103.out)) | (dsimp only; exact Nat.ne_of_lt (Nat.lt_of_lt_of_le (by have := World.block_lt_of_cell? _ _ hw115_2; first | rwa [add_block] at this | exact this) GW103.out))) _).trans (((cell_far (p := ⟨gb103, _, none⟩) (by first | exact Nat.ne_of_lt (Nat.lt_of_lt_of_le (by have := World.block_lt_of_cell? _ _ hw115_2; first | rwa [add_block] at this | exact this) GW103.out) | (rw [add_block]; exact Nat.ne_of_lt (Nat.lt_of_lt_of_le (by have := World.block_lt_of_cell? _ _ hw115_2; first | rwa [add_block] at this | exact this) GW103.out)) | (show (Addr.add _ _).block ≠ _; rw [add_block]; exact Nat.ne_of_lt (Nat.lt_of_lt_of_le (by have := World.block_lt_of_cell? _ _ hw115_2; first | rwa [add_block] at this | exact this) GW103.out)) | (dsimp only; exact Nat.ne_of_lt (Nat.lt_of_lt_of_le (by have := World.block_lt_of_cell? _ _ hw115_2; first | rwa [add_block] at this | exact this) GW103.out))) _).trans (((cell_far (p := ⟨gb103, _, none⟩) (by first | exact Nat.ne_of_lt (Nat.lt_of_lt_of_le (by have := World.block_lt_of_cell? _ _ hw115_2; first | rwa [add_block] at this | exact this) GW103.out) | (rw [add_block]; exact Nat.ne_of_lt (Nat.lt_of_lt_of_le (by have := World.block_lt_of_cell? _ _ hw115_2; first | rwa [add_block] at this | exact this) GW103.out)) | (show (Addr.add _ _).block ≠ _; rw [add_block]; exact Nat.ne_of_lt (Nat.lt_of_lt_of_le (by have := World.block_lt_of_cell? _ _ hw115_2; first | rwa [add_block] at this | exact this) GW103.out)) | (dsimp only; exact Nat.ne_of_lt (Nat.lt_of_lt_of_le (by have := World.block_lt_of_cell? _ _ hw115_2; first | rwa [add_block] at this | exact this) GW103.out))) _).trans (hHeld.2.2.2.2.2.2))))))))⟩ (fun hHeld => ?_)
         clear hK K
         refine pure_ (i := 11) (N := some 9) (v := ?_) (a' := ?_) #[true, true, true, true, true, true, true, true, true, true, true, true] rfl rfl (any_of HT_.out (by kernel_rfl)) (fun _ _ _ h => h) (Or.inl ⟨by rfl, ?_⟩) ?_ ?_
         rotate_left
         ·intro w'
          go_simp
          with_reducible rfl
         rotate_left
         ·simp only [Act.put, List.setIfInBounds_toArray, List.set_cons_zero, List.set_cons_succ, i64_w, i32_w]
          rfl
         refine done_ (done_of HT_.out (by kernel_rfl)) ?_
         try go_wp2
         go_meet
         case rel => exact ⟨_, (t122), (t116), (t117), (t118), (t119), (.slice Ao32 t119.length co32), (by first | rfl | (simp; done) | (simp [*]; done)), H', ⟨by have := HK1.out; first | omega | exact Nat.le_refl _⟩, ⟨by (with_reducible repeat (first | apply Kd.R_alloc | apply Kd.R_drewN | apply Kd.R_drew)); exact Kd.R_mono (Kd.R_far (p := ⟨gb103, 3, none⟩) (Kd.R_far (p := ⟨gb103, 2, none⟩) (Kd.R_far (p := ⟨gb103, 1, none⟩) (Kd.R_far (p := ⟨gb103, 0, none⟩) (Kd.R_types HO_6.out BK103.out (by decide)) (fun _ hk => hk.2) (.int .i64 t116)) (fun _ hk => hk.2) (.int .i64 t117)) (fun _ hk => hk.2) (.int .i64 t118)) (fun _ hk => hk.2) (.slice Ao32 t119.length co32)) (fun _ hk => hk.1)⟩, ⟨by (with_reducible repeat (first | apply Kd.V_alloc | apply Kd.V_drewN | apply Kd.V_drew)); exact Kd.V_mono (Kd.V_far (p := ⟨gb103, 3, none⟩) (Kd.V_far (p := ⟨gb103, 2, none⟩) (Kd.V_far (p := ⟨gb103, 1, none⟩) (Kd.V_far (p := ⟨gb103, 0, none⟩) (Kd.V_mono HO_102003.out (fun k_ hk => (⟨hk, hk.1.2⟩ : _ ∧ k_ ≠ gb103))) (fun _ hk => hk.2) (.int .i64 t116)) (fun _ hk => hk.2) (.int .i64 t117)) (fun _ hk => hk.2) (.int .i64 t118)) (fun _ hk => hk.2) (.slice Ao32 t119.length co32)) (fun _ hk => ⟨hk.1.1.1.1, ⟨hk.1.1.1.2.1, ⟨hk.1.2, ⟨hk.1.1.1.2.2.1, ⟨hk.1.1.1.2.2.2, hk.1.1.2⟩⟩⟩⟩⟩)⟩, ⟨by (with_reducible repeat (first | apply Kd.R_alloc | apply Kd.R_drewN | apply Kd.R_drew)); exact Kd.R_mono (Kd.R_far (p := ⟨gb103, 3, none⟩) (Kd.R_far (p := ⟨gb103, 2, none⟩) (Kd.R_far (p := ⟨gb103, 1, none⟩) (Kd.R_far (p := ⟨gb103, 0, none⟩) (Kd.R_types HO121.out BK103.out (by decide)) (fun _ hk => hk.2) (.int .i64 t116)) (fun _ hk => hk.2) (.int .i64 t117)) (fun _ hk => hk.2) (.int .i64 t118)) (fun _ hk => hk.2) (.slice Ao32 t119.length co32)) (fun _ hk => hk.1.1)⟩, ⟨by (with_reducible repeat (first | refine blk_drewN ?_ _ | refine blk_drew ?_ | refine blk_alloc ?_ _)); refine blk_far ?_ NB101_103.out _; (with_reducible repeat (first | refine blk_drewN ?_ _ | refine blk_drew ?_ | refine blk_alloc ?_ _)); refine blk_far ?_ NB101_103.out _; (with_reducible repeat (first | refine blk_drewN ?_ _ | refine blk_drew ?_ | refine blk_alloc ?_ _)); refine blk_far ?_ NB101_103.out _; (with_reducible repeat (first | refine blk_drewN ?_ _ | refine blk_drew ?_ | refine blk_alloc ?_ _)); refine blk_far ?_ NB101_103.out _; (with_reducible repeat (first | refine blk_drewN ?_ _ | refine blk_drew ?_ | refine blk_alloc ?_ _)); exact BK101.out⟩, ⟨by (with_reducible repeat (first | refine blk_drewN ?_ _ | refine blk_drew ?_ | refine blk_alloc ?_ _)); refine blk_far ?_ NB102_103.out _; (with_reducible repeat (first | refine blk_drewN ?_ _ | refine blk_drew ?_ | refine blk_alloc ?_ _)); refine blk_far ?_ NB102_103.out _; (with_reducible repeat (first | refine blk_drewN ?_ _ | refine blk_drew ?_ | refine blk_alloc ?_ _)); refine blk_far ?_ NB102_103.out _; (with_reducible repeat (first | refine blk_drewN ?_ _ | refine blk_drew ?_ | refine blk_alloc ?_ _)); refine blk_far ?_ NB102_103.out _; (with_reducible repeat (first | refine blk_drewN ?_ _ | refine blk_drew ?_ | refine blk_alloc ?_ _)); exact BK102.out⟩, ⟨by (with_reducible repeat (first | refine blk_drewN ?_ _ | refine blk_drew ?_ | refine blk_alloc ?_ _)); refine blk_put (cs := #[.int .i64 t116, .int .i64 t117, .int .i64 t118, .slice none 0 0]) ?_ 3 _ rfl; (with_reducible repeat (first | refine blk_drewN ?_ _ | refine blk_drew ?_ | refine blk_alloc ?_ _)); refine blk_put (cs := #[.int .i64 t116, .int .i64 t117, .int .i64 0, .slice none 0 0]) ?_ 2 _ rfl; (with_reducible repeat (first | refine blk_drewN ?_ _ | refine blk_drew ?_ | refine blk_alloc ?_ _)); refine blk_put (cs := #[.int .i64 t116, .int .i64 0, .int .i64 0, .slice none 0 0]) ?_ 1 _ rfl; (with_reducible repeat (first | refine blk_drewN ?_ _ | refine blk_drew ?_ | refine blk_alloc ?_ _)); refine blk_put (cs := #[.int .i64 0, .int .i64 0, .int .i64 0, .slice none 0 0]) ?_ 0 _ rfl; (with_reducible repeat (first | refine blk_drewN ?_ _ | refine blk_drew ?_ | refine blk_alloc ?_ _)); exact BK103.out⟩, ⟨bel⟩⟩
        ·rw [if_neg c25] at H
         have c25b0 : (((rd_T74 l1 x7_1).f0) == 2) = false := beq_eq_false_iff_ne.mpr c25
         have c25b1 : (((rd_T74 l1 x7_1).f0) != 2) = true := bne_iff_ne.mpr c25
         by_cases c34 : ((rd_T74 l1 x7_1).f0) = 3
         ·rw [if_pos c34] at H
          have c34b0 : (((rd_T74 l1 x7_1).f0) == 3) = true := beq_iff_eq.mpr c34
          have c34b1 : (((rd_T74 l1 x7_1).f0) != 3) = false := bne_eq_false_iff_eq.mpr c34
          clear c34
          replace H := Option.bind_eq_some_iff.mp H
          obtain ⟨⟨t124, t125, t126, t127, t130⟩, A350, H⟩ := H
          replace H : (customsref21_Run.j1 k1 l1 x6_1 x7_1 t130 x102000_1 x102001_1 x102002_1 x102003_1 t124 t125 t126 t127) = some (r1, r2, r3, r4, r5) := H
          have A35 := Aside0.mk A350
          clear A350
          have H' := Aside0.mk H
          clear H
          have p105 : 0 ≤ (x7_1 : Int) := of_decide_eq_true (by first | (with_reducible assumption) | assumption)
          have q105 : x7_1 < (l1.length : Int) := of_decide_eq_true (by first | (with_reducible assumption) | assumption)
          obtain ⟨ad105, e105, hx105_0, hx105_1, hx105_2⟩ := at_T74 HR1.out x7_1 p105 q105
          cases e105
          replace hx105_0 := (HB.out.cell (World.block_lt_of_cell? w _ hx105_0)).trans hx105_0
          replace hx105_1 := (HB.out.cell (World.block_lt_of_cell? w _ hx105_1)).trans hx105_1
          replace hx105_2 := (HB.out.cell (World.block_lt_of_cell? w _ hx105_2)).trans hx105_2
          replace p105 := eq_true p105
          replace q105 := eq_true q105
          try go_wp2
          have n0_ := Aside0.mk (Kd.R_drew HO_6.out)
          have n1_ := Aside0.mk (Kd.V_drew HO_102003.out)
          have n2_ := Aside0.mk (blk_drew BK101.out)
          have n3_ := Aside0.mk (blk_drew BK102.out)
          have n4_ := Aside0.mk (blk_drew BK103.out)
          have n5_ := Aside0.mk (below_drew1 HB.out)
          clear HO_6
          clear HO_102003
          clear BK101
          clear BK102
          clear BK103
          clear HB
          have HO_6 := n0_
          have HO_102003 := n1_
          have BK101 := n2_
          have BK102 := n3_
          have BK103 := n4_
          have HB := n5_
          clear n0_ n1_ n2_ n3_ n4_ n5_
          have p123 : 0 ≤ (x7_1 : Int) := of_decide_eq_true (by first | (with_reducible assumption) | assumption)
          have q123 : x7_1 < (l1.length : Int) := of_decide_eq_true (by first | (with_reducible assumption) | assumption)
          obtain ⟨ad123, e123, hx123_0, hx123_1, hx123_2⟩ := at_T74 HR1.out x7_1 p123 q123
          have hw123_2 := hx123_2
          have hw123_1 := hx123_1
          have hw123_0 := hx123_0
          obtain rfl : ad105 = ad123 := (by injection e123)
          replace hx123_0 := (HB.out.cell (World.block_lt_of_cell? w _ hx123_0)).trans hx123_0
          replace hx123_1 := (HB.out.cell (World.block_lt_of_cell? w _ hx123_1)).trans hx123_1
          replace hx123_2 := (HB.out.cell (World.block_lt_of_cell? w _ hx123_2)).trans hx123_2
          replace p123 := eq_true p123
          replace q123 := eq_true q123
          refine start_ (n := 12) (S := fun w' => w'.cell? ⟨gb101, 0, none⟩ = some (.int .i64 x102000_1) ∧ w'.cell? ⟨gb101, 1, none⟩ = some (.int .i64 x102001_1) ∧ w'.cell? ⟨gb101, 2, none⟩ = some (.int .i64 x102002_1) ∧ w'.cell? ⟨gb101, 3, none⟩ = some (.slice Ao12 x102003_1.length co12) ∧ w'.cell? (ad105.add ((x7_1).toNat * 3)) = some (.int .i64 ((rd_T74 l1 x7_1).f0)) ∧ w'.cell? ⟨(ad105.add ((x7_1).toNat * 3)).block, (ad105.add ((x7_1).toNat * 3)).off + 1, none⟩ = some (.int .i64 ((rd_T74 l1 x7_1).f1)) ∧ w'.cell? ⟨(ad105.add ((x7_1).toNat * 3)).block, (ad105.add ((x7_1).toNat * 3)).off + 2, none⟩ = some (.int .i64 ((rd_T74 l1 x7_1).f2))) (ds := []) #[false, false, false, false, false, false, false, false, false, false, false, false] (by kernel_rfl) rfl rfl ⟨(blk_cell BK101.out 0).trans rfl, (blk_cell BK101.out 1).trans rfl, (blk_cell BK101.out 2).trans rfl, (blk_cell BK101.out 3).trans rfl, ((HB.out.cell (World.block_lt_of_cell? w _ hw123_0)).trans hw123_0), ((HB.out.cell (World.block_lt_of_cell? w _ hw123_1)).trans hw123_1), ((HB.out.cell (World.block_lt_of_cell? w _ hw123_2)).trans hw123_2)⟩ (fun hHeld => ?_); refine with_tabW customsref21_Run.tab15 customsref21_Run.bits15 (fun HT_ HW_ => ?_)
          generalize w13.drew = w36 at HO_6 HO_102003 BK101 BK102 BK103 HB hx123_0 hx123_1 hx123_2 hHeld ⊢
          refine pure_ (i := 1) (N := some 58) (v := ?_) (a' := ?_) #[false, true, false, false, false, false, false, false, false, false, false, false] rfl rfl (any_of HT_.out (by kernel_rfl)) (fun _ _ _ h => h) (Or.inl ⟨by rfl, ?_⟩) ?_ ?_
          rotate_left
          ·intro w'
           go_simp
           with_reducible rfl
          rotate_left
          ·simp only [Act.put, List.setIfInBounds_toArray, List.set_cons_zero, List.set_cons_succ, i64_w, i32_w]
           rfl
          refine pure_ (i := 2) (N := some 59) (v := ?_) (a' := ?_) #[false, true, true, false, false, false, false, false, false, false, false, false] rfl rfl (any_of HT_.out (by kernel_rfl)) (fun _ _ _ h => h) (Or.inl ⟨by rfl, ?_⟩) ?_ ?_
          rotate_left
          ·intro w'
           go_simp
           with_reducible rfl
          rotate_left
          ·simp only [Act.put, List.setIfInBounds_toArray, List.set_cons_zero, List.set_cons_succ, i64_w, i32_w]
           rfl
          refine pure_ (i := 3) (N := some 60) (v := ?_) (a' := ?_) #[false, true, true, true, false, false, false, false, false, false, false, false] rfl rfl (any_of HT_.out (by kernel_rfl)) (fun _ _ _ h => h) (Or.inl ⟨by rfl, ?_⟩) ?_ ?_
          rotate_left
          ·intro w'
           go_simp
           with_reducible rfl
          rotate_left
          ·simp only [Act.put, List.setIfInBounds_toArray, List.set_cons_zero, List.set_cons_succ, i64_w, i32_w]
           rfl
          refine pure_ (i := 4) (N := some 61) (v := ?_) (a' := ?_) #[false, true, true, true, true, false, false, false, false, false, false, false] rfl rfl (any_of HT_.out (by kernel_rfl)) (fun _ _ _ h => h) (Or.inl ⟨by rfl, ?_⟩) ?_ ?_
          rotate_left
          ·intro w'
           go_simp
           with_reducible rfl
          rotate_left
          ·simp only [Act.put, List.setIfInBounds_toArray, List.set_cons_zero, List.set_cons_succ, i64_w, i32_w]
           rfl
          refine take_ (i := 0) (N := some 57) (v := ?_) (a' := ?_) #[true, true, true, true, true, false, false, false, false, false, false, false] rfl rfl (take_ofW HT_.out HW_.out (by kernel_rfl)) (fun _ _ _ h => h) (Or.inl ⟨by rfl, ?_⟩) hHeld ?_ ?_
          rotate_left
          ·rintro w' ⟨s0, s1, s2, s3, s4, s5, s6⟩
           go_simp
           with_reducible rfl
          rotate_left
          ·simp only [Act.put, List.setIfInBounds_toArray, List.set_cons_zero, List.set_cons_succ, i64_w, i32_w]
           rfl
          refine take_ (i := 5) (N := some 62) (v := ?_) (a' := ?_) #[true, true, true, true, true, true, false, false, false, false, false, false] rfl rfl (take_ofW HT_.out HW_.out (by kernel_rfl)) (fun _ _ _ h => h) (Or.inl ⟨by rfl, ?_⟩) hHeld ?_ ?_
          rotate_left
          ·rintro w' ⟨s0, s1, s2, s3, s4, s5, s6⟩
           go_simp
           with_reducible rfl
          rotate_left
          ·simp only [Act.put, List.setIfInBounds_toArray, List.set_cons_zero, List.set_cons_succ, i64_w, i32_w]
           rfl
          refine one_ (i := 6) (N := some 63) #[true, true, true, true, true, true, true, false, false, false, false, false] rfl rfl (one_of HT_.out (by kernel_rfl)) (by decide) (fun K hK => ?_)
          refine goes_ Try.func25 (by kernel_rfl) rfl #[.agg #[.int .i64 x102000_1, .int .i64 x102001_1, .int .i64 x102002_1, .slice Ao12 x102003_1.length co12], .int .i64 ((rd_T74 l1 x7_1).f2)] (by rfl) rfl rfl argx ?_
          with_reducible refine (customsref21_Resize.calls k1 x102000_1 x102001_1 x102002_1 _ _ x102003_1 ((rd_T74 l1 x7_1).f2) t124 t125 t126 t127 t130 _ ?side1 ?side2 A35.out).mono ?_
          (case side1 => repeat (first | exact (Kd.V_reads' HO_102003.out).2.2 | (with_reducible refine Kd.C_alloc ?_ _) | (with_reducible refine Kd.C_drewN ?_ _) | (with_reducible refine Kd.C_drew ?_)))
          (case side2 => exact (Kd.V_reads' HO_102003.out).2.1)
          rintro e w37 ⟨v128, rfl, ho0, hb⟩
          refine ⟨_, rfl, ?_⟩
          have n0_ := Aside0.mk (Kd.R_below (rowx HO_6.out) hb)
          have n1_ := Aside0.mk (Kd.V_elder' (by (with_reducible repeat (first | apply Kd.V_alloc | apply Kd.V_drewN | apply Kd.V_drew)); exact HO_102003.out) (Kd.R_base ho0) hb)
          have n2_ := Aside0.mk (Kd.R_lower (Kd.R_newM (M := fun k_ => (w.heap.size ≤ k_)) ho0 (below_size bel) (fun k_ h_ => h_)) (below_size bel))
          have n3_ := Aside0.mk (blk_below (g := gb101) (o := .cells #[.int .i64 x102000_1, .int .i64 x102001_1, .int .i64 x102002_1, .slice Ao12 x102003_1.length co12] 25 (0, 0)) blkx hb)
          have n4_ := Aside0.mk (blk_below (g := gb102) (o := .cells #[.int .i64 0, .int .i64 0, .int .i64 0, .slice none 0 0] 25 (0, 0)) blkx hb)
          have n5_ := Aside0.mk (blk_below (g := gb103) (o := .cells #[.int .i64 0, .int .i64 0, .int .i64 0, .slice none 0 0] 25 (0, 0)) blkx hb)
          have n6_ := Aside0.mk (below_step bel hb)
          clear HO_6
          clear HO_102003
          clear BK101
          clear BK102
          clear BK103
          clear HB
          have HO_6 := n0_
          have HO_102003 := n1_
          have HO129 := n2_
          have BK101 := n3_
          have BK102 := n4_
          have BK103 := n5_
          have HB := n6_
          clear n0_ n1_ n2_ n3_ n4_ n5_ n6_
          (try clear hb)
          (try clear hb2)
          (try clear hk)
          (try clear hi)
          (try clear ho0)
          obtain ⟨Ao41, co41, eo41⟩ := Kd.R_slice HO129.out
          (first | subst eo41 | (injection eo41 with f1_ f2_ f3_; have f4_ := f1_.symm; have f5_ := f3_.symm; clear f1_ f2_ f3_; subst f4_; subst f5_))
          refine hK.out _ _ ⟨(blk_cell BK101.out 0).trans rfl, (blk_cell BK101.out 1).trans rfl, (blk_cell BK101.out 2).trans rfl, (blk_cell BK101.out 3).trans rfl, ((HB.out.cell (World.block_lt_of_cell? w _ hw123_0)).trans hw123_0), ((HB.out.cell (World.block_lt_of_cell? w _ hw123_1)).trans hw123_1), ((HB.out.cell (World.block_lt_of_cell? w _ hw123_2)).trans hw123_2)⟩ (fun hHeld => ?_)
          clear hK K
          refine norm_ (a' := ?_) ?_ ?_
          rotate_left
          ·show Act.put _ (some 63) _ = _
           simp only [Act.put, List.setIfInBounds_toArray, List.set_cons_zero, List.set_cons_succ, i64_w, i32_w]
           rfl
          refine pure_ (i := 7) (N := some 56) (v := ?_) (a' := ?_) #[true, true, true, true, true, true, true, true, false, false, false, false] rfl rfl (any_of HT_.out (by kernel_rfl)) (fun _ _ _ h => h) (Or.inl ⟨by rfl, ?_⟩) ?_ ?_
          rotate_left
          ·intro w'
           go_simp
           with_reducible rfl
          rotate_left
          ·simp only [Act.put, List.setIfInBounds_toArray, List.set_cons_zero, List.set_cons_succ, i64_w, i32_w]
           rfl
          refine pure_ (i := 8) (N := some 64) (v := ?_) (a' := ?_) #[true, true, true, true, true, true, true, true, true, false, false, false] rfl rfl (any_of HT_.out (by kernel_rfl)) (fun _ _ _ h => h) (Or.inl ⟨by rfl, ?_⟩) ?_ ?_
          rotate_left
          ·intro w'
           go_simp
           with_reducible rfl
          rotate_left
          ·simp only [Act.put, List.setIfInBounds_toArray, List.set_cons_zero, List.set_cons_succ, i64_w, i32_w]
           rfl
          refine pure_ (i := 9) (N := some 65) (v := ?_) (a' := ?_) #[true, true, true, true, true, true, true, true, true, true, false, false] rfl rfl (any_of HT_.out (by kernel_rfl)) (fun _ _ _ h => h) (Or.inl ⟨by rfl, ?_⟩) ?_ ?_
          rotate_left
          ·intro w'
           go_simp
           with_reducible rfl
          rotate_left
          ·simp only [Act.put, List.setIfInBounds_toArray, List.set_cons_zero, List.set_cons_succ, i64_w, i32_w]
           rfl
          refine one_ (i := 10) (N := none) #[true, true, true, true, true, true, true, true, true, true, true, false] rfl rfl (one_of HT_.out (by kernel_rfl)) (by decide) (fun K hK => ?_)
          have hs38 : w37.cell? ⟨gb103, 0, none⟩ = some (.int .i64 0) := (blk_cell BK103.out 0).trans rfl
          have hfs38 := blk_frozen BK103.out 0
          have hns38_0 := NB101_103.out
          have hns38_1 := NB102_103.out
          have hms38_0 := NB103_101.out
          have hms38_1 := NB103_102.out
          have hs39 : w37.cell? ⟨gb103, 1, none⟩ = some (.int .i64 0) := (blk_cell BK103.out 1).trans rfl
          have hfs39 := blk_frozen BK103.out 1
          have hns39_0 := NB101_103.out
          have hns39_1 := NB102_103.out
          have hms39_0 := NB103_101.out
          have hms39_1 := NB103_102.out
          have hs40 : w37.cell? ⟨gb103, 2, none⟩ = some (.int .i64 0) := (blk_cell BK103.out 2).trans rfl
          have hfs40 := blk_frozen BK103.out 2
          have hns40_0 := NB101_103.out
          have hns40_1 := NB102_103.out
          have hms40_0 := NB103_101.out
          have hms40_1 := NB103_102.out
          have hs42 : w37.cell? ⟨gb103, 3, none⟩ = some (.slice none 0 0) := (blk_cell BK103.out 3).trans rfl
          have hfs42 := blk_frozen BK103.out 3
          have hns42_0 := NB101_103.out
          have hns42_1 := NB102_103.out
          have hms42_0 := NB103_101.out
          have hms42_1 := NB103_102.out
          refine skip_ (w1 := ?_) (by rfl) rfl ?_ ?_
          rotate_left
          ·go_simp
           rfl
          refine hK.out _ _ ⟨((cell_far (p := ⟨gb103, _, none⟩) NB101_103.out _).trans (((cell_far (p := ⟨gb103, _, none⟩) NB101_103.out _).trans (((cell_far (p := ⟨gb103, _, none⟩) NB101_103.out _).trans (((cell_far (p := ⟨gb103, _, none⟩) NB101_103.out _).trans (hHeld.1)))))))), ((cell_far (p := ⟨gb103, _, none⟩) NB101_103.out _).trans (((cell_far (p := ⟨gb103, _, none⟩) NB101_103.out _).trans (((cell_far (p := ⟨gb103, _, none⟩) NB101_103.out _).trans (((cell_far (p := ⟨gb103, _, none⟩) NB101_103.out _).trans (hHeld.2.1)))))))), ((cell_far (p := ⟨gb103, _, none⟩) NB101_103.out _).trans (((cell_far (p := ⟨gb103, _, none⟩) NB101_103.out _).trans (((cell_far (p := ⟨gb103, _, none⟩) NB101_103.out _).trans (((cell_far (p := ⟨gb103, _, none⟩) NB101_103.out _).trans (hHeld.2.2.1)))))))), ((cell_far (p := ⟨gb103, _, none⟩) NB101_103.out _).trans (((cell_far (p := ⟨gb103, _, none⟩) NB101_103.out _).trans (((cell_far (p := ⟨gb103, _, none⟩) NB101_103.out _).trans (((cell_far (p := ⟨gb103, _, none⟩) NB101_103.out _).trans (hHeld.2.2.2.1)))))))), ((cell_far (p := ⟨gb103, _, none⟩) (by first | exact Nat.ne_of_lt (Nat.lt_of_lt_of_le (by have := World.block_lt_of_cell? _ _ hw123_0; first | rwa [add_block] at this | exact this) GW103.out) | (rw [add_block]; exact Nat.ne_of_lt (Nat.lt_of_lt_of_le (by have := World.block_lt_of_cell? _ _ hw123_0; first | rwa [add_block] at this | exact this) GW103.out)) | (show (Addr.add _ _).block ≠ _; rw [add_block]; exact Nat.ne_of_lt (Nat.lt_of_lt_of_le (by have := World.block_lt_of_cell? _ _ hw123_0; first | rwa [add_block] at this | exact this) GW103.out)) | (dsimp only; exact Nat.ne_of_lt (Nat.lt_of_lt_of_le (by have := World.block_lt_of_cell? _ _ hw123_0; first | rwa [add_block] at this | exact this) GW103.out))) _).trans (((cell_far (p := ⟨gb103, _, none⟩) (by first | exact Nat.ne_of_lt (Nat.lt_of_lt_of_le (by have := World.block_lt_of_cell? _ _ hw123_0; first | rwa [add_block] at this | exact this) GW103.out) | (rw [add_block]; exact Nat.ne_of_lt (Nat.lt_of_lt_of_le (by have := World.block_lt_of_cell? _ _ hw123_0; first | rwa [add_block] at this | exact this) GW103.out)) | (show (Addr.add _ _).block ≠ _; rw [add_block]; exact Nat.ne_of_lt (Nat.lt_of_lt_of_le (by have := World.block_lt_of_cell? _ _ hw123_0; first | rwa [add_block] at this | exact this) GW103.out)) | (dsimp only; exact Nat.ne_of_lt (Nat.lt_of_lt_of_le (by have := World.block_lt_of_cell? _ _ hw123_0; first | rwa [add_block] at this | exact this) GW103.out))) _).trans (((cell_far (p := ⟨gb103, _, none⟩) (by first | exact Nat.ne_of_lt (Nat.lt_of_lt_of_le (by have := World.block_lt_of_cell? _ _ hw123_0; first | rwa [add_block] at this | exact this) GW103.out) | (rw [add_block]; exact Nat.ne_of_lt (Nat.lt_of_lt_of_le (by have := World.block_lt_of_cell? _ _ hw123_0; first | rwa [add_block] at this | exact this) GW103.out)) | (show (Addr.add _ _).block ≠ _; rw [add_block]; exact Nat.ne_of_lt (Nat.lt_of_lt_of_le (by have := World.block_lt_of_cell? _ _ hw123_0; first | rwa [add_block] at this | exact this) GW103.out)) | (dsimp only; exact Nat.ne_of_lt (Nat.lt_of_lt_of_le (by have := World.block_lt_of_cell? _ _ hw123_0; first | rwa [add_block] at this | exact this) GW103.out))) _).trans (((cell_far (p := ⟨gb103, _, none⟩) (by first | exact Nat.ne_of_lt (Nat.lt_of_lt_of_le (by have := World.block_lt_of_cell? _ _ hw123_0; first | rwa [add_block] at this | exact this) GW103.out) | (rw [add_block]; exact Nat.ne_of_lt (Nat.lt_of_lt_of_le (by have := World.block_lt_of_cell? _ _ hw123_0; first | rwa [add_block] at this | exact this) GW103.out)) | (show (Addr.add _ _).block ≠ _; rw [add_block]; exact Nat.ne_of_lt (Nat.lt_of_lt_of_le (by have := World.block_lt_of_cell? _ _ hw123_0; first | rwa [add_block] at this | exact this) GW103.out)) | (dsimp only; exact Nat.ne_of_lt (Nat.lt_of_lt_of_le (by have := World.block_lt_of_cell? _ _ hw123_0; first | rwa [add_block] at this | exact this) GW103.out))) _).trans (hHeld.2.2.2.2.1)))))))), ((cell_far (p := ⟨gb103, _, none⟩) (by first | exact Nat.ne_of_lt (Nat.lt_of_lt_of_le (by have := World.block_lt_of_cell? _ _ hw123_1; first | rwa [add_block] at this | exact this) GW103.out) | (rw [add_block]; exact Nat.ne_of_lt (Nat.lt_of_lt_of_le (by have := World.block_lt_of_cell? _ _ hw123_1; first | rwa [add_block] at this | exact this) GW103.out)) | (show (Addr.add _ _).block ≠ _; rw [add_block]; exact Nat.ne_of_lt (Nat.lt_of_lt_of_le (by have := World.block_lt_of_cell? _ _ hw123_1; first | rwa [add_block] at this | exact this) GW103.out)) | (dsimp only; exact Nat.ne_of_lt (Nat.lt_of_lt_of_le (by have := World.block_lt_of_cell? _ _ hw123_1; first | rwa [add_block] at this | exact this) GW103.out))) _).trans (((cell_far (p := ⟨gb103, _, none⟩) (by first | exact Nat.ne_of_lt (Nat.lt_of_lt_of_le (by have := World.block_lt_of_cell? _ _ hw123_1; first | rwa [add_block] at this | exact this) GW103.out) | (rw [add_block]; exact Nat.ne_of_lt (Nat.lt_of_lt_of_le (by have := World.block_lt_of_cell? _ _ hw123_1; first | rwa [add_block] at this | exact this) GW103.out)) | (show (Addr.add _ _).block ≠ _; rw [add_block]; exact Nat.ne_of_lt (Nat.lt_of_lt_of_le (by have := World.block_lt_of_cell? _ _ hw123_1; first | rwa [add_block] at this | exact this) GW103.out)) | (dsimp only; exact Nat.ne_of_lt (Nat.lt_of_lt_of_le (by have := World.block_lt_of_cell? _ _ hw123_1; first | rwa [add_block] at this | exact this) GW103.out))) _).trans (((cell_far (p := ⟨gb103, _, none⟩) (by first | exact Nat.ne_of_lt (Nat.lt_of_lt_of_le (by have := World.block_lt_of_cell? _ _ hw123_1; first | rwa [add_block] at this | exact this) GW103.out) | (rw [add_block]; exact Nat.ne_of_lt (Nat.lt_of_lt_of_le (by have := World.block_lt_of_cell? _ _ hw123_1; first | rwa [add_block] at this | exact this) GW103.out)) | (show (Addr.add _ _).block ≠ _; rw [add_block]; exact Nat.ne_of_lt (Nat.lt_of_lt_of_le (by have := World.block_lt_of_cell? _ _ hw123_1; first | rwa [add_block] at this | exact this) GW103.out)) | (dsimp only; exact Nat.ne_of_lt (Nat.lt_of_lt_of_le (by have := World.block_lt_of_cell? _ _ hw123_1; first | rwa [add_block] at this | exact this) GW103.out))) _).trans (((cell_far (p := ⟨gb103, _, none⟩) (by first | exact Nat.ne_of_lt (Nat.lt_of_lt_of_le (by have := World.block_lt_of_cell? _ _ hw123_1; first | rwa [add_block] at this | exact this) GW103.out) | (rw [add_block]; exact Nat.ne_of_lt (Nat.lt_of_lt_of_le (by have := World.block_lt_of_cell? _ _ hw123_1; first | rwa [add_block] at this | exact this) GW103.out)) | (show (Addr.add _ _).block ≠ _; rw [add_block]; exact Nat.ne_of_lt (Nat.lt_of_lt_of_le (by have := World.block_lt_of_cell? _ _ hw123_1; first | rwa [add_block] at this | exact this) GW103.out)) | (dsimp only; exact Nat.ne_of_lt (Nat.lt_of_lt_of_le (by have := World.block_lt_of_cell? _ _ hw123_1; first | rwa [add_block] at this | exact this) GW103.out))) _).trans (hHeld.2.2.2.2.2.1)))))))), ((cell_far (p := ⟨gb103, _, none⟩) (by first | exact Nat.ne_of_lt (Nat.lt_of_lt_of_le (by have := World.block_lt_of_cell? _ _ hw123_2; first | rwa [add_block] at this | exact this) GW103.out) | (rw [add_block]; exact Nat.ne_of_lt (Nat.lt_of_lt_of_le (by have := World.block_lt_of_cell? _ _ hw123_2; first | rwa [add_block] at this | exact this) GW103.out)) | (show (Addr.add _ _).block ≠ _; rw [add_block]; exact Nat.ne_of_lt (Nat.lt_of_lt_of_le (by have := World.block_lt_of_cell? _ _ hw123_2; first | rwa [add_block] at this | exact this) GW103.out)) | (dsimp only; exact Nat.ne_of_lt (Nat.lt_of_lt_of_le (by have := World.block_lt_of_cell? _ _ hw123_2; first | rwa [add_block] at this | exact this) GW103.out))) _).trans (((cell_far (p := ⟨gb103, _, none⟩) (by first | exact Nat.ne_of_lt (Nat.lt_of_lt_of_le (by have := World.block_lt_of_cell? _ _ hw123_2; first | rwa [add_block] at this | exact this) GW103.out) | (rw [add_block]; exact Nat.ne_of_lt (Nat.lt_of_lt_of_le (by have := World.block_lt_of_cell? _ _ hw123_2; first | rwa [add_block] at this | exact this) GW103.out)) | (show (Addr.add _ _).block ≠ _; rw [add_block]; exact Nat.ne_of_lt (Nat.lt_of_lt_of_le (by have := World.block_lt_of_cell? _ _ hw123_2; first | rwa [add_block] at this | exact this) GW103.out)) | (dsimp only; exact Nat.ne_of_lt (Nat.lt_of_lt_of_le (by have := World.block_lt_of_cell? _ _ hw123_2; first | rwa [add_block] at this | exact this) GW103.out))) _).trans (((cell_far (p := ⟨gb103, _, none⟩) (by first | exact Nat.ne_of_lt (Nat.lt_of_lt_of_le (by have := World.block_lt_of_cell? _ _ hw123_2; first | rwa [add_block] at this | exact this) GW103.out) | (rw [add_block]; exact Nat.ne_of_lt (Nat.lt_of_lt_of_le (by have := World.block_lt_of_cell? _ _ hw123_2; first | rwa [add_block] at this | exact this) GW103.out)) | (show (Addr.add _ _).block ≠ _; rw [add_block]; exact Nat.ne_of_lt (Nat.lt_of_lt_of_le (by have := World.block_lt_of_cell? _ _ hw123_2; first | rwa [add_block] at this | exact this) GW103.out)) | (dsimp only; exact Nat.ne_of_lt (Nat.lt_of_lt_of_le (by have := World.block_lt_of_cell? _ _ hw123_2; first | rwa [add_block] at this | exact this) GW103.out))) _).trans (((cell_far (p := ⟨gb103, _, none⟩) (by first | exact Nat.ne_of_lt (Nat.lt_of_lt_of_le (by have := World.block_lt_of_cell? _ _ hw123_2; first | rwa [add_block] at this | exact this) GW103.out) | (rw [add_block]; exact Nat.ne_of_lt (Nat.lt_of_lt_of_le (by have := World.block_lt_of_cell? _ _ hw123_2; first | rwa [add_block] at this | exact this) GW103.out)) | (show (Addr.add _ _).block ≠ _; rw [add_block]; exact Nat.ne_of_lt (Nat.lt_of_lt_of_le (by have := World.block_lt_of_cell? _ _ hw123_2; first | rwa [add_block] at this | exact this) GW103.out)) | (dsimp only; exact Nat.ne_of_lt (Nat.lt_of_lt_of_le (by have := World.block_lt_of_cell? _ _ hw123_2; first | rwa [add_block] at this | exact this) GW103.out))) _).trans (hHeld.2.2.2.2.2.2))))))))⟩ (fun hHeld => ?_)
          clear hK K
          refine pure_ (i := 11) (N := some 9) (v := ?_) (a' := ?_) #[true, true, true, true, true, true, true, true, true, true, true, true] rfl rfl (any_of HT_.out (by kernel_rfl)) (fun _ _ _ h => h) (Or.inl ⟨by rfl, ?_⟩) ?_ ?_
          rotate_left
          ·intro w'
           go_simp
           with_reducible rfl
          rotate_left
          ·simp only [Act.put, List.setIfInBounds_toArray, List.set_cons_zero, List.set_cons_succ, i64_w, i32_w]
           rfl
          refine done_ (done_of HT_.out (by kernel_rfl)) ?_
          try go_wp2
          go_meet
          case rel => exact ⟨_, (t130), (t124), (t125), (t126), (t127), (.slice Ao41 t127.length co41), (by first | rfl | (simp; done) | (simp [*]; done)), H', ⟨by have := HK1.out; first | omega | exact Nat.le_refl _⟩, ⟨by (with_reducible repeat (first | apply Kd.R_alloc | apply Kd.R_drewN | apply Kd.R_drew)); exact Kd.R_mono (Kd.R_far (p := ⟨gb103, 3, none⟩) (Kd.R_far (p := ⟨gb103, 2, none⟩) (Kd.R_far (p := ⟨gb103, 1, none⟩) (Kd.R_far (p := ⟨gb103, 0, none⟩) (Kd.R_types HO_6.out BK103.out (by decide)) (fun _ hk => hk.2) (.int .i64 t124)) (fun _ hk => hk.2) (.int .i64 t125)) (fun _ hk => hk.2) (.int .i64 t126)) (fun _ hk => hk.2) (.slice Ao41 t127.length co41)) (fun _ hk => hk.1)⟩, ⟨by (with_reducible repeat (first | apply Kd.V_alloc | apply Kd.V_drewN | apply Kd.V_drew)); exact Kd.V_mono (Kd.V_far (p := ⟨gb103, 3, none⟩) (Kd.V_far (p := ⟨gb103, 2, none⟩) (Kd.V_far (p := ⟨gb103, 1, none⟩) (Kd.V_far (p := ⟨gb103, 0, none⟩) (Kd.V_mono HO_102003.out (fun k_ hk => (⟨hk, hk.1.2⟩ : _ ∧ k_ ≠ gb103))) (fun _ hk => hk.2) (.int .i64 t124)) (fun _ hk => hk.2) (.int .i64 t125)) (fun _ hk => hk.2) (.int .i64 t126)) (fun _ hk => hk.2) (.slice Ao41 t127.length co41)) (fun _ hk => ⟨hk.1.1.1.1, ⟨hk.1.1.1.2.1, ⟨hk.1.2, ⟨hk.1.1.1.2.2.1, ⟨hk.1.1.1.2.2.2, hk.1.1.2⟩⟩⟩⟩⟩)⟩, ⟨by (with_reducible repeat (first | apply Kd.R_alloc | apply Kd.R_drewN | apply Kd.R_drew)); exact Kd.R_mono (Kd.R_far (p := ⟨gb103, 3, none⟩) (Kd.R_far (p := ⟨gb103, 2, none⟩) (Kd.R_far (p := ⟨gb103, 1, none⟩) (Kd.R_far (p := ⟨gb103, 0, none⟩) (Kd.R_types HO129.out BK103.out (by decide)) (fun _ hk => hk.2) (.int .i64 t124)) (fun _ hk => hk.2) (.int .i64 t125)) (fun _ hk => hk.2) (.int .i64 t126)) (fun _ hk => hk.2) (.slice Ao41 t127.length co41)) (fun _ hk => hk.1.1)⟩, ⟨by (with_reducible repeat (first | refine blk_drewN ?_ _ | refine blk_drew ?_ | refine blk_alloc ?_ _)); refine blk_far ?_ NB101_103.out _; (with_reducible repeat (first | refine blk_drewN ?_ _ | refine blk_drew ?_ | refine blk_alloc ?_ _)); refine blk_far ?_ NB101_103.out _; (with_reducible repeat (first | refine blk_drewN ?_ _ | refine blk_drew ?_ | refine blk_alloc ?_ _)); refine blk_far ?_ NB101_103.out _; (with_reducible repeat (first | refine blk_drewN ?_ _ | refine blk_drew ?_ | refine blk_alloc ?_ _)); refine blk_far ?_ NB101_103.out _; (with_reducible repeat (first | refine blk_drewN ?_ _ | refine blk_drew ?_ | refine blk_alloc ?_ _)); exact BK101.out⟩, ⟨by (with_reducible repeat (first | refine blk_drewN ?_ _ | refine blk_drew ?_ | refine blk_alloc ?_ _)); refine blk_far ?_ NB102_103.out _; (with_reducible repeat (first | refine blk_drewN ?_ _ | refine blk_drew ?_ | refine blk_alloc ?_ _)); refine blk_far ?_ NB102_103.out _; (with_reducible repeat (first | refine blk_drewN ?_ _ | refine blk_drew ?_ | refine blk_alloc ?_ _)); refine blk_far ?_ NB102_103.out _; (with_reducible repeat (first | refine blk_drewN ?_ _ | refine blk_drew ?_ | refine blk_alloc ?_ _)); refine blk_far ?_ NB102_103.out _; (with_reducible repeat (first | refine blk_drewN ?_ _ | refine blk_drew ?_ | refine blk_alloc ?_ _)); exact BK102.out⟩, ⟨by (with_reducible repeat (first | refine blk_drewN ?_ _ | refine blk_drew ?_ | refine blk_alloc ?_ _)); refine blk_put (cs := #[.int .i64 t124, .int .i64 t125, .int .i64 t126, .slice none 0 0]) ?_ 3 _ rfl; (with_reducible repeat (first | refine blk_drewN ?_ _ | refine blk_drew ?_ | refine blk_alloc ?_ _)); refine blk_put (cs := #[.int .i64 t124, .int .i64 t125, .int .i64 0, .slice none 0 0]) ?_ 2 _ rfl; (with_reducible repeat (first | refine blk_drewN ?_ _ | refine blk_drew ?_ | refine blk_alloc ?_ _)); refine blk_put (cs := #[.int .i64 t124, .int .i64 0, .int .i64 0, .slice none 0 0]) ?_ 1 _ rfl; (with_reducible repeat (first | refine blk_drewN ?_ _ | refine blk_drew ?_ | refine blk_alloc ?_ _)); refine blk_put (cs := #[.int .i64 0, .int .i64 0, .int .i64 0, .slice none 0 0]) ?_ 0 _ rfl; (with_reducible repeat (first | refine blk_drewN ?_ _ | refine blk_drew ?_ | refine blk_alloc ?_ _)); exact BK103.out⟩, ⟨bel⟩⟩
         ·rw [if_neg c34] at H
          have c34b0 : (((rd_T74 l1 x7_1).f0) == 3) = false := beq_eq_false_iff_ne.mpr c34
          have c34b1 : (((rd_T74 l1 x7_1).f0) != 3) = true := bne_iff_ne.mpr c34
          have H' := Aside0.mk H
          clear H
          have p105 : 0 ≤ (x7_1 : Int) := of_decide_eq_true (by first | (with_reducible assumption) | assumption)
          have q105 : x7_1 < (l1.length : Int) := of_decide_eq_true (by first | (with_reducible assumption) | assumption)
          obtain ⟨ad105, e105, hx105_0, hx105_1, hx105_2⟩ := at_T74 HR1.out x7_1 p105 q105
          cases e105
          replace hx105_0 := (HB.out.cell (World.block_lt_of_cell? w _ hx105_0)).trans hx105_0
          replace hx105_1 := (HB.out.cell (World.block_lt_of_cell? w _ hx105_1)).trans hx105_1
          replace hx105_2 := (HB.out.cell (World.block_lt_of_cell? w _ hx105_2)).trans hx105_2
          replace p105 := eq_true p105
          replace q105 := eq_true q105
          go_wp2
          go_meet
          case rel => exact ⟨_, (2), (0), (0), (0), (([] : List (S39))), (.slice none 0 0), (by first | rfl | (simp; done) | (simp [*]; done)), H', ⟨by have := HK1.out; first | omega | exact Nat.le_refl _⟩, ⟨by (with_reducible repeat (first | apply Kd.R_alloc | apply Kd.R_drewN | apply Kd.R_drew)); exact HO_6.out⟩, ⟨by (with_reducible repeat (first | apply Kd.V_alloc | apply Kd.V_drewN | apply Kd.V_drew)); exact Kd.V_mono HO_102003.out (fun _ hk => ⟨hk.1.1, ⟨hk.1.2.1, ⟨(by simp [Value.ownBlock]), ⟨hk.1.2.2.1, ⟨hk.1.2.2.2, hk.2⟩⟩⟩⟩⟩)⟩, ⟨by first | exact Kd.R_nil _ _ _ _ _ | exact Kd.N_nil _ _ _ _ _ | exact Kd.V_nil _ _ _ _ _ | exact Kd.Q_nil _ _ _ _ _ | exact Kd.S_nil _ _ _ _ _⟩, ⟨by (with_reducible repeat (first | refine blk_drewN ?_ _ | refine blk_drew ?_ | refine blk_alloc ?_ _)); exact BK101.out⟩, ⟨by (with_reducible repeat (first | refine blk_drewN ?_ _ | refine blk_drew ?_ | refine blk_alloc ?_ _)); exact BK102.out⟩, ⟨by (with_reducible repeat (first | refine blk_drewN ?_ _ | refine blk_drew ?_ | refine blk_alloc ?_ _)); exact BK103.out⟩, ⟨bel⟩⟩
      ·rw [if_neg c15] at H
       exact absurd H (by simp)
     ·rw [if_neg c14] at H
      have c14b0 : (t104 == 0) = false := beq_eq_false_iff_ne.mpr c14
      have c14b1 : (t104 != 0) = true := bne_iff_ne.mpr c14
      (first | rw [c14b0] | (simp only [i64_w, i32_w]; rw [c14b0]) | skip)
      have H' := Aside0.mk H
      clear H
      go_wp2
      go_meet
      case rel => exact ⟨_, (t104), (0), (0), (0), (([] : List (S39))), (.slice none 0 0), (by first | rfl | (simp; done) | (simp [*]; done)), H', ⟨by have := HK1.out; first | omega | exact Nat.le_refl _⟩, ⟨by (with_reducible repeat (first | apply Kd.R_alloc | apply Kd.R_drewN | apply Kd.R_drew)); exact HO_6.out⟩, ⟨by (with_reducible repeat (first | apply Kd.V_alloc | apply Kd.V_drewN | apply Kd.V_drew)); exact Kd.V_mono HO_102003.out (fun _ hk => ⟨hk.1.1, ⟨hk.1.2.1, ⟨(by simp [Value.ownBlock]), ⟨hk.1.2.2.1, ⟨hk.1.2.2.2, hk.2⟩⟩⟩⟩⟩)⟩, ⟨by first | exact Kd.R_nil _ _ _ _ _ | exact Kd.N_nil _ _ _ _ _ | exact Kd.V_nil _ _ _ _ _ | exact Kd.Q_nil _ _ _ _ _ | exact Kd.S_nil _ _ _ _ _⟩, ⟨by (with_reducible repeat (first | refine blk_drewN ?_ _ | refine blk_drew ?_ | refine blk_alloc ?_ _)); exact BK101.out⟩, ⟨by (with_reducible repeat (first | refine blk_drewN ?_ _ | refine blk_drew ?_ | refine blk_alloc ?_ _)); exact BK102.out⟩, ⟨by (with_reducible repeat (first | refine blk_drewN ?_ _ | refine blk_drew ?_ | refine blk_alloc ?_ _)); exact BK103.out⟩, ⟨bel⟩⟩
    case rest =>
     clear HC7
     try clear c1
     try clear p1
     try clear q1
     try clear hx1
     try clear c2
     try clear p2
     try clear c3
     try clear p10
     try clear q10
     try clear hx10
     try clear p11
     try clear q11
     try clear hx11
     try clear p12
     try clear q12
     try clear hx12
     try clear c14
     try clear c14b0
     try clear c14b1
     try clear c15
     try clear c16
     try clear c16b0
     try clear c16b1
     try clear c22
     try clear c23
     try clear c25
     try clear c25b0
     try clear c25b1
     try clear c34
     try clear c34b0
     try clear c34b1
     try clear hx105_0
     try clear hx105_1
     try clear hx105_2
     try clear hx115_0
     try clear hx115_1
     try clear hx115_2
     try clear hx123_0
     try clear hx123_1
     try clear hx123_2
     try clear p105
     try clear p115
     try clear p123
     try clear q105
     try clear q115
     try clear q123
     obtain ⟨kq, x9_6, x104000_6, x104001_6, x104002_6, x104003_6, u104003, rfl, HA, HJ6, HO_6, HO_102003, HO_104003, BK101, BK102, BK103, HB⟩ := hcut
     cases kq with
     | zero => exact absurd HA.out (by simp [customsref21_Run.j1])
     | succ kj6 =>
      have H := HA.out
      clear HA
      simp only [customsref21_Run.j1] at H
      by_cases c43 : x9_6 = 0
      ·rw [if_pos c43] at H
       have c43b0 : (x9_6 == 0) = true := beq_iff_eq.mpr c43
       have c43b1 : (x9_6 != 0) = false := bne_eq_false_iff_eq.mpr c43
       clear c43
       by_cases c44 : x6_1.length < 17592186044416
       ·rw [if_pos c44] at H
        have LMc44 := Aside0.mk c44
        clear c44
        obtain ⟨y131, hy131⟩ : ∃ y_ : List Int, y_ = (x6_1 ++ [x9_6]) := ⟨_, rfl⟩
        replace H : (customsref21_Run.l0 kj6 l1 y131 (wrap64 (x7_1 + 1)) x104000_6 x104001_6 x104002_6 x104003_6) = some (r1, r2, r3, r4, r5) := by first | (rw [hy131]; with_reducible exact H) | (have H2_ := (Option.bind_some _ _).symm.trans H; rw [hy131]; with_reducible exact H2_) | (have H2_ := (Option.bind_some _ _).symm.trans H; with_reducible exact H2_) | with_reducible exact H | (rw [hy131]; exact H) | exact H
        have Ny131 := Aside0.mk hy131
        clear hy131
        have H' := Aside0.mk H
        clear H
        have hnb45 := NB103_101.out
        have hnc45 := NB101_103.out
        have hnb46 := NB103_102.out
        have hnc46 := NB102_103.out
        obtain ⟨hcz47_0, hcz47_1, hcz47_2, hcz47_3, hfz47_0, hfz47_1, hfz47_2, hfz47_3⟩ := cells4 BK103.out
        have hnb48 := NB101_102.out
        have hnc48 := NB102_101.out
        obtain ⟨hcz49_0, hcz49_1, hcz49_2, hcz49_3, hfz49_0, hfz49_1, hfz49_2, hfz49_3⟩ := cells4 BK101.out
        obtain ⟨Ao50, co50, eo50⟩ := Kd.R_slice HO_104003.out
        subst eo50
        go_wp2_with (first | ((with_reducible refine gate_builtin (b := .append) (xs := #[.tmp 69, .tmp 71]) rfl ?_); at_builtin; refine Kd.R_append (Kd.int .i64) (w0 := w) w.heap.size rfl (.tmp 69) (.tmp 71) 47 27 (.int .i64 0) 8 rfl Try.underlying47 info27 rfl (by decide) (by omega) u6 x6_1 x9_6 [.int .i64 x9_6] (fun k_ => (w.heap.size ≤ k_)) (fun _ => False) rfl (by first | (go_simp; done) | (go_simp; rfl)) ?aP (fun _ hk => hk.elim) ?aF ?aO ?aB ?aS ?aL ?_; (case aP => exact rfl); (case aB => exact bel); (case aF => exact (fun k_ hk => (Nat.le_trans (below_size bel) hk))); (case aO => exact (by (with_reducible repeat (first | apply Kd.R_alloc | apply Kd.R_drewN | apply Kd.R_drew)); exact Kd.R_mono (Kd.R_far (p := ⟨gb101, 3, none⟩) (Kd.R_far (p := ⟨gb101, 2, none⟩) (Kd.R_far (p := ⟨gb101, 1, none⟩) (Kd.R_far (p := ⟨gb101, 0, none⟩) (Kd.R_types HO_6.out BK101.out (by decide)) (fun _ hk => hk.2) (.int .i64 x104000_6)) (fun _ hk => hk.2) (.int .i64 x104001_6)) (fun _ hk => hk.2) (.int .i64 x104002_6)) (fun _ hk => hk.2) (.slice Ao50 x104003_6.length co50)) (fun _ hk => hk.1))); (case aS => exact (below_size bel)); (case aL => have := LMc44.out; omega); intro v132 w51 ho hb hg hat; rw [← Ny131.out] at ho; have n1_ := Aside0.mk (Kd.R_over' (by (with_reducible repeat (first | apply Kd.R_alloc | apply Kd.R_drewN | apply Kd.R_drew)); exact (Kd.R_mono (Kd.R_far (p := ⟨gb101, 3, none⟩) (Kd.R_far (p := ⟨gb101, 2, none⟩) (Kd.R_far (p := ⟨gb101, 1, none⟩) (Kd.R_far (p := ⟨gb101, 0, none⟩) (Kd.R_types HO_104003.out BK101.out (by decide)) (fun _ hk => hk.2) (.int .i64 x104000_6)) (fun _ hk => hk.2) (.int .i64 x104001_6)) (fun _ hk => hk.2) (.int .i64 x104002_6)) (fun _ hk => hk.2) (.slice Ao50 x104003_6.length co50)) (fun _ h_ => h_.1))) (Kd.R_typed (by (with_reducible repeat (first | apply Kd.R_alloc | apply Kd.R_drewN | apply Kd.R_drew)); exact (Kd.R_mono (Kd.R_far (p := ⟨gb101, 3, none⟩) (Kd.R_far (p := ⟨gb101, 2, none⟩) (Kd.R_far (p := ⟨gb101, 1, none⟩) (Kd.R_far (p := ⟨gb101, 0, none⟩) (Kd.R_types HO_6.out BK101.out (by decide)) (fun _ hk => hk.2) (.int .i64 x104000_6)) (fun _ hk => hk.2) (.int .i64 x104001_6)) (fun _ hk => hk.2) (.int .i64 x104002_6)) (fun _ hk => hk.2) (.slice Ao50 x104003_6.length co50)) (fun _ h_ => h_.1)))) (by decide) hg); have n2_ := Aside0.mk (blk_grown (g := gb101) (o := .cells #[.int .i64 x104000_6, .int .i64 x104001_6, .int .i64 x104002_6, .slice Ao50 x104003_6.length co50] 25 (0, 0)) (by (with_reducible repeat (first | refine blk_drewN ?_ _ | refine blk_drew ?_ | refine blk_alloc ?_ _)); refine blk_put (cs := #[.int .i64 x104000_6, .int .i64 x104001_6, .int .i64 x104002_6, .slice Ao12 x102003_1.length co12]) ?_ 3 _ rfl; refine blk_put (cs := #[.int .i64 x104000_6, .int .i64 x104001_6, .int .i64 x102002_1, .slice Ao12 x102003_1.length co12]) ?_ 2 _ rfl; refine blk_put (cs := #[.int .i64 x104000_6, .int .i64 x102001_1, .int .i64 x102002_1, .slice Ao12 x102003_1.length co12]) ?_ 1 _ rfl; refine blk_put (cs := #[.int .i64 x102000_1, .int .i64 x102001_1, .int .i64 x102002_1, .slice Ao12 x102003_1.length co12]) ?_ 0 _ rfl; (with_reducible repeat (first | refine blk_drewN ?_ _ | refine blk_drew ?_ | refine blk_alloc ?_ _)); exact BK101.out) hg (Kd.R_ne HO_6.out BK101.out (by decide))); have n3_ := Aside0.mk (blk_grown (g := gb102) (o := .cells #[.int .i64 0, .int .i64 0, .int .i64 0, .slice none 0 0] 25 (0, 0)) blkx hg (Kd.R_ne HO_6.out BK102.out (by decide))); have n5_ := Aside0.mk (hb); have n6_ := Aside0.mk (ho); (try clear HO_102003); clear HO_104003; clear BK101; clear BK102; (try clear BK103); clear HB; clear HO_6; have HO_104003 := n1_; have BK101 := n2_; have BK102 := n3_; have HB := n5_; have HO133 := n6_; clear n1_ n2_ n3_ n5_ n6_; clear ho hb hg hat))
        go_roundg kj6
        case measure => have := HK1.out; have := HJ6.out; omega
        case rel => exact ⟨(y131), (wrap64 (x7_1 + 1)), (x104000_6), (x104001_6), (x104002_6), (x104003_6), (.slice Ao50 x104003_6.length co50), (by first | rfl | (simp; done) | (simp [*]; done)), H', ⟨by have := HK1.out; have := HJ6.out; omega⟩, ⟨by (with_reducible repeat (first | apply Kd.R_alloc | apply Kd.R_drewN | apply Kd.R_drew)); exact HO133.out⟩, ⟨Kd.V_mono (Kd.R_V (Kd.R_types (Kd.R_types (Kd.R_apart' HO_104003.out (Kd.R_typed HO133.out) (by decide)) BK101.out (by decide)) BK102.out (by decide))) (fun k_ hk => ⟨.inr hk.1.1.1, hk.1.1.2, hk.1.2, hk.2⟩)⟩, ⟨by (with_reducible repeat (first | refine blk_drewN ?_ _ | refine blk_drew ?_ | refine blk_alloc ?_ _)); exact BK101.out⟩, ⟨by (with_reducible repeat (first | refine blk_drewN ?_ _ | refine blk_drew ?_ | refine blk_alloc ?_ _)); exact BK102.out⟩, ⟨bel⟩⟩
       ·rw [if_neg c44] at H
        exact absurd H (by simp)
      ·rw [if_neg c43] at H
       have c43b0 : (x9_6 == 0) = false := beq_eq_false_iff_ne.mpr c43
       have c43b1 : (x9_6 != 0) = true := bne_iff_ne.mpr c43
       by_cases c52 : x6_1.length < 17592186044416
       ·rw [if_pos c52] at H
        have LMc52 := Aside0.mk c52
        clear c52
        obtain ⟨y134, hy134⟩ : ∃ y_ : List Int, y_ = (x6_1 ++ [x9_6]) := ⟨_, rfl⟩
        replace H : (customsref21_Run.l0 kj6 l1 y134 (wrap64 (x7_1 + 1)) x102000_1 x102001_1 x102002_1 x102003_1) = some (r1, r2, r3, r4, r5) := by first | (rw [hy134]; with_reducible exact H) | (have H2_ := (Option.bind_some _ _).symm.trans H; rw [hy134]; with_reducible exact H2_) | (have H2_ := (Option.bind_some _ _).symm.trans H; with_reducible exact H2_) | with_reducible exact H | (rw [hy134]; exact H) | exact H
        have Ny134 := Aside0.mk hy134
        clear hy134
        have H' := Aside0.mk H
        clear H
        go_wp2_with (first | ((with_reducible refine gate_builtin (b := .append) (xs := #[.tmp 69, .tmp 71]) rfl ?_); at_builtin; refine Kd.R_append (Kd.int .i64) (w0 := w) w.heap.size rfl (.tmp 69) (.tmp 71) 47 27 (.int .i64 0) 8 rfl Try.underlying47 info27 rfl (by decide) (by omega) u6 x6_1 x9_6 [.int .i64 x9_6] (fun k_ => (w.heap.size ≤ k_)) (fun _ => False) rfl rfl ?aP (fun _ hk => hk.elim) ?aF ?aO ?aB ?aS ?aL ?_; (case aP => exact rfl); (case aB => exact bel); (case aF => exact (fun k_ hk => (Nat.le_trans (below_size bel) hk))); (case aO => exact (rowx HO_6.out)); (case aS => exact (below_size bel)); (case aL => have := LMc52.out; omega); intro v135 w53 ho hb hg hat; rw [← Ny134.out] at ho; have n0_ := Aside0.mk (Kd.V_afterv (ok := (fun k_ => (P0_3_ k_ ∨ w.heap.size ≤ k_) ∧ some k_ ≠ (u104003 : Value).ownBlock ∧ k_ ≠ gb101 ∧ k_ ≠ gb102 ∧ k_ ≠ gb103)) (by (with_reducible repeat (first | apply Kd.V_alloc | apply Kd.V_drewN | apply Kd.V_drew)); exact Kd.V_mono HO_102003.out (fun _ hk => ⟨⟨hk.1, ⟨hk.2.2.1, ⟨hk.2.2.2.1, ⟨hk.2.2.2.2.1, hk.2.2.2.2.2⟩⟩⟩⟩, hk.2.1⟩)) hg hat); have n2_ := Aside0.mk (blk_grown (g := gb101) (o := .cells #[.int .i64 x102000_1, .int .i64 x102001_1, .int .i64 x102002_1, .slice Ao12 x102003_1.length co12] 25 (0, 0)) blkx hg (Kd.R_ne HO_6.out BK101.out (by decide))); have n3_ := Aside0.mk (blk_grown (g := gb102) (o := .cells #[.int .i64 0, .int .i64 0, .int .i64 0, .slice none 0 0] 25 (0, 0)) blkx hg (Kd.R_ne HO_6.out BK102.out (by decide))); have n5_ := Aside0.mk (hb); have n6_ := Aside0.mk (ho); clear HO_102003; (try clear HO_104003); clear BK101; clear BK102; (try clear BK103); clear HB; clear HO_6; have HO_102003 := n0_; have BK101 := n2_; have BK102 := n3_; have HB := n5_; have HO136 := n6_; clear n0_ n2_ n3_ n5_ n6_; clear ho hb hg hat))
        go_roundg kj6
        case measure => have := HK1.out; have := HJ6.out; omega
        case rel => exact ⟨(y134), (wrap64 (x7_1 + 1)), (x102000_1), (x102001_1), (x102002_1), (x102003_1), (.slice Ao12 x102003_1.length co12), (by first | rfl | (simp; done) | (simp [*]; done)), H', ⟨by have := HK1.out; have := HJ6.out; omega⟩, ⟨by (with_reducible repeat (first | apply Kd.R_alloc | apply Kd.R_drewN | apply Kd.R_drew)); exact HO136.out⟩, ⟨by (with_reducible repeat (first | apply Kd.V_alloc | apply Kd.V_drewN | apply Kd.V_drew)); exact Kd.V_mono HO_102003.out (fun _ hk => ⟨hk.1.1, ⟨hk.2, ⟨hk.1.2.2.1, hk.1.2.2.2.1⟩⟩⟩)⟩, ⟨by (with_reducible repeat (first | refine blk_drewN ?_ _ | refine blk_drew ?_ | refine blk_alloc ?_ _)); exact BK101.out⟩, ⟨by (with_reducible repeat (first | refine blk_drewN ?_ _ | refine blk_drew ?_ | refine blk_alloc ?_ _)); exact BK102.out⟩, ⟨bel⟩⟩
       ·rw [if_neg c52] at H
        exact absurd H (by simp)
   ·rw [if_neg c5] at H
    have c5b0 : decide (x7_1 < (l1.length : Int)) = false := decide_eq_false c5
    clear c5
    simp only [Option.some.injEq, Prod.mk.injEq] at H
    obtain ⟨rfl, rfl, rfl, rfl, rfl⟩ := H
    have hnb54 := NB101_102.out
    have hnc54 := NB102_101.out
    obtain ⟨hcz55_0, hcz55_1, hcz55_2, hcz55_3, hfz55_0, hfz55_1, hfz55_2, hfz55_3⟩ := cells4 BK101.out
    obtain ⟨hcz56_0, hcz56_1, hcz56_2, hcz56_3, hfz56_0, hfz56_1, hfz56_2, hfz56_3⟩ := cells4 BK102.out
    obtain ⟨Ao57, co57, eo57⟩ := Kd.V_slice HO_102003.out
    subst eo57
    go_wp2
    refine bodyPost_ret (results_ct rfl _ _ gb102 25 #[.int .i64 x102000_1, .int .i64 x102001_1, .int .i64 x102002_1, .slice Ao57 x102003_1.length co57] (0, 0) _ rfl (by (with_reducible repeat (first | refine blk_drewN ?_ _ | refine blk_drew ?_ | refine blk_alloc ?_ _)); refine blk_put (cs := #[.int .i64 x102000_1, .int .i64 x102001_1, .int .i64 x102002_1, .slice none 0 0]) ?_ 3 _ rfl; refine blk_put (cs := #[.int .i64 x102000_1, .int .i64 x102001_1, .int .i64 0, .slice none 0 0]) ?_ 2 _ rfl; refine blk_put (cs := #[.int .i64 x102000_1, .int .i64 0, .int .i64 0, .slice none 0 0]) ?_ 1 _ rfl; refine blk_put (cs := #[.int .i64 0, .int .i64 0, .int .i64 0, .slice none 0 0]) ?_ 0 _ rfl; (with_reducible repeat (first | refine blk_drewN ?_ _ | refine blk_drew ?_ | refine blk_alloc ?_ _)); exact BK102.out) Try.underlying25 rfl (by kernel_rfl)) rfl ?_
    exact ⟨_, _, by first | rfl | (simp [errW_none, errW_some] <;> rfl) | (simp [*, errW_none, errW_some] <;> rfl), by (with_reducible repeat (first | apply Kd.V_alloc | apply Kd.V_drewN | apply Kd.V_drew)); exact Kd.V_mono (Kd.V_far (p := ⟨gb102, 3, none⟩) (Kd.V_far (p := ⟨gb102, 2, none⟩) (Kd.V_far (p := ⟨gb102, 1, none⟩) (Kd.V_far (p := ⟨gb102, 0, none⟩) (Kd.V_mono HO_102003.out (fun k_ hk => (⟨hk, hk.2.2.2⟩ : _ ∧ k_ ≠ gb102))) (fun _ hk => hk.2) (.int .i64 x102000_1)) (fun _ hk => hk.2) (.int .i64 x102001_1)) (fun _ hk => hk.2) (.int .i64 x102002_1)) (fun _ hk => hk.2) (.slice Ao57 x102003_1.length co57)) (fun _ hk => ⟨hk.1.1, hk.1.2.1⟩), by (with_reducible repeat (first | apply Kd.R_alloc | apply Kd.R_drewN | apply Kd.R_drew)); exact Kd.R_mono (Kd.R_far (p := ⟨gb102, 3, none⟩) (Kd.R_far (p := ⟨gb102, 2, none⟩) (Kd.R_far (p := ⟨gb102, 1, none⟩) (Kd.R_far (p := ⟨gb102, 0, none⟩) (Kd.R_types HO_6.out BK102.out (by decide)) (fun _ hk => hk.2) (.int .i64 x102000_1)) (fun _ hk => hk.2) (.int .i64 x102001_1)) (fun _ hk => hk.2) (.int .i64 x102002_1)) (fun _ hk => hk.2) (.slice Ao57 x102003_1.length co57)) (fun _ hk => hk.1), bel⟩
end Go.Proofs.Ytakhjhiofmgpnaa.PD
-- Written by a program of this claim (wip/tools: mkprint.py, pr.sh) out of the translation: plain functions and their contracts. Lean checks every line.
namespace Go.Proofs.Ytakhjhiofmgpnaa.PD
open Go.RowKit Go.Proofs.YtakhjhiofmgpnaaW.PrintWords Go.Proofs.YtakhjhiofmgpnaaW.PrintLast Go.Proofs.YtakhjhiofmgpnaaW.PrintMore Go.Proofs.Ytakhjhiofmgpnaa.G Go.Proofs.Ytakhjhiofmgpnaa.PA Go.Proofs.Ytakhjhiofmgpnaa.PB Go.Proofs.Ytakhjhiofmgpnaa.PE
attribute [local go_sem] max2_int min2_int max_two min_two max_three min_three max_four min_four   -- for this text's walks alone
set_option linter.unusedVariables false
set_option linter.unusedSimpArgs false
def customslaw23_GuaranteeRun.f (k : Nat) (l0 : List Int) (l1 : List Int) (l2 : List (S74)) (a3 : Bool) : Option (Bool) := (customsmade_Guarantee.f k l0).bind fun bt137 => (if a3 = true then (if (l2.length : Int) > 200 then ((customslaw23_awake.f k).bind fun t147 => (some t147)) else ((guarantee_Run.f k bt137.1 bt137.2.1 bt137.2.2.1 bt137.2.2.2 l2).bind fun bt148 => ((customsref21_Run.f k bt137.1 bt137.2.1 bt137.2.2.1 bt137.2.2.2 l2).bind fun bt158 => ((customsref21_SameGuarantee.f k bt148.1 bt148.2.1 bt148.2.2.1 bt148.2.2.2.1 bt158.1 bt158.2.1 bt158.2.2.1 bt158.2.2.2.1).bind fun t168 => (if t168 = true then ((customslaw23_sameErrors.f k bt148.2.2.2.2 bt158.2.2.2.2).bind fun t169 => (if t169 = true then ((customslaw23_awake.f k).bind fun t170 => (some t170)) else (some false))) else (some false)))))) else ((customsmade_GuaranteeSteps.f k l1).bind fun t144 => (if (t144.length : Int) > 200 then ((customslaw23_awake.f k).bind fun t171 => (some t171)) else ((guarantee_Run.f k bt137.1 bt137.2.1 bt137.2.2.1 bt137.2.2.2 t144).bind fun bt172 => ((customsref21_Run.f k bt137.1 bt137.2.1 bt137.2.2.1 bt137.2.2.2 t144).bind fun bt182 => ((customsref21_SameGuarantee.f k bt172.1 bt172.2.1 bt172.2.2.1 bt172.2.2.2.1 bt182.1 bt182.2.1 bt182.2.2.1 bt182.2.2.2.1).bind fun t192 => (if t192 = true then ((customslaw23_sameErrors.f k bt172.2.2.2.2 bt182.2.2.2.2).bind fun t193 => (if t193 = true then ((customslaw23_awake.f k).bind fun t194 => (some t194)) else (some false))) else (some false))))))))
set_option maxHeartbeats 8000000 in
set_option maxRecDepth 100000 in
theorem customslaw23_GuaranteeRun.calls (k : Nat) (A0 : Option Addr) (c0 : Nat) (l0 : List Int) (A1 : Option Addr) (c1 : Nat) (l1 : List Int) (A2 : Option Addr) (c2 : Nat) (l2 : List (S74)) (a3 : Bool) (w : World) (hr0 : Kd.C (Kd.int .i64) w A0 l0.length l0) (hc0 : l0.length ≤ c0) (hr1 : Kd.C (Kd.int .i64) w A1 l1.length l1) (hc1 : l1.length ≤ c1) (hr2 : Kd.C k74 w A2 l2.length l2) (hc2 : l2.length ≤ c2) (h : customslaw23_GuaranteeRun.f k l0 l1 l2 a3 = some true) :
  Calls Try.prog 8 #[.slice A0 l0.length c0, .slice A1 l1.length c1, .slice A2 l2.length c2, .bool a3] w fun e w' => e = .returned (.bool true) ∧ Below w.heap.size w w' := by
 have hu25 := Try.underlying25
 have HR0 := Aside0.mk hr0
 have HC0 := Aside0.mk hc0
 clear hr0 hc0
 have HR1 := Aside0.mk hr1
 have HC1 := Aside0.mk hc1
 clear hr1 hc1
 have HR2 := Aside0.mk hr2
 have HC2 := Aside0.mk hc2
 clear hr2 hc2
 have HB := Aside0.mk (Below.refl w.heap.size w)
 have H : ((customsmade_Guarantee.f k l0).bind fun bt137 => (if a3 = true then (if (l2.length : Int) > 200 then ((customslaw23_awake.f k).bind fun t147 => (some t147)) else ((guarantee_Run.f k bt137.1 bt137.2.1 bt137.2.2.1 bt137.2.2.2 l2).bind fun bt148 => ((customsref21_Run.f k bt137.1 bt137.2.1 bt137.2.2.1 bt137.2.2.2 l2).bind fun bt158 => ((customsref21_SameGuarantee.f k bt148.1 bt148.2.1 bt148.2.2.1 bt148.2.2.2.1 bt158.1 bt158.2.1 bt158.2.2.1 bt158.2.2.2.1).bind fun t168 => (if t168 = true then ((customslaw23_sameErrors.f k bt148.2.2.2.2 bt158.2.2.2.2).bind fun t169 => (if t169 = true then ((customslaw23_awake.f k).bind fun t170 => (some t170)) else (some false))) else (some false)))))) else ((customsmade_GuaranteeSteps.f k l1).bind fun t144 => (if (t144.length : Int) > 200 then ((customslaw23_awake.f k).bind fun t171 => (some t171)) else ((guarantee_Run.f k bt137.1 bt137.2.1 bt137.2.2.1 bt137.2.2.2 t144).bind fun bt172 => ((customsref21_Run.f k bt137.1 bt137.2.1 bt137.2.2.1 bt137.2.2.2 t144).bind fun bt182 => ((customsref21_SameGuarantee.f k bt172.1 bt172.2.1 bt172.2.2.1 bt172.2.2.2.1 bt182.1 bt182.2.1 bt182.2.2.1 bt182.2.2.2.1).bind fun t192 => (if t192 = true then ((customslaw23_sameErrors.f k bt172.2.2.2.2 bt182.2.2.2.2).bind fun t193 => (if t193 = true then ((customslaw23_awake.f k).bind fun t194 => (some t194)) else (some false))) else (some false))))))))) = some true := h
 clear h
 replace H := Option.bind_eq_some_iff.mp H
 obtain ⟨⟨t137, t138, t139, t140⟩, A50, H⟩ := H
 replace H : (if a3 = true then (if (l2.length : Int) > 200 then ((customslaw23_awake.f k).bind fun t147 => (some t147)) else ((guarantee_Run.f k t137 t138 t139 t140 l2).bind fun bt148 => ((customsref21_Run.f k t137 t138 t139 t140 l2).bind fun bt158 => ((customsref21_SameGuarantee.f k bt148.1 bt148.2.1 bt148.2.2.1 bt148.2.2.2.1 bt158.1 bt158.2.1 bt158.2.2.1 bt158.2.2.2.1).bind fun t168 => (if t168 = true then ((customslaw23_sameErrors.f k bt148.2.2.2.2 bt158.2.2.2.2).bind fun t169 => (if t169 = true then ((customslaw23_awake.f k).bind fun t170 => (some t170)) else (some false))) else (some false)))))) else ((customsmade_GuaranteeSteps.f k l1).bind fun t144 => (if (t144.length : Int) > 200 then ((customslaw23_awake.f k).bind fun t171 => (some t171)) else ((guarantee_Run.f k t137 t138 t139 t140 t144).bind fun bt172 => ((customsref21_Run.f k t137 t138 t139 t140 t144).bind fun bt182 => ((customsref21_SameGuarantee.f k bt172.1 bt172.2.1 bt172.2.2.1 bt172.2.2.2.1 bt182.1 bt182.2.1 bt182.2.2.1 bt182.2.2.2.1).bind fun t192 => (if t192 = true then ((customslaw23_sameErrors.f k bt172.2.2.2.2 bt182.2.2.2.2).bind fun t193 => (if t193 = true then ((customslaw23_awake.f k).bind fun t194 => (some t194)) else (some false))) else (some false)))))))) = some true := H
 have A5 := Aside0.mk A50
 clear A50
 by_cases c6 : a3 = true
 ·subst c6
  have H1 : (if (l2.length : Int) > 200 then ((customslaw23_awake.f k).bind fun t147 => (some t147)) else ((guarantee_Run.f k t137 t138 t139 t140 l2).bind fun bt148 => ((customsref21_Run.f k t137 t138 t139 t140 l2).bind fun bt158 => ((customsref21_SameGuarantee.f k bt148.1 bt148.2.1 bt148.2.2.1 bt148.2.2.2.1 bt158.1 bt158.2.1 bt158.2.2.1 bt158.2.2.2.1).bind fun t168 => (if t168 = true then ((customslaw23_sameErrors.f k bt148.2.2.2.2 bt158.2.2.2.2).bind fun t169 => (if t169 = true then ((customslaw23_awake.f k).bind fun t170 => (some t170)) else (some false))) else (some false)))))) = some true := by rw [if_pos rfl] at H; exact H
  clear H
  have H := H1
  clear H1
  by_cases c7 : (l2.length : Int) > 200
  ·rw [if_pos c7] at H
   have c7b0 : decide (200 < (l2.length : Int)) = true := decide_eq_true c7
   have c7b1 : decide (200 < l2.length) = true := decide_eq_true (by omega)
   clear c7
   replace H := Option.bind_eq_some_iff.mp H
   obtain ⟨t147, A80, H⟩ := H
   replace H : (some t147) = some true := H
   have A8 := Aside0.mk A80
   clear A80
   have HT_ := Option.some.inj H
   clear H
   go_enter Try.func8, Try.ntmps8
   go_wp2_with (first | ((with_reducible refine gate_callee (f := 10) rfl ?_); refine goesL_ (some 16) rfl rfl Try.func10 (by kernel_rfl) rfl #[.slice A0 l0.length c0] rfl argx ?_; (with_reducible refine (customsmade_Guarantee.calls k _ _ l0 t137 t138 t139 t140 _ ?side1 ?side2 A5.out).mono ?_); (case side1 => repeat (first | exact HR0.out | (with_reducible refine Kd.C_alloc ?_ _) | (with_reducible refine Kd.C_drewN ?_ _) | (with_reducible refine Kd.C_drew ?_))); (case side2 => exact HC0.out); rintro e w9 ⟨v141, rfl, ho0, hb⟩; refine ⟨_, rfl, ?_⟩; have qb_ := below_both bel hb; have n0_ := Aside0.mk (Kd.R_lower ho0 qb_.2); have n1_ := Aside0.mk (qb_.1); clear HB; have HO142 := n0_; have HB := n1_; clear qb_; clear n0_ n1_; (try clear hb); (try clear hb2); (try clear hk); (try clear hi); (try clear ho0)) | ((with_reducible refine gate_dst (N := 9) rfl ?_); refine box_event ?hg (N := 9) ?hd (cs := #[.int .i64 0, .int .i64 0, .int .i64 0, .slice none 0 0]) (t := 25) ?hr ?_; (case hd => rfl); (case hg => rfl); (case hr => first | (go_simp; done) | (go_simp; rfl)); intro gb143 hg w10 hbox hb; have qb_ := below_both bel hb; have n0_ := Aside0.mk (Kd.R_below (rowx HO142.out) hb); have n1_ := Aside0.mk (qb_.1); have n2_ := Aside0.mk (hbox); have n4_ := Aside0.mk ((by rw [hg]; exact qb_.2 : w.heap.size ≤ gb143)); clear HO142; clear HB; have HO142 := n0_; have HB := n1_; have BK143 := n2_; have GE143 := n4_; clear qb_; clear n0_ n1_ n2_ n4_; clear hb hbox hg; obtain ⟨hcz11_0, hcz11_1, hcz11_2, hcz11_3, hfz11_0, hfz11_1, hfz11_2, hfz11_3⟩ := cells4 BK143.out; obtain ⟨Ao12, co12, eo12⟩ := Kd.R_slice HO142.out; subst eo12) | ((with_reducible refine gate_callee (f := 15) rfl ?_); refine goesL_ (some 25) rfl rfl Try.func15 (by kernel_rfl) rfl #[] rfl argx ?_; (with_reducible refine (customslaw23_awake.calls k  t147 _ A8.out).mono ?_); rintro e w13 ⟨rfl, hb⟩; refine ⟨_, rfl, ?_⟩; have n2_ := Aside0.mk (below_step bel hb); (try clear HO142); (try clear BK143); clear HB; have HB := n2_; clear n2_; (try clear hb); (try clear hb2); (try clear hk); (try clear hi)))
   go_ret
   exact ⟨by first | rfl | (simp [errW_none, errW_some] <;> rfl) | (simp [*, errW_none, errW_some] <;> rfl), bel⟩
  ·rw [if_neg c7] at H
   have c7b0 : decide (200 < (l2.length : Int)) = false := decide_eq_false c7
   have c7b1 : decide (200 < l2.length) = false := decide_eq_false (by omega)
   clear c7
   replace H := Option.bind_eq_some_iff.mp H
   obtain ⟨⟨t148, t149, t150, t151, t154⟩, A140, H⟩ := H
   replace H : ((customsref21_Run.f k t137 t138 t139 t140 l2).bind fun bt158 => ((customsref21_SameGuarantee.f k t148 t149 t150 t151 bt158.1 bt158.2.1 bt158.2.2.1 bt158.2.2.2.1).bind fun t168 => (if t168 = true then ((customslaw23_sameErrors.f k t154 bt158.2.2.2.2).bind fun t169 => (if t169 = true then ((customslaw23_awake.f k).bind fun t170 => (some t170)) else (some false))) else (some false)))) = some true := H
   have A14 := Aside0.mk A140
   clear A140
   replace H := Option.bind_eq_some_iff.mp H
   obtain ⟨⟨t158, t159, t160, t161, t164⟩, A150, H⟩ := H
   replace H : ((customsref21_SameGuarantee.f k t148 t149 t150 t151 t158 t159 t160 t161).bind fun t168 => (if t168 = true then ((customslaw23_sameErrors.f k t154 t164).bind fun t169 => (if t169 = true then ((customslaw23_awake.f k).bind fun t170 => (some t170)) else (some false))) else (some false))) = some true := H
   have A15 := Aside0.mk A150
   clear A150
   replace H := Option.bind_eq_some_iff.mp H
   obtain ⟨t168, A160, H⟩ := H
   replace H : (if t168 = true then ((customslaw23_sameErrors.f k t154 t164).bind fun t169 => (if t169 = true then ((customslaw23_awake.f k).bind fun t170 => (some t170)) else (some false))) else (some false)) = some true := H
   have A16 := Aside0.mk A160
   clear A160
   by_cases c17 : t168 = true
   ·subst c17
    have H1 : ((customslaw23_sameErrors.f k t154 t164).bind fun t169 => (if t169 = true then ((customslaw23_awake.f k).bind fun t170 => (some t170)) else (some false))) = some true := by rw [if_pos rfl] at H; exact H
    clear H
    have H := H1
    clear H1
    replace H := Option.bind_eq_some_iff.mp H
    obtain ⟨t169, A180, H⟩ := H
    replace H : (if t169 = true then ((customslaw23_awake.f k).bind fun t170 => (some t170)) else (some false)) = some true := H
    have A18 := Aside0.mk A180
    clear A180
    by_cases c19 : t169 = true
    ·subst c19
     have H1 : ((customslaw23_awake.f k).bind fun t170 => (some t170)) = some true := by rw [if_pos rfl] at H; exact H
     clear H
     have H := H1
     clear H1
     replace H := Option.bind_eq_some_iff.mp H
     obtain ⟨t170, A200, H⟩ := H
     replace H : (some t170) = some true := H
     have A20 := Aside0.mk A200
     clear A200
     have HT_ := Option.some.inj H
     clear H
     go_enter Try.func8, Try.ntmps8
     go_wp2_with (first | ((with_reducible refine gate_callee (f := 10) rfl ?_); refine goesL_ (some 16) rfl rfl Try.func10 (by kernel_rfl) rfl #[.slice A0 l0.length c0] rfl argx ?_; (with_reducible refine (customsmade_Guarantee.calls k _ _ l0 t137 t138 t139 t140 _ ?side1 ?side2 A5.out).mono ?_); (case side1 => repeat (first | exact HR0.out | (with_reducible refine Kd.C_alloc ?_ _) | (with_reducible refine Kd.C_drewN ?_ _) | (with_reducible refine Kd.C_drew ?_))); (case side2 => exact HC0.out); rintro e w21 ⟨v141, rfl, ho0, hb⟩; refine ⟨_, rfl, ?_⟩; have qb_ := below_both bel hb; have n0_ := Aside0.mk (Kd.R_lower ho0 qb_.2); have n1_ := Aside0.mk (qb_.1); clear HB; have HO142 := n0_; have HB := n1_; clear qb_; clear n0_ n1_; (try clear hb); (try clear hb2); (try clear hk); (try clear hi); (try clear ho0)) | ((with_reducible refine gate_dst (N := 9) rfl ?_); refine box_event ?hg (N := 9) ?hd (cs := #[.int .i64 0, .int .i64 0, .int .i64 0, .slice none 0 0]) (t := 25) ?hr ?_; (case hd => rfl); (case hg => rfl); (case hr => first | (go_simp; done) | (go_simp; rfl)); intro gb143 hg w22 hbox hb; have qb_ := below_both bel hb; have n0_ := Aside0.mk (Kd.R_below (rowx HO142.out) hb); have n1_ := Aside0.mk (qb_.1); have n2_ := Aside0.mk (hbox); have n4_ := Aside0.mk ((by rw [hg]; exact qb_.2 : w.heap.size ≤ gb143)); clear HO142; clear HB; have HO142 := n0_; have HB := n1_; have BK143 := n2_; have GE143 := n4_; clear qb_; clear n0_ n1_ n2_ n4_; clear hb hbox hg; obtain ⟨hcz23_0, hcz23_1, hcz23_2, hcz23_3, hfz23_0, hfz23_1, hfz23_2, hfz23_3⟩ := cells4 BK143.out; obtain ⟨Ao24, co24, eo24⟩ := Kd.R_slice HO142.out; subst eo24) | ((with_reducible refine gate_callee (f := 27) rfl ?_); refine goesL_ (some 29) rfl rfl Try.func27 (by kernel_rfl) rfl #[.agg #[.int .i64 t137, .int .i64 t138, .int .i64 t139, .slice Ao24 t140.length co24], .slice A2 l2.length c2] rfl argx ?_; (with_reducible refine (guarantee_Run.calls k t137 t138 t139 _ _ t140 _ _ l2 t148 t149 t150 t151 t154 _ ?side1 ?side2 ?side3 ?side4 A14.out).mono ?_); (case side1 => refine (Kd.R_reads' (e := 39) (base := w.heap.size) (ok := fun k_ => True) (n := t140.length) (c := co24) ?_).2.2; exact (by (with_reducible repeat (first | apply Kd.R_alloc | apply Kd.R_drewN | apply Kd.R_drew)); exact (Kd.R_mono (Kd.R_far (p := ⟨gb143, 3, none⟩) (Kd.R_far (p := ⟨gb143, 2, none⟩) (Kd.R_far (p := ⟨gb143, 1, none⟩) (Kd.R_far (p := ⟨gb143, 0, none⟩) (Kd.R_types HO142.out BK143.out (by decide)) (fun _ hk => hk.2) (.int .i64 t137)) (fun _ hk => hk.2) (.int .i64 t138)) (fun _ hk => hk.2) (.int .i64 t139)) (fun _ hk => hk.2) (.slice Ao24 t140.length co24)) (fun _ h_ => h_.1)))); (case side2 => exact (Kd.R_reads' HO142.out).2.1); (case side3 => exact Kd.C_below HR2.out bel); (case side4 => exact HC2.out); rintro e w25 ⟨v152, v155, rfl, ho0, ho1, hb⟩; refine ⟨_, rfl, ?_⟩; have qb_ := below_both bel hb; have q1_ := Kd.R_elder2 (by (with_reducible repeat (first | apply Kd.R_alloc | apply Kd.R_drewN | apply Kd.R_drew)); exact (Kd.R_mono (Kd.R_far (p := ⟨gb143, 3, none⟩) (Kd.R_far (p := ⟨gb143, 2, none⟩) (Kd.R_far (p := ⟨gb143, 1, none⟩) (Kd.R_far (p := ⟨gb143, 0, none⟩) (Kd.R_types HO142.out BK143.out (by decide)) (fun _ hk => hk.2) (.int .i64 t137)) (fun _ hk => hk.2) (.int .i64 t138)) (fun _ hk => hk.2) (.int .i64 t139)) (fun _ hk => hk.2) (.slice Ao24 t140.length co24)) (fun _ h_ => h_.1))) (Kd.R_base ho0) hb; have n0_ := Aside0.mk (q1_.1); have n1_ := Aside0.mk (Kd.R_lower (Kd.R_new' ho0 q1_.2) qb_.2); have n2_ := Aside0.mk (Kd.R_lower ho1 qb_.2); have n3_ := Aside0.mk (blk_below (g := gb143) (o := .cells #[.int .i64 t137, .int .i64 t138, .int .i64 t139, .slice Ao24 t140.length co24] 25 (0, 0)) (by (with_reducible repeat (first | refine blk_drewN ?_ _ | refine blk_drew ?_ | refine blk_alloc ?_ _)); refine blk_put (cs := #[.int .i64 t137, .int .i64 t138, .int .i64 t139, .slice none 0 0]) ?_ 3 _ rfl; refine blk_put (cs := #[.int .i64 t137, .int .i64 t138, .int .i64 0, .slice none 0 0]) ?_ 2 _ rfl; refine blk_put (cs := #[.int .i64 t137, .int .i64 0, .int .i64 0, .slice none 0 0]) ?_ 1 _ rfl; refine blk_put (cs := #[.int .i64 0, .int .i64 0, .int .i64 0, .slice none 0 0]) ?_ 0 _ rfl; (with_reducible repeat (first | refine blk_drewN ?_ _ | refine blk_drew ?_ | refine blk_alloc ?_ _)); exact BK143.out) hb); have n4_ := Aside0.mk (qb_.1); clear HO142; clear BK143; clear HB; have HO142 := n0_; have HO153 := n1_; have HO156 := n2_; have BK143 := n3_; have HB := n4_; clear q1_; clear qb_; clear n0_ n1_ n2_ n3_ n4_; (try clear hb); (try clear hb2); (try clear hk); (try clear hi); (try clear ho0); (try clear ho1)) | ((with_reducible refine gate_dst (N := 11) rfl ?_); refine box_event ?hg (N := 11) ?hd (cs := #[.int .i64 0, .int .i64 0, .int .i64 0, .slice none 0 0]) (t := 25) ?hr ?_; (case hd => rfl); (case hg => rfl); (case hr => first | (go_simp; done) | (go_simp; rfl)); intro gb157 hg w26 hbox hb; have qb_ := below_both bel hb; have n0_ := Aside0.mk (Kd.R_below (rowx HO142.out) hb); have n1_ := Aside0.mk (Kd.R_below (rowx HO153.out) hb); have n2_ := Aside0.mk (Kd.R_below (rowx HO156.out) hb); have q1_ := blk_below2 (g := gb143) (o := .cells #[.int .i64 t137, .int .i64 t138, .int .i64 t139, .slice Ao24 t140.length co24] 25 (0, 0)) blkx hb; have n3_ := Aside0.mk (q1_.1); have n4_ := Aside0.mk (qb_.1); have n5_ := Aside0.mk (hbox); have n7_ := Aside0.mk ((by rw [hg]; exact qb_.2 : w.heap.size ≤ gb157)); have n8_ := Aside0.mk ((by rw [hg]; exact Nat.ne_of_lt q1_.2 : gb143 ≠ gb157)); have n9_ := Aside0.mk (Ne.symm n8_.out); clear HO142; clear HO153; clear HO156; clear BK143; clear HB; have HO142 := n0_; have HO153 := n1_; have HO156 := n2_; have BK143 := n3_; have HB := n4_; have BK157 := n5_; have GE157 := n7_; have NB143_157 := n8_; have NB157_143 := n9_; clear q1_; clear qb_; clear n0_ n1_ n2_ n3_ n4_ n5_ n7_ n8_ n9_; clear hb hbox hg; have hnb27 := NB157_143.out; have hnc27 := NB143_157.out; obtain ⟨hcz28_0, hcz28_1, hcz28_2, hcz28_3, hfz28_0, hfz28_1, hfz28_2, hfz28_3⟩ := cells4 BK157.out; obtain ⟨Ao29, co29, eo29⟩ := Kd.R_slice HO153.out; subst eo29) | ((with_reducible refine gate_store (t := 25) (p := 11) rfl ?_); refine store_event (t := 25) (p := 11) (v := ?vo_w30) (w1 := ((((w26.setCell ⟨gb157, 0, none⟩ (.int .i64 t148)).setCell ⟨gb157, 1, none⟩ (.int .i64 t149)).setCell ⟨gb157, 2, none⟩ (.int .i64 t150)).setCell ⟨gb157, 3, none⟩ (.slice Ao29 t151.length co29))) ?hg ?ho ?hn ?hr ?_; (case ho => rfl); (case hg => rfl); (case hn => rfl); (case hr => first | (go_simp; done) | (go_simp; rfl)); intro w30 hw; have n0_ : Aside0 (Kd.R k39 39 w30 w.heap.size (fun k_ => some k_ ≠ (.slice Ao29 t151.length co29 : Value).ownBlock) (.slice Ao24 t140.length co24) t140) := ⟨(by rw [hw]; exact (by (with_reducible repeat (first | apply Kd.R_alloc | apply Kd.R_drewN | apply Kd.R_drew)); exact Kd.R_mono (Kd.R_far (p := ⟨gb157, 3, none⟩) (Kd.R_far (p := ⟨gb157, 2, none⟩) (Kd.R_far (p := ⟨gb157, 1, none⟩) (Kd.R_far (p := ⟨gb157, 0, none⟩) (Kd.R_types HO142.out BK157.out (by decide)) (fun _ hk => hk.2) (.int .i64 t148)) (fun _ hk => hk.2) (.int .i64 t149)) (fun _ hk => hk.2) (.int .i64 t150)) (fun _ hk => hk.2) (.slice Ao29 t151.length co29)) (fun _ hk => hk.1.2)))⟩; have n1_ : Aside0 (Kd.R k39 39 w30 w.heap.size (fun k_ => some k_ ≠ (.slice Ao24 t140.length co24 : Value).ownBlock) (.slice Ao29 t151.length co29) t151) := ⟨(by rw [hw]; exact (by (with_reducible repeat (first | apply Kd.R_alloc | apply Kd.R_drewN | apply Kd.R_drew)); exact Kd.R_mono (Kd.R_far (p := ⟨gb157, 3, none⟩) (Kd.R_far (p := ⟨gb157, 2, none⟩) (Kd.R_far (p := ⟨gb157, 1, none⟩) (Kd.R_far (p := ⟨gb157, 0, none⟩) (Kd.R_types HO153.out BK157.out (by decide)) (fun _ hk => hk.2) (.int .i64 t148)) (fun _ hk => hk.2) (.int .i64 t149)) (fun _ hk => hk.2) (.int .i64 t150)) (fun _ hk => hk.2) (.slice Ao29 t151.length co29)) (fun _ hk => hk.1.2)))⟩; have n2_ : Aside0 (Kd.R (Kd.int .i64) 27 w30 w.heap.size (fun _ => True) v155 t154) := ⟨(by rw [hw]; exact (by (with_reducible repeat (first | apply Kd.R_alloc | apply Kd.R_drewN | apply Kd.R_drew)); exact Kd.R_mono (Kd.R_far (p := ⟨gb157, 3, none⟩) (Kd.R_far (p := ⟨gb157, 2, none⟩) (Kd.R_far (p := ⟨gb157, 1, none⟩) (Kd.R_far (p := ⟨gb157, 0, none⟩) (Kd.R_types HO156.out BK157.out (by decide)) (fun _ hk => hk.2) (.int .i64 t148)) (fun _ hk => hk.2) (.int .i64 t149)) (fun _ hk => hk.2) (.int .i64 t150)) (fun _ hk => hk.2) (.slice Ao29 t151.length co29)) (fun _ hk => trivial)))⟩; have n3_ : Aside0 (w30.heap[gb143]? = some (.cells #[.int .i64 t137, .int .i64 t138, .int .i64 t139, .slice Ao24 t140.length co24] 25 (0, 0))) := ⟨(by rw [hw]; exact blkx)⟩; have n4_ : Aside0 (w30.heap[gb157]? = some (.cells #[.int .i64 t148, .int .i64 t149, .int .i64 t150, .slice Ao29 t151.length co29] 25 (0, 0))) := ⟨(by rw [hw]; exact (by (with_reducible repeat (first | refine blk_drewN ?_ _ | refine blk_drew ?_ | refine blk_alloc ?_ _)); refine blk_put (cs := #[.int .i64 t148, .int .i64 t149, .int .i64 t150, .slice none 0 0]) ?_ 3 _ rfl; refine blk_put (cs := #[.int .i64 t148, .int .i64 t149, .int .i64 0, .slice none 0 0]) ?_ 2 _ rfl; refine blk_put (cs := #[.int .i64 t148, .int .i64 0, .int .i64 0, .slice none 0 0]) ?_ 1 _ rfl; refine blk_put (cs := #[.int .i64 0, .int .i64 0, .int .i64 0, .slice none 0 0]) ?_ 0 _ rfl; (with_reducible repeat (first | refine blk_drewN ?_ _ | refine blk_drew ?_ | refine blk_alloc ?_ _)); exact BK157.out))⟩; have n5_ : Aside0 (Below w.heap.size w w30) := ⟨(by rw [hw]; exact bel)⟩; clear hw; clear HO142; clear HO153; clear HO156; clear BK143; clear BK157; clear HB; have HO142 := n0_; have HO153 := n1_; have HO156 := n2_; have BK143 := n3_; have BK157 := n4_; have HB := n5_; clear n0_ n1_ n2_ n3_ n4_ n5_; obtain ⟨hcz31_0, hcz31_1, hcz31_2, hcz31_3, hfz31_0, hfz31_1, hfz31_2, hfz31_3⟩ := cells4 BK143.out) | ((with_reducible refine gate_callee (f := 28) rfl ?_); refine goesL_ (some 35) rfl rfl Try.func28 (by kernel_rfl) rfl #[.agg #[.int .i64 t137, .int .i64 t138, .int .i64 t139, .slice Ao24 t140.length co24], .slice A2 l2.length c2] rfl argx ?_; (with_reducible refine (customsref21_Run.calls k t137 t138 t139 (fun k_ => some k_ = (.slice Ao24 t140.length co24 : Value).ownBlock) _ _ t140 _ _ l2 t158 t159 t160 t161 t164 _ ?side1 ?side2 ?side3 A15.out).mono ?_); (case side1 => exact Kd.R_V (Kd.R_tight rfl (Kd.R_types (Kd.R_types (Kd.R_apart' (HO142.out) (Kd.R_typed HO156.out) (by decide)) BK143.out (by decide)) BK157.out (by decide)))); (case side2 => repeat (first | exact (Kd.C_below HR2.out HB.out) | (with_reducible refine Kd.C_alloc ?_ _) | (with_reducible refine Kd.C_drewN ?_ _) | (with_reducible refine Kd.C_drew ?_))); (case side3 => exact HC2.out); rintro e w32 ⟨v162, v165, rfl, ho0, ho1, hb⟩; refine ⟨_, rfl, ?_⟩; have n1_ := Aside0.mk (Kd.R_below (rowx HO153.out) hb); have n2_ := Aside0.mk (Kd.R_elder' (rowx HO156.out) (Kd.R_base ho1) hb); have n3_ := Aside0.mk (Kd.V_lower (Kd.V_mono (ok' := fun k_ => some k_ ≠ (v165 : Value).ownBlock ∧ some k_ ≠ (.slice Ao29 t151.length co29 : Value).ownBlock ∧ some k_ ≠ (v155 : Value).ownBlock ∧ k_ ≠ gb143 ∧ k_ ≠ gb157) ho0 (fun k_ hk_ => ⟨hk_.2, Or.elim hk_.1 (fun hs_ => ((Kd.R_types (Kd.R_types (Kd.R_apart' (HO142.out) (Kd.R_typed HO156.out) (by decide)) BK143.out (by decide)) BK157.out (by decide)).1 k_ hs_.symm).1.1.1) (fun hn_ => (Kd.fresh' (Kd.R_lt (rowx HO153.out)) k_ hn_)), Or.elim hk_.1 (fun hs_ => ((Kd.R_types (Kd.R_types (Kd.R_apart' (HO142.out) (Kd.R_typed HO156.out) (by decide)) BK143.out (by decide)) BK157.out (by decide)).1 k_ hs_.symm).1.1.2) (fun hn_ => (Kd.fresh' (Kd.R_lt (rowx HO156.out)) k_ hn_)), Or.elim hk_.1 (fun hs_ => ((Kd.R_types (Kd.R_types (Kd.R_apart' (HO142.out) (Kd.R_typed HO156.out) (by decide)) BK143.out (by decide)) BK157.out (by decide)).1 k_ hs_.symm).1.2) (fun hn_ => (Kd.freshB (g := gb143) (o := .cells #[.int .i64 t137, .int .i64 t138, .int .i64 t139, .slice Ao24 t140.length co24] 25 (0, 0)) blkx k_ hn_)), Or.elim hk_.1 (fun hs_ => ((Kd.R_types (Kd.R_types (Kd.R_apart' (HO142.out) (Kd.R_typed HO156.out) (by decide)) BK143.out (by decide)) BK157.out (by decide)).1 k_ hs_.symm).2) (fun hn_ => (Kd.freshB (g := gb157) (o := .cells #[.int .i64 t148, .int .i64 t149, .int .i64 t150, .slice Ao29 t151.length co29] 25 (0, 0)) blkx k_ hn_))⟩)) (below_size bel)); have n4_ := Aside0.mk (Kd.R_lower (Kd.R_new' (Kd.R_mono (ok' := fun k_ => True) ho1 (fun _ hk_ => trivial)) (Kd.R_lt (rowx HO156.out))) (below_size bel)); have n5_ := Aside0.mk (blk_below (g := gb143) (o := .cells #[.int .i64 t137, .int .i64 t138, .int .i64 t139, .slice Ao24 t140.length co24] 25 (0, 0)) blkx hb); have n6_ := Aside0.mk (blk_below (g := gb157) (o := .cells #[.int .i64 t148, .int .i64 t149, .int .i64 t150, .slice Ao29 t151.length co29] 25 (0, 0)) blkx hb); have n7_ := Aside0.mk (below_step bel hb); (try clear HO142); clear HO153; clear HO156; clear BK143; clear BK157; clear HB; have HO153 := n1_; have HO156 := n2_; have HO163 := n3_; have HO166 := n4_; have BK143 := n5_; have BK157 := n6_; have HB := n7_; clear n1_ n2_ n3_ n4_ n5_ n6_ n7_; (try clear hb); (try clear hb2); (try clear hk); (try clear hi); (try clear ho0); (try clear ho1)) | ((with_reducible refine gate_dst (N := 13) rfl ?_); refine box_event ?hg (N := 13) ?hd (cs := #[.int .i64 0, .int .i64 0, .int .i64 0, .slice none 0 0]) (t := 25) ?hr ?_; (case hd => rfl); (case hg => rfl); (case hr => first | (go_simp; done) | (go_simp; rfl)); intro gb167 hg w33 hbox hb; have n1_ := Aside0.mk (Kd.R_below (rowx HO153.out) hb); have n2_ := Aside0.mk (Kd.R_below (rowx HO156.out) hb); have n3_ := Aside0.mk (Kd.V_below (Kd.V_elderB (by (with_reducible repeat (first | apply Kd.V_alloc | apply Kd.V_drewN | apply Kd.V_drew)); exact HO163.out) gb167 (Nat.le_of_eq hg.symm)) hb); have n4_ := Aside0.mk (Kd.R_below (rowx HO166.out) hb); have n6_ := Aside0.mk (blk_below (g := gb157) (o := .cells #[.int .i64 t148, .int .i64 t149, .int .i64 t150, .slice Ao29 t151.length co29] 25 (0, 0)) blkx hb); have n7_ := Aside0.mk (below_step bel hb); have n8_ := Aside0.mk (hbox); have n10_ := Aside0.mk ((by rw [hg]; exact (below_size bel) : w.heap.size ≤ gb167)); have n11_ := Aside0.mk ((by rw [hg]; exact Nat.ne_of_lt (blk_lt (g := gb143) (o := .cells #[.int .i64 t137, .int .i64 t138, .int .i64 t139, .slice Ao24 t140.length co24] 25 (0, 0)) blkx) : gb143 ≠ gb167)); have n12_ := Aside0.mk ((by rw [hg]; exact Nat.ne_of_gt (blk_lt (g := gb143) (o := .cells #[.int .i64 t137, .int .i64 t138, .int .i64 t139, .slice Ao24 t140.length co24] 25 (0, 0)) blkx) : gb167 ≠ gb143)); have n13_ := Aside0.mk ((by rw [hg]; exact Nat.ne_of_lt (blk_lt (g := gb157) (o := .cells #[.int .i64 t148, .int .i64 t149, .int .i64 t150, .slice Ao29 t151.length co29] 25 (0, 0)) blkx) : gb157 ≠ gb167)); have n14_ := Aside0.mk ((by rw [hg]; exact Nat.ne_of_gt (blk_lt (g := gb157) (o := .cells #[.int .i64 t148, .int .i64 t149, .int .i64 t150, .slice Ao29 t151.length co29] 25 (0, 0)) blkx) : gb167 ≠ gb157)); (try clear HO142); clear HO153; clear HO156; clear HO163; clear HO166; (try clear BK143); clear BK157; clear HB; have HO153 := n1_; have HO156 := n2_; have HO163 := n3_; have HO166 := n4_; have BK157 := n6_; have HB := n7_; have BK167 := n8_; have GE167 := n10_; have NB143_167 := n11_; have NB167_143 := n12_; have NB157_167 := n13_; have NB167_157 := n14_; clear n1_ n2_ n3_ n4_ n6_ n7_ n8_ n10_ n11_ n12_ n13_ n14_; clear hb hbox hg; have hnb34 := NB167_143.out; have hnc34 := NB143_167.out; have hnb35 := NB167_157.out; have hnc35 := NB157_167.out; obtain ⟨hcz36_0, hcz36_1, hcz36_2, hcz36_3, hfz36_0, hfz36_1, hfz36_2, hfz36_3⟩ := cells4 BK167.out; obtain ⟨Ao37, co37, eo37⟩ := Kd.V_slice HO163.out; subst eo37; obtain ⟨hcz38_0, hcz38_1, hcz38_2, hcz38_3, hfz38_0, hfz38_1, hfz38_2, hfz38_3⟩ := cells4 BK157.out) | ((with_reducible refine gate_callee (f := 21) rfl ?_); refine goesL_ (some 40) rfl rfl Try.func21 (by kernel_rfl) rfl #[.agg #[.int .i64 t148, .int .i64 t149, .int .i64 t150, .slice Ao29 t151.length co29], .agg #[.int .i64 t158, .int .i64 t159, .int .i64 t160, .slice Ao37 t161.length co37]] rfl argx ?_; (with_reducible refine (customsref21_SameGuarantee.calls k t148 t149 t150 _ _ t151 t158 t159 t160 _ _ t161 true _ ?side1 ?side2 ?side3 ?side4 A16.out).mono ?_); (case side1 => refine (Kd.R_reads' (e := 39) (base := w.heap.size) (ok := fun k_ => some k_ ≠ (.slice Ao24 t140.length co24 : Value).ownBlock) (n := t151.length) (c := co29) ?_).2.2; exact (by (with_reducible repeat (first | apply Kd.R_alloc | apply Kd.R_drewN | apply Kd.R_drew)); exact (Kd.R_mono (Kd.R_far (p := ⟨gb167, 3, none⟩) (Kd.R_far (p := ⟨gb167, 2, none⟩) (Kd.R_far (p := ⟨gb167, 1, none⟩) (Kd.R_far (p := ⟨gb167, 0, none⟩) (Kd.R_types HO153.out BK167.out (by decide)) (fun _ hk => hk.2) (.int .i64 t158)) (fun _ hk => hk.2) (.int .i64 t159)) (fun _ hk => hk.2) (.int .i64 t160)) (fun _ hk => hk.2) (.slice Ao37 t161.length co37)) (fun _ h_ => h_.1)))); (case side2 => exact (Kd.R_reads' HO153.out).2.1); (case side3 => refine (Kd.V_reads' (e := 39) (base := w.heap.size) (ok := fun k_ => ((some k_ ≠ (v165 : Value).ownBlock ∧ (some k_ ≠ (.slice Ao29 t151.length co29 : Value).ownBlock ∧ (some k_ ≠ (v155 : Value).ownBlock ∧ (k_ ≠ gb143 ∧ k_ ≠ gb157)))) ∧ k_ ≠ gb167)) (n := t161.length) (c := co37) ?_).2.2; exact (by (with_reducible repeat (first | apply Kd.V_alloc | apply Kd.V_drewN | apply Kd.V_drew)); exact (Kd.V_mono (Kd.V_far (p := ⟨gb167, 3, none⟩) (Kd.V_far (p := ⟨gb167, 2, none⟩) (Kd.V_far (p := ⟨gb167, 1, none⟩) (Kd.V_far (p := ⟨gb167, 0, none⟩) (Kd.V_mono HO163.out (fun k_ hk => (⟨hk, hk.2⟩ : _ ∧ k_ ≠ gb167))) (fun _ hk => hk.2) (.int .i64 t158)) (fun _ hk => hk.2) (.int .i64 t159)) (fun _ hk => hk.2) (.int .i64 t160)) (fun _ hk => hk.2) (.slice Ao37 t161.length co37)) (fun _ h_ => h_.1)))); (case side4 => exact (Kd.V_reads' HO163.out).2.1); rintro e w39 ⟨rfl, hb⟩; refine ⟨_, rfl, ?_⟩; have n2_ := Aside0.mk (Kd.R_below (by (with_reducible repeat (first | apply Kd.R_alloc | apply Kd.R_drewN | apply Kd.R_drew)); exact (Kd.R_mono (Kd.R_far (p := ⟨gb167, 3, none⟩) (Kd.R_far (p := ⟨gb167, 2, none⟩) (Kd.R_far (p := ⟨gb167, 1, none⟩) (Kd.R_far (p := ⟨gb167, 0, none⟩) (Kd.R_types HO156.out BK167.out (by decide)) (fun _ hk => hk.2) (.int .i64 t158)) (fun _ hk => hk.2) (.int .i64 t159)) (fun _ hk => hk.2) (.int .i64 t160)) (fun _ hk => hk.2) (.slice Ao37 t161.length co37)) (fun _ h_ => h_.1))) hb); have n4_ := Aside0.mk (Kd.R_below (by (with_reducible repeat (first | apply Kd.R_alloc | apply Kd.R_drewN | apply Kd.R_drew)); exact (Kd.R_mono (Kd.R_far (p := ⟨gb167, 3, none⟩) (Kd.R_far (p := ⟨gb167, 2, none⟩) (Kd.R_far (p := ⟨gb167, 1, none⟩) (Kd.R_far (p := ⟨gb167, 0, none⟩) (Kd.R_types HO166.out BK167.out (by decide)) (fun _ hk => hk.2) (.int .i64 t158)) (fun _ hk => hk.2) (.int .i64 t159)) (fun _ hk => hk.2) (.int .i64 t160)) (fun _ hk => hk.2) (.slice Ao37 t161.length co37)) (fun _ h_ => h_.1))) hb); have n8_ := Aside0.mk (below_step bel hb); (try clear HO142); (try clear HO153); clear HO156; (try clear HO163); clear HO166; (try clear BK143); (try clear BK157); (try clear BK167); clear HB; have HO156 := n2_; have HO166 := n4_; have HB := n8_; clear n2_ n4_ n8_; (try clear hb); (try clear hb2); (try clear hk); (try clear hi); obtain ⟨Ao40, co40, eo40⟩ := Kd.R_slice HO156.out; subst eo40; obtain ⟨Ao41, co41, eo41⟩ := Kd.R_slice HO166.out; subst eo41) | (go_at_call 29; (with_reducible refine (customslaw23_sameErrors.calls k _ _ t154 _ _ t164 true _ ?side1 ?side2 ?side3 ?side4 A18.out).mono ?_); (case side1 => repeat (first | exact (Kd.R_reads' HO156.out).2.2 | (with_reducible refine Kd.C_alloc ?_ _) | (with_reducible refine Kd.C_drewN ?_ _) | (with_reducible refine Kd.C_drew ?_))); (case side2 => exact (Kd.R_reads' HO156.out).2.1); (case side3 => repeat (first | exact (Kd.R_reads' HO166.out).2.2 | (with_reducible refine Kd.C_alloc ?_ _) | (with_reducible refine Kd.C_drewN ?_ _) | (with_reducible refine Kd.C_drew ?_))); (case side4 => exact (Kd.R_reads' HO166.out).2.1); rintro e w' ⟨rfl, ⟨nd, rfl⟩⟩) | (go_at_call 15; (with_reducible refine (customslaw23_awake.calls k  t170 _ A20.out).mono ?_); rintro e w42 ⟨rfl, hb⟩; have n8_ := Aside0.mk (below_step bel hb); (try clear HO142); (try clear HO153); (try clear HO156); (try clear HO163); (try clear HO166); (try clear BK143); (try clear BK157); (try clear BK167); clear HB; have HB := n8_; clear n8_; (try clear hb); (try clear hb2); (try clear hk); (try clear hi)))
     go_ret
     exact ⟨by first | rfl | (simp [errW_none, errW_some] <;> rfl) | (simp [*, errW_none, errW_some] <;> rfl), bel⟩
    ·replace c19 := Bool.eq_false_iff.mpr c19
     subst c19
     have H1 : (some false) = some true := by rw [if_neg (show ¬ (false = true) by decide)] at H; exact H
     clear H
     have H := H1
     clear H1
     cases H
   ·replace c17 := Bool.eq_false_iff.mpr c17
    subst c17
    have H1 : (some false) = some true := by rw [if_neg (show ¬ (false = true) by decide)] at H; exact H
    clear H
    have H := H1
    clear H1
    cases H
 ·replace c6 := Bool.eq_false_iff.mpr c6
  subst c6
  have H1 : ((customsmade_GuaranteeSteps.f k l1).bind fun t144 => (if (t144.length : Int) > 200 then ((customslaw23_awake.f k).bind fun t171 => (some t171)) else ((guarantee_Run.f k t137 t138 t139 t140 t144).bind fun bt172 => ((customsref21_Run.f k t137 t138 t139 t140 t144).bind fun bt182 => ((customsref21_SameGuarantee.f k bt172.1 bt172.2.1 bt172.2.2.1 bt172.2.2.2.1 bt182.1 bt182.2.1 bt182.2.2.1 bt182.2.2.2.1).bind fun t192 => (if t192 = true then ((customslaw23_sameErrors.f k bt172.2.2.2.2 bt182.2.2.2.2).bind fun t193 => (if t193 = true then ((customslaw23_awake.f k).bind fun t194 => (some t194)) else (some false))) else (some false))))))) = some true := by rw [if_neg (show ¬ (false = true) by decide)] at H; exact H
  clear H
  have H := H1
  clear H1
  replace H := Option.bind_eq_some_iff.mp H
  obtain ⟨t144, A430, H⟩ := H
  replace H : (if (t144.length : Int) > 200 then ((customslaw23_awake.f k).bind fun t171 => (some t171)) else ((guarantee_Run.f k t137 t138 t139 t140 t144).bind fun bt172 => ((customsref21_Run.f k t137 t138 t139 t140 t144).bind fun bt182 => ((customsref21_SameGuarantee.f k bt172.1 bt172.2.1 bt172.2.2.1 bt172.2.2.2.1 bt182.1 bt182.2.1 bt182.2.2.1 bt182.2.2.2.1).bind fun t192 => (if t192 = true then ((customslaw23_sameErrors.f k bt172.2.2.2.2 bt182.2.2.2.2).bind fun t193 => (if t193 = true then ((customslaw23_awake.f k).bind fun t194 => (some t194)) else (some false))) else (some false)))))) = some true := H
  have A43 := Aside0.mk A430
  clear A430
  by_cases c44 : (t144.length : Int) > 200
  ·rw [if_pos c44] at H
   have c44b0 : decide (200 < (t144.length : Int)) = true := decide_eq_true c44
   have c44b1 : decide (200 < t144.length) = true := decide_eq_true (by omega)
   clear c44
   replace H := Option.bind_eq_some_iff.mp H
   obtain ⟨t171, A450, H⟩ := H
   replace H : (some t171) = some true := H
   have A45 := Aside0.mk A450
   clear A450
   have HT_ := Option.some.inj H
   clear H
   go_enter Try.func8, Try.ntmps8
   go_wp2_with (first | ((with_reducible refine gate_callee (f := 10) rfl ?_); refine goesL_ (some 16) rfl rfl Try.func10 (by kernel_rfl) rfl #[.slice A0 l0.length c0] rfl argx ?_; (with_reducible refine (customsmade_Guarantee.calls k _ _ l0 t137 t138 t139 t140 _ ?side1 ?side2 A5.out).mono ?_); (case side1 => repeat (first | exact HR0.out | (with_reducible refine Kd.C_alloc ?_ _) | (with_reducible refine Kd.C_drewN ?_ _) | (with_reducible refine Kd.C_drew ?_))); (case side2 => exact HC0.out); rintro e w46 ⟨v141, rfl, ho0, hb⟩; refine ⟨_, rfl, ?_⟩; have qb_ := below_both bel hb; have n0_ := Aside0.mk (Kd.R_lower ho0 qb_.2); have n1_ := Aside0.mk (qb_.1); clear HB; have HO142 := n0_; have HB := n1_; clear qb_; clear n0_ n1_; (try clear hb); (try clear hb2); (try clear hk); (try clear hi); (try clear ho0)) | ((with_reducible refine gate_dst (N := 9) rfl ?_); refine box_event ?hg (N := 9) ?hd (cs := #[.int .i64 0, .int .i64 0, .int .i64 0, .slice none 0 0]) (t := 25) ?hr ?_; (case hd => rfl); (case hg => rfl); (case hr => first | (go_simp; done) | (go_simp; rfl)); intro gb143 hg w47 hbox hb; have qb_ := below_both bel hb; have n0_ := Aside0.mk (Kd.R_below (rowx HO142.out) hb); have n1_ := Aside0.mk (qb_.1); have n2_ := Aside0.mk (hbox); have n4_ := Aside0.mk ((by rw [hg]; exact qb_.2 : w.heap.size ≤ gb143)); clear HO142; clear HB; have HO142 := n0_; have HB := n1_; have BK143 := n2_; have GE143 := n4_; clear qb_; clear n0_ n1_ n2_ n4_; clear hb hbox hg; obtain ⟨hcz48_0, hcz48_1, hcz48_2, hcz48_3, hfz48_0, hfz48_1, hfz48_2, hfz48_3⟩ := cells4 BK143.out; obtain ⟨Ao49, co49, eo49⟩ := Kd.R_slice HO142.out; subst eo49) | ((with_reducible refine gate_callee (f := 26) rfl ?_); refine goesL_ (some 21) rfl rfl Try.func26 (by kernel_rfl) rfl #[.slice A1 l1.length c1] rfl argx ?_; (with_reducible refine (customsmade_GuaranteeSteps.calls k _ _ l1 t144 _ ?side1 ?side2 A43.out).mono ?_); (case side1 => exact Kd.C_below HR1.out bel); (case side2 => exact HC1.out); rintro e w50 ⟨v145, rfl, ho0, hb⟩; refine ⟨_, rfl, ?_⟩; have n1_ := Aside0.mk (Kd.R_lower ho0 (below_size bel)); have n3_ := Aside0.mk (below_step bel hb); (try clear HO142); (try clear BK143); clear HB; have HO146 := n1_; have HB := n3_; clear n1_ n3_; (try clear hb); (try clear hb2); (try clear hk); (try clear hi); (try clear ho0); obtain ⟨Ao51, co51, eo51⟩ := Kd.R_slice HO146.out; subst eo51) | ((with_reducible refine gate_callee (f := 15) rfl ?_); refine goesL_ (some 25) rfl rfl Try.func15 (by kernel_rfl) rfl #[] rfl argx ?_; (with_reducible refine (customslaw23_awake.calls k  t171 _ A45.out).mono ?_); rintro e w52 ⟨rfl, hb⟩; refine ⟨_, rfl, ?_⟩; have n3_ := Aside0.mk (below_step bel hb); (try clear HO142); (try clear HO146); (try clear BK143); clear HB; have HB := n3_; clear n3_; (try clear hb); (try clear hb2); (try clear hk); (try clear hi)))
   go_ret
   exact ⟨by first | rfl | (simp [errW_none, errW_some] <;> rfl) | (simp [*, errW_none, errW_some] <;> rfl), bel⟩
  ·rw [if_neg c44] at H
   have c44b0 : decide (200 < (t144.length : Int)) = false := decide_eq_false c44
   have c44b1 : decide (200 < t144.length) = false := decide_eq_false (by omega)
   clear c44
   replace H := Option.bind_eq_some_iff.mp H
   obtain ⟨⟨t172, t173, t174, t175, t178⟩, A530, H⟩ := H
   replace H : ((customsref21_Run.f k t137 t138 t139 t140 t144).bind fun bt182 => ((customsref21_SameGuarantee.f k t172 t173 t174 t175 bt182.1 bt182.2.1 bt182.2.2.1 bt182.2.2.2.1).bind fun t192 => (if t192 = true then ((customslaw23_sameErrors.f k t178 bt182.2.2.2.2).bind fun t193 => (if t193 = true then ((customslaw23_awake.f k).bind fun t194 => (some t194)) else (some false))) else (some false)))) = some true := H
   have A53 := Aside0.mk A530
   clear A530
   replace H := Option.bind_eq_some_iff.mp H
   obtain ⟨⟨t182, t183, t184, t185, t188⟩, A540, H⟩ := H
   replace H : ((customsref21_SameGuarantee.f k t172 t173 t174 t175 t182 t183 t184 t185).bind fun t192 => (if t192 = true then ((customslaw23_sameErrors.f k t178 t188).bind fun t193 => (if t193 = true then ((customslaw23_awake.f k).bind fun t194 => (some t194)) else (some false))) else (some false))) = some true := H
   have A54 := Aside0.mk A540
   clear A540
   replace H := Option.bind_eq_some_iff.mp H
   obtain ⟨t192, A550, H⟩ := H
   replace H : (if t192 = true then ((customslaw23_sameErrors.f k t178 t188).bind fun t193 => (if t193 = true then ((customslaw23_awake.f k).bind fun t194 => (some t194)) else (some false))) else (some false)) = some true := H
   have A55 := Aside0.mk A550
   clear A550
   by_cases c56 : t192 = true
   ·subst c56
    have H1 : ((customslaw23_sameErrors.f k t178 t188).bind fun t193 => (if t193 = true then ((customslaw23_awake.f k).bind fun t194 => (some t194)) else (some false))) = some true := by rw [if_pos rfl] at H; exact H
    clear H
    have H := H1
    clear H1
    replace H := Option.bind_eq_some_iff.mp H
    obtain ⟨t193, A570, H⟩ := H
    replace H : (if t193 = true then ((customslaw23_awake.f k).bind fun t194 => (some t194)) else (some false)) = some true := H
    have A57 := Aside0.mk A570
    clear A570
    by_cases c58 : t193 = true
    ·subst c58
     have H1 : ((customslaw23_awake.f k).bind fun t194 => (some t194)) = some true := by rw [if_pos rfl] at H; exact H
     clear H
     have H := H1
     clear H1
     replace H := Option.bind_eq_some_iff.mp H
     obtain ⟨t194, A590, H⟩ := H
     replace H : (some t194) = some true := H
     have A59 := Aside0.mk A590
     clear A590
     have HT_ := Option.some.inj H
     clear H
     go_enter Try.func8, Try.ntmps8
     go_wp2_with (first | ((with_reducible refine gate_callee (f := 10) rfl ?_); refine goesL_ (some 16) rfl rfl Try.func10 (by kernel_rfl) rfl #[.slice A0 l0.length c0] rfl argx ?_; (with_reducible refine (customsmade_Guarantee.calls k _ _ l0 t137 t138 t139 t140 _ ?side1 ?side2 A5.out).mono ?_); (case side1 => repeat (first | exact HR0.out | (with_reducible refine Kd.C_alloc ?_ _) | (with_reducible refine Kd.C_drewN ?_ _) | (with_reducible refine Kd.C_drew ?_))); (case side2 => exact HC0.out); rintro e w60 ⟨v141, rfl, ho0, hb⟩; refine ⟨_, rfl, ?_⟩; have qb_ := below_both bel hb; have n0_ := Aside0.mk (Kd.R_lower ho0 qb_.2); have n1_ := Aside0.mk (qb_.1); clear HB; have HO142 := n0_; have HB := n1_; clear qb_; clear n0_ n1_; (try clear hb); (try clear hb2); (try clear hk); (try clear hi); (try clear ho0)) | ((with_reducible refine gate_dst (N := 9) rfl ?_); refine box_event ?hg (N := 9) ?hd (cs := #[.int .i64 0, .int .i64 0, .int .i64 0, .slice none 0 0]) (t := 25) ?hr ?_; (case hd => rfl); (case hg => rfl); (case hr => first | (go_simp; done) | (go_simp; rfl)); intro gb143 hg w61 hbox hb; have qb_ := below_both bel hb; have n0_ := Aside0.mk (Kd.R_below (rowx HO142.out) hb); have n1_ := Aside0.mk (qb_.1); have n2_ := Aside0.mk (hbox); have n4_ := Aside0.mk ((by rw [hg]; exact qb_.2 : w.heap.size ≤ gb143)); clear HO142; clear HB; have HO142 := n0_; have HB := n1_; have BK143 := n2_; have GE143 := n4_; clear qb_; clear n0_ n1_ n2_ n4_; clear hb hbox hg; obtain ⟨hcz62_0, hcz62_1, hcz62_2, hcz62_3, hfz62_0, hfz62_1, hfz62_2, hfz62_3⟩ := cells4 BK143.out; obtain ⟨Ao63, co63, eo63⟩ := Kd.R_slice HO142.out; subst eo63) | ((with_reducible refine gate_callee (f := 26) rfl ?_); refine goesL_ (some 21) rfl rfl Try.func26 (by kernel_rfl) rfl #[.slice A1 l1.length c1] rfl argx ?_; (with_reducible refine (customsmade_GuaranteeSteps.calls k _ _ l1 t144 _ ?side1 ?side2 A43.out).mono ?_); (case side1 => exact Kd.C_below HR1.out bel); (case side2 => exact HC1.out); rintro e w64 ⟨v145, rfl, ho0, hb⟩; refine ⟨_, rfl, ?_⟩; have qb_ := below_both bel hb; have n0_ := Aside0.mk (Kd.R_below (by (with_reducible repeat (first | apply Kd.R_alloc | apply Kd.R_drewN | apply Kd.R_drew)); exact (Kd.R_mono (Kd.R_far (p := ⟨gb143, 3, none⟩) (Kd.R_far (p := ⟨gb143, 2, none⟩) (Kd.R_far (p := ⟨gb143, 1, none⟩) (Kd.R_far (p := ⟨gb143, 0, none⟩) (Kd.R_types HO142.out BK143.out (by decide)) (fun _ hk => hk.2) (.int .i64 t137)) (fun _ hk => hk.2) (.int .i64 t138)) (fun _ hk => hk.2) (.int .i64 t139)) (fun _ hk => hk.2) (.slice Ao63 t140.length co63)) (fun _ h_ => h_.1))) hb); have n1_ := Aside0.mk (Kd.R_lower ho0 qb_.2); have n2_ := Aside0.mk (blk_below (g := gb143) (o := .cells #[.int .i64 t137, .int .i64 t138, .int .i64 t139, .slice Ao63 t140.length co63] 25 (0, 0)) (by (with_reducible repeat (first | refine blk_drewN ?_ _ | refine blk_drew ?_ | refine blk_alloc ?_ _)); refine blk_put (cs := #[.int .i64 t137, .int .i64 t138, .int .i64 t139, .slice none 0 0]) ?_ 3 _ rfl; refine blk_put (cs := #[.int .i64 t137, .int .i64 t138, .int .i64 0, .slice none 0 0]) ?_ 2 _ rfl; refine blk_put (cs := #[.int .i64 t137, .int .i64 0, .int .i64 0, .slice none 0 0]) ?_ 1 _ rfl; refine blk_put (cs := #[.int .i64 0, .int .i64 0, .int .i64 0, .slice none 0 0]) ?_ 0 _ rfl; (with_reducible repeat (first | refine blk_drewN ?_ _ | refine blk_drew ?_ | refine blk_alloc ?_ _)); exact BK143.out) hb); have n3_ := Aside0.mk (qb_.1); clear HO142; clear BK143; clear HB; have HO142 := n0_; have HO146 := n1_; have BK143 := n2_; have HB := n3_; clear qb_; clear n0_ n1_ n2_ n3_; (try clear hb); (try clear hb2); (try clear hk); (try clear hi); (try clear ho0); obtain ⟨Ao65, co65, eo65⟩ := Kd.R_slice HO146.out; subst eo65; obtain ⟨hcz66_0, hcz66_1, hcz66_2, hcz66_3, hfz66_0, hfz66_1, hfz66_2, hfz66_3⟩ := cells4 BK143.out) | ((with_reducible refine gate_callee (f := 27) rfl ?_); refine goesL_ (some 29) rfl rfl Try.func27 (by kernel_rfl) rfl #[.agg #[.int .i64 t137, .int .i64 t138, .int .i64 t139, .slice Ao63 t140.length co63], .slice Ao65 t144.length co65] rfl argx ?_; (with_reducible refine (guarantee_Run.calls k t137 t138 t139 _ _ t140 _ _ t144 t172 t173 t174 t175 t178 _ ?side1 ?side2 ?side3 ?side4 A53.out).mono ?_); (case side1 => repeat (first | exact (Kd.R_reads' HO142.out).2.2 | (with_reducible refine Kd.C_alloc ?_ _) | (with_reducible refine Kd.C_drewN ?_ _) | (with_reducible refine Kd.C_drew ?_))); (case side2 => exact (Kd.R_reads' HO142.out).2.1); (case side3 => repeat (first | exact (Kd.R_reads' HO146.out).2.2 | (with_reducible refine Kd.C_alloc ?_ _) | (with_reducible refine Kd.C_drewN ?_ _) | (with_reducible refine Kd.C_drew ?_))); (case side4 => exact (Kd.R_reads' HO146.out).2.1); rintro e w67 ⟨v176, v179, rfl, ho0, ho1, hb⟩; refine ⟨_, rfl, ?_⟩; have qb_ := below_both bel hb; have q1_ := Kd.R_elder2 (rowx HO142.out) (Kd.R_base ho0) hb; have n0_ := Aside0.mk (q1_.1); have n1_ := Aside0.mk (Kd.R_below (rowx HO146.out) hb); have n2_ := Aside0.mk (Kd.R_lower (Kd.R_new' ho0 q1_.2) qb_.2); have n3_ := Aside0.mk (Kd.R_lower ho1 qb_.2); have n4_ := Aside0.mk (blk_below (g := gb143) (o := .cells #[.int .i64 t137, .int .i64 t138, .int .i64 t139, .slice Ao63 t140.length co63] 25 (0, 0)) blkx hb); have n5_ := Aside0.mk (qb_.1); clear HO142; clear HO146; clear BK143; clear HB; have HO142 := n0_; have HO146 := n1_; have HO177 := n2_; have HO180 := n3_; have BK143 := n4_; have HB := n5_; clear q1_; clear qb_; clear n0_ n1_ n2_ n3_ n4_ n5_; (try clear hb); (try clear hb2); (try clear hk); (try clear hi); (try clear ho0); (try clear ho1)) | ((with_reducible refine gate_dst (N := 11) rfl ?_); refine box_event ?hg (N := 11) ?hd (cs := #[.int .i64 0, .int .i64 0, .int .i64 0, .slice none 0 0]) (t := 25) ?hr ?_; (case hd => rfl); (case hg => rfl); (case hr => first | (go_simp; done) | (go_simp; rfl)); intro gb181 hg w68 hbox hb; have qb_ := below_both bel hb; have n0_ := Aside0.mk (Kd.R_below (rowx HO142.out) hb); have n1_ := Aside0.mk (Kd.R_below (rowx HO146.out) hb); have n2_ := Aside0.mk (Kd.R_below (rowx HO177.out) hb); have n3_ := Aside0.mk (Kd.R_below (rowx HO180.out) hb); have q1_ := blk_below2 (g := gb143) (o := .cells #[.int .i64 t137, .int .i64 t138, .int .i64 t139, .slice Ao63 t140.length co63] 25 (0, 0)) blkx hb; have n4_ := Aside0.mk (q1_.1); have n5_ := Aside0.mk (qb_.1); have n6_ := Aside0.mk (hbox); have n8_ := Aside0.mk ((by rw [hg]; exact qb_.2 : w.heap.size ≤ gb181)); have n9_ := Aside0.mk ((by rw [hg]; exact Nat.ne_of_lt q1_.2 : gb143 ≠ gb181)); have n10_ := Aside0.mk (Ne.symm n9_.out); clear HO142; clear HO146; clear HO177; clear HO180; clear BK143; clear HB; have HO142 := n0_; have HO146 := n1_; have HO177 := n2_; have HO180 := n3_; have BK143 := n4_; have HB := n5_; have BK181 := n6_; have GE181 := n8_; have NB143_181 := n9_; have NB181_143 := n10_; clear q1_; clear qb_; clear n0_ n1_ n2_ n3_ n4_ n5_ n6_ n8_ n9_ n10_; clear hb hbox hg; have hnb69 := NB181_143.out; have hnc69 := NB143_181.out; obtain ⟨hcz70_0, hcz70_1, hcz70_2, hcz70_3, hfz70_0, hfz70_1, hfz70_2, hfz70_3⟩ := cells4 BK181.out; obtain ⟨Ao71, co71, eo71⟩ := Kd.R_slice HO177.out; subst eo71) | ((with_reducible refine gate_store (t := 25) (p := 11) rfl ?_); refine store_event (t := 25) (p := 11) (v := ?vo_w72) (w1 := ((((w68.setCell ⟨gb181, 0, none⟩ (.int .i64 t172)).setCell ⟨gb181, 1, none⟩ (.int .i64 t173)).setCell ⟨gb181, 2, none⟩ (.int .i64 t174)).setCell ⟨gb181, 3, none⟩ (.slice Ao71 t175.length co71))) ?hg ?ho ?hn ?hr ?_; (case ho => rfl); (case hg => rfl); (case hn => rfl); (case hr => first | (go_simp; done) | (go_simp; rfl)); intro w72 hw; have n0_ : Aside0 (Kd.R k39 39 w72 w.heap.size (fun k_ => some k_ ≠ (.slice Ao71 t175.length co71 : Value).ownBlock) (.slice Ao63 t140.length co63) t140) := ⟨(by rw [hw]; exact (by (with_reducible repeat (first | apply Kd.R_alloc | apply Kd.R_drewN | apply Kd.R_drew)); exact Kd.R_mono (Kd.R_far (p := ⟨gb181, 3, none⟩) (Kd.R_far (p := ⟨gb181, 2, none⟩) (Kd.R_far (p := ⟨gb181, 1, none⟩) (Kd.R_far (p := ⟨gb181, 0, none⟩) (Kd.R_types HO142.out BK181.out (by decide)) (fun _ hk => hk.2) (.int .i64 t172)) (fun _ hk => hk.2) (.int .i64 t173)) (fun _ hk => hk.2) (.int .i64 t174)) (fun _ hk => hk.2) (.slice Ao71 t175.length co71)) (fun _ hk => hk.1.2)))⟩; have n1_ : Aside0 (Kd.R k74 74 w72 w.heap.size (fun _ => True) (.slice Ao65 t144.length co65) t144) := ⟨(by rw [hw]; exact (by (with_reducible repeat (first | apply Kd.R_alloc | apply Kd.R_drewN | apply Kd.R_drew)); exact Kd.R_mono (Kd.R_far (p := ⟨gb181, 3, none⟩) (Kd.R_far (p := ⟨gb181, 2, none⟩) (Kd.R_far (p := ⟨gb181, 1, none⟩) (Kd.R_far (p := ⟨gb181, 0, none⟩) (Kd.R_types HO146.out BK181.out (by decide)) (fun _ hk => hk.2) (.int .i64 t172)) (fun _ hk => hk.2) (.int .i64 t173)) (fun _ hk => hk.2) (.int .i64 t174)) (fun _ hk => hk.2) (.slice Ao71 t175.length co71)) (fun _ hk => trivial)))⟩; have n2_ : Aside0 (Kd.R k39 39 w72 w.heap.size (fun k_ => some k_ ≠ (.slice Ao63 t140.length co63 : Value).ownBlock) (.slice Ao71 t175.length co71) t175) := ⟨(by rw [hw]; exact (by (with_reducible repeat (first | apply Kd.R_alloc | apply Kd.R_drewN | apply Kd.R_drew)); exact Kd.R_mono (Kd.R_far (p := ⟨gb181, 3, none⟩) (Kd.R_far (p := ⟨gb181, 2, none⟩) (Kd.R_far (p := ⟨gb181, 1, none⟩) (Kd.R_far (p := ⟨gb181, 0, none⟩) (Kd.R_types HO177.out BK181.out (by decide)) (fun _ hk => hk.2) (.int .i64 t172)) (fun _ hk => hk.2) (.int .i64 t173)) (fun _ hk => hk.2) (.int .i64 t174)) (fun _ hk => hk.2) (.slice Ao71 t175.length co71)) (fun _ hk => hk.1.2)))⟩; have n3_ : Aside0 (Kd.R (Kd.int .i64) 27 w72 w.heap.size (fun _ => True) v179 t178) := ⟨(by rw [hw]; exact (by (with_reducible repeat (first | apply Kd.R_alloc | apply Kd.R_drewN | apply Kd.R_drew)); exact Kd.R_mono (Kd.R_far (p := ⟨gb181, 3, none⟩) (Kd.R_far (p := ⟨gb181, 2, none⟩) (Kd.R_far (p := ⟨gb181, 1, none⟩) (Kd.R_far (p := ⟨gb181, 0, none⟩) (Kd.R_types HO180.out BK181.out (by decide)) (fun _ hk => hk.2) (.int .i64 t172)) (fun _ hk => hk.2) (.int .i64 t173)) (fun _ hk => hk.2) (.int .i64 t174)) (fun _ hk => hk.2) (.slice Ao71 t175.length co71)) (fun _ hk => trivial)))⟩; have n4_ : Aside0 (w72.heap[gb143]? = some (.cells #[.int .i64 t137, .int .i64 t138, .int .i64 t139, .slice Ao63 t140.length co63] 25 (0, 0))) := ⟨(by rw [hw]; exact blkx)⟩; have n5_ : Aside0 (w72.heap[gb181]? = some (.cells #[.int .i64 t172, .int .i64 t173, .int .i64 t174, .slice Ao71 t175.length co71] 25 (0, 0))) := ⟨(by rw [hw]; exact (by (with_reducible repeat (first | refine blk_drewN ?_ _ | refine blk_drew ?_ | refine blk_alloc ?_ _)); refine blk_put (cs := #[.int .i64 t172, .int .i64 t173, .int .i64 t174, .slice none 0 0]) ?_ 3 _ rfl; refine blk_put (cs := #[.int .i64 t172, .int .i64 t173, .int .i64 0, .slice none 0 0]) ?_ 2 _ rfl; refine blk_put (cs := #[.int .i64 t172, .int .i64 0, .int .i64 0, .slice none 0 0]) ?_ 1 _ rfl; refine blk_put (cs := #[.int .i64 0, .int .i64 0, .int .i64 0, .slice none 0 0]) ?_ 0 _ rfl; (with_reducible repeat (first | refine blk_drewN ?_ _ | refine blk_drew ?_ | refine blk_alloc ?_ _)); exact BK181.out))⟩; have n6_ : Aside0 (Below w.heap.size w w72) := ⟨(by rw [hw]; exact bel)⟩; clear hw; clear HO142; clear HO146; clear HO177; clear HO180; clear BK143; clear BK181; clear HB; have HO142 := n0_; have HO146 := n1_; have HO177 := n2_; have HO180 := n3_; have BK143 := n4_; have BK181 := n5_; have HB := n6_; clear n0_ n1_ n2_ n3_ n4_ n5_ n6_; obtain ⟨hcz73_0, hcz73_1, hcz73_2, hcz73_3, hfz73_0, hfz73_1, hfz73_2, hfz73_3⟩ := cells4 BK143.out) | ((with_reducible refine gate_callee (f := 28) rfl ?_); refine goesL_ (some 35) rfl rfl Try.func28 (by kernel_rfl) rfl #[.agg #[.int .i64 t137, .int .i64 t138, .int .i64 t139, .slice Ao63 t140.length co63], .slice Ao65 t144.length co65] rfl argx ?_; (with_reducible refine (customsref21_Run.calls k t137 t138 t139 (fun k_ => some k_ = (.slice Ao63 t140.length co63 : Value).ownBlock) _ _ t140 _ _ t144 t182 t183 t184 t185 t188 _ ?side1 ?side2 ?side3 A54.out).mono ?_); (case side1 => exact Kd.R_V (Kd.R_tight rfl (Kd.R_types (Kd.R_types (Kd.R_apart' (Kd.R_apart' (HO142.out) (Kd.R_typed HO146.out) (by decide)) (Kd.R_typed HO180.out) (by decide)) BK143.out (by decide)) BK181.out (by decide)))); (case side2 => repeat (first | exact (Kd.R_reads' HO146.out).2.2 | (with_reducible refine Kd.C_alloc ?_ _) | (with_reducible refine Kd.C_drewN ?_ _) | (with_reducible refine Kd.C_drew ?_))); (case side3 => exact (Kd.R_reads' HO146.out).2.1); rintro e w74 ⟨v186, v189, rfl, ho0, ho1, hb⟩; refine ⟨_, rfl, ?_⟩; have n2_ := Aside0.mk (Kd.R_below (rowx HO177.out) hb); have n3_ := Aside0.mk (Kd.R_elder' (rowx HO180.out) (Kd.R_base ho1) hb); have n4_ := Aside0.mk (Kd.V_lower (Kd.V_mono (ok' := fun k_ => some k_ ≠ (v189 : Value).ownBlock ∧ some k_ ≠ (.slice Ao65 t144.length co65 : Value).ownBlock ∧ some k_ ≠ (.slice Ao71 t175.length co71 : Value).ownBlock ∧ some k_ ≠ (v179 : Value).ownBlock ∧ k_ ≠ gb143 ∧ k_ ≠ gb181) ho0 (fun k_ hk_ => ⟨hk_.2, Or.elim hk_.1 (fun hs_ => ((Kd.R_types (Kd.R_types (Kd.R_apart' (Kd.R_apart' (HO142.out) (Kd.R_typed HO146.out) (by decide)) (Kd.R_typed HO180.out) (by decide)) BK143.out (by decide)) BK181.out (by decide)).1 k_ hs_.symm).1.1.1.2) (fun hn_ => (Kd.fresh' (Kd.R_lt (rowx HO146.out)) k_ hn_)), Or.elim hk_.1 (fun hs_ => ((Kd.R_types (Kd.R_types (Kd.R_apart' (Kd.R_apart' (HO142.out) (Kd.R_typed HO146.out) (by decide)) (Kd.R_typed HO180.out) (by decide)) BK143.out (by decide)) BK181.out (by decide)).1 k_ hs_.symm).1.1.1.1) (fun hn_ => (Kd.fresh' (Kd.R_lt (rowx HO177.out)) k_ hn_)), Or.elim hk_.1 (fun hs_ => ((Kd.R_types (Kd.R_types (Kd.R_apart' (Kd.R_apart' (HO142.out) (Kd.R_typed HO146.out) (by decide)) (Kd.R_typed HO180.out) (by decide)) BK143.out (by decide)) BK181.out (by decide)).1 k_ hs_.symm).1.1.2) (fun hn_ => (Kd.fresh' (Kd.R_lt (rowx HO180.out)) k_ hn_)), Or.elim hk_.1 (fun hs_ => ((Kd.R_types (Kd.R_types (Kd.R_apart' (Kd.R_apart' (HO142.out) (Kd.R_typed HO146.out) (by decide)) (Kd.R_typed HO180.out) (by decide)) BK143.out (by decide)) BK181.out (by decide)).1 k_ hs_.symm).1.2) (fun hn_ => (Kd.freshB (g := gb143) (o := .cells #[.int .i64 t137, .int .i64 t138, .int .i64 t139, .slice Ao63 t140.length co63] 25 (0, 0)) blkx k_ hn_)), Or.elim hk_.1 (fun hs_ => ((Kd.R_types (Kd.R_types (Kd.R_apart' (Kd.R_apart' (HO142.out) (Kd.R_typed HO146.out) (by decide)) (Kd.R_typed HO180.out) (by decide)) BK143.out (by decide)) BK181.out (by decide)).1 k_ hs_.symm).2) (fun hn_ => (Kd.freshB (g := gb181) (o := .cells #[.int .i64 t172, .int .i64 t173, .int .i64 t174, .slice Ao71 t175.length co71] 25 (0, 0)) blkx k_ hn_))⟩)) (below_size bel)); have n5_ := Aside0.mk (Kd.R_lower (Kd.R_new' (Kd.R_mono (ok' := fun k_ => True) ho1 (fun _ hk_ => trivial)) (Kd.R_lt (rowx HO180.out))) (below_size bel)); have n6_ := Aside0.mk (blk_below (g := gb143) (o := .cells #[.int .i64 t137, .int .i64 t138, .int .i64 t139, .slice Ao63 t140.length co63] 25 (0, 0)) blkx hb); have n7_ := Aside0.mk (blk_below (g := gb181) (o := .cells #[.int .i64 t172, .int .i64 t173, .int .i64 t174, .slice Ao71 t175.length co71] 25 (0, 0)) blkx hb); have n8_ := Aside0.mk (below_step bel hb); (try clear HO142); (try clear HO146); clear HO177; clear HO180; clear BK143; clear BK181; clear HB; have HO177 := n2_; have HO180 := n3_; have HO187 := n4_; have HO190 := n5_; have BK143 := n6_; have BK181 := n7_; have HB := n8_; clear n2_ n3_ n4_ n5_ n6_ n7_ n8_; (try clear hb); (try clear hb2); (try clear hk); (try clear hi); (try clear ho0); (try clear ho1)) | ((with_reducible refine gate_dst (N := 13) rfl ?_); refine box_event ?hg (N := 13) ?hd (cs := #[.int .i64 0, .int .i64 0, .int .i64 0, .slice none 0 0]) (t := 25) ?hr ?_; (case hd => rfl); (case hg => rfl); (case hr => first | (go_simp; done) | (go_simp; rfl)); intro gb191 hg w75 hbox hb; have n2_ := Aside0.mk (Kd.R_below (rowx HO177.out) hb); have n3_ := Aside0.mk (Kd.R_below (rowx HO180.out) hb); have n4_ := Aside0.mk (Kd.V_below (Kd.V_elderB (by (with_reducible repeat (first | apply Kd.V_alloc | apply Kd.V_drewN | apply Kd.V_drew)); exact HO187.out) gb191 (Nat.le_of_eq hg.symm)) hb); have n5_ := Aside0.mk (Kd.R_below (rowx HO190.out) hb); have n7_ := Aside0.mk (blk_below (g := gb181) (o := .cells #[.int .i64 t172, .int .i64 t173, .int .i64 t174, .slice Ao71 t175.length co71] 25 (0, 0)) blkx hb); have n8_ := Aside0.mk (below_step bel hb); have n9_ := Aside0.mk (hbox); have n11_ := Aside0.mk ((by rw [hg]; exact (below_size bel) : w.heap.size ≤ gb191)); have n12_ := Aside0.mk ((by rw [hg]; exact Nat.ne_of_lt (blk_lt (g := gb143) (o := .cells #[.int .i64 t137, .int .i64 t138, .int .i64 t139, .slice Ao63 t140.length co63] 25 (0, 0)) blkx) : gb143 ≠ gb191)); have n13_ := Aside0.mk ((by rw [hg]; exact Nat.ne_of_gt (blk_lt (g := gb143) (o := .cells #[.int .i64 t137, .int .i64 t138, .int .i64 t139, .slice Ao63 t140.length co63] 25 (0, 0)) blkx) : gb191 ≠ gb143)); have n14_ := Aside0.mk ((by rw [hg]; exact Nat.ne_of_lt (blk_lt (g := gb181) (o := .cells #[.int .i64 t172, .int .i64 t173, .int .i64 t174, .slice Ao71 t175.length co71] 25 (0, 0)) blkx) : gb181 ≠ gb191)); have n15_ := Aside0.mk ((by rw [hg]; exact Nat.ne_of_gt (blk_lt (g := gb181) (o := .cells #[.int .i64 t172, .int .i64 t173, .int .i64 t174, .slice Ao71 t175.length co71] 25 (0, 0)) blkx) : gb191 ≠ gb181)); (try clear HO142); (try clear HO146); clear HO177; clear HO180; clear HO187; clear HO190; (try clear BK143); clear BK181; clear HB; have HO177 := n2_; have HO180 := n3_; have HO187 := n4_; have HO190 := n5_; have BK181 := n7_; have HB := n8_; have BK191 := n9_; have GE191 := n11_; have NB143_191 := n12_; have NB191_143 := n13_; have NB181_191 := n14_; have NB191_181 := n15_; clear n2_ n3_ n4_ n5_ n7_ n8_ n9_ n11_ n12_ n13_ n14_ n15_; clear hb hbox hg; have hnb76 := NB191_143.out; have hnc76 := NB143_191.out; have hnb77 := NB191_181.out; have hnc77 := NB181_191.out; obtain ⟨hcz78_0, hcz78_1, hcz78_2, hcz78_3, hfz78_0, hfz78_1, hfz78_2, hfz78_3⟩ := cells4 BK191.out; obtain ⟨Ao79, co79, eo79⟩ := Kd.V_slice HO187.out; subst eo79; obtain ⟨hcz80_0, hcz80_1, hcz80_2, hcz80_3, hfz80_0, hfz80_1, hfz80_2, hfz80_3⟩ := cells4 BK181.out) | ((with_reducible refine gate_callee (f := 21) rfl ?_); refine goesL_ (some 40) rfl rfl Try.func21 (by kernel_rfl) rfl #[.agg #[.int .i64 t172, .int .i64 t173, .int .i64 t174, .slice Ao71 t175.length co71], .agg #[.int .i64 t182, .int .i64 t183, .int .i64 t184, .slice Ao79 t185.length co79]] rfl argx ?_; (with_reducible refine (customsref21_SameGuarantee.calls k t172 t173 t174 _ _ t175 t182 t183 t184 _ _ t185 true _ ?side1 ?side2 ?side3 ?side4 A55.out).mono ?_); (case side1 => refine (Kd.R_reads' (e := 39) (base := w.heap.size) (ok := fun k_ => some k_ ≠ (.slice Ao63 t140.length co63 : Value).ownBlock) (n := t175.length) (c := co71) ?_).2.2; exact (by (with_reducible repeat (first | apply Kd.R_alloc | apply Kd.R_drewN | apply Kd.R_drew)); exact (Kd.R_mono (Kd.R_far (p := ⟨gb191, 3, none⟩) (Kd.R_far (p := ⟨gb191, 2, none⟩) (Kd.R_far (p := ⟨gb191, 1, none⟩) (Kd.R_far (p := ⟨gb191, 0, none⟩) (Kd.R_types HO177.out BK191.out (by decide)) (fun _ hk => hk.2) (.int .i64 t182)) (fun _ hk => hk.2) (.int .i64 t183)) (fun _ hk => hk.2) (.int .i64 t184)) (fun _ hk => hk.2) (.slice Ao79 t185.length co79)) (fun _ h_ => h_.1)))); (case side2 => exact (Kd.R_reads' HO177.out).2.1); (case side3 => refine (Kd.V_reads' (e := 39) (base := w.heap.size) (ok := fun k_ => ((some k_ ≠ (v189 : Value).ownBlock ∧ (some k_ ≠ (.slice Ao65 t144.length co65 : Value).ownBlock ∧ (some k_ ≠ (.slice Ao71 t175.length co71 : Value).ownBlock ∧ (some k_ ≠ (v179 : Value).ownBlock ∧ (k_ ≠ gb143 ∧ k_ ≠ gb181))))) ∧ k_ ≠ gb191)) (n := t185.length) (c := co79) ?_).2.2; exact (by (with_reducible repeat (first | apply Kd.V_alloc | apply Kd.V_drewN | apply Kd.V_drew)); exact (Kd.V_mono (Kd.V_far (p := ⟨gb191, 3, none⟩) (Kd.V_far (p := ⟨gb191, 2, none⟩) (Kd.V_far (p := ⟨gb191, 1, none⟩) (Kd.V_far (p := ⟨gb191, 0, none⟩) (Kd.V_mono HO187.out (fun k_ hk => (⟨hk, hk.2⟩ : _ ∧ k_ ≠ gb191))) (fun _ hk => hk.2) (.int .i64 t182)) (fun _ hk => hk.2) (.int .i64 t183)) (fun _ hk => hk.2) (.int .i64 t184)) (fun _ hk => hk.2) (.slice Ao79 t185.length co79)) (fun _ h_ => h_.1)))); (case side4 => exact (Kd.V_reads' HO187.out).2.1); rintro e w81 ⟨rfl, hb⟩; refine ⟨_, rfl, ?_⟩; have n3_ := Aside0.mk (Kd.R_below (by (with_reducible repeat (first | apply Kd.R_alloc | apply Kd.R_drewN | apply Kd.R_drew)); exact (Kd.R_mono (Kd.R_far (p := ⟨gb191, 3, none⟩) (Kd.R_far (p := ⟨gb191, 2, none⟩) (Kd.R_far (p := ⟨gb191, 1, none⟩) (Kd.R_far (p := ⟨gb191, 0, none⟩) (Kd.R_types HO180.out BK191.out (by decide)) (fun _ hk => hk.2) (.int .i64 t182)) (fun _ hk => hk.2) (.int .i64 t183)) (fun _ hk => hk.2) (.int .i64 t184)) (fun _ hk => hk.2) (.slice Ao79 t185.length co79)) (fun _ h_ => h_.1))) hb); have n5_ := Aside0.mk (Kd.R_below (by (with_reducible repeat (first | apply Kd.R_alloc | apply Kd.R_drewN | apply Kd.R_drew)); exact (Kd.R_mono (Kd.R_far (p := ⟨gb191, 3, none⟩) (Kd.R_far (p := ⟨gb191, 2, none⟩) (Kd.R_far (p := ⟨gb191, 1, none⟩) (Kd.R_far (p := ⟨gb191, 0, none⟩) (Kd.R_types HO190.out BK191.out (by decide)) (fun _ hk => hk.2) (.int .i64 t182)) (fun _ hk => hk.2) (.int .i64 t183)) (fun _ hk => hk.2) (.int .i64 t184)) (fun _ hk => hk.2) (.slice Ao79 t185.length co79)) (fun _ h_ => h_.1))) hb); have n9_ := Aside0.mk (below_step bel hb); (try clear HO142); (try clear HO146); (try clear HO177); clear HO180; (try clear HO187); clear HO190; (try clear BK143); (try clear BK181); (try clear BK191); clear HB; have HO180 := n3_; have HO190 := n5_; have HB := n9_; clear n3_ n5_ n9_; (try clear hb); (try clear hb2); (try clear hk); (try clear hi); obtain ⟨Ao82, co82, eo82⟩ := Kd.R_slice HO180.out; subst eo82; obtain ⟨Ao83, co83, eo83⟩ := Kd.R_slice HO190.out; subst eo83) | (go_at_call 29; (with_reducible refine (customslaw23_sameErrors.calls k _ _ t178 _ _ t188 true _ ?side1 ?side2 ?side3 ?side4 A57.out).mono ?_); (case side1 => repeat (first | exact (Kd.R_reads' HO180.out).2.2 | (with_reducible refine Kd.C_alloc ?_ _) | (with_reducible refine Kd.C_drewN ?_ _) | (with_reducible refine Kd.C_drew ?_))); (case side2 => exact (Kd.R_reads' HO180.out).2.1); (case side3 => repeat (first | exact (Kd.R_reads' HO190.out).2.2 | (with_reducible refine Kd.C_alloc ?_ _) | (with_reducible refine Kd.C_drewN ?_ _) | (with_reducible refine Kd.C_drew ?_))); (case side4 => exact (Kd.R_reads' HO190.out).2.1); rintro e w' ⟨rfl, ⟨nd, rfl⟩⟩) | (go_at_call 15; (with_reducible refine (customslaw23_awake.calls k  t194 _ A59.out).mono ?_); rintro e w84 ⟨rfl, hb⟩; have n9_ := Aside0.mk (below_step bel hb); (try clear HO142); (try clear HO146); (try clear HO177); (try clear HO180); (try clear HO187); (try clear HO190); (try clear BK143); (try clear BK181); (try clear BK191); clear HB; have HB := n9_; clear n9_; (try clear hb); (try clear hb2); (try clear hk); (try clear hi)))
     go_ret
     exact ⟨by first | rfl | (simp [errW_none, errW_some] <;> rfl) | (simp [*, errW_none, errW_some] <;> rfl), bel⟩
    ·replace c58 := Bool.eq_false_iff.mpr c58
     subst c58
     have H1 : (some false) = some true := by rw [if_neg (show ¬ (false = true) by decide)] at H; exact H
     clear H
     have H := H1
     clear H1
     cases H
   ·replace c56 := Bool.eq_false_iff.mpr c56
    subst c56
    have H1 : (some false) = some true := by rw [if_neg (show ¬ (false = true) by decide)] at H; exact H
    clear H
    have H := H1
    clear H1
    cases H
end Go.Proofs.Ytakhjhiofmgpnaa.PD
/- The law GuaranteeRun in plain Lean. -/
namespace Go.Proofs.Ytakhjhiofmgpnaa.E
set_option linter.unusedVariables false
set_option linter.unusedSimpArgs false
open Go.RowKit Go.Proofs.YtakhjhiofmgpnaaW.PrintWords Go.Proofs.YtakhjhiofmgpnaaW.PrintLast Go.Proofs.YtakhjhiofmgpnaaW.PrintMore Go.Proofs.Ytakhjhiofmgpnaa.G Go.Proofs.Ytakhjhiofmgpnaa.PA Go.Proofs.Ytakhjhiofmgpnaa.PB Go.Proofs.Ytakhjhiofmgpnaa.PC Go.Proofs.Ytakhjhiofmgpnaa.PE Go.Proofs.Ytakhjhiofmgpnaa.PD
theorem both_ev (s : List S74) (hs : ∀ j, j < s.length → isI64 (sat s j).f1) (hl : s.length ≤ 1000) :
    ∀ (r i : Nat) (a b c : Int) (u : List S39) (es : List Int), i + r = s.length → vf a b c u = 0 → es.length = i →
      ∃ x y z v fs, Ev (fun k => guarantee_Run.l0 k es s (s.length : Int) (i : Int) a b c u) (x, y, z, v, fs) ∧ Ev (fun k => customsref21_Run.l0 k s es (i : Int) a b c u) (x, y, z, v, fs) ∧ vf x y z v = 0 ∧ fs.length = s.length := by
  intro r
  induction r with
  | zero =>
    intro i a b c u es hi hv he
    refine ⟨a, b, c, u, es, evShift ?_, evShift ?_, hv, by omega⟩
    · simp only [guarantee_Run.l0]
      exact evNeg (by omega) (evNow rfl)
    · simp only [customsref21_Run.l0]
      exact evNeg (by omega) (evNow rfl)
  | succ r ih =>
    intro i a b c u es hi hv he
    obtain ⟨x, y, z, v, e, hd⟩ := did hv (sat s i) (hs i (by omega))
    have e2 : wrap64 ((i : Int) + 1) = ((i + 1 : Nat) : Int) := by rw [wrap64_id (by omega) (by omega)]; omega
    obtain ⟨x', y', z', v', fs, g1, g2, g3, g4⟩ := ih (i + 1) (if e = 0 then x else a) (if e = 0 then y else b) (if e = 0 then z else c) (if e = 0 then v else u) (es ++ [e]) (by omega)
      (by split
          · exact hd.ok (by assumption)
          · exact hv) (by simp; omega)
    have j1 : Ev (fun k => customsref21_Run.j1 k s es (i : Int) e a b c u x y z v) (x', y', z', v', fs) := by
      refine evShift ?_
      simp only [customsref21_Run.j1]
      rw [e2]
      refine evIf (fun h => evPos (by omega) ?_) (fun h => evPos (by omega) ?_)
      · simp only [if_pos h] at g2; exact g2
      · simp only [if_neg h] at g2; exact g2
    refine ⟨x', y', z', v', fs, evShift ?_, evShift ?_, g3, g4⟩
    · simp only [guarantee_Run.l0]
      rw [e2]
      clear e2
      refine evPos (by omega) (evPos (by omega) (evPos (by omega) (evBind hd.run (evIf (fun h => evPos (by omega) ?_) (fun h => evPos (by omega) ?_)))))
      · have h' : e = 0 := h
        simp only [if_pos h'] at g1; exact g1
      · have h' : ¬ e = 0 := h
        simp only [if_neg h'] at g1; exact g1
    · simp only [customsref21_Run.l0]
      clear e2
      refine evPos (by omega) (evBind (refvalid_ev a b c u) (evPos hv (evPos (by omega) (evIf (fun h => ?_) (fun h1 => evIf (fun h => ?_) (fun h2 => evIf (fun h => ?_) (fun h3 => ?_)))))))
      · exact evBind (hd.set h) j1
      · exact evBind (hd.rel h) j1
      · exact evBind (hd.siz h) j1
      · have := hd.oth h1 h2 h3
        simp only [Prod.mk.injEq] at this
        obtain ⟨rfl, rfl, rfl, rfl, rfl⟩ := this
        exact j1
theorem same_errors (l : List Int) (hl : l.length ≤ 1000) : Ev (fun k => customslaw23_sameErrors.f k l l) true := by
  unfold customslaw23_sameErrors.f
  refine evPos rfl ?_
  have key : ∀ (n i : Nat), i + n = l.length → Ev (fun k => customslaw23_sameErrors.l0 k l l (i : Int)) true := by
    intro n
    induction n with
    | zero =>
      intro i hi
      refine evShift ?_
      simp only [customslaw23_sameErrors.l0]
      exact evNeg (by omega) (evNow rfl)
    | succ n ih =>
      intro i hi
      refine evShift ?_
      simp only [customslaw23_sameErrors.l0]
      have e2 : wrap64 ((i : Int) + 1) = ((i + 1 : Nat) : Int) := by rw [wrap64_id (by omega) (by omega)]; omega
      rw [e2]
      clear e2
      exact evPos (by omega) (evPos (by omega) (evPos (by omega) (evPos (by simp) (ih (i + 1) (by omega)))))
  exact key l.length 0 (by omega)
theorem raw_steps {l : List S74} (w : ∀ u ∈ l, (Lit.int .i64 u.f0).wf = true ∧ (Lit.int .i64 u.f1).wf = true ∧ (Lit.int .i64 u.f2).wf = true) : ∀ j, j < l.length → isI64 (sat l j).f1 := fun j hj => by
  have e : sat l j = l[j] := by unfold sat rd_T74; simp [hj]
  rw [e]
  exact wf_i64 (w _ (List.getElem_mem hj)).2.1
theorem run_law (l0 l1 : List Int) (l2 : List S74) (a3 : Bool) (m0 : l0.length ≤ maxLen) (v0 : ∀ n ∈ l0, (Lit.int .i64 n).wf = true) (m1 : l1.length ≤ maxLen) (v1 : ∀ n ∈ l1, (Lit.int .i64 n).wf = true) (m2 : l2.length ≤ maxLen) (v2 : ∀ u ∈ l2, (Lit.int .i64 u.f0).wf = true ∧ (Lit.int .i64 u.f1).wf = true ∧ (Lit.int .i64 u.f2).wf = true) :
    ∃ k, customslaw23_GuaranteeRun.f k l0 l1 l2 a3 = some true := by
  have h : Ev (fun k => customslaw23_GuaranteeRun.f k l0 l1 l2 a3) true := by
    unfold customslaw23_GuaranteeRun.f
    obtain ⟨a, b, c, u, h1, hM⟩ := made_ev l0
    refine evBind h1 (evIf (fun _ => evIf (fun _ => evBind awake_ev (evNow rfl)) (fun hn => ?_)) (fun _ => ?_))
    · obtain ⟨x, y, z, v, fs, g1, g2, g3, g4⟩ := both_ev l2 (raw_steps v2) (by omega) l2.length 0 a b c u [] (by omega) hM.valid rfl
      have := (vf_zero.1 g3).2.1
      exact evBind (run_f hM.valid g1) (evBind g2 (evBind (sameg_ev x y z v (by omega)) (evPos rfl (evBind (same_errors fs (by omega)) (evPos rfl (evBind awake_ev (evNow rfl)))))))
    · obtain ⟨st, q1, q2, q3⟩ := steps_ev l1
      refine evBind q1 (evNeg (by omega) ?_)
      obtain ⟨x, y, z, v, fs, g1, g2, g3, g4⟩ := both_ev st q3 (by omega) st.length 0 a b c u [] (by omega) hM.valid rfl
      have := (vf_zero.1 g3).2.1
      exact evBind (run_f hM.valid g1) (evBind g2 (evBind (sameg_ev x y z v (by omega)) (evPos rfl (evBind (same_errors fs (by omega)) (evPos rfl (evBind awake_ev (evNow rfl)))))))
  exact h.rounds
end Go.Proofs.Ytakhjhiofmgpnaa.E
/- What comes in, in the walks' own words: a slice of whole numbers, a slice of reservations, a guarantee by value. -/
namespace Go.Proofs.Ytakhjhiofmgpnaa.G
open Go.ChangeShapes Go.WideShapes Go.RowKit Go.Deep Go.Lib Go.Proofs.YtakhjhiofmgpnaaW.PrintWords Go.Proofs.YtakhjhiofmgpnaaW.PrintLast Go.Proofs.YtakhjhiofmgpnaaW.PrintMore Go.Proofs.Ytakhjhiofmgpnaa.PA
set_option linter.unusedVariables false
variable {H : Type} {enc : TypeId × Value → H} {P : Program} {W : World} {base : Nat} {spare : Nat → Bool} {held : Bool}
theorem in_ints {t e : TypeId} {fuel : Nat} {cs : List Value} {x : DataW H × List MemPlace} (ht : P.underlying t = some (.slice e)) (he : P.underlying e = some (.int .i64)) (hc : P.cellsOf e = 1)
    (h : DataW.trod enc P W base spare held fuel t cs = some x) :
    ∃ (A : Option Addr) (c : Nat) (l : List Int), cs = [.slice A l.length c] ∧ l.length ≤ c ∧ Kd.C (Kd.int .i64) W A l.length l ∧ l.length ≤ maxLen ∧ ∀ n ∈ l, (Lit.int .i64 n).wf = true := by
  rcases open_ints ht he hc h with ⟨rfl, _⟩ | ⟨a, len, cap, zs, rfl, _, hl, hm, hz, _, hcell, hwz⟩
  · exact ⟨none, 0, [], rfl, Nat.le_refl _, Kd.C_nil _ _, Nat.zero_le _, fun n h => by cases h⟩
  · have hlz : len ≤ zs.length := by rw [hz]; split <;> omega
    obtain ⟨l, hle⟩ : ∃ l, l = zs.take len := ⟨_, rfl⟩
    have hll : l.length = len := by rw [hle, List.length_take]; omega
    refine ⟨some a, cap, l, by rw [hll], by omega, ⟨rfl, by unfold maxLen at hm; omega, fun _ => ⟨a, rfl, fun j p hj => ?_⟩⟩, by omega, fun n hn => hwz n (by rw [hle] at hn; exact List.mem_of_mem_take hn)⟩
    have hj2 : j < len := by have := (List.getElem?_eq_some_iff.1 hj).1; omega
    refine ⟨[.int .i64 p], rfl, rfl, fun q u hq => ?_⟩
    have hq0 : q = 0 := by
      have := (List.getElem?_eq_some_iff.1 hq).1
      simp at this
      exact this
    subst hq0
    obtain rfl : Value.int .i64 p = u := by simpa using hq
    have hc1 := hcell j (by omega)
    rw [show j * (Kd.int .i64).sz + 0 = j by show j * 1 + 0 = j; omega, hc1]
    rw [hle, List.getElem?_take, if_pos hj2] at hj
    rw [List.getD_eq_getElem?_getD, hj]
    rfl
end Go.Proofs.Ytakhjhiofmgpnaa.G
/- What comes in, in the walks' own words: a slice of steps on a guarantee (three whole numbers each). -/
namespace Go.Proofs.Ytakhjhiofmgpnaa.G
open Go.ChangeShapes Go.WideShapes Go.RowKit Go.Deep Go.Lib Go.Proofs.YtakhjhiofmgpnaaW.PrintWords Go.Proofs.YtakhjhiofmgpnaaW.PrintLast Go.Proofs.YtakhjhiofmgpnaaW.PrintMore Go.Proofs.Ytakhjhiofmgpnaa.PA
set_option linter.unusedVariables false
variable {H : Type} {enc : TypeId × Value → H} {P : Program} {W : World} {base : Nat} {spare : Nat → Bool} {held : Bool}
theorem in_triples {t e : TypeId} {f0 f1 f2 : Field} {fuel : Nat} {cs : List Value} {x : DataW H × List MemPlace} (ht : P.underlying t = some (.slice e)) (he : P.underlying e = some (.struct #[f0, f1, f2]))
    (ce : P.cellsOf e = 3) (o0 : f0.offset = 0) (o1 : f1.offset = 1) (o2 : f2.offset = 2) (c0 : P.cellsOf f0.type = 1) (c1 : P.cellsOf f1.type = 1) (c2 : P.cellsOf f2.type = 1)
    (k0 : P.underlying f0.type = some (.int .i64)) (k1 : P.underlying f1.type = some (.int .i64)) (k2 : P.underlying f2.type = some (.int .i64))
    (h : DataW.trod enc P W base spare held fuel t cs = some x) :
    ∃ (A : Option Addr) (c : Nat) (l : List S74), cs = [.slice A l.length c] ∧ l.length ≤ c ∧ Kd.C k74 W A l.length l ∧ l.length ≤ maxLen ∧ ∀ u ∈ l, (Lit.int .i64 u.f0).wf = true ∧ (Lit.int .i64 u.f1).wf = true ∧ (Lit.int .i64 u.f2).wf = true := by
  rcases open_slice ht h with ⟨rfl, _⟩ | ⟨a, len, cap, m, n, D, Pl, rfl, hb, hl, hm, hmm, rfl, hx⟩
  · exact ⟨none, 0, [], rfl, Nat.le_refl _, Kd.C_nil _ _, Nat.zero_le _, fun n h => by cases h⟩
  · have hlm : len ≤ m := by rw [hmm]; split <;> omega
    have each : ∀ i, i < len → ∃ q : S74, W.cell? (a.add (i * 3)) = some (.int .i64 q.f0) ∧ W.cell? (a.add (i * 3 + 1)) = some (.int .i64 q.f1) ∧ W.cell? (a.add (i * 3 + 2)) = some (.int .i64 q.f2) ∧
        (Lit.int .i64 q.f0).wf = true ∧ (Lit.int .i64 q.f1).wf = true ∧ (Lit.int .i64 q.f2).wf = true := fun i hi => by
      obtain ⟨cs', h1, h2⟩ := hx i (by omega)
      rw [ce] at h1
      obtain ⟨_, hlen, hcell⟩ := World.cells?_some h1
      obtain ⟨xs, k, hk, hxy, _, hxl, hf⟩ := DataW.trod_struct he h2
      match xs, hxl, cs', hlen with
      | [y0, y1, y2], _, [v0, v1, v2], _ =>
        have g0 := hf 0 f0 rfl
        have g1 := hf 1 f1 rfl
        have g2 := hf 2 f2 rfl
        simp [o0, o1, o2, c0, c1, c2] at g0 g1 g2
        have e0 := hcell 0 (by omega)
        have e1 := hcell 1 (by omega)
        have e2 := hcell 2 (by omega)
        rw [Go.Deep.add_add] at e0 e1 e2
        obtain ⟨n0, q0, _, w0⟩ := DataW.trod_int k0 g0
        obtain ⟨n1, q1, _, w1⟩ := DataW.trod_int k1 g1
        obtain ⟨n2, q2, _, w2⟩ := DataW.trod_int k2 g2
        simp only [List.cons.injEq, and_true] at q0 q1 q2
        subst q0 q1 q2
        exact ⟨⟨n0, n1, n2⟩, by simpa using e0, by simpa using e1, by simpa using e2, w0, w1, w2⟩
    haveI : Inhabited S74 := ⟨⟨0, 0, 0⟩⟩
    obtain ⟨q, hq⟩ := choose_lt each
    refine ⟨some a, cap, (List.range len).map q, by simp, by simpa using hl, ⟨by simp, by simp; unfold maxLen at hm; omega, fun _ => ⟨a, rfl, fun j p hj => ?_⟩⟩, by simp; omega, fun u hu => ?_⟩
    · have hj2 : j < len := by have := (List.getElem?_eq_some_iff.1 hj).1; simpa using this
      obtain rfl : q j = p := by simpa [hj2] using hj
      obtain ⟨g0, g1, g2, _, _, _⟩ := hq j hj2
      refine ⟨[.int .i64 (q j).f0, .int .i64 (q j).f1, .int .i64 (q j).f2], rfl, k74_mk _ _, fun z u hz => ?_⟩
      match z, hz with
      | 0, hz => obtain rfl : Value.int .i64 (q j).f0 = u := by simpa using hz
                 exact g0
      | 1, hz => obtain rfl : Value.int .i64 (q j).f1 = u := by simpa using hz
                 exact g1
      | 2, hz => obtain rfl : Value.int .i64 (q j).f2 = u := by simpa using hz
                 exact g2
      | z + 3, hz => simp at hz
    · obtain ⟨i, hi, rfl⟩ := List.mem_map.1 hu
      have := hq i (List.mem_range.1 hi)
      exact ⟨this.2.2.2.1, this.2.2.2.2.1, this.2.2.2.2.2⟩
/-- A slice of steps. -/
theorem in_steps {r : Reach} {b0 : Nat} {t e : TypeId} {f0 f1 f2 : Field} {v : Value} {d : DataW H} {p : List MemPlace} (ht : P.underlying t = some (.slice e)) (he : P.underlying e = some (.struct #[f0, f1, f2]))
    (ce : P.cellsOf e = 3) (o0 : f0.offset = 0) (o1 : f1.offset = 1) (o2 : f2.offset = 2) (c0 : P.cellsOf f0.type = 1) (c1 : P.cellsOf f1.type = 1) (c2 : P.cellsOf f2.type = 1)
    (k0 : P.underlying f0.type = some (.int .i64)) (k1 : P.underlying f1.type = some (.int .i64)) (k2 : P.underlying f2.type = some (.int .i64))
    (hv : Value.okWide P W r b0 t v) (h : DataW.Trod enc P W base spare held t v d p) :
    ∃ (A : Option Addr) (c : Nat) (l : List S74), v = .slice A l.length c ∧ l.length ≤ c ∧ Kd.C k74 W A l.length l ∧ l.length ≤ maxLen ∧ ∀ u ∈ l, (Lit.int .i64 u.f0).wf = true ∧ (Lit.int .i64 u.f1).wf = true ∧ (Lit.int .i64 u.f2).wf = true := by
  obtain ⟨A, n, c, rfl⟩ := okWide_slice ht hv
  obtain ⟨fuel, hf⟩ := h
  obtain ⟨A', c', l, e, r⟩ := in_triples ht he ce o0 o1 o2 c0 c1 c2 k0 k1 k2 hf
  refine ⟨A', c', l, ?_, r⟩
  simpa [Value.cells] using e
end Go.Proofs.Ytakhjhiofmgpnaa.G

namespace Go.Proofs.Ytakhjhiofmgpnaa.guaranteeRun
open Go.ChangeShapes Go.WideShapes Go.ChangeAt Go.RowKit
open Go.Proofs.YtakhjhiofmgpnaaW.PrintWords Go.Proofs.YtakhjhiofmgpnaaW.PrintLast Go.Proofs.YtakhjhiofmgpnaaW.PrintMore Go.Proofs.Ytakhjhiofmgpnaa.G Go.Proofs.Ytakhjhiofmgpnaa.PA Go.Proofs.Ytakhjhiofmgpnaa.PB Go.Proofs.Ytakhjhiofmgpnaa.PC Go.Proofs.Ytakhjhiofmgpnaa.PE Go.Proofs.Ytakhjhiofmgpnaa.PD
set_option linter.unusedVariables false
theorem own : ownKnob Try.prog.godebug = none := by kernel_rfl
theorem laidOut : laidOutB Try.prog = true := by kernel_rfl
theorem walk (A0 : Option Addr) (c0 : Nat) (l0 : List Int) (A1 : Option Addr) (c1 : Nat) (l1 : List Int) (A2 : Option Addr) (c2 : Nat) (l2 : List S74) (a3 : Bool) (w : World) (r0_ : Kd.C (Kd.int .i64) w A0 l0.length l0) (n0_ : l0.length ≤ c0) (r1_ : Kd.C (Kd.int .i64) w A1 l1.length l1) (n1_ : l1.length ≤ c1) (r2_ : Kd.C k74 w A2 l2.length l2) (n2_ : l2.length ≤ c2) (m0_ : l0.length ≤ maxLen) (w0_ : ∀ n ∈ l0, (Lit.int .i64 n).wf = true) (m1_ : l1.length ≤ maxLen) (w1_ : ∀ n ∈ l1, (Lit.int .i64 n).wf = true) (m2_ : l2.length ≤ maxLen) (w2_ : ∀ u ∈ l2, (Lit.int .i64 u.f0).wf = true ∧ (Lit.int .i64 u.f1).wf = true ∧ (Lit.int .i64 u.f2).wf = true) :
    Calls Try.prog 8 #[.slice A0 l0.length c0, .slice A1 l1.length c1, .slice A2 l2.length c2, .bool a3] w fun e w' => e = .returned (.bool true) ∧ Below w.heap.size w w' := by
  obtain ⟨k, h⟩ := E.run_law l0 l1 l2 a3 m0_ w0_ m1_ w1_ m2_ w2_
  refine (customslaw23_GuaranteeRun.calls k A0 c0 l0 A1 c1 l1 A2 c2 l2 a3 w r0_ n0_ r1_ n1_ r2_ n2_ h).mono ?_
  rintro e w' ⟨rfl, hd⟩
  exact ⟨rfl, hd⟩
set_option maxRecDepth 100000 in
theorem lifted (os : Os) (started : os.Started) (H : Type) (enc : TypeId × Value → H) :
    ReturnsInHanded {} Try.checked os 8 .any (Rows.guaranteeRunSpec.pre6 enc Try.prog Try.f8 Rows.guaranteeRunRow.domain false) (Rows.guaranteeRunSpec.post enc Try.prog Try.f8 false true false false) := by
  refine returnsInHanded_of_change (C := Try.checked) own started (by kernel_rfl) Try.func8
    (ChangeSpec.witness6 (enc := enc) (C := Try.checked) false ⟨#[], #[.slice none 0 0, .slice none 0 0, .slice none 0 0, .bool false], []⟩ 8 (by kernel_rfl) (by kernel_rfl) (by kernel_rfl) (by kernel_rfl)) ?_
  intro W base args ds gs before hval0 hW hcnd _
  have hval : ∀ (j : Nat) t v, Try.f8.params[j]? = some t → args[j]? = some v → Value.okWide Try.prog W .any base t v := hval0
  have hW' := hW
  obtain ⟨p, q, hA0, hV, rfl, hfz, hnd⟩ := hW
  have hA : DataW.TrodAll enc Try.prog W 0 (fun _ => true) true Try.f8.params.toList args.toList ds p := hA0
  rw [Try.params8] at hA hval
  obtain ⟨v0, vs0, d0, ds0, p0, q0, hargs, rfl, rfl, h0, r0⟩ := trodAll_cons hA
  obtain ⟨v1, vs1, d1, ds1, p1, q1, rfl, rfl, rfl, h1, r1⟩ := trodAll_cons r0
  obtain ⟨v2, vs2, d2, ds2, p2, q2, rfl, rfl, rfl, h2, r2⟩ := trodAll_cons r1
  obtain ⟨v3, vs3, d3, ds3, p3, q3, rfl, rfl, rfl, h3, r3⟩ := trodAll_cons r2
  obtain ⟨rfl, rfl, rfl⟩ := trodAll_nil r3
  obtain rfl : args = #[v0, v1, v2, v3] := by cases args; simp_all
  obtain ⟨rfl, rfl⟩ := trodVars_none hV
  obtain ⟨sa0, sl0, sc0, rfl⟩ := okWide_slice Try.underlying22 (hval 0 22 v0 rfl rfl)
  have k0 := h0
  have lt0 : ∀ x ∈ p0, x.block < W.heap.size := by obtain ⟨m, hm⟩ := k0; exact DataW.trod_lt m _ _ _ hm
  obtain ⟨A0, c0, l0, e0, n0_, r0_, m0_, w0_⟩ : ∃ A c, ∃ l : List Int, (sa0 = A ∧ sl0 = l.length ∧ sc0 = c) ∧ l.length ≤ c ∧ Kd.C (Kd.int .i64) W A l.length l ∧ l.length ≤ maxLen ∧ ∀ n ∈ l, (Lit.int .i64 n).wf = true := by
    obtain ⟨fuel, hf⟩ := h0
    obtain ⟨A, c, l, e, r⟩ := in_ints Try.underlying22 Try.underlying3 (by kernel_rfl) hf
    exact ⟨A, c, l, by simpa [Value.cells] using e, r⟩
  obtain ⟨rfl, rfl, rfl⟩ := e0
  obtain ⟨sa1, sl1, sc1, rfl⟩ := okWide_slice Try.underlying22 (hval 1 22 v1 rfl rfl)
  have k1 := h1
  have lt1 : ∀ x ∈ p1, x.block < W.heap.size := by obtain ⟨m, hm⟩ := k1; exact DataW.trod_lt m _ _ _ hm
  obtain ⟨A1, c1, l1, e1, n1_, r1_, m1_, w1_⟩ : ∃ A c, ∃ l : List Int, (sa1 = A ∧ sl1 = l.length ∧ sc1 = c) ∧ l.length ≤ c ∧ Kd.C (Kd.int .i64) W A l.length l ∧ l.length ≤ maxLen ∧ ∀ n ∈ l, (Lit.int .i64 n).wf = true := by
    obtain ⟨fuel, hf⟩ := h1
    obtain ⟨A, c, l, e, r⟩ := in_ints Try.underlying22 Try.underlying3 (by kernel_rfl) hf
    exact ⟨A, c, l, by simpa [Value.cells] using e, r⟩
  obtain ⟨rfl, rfl, rfl⟩ := e1
  have k2 := h2
  have lt2 : ∀ x ∈ p2, x.block < W.heap.size := by obtain ⟨m, hm⟩ := k2; exact DataW.trod_lt m _ _ _ hm
  obtain ⟨A2, c2, l2, rfl, n2_, r2_, m2_, w2_⟩ := in_steps Try.underlying45 Try.underlying74 (by kernel_rfl) rfl rfl rfl (by kernel_rfl) (by kernel_rfl) (by kernel_rfl) Try.underlying3 Try.underlying3 Try.underlying3 (hval 2 45 v2 rfl rfl) h2
  obtain ⟨a3, rfl, rfl, rfl⟩ := open_bool Try.underlying4 (hval 3 4 v3 rfl rfl) h3
  clear hA0 hval0
  refine (walk _ _ _ _ _ _ _ _ _ _ W r0_ n0_ r1_ n1_ r2_ n2_ m0_ w0_ m1_ w1_ m2_ w2_).mono fun e W' ⟨he, bel⟩ => ?_
  subst he
  exact ⟨_, rfl, _, _, _, [], _, [], hW', trodAll_mk1 (shut_bool Try.underlying4 _), (trodAll_cons_mk (Below.trod laidOut (by kernel_rfl) (of_decide_eq_true (by kernel_rfl)) k0 bel lt0) (trodAll_cons_mk (Below.trod laidOut (by kernel_rfl) (of_decide_eq_true (by kernel_rfl)) k1 bel lt1) (trodAll_cons_mk (Below.trod laidOut (by kernel_rfl) (of_decide_eq_true (by kernel_rfl)) k2 bel lt2) (trodAll_cons_mk (shut_bool Try.underlying4 _) trodAll_mk0)))), rfl, bel.frame _, fun h => by cases h⟩
theorem over : Rows.guaranteeRunRow.holds Try.pinned (OpenSpec.ofChange Rows.guaranteeRunSpec) :=
  OpenClaim.holds_of_wide 8 Try.f8 rfl rfl rfl rfl rfl rfl rfl ⟨rfl, rfl, rfl, rfl, rfl⟩ rfl rfl rfl rfl rfl (by kernel_rfl) Try.func8 (by kernel_rfl)
    (of_decide_eq_true (by kernel_rfl)) (by unfold Func.isWrapper; first | (rw [if_pos (by decide +kernel)]; kernel_rfl) | (rw [if_neg (by decide +kernel)]; exact ⟨rfl, rfl⟩))
    (fun os started H enc _ => lifted os started H enc)
theorem proved : Rows.GuaranteeRunSaid := over
#print axioms proved
end Go.Proofs.Ytakhjhiofmgpnaa.guaranteeRun
namespace Go.Proofs.Ytakhjhiofmgpnaa
/-- The row, under a short name, for the claim. -/
theorem guaranteeRun_holds : Rows.GuaranteeRunSaid := guaranteeRun.proved
end Go.Proofs.Ytakhjhiofmgpnaa
