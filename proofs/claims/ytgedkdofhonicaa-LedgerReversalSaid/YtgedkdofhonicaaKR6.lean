/- The row of the law LedgerReversal: whatever the arguments, the call returns true and leaves them as they were. Its conditions: those of the given row. -/
import Derived.Test.YtgedkdofhonicaaKR5
import Derived.Test.YtgedkdofhonicaaRows
import Derived.ProofKit
import Derived.ShutString
import Derived.ChangeOld
import Derived.SizedLaws
/- The reference's may, Ledger and Append answer as the books do. -/
namespace Go.Proofs.Ytgedkdofhonicaa.E
set_option linter.unusedVariables false
set_option linter.unusedSimpArgs false
open Go.RowKit Go.Proofs.YtgedkdofhonicaaW.PrintWords Go.Proofs.YtgedkdofhonicaaW.PrintLast Go.Proofs.YtgedkdofhonicaaW.PrintMore Go.Proofs.Ytgedkdofhonicaa.PA Go.Proofs.Ytgedkdofhonicaa.PM Go.Proofs.Ytgedkdofhonicaa.PC Go.Proofs.Ytgedkdofhonicaa.G
/-- Some reversal from i on takes back entry n. -/
theorem scan_ev {l : List S26} (hl : l.length < 2000) (hread : (readTo l l.length).1 = 0) (e : S26) (he : e.f2 = 9 ∧ 1 ≤ e.f4 ∧ e.f4 ≤ (l.length : Int)) (y0 y1 y2 y3 y4 y5 : Int) : ∀ (n i : Nat), i + n = l.length →
    (∀ j : Int, 0 ≤ j → j < (i : Int) → ¬ ((rd_T26 l j).f2 = 9 ∧ (rd_T26 l j).f4 = e.f4)) →
    Ev (fun k => customsref27_may.l0 k l (i : Int) e.f0 e.f1 e.f2 e.f3 e.f4 e.f5 y0 y1 y2 y3 y4 y5)
      (if (readTo l l.length).2.2 e.f4 = true then 17 else if y3 = e.f3 then (if nonneg (aft ((readTo l l.length).2.1 e.f3) (kindOf l e) (amtOf l e)) then 0 else 16) else 14)
  | 0, i, hi, hno => by
    obtain rfl : i = l.length := by omega
    have hI := inv_read (Nat.le_refl _) hread
    rw [List.take_length] at hI
    have hrv : (readTo l l.length).2.2 e.f4 = false := by
      cases hv : (readTo l l.length).2.2 e.f4 with
      | false => rfl
      | true =>
        obtain ⟨j, j0, j1, j2, j3⟩ := (hI.rev e.f4).1 hv
        exact absurd ⟨j2, j3⟩ (hno j j0 j1)
    rw [if_neg (by rw [hrv]; simp)]
    refine evShift ?_
    simp only [customsref27_may.l0]
    refine evNeg (by omega) ?_
    by_cases h3 : y3 = e.f3
    · rw [if_pos h3]
      exact evPos h3 (last_ev hl hread e (fun _ => he.2))
    · rw [if_neg h3]
      exact evNeg h3 (evNow rfl)
  | n + 1, i, hi, hno => by
    have hw : wrap64 ((i : Int) + 1) = ((i + 1 : Nat) : Int) := by rw [wrap64_id (by omega) (by omega)]; omega
    have hI := inv_read (Nat.le_refl _) hread
    rw [List.take_length] at hI
    have step : ¬ ((rd_T26 l (i : Int)).f2 = 9 ∧ (rd_T26 l (i : Int)).f4 = e.f4) → Ev (fun k => customsref27_may.l0 k l (wrap64 ((i : Int) + 1)) e.f0 e.f1 e.f2 e.f3 e.f4 e.f5 y0 y1 y2 y3 y4 y5) _ := fun hn => by
      rw [hw]
      exact scan_ev hl hread e he y0 y1 y2 y3 y4 y5 n (i + 1) (by omega) (fun j j0 j1 => by
        by_cases hj : j < (i : Int)
        · exact hno j j0 hj
        · rw [show j = (i : Int) by omega]; exact hn)
    refine evShift ?_
    simp only [customsref27_may.l0]
    refine evPos (by omega) (evPos (by omega) ?_)
    refine evIf (fun h9 => ?_) (fun h9 => step (fun h => h9 h.1))
    refine evIf (fun h4 => ?_) (fun h4 => step (fun h => h4 h.2))
    rw [if_pos ((hI.rev e.f4).2 ⟨(i : Int), by omega, by omega, h9, h4⟩)]
    exact evNow rfl
theorem may_flag {l : List S26} (e : S26) : Ev (fun k => customsref27_may.j0 k l true e.f0 e.f1 e.f2 e.f3 e.f4 e.f5) 2 := by
  refine evShift ?_
  simp only [customsref27_may.j0]
  exact evPos (by simp) (evNow rfl)
/-- may answers as the books' add. -/
theorem may_ev {l : List S26} (hread : (readTo l l.length).1 = 0) (e : S26) : Ev (fun k => customsref27_may.f k l e.f0 e.f1 e.f2 e.f3 e.f4 e.f5) (addC l (readTo l l.length).2.1 (readTo l l.length).2.2 e).1 := by
  have hI := inv_read (Nat.le_refl _) hread
  rw [List.take_length] at hI
  generalize hb : (readTo l l.length).2.1 = bal at hI
  generalize hv : (readTo l l.length).2.2 = rev at hI
  unfold customsref27_may.f addC
  by_cases a1 : 2000 ≤ (l.length : Int)
  · rw [if_pos a1]; exact evPos a1 (evNow rfl)
  rw [if_neg a1]
  refine evNeg a1 ?_
  by_cases a2 : inR e = false
  · rw [if_pos a2]
    have a2' : ¬ (0 ≤ e.f1 ∧ e.f1 ≤ 36524 ∧ 1 ≤ e.f2 ∧ e.f2 ≤ 9 ∧ 1 ≤ e.f3 ∧ e.f3 ≤ 1000000 ∧ 1 ≤ e.f4 ∧ e.f4 ≤ 64000000000000 ∧ 0 ≤ e.f5 ∧ e.f5 ≤ 1000000000) := fun h => by
      rw [← inR_iff, a2] at h; cases h
    refine evIf (fun _ => may_flag e) (fun c1 => evIf (fun _ => may_flag e) (fun c2 => evIf (fun _ => may_flag e) (fun c3 => evIf (fun _ => may_flag e) (fun c4 => evIf (fun _ => may_flag e) (fun c5 => evIf (fun _ => may_flag e) (fun c6 => evIf (fun _ => may_flag e) (fun c7 => evIf (fun _ => may_flag e) (fun c8 => evIf (fun _ => may_flag e) (fun c9 => ?_)))))))))
    rw [decide_eq_true (show e.f5 > 1000000000 by omega)]
    exact may_flag e
  rw [if_neg a2]
  have hr := inR_iff.1 (show inR e = true by simpa using a2)
  refine evNeg (by omega) (evNeg (by omega) (evNeg (by omega) (evNeg (by omega) (evNeg (by omega) (evNeg (by omega) (evNeg (by omega) (evNeg (by omega) (evNeg (by omega) ?_))))))))
  rw [decide_eq_false (show ¬ e.f5 > 1000000000 by omega)]
  refine evShift ?_
  simp only [customsref27_may.j0]
  refine evNeg (by simp) ?_
  rw [wrap64_id (x := (l.length : Int) + 1) (by omega) (by omega)]
  by_cases a3 : e.f0 ≠ (l.length : Int) + 1
  · rw [if_pos a3]; exact evNeg a3 (evNow rfl)
  rw [if_neg a3]
  refine evPos (by simpa using a3) ?_
  by_cases a4 : e.f2 = 9
  · rw [if_pos a4]
    refine evPos a4 ?_
    by_cases a5 : e.f4 > (l.length : Int)
    · rw [if_pos a5]; exact evPos a5 (evNow rfl)
    rw [if_neg a5]
    refine evNeg a5 ?_
    rw [wrap64_id (x := e.f4 - 1) (by omega) (by omega)]
    refine evPos (by omega) (evPos (by omega) ?_)
    have hnum := hI.num (e.f4 - 1) (by omega) (by omega)
    rw [show e.f4 - 1 + 1 = e.f4 by omega] at hnum
    have hrng := inR_iff.1 (hI.rng (e.f4 - 1) (by omega) (by omega))
    rw [hnum]
    by_cases a6 : (rd_T26 l (e.f4 - 1)).f2 = 9
    · rw [if_pos (.inl a6)]; exact evPos a6 (evNow rfl)
    refine evNeg a6 ?_
    have hs := scan_ev (by omega) hread e ⟨a4, by omega, by omega⟩ ((rd_T26 l (e.f4 - 1)).f0) ((rd_T26 l (e.f4 - 1)).f1) ((rd_T26 l (e.f4 - 1)).f2) ((rd_T26 l (e.f4 - 1)).f3) ((rd_T26 l (e.f4 - 1)).f4) ((rd_T26 l (e.f4 - 1)).f5) l.length 0 (by omega) (fun j j0 j1 => by omega)
    rw [hb, hv] at hs
    by_cases a7 : rev e.f4 = true
    · rw [if_pos (.inr a7)]
      rw [if_pos a7] at hs
      rw [hnum] at hs
      exact hs
    rw [if_neg (fun h => h.elim a6 a7)]
    rw [if_neg a7] at hs
    have hk : 1 ≤ (rd_T26 l (e.f4 - 1)).f2 ∧ (rd_T26 l (e.f4 - 1)).f2 ≤ 8 := by omega
    rw [Int.neg_mul, Int.one_mul]
    by_cases a8 : (rd_T26 l (e.f4 - 1)).f3 = e.f3
    · rw [if_neg (by simpa using a8)]
      rw [if_pos a8] at hs
      rw [a8, eff_aft hk]
      have e1 : kindOf l e = (rd_T26 l (e.f4 - 1)).f2 := if_pos a4; have e2 : amtOf l e = wrap64 (-(rd_T26 l (e.f4 - 1)).f4) := if_pos a4
      rw [e1, e2] at hs
      have ho := eff_ok (v := wrap64 (-(rd_T26 l (e.f4 - 1)).f4)) hk (hI.pos e.f3)
      rw [hnum, a8] at hs
      by_cases a9 : nonneg (aft (bal e.f3) (rd_T26 l (e.f4 - 1)).f2 (wrap64 (-(rd_T26 l (e.f4 - 1)).f4)))
      · rw [if_pos (ho.2 a9)]
        rw [if_pos a9] at hs
        exact hs
      · rw [if_neg (fun h => a9 (ho.1 h))]
        rw [if_neg a9] at hs
        exact hs
    · rw [if_pos a8]
      rw [if_neg a8] at hs
      rw [hnum] at hs
      exact hs
  · rw [if_neg a4]
    refine evNeg a4 ?_
    have hk : 1 ≤ e.f2 ∧ e.f2 ≤ 8 := by omega
    have hs := last_ev (by omega) hread e (fun h => absurd h a4)
    rw [hb] at hs
    rw [wrap_one (by omega) (by omega), eff_aft hk]
    have e1 : kindOf l e = e.f2 := if_neg a4; have e2 : amtOf l e = e.f4 := if_neg a4
    rw [e1, e2] at hs
    have ho := eff_ok (v := e.f4) hk (hI.pos e.f3)
    by_cases a9 : nonneg (aft (bal e.f3) e.f2 e.f4)
    · rw [if_pos (ho.2 a9)]
      rw [if_pos a9] at hs
      exact hs
    · rw [if_neg (fun h => a9 (ho.1 h))]
      rw [if_neg a9] at hs
      exact hs
end Go.Proofs.Ytgedkdofhonicaa.E
-- Written by a program of this claim (wip/tools: mkprint.py, pr.sh) out of the translation: plain functions and their contracts. Lean checks every line.
namespace Go.Proofs.Ytgedkdofhonicaa.PC
open Go.RowKit Go.Proofs.YtgedkdofhonicaaW.PrintWords Go.Proofs.YtgedkdofhonicaaW.PrintLast Go.Proofs.YtgedkdofhonicaaW.PrintMore Go.Proofs.Ytgedkdofhonicaa.G Go.Proofs.Ytgedkdofhonicaa.PA Go.Proofs.Ytgedkdofhonicaa.PM
attribute [local go_sem] max2_int min2_int max_two min_two max_three min_three max_four min_four   -- for this text's walks alone
set_option linter.unusedVariables false
set_option linter.unusedSimpArgs false
theorem eqA26 (d : Nat) (w : World) (x0 y0 : Int) (x1 y1 : Int) (x2 y2 : Int) (x3 y3 : Int) (x4 y4 : Int) (x5 y5 : Int) :
    (Op.equalIn (d + 2) 26 (.agg #[.int .i64 x0, .int .i64 x1, .int .i64 x2, .int .i64 x3, .int .i64 x4, .int .i64 x5]) (.agg #[.int .i64 y0, .int .i64 y1, .int .i64 y2, .int .i64 y3, .int .i64 y4, .int .i64 y5])).run Try.prog w = .ok (x0 == y0 && (x1 == y1 && (x2 == y2 && (x3 == y3 && (x4 == y4 && (x5 == y5)))))) w := by
  refine eqA_of Try.underlying26 (by kernel_rfl) ?_
  refine eqf_cons (by rfl) (by go_simp; rfl) (by go_simp; rfl) (by go_simp) ?_
  refine eqf_cons (by rfl) (by go_simp; rfl) (by go_simp; rfl) (by go_simp) ?_
  refine eqf_cons (by rfl) (by go_simp; rfl) (by go_simp; rfl) (by go_simp) ?_
  refine eqf_cons (by rfl) (by go_simp; rfl) (by go_simp; rfl) (by go_simp) ?_
  refine eqf_cons (by rfl) (by go_simp; rfl) (by go_simp; rfl) (by go_simp) ?_
  exact eqf_last (by rfl) (by go_simp; rfl) (by go_simp; rfl) (by go_simp)
end Go.Proofs.Ytgedkdofhonicaa.PC
-- Written by a program of this claim (wip/tools: mkprint.py, pr.sh) out of the translation: plain functions and their contracts. Lean checks every line.
namespace Go.Proofs.Ytgedkdofhonicaa.PC
open Go.RowKit Go.Proofs.YtgedkdofhonicaaW.PrintWords Go.Proofs.YtgedkdofhonicaaW.PrintLast Go.Proofs.YtgedkdofhonicaaW.PrintMore Go.Proofs.Ytgedkdofhonicaa.G Go.Proofs.Ytgedkdofhonicaa.PA Go.Proofs.Ytgedkdofhonicaa.PM
attribute [local go_sem] max2_int min2_int max_two min_two max_three min_three max_four min_four   -- for this text's walks alone
set_option linter.unusedVariables false
set_option linter.unusedSimpArgs false
theorem eqA37 (d : Nat) (w : World) (x0 y0 : Int) (x1 y1 : Int) (x2 y2 : Int) (x3 y3 : Int) (x4 y4 : Int) :
    (Op.equalIn (d + 2) 37 (.agg #[.int .i64 x0, .int .i64 x1, .int .i64 x2, .int .i64 x3, .int .i64 x4]) (.agg #[.int .i64 y0, .int .i64 y1, .int .i64 y2, .int .i64 y3, .int .i64 y4])).run Try.prog w = .ok (x0 == y0 && (x1 == y1 && (x2 == y2 && (x3 == y3 && (x4 == y4))))) w := by
  refine eqA_of Try.underlying37 (by kernel_rfl) ?_
  refine eqf_cons (by rfl) (by go_simp; rfl) (by go_simp; rfl) (by go_simp) ?_
  refine eqf_cons (by rfl) (by go_simp; rfl) (by go_simp; rfl) (by go_simp) ?_
  refine eqf_cons (by rfl) (by go_simp; rfl) (by go_simp; rfl) (by go_simp) ?_
  refine eqf_cons (by rfl) (by go_simp; rfl) (by go_simp; rfl) (by go_simp) ?_
  exact eqf_last (by rfl) (by go_simp; rfl) (by go_simp; rfl) (by go_simp)
end Go.Proofs.Ytgedkdofhonicaa.PC
-- Written by a program of this claim (wip/tools: mkprint.py, pr.sh) out of the translation: plain functions and their contracts. Lean checks every line.
namespace Go.Proofs.Ytgedkdofhonicaa.PC
open Go.RowKit Go.Proofs.YtgedkdofhonicaaW.PrintWords Go.Proofs.YtgedkdofhonicaaW.PrintLast Go.Proofs.YtgedkdofhonicaaW.PrintMore Go.Proofs.Ytgedkdofhonicaa.G Go.Proofs.Ytgedkdofhonicaa.PA Go.Proofs.Ytgedkdofhonicaa.PM
attribute [local go_sem] max2_int min2_int max_two min_two max_three min_three max_four min_four   -- for this text's walks alone
set_option linter.unusedVariables false
set_option linter.unusedSimpArgs false
attribute [local go_sem high] eqA26 eqA37
mutual
def customsmade_Ledger.l0 : Nat → List (S26) → List Int → Int → Option ((List (S26)))
 | 0, _, _, _ => none
 | k + 1, x4, x124000, x124001 => (customsmade_Source_Left.f x124000 x124001).bind fun bt124 => (if bt124.1 = true then (customsmade_Ledger.j1 k x4 (decide ((x4.length : Int) < 30)) x124000 bt124.2) else (customsmade_Ledger.j1 k x4 false x124000 bt124.2))
def customsmade_Ledger.j1 : Nat → List (S26) → Bool → List Int → Int → Option ((List (S26)))
 | 0, _, _, _, _ => none
 | k + 1, x4, x18, x124000, x124001 => if x18 = true then ((customsmade_Entry.f x124000 x124001 (x4.length : Int)).bind fun bt126 => ((customsref27_Append.f k x4 bt126.1 bt126.2.1 bt126.2.2.1 bt126.2.2.2.1 bt126.2.2.2.2.1 bt126.2.2.2.2.2.1).bind fun bt134 => (if bt134.2 = 0 then (customsmade_Ledger.l0 k bt134.1 x124000 bt126.2.2.2.2.2.2) else (customsmade_Ledger.l0 k x4 x124000 bt126.2.2.2.2.2.2)))) else (some x4)
end
def customsmade_Ledger.f (k : Nat) (l0 : List Int) : Option ((List (S26))) := (customsmade_Cut.f l0 100).bind fun t122 => (customsmade_Ledger.l0 k ([] : List (S26)) t122 0)
set_option maxHeartbeats 8000000 in
set_option maxRecDepth 100000 in
theorem customsmade_Ledger.calls (k : Nat) (A0 : Option Addr) (c0 : Nat) (l0 : List Int) (r : List (S26)) (w : World) (hr0 : Kd.C (Kd.int .i64) w A0 l0.length l0) (hc0 : l0.length ≤ c0) (h : customsmade_Ledger.f k l0 = some r) :
  Calls Try.prog 9 #[.slice A0 l0.length c0] w fun e w' => ∃ v0_ : Value, e = .returned (v0_) ∧ Kd.R k26 26 w' w.heap.size (fun _ => True) v0_ r ∧ Below w.heap.size w w' := by
 have hu30 := Try.underlying30; have hu26 := Try.underlying26; have HR0 := Aside0.mk hr0; have HC0 := Aside0.mk hc0; clear hr0 hc0; have HB := Aside0.mk (Below.refl w.heap.size w); have H : ((customsmade_Cut.f l0 100).bind fun t122 => (customsmade_Ledger.l0 k ([] : List (S26)) t122 0)) = some r := h; clear h; replace H := Option.bind_eq_some_iff.mp H; obtain ⟨t122, A20, H⟩ := H; replace H : (customsmade_Ledger.l0 k ([] : List (S26)) t122 0) = some r := H; have A2 := Aside0.mk A20; clear A20; have H' := Aside0.mk H; clear H
 go_enter Try.func9, Try.ntmps9
 go_wp2_with (first | ((with_reducible refine gate_callee (f := 24) rfl ?_); refine goesL_ (some 9) rfl rfl Try.func24 (by kernel_rfl) rfl #[.slice A0 l0.length c0, .int .i64 100] rfl argx ?_; (with_reducible refine (customsmade_Cut.calls _ _ l0 100 t122 _ w ?side1 ?side2 A2.out).mono ?_); (case side1 => exact HR0.out); (case side2 => exact HC0.out); rintro e w' ⟨A122_9, c122_9, rfl, hr_, hc_, ⟨nd, rfl⟩⟩; refine ⟨_, rfl, ?_⟩; have HR122_9 := Aside0.mk hr_; have HC122_9 := Aside0.mk hc_; clear hr_ hc_) | ((with_reducible refine gate_dst (N := 11) rfl ?_); refine box_event ?hg (N := 11) ?hd (cs := #[.slice A122_9 t122.length c122_9, .int .i64 0]) (t := 30) ?hr ?_; (case hd => rfl); (case hg => rfl); (case hr => first | (go_simp; done) | (go_simp; rfl)); intro gb123 hg w3 hbox hb; have qb_ := below_both bel hb; have n0_ := Aside0.mk (qb_.1); have n1_ := Aside0.mk ((show IsS30 w w3 gb123 t122 0 from ⟨_, _, hbox, (by rw [hg]; exact qb_.2 : w.heap.size ≤ gb123), HR122_9.out⟩)); clear HB; have HB := n0_; have HI123 := n1_; clear qb_; clear n0_ n1_; clear hb hbox hg))
 go_loopg [4] k (fun kq v4 w' => ∃ (x4_1 : List (S26)) (x124001_1 : Int), Aside0 (customsmade_Ledger.l0 kq x4_1 t122 x124001_1 = some r) ∧ Aside0 (kq ≤ k) ∧ Aside0 (Kd.R k26 26 w' w.heap.size (fun _ => True) v4 x4_1) ∧ Aside0 (IsS30 w w' gb123 t122 x124001_1) ∧ Aside0 (Below w.heap.size w w'))
 case atStart => exact ⟨(([] : List (S26))), (0), H', ⟨Nat.le_refl _⟩, ⟨by first | exact Kd.R_nil _ _ _ _ _ | exact Kd.N_nil _ _ _ _ _ | exact Kd.V_nil _ _ _ _ _ | exact Kd.Q_nil _ _ _ _ _ | exact Kd.S_nil _ _ _ _ _⟩, ⟨by repeat (first | (with_reducible first | exact HI123.out | apply IsS30.alloc | apply IsS30.drewN | apply IsS30.drew | apply IsS30.set_1) | exact HI123.out)⟩, ⟨by repeat (first | (with_reducible first | exact HB.out | apply below_alloc | apply pw_below_drewN | apply below_drew1 | refine below_set ?_ (IsS30.ge HI123.out)) | exact HB.out)⟩⟩
 case round =>
  clear H'
  try clear c1
  try clear c2
  try clear p2
  obtain ⟨x4_1, x124001_1, HA, HK1, HO_4, HI123, HB⟩ := hrel
  cases gk with
  | zero => exact absurd HA.out (by simp [customsmade_Ledger.l0])
  | succ k1 =>
   have H := HA.out; clear HA
   simp only [customsmade_Ledger.l0] at H
   have HC4 := Aside0.mk H; clear H
   go_upto_region 3 with (fail)
   go_cut [18] (fun v18 wc => ∃ (kq : Nat) (x18_3 : Bool) (x124001_3 : Int), v18 = .bool x18_3 ∧ Aside0 (customsmade_Ledger.j1 kq x4_1 x18_3 t122 x124001_3 = some r) ∧ Aside0 (kq ≤ k1) ∧ Aside0 (Kd.R k26 26 wc w.heap.size (fun _ => True) u4 x4_1) ∧ Aside0 (IsS30 w wc gb123 t122 x124001_3) ∧ Aside0 (Below w.heap.size w wc))
   case first =>
    have H := HC4.out; clear HC4; replace H := Option.bind_eq_some_iff.mp H; obtain ⟨⟨t124, t125⟩, A50, H⟩ := H; replace H : (if t124 = true then (customsmade_Ledger.j1 k1 x4_1 (decide ((x4_1.length : Int) < 30)) t122 t125) else (customsmade_Ledger.j1 k1 x4_1 false t122 t125)) = some r := H; have A5 := Aside0.mk A50; clear A50
    by_cases c6 : t124 = true
    ·subst c6
     have H1 : (customsmade_Ledger.j1 k1 x4_1 (decide ((x4_1.length : Int) < 30)) t122 t125) = some r := by rw [if_pos rfl] at H; exact H
     clear H; have H := H1; clear H1; have H' := Aside0.mk H; clear H
     go_wp2_with (first | ((with_reducible refine gate_callee (f := 26) rfl ?_); refine goesL_ (some 13) rfl rfl Try.func26 (by kernel_rfl) rfl #[.pointer (some ⟨gb123, 0, none⟩)] rfl argx ?_; (with_reducible refine (customsmade_Source_Left.calls gb123 t122 x124001_1 true t125 w _ ?side1 ?side2 A5.out).mono ?_); (case side1 => repeat (first | (with_reducible first | exact HI123.out | apply IsS30.alloc | apply IsS30.drewN | apply IsS30.drew | apply IsS30.set_1) | exact HI123.out)); (case side2 => repeat (first | (with_reducible first | exact HB.out | apply below_alloc | apply pw_below_drewN | apply below_drew1 | refine below_set ?_ (IsS30.ge HI123.out)) | exact HB.out)); rintro e w7 ⟨rfl, hi, hb, hk⟩; refine ⟨_, rfl, ?_⟩; have n0_ := Aside0.mk (Kd.R_mono (Kd.R_keep (IsS30.apart (show IsS30 w _ gb123 t122 x124001_1 from by repeat (first | (with_reducible first | exact HI123.out | apply IsS30.alloc | apply IsS30.drewN | apply IsS30.drew | apply IsS30.set_1) | exact HI123.out)) (rowx HO_4.out) (by decide)) hk (fun _ h => h.2)) (fun _ h => h.1)); have n1_ := Aside0.mk (hb); have n2_ := Aside0.mk (hi); clear HO_4; clear HB; clear HI123; have HO_4 := n0_; have HB := n1_; have HI123 := n2_; clear n0_ n1_ n2_; (try clear hb); (try clear hb2); (try clear hk); (try clear hi); obtain ⟨Ao8, co8, eo8⟩ := Kd.R_slice HO_4.out; subst eo8))
     go_meet
     case rel => exact ⟨_, (decide ((x4_1.length : Int) < 30)), (t125), zPA11, H', ⟨by have := HK1.out; first | omega | exact Nat.le_refl _⟩, ⟨by (with_reducible repeat (first | apply Kd.R_alloc | apply Kd.R_drewN | apply Kd.R_drew)); exact HO_4.out⟩, ⟨by repeat (first | (with_reducible first | exact HI123.out | apply IsS30.alloc | apply IsS30.drewN | apply IsS30.drew | apply IsS30.set_1) | exact HI123.out)⟩, ⟨by repeat (first | (with_reducible first | exact HB.out | apply below_alloc | apply pw_below_drewN | apply below_drew1 | refine below_set ?_ (IsS30.ge HI123.out)) | exact HB.out)⟩⟩
    ·replace c6 := Bool.eq_false_iff.mpr c6
     subst c6
     have H1 : (customsmade_Ledger.j1 k1 x4_1 false t122 t125) = some r := by rw [if_neg (show ¬ (false = true) by decide)] at H; exact H
     clear H; have H := H1; clear H1; have H' := Aside0.mk H; clear H
     go_wp2_with (first | ((with_reducible refine gate_callee (f := 26) rfl ?_); refine goesL_ (some 13) rfl rfl Try.func26 (by kernel_rfl) rfl #[.pointer (some ⟨gb123, 0, none⟩)] rfl argx ?_; (with_reducible refine (customsmade_Source_Left.calls gb123 t122 x124001_1 false t125 w _ ?side1 ?side2 A5.out).mono ?_); (case side1 => repeat (first | (with_reducible first | exact HI123.out | apply IsS30.alloc | apply IsS30.drewN | apply IsS30.drew | apply IsS30.set_1) | exact HI123.out)); (case side2 => repeat (first | (with_reducible first | exact HB.out | apply below_alloc | apply pw_below_drewN | apply below_drew1 | refine below_set ?_ (IsS30.ge HI123.out)) | exact HB.out)); rintro e w9 ⟨rfl, hi, hb, hk⟩; refine ⟨_, rfl, ?_⟩; have n0_ := Aside0.mk (Kd.R_mono (Kd.R_keep (IsS30.apart (show IsS30 w _ gb123 t122 x124001_1 from by repeat (first | (with_reducible first | exact HI123.out | apply IsS30.alloc | apply IsS30.drewN | apply IsS30.drew | apply IsS30.set_1) | exact HI123.out)) (rowx HO_4.out) (by decide)) hk (fun _ h => h.2)) (fun _ h => h.1)); have n1_ := Aside0.mk (hb); have n2_ := Aside0.mk (hi); clear HO_4; clear HB; clear HI123; have HO_4 := n0_; have HB := n1_; have HI123 := n2_; clear n0_ n1_ n2_; (try clear hb); (try clear hb2); (try clear hk); (try clear hi)))
     go_meet
     case rel => exact ⟨_, (false), (t125), zPA11, H', ⟨by have := HK1.out; first | omega | exact Nat.le_refl _⟩, ⟨by (with_reducible repeat (first | apply Kd.R_alloc | apply Kd.R_drewN | apply Kd.R_drew)); exact HO_4.out⟩, ⟨by repeat (first | (with_reducible first | exact HI123.out | apply IsS30.alloc | apply IsS30.drewN | apply IsS30.drew | apply IsS30.set_1) | exact HI123.out)⟩, ⟨by repeat (first | (with_reducible first | exact HB.out | apply below_alloc | apply pw_below_drewN | apply below_drew1 | refine below_set ?_ (IsS30.ge HI123.out)) | exact HB.out)⟩⟩
   case rest =>
    clear HC4
    try clear c1
    try clear c2
    try clear p2
    try clear c6
    try clear c9
    try clear p2
    obtain ⟨kq, x18_3, x124001_3, rfl, HA, HJ3, HO_4, HI123, HB⟩ := hcut
    cases kq with
    | zero => exact absurd HA.out (by simp [customsmade_Ledger.j1])
    | succ kj3 =>
     have H := HA.out; clear HA
     simp only [customsmade_Ledger.j1] at H
     by_cases c10 : x18_3 = true
     ·subst c10
      have H1 : ((customsmade_Entry.f t122 x124001_3 (x4_1.length : Int)).bind fun bt126 => ((customsref27_Append.f kj3 x4_1 bt126.1 bt126.2.1 bt126.2.2.1 bt126.2.2.2.1 bt126.2.2.2.2.1 bt126.2.2.2.2.2.1).bind fun bt134 => (if bt134.2 = 0 then (customsmade_Ledger.l0 kj3 bt134.1 t122 bt126.2.2.2.2.2.2) else (customsmade_Ledger.l0 kj3 x4_1 t122 bt126.2.2.2.2.2.2)))) = some r := by rw [if_pos rfl] at H; exact H
      clear H; have H := H1; clear H1; replace H := Option.bind_eq_some_iff.mp H; obtain ⟨⟨t126, t127, t128, t129, t130, t131, t132⟩, A110, H⟩ := H; replace H : ((customsref27_Append.f kj3 x4_1 t126 t127 t128 t129 t130 t131).bind fun bt134 => (if bt134.2 = 0 then (customsmade_Ledger.l0 kj3 bt134.1 t122 t132) else (customsmade_Ledger.l0 kj3 x4_1 t122 t132))) = some r := H; have A11 := Aside0.mk A110; clear A110; replace H := Option.bind_eq_some_iff.mp H; obtain ⟨⟨t134, t137⟩, A120, H⟩ := H; replace H : (if t137 = 0 then (customsmade_Ledger.l0 kj3 t134 t122 t132) else (customsmade_Ledger.l0 kj3 x4_1 t122 t132)) = some r := H; have A12 := Aside0.mk A120; clear A120
      by_cases c13 : t137 = 0
      ·rw [if_pos c13] at H
       have c13b0 : (t137 == 0) = true := beq_iff_eq.mpr c13; have c13b1 : (t137 != 0) = false := bne_eq_false_iff_eq.mpr c13; clear c13; have H' := Aside0.mk H; clear H; obtain ⟨Ao14, co14, eo14⟩ := Kd.R_slice HO_4.out; subst eo14
       go_wp2_with (first | ((with_reducible refine gate_callee (f := 10) rfl ?_); refine goesL_ (some 22) rfl rfl Try.func10 (by kernel_rfl) rfl #[.pointer (some ⟨gb123, 0, none⟩), .int .i64 (x4_1.length : Int)] rfl argx ?_; (with_reducible refine (customsmade_Entry.calls gb123 t122 x124001_3 (x4_1.length : Int) t126 t127 t128 t129 t130 t131 t132 w _ ?side1 ?side2 A11.out).mono ?_); (case side1 => repeat (first | (with_reducible first | exact HI123.out | apply IsS30.alloc | apply IsS30.drewN | apply IsS30.drew | apply IsS30.set_1) | exact HI123.out)); (case side2 => repeat (first | (with_reducible first | exact HB.out | apply below_alloc | apply pw_below_drewN | apply below_drew1 | refine below_set ?_ (IsS30.ge HI123.out)) | exact HB.out)); rintro e w15 ⟨rfl, hi, hb, hk⟩; refine ⟨_, rfl, ?_⟩; have n0_ := Aside0.mk (Kd.R_mono (Kd.R_keep (IsS30.apart (show IsS30 w _ gb123 t122 x124001_3 from by repeat (first | (with_reducible first | exact HI123.out | apply IsS30.alloc | apply IsS30.drewN | apply IsS30.drew | apply IsS30.set_1) | exact HI123.out)) (rowx HO_4.out) (by decide)) hk (fun _ h => h.2)) (fun _ h => h.1)); have n1_ := Aside0.mk (hb); have n2_ := Aside0.mk (hi); clear HO_4; clear HB; clear HI123; have HO_4 := n0_; have HB := n1_; have HI123 := n2_; clear n0_ n1_ n2_; (try clear hb); (try clear hb2); (try clear hk); (try clear hi)) | ((with_reducible refine gate_dst (N := 5) rfl ?_); refine box_event ?hg (N := 5) ?hd (cs := #[.int .i64 0, .int .i64 0, .int .i64 0, .int .i64 0, .int .i64 0, .int .i64 0]) (t := 26) ?hr ?_; (case hd => rfl); (case hg => rfl); (case hr => first | (go_simp; done) | (go_simp; rfl)); intro gb133 hg w16 hbox hb; have n0_ := Aside0.mk (Kd.R_below (Kd.R_elderB (rowx HO_4.out) gb133 (Nat.le_of_eq hg.symm)) hb); have n1_ := Aside0.mk (IsS30.below (by repeat (first | (with_reducible first | exact HI123.out | apply IsS30.alloc | apply IsS30.drewN | apply IsS30.drew | apply IsS30.set_1) | exact HI123.out)) hb); have n2_ := Aside0.mk (below_step zPA16 hb); have n3_ := Aside0.mk (hbox); have n5_ := Aside0.mk ((by rw [hg]; exact (below_size zPA16) : w.heap.size ≤ gb133)); have n6_ := Aside0.mk ((by rw [hg]; exact Nat.ne_of_lt (IsS30.lt (show IsS30 w _ gb123 t122 t132 from by repeat (first | (with_reducible first | exact HI123.out | apply IsS30.alloc | apply IsS30.drewN | apply IsS30.drew | apply IsS30.set_1) | exact HI123.out))) : gb123 ≠ gb133)); have n7_ := Aside0.mk (Ne.symm n6_.out); clear HO_4; clear HI123; clear HB; have HO_4 := n0_; have HI123 := n1_; have HB := n2_; have BK133 := n3_; have GE133 := n5_; have NB123_133 := n6_; have NB133_123 := n7_; clear n0_ n1_ n2_ n3_ n5_ n6_ n7_; clear hb hbox hg; have hnb17 := NB133_123.out; have hnc17 := NB123_133.out; obtain ⟨hcz18_0, hcz18_1, hcz18_2, hcz18_3, hcz18_4, hcz18_5, hfz18_0, hfz18_1, hfz18_2, hfz18_3, hfz18_4, hfz18_5⟩ := cells6 BK133.out) | ((with_reducible refine gate_callee (f := 20) rfl ?_); refine goesL_ (some 26) rfl rfl Try.func20 (by kernel_rfl) rfl #[.slice Ao14 x4_1.length co14, .agg #[.int .i64 t126, .int .i64 t127, .int .i64 t128, .int .i64 t129, .int .i64 t130, .int .i64 t131]] rfl argx ?_; (with_reducible refine (customsref27_Append.calls kj3 _ _ x4_1 t126 t127 t128 t129 t130 t131 t134 t137 _ ?side1 ?side2 A12.out).mono ?_); (case side1 => refine (Kd.R_reads' (e := 26) (base := w.heap.size) (ok := fun k_ => (True ∧ k_ ≠ gb133)) (n := x4_1.length) (c := co14) ?_).2.2; exact zPA9); (case side2 => exact (Kd.R_reads' HO_4.out).2.1); rintro e w19 ⟨v135, rfl, ho0, hb⟩; refine ⟨_, rfl, ?_⟩; have n1_ := Aside0.mk (Kd.R_lower (Kd.R_newB (Kd.R_new' ho0 (Kd.R_lt zPA9)) (g := gb133) (o := .cells #[.int .i64 t126, .int .i64 t127, .int .i64 t128, .int .i64 t129, .int .i64 t130, .int .i64 t131] 26 (0, 0)) (by (with_reducible repeat (first | refine blk_drewN ?_ _ | refine blk_drew ?_ | refine blk_alloc ?_ _)); refine blk_put (cs := #[.int .i64 t126, .int .i64 t127, .int .i64 t128, .int .i64 t129, .int .i64 t130, .int .i64 0]) ?_ 5 _ rfl; refine blk_put (cs := #[.int .i64 t126, .int .i64 t127, .int .i64 t128, .int .i64 t129, .int .i64 0, .int .i64 0]) ?_ 4 _ rfl; refine blk_put (cs := #[.int .i64 t126, .int .i64 t127, .int .i64 t128, .int .i64 0, .int .i64 0, .int .i64 0]) ?_ 3 _ rfl; refine blk_put (cs := #[.int .i64 t126, .int .i64 t127, .int .i64 0, .int .i64 0, .int .i64 0, .int .i64 0]) ?_ 2 _ rfl; refine blk_put (cs := #[.int .i64 t126, .int .i64 0, .int .i64 0, .int .i64 0, .int .i64 0, .int .i64 0]) ?_ 1 _ rfl; refine blk_put (cs := #[.int .i64 0, .int .i64 0, .int .i64 0, .int .i64 0, .int .i64 0, .int .i64 0]) ?_ 0 _ rfl; (with_reducible repeat (first | refine blk_drewN ?_ _ | refine blk_drew ?_ | refine blk_alloc ?_ _)); exact BK133.out)) (below_size (by repeat (first | (with_reducible first | exact HB.out | apply below_alloc | apply pw_below_drewN | apply below_drew1 | refine below_set ?_ (IsS30.ge HI123.out) | refine below_set ?_ GE133.out) | exact HB.out)))); have n2_ := Aside0.mk (IsS30.below (show IsS30 w ((((((w16.setCell ⟨gb133, 0, none⟩ (.int .i64 t126)).setCell ⟨gb133, 1, none⟩ (.int .i64 t127)).setCell ⟨gb133, 2, none⟩ (.int .i64 t128)).setCell ⟨gb133, 3, none⟩ (.int .i64 t129)).setCell ⟨gb133, 4, none⟩ (.int .i64 t130)).setCell ⟨gb133, 5, none⟩ (.int .i64 t131)) gb123 t122 t132 from by repeat (first | (with_reducible first | exact HI123.out | apply IsS30.alloc | apply IsS30.drewN | apply IsS30.drew | apply IsS30.set_1 | refine IsS30.far ?_ NB123_133.out _) | exact HI123.out)) hb); have n4_ := Aside0.mk (below_step (by repeat (first | (with_reducible first | exact HB.out | apply below_alloc | apply pw_below_drewN | apply below_drew1 | refine below_set ?_ (IsS30.ge HI123.out) | refine below_set ?_ GE133.out) | exact HB.out)) hb); (try clear HO_4); clear HI123; (try clear BK133); clear HB; have HO136 := n1_; have HI123 := n2_; have HB := n4_; clear n1_ n2_ n4_; (try clear hb); (try clear hb2); (try clear hk); (try clear hi); (try clear ho0)))
       go_roundg kj3
       case measure => have := HK1.out; have := HJ3.out; omega
       case rel => exact ⟨(t134), (t132), H', ⟨by have := HK1.out; have := HJ3.out; omega⟩, ⟨by (with_reducible repeat (first | apply Kd.R_alloc | apply Kd.R_drewN | apply Kd.R_drew)); exact Kd.R_mono HO136.out (fun _ hk => trivial)⟩, ⟨by repeat (first | (with_reducible first | exact HI123.out | apply IsS30.alloc | apply IsS30.drewN | apply IsS30.drew | apply IsS30.set_1 | refine IsS30.far ?_ NB123_133.out _) | exact HI123.out)⟩, ⟨by repeat (first | (with_reducible first | exact HB.out | apply below_alloc | apply pw_below_drewN | apply below_drew1 | refine below_set ?_ (IsS30.ge HI123.out) | refine below_set ?_ GE133.out) | exact HB.out)⟩⟩
      ·rw [if_neg c13] at H
       have c13b0 : (t137 == 0) = false := beq_eq_false_iff_ne.mpr c13; have c13b1 : (t137 != 0) = true := bne_iff_ne.mpr c13; have H' := Aside0.mk H; clear H; obtain ⟨Ao20, co20, eo20⟩ := Kd.R_slice HO_4.out; subst eo20
       go_wp2_with (first | ((with_reducible refine gate_callee (f := 10) rfl ?_); refine goesL_ (some 22) rfl rfl Try.func10 (by kernel_rfl) rfl #[.pointer (some ⟨gb123, 0, none⟩), .int .i64 (x4_1.length : Int)] rfl argx ?_; (with_reducible refine (customsmade_Entry.calls gb123 t122 x124001_3 (x4_1.length : Int) t126 t127 t128 t129 t130 t131 t132 w _ ?side1 ?side2 A11.out).mono ?_); (case side1 => repeat (first | (with_reducible first | exact HI123.out | apply IsS30.alloc | apply IsS30.drewN | apply IsS30.drew | apply IsS30.set_1) | exact HI123.out)); (case side2 => repeat (first | (with_reducible first | exact HB.out | apply below_alloc | apply pw_below_drewN | apply below_drew1 | refine below_set ?_ (IsS30.ge HI123.out)) | exact HB.out)); rintro e w21 ⟨rfl, hi, hb, hk⟩; refine ⟨_, rfl, ?_⟩; have n0_ := Aside0.mk (Kd.R_mono (Kd.R_keep (IsS30.apart (show IsS30 w _ gb123 t122 x124001_3 from by repeat (first | (with_reducible first | exact HI123.out | apply IsS30.alloc | apply IsS30.drewN | apply IsS30.drew | apply IsS30.set_1) | exact HI123.out)) (rowx HO_4.out) (by decide)) hk (fun _ h => h.2)) (fun _ h => h.1)); have n1_ := Aside0.mk (hb); have n2_ := Aside0.mk (hi); clear HO_4; clear HB; clear HI123; have HO_4 := n0_; have HB := n1_; have HI123 := n2_; clear n0_ n1_ n2_; (try clear hb); (try clear hb2); (try clear hk); (try clear hi)) | ((with_reducible refine gate_dst (N := 5) rfl ?_); refine box_event ?hg (N := 5) ?hd (cs := #[.int .i64 0, .int .i64 0, .int .i64 0, .int .i64 0, .int .i64 0, .int .i64 0]) (t := 26) ?hr ?_; (case hd => rfl); (case hg => rfl); (case hr => first | (go_simp; done) | (go_simp; rfl)); intro gb133 hg w22 hbox hb; have n0_ := Aside0.mk (Kd.R_below (Kd.R_elderB (rowx HO_4.out) gb133 (Nat.le_of_eq hg.symm)) hb); have n1_ := Aside0.mk (IsS30.below (by repeat (first | (with_reducible first | exact HI123.out | apply IsS30.alloc | apply IsS30.drewN | apply IsS30.drew | apply IsS30.set_1) | exact HI123.out)) hb); have n2_ := Aside0.mk (below_step zPA16 hb); have n3_ := Aside0.mk (hbox); have n5_ := Aside0.mk ((by rw [hg]; exact (below_size zPA16) : w.heap.size ≤ gb133)); have n6_ := Aside0.mk ((by rw [hg]; exact Nat.ne_of_lt (IsS30.lt (show IsS30 w _ gb123 t122 t132 from by repeat (first | (with_reducible first | exact HI123.out | apply IsS30.alloc | apply IsS30.drewN | apply IsS30.drew | apply IsS30.set_1) | exact HI123.out))) : gb123 ≠ gb133)); have n7_ := Aside0.mk (Ne.symm n6_.out); clear HO_4; clear HI123; clear HB; have HO_4 := n0_; have HI123 := n1_; have HB := n2_; have BK133 := n3_; have GE133 := n5_; have NB123_133 := n6_; have NB133_123 := n7_; clear n0_ n1_ n2_ n3_ n5_ n6_ n7_; clear hb hbox hg; have hnb23 := NB133_123.out; have hnc23 := NB123_133.out; obtain ⟨hcz24_0, hcz24_1, hcz24_2, hcz24_3, hcz24_4, hcz24_5, hfz24_0, hfz24_1, hfz24_2, hfz24_3, hfz24_4, hfz24_5⟩ := cells6 BK133.out) | ((with_reducible refine gate_callee (f := 20) rfl ?_); refine goesL_ (some 26) rfl rfl Try.func20 (by kernel_rfl) rfl #[.slice Ao20 x4_1.length co20, .agg #[.int .i64 t126, .int .i64 t127, .int .i64 t128, .int .i64 t129, .int .i64 t130, .int .i64 t131]] rfl argx ?_; (with_reducible refine (customsref27_Append.calls kj3 _ _ x4_1 t126 t127 t128 t129 t130 t131 t134 t137 _ ?side1 ?side2 A12.out).mono ?_); (case side1 => refine (Kd.R_reads' (e := 26) (base := w.heap.size) (ok := fun k_ => (True ∧ k_ ≠ gb133)) (n := x4_1.length) (c := co20) ?_).2.2; exact zPA9); (case side2 => exact (Kd.R_reads' HO_4.out).2.1); rintro e w25 ⟨v135, rfl, ho0, hb⟩; refine ⟨_, rfl, ?_⟩; have n0_ := Aside0.mk (Kd.R_elder' zPA9 (Kd.R_base ho0) hb); have n2_ := Aside0.mk (IsS30.below (show IsS30 w ((((((w22.setCell ⟨gb133, 0, none⟩ (.int .i64 t126)).setCell ⟨gb133, 1, none⟩ (.int .i64 t127)).setCell ⟨gb133, 2, none⟩ (.int .i64 t128)).setCell ⟨gb133, 3, none⟩ (.int .i64 t129)).setCell ⟨gb133, 4, none⟩ (.int .i64 t130)).setCell ⟨gb133, 5, none⟩ (.int .i64 t131)) gb123 t122 t132 from by repeat (first | (with_reducible first | exact HI123.out | apply IsS30.alloc | apply IsS30.drewN | apply IsS30.drew | apply IsS30.set_1 | refine IsS30.far ?_ NB123_133.out _) | exact HI123.out)) hb); have n4_ := Aside0.mk (below_step (by repeat (first | (with_reducible first | exact HB.out | apply below_alloc | apply pw_below_drewN | apply below_drew1 | refine below_set ?_ (IsS30.ge HI123.out) | refine below_set ?_ GE133.out) | exact HB.out)) hb); clear HO_4; clear HI123; (try clear BK133); clear HB; have HO_4 := n0_; have HI123 := n2_; have HB := n4_; clear n0_ n2_ n4_; (try clear hb); (try clear hb2); (try clear hk); (try clear hi); (try clear ho0)))
       go_roundg kj3
       case measure => have := HK1.out; have := HJ3.out; omega
       case rel => exact ⟨(x4_1), (t132), H', ⟨by have := HK1.out; have := HJ3.out; omega⟩, ⟨by (with_reducible repeat (first | apply Kd.R_alloc | apply Kd.R_drewN | apply Kd.R_drew)); exact Kd.R_mono HO_4.out (fun _ hk => trivial)⟩, ⟨by repeat (first | (with_reducible first | exact HI123.out | apply IsS30.alloc | apply IsS30.drewN | apply IsS30.drew | apply IsS30.set_1 | refine IsS30.far ?_ NB123_133.out _) | exact HI123.out)⟩, ⟨by repeat (first | (with_reducible first | exact HB.out | apply below_alloc | apply pw_below_drewN | apply below_drew1 | refine below_set ?_ (IsS30.ge HI123.out) | refine below_set ?_ GE133.out) | exact HB.out)⟩⟩
     ·replace c10 := Bool.eq_false_iff.mpr c10
      subst c10
      have H1 : (some x4_1) = some r := by rw [if_neg (show ¬ (false = true) by decide)] at H; exact H
      clear H; have H := H1; clear H1; obtain rfl := Option.some.inj H
      go_wp2
      go_ret
      exact ⟨_, by first | rfl | (simp [errW_none, errW_some] <;> rfl) | (simp [*, errW_none, errW_some] <;> rfl), by (with_reducible repeat (first | apply Kd.R_alloc | apply Kd.R_drewN | apply Kd.R_drew)); exact HO_4.out, by repeat (first | (with_reducible first | exact HB.out | apply below_alloc | apply pw_below_drewN | apply below_drew1 | refine below_set ?_ (IsS30.ge HI123.out)) | exact HB.out)⟩
noncomputable def customslaw30_awake.f  : Option (Bool) := (ledger_Append.f ([] : List (S26)) 1 0 1 5 100 0).bind fun bt138 => ((ledger_Append.f bt138.1 2 0 5 5 40 0).bind fun bt142 => ((ledger_Correct.f bt142.1 9 3 (([(⟨5, 70, 0, 40, 0⟩ : S37)] : List (S37)))).bind fun bt149 => (if bt138.2 = 0 then (if bt142.2 = 0 then (if bt149.2 = 0 then (if (bt149.1.length : Int) = 3 then (if 2 < (bt149.1.length : Int) then (if (((rd_T26 bt149.1 2).f0) == 3 && (((rd_T26 bt149.1 2).f1) == 9 && (((rd_T26 bt149.1 2).f2) == 2 && (((rd_T26 bt149.1 2).f3) == 5 && (((rd_T26 bt149.1 2).f4) == 30 && (((rd_T26 bt149.1 2).f5) == 3)))))) = true then ((ledger_BalanceOf.f bt149.1 5).bind fun bt154 => (some (bt154.1 == 5 && (bt154.2.1 == 70 && (bt154.2.2.1 == 0 && (bt154.2.2.2.1 == 40 && (bt154.2.2.2.2 == 0))))))) else (some false)) else (none)) else (some false)) else (some false)) else (some false)) else (some false))))
set_option maxHeartbeats 8000000 in
set_option maxRecDepth 100000 in
theorem customslaw30_awake.calls  (w : World) (h : customslaw30_awake.f  = some true) :
  Calls Try.prog 12 #[] w fun e w' => e = .returned (.bool true) ∧ Below w.heap.size w w' := by
 have hu26 := Try.underlying26; have hu37 := Try.underlying37; have HB := Aside0.mk (Below.refl w.heap.size w); have H : ((ledger_Append.f ([] : List (S26)) 1 0 1 5 100 0).bind fun bt138 => ((ledger_Append.f bt138.1 2 0 5 5 40 0).bind fun bt142 => ((ledger_Correct.f bt142.1 9 3 (([(⟨5, 70, 0, 40, 0⟩ : S37)] : List (S37)))).bind fun bt149 => (if bt138.2 = 0 then (if bt142.2 = 0 then (if bt149.2 = 0 then (if (bt149.1.length : Int) = 3 then (if 2 < (bt149.1.length : Int) then (if (((rd_T26 bt149.1 2).f0) == 3 && (((rd_T26 bt149.1 2).f1) == 9 && (((rd_T26 bt149.1 2).f2) == 2 && (((rd_T26 bt149.1 2).f3) == 5 && (((rd_T26 bt149.1 2).f4) == 30 && (((rd_T26 bt149.1 2).f5) == 3)))))) = true then ((ledger_BalanceOf.f bt149.1 5).bind fun bt154 => (some (bt154.1 == 5 && (bt154.2.1 == 70 && (bt154.2.2.1 == 0 && (bt154.2.2.2.1 == 40 && (bt154.2.2.2.2 == 0))))))) else (some false)) else (none)) else (some false)) else (some false)) else (some false)) else (some false))))) = some true := h; clear h; replace H := Option.bind_eq_some_iff.mp H; obtain ⟨⟨t138, t141⟩, A10, H⟩ := H; replace H : ((ledger_Append.f t138 2 0 5 5 40 0).bind fun bt142 => ((ledger_Correct.f bt142.1 9 3 (([(⟨5, 70, 0, 40, 0⟩ : S37)] : List (S37)))).bind fun bt149 => (if t141 = 0 then (if bt142.2 = 0 then (if bt149.2 = 0 then (if (bt149.1.length : Int) = 3 then (if 2 < (bt149.1.length : Int) then (if (((rd_T26 bt149.1 2).f0) == 3 && (((rd_T26 bt149.1 2).f1) == 9 && (((rd_T26 bt149.1 2).f2) == 2 && (((rd_T26 bt149.1 2).f3) == 5 && (((rd_T26 bt149.1 2).f4) == 30 && (((rd_T26 bt149.1 2).f5) == 3)))))) = true then ((ledger_BalanceOf.f bt149.1 5).bind fun bt154 => (some (bt154.1 == 5 && (bt154.2.1 == 70 && (bt154.2.2.1 == 0 && (bt154.2.2.2.1 == 40 && (bt154.2.2.2.2 == 0))))))) else (some false)) else (none)) else (some false)) else (some false)) else (some false)) else (some false)))) = some true := H; have A1 := Aside0.mk A10; clear A10; replace H := Option.bind_eq_some_iff.mp H; obtain ⟨⟨t142, t145⟩, A20, H⟩ := H; replace H : ((ledger_Correct.f t142 9 3 (([(⟨5, 70, 0, 40, 0⟩ : S37)] : List (S37)))).bind fun bt149 => (if t141 = 0 then (if t145 = 0 then (if bt149.2 = 0 then (if (bt149.1.length : Int) = 3 then (if 2 < (bt149.1.length : Int) then (if (((rd_T26 bt149.1 2).f0) == 3 && (((rd_T26 bt149.1 2).f1) == 9 && (((rd_T26 bt149.1 2).f2) == 2 && (((rd_T26 bt149.1 2).f3) == 5 && (((rd_T26 bt149.1 2).f4) == 30 && (((rd_T26 bt149.1 2).f5) == 3)))))) = true then ((ledger_BalanceOf.f bt149.1 5).bind fun bt154 => (some (bt154.1 == 5 && (bt154.2.1 == 70 && (bt154.2.2.1 == 0 && (bt154.2.2.2.1 == 40 && (bt154.2.2.2.2 == 0))))))) else (some false)) else (none)) else (some false)) else (some false)) else (some false)) else (some false))) = some true := H; have A2 := Aside0.mk A20; clear A20; obtain ⟨y146, hy146⟩ : ∃ y_ : List (S37), y_ = (([(⟨5, 70, 0, 40, 0⟩ : S37)] : List (S37))) := ⟨_, rfl⟩
 replace H : ((ledger_Correct.f t142 9 3 y146).bind fun bt149 => (if t141 = 0 then (if t145 = 0 then (if bt149.2 = 0 then (if (bt149.1.length : Int) = 3 then (if 2 < (bt149.1.length : Int) then (if (((rd_T26 bt149.1 2).f0) == 3 && (((rd_T26 bt149.1 2).f1) == 9 && (((rd_T26 bt149.1 2).f2) == 2 && (((rd_T26 bt149.1 2).f3) == 5 && (((rd_T26 bt149.1 2).f4) == 30 && (((rd_T26 bt149.1 2).f5) == 3)))))) = true then ((ledger_BalanceOf.f bt149.1 5).bind fun bt154 => (some (bt154.1 == 5 && (bt154.2.1 == 70 && (bt154.2.2.1 == 0 && (bt154.2.2.2.1 == 40 && (bt154.2.2.2.2 == 0))))))) else (some false)) else (none)) else (some false)) else (some false)) else (some false)) else (some false))) = some true := by first | (rw [hy146]; with_reducible exact H) | (have H2_ := (Option.bind_some _ _).symm.trans H; rw [hy146]; with_reducible exact H2_) | (have H2_ := (Option.bind_some _ _).symm.trans H; with_reducible exact H2_) | with_reducible exact H | (rw [hy146]; exact H) | exact H
 have Ny146 := Aside0.mk hy146; clear hy146; replace H := Option.bind_eq_some_iff.mp H; obtain ⟨⟨t149, t150⟩, A30, H⟩ := H; replace H : (if t141 = 0 then (if t145 = 0 then (if t150 = 0 then (if (t149.length : Int) = 3 then (if 2 < (t149.length : Int) then (if (((rd_T26 t149 2).f0) == 3 && (((rd_T26 t149 2).f1) == 9 && (((rd_T26 t149 2).f2) == 2 && (((rd_T26 t149 2).f3) == 5 && (((rd_T26 t149 2).f4) == 30 && (((rd_T26 t149 2).f5) == 3)))))) = true then ((ledger_BalanceOf.f t149 5).bind fun bt154 => (some (bt154.1 == 5 && (bt154.2.1 == 70 && (bt154.2.2.1 == 0 && (bt154.2.2.2.1 == 40 && (bt154.2.2.2.2 == 0))))))) else (some false)) else (none)) else (some false)) else (some false)) else (some false)) else (some false)) = some true := H; have A3 := Aside0.mk A30; clear A30
 by_cases c4 : t141 = 0
 ·rw [if_pos c4] at H
  have c4b0 : (t141 == 0) = true := beq_iff_eq.mpr c4; have c4b1 : (t141 != 0) = false := bne_eq_false_iff_eq.mpr c4; clear c4
  by_cases c5 : t145 = 0
  ·rw [if_pos c5] at H
   have c5b0 : (t145 == 0) = true := beq_iff_eq.mpr c5; have c5b1 : (t145 != 0) = false := bne_eq_false_iff_eq.mpr c5; clear c5
   by_cases c6 : t150 = 0
   ·rw [if_pos c6] at H
    have c6b0 : (t150 == 0) = true := beq_iff_eq.mpr c6; have c6b1 : (t150 != 0) = false := bne_eq_false_iff_eq.mpr c6; clear c6
    by_cases c7 : (t149.length : Int) = 3
    ·rw [if_pos c7] at H
     have c7b0 : ((t149.length : Int) == 3) = true := beq_iff_eq.mpr c7; have c7b1 : ((t149.length : Int) != 3) = false := bne_eq_false_iff_eq.mpr c7; clear c7
     by_cases c8 : 2 < (t149.length : Int)
     ·rw [if_pos c8] at H
      have c8b0 : decide (2 < (t149.length : Int)) = true := decide_eq_true c8; have c8b1 : decide (2 < t149.length) = true := decide_eq_true (by omega); clear c8
      by_cases c9 : (((rd_T26 t149 2).f0) == 3 && (((rd_T26 t149 2).f1) == 9 && (((rd_T26 t149 2).f2) == 2 && (((rd_T26 t149 2).f3) == 5 && (((rd_T26 t149 2).f4) == 30 && (((rd_T26 t149 2).f5) == 3)))))) = true
      ·rw [if_pos c9] at H
       have c9b0 : (((rd_T26 t149 2).f0) == 3 && (((rd_T26 t149 2).f1) == 9 && (((rd_T26 t149 2).f2) == 2 && (((rd_T26 t149 2).f3) == 5 && (((rd_T26 t149 2).f4) == 30 && (((rd_T26 t149 2).f5) == 3)))))) = true := c9
       (try (have c9b1 : decide (((rd_T26 t149 2).f0) = 3 && (((rd_T26 t149 2).f1) == 9 && (((rd_T26 t149 2).f2) == 2 && (((rd_T26 t149 2).f3) == 5 && (((rd_T26 t149 2).f4) == 30 && (((rd_T26 t149 2).f5) == 3)))))) = true := by simpa using c9))
       (try (have c9b2 : (((rd_T26 t149 2).f0) == 3 && (((rd_T26 t149 2).f1) == 9 && (((rd_T26 t149 2).f2) == 2 && (((rd_T26 t149 2).f3) == 5 && (((rd_T26 t149 2).f4) == 30 && (((rd_T26 t149 2).f5) == 3)))))) = true := by simpa using c9))
       clear c9; replace H := Option.bind_eq_some_iff.mp H; obtain ⟨⟨t154, t155, t156, t157, t158⟩, A100, H⟩ := H; replace H : (some (t154 == 5 && (t155 == 70 && (t156 == 0 && (t157 == 40 && (t158 == 0)))))) = some true := H; have A10 := Aside0.mk A100; clear A100; have HT_ := Option.some.inj H; clear H
       go_enter Try.func12, Try.ntmps12
       go_wp2_with (first | ((with_reducible refine gate_callee (f := 11) rfl ?_); refine goesL_ (some 8) rfl rfl Try.func11 (by kernel_rfl) rfl #[.slice none 0 0, .agg #[.int .i64 1, .int .i64 0, .int .i64 1, .int .i64 5, .int .i64 100, .int .i64 0]] rfl argx ?_; (refine (ledger_Append.calls _ _ ([] : List (S26)) 1 0 1 5 100 0 t138 t141 _ ?side1 ?side2 A1.out).mono ?_); (case side1 => exact Kd.C_nil _ _); (case side2 => exact Nat.le_refl _); rintro e w11 ⟨v139, rfl, ho0, hb⟩; refine ⟨_, rfl, ?_⟩; have qb_ := below_both bel hb; have n0_ := Aside0.mk (Kd.R_lower ho0 qb_.2); have n1_ := Aside0.mk (qb_.1); clear HB; have HO140 := n0_; have HB := n1_; clear qb_; clear n0_ n1_; (try clear hb); (try clear hb2); (try clear hk); (try clear hi); (try clear ho0); obtain ⟨Ao12, co12, eo12⟩ := Kd.R_slice HO140.out; subst eo12) | ((with_reducible refine gate_callee (f := 11) rfl ?_); refine goesL_ (some 14) rfl rfl Try.func11 (by kernel_rfl) rfl #[.slice Ao12 t138.length co12, .agg #[.int .i64 2, .int .i64 0, .int .i64 5, .int .i64 5, .int .i64 40, .int .i64 0]] rfl argx ?_; (with_reducible refine (ledger_Append.calls _ _ t138 2 0 5 5 40 0 t142 t145 _ ?side1 ?side2 A2.out).mono ?_); (case side1 => repeat (first | exact (Kd.R_reads' HO140.out).2.2 | (with_reducible refine Kd.C_alloc ?_ _) | (with_reducible refine Kd.C_drewN ?_ _) | (with_reducible refine Kd.C_drew ?_))); (case side2 => exact (Kd.R_reads' HO140.out).2.1); rintro e w13 ⟨v143, rfl, ho0, hb⟩; refine ⟨_, rfl, ?_⟩; have qb_ := below_both bel hb; have q1_ := Kd.R_elder2 (rowx HO140.out) (Kd.R_base ho0) hb; have n0_ := Aside0.mk (q1_.1); have n1_ := Aside0.mk (Kd.R_lower (Kd.R_new' ho0 q1_.2) qb_.2); have n2_ := Aside0.mk (qb_.1); clear HO140; clear HB; have HO140 := n0_; have HO144 := n1_; have HB := n2_; clear q1_; clear qb_; clear n0_ n1_ n2_; (try clear hb); (try clear hb2); (try clear hk); (try clear hi); (try clear ho0)) | ((with_reducible refine gate_dst (N := 20) rfl ?_); refine Kd.R_lit k37 _ 37 ?hg (N := 20) ?hd (xs := ([(⟨5, 70, 0, 40, 0⟩ : S37)] : List (S37))) (inner := [.int .i64 5, .int .i64 70, .int .i64 0, .int .i64 40, .int .i64 0]) (ok := fun _ => True) (okp := fun _ => True) ?hr ?hp (fun _ hk => hk) trivial (Below.refl _ _) (Nat.le_refl _) (by simp) ?_; (case hd => rfl); (case hg => rfl); (case hr => first | (go_simp; done) | (go_simp; rfl)); (case hp => exact (Reps.c5 (show Kd.M k37 _ _ _ (⟨5, 70, 0, 40, 0⟩ : S37) [.int .i64 5, .int .i64 70, .int .i64 0, .int .i64 40, .int .i64 0] from (k37_mkM _ _ _ (⟨5, 70, 0, 40, 0⟩ : S37) )) (Reps.none _ _))); intro v147 w14 ho15 hb hg_ hnew_; clear hg_ hnew_; (first | rw [← Ny146.out] at ho15 | (simp only [Int.reduceToNat] at ho15; rw [← Ny146.out] at ho15)); have qb_ := below_both bel hb; have n0_ := Aside0.mk (Kd.R_below (rowx HO140.out) hb); have n1_ := Aside0.mk (Kd.R_below (rowx HO144.out) hb); have n2_ := Aside0.mk (Kd.R_lower ho15 qb_.2); have n3_ := Aside0.mk (qb_.1); clear HO140; clear HO144; clear HB; have HO140 := n0_; have HO144 := n1_; have HO148 := n2_; have HB := n3_; clear qb_; clear n0_ n1_ n2_ n3_; clear hb ho15; obtain ⟨Ao16, co16, eo16⟩ := Kd.R_slice HO144.out; subst eo16; obtain ⟨Ao17, co17, eo17⟩ := Kd.R_slice HO148.out; subst eo17) | ((with_reducible refine gate_callee (f := 18) rfl ?_); refine goesL_ (some 21) rfl rfl Try.func18 (by kernel_rfl) rfl #[.slice Ao16 t142.length co16, .int .i64 9, .int .i64 3, .slice Ao17 y146.length co17] rfl argx ?_; (with_reducible refine (ledger_Correct.calls _ _ t142 9 3 _ _ y146 t149 t150 _ ?side1 ?side2 ?side3 ?side4 A3.out).mono ?_); (case side1 => repeat (first | exact (Kd.R_reads' HO144.out).2.2 | (with_reducible refine Kd.C_alloc ?_ _) | (with_reducible refine Kd.C_drewN ?_ _) | (with_reducible refine Kd.C_drew ?_))); (case side2 => exact (Kd.R_reads' HO144.out).2.1); (case side3 => repeat (first | exact (Kd.R_reads' HO148.out).2.2 | (with_reducible refine Kd.C_alloc ?_ _) | (with_reducible refine Kd.C_drewN ?_ _) | (with_reducible refine Kd.C_drew ?_))); (case side4 => exact (Kd.R_reads' HO148.out).2.1); rintro e w18 ⟨v151, rfl, ho0, hb⟩; refine ⟨_, rfl, ?_⟩; have n3_ := Aside0.mk (Kd.R_lower (Kd.R_new' (Kd.R_new' ho0 (Kd.R_lt (rowx HO140.out))) (Kd.R_lt (rowx HO144.out))) (below_size bel)); have n4_ := Aside0.mk (below_step bel hb); (try clear HO140); (try clear HO144); (try clear HO148); clear HB; have HO152 := n3_; have HB := n4_; clear n3_ n4_; (try clear hb); (try clear hb2); (try clear hk); (try clear hi); (try clear ho0); obtain ⟨Ao19, co19, eo19⟩ := Kd.R_slice HO152.out; subst eo19; have p153 : 0 ≤ (2 : Int) := (by omega); have q153 : 2 < (t149.length : Int) := of_decide_eq_true zPA7; obtain ⟨ad153, e153, hx153_0, hx153_1, hx153_2, hx153_3, hx153_4, hx153_5⟩ := at_T26 (Kd.R_reads' HO152.out).2.2 2 p153 q153; cases e153; (try simp only [show (2 : Int).toNat = 2 from rfl, Nat.reduceMul, Nat.reduceEqDiff, Go.Addr.add, ↓reduceIte] at hx153_0); (try simp only [show (2 : Int).toNat = 2 from rfl, Nat.reduceMul, Nat.reduceEqDiff, Go.Addr.add, ↓reduceIte] at hx153_1); (try simp only [show (2 : Int).toNat = 2 from rfl, Nat.reduceMul, Nat.reduceEqDiff, Go.Addr.add, ↓reduceIte] at hx153_2); (try simp only [show (2 : Int).toNat = 2 from rfl, Nat.reduceMul, Nat.reduceEqDiff, Go.Addr.add, ↓reduceIte] at hx153_3); (try simp only [show (2 : Int).toNat = 2 from rfl, Nat.reduceMul, Nat.reduceEqDiff, Go.Addr.add, ↓reduceIte] at hx153_4); (try simp only [show (2 : Int).toNat = 2 from rfl, Nat.reduceMul, Nat.reduceEqDiff, Go.Addr.add, ↓reduceIte] at hx153_5); have qi153 : (2 < t149.length) = True := eq_true (by omega); (try rw [show ((2 : Int)).toNat = 2 from rfl] at hx153_0); (try rw [show 2 * 6 = 12 from rfl] at hx153_0); (try rw [show ((2 : Int)).toNat = 2 from rfl] at hx153_1); (try rw [show 2 * 6 = 12 from rfl] at hx153_1); (try rw [show ((2 : Int)).toNat = 2 from rfl] at hx153_2); (try rw [show 2 * 6 = 12 from rfl] at hx153_2); (try rw [show ((2 : Int)).toNat = 2 from rfl] at hx153_3); (try rw [show 2 * 6 = 12 from rfl] at hx153_3); (try rw [show ((2 : Int)).toNat = 2 from rfl] at hx153_4); (try rw [show 2 * 6 = 12 from rfl] at hx153_4); (try rw [show ((2 : Int)).toNat = 2 from rfl] at hx153_5); (try rw [show 2 * 6 = 12 from rfl] at hx153_5); replace p153 := eq_true p153; replace q153 := eq_true q153) | (go_at_call 14; (with_reducible refine (ledger_BalanceOf.calls _ _ t149 5 t154 t155 t156 t157 t158 _ ?side1 ?side2 A10.out).mono ?_); (case side1 => repeat (first | exact (Kd.R_reads' HO152.out).2.2 | (with_reducible refine Kd.C_alloc ?_ _) | (with_reducible refine Kd.C_drewN ?_ _) | (with_reducible refine Kd.C_drew ?_))); (case side2 => exact (Kd.R_reads' HO152.out).2.1); rintro e w20 ⟨rfl, hb⟩; have n4_ := Aside0.mk (below_step bel hb); (try clear HO140); (try clear HO144); (try clear HO148); (try clear HO152); clear HB; have HB := n4_; clear n4_; (try clear hb); (try clear hb2); (try clear hk); (try clear hi)))
       go_ret
       exact ⟨by first | rfl | (simp [errW_none, errW_some] <;> rfl) | (simp [*, errW_none, errW_some] <;> rfl), bel⟩
      ·rw [if_neg c9] at H
       have c9b0 : (((rd_T26 t149 2).f0) == 3 && (((rd_T26 t149 2).f1) == 9 && (((rd_T26 t149 2).f2) == 2 && (((rd_T26 t149 2).f3) == 5 && (((rd_T26 t149 2).f4) == 30 && (((rd_T26 t149 2).f5) == 3)))))) = false := by simpa using c9
       (try (have c9b1 : decide (((rd_T26 t149 2).f0) = 3 && (((rd_T26 t149 2).f1) == 9 && (((rd_T26 t149 2).f2) == 2 && (((rd_T26 t149 2).f3) == 5 && (((rd_T26 t149 2).f4) == 30 && (((rd_T26 t149 2).f5) == 3)))))) = false := by simpa using c9))
       (try (have c9b2 : (((rd_T26 t149 2).f0) == 3 && (((rd_T26 t149 2).f1) == 9 && (((rd_T26 t149 2).f2) == 2 && (((rd_T26 t149 2).f3) == 5 && (((rd_T26 t149 2).f4) == 30 && (((rd_T26 t149 2).f5) == 3)))))) = false := by simpa using c9))
       (try (have c9b3 : ¬ (((rd_T26 t149 2).f0) = 3 && (((rd_T26 t149 2).f1) == 9 && (((rd_T26 t149 2).f2) == 2 && (((rd_T26 t149 2).f3) == 5 && (((rd_T26 t149 2).f4) == 30 && (((rd_T26 t149 2).f5) == 3)))))) := by simpa using c9))
       clear c9
       cases H
     ·rw [if_neg c8] at H
      exact absurd H (by simp)
    ·rw [if_neg c7] at H
     have c7b0 : ((t149.length : Int) == 3) = false := beq_eq_false_iff_ne.mpr c7; have c7b1 : ((t149.length : Int) != 3) = true := bne_iff_ne.mpr c7
     cases H
   ·rw [if_neg c6] at H
    have c6b0 : (t150 == 0) = false := beq_eq_false_iff_ne.mpr c6; have c6b1 : (t150 != 0) = true := bne_iff_ne.mpr c6
    cases H
  ·rw [if_neg c5] at H
   have c5b0 : (t145 == 0) = false := beq_eq_false_iff_ne.mpr c5; have c5b1 : (t145 != 0) = true := bne_iff_ne.mpr c5
   cases H
 ·rw [if_neg c4] at H
  have c4b0 : (t141 == 0) = false := beq_eq_false_iff_ne.mpr c4; have c4b1 : (t141 != 0) = true := bne_iff_ne.mpr c4
  cases H
end Go.Proofs.Ytgedkdofhonicaa.PC
/- The ledgers that are made; the fixed example. -/
namespace Go.Proofs.Ytgedkdofhonicaa.E
set_option linter.unusedVariables false
set_option linter.unusedSimpArgs false
open Go.RowKit Go.Proofs.YtgedkdofhonicaaW.PrintWords Go.Proofs.YtgedkdofhonicaaW.PrintLast Go.Proofs.YtgedkdofhonicaaW.PrintMore Go.Proofs.Ytgedkdofhonicaa.PA Go.Proofs.Ytgedkdofhonicaa.PM Go.Proofs.Ytgedkdofhonicaa.PC Go.Proofs.Ytgedkdofhonicaa.G
theorem readTo_take {l : List S26} {i : Nat} (hi : i ≤ l.length) : ∀ j, j ≤ i → readTo (l.take i) j = readTo l j
  | 0, _ => rfl
  | j + 1, h => by
    rw [readTo, readTo, readTo_take hi j (by omega), List.take_take, Nat.min_eq_left (by omega), rd_take (by omega) (by omega)]
theorem refLedger_from {l : List S26} (hl : l.length ≤ 100000) : ∀ (n i : Nat), i + n = l.length → (readTo l i).1 = 0 → Ev (fun k => customsref27_Ledger.l0 k l (i : Int)) (readTo l l.length).1
  | 0, i, hi, h0 => by
    obtain rfl : i = l.length := by omega
    refine evShift ?_
    simp only [customsref27_Ledger.l0]
    rw [h0]
    exact evNeg (by omega) (evNow rfl)
  | n + 1, i, hi, h0 => by
    have hw : wrap64 ((i : Int) + 1) = ((i + 1 : Nat) : Int) := by rw [wrap64_id (by omega) (by omega)]; omega
    refine evShift ?_
    simp only [customsref27_Ledger.l0]
    refine evPos (by omega) (evPos (by omega) (evPos (by omega) ?_))
    have hlen : (l.take i).length = i := by rw [List.length_take]; omega
    have hrd : readTo (l.take i) (l.take i).length = readTo l i := by rw [hlen]; exact readTo_take (by omega) i (Nat.le_refl _)
    have hm := may_ev (l := l.take i) (by rw [hrd]; exact h0) (rd_T26 l (i : Int))
    rw [hrd] at hm
    rw [Int.toNat_natCast]
    refine evBind hm ?_
    have hstep : readTo l (i + 1) = addC (l.take i) (readTo l i).2.1 (readTo l i).2.2 (rd_T26 l (i : Int)) := by rw [readTo, if_pos h0]
    rw [← hstep]
    refine evIf (fun hz => ?_) (fun hz => ?_)
    · rw [hw]
      exact refLedger_from hl n (i + 1) (by omega) hz
    · have := readTo_stuck l hz (l.length - (i + 1))
      rw [show i + 1 + (l.length - (i + 1)) = l.length by omega] at this
      rw [this]
      exact evNow rfl
/-- The reference's Ledger answers as reading does. -/
theorem refLedger_ev {l : List S26} (hl : l.length ≤ 100000) : Ev (fun k => customsref27_Ledger.f k l) (readTo l l.length).1 := refLedger_from hl l.length 0 (by omega) rfl
/-- The reference's Append answers as the program's. -/
theorem refAppend_ev {l : List S26} (hl : l.length ≤ 100000) (e : S26) : Ev (fun k => customsref27_Append.f k l e.f0 e.f1 e.f2 e.f3 e.f4 e.f5) (appendR l e) := by
  unfold customsref27_Append.f appendR
  refine evBind (refLedger_ev hl) ?_
  by_cases h0 : (readTo l l.length).1 = 0
  · rw [if_pos h0]
    refine evPos h0 ?_
    refine evBind (may_ev h0 e) ?_
    by_cases h1 : (addC l (readTo l l.length).2.1 (readTo l l.length).2.2 e).1 = 0
    · refine evPos h1 ?_
      rw [if_pos h1]
      simp only [Option.bind_some, List.nil_append, List.length_nil, Nat.zero_add, List.length_singleton]
      exact evPos (by omega) (evPos (by omega) (evNow rfl))
    · refine evNeg h1 ?_
      rw [if_neg h1]
      exact evNow rfl
  · rw [if_neg h0]
    exact evNeg h0 (evNow rfl)
/-- A ledger that reads well, of few entries. -/
structure Good (l : List S26) : Prop where
  read : (readTo l l.length).1 = 0
  len : l.length ≤ 100
theorem Good.inv {l : List S26} (h : Good l) : Inv l (readTo l l.length).2.1 (readTo l l.length).2.2 := by
  have := inv_read (Nat.le_refl _) h.read
  rwa [List.take_length] at this
theorem wfL_inv {l : List S26} {bal : Int → Bal} {rev : Int → Bool} (hI : Inv l bal rev) (hl : l.length ≤ 100000) : wfL l :=
  ⟨by omega, fun i h0 h1 => by
    have a := hI.num i h0 h1; have b := inR_iff.1 (hI.rng i h0 h1)
    exact ⟨i64_mk (by omega) (by omega), i64_mk (by omega) (by omega)⟩⟩
theorem Good.wf {l : List S26} (h : Good l) : wfL l := wfL_inv h.inv (by have := h.len; omega)
theorem read_snoc {l : List S26} {e : S26} (h : (readTo l l.length).1 = 0) : readTo (l ++ [e]) (l ++ [e]).length = addC l (readTo l l.length).2.1 (readTo l l.length).2.2 e := by
  rw [List.length_append, List.length_singleton, readTo_snoc h]
theorem appendR_zero {l : List S26} {e : S26} (h : (appendR l e).2 = 0) : (readTo l l.length).1 = 0 ∧ (addC l (readTo l l.length).2.1 (readTo l l.length).2.2 e).1 = 0 ∧ appendR l e = (l ++ [e], 0) := by
  unfold appendR at h ⊢
  by_cases h0 : (readTo l l.length).1 = 0
  · rw [if_pos h0] at h ⊢
    by_cases h1 : (addC l (readTo l l.length).2.1 (readTo l l.length).2.2 e).1 = 0
    · rw [if_pos h1] at h ⊢
      exact ⟨h0, h1, rfl⟩
    · rw [if_neg h1] at h; exact absurd h h1
  · rw [if_neg h0] at h; exact absurd h h0
theorem made_from (s : List Int) (hs : s.length ≤ 100) : ∀ (n : Nat) (l : List S26) (i : Int), 0 ≤ i → i ≤ s.length → s.length ≤ i + n → Good l → l.length ≤ 30 → ∃ r, Good r ∧ r.length ≤ 30 ∧ Ev (fun k => customsmade_Ledger.l0 k l s i) r := by
  intro n
  induction n with
  | zero =>
    intro l i i0 i1 hn hg hl
    refine ⟨l, hg, hl, evShift ?_⟩
    simp only [customsmade_Ledger.l0]
    refine evBind0 (a := (decide (i < (s.length : Int)), i)) rfl ?_
    rw [decide_eq_false (show ¬ i < (s.length : Int) by omega)]
    refine evNeg (by simp) (evShift ?_)
    simp only [customsmade_Ledger.j1]
    exact evNeg (by simp) (evNow rfl)
  | succ n ih =>
    intro l i i0 i1 hn hg hl
    by_cases hi : i < (s.length : Int)
    · by_cases h30 : (l.length : Int) < 30
      · obtain ⟨e, j, he, hm, j0, j1, hj⟩ := entry_some s (by omega) i (l.length : Int) i0 i1 (by omega) (by omega)
        have hij := hj hi
        by_cases hz : (appendR l e).2 = 0
        · obtain ⟨z0, z1, z2⟩ := appendR_zero hz
          have hg2 : Good (l ++ [e]) := ⟨by rw [read_snoc z0]; exact z1, by rw [List.length_append, List.length_singleton]; omega⟩; obtain ⟨r, r0, r1, r2⟩ := ih (l ++ [e]) j j0 j1 (by omega) hg2 (by rw [List.length_append, List.length_singleton]; omega)
          refine ⟨r, r0, r1, evShift ?_⟩
          simp only [customsmade_Ledger.l0]
          refine evBind0 (a := (decide (i < (s.length : Int)), i)) rfl ?_
          rw [decide_eq_true hi, decide_eq_true h30]
          refine evPos (by simp) (evShift ?_)
          simp only [customsmade_Ledger.j1]
          refine evPos (by simp) (evBind0 he (evBind (refAppend_ev (by omega) e) ?_))
          refine evPos hz ?_
          rw [z2]
          exact r2
        · obtain ⟨r, r0, r1, r2⟩ := ih l j j0 j1 (by omega) hg hl
          refine ⟨r, r0, r1, evShift ?_⟩
          simp only [customsmade_Ledger.l0]
          refine evBind0 (a := (decide (i < (s.length : Int)), i)) rfl ?_
          rw [decide_eq_true hi, decide_eq_true h30]
          refine evPos (by simp) (evShift ?_)
          simp only [customsmade_Ledger.j1]
          refine evPos (by simp) (evBind0 he (evBind (refAppend_ev (by omega) e) ?_))
          exact evNeg hz r2
      · refine ⟨l, hg, hl, evShift ?_⟩
        simp only [customsmade_Ledger.l0]
        refine evBind0 (a := (decide (i < (s.length : Int)), i)) rfl ?_
        rw [decide_eq_true hi, decide_eq_false h30]
        refine evPos (by simp) (evShift ?_)
        simp only [customsmade_Ledger.j1]
        exact evNeg (by simp) (evNow rfl)
    · refine ⟨l, hg, hl, evShift ?_⟩
      simp only [customsmade_Ledger.l0]
      refine evBind0 (a := (decide (i < (s.length : Int)), i)) rfl ?_
      rw [decide_eq_false hi]
      refine evNeg (by simp) (evShift ?_)
      simp only [customsmade_Ledger.j1]
      exact evNeg (by simp) (evNow rfl)
/-- A ledger that is made reads well and has at most 30 entries. -/
theorem made_ev (src : List Int) : ∃ l, Good l ∧ l.length ≤ 30 ∧ Ev (fun k => customsmade_Ledger.f k src) l := by
  obtain ⟨s, hs, hsl⟩ : ∃ s, customsmade_Cut.f src 100 = some s ∧ s.length ≤ 100 := by
    unfold customsmade_Cut.f
    by_cases h : (src.length : Int) > 100
    · rw [if_pos h, if_pos (by omega)]
      exact ⟨_, rfl, by rw [List.length_take]; omega⟩
    · rw [if_neg h]
      exact ⟨src, rfl, by omega⟩
  obtain ⟨r, h1, h2, h3⟩ := made_from s hsl s.length [] 0 (Int.le_refl _) (by omega) (by omega) ⟨rfl, by simp⟩ (by simp)
  exact ⟨r, h1, h2, evBind0 hs h3⟩
theorem append_good {l : List S26} (h : wfL l) (e : S26) : ledger_Append.f l e.f0 e.f1 e.f2 e.f3 e.f4 e.f5 = some (appendR l e) := by unfold ledger_Append.f; rw [if_pos h]
theorem balance_good {l : List S26} (h : wfL l) {x : Int} (hx : i64 x) : ledger_BalanceOf.f l x = some (x, (balOf l x).o, (balOf l x).s, (balOf l x).p, (balOf l x).r) := by unfold ledger_BalanceOf.f; rw [if_pos ⟨h, hx⟩]
def aw1 : S26 := ⟨1, 0, 1, 5, 100, 0⟩
def aw2 : S26 := ⟨2, 0, 5, 5, 40, 0⟩
def aw3 : S26 := ⟨3, 9, 2, 5, 30, 3⟩
def awt : S37 := ⟨5, 70, 0, 40, 0⟩
theorem aw_good2 : Good [aw1, aw2] := ⟨by kernel_rfl, by decide⟩
theorem aw_good3 : Good [aw1, aw2, aw3] := ⟨by kernel_rfl, by decide⟩
theorem aw_bal (x : Int) (h : x ≠ 5) : (readTo [aw1, aw2] 2).2.1 x = noBal := by
  have e1 : readTo [aw1, aw2] 1 = addC [] (fun _ => noBal) (fun _ => false) aw1 := rfl
  have hz1 : (addC [] (fun _ => noBal) (fun _ => false) aw1).1 = 0 := by kernel_rfl
  have hI1 := inv_nil; have b1 := (addC_zero hI1 hz1).2.2.2.2.2
  have hg : (readTo [aw1, aw2] 1).1 = 0 := by rw [e1]; exact hz1
  have e2 : readTo [aw1, aw2] 2 = addC [aw1] (readTo [aw1, aw2] 1).2.1 (readTo [aw1, aw2] 1).2.2 aw2 := by rw [readTo, if_pos hg]; rfl
  have hz2 : (addC [aw1] (readTo [aw1, aw2] 1).2.1 (readTo [aw1, aw2] 1).2.2 aw2).1 = 0 := by rw [← e2]; kernel_rfl
  have hI2 : Inv [aw1] (readTo [aw1, aw2] 1).2.1 (readTo [aw1, aw2] 1).2.2 := inv_read (l := [aw1, aw2]) (j := 1) (by decide) hg; have b2 := (addC_zero hI2 hz2).2.2.2.2.2
  rw [e2, b2]
  show (if x = aw2.f3 then _ else _) = _
  rw [if_neg (show ¬ x = aw2.f3 from h), e1, b1]
  show (if x = aw1.f3 then _ else _) = _
  rw [if_neg (show ¬ x = aw1.f3 from h)]
theorem awake_true : customslaw30_awake.f = some true := by
  unfold customslaw30_awake.f
  have h1 : ledger_Append.f ([] : List S26) 1 0 1 5 100 0 = some ([aw1], 0) := by
    show ledger_Append.f ([] : List S26) aw1.f0 aw1.f1 aw1.f2 aw1.f3 aw1.f4 aw1.f5 = _
    rw [append_good (l := []) ⟨by decide, fun i h0 h1 => by simp at h1; omega⟩ aw1]
    have : (appendR [] aw1).2 = 0 := by kernel_rfl
    rw [(appendR_zero this).2.2]; rfl
  have hg1 : Good [aw1] := ⟨by kernel_rfl, by decide⟩
  have h2 : ledger_Append.f [aw1] 2 0 5 5 40 0 = some ([aw1, aw2], 0) := by
    show ledger_Append.f [aw1] aw2.f0 aw2.f1 aw2.f2 aw2.f3 aw2.f4 aw2.f5 = _
    rw [append_good hg1.wf aw2]
    have : (appendR [aw1] aw2).2 = 0 := by kernel_rfl
    rw [(appendR_zero this).2.2]; rfl
  have hks : KsOK (readTo [aw1, aw2] [aw1, aw2].length).2.1 [awt] [5] := by
    refine ⟨by simp, fun x hx => ?_, fun j hj => ?_⟩
    · by_cases h5 : x = 5
      · simp [h5]
      · exact absurd (aw_bal x h5) hx
    · have : j = 0 := by simp at hj; omega
      subst this
      show (5 : Int) ∈ [5]
      simp
  have hc : correctK [aw1, aw2] 9 3 [awt] [5] = ([aw1, aw2, aw3], 0) := by kernel_rfl
  have h3 : ledger_Correct.f [aw1, aw2] 9 3 [(⟨5, 70, 0, 40, 0⟩ : S37)] = some ([aw1, aw2, aw3], 0) := by
    unfold ledger_Correct.f
    rw [if_pos aw_good2.wf, ← hc]
    exact congrArg some (correctK_uniq (fun _ => ksOf_ok hks) (fun _ => hks))
  have h4 : ledger_BalanceOf.f [aw1, aw2, aw3] 5 = some (5, 70, 0, 40, 0) := by
    rw [balance_good aw_good3.wf (i64_mk (by decide) (by decide))]
    have e : balOf [aw1, aw2, aw3] 5 = ⟨70, 0, 40, 0⟩ := by kernel_rfl
    rw [e]
  rw [h1, Option.bind_some, h2, Option.bind_some, h3, Option.bind_some]
  simp only [List.length_cons, List.length_nil, h4, Option.bind_some]
  rfl
end Go.Proofs.Ytgedkdofhonicaa.E
-- Written by a program of this claim (wip/tools: mkprint.py, pr.sh) out of the translation: plain functions and their contracts. Lean checks every line.
namespace Go.Proofs.Ytgedkdofhonicaa.PR
open Go.RowKit Go.Proofs.YtgedkdofhonicaaW.PrintWords Go.Proofs.YtgedkdofhonicaaW.PrintLast Go.Proofs.YtgedkdofhonicaaW.PrintMore Go.Proofs.Ytgedkdofhonicaa.G Go.Proofs.Ytgedkdofhonicaa.PA Go.Proofs.Ytgedkdofhonicaa.PM Go.Proofs.Ytgedkdofhonicaa.PC
attribute [local go_sem] max2_int min2_int max_two min_two max_three min_three max_four min_four   -- for this text's walks alone
set_option linter.unusedVariables false
set_option linter.unusedSimpArgs false
def errW : Option Int → Value
  | none => .nilIface
  | some c => .iface 0 (.int .i64 c)
theorem errW_none : errW none = .nilIface := rfl
theorem errW_some (c : Int) : errW (some c) = .iface 0 (.int .i64 c) := rfl
-- the values' own types
end Go.Proofs.Ytgedkdofhonicaa.PR
-- Written by a program of this claim (wip/tools: mkprint.py, pr.sh) out of the translation: plain functions and their contracts. Lean checks every line.
namespace Go.Proofs.Ytgedkdofhonicaa.PR
open Go.RowKit Go.Proofs.YtgedkdofhonicaaW.PrintWords Go.Proofs.YtgedkdofhonicaaW.PrintLast Go.Proofs.YtgedkdofhonicaaW.PrintMore Go.Proofs.Ytgedkdofhonicaa.G Go.Proofs.Ytgedkdofhonicaa.PA Go.Proofs.Ytgedkdofhonicaa.PM Go.Proofs.Ytgedkdofhonicaa.PC
attribute [local go_sem] max2_int min2_int max_two min_two max_three min_three max_four min_four   -- for this text's walks alone
set_option linter.unusedVariables false
set_option linter.unusedSimpArgs false
theorem eqA37 (d : Nat) (w : World) (x0 y0 : Int) (x1 y1 : Int) (x2 y2 : Int) (x3 y3 : Int) (x4 y4 : Int) :
    (Op.equalIn (d + 2) 37 (.agg #[.int .i64 x0, .int .i64 x1, .int .i64 x2, .int .i64 x3, .int .i64 x4]) (.agg #[.int .i64 y0, .int .i64 y1, .int .i64 y2, .int .i64 y3, .int .i64 y4])).run Try.prog w = .ok (x0 == y0 && (x1 == y1 && (x2 == y2 && (x3 == y3 && (x4 == y4))))) w := by
  refine eqA_of Try.underlying37 (by kernel_rfl) ?_
  refine eqf_cons (by rfl) (by go_simp; rfl) (by go_simp; rfl) (by go_simp) ?_
  refine eqf_cons (by rfl) (by go_simp; rfl) (by go_simp; rfl) (by go_simp) ?_
  refine eqf_cons (by rfl) (by go_simp; rfl) (by go_simp; rfl) (by go_simp) ?_
  refine eqf_cons (by rfl) (by go_simp; rfl) (by go_simp; rfl) (by go_simp) ?_
  exact eqf_last (by rfl) (by go_simp; rfl) (by go_simp; rfl) (by go_simp)
end Go.Proofs.Ytgedkdofhonicaa.PR
-- Written by a program of this claim (wip/tools: mkprint.py, pr.sh) out of the translation: plain functions and their contracts. Lean checks every line.
namespace Go.Proofs.Ytgedkdofhonicaa.PR
open Go.RowKit Go.Proofs.YtgedkdofhonicaaW.PrintWords Go.Proofs.YtgedkdofhonicaaW.PrintLast Go.Proofs.YtgedkdofhonicaaW.PrintMore Go.Proofs.Ytgedkdofhonicaa.G Go.Proofs.Ytgedkdofhonicaa.PA Go.Proofs.Ytgedkdofhonicaa.PM Go.Proofs.Ytgedkdofhonicaa.PC
attribute [local go_sem] max2_int min2_int max_two min_two max_three min_three max_four min_four   -- for this text's walks alone
set_option linter.unusedVariables false
set_option linter.unusedSimpArgs false
attribute [local go_sem high] eqA37
mutual
noncomputable def customslaw30_LedgerReversal.j0 : Nat → List (S26) → Int → Int → Int → Int → Int → Int → Option (Bool)
 | 0, _, _, _, _, _, _, _ => none
 | k + 1, x5, x113000, x113001, x113002, x113003, x113004, x113005 => (ledger_Append.f x5 x113000 x113001 x113002 x113003 x113004 x113005).bind fun bt113 => (if bt113.2 = 0 then ((ledger_Append.f bt113.1 (wrap64 ((x5.length : Int) + 2)) x113001 9 x113003 (wrap64 ((x5.length : Int) + 1)) 0).bind fun bt119 => (if bt119.2 = 0 then ((ledger_BalanceOf.f bt119.1 x113003).bind fun bt123 => ((ledger_BalanceOf.f x5 x113003).bind fun bt128 => (customslaw30_LedgerReversal.j1 k x5 bt119.1 (!(bt123.1 == bt128.1) || (!(bt123.2.1 == bt128.2.1) || (!(bt123.2.2.1 == bt128.2.2.1) || (!(bt123.2.2.2.1 == bt128.2.2.2.1) || (!(bt123.2.2.2.2 == bt128.2.2.2.2)))))) (wrap64 ((x5.length : Int) + 2)) x113001 9 x113003 (wrap64 ((x5.length : Int) + 1)) 0))) else (customslaw30_LedgerReversal.j1 k x5 bt119.1 true (wrap64 ((x5.length : Int) + 2)) x113001 9 x113003 (wrap64 ((x5.length : Int) + 1)) 0))) else (if bt113.2 = 16 then ((customslaw30_awake.f).bind fun t117 => (some t117)) else (some false)))
noncomputable def customslaw30_LedgerReversal.j1 : Nat → List (S26) → List (S26) → Bool → Int → Int → Int → Int → Int → Int → Option (Bool)
 | 0, _, _, _, _, _, _, _, _, _ => none
 | k + 1, x5, x10, x71, x119000, x119001, x119002, x119003, x119004, x119005 => if x71 = true then (some false) else ((ledger_Append.f x10 (wrap64 ((x5.length : Int) + 3)) x119001 x119002 x119003 x119004 x119005).bind fun bt133 => ((ledger_Append.f x10 (wrap64 ((x5.length : Int) + 3)) x119001 x119002 x119003 (wrap64 ((x5.length : Int) + 2)) x119005).bind fun bt137 => (if bt133.2 = 17 then (if bt137.2 = 17 then ((customslaw30_awake.f).bind fun t141 => (some t141)) else (some false)) else (some false))))
end
noncomputable def customslaw30_LedgerReversal.f (k : Nat) (l0 : List Int) (l1 : List Int) : Option (Bool) := (customsmade_Ledger.f k l0).bind fun t101 => ((customsmade_Entry.f l1 0 (t101.length : Int)).bind fun bt105 => (if bt105.2.2.1 = 9 then (customslaw30_LedgerReversal.j0 k t101 bt105.1 bt105.2.1 1 bt105.2.2.2.1 7 bt105.2.2.2.2.2.1) else (customslaw30_LedgerReversal.j0 k t101 bt105.1 bt105.2.1 bt105.2.2.1 bt105.2.2.2.1 bt105.2.2.2.2.1 bt105.2.2.2.2.2.1)))
def customslaw30_LedgerReversal.T10 : Bool × List (List Nat × List Nat) := (true, [([], []), ([0], [0]), ([1], [1]), ([2], [2]), ([2], [2]), ([4, 2], [2, 4]), ([3, 5, 2, 2], [2, 3, 5]), ([2], [2]), ([2], [2]), ([8, 2], [2, 8]), ([7, 9, 6, 2], [2, 7, 9]), ([6, 10, 2], [2, 6, 10]), ([2, 11], [2, 11])])
def customslaw30_LedgerReversal.B10 : List Nat := [0, 1, 3, 7, 7, 23, 63, 7, 7, 263, 1023, 2047, 4095]
theorem customslaw30_LedgerReversal.tab10 : rtab .any (opsOf Try.f4 10) = customslaw30_LedgerReversal.T10 := by kernel_rfl
theorem customslaw30_LedgerReversal.bits10 : waitsOk customslaw30_LedgerReversal.T10.2 customslaw30_LedgerReversal.B10 = true := by kernel_rfl
set_option maxHeartbeats 8000000 in
set_option maxRecDepth 100000 in
theorem customslaw30_LedgerReversal.calls (k : Nat) (A0 : Option Addr) (c0 : Nat) (l0 : List Int) (A1 : Option Addr) (c1 : Nat) (l1 : List Int) (w : World) (hr0 : Kd.C (Kd.int .i64) w A0 l0.length l0) (hc0 : l0.length ≤ c0) (hr1 : Kd.C (Kd.int .i64) w A1 l1.length l1) (hc1 : l1.length ≤ c1) (h : customslaw30_LedgerReversal.f k l0 l1 = some true) :
  Calls Try.prog 4 #[.slice A0 l0.length c0, .slice A1 l1.length c1] w fun e w' => e = .returned (.bool true) ∧ Below w.heap.size w w' := by
 have hu30 := Try.underlying30; have hu26 := Try.underlying26; have HR0 := Aside0.mk hr0; have HC0 := Aside0.mk hc0; clear hr0 hc0; have HR1 := Aside0.mk hr1; have HC1 := Aside0.mk hc1; clear hr1 hc1; have HB := Aside0.mk (Below.refl w.heap.size w); have H : ((customsmade_Ledger.f k l0).bind fun t101 => ((customsmade_Entry.f l1 0 (t101.length : Int)).bind fun bt105 => (if bt105.2.2.1 = 9 then (customslaw30_LedgerReversal.j0 k t101 bt105.1 bt105.2.1 1 bt105.2.2.2.1 7 bt105.2.2.2.2.2.1) else (customslaw30_LedgerReversal.j0 k t101 bt105.1 bt105.2.1 bt105.2.2.1 bt105.2.2.2.1 bt105.2.2.2.2.1 bt105.2.2.2.2.2.1)))) = some true := h; clear h; replace H := Option.bind_eq_some_iff.mp H; obtain ⟨t101, A30, H⟩ := H; replace H : ((customsmade_Entry.f l1 0 (t101.length : Int)).bind fun bt105 => (if bt105.2.2.1 = 9 then (customslaw30_LedgerReversal.j0 k t101 bt105.1 bt105.2.1 1 bt105.2.2.2.1 7 bt105.2.2.2.2.2.1) else (customslaw30_LedgerReversal.j0 k t101 bt105.1 bt105.2.1 bt105.2.2.1 bt105.2.2.2.1 bt105.2.2.2.2.1 bt105.2.2.2.2.2.1))) = some true := H; have A3 := Aside0.mk A30; clear A30; replace H := Option.bind_eq_some_iff.mp H; obtain ⟨⟨t105, t106, t107, t108, t109, t110, t111⟩, A40, H⟩ := H; replace H : (if t107 = 9 then (customslaw30_LedgerReversal.j0 k t101 t105 t106 1 t108 7 t110) else (customslaw30_LedgerReversal.j0 k t101 t105 t106 t107 t108 t109 t110)) = some true := H; have A4 := Aside0.mk A40; clear A40; have HC5 := Aside0.mk H; clear H
 go_enter Try.func4, Try.ntmps4
 go_upto_if 26 with (first | ((with_reducible refine gate_callee (f := 9) rfl ?_); refine goesL_ (some 17) rfl rfl Try.func9 (by kernel_rfl) rfl #[.slice A0 l0.length c0] rfl argx ?_; (with_reducible refine (customsmade_Ledger.calls k _ _ l0 t101 _ ?side1 ?side2 A3.out).mono ?_); (case side1 => repeat (first | exact HR0.out | (with_reducible refine Kd.C_alloc ?_ _) | (with_reducible refine Kd.C_drewN ?_ _) | (with_reducible refine Kd.C_drew ?_))); (case side2 => exact HC0.out); rintro e w6 ⟨v102, rfl, ho0, hb⟩; refine ⟨_, rfl, ?_⟩; have qb_ := below_both bel hb; have n0_ := Aside0.mk (Kd.R_lower ho0 qb_.2); have n1_ := Aside0.mk (qb_.1); clear HB; have HO103 := n0_; have HB := n1_; clear qb_; clear n0_ n1_; (try clear hb); (try clear hb2); (try clear hk); (try clear hi); (try clear ho0)) | ((with_reducible refine gate_dst (N := 20) rfl ?_); refine box_event ?hg (N := 20) ?hd (cs := #[.slice A1 l1.length c1, .int .i64 0]) (t := 30) ?hr ?_; (case hd => rfl); (case hg => rfl); (case hr => first | (go_simp; done) | (go_simp; rfl)); intro gb104 hg w7 hbox hb; have qb_ := below_both bel hb; have n0_ := Aside0.mk (Kd.R_below (rowx HO103.out) hb); have n1_ := Aside0.mk (qb_.1); have n2_ := Aside0.mk ((show IsS30 w w7 gb104 l1 0 from ⟨_, _, hbox, (by rw [hg]; exact qb_.2 : w.heap.size ≤ gb104), HR1.out⟩)); clear HO103; clear HB; have HO103 := n0_; have HB := n1_; have HI104 := n2_; clear qb_; clear n0_ n1_ n2_; clear hb hbox hg; obtain ⟨Ao8, co8, eo8⟩ := Kd.R_slice HO103.out; subst eo8) | ((with_reducible refine gate_callee (f := 10) rfl ?_); refine goesL_ (some 23) rfl rfl Try.func10 (by kernel_rfl) rfl #[.pointer (some ⟨gb104, 0, none⟩), .int .i64 (t101.length : Int)] rfl argx ?_; (with_reducible refine (customsmade_Entry.calls gb104 l1 0 (t101.length : Int) t105 t106 t107 t108 t109 t110 t111 w _ ?side1 ?side2 A4.out).mono ?_); (case side1 => repeat (first | (with_reducible first | exact HI104.out | apply IsS30.alloc | apply IsS30.drewN | apply IsS30.drew | apply IsS30.set_1) | exact HI104.out)); (case side2 => repeat (first | (with_reducible first | exact HB.out | apply below_alloc | apply pw_below_drewN | apply below_drew1 | refine below_set ?_ (IsS30.ge HI104.out)) | exact HB.out)); rintro e w9 ⟨rfl, hi, hb, hk⟩; refine ⟨_, rfl, ?_⟩; have n0_ := Aside0.mk (Kd.R_mono (Kd.R_keep (IsS30.apart (show IsS30 w _ gb104 l1 0 from by repeat (first | (with_reducible first | exact HI104.out | apply IsS30.alloc | apply IsS30.drewN | apply IsS30.drew | apply IsS30.set_1) | exact HI104.out)) (rowx HO103.out) (by decide)) hk (fun _ h => h.2)) (fun _ h => h.1)); have n1_ := Aside0.mk (hb); have n2_ := Aside0.mk (hi); clear HO103; clear HB; clear HI104; have HO103 := n0_; have HB := n1_; have HI104 := n2_; clear n0_ n1_ n2_; (try clear hb); (try clear hb2); (try clear hk); (try clear hi)) | ((with_reducible refine gate_dst (N := 6) rfl ?_); refine box_event ?hg (N := 6) ?hd (cs := #[.int .i64 0, .int .i64 0, .int .i64 0, .int .i64 0, .int .i64 0, .int .i64 0]) (t := 26) ?hr ?_; (case hd => rfl); (case hg => rfl); (case hr => first | (go_simp; done) | (go_simp; rfl)); intro gb112 hg w10 hbox hb; have n0_ := Aside0.mk (Kd.R_below (Kd.R_elderB (rowx HO103.out) gb112 (Nat.le_of_eq hg.symm)) hb); have n1_ := Aside0.mk (IsS30.below (by repeat (first | (with_reducible first | exact HI104.out | apply IsS30.alloc | apply IsS30.drewN | apply IsS30.drew | apply IsS30.set_1) | exact HI104.out)) hb); have n2_ := Aside0.mk (below_step zPA14 hb); have n3_ := Aside0.mk (hbox); have n4_ := Aside0.mk ((by rw [hg]; exact (below_size zPA14) : w.heap.size ≤ gb112)); have n5_ := n4_; have n6_ := Aside0.mk ((by rw [hg]; exact Nat.ne_of_lt (IsS30.lt (show IsS30 w _ gb104 l1 t111 from by repeat (first | (with_reducible first | exact HI104.out | apply IsS30.alloc | apply IsS30.drewN | apply IsS30.drew | apply IsS30.set_1) | exact HI104.out))) : gb104 ≠ gb112)); have n7_ := Aside0.mk (Ne.symm n6_.out); clear HO103; clear HI104; clear HB; have HO103 := n0_; have HI104 := n1_; have HB := n2_; have BK112 := n3_; have GW112 := n4_; have GE112 := n5_; have NB104_112 := n6_; have NB112_104 := n7_; clear n0_ n1_ n2_ n3_ n4_ n5_ n6_ n7_; clear hb hbox hg; have hnb11 := NB112_104.out; have hnc11 := NB104_112.out; obtain ⟨hcz12_0, hcz12_1, hcz12_2, hcz12_3, hcz12_4, hcz12_5, hfz12_0, hfz12_1, hfz12_2, hfz12_3, hfz12_4, hfz12_5⟩ := cells6 BK112.out))
 (try simp only [Act.put, List.setIfInBounds_toArray, List.set_cons_zero, List.set_cons_succ])
 go_cut [] (fun wc => ∃ (kq : Nat) (x113002_4 : Int) (x113004_4 : Int), Aside0 (customslaw30_LedgerReversal.j0 kq t101 t105 t106 x113002_4 t108 x113004_4 t110 = some true) ∧ Aside0 (kq ≤ k) ∧ Aside0 (Kd.R k26 26 wc w.heap.size (fun k_ => k_ ≠ gb112) (.slice Ao8 t101.length co8) t101) ∧ Aside0 (wc.heap[gb112]? = some (.cells #[.int .i64 t105, .int .i64 t106, .int .i64 x113002_4, .int .i64 t108, .int .i64 x113004_4, .int .i64 t110] 26 (0, 0))) ∧ Aside0 (Below w.heap.size w wc))
 case first =>
  have H := HC5.out; clear HC5
  by_cases c13 : t107 = 9
  ·rw [if_pos c13] at H
   have c13b0 : (t107 == 9) = true := beq_iff_eq.mpr c13; have c13b1 : (t107 != 9) = false := bne_eq_false_iff_eq.mpr c13; clear c13
   (first | rw [c13b0] | (simp only [i64_w, i32_w]; rw [c13b0]) | skip)
   have H' := Aside0.mk H; clear H; have hnb14 := NB112_104.out; have hnc14 := NB104_112.out; obtain ⟨hcz15_0, hcz15_1, hcz15_2, hcz15_3, hcz15_4, hcz15_5, hfz15_0, hfz15_1, hfz15_2, hfz15_3, hfz15_4, hfz15_5⟩ := cells6 BK112.out
   go_wp2
   go_meet
   case rel => exact ⟨_, (1), (7), H', ⟨by first | omega | exact Nat.le_refl _⟩, ⟨by (with_reducible repeat (first | apply Kd.R_alloc | apply Kd.R_drewN | apply Kd.R_drew)); exact Kd.R_mono (Kd.R_far (p := ⟨gb112, 4, none⟩) (Kd.R_far (p := ⟨gb112, 2, none⟩) (Kd.R_far (p := ⟨gb112, 5, none⟩) (Kd.R_far (p := ⟨gb112, 4, none⟩) (Kd.R_far (p := ⟨gb112, 3, none⟩) (Kd.R_far (p := ⟨gb112, 2, none⟩) (Kd.R_far (p := ⟨gb112, 1, none⟩) (Kd.R_far (p := ⟨gb112, 0, none⟩) (Kd.R_mono HO103.out (fun k_ hk => (⟨hk, hk.2⟩ : _ ∧ k_ ≠ gb112))) (fun _ hk => hk.2) (.int .i64 t105)) (fun _ hk => hk.2) (.int .i64 t106)) (fun _ hk => hk.2) (.int .i64 t107)) (fun _ hk => hk.2) (.int .i64 t108)) (fun _ hk => hk.2) (.int .i64 t109)) (fun _ hk => hk.2) (.int .i64 t110)) (fun _ hk => hk.2) (.int .i64 1)) (fun _ hk => hk.2) (.int .i64 7)) (fun _ hk => hk.1.2)⟩, ⟨by (with_reducible repeat (first | refine blk_drewN ?_ _ | refine blk_drew ?_ | refine blk_alloc ?_ _)); refine blk_put (cs := #[.int .i64 t105, .int .i64 t106, .int .i64 1, .int .i64 t108, .int .i64 t109, .int .i64 t110]) ?_ 4 _ rfl; (with_reducible repeat (first | refine blk_drewN ?_ _ | refine blk_drew ?_ | refine blk_alloc ?_ _)); refine blk_put (cs := #[.int .i64 t105, .int .i64 t106, .int .i64 t107, .int .i64 t108, .int .i64 t109, .int .i64 t110]) ?_ 2 _ rfl; (with_reducible repeat (first | refine blk_drewN ?_ _ | refine blk_drew ?_ | refine blk_alloc ?_ _)); refine blk_put (cs := #[.int .i64 t105, .int .i64 t106, .int .i64 t107, .int .i64 t108, .int .i64 t109, .int .i64 0]) ?_ 5 _ rfl; (with_reducible repeat (first | refine blk_drewN ?_ _ | refine blk_drew ?_ | refine blk_alloc ?_ _)); refine blk_put (cs := #[.int .i64 t105, .int .i64 t106, .int .i64 t107, .int .i64 t108, .int .i64 0, .int .i64 0]) ?_ 4 _ rfl; (with_reducible repeat (first | refine blk_drewN ?_ _ | refine blk_drew ?_ | refine blk_alloc ?_ _)); refine blk_put (cs := #[.int .i64 t105, .int .i64 t106, .int .i64 t107, .int .i64 0, .int .i64 0, .int .i64 0]) ?_ 3 _ rfl; (with_reducible repeat (first | refine blk_drewN ?_ _ | refine blk_drew ?_ | refine blk_alloc ?_ _)); refine blk_put (cs := #[.int .i64 t105, .int .i64 t106, .int .i64 0, .int .i64 0, .int .i64 0, .int .i64 0]) ?_ 2 _ rfl; (with_reducible repeat (first | refine blk_drewN ?_ _ | refine blk_drew ?_ | refine blk_alloc ?_ _)); refine blk_put (cs := #[.int .i64 t105, .int .i64 0, .int .i64 0, .int .i64 0, .int .i64 0, .int .i64 0]) ?_ 1 _ rfl; (with_reducible repeat (first | refine blk_drewN ?_ _ | refine blk_drew ?_ | refine blk_alloc ?_ _)); refine blk_put (cs := #[.int .i64 0, .int .i64 0, .int .i64 0, .int .i64 0, .int .i64 0, .int .i64 0]) ?_ 0 _ rfl; (with_reducible repeat (first | refine blk_drewN ?_ _ | refine blk_drew ?_ | refine blk_alloc ?_ _)); exact BK112.out⟩, ⟨by repeat (first | (with_reducible first | exact HB.out | apply below_alloc | apply pw_below_drewN | apply below_drew1 | refine below_set ?_ (IsS30.ge HI104.out) | refine below_set ?_ GE112.out) | exact HB.out)⟩⟩
  ·rw [if_neg c13] at H
   have c13b0 : (t107 == 9) = false := beq_eq_false_iff_ne.mpr c13; have c13b1 : (t107 != 9) = true := bne_iff_ne.mpr c13
   (first | rw [c13b0] | (simp only [i64_w, i32_w]; rw [c13b0]) | skip)
   have H' := Aside0.mk H; clear H
   go_wp2
   go_meet
   case rel => exact ⟨_, (t107), (t109), H', ⟨by first | omega | exact Nat.le_refl _⟩, ⟨by (with_reducible repeat (first | apply Kd.R_alloc | apply Kd.R_drewN | apply Kd.R_drew)); exact Kd.R_mono (Kd.R_far (p := ⟨gb112, 5, none⟩) (Kd.R_far (p := ⟨gb112, 4, none⟩) (Kd.R_far (p := ⟨gb112, 3, none⟩) (Kd.R_far (p := ⟨gb112, 2, none⟩) (Kd.R_far (p := ⟨gb112, 1, none⟩) (Kd.R_far (p := ⟨gb112, 0, none⟩) (Kd.R_mono HO103.out (fun k_ hk => (⟨hk, hk.2⟩ : _ ∧ k_ ≠ gb112))) (fun _ hk => hk.2) (.int .i64 t105)) (fun _ hk => hk.2) (.int .i64 t106)) (fun _ hk => hk.2) (.int .i64 t107)) (fun _ hk => hk.2) (.int .i64 t108)) (fun _ hk => hk.2) (.int .i64 t109)) (fun _ hk => hk.2) (.int .i64 t110)) (fun _ hk => hk.1.2)⟩, ⟨by (with_reducible repeat (first | refine blk_drewN ?_ _ | refine blk_drew ?_ | refine blk_alloc ?_ _)); refine blk_put (cs := #[.int .i64 t105, .int .i64 t106, .int .i64 t107, .int .i64 t108, .int .i64 t109, .int .i64 0]) ?_ 5 _ rfl; (with_reducible repeat (first | refine blk_drewN ?_ _ | refine blk_drew ?_ | refine blk_alloc ?_ _)); refine blk_put (cs := #[.int .i64 t105, .int .i64 t106, .int .i64 t107, .int .i64 t108, .int .i64 0, .int .i64 0]) ?_ 4 _ rfl; (with_reducible repeat (first | refine blk_drewN ?_ _ | refine blk_drew ?_ | refine blk_alloc ?_ _)); refine blk_put (cs := #[.int .i64 t105, .int .i64 t106, .int .i64 t107, .int .i64 0, .int .i64 0, .int .i64 0]) ?_ 3 _ rfl; (with_reducible repeat (first | refine blk_drewN ?_ _ | refine blk_drew ?_ | refine blk_alloc ?_ _)); refine blk_put (cs := #[.int .i64 t105, .int .i64 t106, .int .i64 0, .int .i64 0, .int .i64 0, .int .i64 0]) ?_ 2 _ rfl; (with_reducible repeat (first | refine blk_drewN ?_ _ | refine blk_drew ?_ | refine blk_alloc ?_ _)); refine blk_put (cs := #[.int .i64 t105, .int .i64 0, .int .i64 0, .int .i64 0, .int .i64 0, .int .i64 0]) ?_ 1 _ rfl; (with_reducible repeat (first | refine blk_drewN ?_ _ | refine blk_drew ?_ | refine blk_alloc ?_ _)); refine blk_put (cs := #[.int .i64 0, .int .i64 0, .int .i64 0, .int .i64 0, .int .i64 0, .int .i64 0]) ?_ 0 _ rfl; (with_reducible repeat (first | refine blk_drewN ?_ _ | refine blk_drew ?_ | refine blk_alloc ?_ _)); exact BK112.out⟩, ⟨by repeat (first | (with_reducible first | exact HB.out | apply below_alloc | apply pw_below_drewN | apply below_drew1 | refine below_set ?_ (IsS30.ge HI104.out) | refine below_set ?_ GE112.out) | exact HB.out)⟩⟩
 case rest =>
  clear HC5
  try clear c1
  try clear p2
  try clear c4
  try clear c9
  try clear c10
  try clear c11
  try clear c13
  try clear c13b0
  try clear c13b1
  try clear c14
  try clear hcz12_0
  try clear hcz12_1
  try clear hcz12_2
  try clear hcz12_3
  try clear hcz12_4
  try clear hcz12_5
  try clear hcz15_0
  try clear hcz15_1
  try clear hcz15_2
  try clear hcz15_3
  try clear hcz15_4
  try clear hcz15_5
  try clear hfz12_0
  try clear hfz12_1
  try clear hfz12_2
  try clear hfz12_3
  try clear hfz12_4
  try clear hfz12_5
  try clear hfz15_0
  try clear hfz15_1
  try clear hfz15_2
  try clear hfz15_3
  try clear hfz15_4
  try clear hfz15_5
  obtain ⟨kq, x113002_4, x113004_4, HA, HJ4, HO_5, BK112, HB⟩ := hcut
  cases kq with
  | zero => exact absurd HA.out (by simp [customslaw30_LedgerReversal.j0])
  | succ kj4 =>
   have H := HA.out; clear HA
   simp only [customslaw30_LedgerReversal.j0] at H
   replace H := Option.bind_eq_some_iff.mp H; obtain ⟨⟨t113, t116⟩, A160, H⟩ := H; replace H : (if t116 = 0 then ((ledger_Append.f t113 (wrap64 ((t101.length : Int) + 2)) t106 9 t108 (wrap64 ((t101.length : Int) + 1)) 0).bind fun bt119 => (if bt119.2 = 0 then ((ledger_BalanceOf.f bt119.1 t108).bind fun bt123 => ((ledger_BalanceOf.f t101 t108).bind fun bt128 => (customslaw30_LedgerReversal.j1 kj4 t101 bt119.1 (!(bt123.1 == bt128.1) || (!(bt123.2.1 == bt128.2.1) || (!(bt123.2.2.1 == bt128.2.2.1) || (!(bt123.2.2.2.1 == bt128.2.2.2.1) || (!(bt123.2.2.2.2 == bt128.2.2.2.2)))))) (wrap64 ((t101.length : Int) + 2)) t106 9 t108 (wrap64 ((t101.length : Int) + 1)) 0))) else (customslaw30_LedgerReversal.j1 kj4 t101 bt119.1 true (wrap64 ((t101.length : Int) + 2)) t106 9 t108 (wrap64 ((t101.length : Int) + 1)) 0))) else (if t116 = 16 then ((customslaw30_awake.f).bind fun t117 => (some t117)) else (some false))) = some true := H; have A16 := Aside0.mk A160; clear A160
   by_cases c17 : t116 = 0
   ·rw [if_pos c17] at H
    have c17b0 : (t116 == 0) = true := beq_iff_eq.mpr c17; have c17b1 : (t116 != 0) = false := bne_eq_false_iff_eq.mpr c17; clear c17; replace H := Option.bind_eq_some_iff.mp H; obtain ⟨⟨t119, t122⟩, A180, H⟩ := H; replace H : (if t122 = 0 then ((ledger_BalanceOf.f t119 t108).bind fun bt123 => ((ledger_BalanceOf.f t101 t108).bind fun bt128 => (customslaw30_LedgerReversal.j1 kj4 t101 t119 (!(bt123.1 == bt128.1) || (!(bt123.2.1 == bt128.2.1) || (!(bt123.2.2.1 == bt128.2.2.1) || (!(bt123.2.2.2.1 == bt128.2.2.2.1) || (!(bt123.2.2.2.2 == bt128.2.2.2.2)))))) (wrap64 ((t101.length : Int) + 2)) t106 9 t108 (wrap64 ((t101.length : Int) + 1)) 0))) else (customslaw30_LedgerReversal.j1 kj4 t101 t119 true (wrap64 ((t101.length : Int) + 2)) t106 9 t108 (wrap64 ((t101.length : Int) + 1)) 0)) = some true := H; have A18 := Aside0.mk A180; clear A180; have HC19 := Aside0.mk H; clear H; obtain ⟨hcz20_0, hcz20_1, hcz20_2, hcz20_3, hcz20_4, hcz20_5, hfz20_0, hfz20_1, hfz20_2, hfz20_3, hfz20_4, hfz20_5⟩ := cells6 BK112.out
    go_upto_region 10 with (first | ((with_reducible refine gate_callee (f := 11) rfl ?_); refine goesL_ (some 32) rfl rfl Try.func11 (by kernel_rfl) rfl #[.slice Ao8 t101.length co8, .agg #[.int .i64 t105, .int .i64 t106, .int .i64 x113002_4, .int .i64 t108, .int .i64 x113004_4, .int .i64 t110]] rfl argx ?_; (with_reducible refine (ledger_Append.calls _ _ t101 t105 t106 x113002_4 t108 x113004_4 t110 t113 t116 _ ?side1 ?side2 A16.out).mono ?_); (case side1 => repeat (first | exact (Kd.R_reads' HO_5.out).2.2 | (with_reducible refine Kd.C_alloc ?_ _) | (with_reducible refine Kd.C_drewN ?_ _) | (with_reducible refine Kd.C_drew ?_))); (case side2 => exact (Kd.R_reads' HO_5.out).2.1); rintro e w21 ⟨v114, rfl, ho0, hb⟩; refine ⟨_, rfl, ?_⟩; have qb_ := below_both bel hb; have q1_ := Kd.R_elder2 (rowx HO_5.out) (Kd.R_base ho0) hb; have n0_ := Aside0.mk (q1_.1); have n1_ := Aside0.mk (Kd.R_lower (Kd.R_newB (Kd.R_new' ho0 q1_.2) (g := gb112) (o := .cells #[.int .i64 t105, .int .i64 t106, .int .i64 x113002_4, .int .i64 t108, .int .i64 x113004_4, .int .i64 t110] 26 (0, 0)) blkx) qb_.2); have n2_ := Aside0.mk (blk_below (g := gb112) (o := .cells #[.int .i64 t105, .int .i64 t106, .int .i64 x113002_4, .int .i64 t108, .int .i64 x113004_4, .int .i64 t110] 26 (0, 0)) blkx hb); have n3_ := Aside0.mk (qb_.1); clear HO_5; clear BK112; clear HB; have HO_5 := n0_; have HO115 := n1_; have BK112 := n2_; have HB := n3_; clear q1_; clear qb_; clear n0_ n1_ n2_ n3_; (try clear hb); (try clear hb2); (try clear hk); (try clear hi); (try clear ho0); obtain ⟨hcz22_0, hcz22_1, hcz22_2, hcz22_3, hcz22_4, hcz22_5, hfz22_0, hfz22_1, hfz22_2, hfz22_3, hfz22_4, hfz22_5⟩ := cells6 BK112.out) | ((with_reducible refine gate_dst (N := 9) rfl ?_); refine box_event ?hg (N := 9) ?hd (cs := #[.int .i64 0, .int .i64 0, .int .i64 0, .int .i64 0, .int .i64 0, .int .i64 0]) (t := 26) ?hr ?_; (case hd => rfl); (case hg => rfl); (case hr => first | (go_simp; done) | (go_simp; rfl)); intro gb118 hg w23 hbox hb; have qb_ := below_both bel hb; have n0_ := Aside0.mk (Kd.R_below (Kd.R_elderB (rowx HO_5.out) gb118 (Nat.le_of_eq hg.symm)) hb); have n1_ := Aside0.mk (Kd.R_below (Kd.R_elderB (rowx HO115.out) gb118 (Nat.le_of_eq hg.symm)) hb); have q1_ := blk_below2 (g := gb112) (o := .cells #[.int .i64 t105, .int .i64 t106, .int .i64 x113002_4, .int .i64 t108, .int .i64 x113004_4, .int .i64 t110] 26 (0, 0)) blkx hb; have n2_ := Aside0.mk (q1_.1); have n3_ := Aside0.mk (qb_.1); have n4_ := Aside0.mk (hbox); have n5_ := Aside0.mk ((by rw [hg]; exact qb_.2 : w.heap.size ≤ gb118)); have n6_ := n5_; have n7_ := Aside0.mk ((by rw [hg]; exact Nat.ne_of_lt q1_.2 : gb112 ≠ gb118)); have n8_ := Aside0.mk (Ne.symm n7_.out); clear HO_5; clear HO115; clear BK112; clear HB; have HO_5 := n0_; have HO115 := n1_; have BK112 := n2_; have HB := n3_; have BK118 := n4_; have GW118 := n5_; have GE118 := n6_; have NB112_118 := n7_; have NB118_112 := n8_; clear q1_; clear qb_; clear n0_ n1_ n2_ n3_ n4_ n5_ n6_ n7_ n8_; clear hb hbox hg; have hnb24 := NB118_112.out; have hnc24 := NB112_118.out; obtain ⟨hcz25_0, hcz25_1, hcz25_2, hcz25_3, hcz25_4, hcz25_5, hfz25_0, hfz25_1, hfz25_2, hfz25_3, hfz25_4, hfz25_5⟩ := cells6 BK118.out; obtain ⟨Ao26, co26, eo26⟩ := Kd.R_slice HO115.out; subst eo26) | ((with_reducible refine gate_callee (f := 11) rfl ?_); refine goesL_ (some 56) rfl rfl Try.func11 (by kernel_rfl) rfl #[.slice Ao26 t113.length co26, .agg #[.int .i64 (wrap64 ((t101.length : Int) + 2)), .int .i64 t106, .int .i64 9, .int .i64 t108, .int .i64 (wrap64 ((t101.length : Int) + 1)), .int .i64 0]] rfl argx ?_; (with_reducible refine (ledger_Append.calls _ _ t113 (wrap64 ((t101.length : Int) + 2)) t106 9 t108 (wrap64 ((t101.length : Int) + 1)) 0 t119 t122 _ ?side1 ?side2 A18.out).mono ?_); (case side1 => refine (Kd.R_reads' (e := 26) (base := w.heap.size) (ok := fun k_ => (((True ∧ some k_ ≠ (.slice Ao8 t101.length co8 : Value).ownBlock) ∧ k_ ≠ gb112) ∧ k_ ≠ gb118)) (n := t113.length) (c := co26) ?_).2.2; exact (by (with_reducible repeat (first | apply Kd.R_alloc | apply Kd.R_drewN | apply Kd.R_drew)); exact (Kd.R_mono (Kd.R_far (p := ⟨gb118, 5, none⟩) (Kd.R_far (p := ⟨gb118, 4, none⟩) (Kd.R_far (p := ⟨gb118, 3, none⟩) (Kd.R_far (p := ⟨gb118, 2, none⟩) (Kd.R_far (p := ⟨gb118, 1, none⟩) (Kd.R_far (p := ⟨gb118, 0, none⟩) (Kd.R_mono HO115.out (fun k_ hk => (⟨hk, hk.2⟩ : _ ∧ k_ ≠ gb118))) (fun _ hk => hk.2) (.int .i64 (wrap64 ((t101.length : Int) + 2)))) (fun _ hk => hk.2) (.int .i64 t106)) (fun _ hk => hk.2) (.int .i64 9)) (fun _ hk => hk.2) (.int .i64 t108)) (fun _ hk => hk.2) (.int .i64 (wrap64 ((t101.length : Int) + 1)))) (fun _ hk => hk.2) (.int .i64 0)) (fun _ h_ => h_.1)))); (case side2 => exact (Kd.R_reads' HO115.out).2.1); rintro e w27 ⟨v120, rfl, ho0, hb⟩; refine ⟨_, rfl, ?_⟩; have qb_ := below_both bel hb; have q1_ := Kd.R_elder2 (by (with_reducible repeat (first | apply Kd.R_alloc | apply Kd.R_drewN | apply Kd.R_drew)); exact (Kd.R_mono (Kd.R_far (p := ⟨gb118, 5, none⟩) (Kd.R_far (p := ⟨gb118, 4, none⟩) (Kd.R_far (p := ⟨gb118, 3, none⟩) (Kd.R_far (p := ⟨gb118, 2, none⟩) (Kd.R_far (p := ⟨gb118, 1, none⟩) (Kd.R_far (p := ⟨gb118, 0, none⟩) (Kd.R_mono HO_5.out (fun k_ hk => (⟨hk, hk.2⟩ : _ ∧ k_ ≠ gb118))) (fun _ hk => hk.2) (.int .i64 (wrap64 ((t101.length : Int) + 2)))) (fun _ hk => hk.2) (.int .i64 t106)) (fun _ hk => hk.2) (.int .i64 9)) (fun _ hk => hk.2) (.int .i64 t108)) (fun _ hk => hk.2) (.int .i64 (wrap64 ((t101.length : Int) + 1)))) (fun _ hk => hk.2) (.int .i64 0)) (fun _ h_ => h_.1))) (Kd.R_base ho0) hb; have n0_ := Aside0.mk (q1_.1); have q2_ := Kd.R_elder2 (by (with_reducible repeat (first | apply Kd.R_alloc | apply Kd.R_drewN | apply Kd.R_drew)); exact (Kd.R_mono (Kd.R_far (p := ⟨gb118, 5, none⟩) (Kd.R_far (p := ⟨gb118, 4, none⟩) (Kd.R_far (p := ⟨gb118, 3, none⟩) (Kd.R_far (p := ⟨gb118, 2, none⟩) (Kd.R_far (p := ⟨gb118, 1, none⟩) (Kd.R_far (p := ⟨gb118, 0, none⟩) (Kd.R_mono HO115.out (fun k_ hk => (⟨hk, hk.2⟩ : _ ∧ k_ ≠ gb118))) (fun _ hk => hk.2) (.int .i64 (wrap64 ((t101.length : Int) + 2)))) (fun _ hk => hk.2) (.int .i64 t106)) (fun _ hk => hk.2) (.int .i64 9)) (fun _ hk => hk.2) (.int .i64 t108)) (fun _ hk => hk.2) (.int .i64 (wrap64 ((t101.length : Int) + 1)))) (fun _ hk => hk.2) (.int .i64 0)) (fun _ h_ => h_.1))) (Kd.R_base ho0) hb; have n1_ := Aside0.mk (q2_.1); have n2_ := Aside0.mk (Kd.R_lower (Kd.R_newB (Kd.R_newB (Kd.R_new' (Kd.R_new' ho0 q1_.2) q2_.2) (g := gb112) (o := .cells #[.int .i64 t105, .int .i64 t106, .int .i64 x113002_4, .int .i64 t108, .int .i64 x113004_4, .int .i64 t110] 26 (0, 0)) blkx) (g := gb118) (o := .cells #[.int .i64 (wrap64 ((t101.length : Int) + 2)), .int .i64 t106, .int .i64 9, .int .i64 t108, .int .i64 (wrap64 ((t101.length : Int) + 1)), .int .i64 0] 26 (0, 0)) (by (with_reducible repeat (first | refine blk_drewN ?_ _ | refine blk_drew ?_ | refine blk_alloc ?_ _)); refine blk_put (cs := #[.int .i64 (wrap64 ((t101.length : Int) + 2)), .int .i64 t106, .int .i64 9, .int .i64 t108, .int .i64 (wrap64 ((t101.length : Int) + 1)), .int .i64 0]) ?_ 5 _ rfl; refine blk_put (cs := #[.int .i64 (wrap64 ((t101.length : Int) + 2)), .int .i64 t106, .int .i64 9, .int .i64 t108, .int .i64 0, .int .i64 0]) ?_ 4 _ rfl; refine blk_put (cs := #[.int .i64 (wrap64 ((t101.length : Int) + 2)), .int .i64 t106, .int .i64 9, .int .i64 0, .int .i64 0, .int .i64 0]) ?_ 3 _ rfl; refine blk_put (cs := #[.int .i64 (wrap64 ((t101.length : Int) + 2)), .int .i64 t106, .int .i64 0, .int .i64 0, .int .i64 0, .int .i64 0]) ?_ 2 _ rfl; refine blk_put (cs := #[.int .i64 (wrap64 ((t101.length : Int) + 2)), .int .i64 0, .int .i64 0, .int .i64 0, .int .i64 0, .int .i64 0]) ?_ 1 _ rfl; refine blk_put (cs := #[.int .i64 0, .int .i64 0, .int .i64 0, .int .i64 0, .int .i64 0, .int .i64 0]) ?_ 0 _ rfl; (with_reducible repeat (first | refine blk_drewN ?_ _ | refine blk_drew ?_ | refine blk_alloc ?_ _)); exact BK118.out)) qb_.2); have n3_ := Aside0.mk (blk_below (g := gb112) (o := .cells #[.int .i64 t105, .int .i64 t106, .int .i64 x113002_4, .int .i64 t108, .int .i64 x113004_4, .int .i64 t110] 26 (0, 0)) blkx hb); have n4_ := Aside0.mk (blk_below (g := gb118) (o := .cells #[.int .i64 (wrap64 ((t101.length : Int) + 2)), .int .i64 t106, .int .i64 9, .int .i64 t108, .int .i64 (wrap64 ((t101.length : Int) + 1)), .int .i64 0] 26 (0, 0)) (by (with_reducible repeat (first | refine blk_drewN ?_ _ | refine blk_drew ?_ | refine blk_alloc ?_ _)); refine blk_put (cs := #[.int .i64 (wrap64 ((t101.length : Int) + 2)), .int .i64 t106, .int .i64 9, .int .i64 t108, .int .i64 (wrap64 ((t101.length : Int) + 1)), .int .i64 0]) ?_ 5 _ rfl; refine blk_put (cs := #[.int .i64 (wrap64 ((t101.length : Int) + 2)), .int .i64 t106, .int .i64 9, .int .i64 t108, .int .i64 0, .int .i64 0]) ?_ 4 _ rfl; refine blk_put (cs := #[.int .i64 (wrap64 ((t101.length : Int) + 2)), .int .i64 t106, .int .i64 9, .int .i64 0, .int .i64 0, .int .i64 0]) ?_ 3 _ rfl; refine blk_put (cs := #[.int .i64 (wrap64 ((t101.length : Int) + 2)), .int .i64 t106, .int .i64 0, .int .i64 0, .int .i64 0, .int .i64 0]) ?_ 2 _ rfl; refine blk_put (cs := #[.int .i64 (wrap64 ((t101.length : Int) + 2)), .int .i64 0, .int .i64 0, .int .i64 0, .int .i64 0, .int .i64 0]) ?_ 1 _ rfl; refine blk_put (cs := #[.int .i64 0, .int .i64 0, .int .i64 0, .int .i64 0, .int .i64 0, .int .i64 0]) ?_ 0 _ rfl; (with_reducible repeat (first | refine blk_drewN ?_ _ | refine blk_drew ?_ | refine blk_alloc ?_ _)); exact BK118.out) hb); have n5_ := Aside0.mk (qb_.1); clear HO_5; clear HO115; clear BK112; clear BK118; clear HB; have HO_5 := n0_; have HO115 := n1_; have HO121 := n2_; have BK112 := n3_; have BK118 := n4_; have HB := n5_; clear q1_ q2_; clear qb_; clear n0_ n1_ n2_ n3_ n4_ n5_; (try clear hb); (try clear hb2); (try clear hk); (try clear hi); (try clear ho0)))
    (try simp only [Act.put, List.setIfInBounds_toArray, List.set_cons_zero, List.set_cons_succ])
    go_cut [71] (fun v71 wc => ∃ (kq : Nat) (x71_18 : Bool), v71 = .bool x71_18 ∧ Aside0 (customslaw30_LedgerReversal.j1 kq t101 t119 x71_18 (wrap64 ((t101.length : Int) + 2)) t106 9 t108 (wrap64 ((t101.length : Int) + 1)) 0 = some true) ∧ Aside0 (kq ≤ kj4) ∧ Aside0 (Kd.R k26 26 wc w.heap.size (fun k_ => some k_ ≠ (v120 : Value).ownBlock ∧ k_ ≠ gb112 ∧ k_ ≠ gb118) (.slice Ao8 t101.length co8) t101) ∧ Aside0 (Kd.R k26 26 wc w.heap.size (fun k_ => some k_ ≠ ((.slice Ao8 t101.length co8) : Value).ownBlock ∧ k_ ≠ gb112 ∧ k_ ≠ gb118) v120 t119) ∧ Aside0 (wc.heap[gb112]? = some (.cells #[.int .i64 t105, .int .i64 t106, .int .i64 x113002_4, .int .i64 t108, .int .i64 x113004_4, .int .i64 t110] 26 (0, 0))) ∧ Aside0 (wc.heap[gb118]? = some (.cells #[.int .i64 (wrap64 ((t101.length : Int) + 2)), .int .i64 t106, .int .i64 9, .int .i64 t108, .int .i64 (wrap64 ((t101.length : Int) + 1)), .int .i64 0] 26 (0, 0))) ∧ Aside0 (Below w.heap.size w wc))
    case first =>
     have H := HC19.out; clear HC19
     by_cases c28 : t122 = 0
     ·rw [if_pos c28] at H
      have c28b0 : (t122 == 0) = true := beq_iff_eq.mpr c28; have c28b1 : (t122 != 0) = false := bne_eq_false_iff_eq.mpr c28; clear c28
      (first | rw [c28b0] | (simp only [i64_w, i32_w]; rw [c28b0]) | skip)
      replace H := Option.bind_eq_some_iff.mp H; obtain ⟨⟨t123, t124, t125, t126, t127⟩, A290, H⟩ := H; replace H : ((ledger_BalanceOf.f t101 t108).bind fun bt128 => (customslaw30_LedgerReversal.j1 kj4 t101 t119 (!(t123 == bt128.1) || (!(t124 == bt128.2.1) || (!(t125 == bt128.2.2.1) || (!(t126 == bt128.2.2.2.1) || (!(t127 == bt128.2.2.2.2)))))) (wrap64 ((t101.length : Int) + 2)) t106 9 t108 (wrap64 ((t101.length : Int) + 1)) 0)) = some true := H; have A29 := Aside0.mk A290; clear A290; replace H := Option.bind_eq_some_iff.mp H; obtain ⟨⟨t128, t129, t130, t131, t132⟩, A300, H⟩ := H; replace H : (customslaw30_LedgerReversal.j1 kj4 t101 t119 (!(t123 == t128) || (!(t124 == t129) || (!(t125 == t130) || (!(t126 == t131) || (!(t127 == t132)))))) (wrap64 ((t101.length : Int) + 2)) t106 9 t108 (wrap64 ((t101.length : Int) + 1)) 0) = some true := H; have A30 := Aside0.mk A300; clear A300; have H' := Aside0.mk H; clear H
      try go_wp2
      have n0_ := Aside0.mk (Kd.R_drew HO_5.out); have n1_ := Aside0.mk (Kd.R_drew HO115.out); have n2_ := Aside0.mk (Kd.R_drew HO121.out); have n3_ := Aside0.mk (blk_drew BK112.out); have n4_ := Aside0.mk (blk_drew BK118.out); have n5_ := Aside0.mk (below_drew1 HB.out); clear HO_5; clear HO115; clear HO121; clear BK112; clear BK118; clear HB; have HO_5 := n0_; have HO115 := n1_; have HO121 := n2_; have BK112 := n3_; have BK118 := n4_; have HB := n5_; clear n0_ n1_ n2_ n3_ n4_ n5_; obtain ⟨Ao32, co32, eo32⟩ := Kd.R_slice HO121.out
      (first | subst eo32 | (injection eo32 with f1_ f2_ f3_; have f4_ := f1_.symm; have f5_ := f3_.symm; clear f1_ f2_ f3_; subst f4_; subst f5_))
      refine start_ (n := 13) (S := fun w' => w'.cell? ⟨gb112, 0, none⟩ = some (.int .i64 t105) ∧ w'.cell? ⟨gb112, 1, none⟩ = some (.int .i64 t106) ∧ w'.cell? ⟨gb112, 2, none⟩ = some (.int .i64 x113002_4) ∧ w'.cell? ⟨gb112, 3, none⟩ = some (.int .i64 t108) ∧ w'.cell? ⟨gb112, 4, none⟩ = some (.int .i64 x113004_4) ∧ w'.cell? ⟨gb112, 5, none⟩ = some (.int .i64 t110)) (ds := []) #[false, false, false, false, false, false, false, false, false, false, false, false, false] (by kernel_rfl) rfl rfl ⟨(blk_cell BK112.out 0).trans rfl, (blk_cell BK112.out 1).trans rfl, (blk_cell BK112.out 2).trans rfl, (blk_cell BK112.out 3).trans rfl, (blk_cell BK112.out 4).trans rfl, (blk_cell BK112.out 5).trans rfl⟩ (fun hHeld => ?_); refine with_tabW customslaw30_LedgerReversal.tab10 customslaw30_LedgerReversal.bits10 (fun HT_ HW_ => ?_)
      generalize w27.drew = w31 at HO_5 HO115 HO121 BK112 BK118 HB hHeld ⊢
      refine pure_ (i := 0) (N := some 59) (v := ?_) (a' := ?_) #[true, false, false, false, false, false, false, false, false, false, false, false, false] rfl rfl (any_of HT_.out (by kernel_rfl)) (fun _ _ _ h => h) (Or.inl ⟨by rfl, ?_⟩) ?_ ?_
      rotate_left
      ·intro w'
       go_simp
       with_reducible rfl
      rotate_left
      ·simp only [Act.put, List.setIfInBounds_toArray, List.set_cons_zero, List.set_cons_succ, i64_w, i32_w]
       rfl
      refine pure_ (i := 1) (N := some 60) (v := ?_) (a' := ?_) #[true, true, false, false, false, false, false, false, false, false, false, false, false] rfl rfl (any_of HT_.out (by kernel_rfl)) (fun _ _ _ h => h) (Or.inl ⟨by rfl, ?_⟩) ?_ ?_
      rotate_left
      ·intro w'
       go_simp
       with_reducible rfl
      rotate_left
      ·simp only [Act.put, List.setIfInBounds_toArray, List.set_cons_zero, List.set_cons_succ, i64_w, i32_w]
       rfl
      refine pure_ (i := 2) (N := some 61) (v := ?_) (a' := ?_) #[true, true, true, false, false, false, false, false, false, false, false, false, false] rfl rfl (any_of HT_.out (by kernel_rfl)) (fun _ _ _ h => h) (Or.inl ⟨by rfl, ?_⟩) ?_ ?_
      rotate_left
      ·intro w'
       go_simp
       with_reducible rfl
      rotate_left
      ·simp only [Act.put, List.setIfInBounds_toArray, List.set_cons_zero, List.set_cons_succ, i64_w, i32_w]
       rfl
      refine pure_ (i := 3) (N := some 62) (v := ?_) (a' := ?_) #[true, true, true, true, false, false, false, false, false, false, false, false, false] rfl rfl (any_of HT_.out (by kernel_rfl)) (fun _ _ _ h => h) (Or.inl ⟨by rfl, ?_⟩) ?_ ?_
      rotate_left
      ·intro w'
       go_simp
       with_reducible rfl
      rotate_left
      ·simp only [Act.put, List.setIfInBounds_toArray, List.set_cons_zero, List.set_cons_succ, i64_w, i32_w]
       rfl
      refine pure_ (i := 4) (N := some 63) (v := ?_) (a' := ?_) #[true, true, true, true, true, false, false, false, false, false, false, false, false] rfl rfl (any_of HT_.out (by kernel_rfl)) (fun _ _ _ h => h) (Or.inl ⟨by rfl, ?_⟩) ?_ ?_
      rotate_left
      ·intro w'
       go_simp
       with_reducible rfl
      rotate_left
      ·simp only [Act.put, List.setIfInBounds_toArray, List.set_cons_zero, List.set_cons_succ, i64_w, i32_w]
       rfl
      refine pure_ (i := 7) (N := some 66) (v := ?_) (a' := ?_) #[true, true, true, true, true, false, false, true, false, false, false, false, false] rfl rfl (any_of HT_.out (by kernel_rfl)) (fun _ _ _ h => h) (Or.inl ⟨by rfl, ?_⟩) ?_ ?_
      rotate_left
      ·intro w'
       go_simp
       with_reducible rfl
      rotate_left
      ·simp only [Act.put, List.setIfInBounds_toArray, List.set_cons_zero, List.set_cons_succ, i64_w, i32_w]
       rfl
      refine pure_ (i := 8) (N := some 67) (v := ?_) (a' := ?_) #[true, true, true, true, true, false, false, true, true, false, false, false, false] rfl rfl (any_of HT_.out (by kernel_rfl)) (fun _ _ _ h => h) (Or.inl ⟨by rfl, ?_⟩) ?_ ?_
      rotate_left
      ·intro w'
       go_simp
       with_reducible rfl
      rotate_left
      ·simp only [Act.put, List.setIfInBounds_toArray, List.set_cons_zero, List.set_cons_succ, i64_w, i32_w]
       rfl
      refine take_ (i := 5) (N := some 64) (v := ?_) (a' := ?_) #[true, true, true, true, true, true, false, true, true, false, false, false, false] rfl rfl (take_ofW HT_.out HW_.out (by kernel_rfl)) (fun _ _ _ h => h) (Or.inl ⟨by rfl, ?_⟩) hHeld ?_ ?_
      rotate_left
      ·rintro w' ⟨s0, s1, s2, s3, s4, s5⟩
       go_simp
       with_reducible rfl
      rotate_left
      ·simp only [Act.put, List.setIfInBounds_toArray, List.set_cons_zero, List.set_cons_succ, i64_w, i32_w]
       rfl
      refine take_ (i := 9) (N := some 68) (v := ?_) (a' := ?_) #[true, true, true, true, true, true, false, true, true, true, false, false, false] rfl rfl (take_ofW HT_.out HW_.out (by kernel_rfl)) (fun _ _ _ h => h) (Or.inl ⟨by rfl, ?_⟩) hHeld ?_ ?_
      rotate_left
      ·rintro w' ⟨s0, s1, s2, s3, s4, s5⟩
       go_simp
       with_reducible rfl
      rotate_left
      ·simp only [Act.put, List.setIfInBounds_toArray, List.set_cons_zero, List.set_cons_succ, i64_w, i32_w]
       rfl
      refine one_ (i := 6) (N := some 65) #[true, true, true, true, true, true, true, true, true, true, false, false, false] rfl rfl (one_of HT_.out (by kernel_rfl)) (by decide) (fun K hK => ?_)
      refine goes_ Try.func14 (by kernel_rfl) rfl #[.slice Ao32 t119.length co32, .int .i64 t108] (by rfl) rfl rfl argx ?_
      with_reducible refine (ledger_BalanceOf.calls _ _ t119 t108 t123 t124 t125 t126 t127 _ ?side1 ?side2 A29.out).mono ?_
      (case side1 => repeat (first | exact (Kd.R_reads' HO121.out).2.2 | (with_reducible refine Kd.C_alloc ?_ _) | (with_reducible refine Kd.C_drewN ?_ _) | (with_reducible refine Kd.C_drew ?_)))
      (case side2 => exact (Kd.R_reads' HO121.out).2.1)
      rintro e w33 ⟨rfl, hb⟩
      refine ⟨_, rfl, ?_⟩
      have n0_ := Aside0.mk (Kd.R_below (rowx HO_5.out) hb); have n1_ := Aside0.mk (Kd.R_below (rowx HO115.out) hb); have n2_ := Aside0.mk (Kd.R_below (rowx HO121.out) hb); have n3_ := Aside0.mk (blk_below (g := gb112) (o := .cells #[.int .i64 t105, .int .i64 t106, .int .i64 x113002_4, .int .i64 t108, .int .i64 x113004_4, .int .i64 t110] 26 (0, 0)) blkx hb); have n4_ := Aside0.mk (blk_below (g := gb118) (o := .cells #[.int .i64 (wrap64 ((t101.length : Int) + 2)), .int .i64 t106, .int .i64 9, .int .i64 t108, .int .i64 (wrap64 ((t101.length : Int) + 1)), .int .i64 0] 26 (0, 0)) blkx hb); have n5_ := Aside0.mk (below_step bel hb); clear HO_5; clear HO115; clear HO121; clear BK112; clear BK118; clear HB; have HO_5 := n0_; have HO115 := n1_; have HO121 := n2_; have BK112 := n3_; have BK118 := n4_; have HB := n5_; clear n0_ n1_ n2_ n3_ n4_ n5_
      (try clear hb)
      (try clear hb2)
      (try clear hk)
      (try clear hi)
      refine hK.out _ _ ⟨(blk_cell BK112.out 0).trans rfl, (blk_cell BK112.out 1).trans rfl, (blk_cell BK112.out 2).trans rfl, (blk_cell BK112.out 3).trans rfl, (blk_cell BK112.out 4).trans rfl, (blk_cell BK112.out 5).trans rfl⟩ (fun hHeld => ?_)
      clear hK K
      refine norm_ (a' := ?_) ?_ ?_
      rotate_left
      ·show Act.put _ (some 65) _ = _
       simp only [Act.put, List.setIfInBounds_toArray, List.set_cons_zero, List.set_cons_succ, i64_w, i32_w]
       rfl
      refine one_ (i := 10) (N := some 69) #[true, true, true, true, true, true, true, true, true, true, true, false, false] rfl rfl (one_of HT_.out (by kernel_rfl)) (by decide) (fun K hK => ?_)
      refine goes_ Try.func14 (by kernel_rfl) rfl #[.slice Ao8 t101.length co8, .int .i64 t108] (by rfl) rfl rfl argx ?_
      with_reducible refine (ledger_BalanceOf.calls _ _ t101 t108 t128 t129 t130 t131 t132 _ ?side1 ?side2 A30.out).mono ?_
      (case side1 => repeat (first | exact (Kd.R_reads' HO_5.out).2.2 | (with_reducible refine Kd.C_alloc ?_ _) | (with_reducible refine Kd.C_drewN ?_ _) | (with_reducible refine Kd.C_drew ?_)))
      (case side2 => exact (Kd.R_reads' HO_5.out).2.1)
      rintro e w34 ⟨rfl, hb⟩
      refine ⟨_, rfl, ?_⟩
      have n0_ := Aside0.mk (Kd.R_below (rowx HO_5.out) hb); have n1_ := Aside0.mk (Kd.R_below (rowx HO115.out) hb); have n2_ := Aside0.mk (Kd.R_below (rowx HO121.out) hb); have n3_ := Aside0.mk (blk_below (g := gb112) (o := .cells #[.int .i64 t105, .int .i64 t106, .int .i64 x113002_4, .int .i64 t108, .int .i64 x113004_4, .int .i64 t110] 26 (0, 0)) blkx hb); have n4_ := Aside0.mk (blk_below (g := gb118) (o := .cells #[.int .i64 (wrap64 ((t101.length : Int) + 2)), .int .i64 t106, .int .i64 9, .int .i64 t108, .int .i64 (wrap64 ((t101.length : Int) + 1)), .int .i64 0] 26 (0, 0)) blkx hb); have n5_ := Aside0.mk (below_step bel hb); clear HO_5; clear HO115; clear HO121; clear BK112; clear BK118; clear HB; have HO_5 := n0_; have HO115 := n1_; have HO121 := n2_; have BK112 := n3_; have BK118 := n4_; have HB := n5_; clear n0_ n1_ n2_ n3_ n4_ n5_
      (try clear hb)
      (try clear hb2)
      (try clear hk)
      (try clear hi)
      refine hK.out _ _ ⟨(blk_cell BK112.out 0).trans rfl, (blk_cell BK112.out 1).trans rfl, (blk_cell BK112.out 2).trans rfl, (blk_cell BK112.out 3).trans rfl, (blk_cell BK112.out 4).trans rfl, (blk_cell BK112.out 5).trans rfl⟩ (fun hHeld => ?_)
      clear hK K
      refine norm_ (a' := ?_) ?_ ?_
      rotate_left
      ·show Act.put _ (some 69) _ = _
       simp only [Act.put, List.setIfInBounds_toArray, List.set_cons_zero, List.set_cons_succ, i64_w, i32_w]
       rfl
      refine pure_ (i := 11) (N := some 70) (v := ?_) (a' := ?_) #[true, true, true, true, true, true, true, true, true, true, true, true, false] rfl rfl (any_of HT_.out (by kernel_rfl)) (fun _ _ _ h => h) (Or.inl ⟨by rfl, ?_⟩) ?_ ?_
      rotate_left
      ·intro w'
       go_simp
       with_reducible rfl
      rotate_left
      ·simp only [Act.put, List.setIfInBounds_toArray, List.set_cons_zero, List.set_cons_succ, i64_w, i32_w]
       rfl
      refine pure_ (i := 12) (N := some 71) (v := ?_) (a' := ?_) #[true, true, true, true, true, true, true, true, true, true, true, true, true] rfl rfl (any_of HT_.out (by kernel_rfl)) (fun _ _ _ h => h) (Or.inl ⟨by rfl, ?_⟩) ?_ ?_
      rotate_left
      ·intro w'
       go_simp
       with_reducible rfl
      rotate_left
      ·simp only [Act.put, List.setIfInBounds_toArray, List.set_cons_zero, List.set_cons_succ, i64_w, i32_w]
       rfl
      refine done_ (done_of HT_.out (by kernel_rfl)) ?_
      try go_wp2
      go_meet
      case rel => exact ⟨_, ((!(t123 == t128) || (!(t124 == t129) || (!(t125 == t130) || (!(t126 == t131) || (!(t127 == t132))))))), zPA11, H', ⟨by have := HJ4.out; first | omega | exact Nat.le_refl _⟩, ⟨by (with_reducible repeat (first | apply Kd.R_alloc | apply Kd.R_drewN | apply Kd.R_drew)); exact Kd.R_mono HO_5.out (fun _ hk => ⟨hk.2, ⟨hk.1.1.1, hk.1.2⟩⟩)⟩, ⟨by (with_reducible repeat (first | apply Kd.R_alloc | apply Kd.R_drewN | apply Kd.R_drew)); exact Kd.R_mono HO121.out (fun _ hk => ⟨hk.1.1.1.2, ⟨hk.1.2, hk.2⟩⟩)⟩, ⟨by (with_reducible repeat (first | refine blk_drewN ?_ _ | refine blk_drew ?_ | refine blk_alloc ?_ _)); exact BK112.out⟩, ⟨by (with_reducible repeat (first | refine blk_drewN ?_ _ | refine blk_drew ?_ | refine blk_alloc ?_ _)); exact BK118.out⟩, ⟨bel⟩⟩
     ·rw [if_neg c28] at H
      have c28b0 : (t122 == 0) = false := beq_eq_false_iff_ne.mpr c28; have c28b1 : (t122 != 0) = true := bne_iff_ne.mpr c28
      (first | rw [c28b0] | (simp only [i64_w, i32_w]; rw [c28b0]) | skip)
      have H' := Aside0.mk H; clear H
      try go_wp2
      have n0_ := Aside0.mk (Kd.R_drew HO_5.out); have n1_ := Aside0.mk (Kd.R_drew HO115.out); have n2_ := Aside0.mk (Kd.R_drew HO121.out); have n3_ := Aside0.mk (blk_drew BK112.out); have n4_ := Aside0.mk (blk_drew BK118.out); have n5_ := Aside0.mk (below_drew1 HB.out); clear HO_5; clear HO115; clear HO121; clear BK112; clear BK118; clear HB; have HO_5 := n0_; have HO115 := n1_; have HO121 := n2_; have BK112 := n3_; have BK118 := n4_; have HB := n5_; clear n0_ n1_ n2_ n3_ n4_ n5_
      refine start_ (n := 13) (S := fun w' => True) (ds := []) #[false, false, false, false, false, false, false, false, false, false, false, false, false] (by kernel_rfl) rfl rfl trivial (fun hHeld => ?_); refine with_tabW customslaw30_LedgerReversal.tab10 customslaw30_LedgerReversal.bits10 (fun HT_ HW_ => ?_)
      generalize w27.drew = w35 at HO_5 HO115 HO121 BK112 BK118 HB hHeld ⊢
      refine pure_ (i := 0) (N := some 59) (v := ?_) (a' := ?_) #[true, false, false, false, false, false, false, false, false, false, false, false, false] rfl rfl (any_of HT_.out (by kernel_rfl)) (fun _ _ _ h => h) (Or.inl ⟨by rfl, ?_⟩) ?_ ?_
      rotate_left
      ·intro w'
       go_simp
       with_reducible rfl
      rotate_left
      ·simp only [Act.put, List.setIfInBounds_toArray, List.set_cons_zero, List.set_cons_succ, i64_w, i32_w]
       rfl
      refine pure_ (i := 1) (N := some 60) (v := ?_) (a' := ?_) #[true, true, false, false, false, false, false, false, false, false, false, false, false] rfl rfl (any_of HT_.out (by kernel_rfl)) (fun _ _ _ h => h) (Or.inl ⟨by rfl, ?_⟩) ?_ ?_
      rotate_left
      ·intro w'
       go_simp
       with_reducible rfl
      rotate_left
      ·simp only [Act.put, List.setIfInBounds_toArray, List.set_cons_zero, List.set_cons_succ, i64_w, i32_w]
       rfl
      refine pure_ (i := 2) (N := some 61) (v := ?_) (a' := ?_) #[true, true, true, false, false, false, false, false, false, false, false, false, false] rfl rfl (any_of HT_.out (by kernel_rfl)) (fun _ _ _ h => h) (Or.inl ⟨by rfl, ?_⟩) ?_ ?_
      rotate_left
      ·intro w'
       go_simp
       with_reducible rfl
      rotate_left
      ·simp only [Act.put, List.setIfInBounds_toArray, List.set_cons_zero, List.set_cons_succ, i64_w, i32_w]
       rfl
      refine pure_ (i := 3) (N := some 62) (v := undef) (a' := ?_) #[true, true, true, true, false, false, false, false, false, false, false, false, false] rfl rfl (any_of HT_.out (by kernel_rfl)) (fun _ _ _ h => h) (Or.inr ⟨by rfl, rfl⟩) ?_ ?_
      rotate_left
      ·simp only [Act.put, List.setIfInBounds_toArray, List.set_cons_zero, List.set_cons_succ, i64_w, i32_w]
       rfl
      refine pure_ (i := 4) (N := some 63) (v := undef) (a' := ?_) #[true, true, true, true, true, false, false, false, false, false, false, false, false] rfl rfl (any_of HT_.out (by kernel_rfl)) (fun _ _ _ h => h) (Or.inr ⟨by rfl, rfl⟩) ?_ ?_
      rotate_left
      ·simp only [Act.put, List.setIfInBounds_toArray, List.set_cons_zero, List.set_cons_succ, i64_w, i32_w]
       rfl
      refine pure_ (i := 5) (N := some 64) (v := undef) (a' := ?_) #[true, true, true, true, true, true, false, false, false, false, false, false, false] rfl rfl (any_of HT_.out (by kernel_rfl)) (fun _ _ _ h => h) (Or.inr ⟨by rfl, rfl⟩) ?_ ?_
      rotate_left
      ·simp only [Act.put, List.setIfInBounds_toArray, List.set_cons_zero, List.set_cons_succ, i64_w, i32_w]
       rfl
      refine pure_ (i := 6) (N := some 65) (v := undef) (a' := ?_) #[true, true, true, true, true, true, true, false, false, false, false, false, false] rfl rfl (any_of HT_.out (by kernel_rfl)) (fun _ _ _ h => h) (Or.inr ⟨by rfl, rfl⟩) ?_ ?_
      rotate_left
      ·simp only [Act.put, List.setIfInBounds_toArray, List.set_cons_zero, List.set_cons_succ, i64_w, i32_w]
       rfl
      refine pure_ (i := 7) (N := some 66) (v := undef) (a' := ?_) #[true, true, true, true, true, true, true, true, false, false, false, false, false] rfl rfl (any_of HT_.out (by kernel_rfl)) (fun _ _ _ h => h) (Or.inr ⟨by rfl, rfl⟩) ?_ ?_
      rotate_left
      ·simp only [Act.put, List.setIfInBounds_toArray, List.set_cons_zero, List.set_cons_succ, i64_w, i32_w]
       rfl
      refine pure_ (i := 8) (N := some 67) (v := undef) (a' := ?_) #[true, true, true, true, true, true, true, true, true, false, false, false, false] rfl rfl (any_of HT_.out (by kernel_rfl)) (fun _ _ _ h => h) (Or.inr ⟨by rfl, rfl⟩) ?_ ?_
      rotate_left
      ·simp only [Act.put, List.setIfInBounds_toArray, List.set_cons_zero, List.set_cons_succ, i64_w, i32_w]
       rfl
      refine pure_ (i := 9) (N := some 68) (v := undef) (a' := ?_) #[true, true, true, true, true, true, true, true, true, true, false, false, false] rfl rfl (any_of HT_.out (by kernel_rfl)) (fun _ _ _ h => h) (Or.inr ⟨by rfl, rfl⟩) ?_ ?_
      rotate_left
      ·simp only [Act.put, List.setIfInBounds_toArray, List.set_cons_zero, List.set_cons_succ, i64_w, i32_w]
       rfl
      refine pure_ (i := 10) (N := some 69) (v := undef) (a' := ?_) #[true, true, true, true, true, true, true, true, true, true, true, false, false] rfl rfl (any_of HT_.out (by kernel_rfl)) (fun _ _ _ h => h) (Or.inr ⟨by rfl, rfl⟩) ?_ ?_
      rotate_left
      ·simp only [Act.put, List.setIfInBounds_toArray, List.set_cons_zero, List.set_cons_succ, i64_w, i32_w]
       rfl
      refine pure_ (i := 11) (N := some 70) (v := undef) (a' := ?_) #[true, true, true, true, true, true, true, true, true, true, true, true, false] rfl rfl (any_of HT_.out (by kernel_rfl)) (fun _ _ _ h => h) (Or.inr ⟨by rfl, rfl⟩) ?_ ?_
      rotate_left
      ·simp only [Act.put, List.setIfInBounds_toArray, List.set_cons_zero, List.set_cons_succ, i64_w, i32_w]
       rfl
      refine pure_ (i := 12) (N := some 71) (v := ?_) (a' := ?_) #[true, true, true, true, true, true, true, true, true, true, true, true, true] rfl rfl (any_of HT_.out (by kernel_rfl)) (fun _ _ _ h => h) (Or.inl ⟨by rfl, ?_⟩) ?_ ?_
      rotate_left
      ·intro w'
       go_simp
       with_reducible rfl
      rotate_left
      ·simp only [Act.put, List.setIfInBounds_toArray, List.set_cons_zero, List.set_cons_succ, i64_w, i32_w]
       rfl
      refine done_ (done_of HT_.out (by kernel_rfl)) ?_
      try go_wp2
      go_meet
      case rel => exact ⟨_, (true), zPA11, H', ⟨by have := HJ4.out; first | omega | exact Nat.le_refl _⟩, ⟨by (with_reducible repeat (first | apply Kd.R_alloc | apply Kd.R_drewN | apply Kd.R_drew)); exact Kd.R_mono HO_5.out (fun _ hk => ⟨hk.2, ⟨hk.1.1.1, hk.1.2⟩⟩)⟩, ⟨by (with_reducible repeat (first | apply Kd.R_alloc | apply Kd.R_drewN | apply Kd.R_drew)); exact Kd.R_mono HO121.out (fun _ hk => ⟨hk.1.1.1.2, ⟨hk.1.2, hk.2⟩⟩)⟩, ⟨by (with_reducible repeat (first | refine blk_drewN ?_ _ | refine blk_drew ?_ | refine blk_alloc ?_ _)); exact BK112.out⟩, ⟨by (with_reducible repeat (first | refine blk_drewN ?_ _ | refine blk_drew ?_ | refine blk_alloc ?_ _)); exact BK118.out⟩, ⟨bel⟩⟩
    case rest =>
     clear HC19
     try clear c1
     try clear c2
     try clear p2
     try clear c4
     try clear p6
     try clear c9
     try clear c10
     try clear c11
     try clear c13
     try clear c13b0
     try clear c13b1
     try clear c14
     try clear c17
     try clear c17b0
     try clear c17b1
     try clear c24
     try clear c28
     try clear c28b0
     try clear c28b1
     try clear hcz12_0
     try clear hcz12_1
     try clear hcz12_2
     try clear hcz12_3
     try clear hcz12_4
     try clear hcz12_5
     try clear hcz15_0
     try clear hcz15_1
     try clear hcz15_2
     try clear hcz15_3
     try clear hcz15_4
     try clear hcz15_5
     try clear hcz20_0
     try clear hcz20_1
     try clear hcz20_2
     try clear hcz20_3
     try clear hcz20_4
     try clear hcz20_5
     try clear hcz22_0
     try clear hcz22_1
     try clear hcz22_2
     try clear hcz22_3
     try clear hcz22_4
     try clear hcz22_5
     try clear hcz25_0
     try clear hcz25_1
     try clear hcz25_2
     try clear hcz25_3
     try clear hcz25_4
     try clear hcz25_5
     try clear hfz12_0
     try clear hfz12_1
     try clear hfz12_2
     try clear hfz12_3
     try clear hfz12_4
     try clear hfz12_5
     try clear hfz15_0
     try clear hfz15_1
     try clear hfz15_2
     try clear hfz15_3
     try clear hfz15_4
     try clear hfz15_5
     try clear hfz20_0
     try clear hfz20_1
     try clear hfz20_2
     try clear hfz20_3
     try clear hfz20_4
     try clear hfz20_5
     try clear hfz22_0
     try clear hfz22_1
     try clear hfz22_2
     try clear hfz22_3
     try clear hfz22_4
     try clear hfz22_5
     try clear hfz25_0
     try clear hfz25_1
     try clear hfz25_2
     try clear hfz25_3
     try clear hfz25_4
     try clear hfz25_5
     try clear p2
     obtain ⟨kq, x71_18, rfl, HA, HJ18, HO_5, HO_10, BK112, BK118, HB⟩ := hcut
     cases kq with
     | zero => exact absurd HA.out (by simp [customslaw30_LedgerReversal.j1])
     | succ kj18 =>
      have H := HA.out; clear HA
      simp only [customslaw30_LedgerReversal.j1] at H
      by_cases c36 : x71_18 = true
      ·subst c36
       have H1 : (some false) = some true := by rw [if_pos rfl] at H; exact H
       clear H; have H := H1; clear H1
       cases H
      ·replace c36 := Bool.eq_false_iff.mpr c36
       subst c36
       have H1 : ((ledger_Append.f t119 (wrap64 ((t101.length : Int) + 3)) t106 9 t108 (wrap64 ((t101.length : Int) + 1)) 0).bind fun bt133 => ((ledger_Append.f t119 (wrap64 ((t101.length : Int) + 3)) t106 9 t108 (wrap64 ((t101.length : Int) + 2)) 0).bind fun bt137 => (if bt133.2 = 17 then (if bt137.2 = 17 then ((customslaw30_awake.f).bind fun t141 => (some t141)) else (some false)) else (some false)))) = some true := by rw [if_neg (show ¬ (false = true) by decide)] at H; exact H
       clear H; have H := H1; clear H1; replace H := Option.bind_eq_some_iff.mp H; obtain ⟨⟨t133, t136⟩, A370, H⟩ := H; replace H : ((ledger_Append.f t119 (wrap64 ((t101.length : Int) + 3)) t106 9 t108 (wrap64 ((t101.length : Int) + 2)) 0).bind fun bt137 => (if t136 = 17 then (if bt137.2 = 17 then ((customslaw30_awake.f).bind fun t141 => (some t141)) else (some false)) else (some false))) = some true := H; have A37 := Aside0.mk A370; clear A370; replace H := Option.bind_eq_some_iff.mp H; obtain ⟨⟨t137, t140⟩, A380, H⟩ := H; replace H : (if t136 = 17 then (if t140 = 17 then ((customslaw30_awake.f).bind fun t141 => (some t141)) else (some false)) else (some false)) = some true := H; have A38 := Aside0.mk A380; clear A380
       by_cases c39 : t136 = 17
       ·rw [if_pos c39] at H
        have c39b0 : (t136 == 17) = true := beq_iff_eq.mpr c39; have c39b1 : (t136 != 17) = false := bne_eq_false_iff_eq.mpr c39; clear c39
        by_cases c40 : t140 = 17
        ·rw [if_pos c40] at H
         have c40b0 : (t140 == 17) = true := beq_iff_eq.mpr c40; have c40b1 : (t140 != 17) = false := bne_eq_false_iff_eq.mpr c40; clear c40; replace H := Option.bind_eq_some_iff.mp H; obtain ⟨t141, A410, H⟩ := H; replace H : (some t141) = some true := H; have A41 := Aside0.mk A410; clear A410; have HT_ := Option.some.inj H; clear H; have hnb42 := NB118_112.out; have hnc42 := NB112_118.out; obtain ⟨hcz43_0, hcz43_1, hcz43_2, hcz43_3, hcz43_4, hcz43_5, hfz43_0, hfz43_1, hfz43_2, hfz43_3, hfz43_4, hfz43_5⟩ := cells6 BK118.out; obtain ⟨Ao44, co44, eo44⟩ := Kd.R_slice HO_10.out; subst eo44
         go_wp2_with (first | ((with_reducible refine gate_callee (f := 11) rfl ?_); refine goesL_ (some 79) rfl rfl Try.func11 (by kernel_rfl) rfl #[.slice Ao44 t119.length co44, .agg #[.int .i64 (wrap64 ((t101.length : Int) + 3)), .int .i64 t106, .int .i64 9, .int .i64 t108, .int .i64 (wrap64 ((t101.length : Int) + 1)), .int .i64 0]] rfl argx ?_; (with_reducible refine (ledger_Append.calls _ _ t119 (wrap64 ((t101.length : Int) + 3)) t106 9 t108 (wrap64 ((t101.length : Int) + 1)) 0 t133 t136 _ ?side1 ?side2 A37.out).mono ?_); (case side1 => refine (Kd.R_reads' (e := 26) (base := w.heap.size) (ok := fun k_ => (some k_ ≠ (.slice Ao8 t101.length co8 : Value).ownBlock ∧ (k_ ≠ gb112 ∧ k_ ≠ gb118))) (n := t119.length) (c := co44) ?_).2.2; exact (by (with_reducible repeat (first | apply Kd.R_alloc | apply Kd.R_drewN | apply Kd.R_drew)); exact (Kd.R_mono (Kd.R_far (p := ⟨gb118, 0, none⟩) (Kd.R_mono HO_10.out (fun k_ hk => (⟨hk, hk.2.2⟩ : _ ∧ k_ ≠ gb118))) (fun _ hk => hk.2) (.int .i64 (wrap64 ((t101.length : Int) + 3)))) (fun _ h_ => h_.1)))); (case side2 => exact (Kd.R_reads' HO_10.out).2.1); rintro e w45 ⟨v134, rfl, ho0, hb⟩; refine ⟨_, rfl, ?_⟩; have n1_ := Aside0.mk (Kd.R_elder' (by (with_reducible repeat (first | apply Kd.R_alloc | apply Kd.R_drewN | apply Kd.R_drew)); exact (Kd.R_mono (Kd.R_far (p := ⟨gb118, 0, none⟩) (Kd.R_mono HO_10.out (fun k_ hk => (⟨hk, hk.2.2⟩ : _ ∧ k_ ≠ gb118))) (fun _ hk => hk.2) (.int .i64 (wrap64 ((t101.length : Int) + 3)))) (fun _ h_ => h_.1))) (Kd.R_base ho0) hb); have n4_ := Aside0.mk (blk_below (g := gb118) (o := .cells #[.int .i64 (wrap64 ((t101.length : Int) + 3)), .int .i64 t106, .int .i64 9, .int .i64 t108, .int .i64 (wrap64 ((t101.length : Int) + 1)), .int .i64 0] 26 (0, 0)) (by (with_reducible repeat (first | refine blk_drewN ?_ _ | refine blk_drew ?_ | refine blk_alloc ?_ _)); refine blk_put (cs := #[.int .i64 (wrap64 ((t101.length : Int) + 2)), .int .i64 t106, .int .i64 9, .int .i64 t108, .int .i64 (wrap64 ((t101.length : Int) + 1)), .int .i64 0]) ?_ 0 _ rfl; (with_reducible repeat (first | refine blk_drewN ?_ _ | refine blk_drew ?_ | refine blk_alloc ?_ _)); exact BK118.out) hb); have n5_ := Aside0.mk (below_step bel hb); (try clear HO_5); clear HO_10; (try clear BK112); clear BK118; clear HB; have HO_10 := n1_; have BK118 := n4_; have HB := n5_; clear n1_ n4_ n5_; (try clear hb); (try clear hb2); (try clear hk); (try clear hi); (try clear ho0); obtain ⟨hcz46_0, hcz46_1, hcz46_2, hcz46_3, hcz46_4, hcz46_5, hfz46_0, hfz46_1, hfz46_2, hfz46_3, hfz46_4, hfz46_5⟩ := cells6 BK118.out) | ((with_reducible refine gate_callee (f := 11) rfl ?_); refine goesL_ (some 89) rfl rfl Try.func11 (by kernel_rfl) rfl #[.slice Ao44 t119.length co44, .agg #[.int .i64 (wrap64 ((t101.length : Int) + 3)), .int .i64 t106, .int .i64 9, .int .i64 t108, .int .i64 (wrap64 ((t101.length : Int) + 2)), .int .i64 0]] rfl argx ?_; (with_reducible refine (ledger_Append.calls _ _ t119 (wrap64 ((t101.length : Int) + 3)) t106 9 t108 (wrap64 ((t101.length : Int) + 2)) 0 t137 t140 _ ?side1 ?side2 A38.out).mono ?_); (case side1 => refine (Kd.R_reads' (e := 26) (base := w.heap.size) (ok := fun k_ => ((some k_ ≠ (.slice Ao8 t101.length co8 : Value).ownBlock ∧ (k_ ≠ gb112 ∧ k_ ≠ gb118)) ∧ some k_ ≠ (v134 : Value).ownBlock)) (n := t119.length) (c := co44) ?_).2.2; exact (by (with_reducible repeat (first | apply Kd.R_alloc | apply Kd.R_drewN | apply Kd.R_drew)); exact (Kd.R_mono (Kd.R_far (p := ⟨gb118, 4, none⟩) (Kd.R_mono HO_10.out (fun k_ hk => (⟨hk, hk.1.2.2⟩ : _ ∧ k_ ≠ gb118))) (fun _ hk => hk.2) (.int .i64 (wrap64 ((t101.length : Int) + 2)))) (fun _ h_ => h_.1)))); (case side2 => exact (Kd.R_reads' HO_10.out).2.1); rintro e w47 ⟨v138, rfl, ho0, hb⟩; refine ⟨_, rfl, ?_⟩; have n6_ := Aside0.mk (below_step bel hb); (try clear HO_5); (try clear HO_10); (try clear HO135); (try clear BK112); (try clear BK118); clear HB; have HB := n6_; clear n6_; (try clear hb); (try clear hb2); (try clear hk); (try clear hi); (try clear ho0)) | (go_at_call 12; (with_reducible refine (customslaw30_awake.calls _ (HT_ ▸ A41.out)).mono ?_); rintro e w48 ⟨rfl, hb⟩; have n6_ := Aside0.mk (below_step bel hb); (try clear HO_5); (try clear HO_10); (try clear HO135); (try clear HO139); (try clear BK112); (try clear BK118); clear HB; have HB := n6_; clear n6_; (try clear hb); (try clear hb2); (try clear hk); (try clear hi)))
         go_ret
         exact ⟨by first | rfl | (simp [errW_none, errW_some] <;> rfl) | (simp [*, errW_none, errW_some] <;> rfl), bel⟩
        ·rw [if_neg c40] at H
         have c40b0 : (t140 == 17) = false := beq_eq_false_iff_ne.mpr c40; have c40b1 : (t140 != 17) = true := bne_iff_ne.mpr c40
         cases H
       ·rw [if_neg c39] at H
        have c39b0 : (t136 == 17) = false := beq_eq_false_iff_ne.mpr c39; have c39b1 : (t136 != 17) = true := bne_iff_ne.mpr c39
        cases H
   ·rw [if_neg c17] at H
    have c17b0 : (t116 == 0) = false := beq_eq_false_iff_ne.mpr c17; have c17b1 : (t116 != 0) = true := bne_iff_ne.mpr c17
    by_cases c49 : t116 = 16
    ·rw [if_pos c49] at H
     have c49b0 : (t116 == 16) = true := beq_iff_eq.mpr c49; have c49b1 : (t116 != 16) = false := bne_eq_false_iff_eq.mpr c49; clear c49; replace H := Option.bind_eq_some_iff.mp H; obtain ⟨t117, A500, H⟩ := H; replace H : (some t117) = some true := H; have A50 := Aside0.mk A500; clear A500; have HT_ := Option.some.inj H; clear H; obtain ⟨hcz51_0, hcz51_1, hcz51_2, hcz51_3, hcz51_4, hcz51_5, hfz51_0, hfz51_1, hfz51_2, hfz51_3, hfz51_4, hfz51_5⟩ := cells6 BK112.out
     go_wp2_with (first | ((with_reducible refine gate_callee (f := 11) rfl ?_); refine goesL_ (some 32) rfl rfl Try.func11 (by kernel_rfl) rfl #[.slice Ao8 t101.length co8, .agg #[.int .i64 t105, .int .i64 t106, .int .i64 x113002_4, .int .i64 t108, .int .i64 x113004_4, .int .i64 t110]] rfl argx ?_; (with_reducible refine (ledger_Append.calls _ _ t101 t105 t106 x113002_4 t108 x113004_4 t110 t113 t116 _ ?side1 ?side2 A16.out).mono ?_); (case side1 => repeat (first | exact (Kd.R_reads' HO_5.out).2.2 | (with_reducible refine Kd.C_alloc ?_ _) | (with_reducible refine Kd.C_drewN ?_ _) | (with_reducible refine Kd.C_drew ?_))); (case side2 => exact (Kd.R_reads' HO_5.out).2.1); rintro e w52 ⟨v114, rfl, ho0, hb⟩; refine ⟨_, rfl, ?_⟩; have n3_ := Aside0.mk (below_step bel hb); (try clear HO_5); (try clear BK112); clear HB; have HB := n3_; clear n3_; (try clear hb); (try clear hb2); (try clear hk); (try clear hi); (try clear ho0)) | (go_at_call 12; (with_reducible refine (customslaw30_awake.calls _ (HT_ ▸ A50.out)).mono ?_); rintro e w53 ⟨rfl, hb⟩; have n3_ := Aside0.mk (below_step bel hb); (try clear HO_5); (try clear HO115); (try clear BK112); clear HB; have HB := n3_; clear n3_; (try clear hb); (try clear hb2); (try clear hk); (try clear hi)))
     go_ret
     exact ⟨by first | rfl | (simp [errW_none, errW_some] <;> rfl) | (simp [*, errW_none, errW_some] <;> rfl), bel⟩
    ·rw [if_neg c49] at H
     have c49b0 : (t116 == 16) = false := beq_eq_false_iff_ne.mpr c49; have c49b1 : (t116 != 16) = true := bne_iff_ne.mpr c49
     cases H
end Go.Proofs.Ytgedkdofhonicaa.PR
/- The law LedgerReversal in plain words. -/
namespace Go.Proofs.Ytgedkdofhonicaa.E
set_option linter.unusedVariables false
set_option linter.unusedSimpArgs false
open Go.RowKit Go.Proofs.YtgedkdofhonicaaW.PrintWords Go.Proofs.YtgedkdofhonicaaW.PrintLast Go.Proofs.YtgedkdofhonicaaW.PrintMore Go.Proofs.Ytgedkdofhonicaa.PA Go.Proofs.Ytgedkdofhonicaa.PM Go.Proofs.Ytgedkdofhonicaa.PC Go.Proofs.Ytgedkdofhonicaa.PR Go.Proofs.Ytgedkdofhonicaa.G
/-- addC's answer for an entry that reverses. -/
theorem addC_rev {l : List S26} {bal : Int → Bal} {rev : Int → Bool} {e : S26} (hI : Inv l bal rev) (h1 : l.length < 2000) (h2 : inR e = true) (h3 : e.f0 = (l.length : Int) + 1) (h4 : e.f2 = 9) (h5 : e.f4 ≤ (l.length : Int)) :
    (addC l bal rev e).1 = if (rd_T26 l (e.f4 - 1)).f2 = 9 ∨ rev e.f4 = true then 17 else if (rd_T26 l (e.f4 - 1)).f3 ≠ e.f3 then 14 else if nonneg (aft (bal e.f3) (rd_T26 l (e.f4 - 1)).f2 (wrap64 (-(rd_T26 l (e.f4 - 1)).f4))) then 0 else 16 := by
  have hr := inR_iff.1 h2; have hnum := hI.num (e.f4 - 1) (by omega) (by omega)
  rw [show e.f4 - 1 + 1 = e.f4 by omega] at hnum
  have hrng := inR_iff.1 (hI.rng (e.f4 - 1) (by omega) (by omega))
  unfold addC
  rw [if_neg (by omega), if_neg (by rw [h2]; decide), if_neg (by rw [h3]; simp), if_pos h4, if_neg (by omega), hnum]
  by_cases a6 : (rd_T26 l (e.f4 - 1)).f2 = 9 ∨ rev e.f4 = true
  · rw [if_pos a6, if_pos a6]
  rw [if_neg a6, if_neg a6]
  by_cases a7 : (rd_T26 l (e.f4 - 1)).f3 ≠ e.f3
  · rw [if_pos a7, if_pos a7]
  rw [if_neg a7, if_neg a7]
  have h7 : (rd_T26 l (e.f4 - 1)).f3 = e.f3 := by simpa using a7
  have hk : 1 ≤ (rd_T26 l (e.f4 - 1)).f2 ∧ (rd_T26 l (e.f4 - 1)).f2 ≤ 8 := by
    have : (rd_T26 l (e.f4 - 1)).f2 ≠ 9 := fun h => a6 (.inl h)
    omega
  rw [h7, Int.neg_mul, Int.one_mul]
  have ho := eff_ok (v := wrap64 (-(rd_T26 l (e.f4 - 1)).f4)) hk (hI.pos e.f3)
  by_cases a8 : nonneg (aft (bal e.f3) (rd_T26 l (e.f4 - 1)).f2 (wrap64 (-(rd_T26 l (e.f4 - 1)).f4)))
  · rw [if_pos (ho.2 a8), if_pos a8]
  · rw [if_neg (fun h => a8 (ho.1 h)), if_neg a8]
theorem addC_plain {l : List S26} {bal : Int → Bal} {rev : Int → Bool} {e : S26} (hI : Inv l bal rev) (h1 : l.length < 2000) (h2 : inR e = true) (h3 : e.f0 = (l.length : Int) + 1) (h4 : e.f2 ≠ 9) :
    (addC l bal rev e).1 = if nonneg (aft (bal e.f3) e.f2 e.f4) then 0 else 16 := by
  have hr := inR_iff.1 h2
  unfold addC
  rw [if_neg (by omega), if_neg (by rw [h2]; decide), if_neg (by rw [h3]; simp), if_neg h4, wrap_one (by omega) (by omega)]
  have hk : 1 ≤ e.f2 ∧ e.f2 ≤ 8 := by omega
  have ho := eff_ok (v := e.f4) hk (hI.pos e.f3)
  by_cases a8 : nonneg (aft (bal e.f3) e.f2 e.f4)
  · rw [if_pos (ho.2 a8), if_pos a8]
  · rw [if_neg (fun h => a8 (ho.1 h)), if_neg a8]
theorem inR_mk {a0 a1 a2 a3 a4 a5 : Int} (h1 : 0 ≤ a1 ∧ a1 ≤ 36524) (h2 : 1 ≤ a2 ∧ a2 ≤ 9) (h3 : 1 ≤ a3 ∧ a3 ≤ 1000000) (h4 : 1 ≤ a4 ∧ a4 ≤ 64000000000000) (h5 : 0 ≤ a5 ∧ a5 ≤ 1000000000) : inR ⟨a0, a1, a2, a3, a4, a5⟩ = true :=
  inR_iff.2 ⟨h1.1, h1.2, h2.1, h2.2, h3.1, h3.2, h4.1, h4.2, h5.1, h5.2⟩
theorem appendR_code {l : List S26} {e : S26} (h : (readTo l l.length).1 = 0) : (appendR l e).2 = (addC l (readTo l l.length).2.1 (readTo l l.length).2.2 e).1 := by
  unfold appendR
  rw [if_pos h]
  by_cases ha : (addC l (readTo l l.length).2.1 (readTo l l.length).2.2 e).1 = 0
  · rw [if_pos ha, ha]
  · rw [if_neg ha]
/-- What is true of a ledger with one more entry, and of that with its reversal. -/
structure Twice (x : List S26) (e r : S26) : Prop where
  y : Good (x ++ [e])
  z : Good (x ++ [e] ++ [r])
  app : appendR (x ++ [e]) r = (x ++ [e] ++ [r], 0)
  bal : balOf (x ++ [e] ++ [r]) e.f3 = balOf x e.f3
  rev : (readTo (x ++ [e] ++ [r]) (x ++ [e] ++ [r]).length).2.2 ((x.length : Int) + 1) = true
  last : (rd_T26 (x ++ [e] ++ [r]) ((x.length : Int) + 1)).f2 = 9
theorem twice_of {x : List S26} (hx : Good x) (hl : x.length ≤ 30) (e : S26) (hn : e.f0 = (x.length : Int) + 1) (hr : inR e = true) (h9 : e.f2 ≠ 9) (hzz : Aside0 ((appendR x e).2 = 0)) (r : S26) (hr0 : r = ⟨(x.length : Int) + 2, e.f1, 9, e.f3, (x.length : Int) + 1, 0⟩) : Twice x e r := by
  have hrr := inR_iff.1 hr
  have hyl : (x ++ [e]).length = x.length + 1 := by rw [List.length_append, List.length_singleton]
  have hzl : (x ++ [e] ++ [r]).length = x.length + 2 := by rw [List.length_append, List.length_singleton, hyl]
  have n1 : (x ++ [e]).length ≤ 100 := by omega
  have n2 : (x ++ [e] ++ [r]).length ≤ 100 := by omega
  have n3 : (x ++ [e]).length < 2000 := by omega
  have n4 : (x.length : Int) + 2 = ((x ++ [e]).length : Int) + 1 := by omega
  have n5 : (x.length : Int) + 1 ≤ ((x ++ [e]).length : Int) := by omega
  have n6 : (x.length : Int) + 1 - 1 = (x.length : Int) := by omega
  have n7 : (x.length : Int) + 1 = ((x ++ [e]).length : Int) := by omega
  have n8 : 1 ≤ e.f2 ∧ e.f2 ≤ 8 := by omega
  have n9 : ∀ i : Int, i < ((x ++ [e]).length : Int) → (x.length : Int) + 1 ≤ i → False := fun i a b => by omega
  have n10 : (0 : Int) ≤ (x.length : Int) + 1 := by omega
  have n11 : (x.length : Int) + 1 < ((x ++ [e] ++ [r]).length : Int) := by omega
  have hrR : inR r = true := by rw [hr0]; exact inR_mk ⟨hrr.1, hrr.2.1⟩ (by decide) ⟨hrr.2.2.2.2.1, hrr.2.2.2.2.2.1⟩ ⟨by omega, by omega⟩ (by decide)
  obtain ⟨z0, z1, z2⟩ := appendR_zero hzz.out; have hy : Good (x ++ [e]) := ⟨by rw [read_snoc z0]; exact z1, n1⟩
  have hrd : rd_T26 (x ++ [e]) (r.f4 - 1) = e := by rw [hr0]; show rd_T26 (x ++ [e]) ((x.length : Int) + 1 - 1) = e; rw [n6]; exact rd_new
  have hbe := (addC_zero hx.inv z1).2.2.2.2; have hke : kindOf x e = e.f2 := if_neg h9; have hae : amtOf x e = e.f4 := if_neg h9
  rw [hke, hae] at hbe
  have hbal : (readTo (x ++ [e]) (x ++ [e]).length).2.1 e.f3 = aft ((readTo x x.length).2.1 e.f3) e.f2 e.f4 := by
    rw [read_snoc hx.read, hbe.2]
    exact if_pos rfl
  have hundo : aft (aft ((readTo x x.length).2.1 e.f3) e.f2 e.f4) e.f2 (wrap64 (-e.f4)) = (readTo x x.length).2.1 e.f3 := aft_undo (hx.inv.pos _) (hx.inv.sml _) n8
  have hnr : (readTo (x ++ [e]) (x ++ [e]).length).2.2 r.f4 = false := by
    cases hv : (readTo (x ++ [e]) (x ++ [e]).length).2.2 r.f4 with
    | false => rfl
    | true =>
      obtain ⟨i, i0, i1, i2, i3⟩ := (hy.inv.rev r.f4).1 hv; have hb := (hy.inv.back i i0 i1 i2).1
      rw [i3, hr0] at hb
      exact (n9 i i1 hb).elim
  have hrc : (addC (x ++ [e]) (readTo (x ++ [e]) (x ++ [e]).length).2.1 (readTo (x ++ [e]) (x ++ [e]).length).2.2 r).1 = 0 := by
    rw [addC_rev hy.inv n3 hrR (by rw [hr0]; exact n4) (by rw [hr0]) (by rw [hr0]; exact n5), hrd, if_neg (fun h => h.elim h9 (fun h => by rw [hnr] at h; cases h))]
    rw [hr0]
    show (if e.f3 ≠ e.f3 then (14 : Int) else if nonneg (aft ((readTo (x ++ [e]) (x ++ [e]).length).2.1 e.f3) e.f2 (wrap64 (-e.f4))) then 0 else 16) = 0
    rw [if_neg (by simp), hbal, hundo, if_pos (hx.inv.pos _)]
  have hzr : (appendR (x ++ [e]) r).2 = 0 := by rw [appendR_code hy.read]; exact hrc
  obtain ⟨y0, y1, y2⟩ := appendR_zero hzr; have hzg : Good (x ++ [e] ++ [r]) := ⟨by rw [read_snoc y0]; exact y1, n2⟩
  have hlast : rd_T26 (x ++ [e] ++ [r]) ((x.length : Int) + 1) = r := by rw [n7]; exact rd_new
  refine ⟨hy, hzg, y2, ?_, ?_, by rw [hlast, hr0]⟩
  · unfold balOf
    have hb2 := (addC_zero hy.inv y1).2.2.2.2.2
    rw [if_pos hx.read, if_pos hzg.read, read_snoc hy.read, hb2]
    have k1 : kindOf (x ++ [e]) r = e.f2 := by unfold kindOf; rw [if_pos (by rw [hr0]), hrd]
    have k2 : amtOf (x ++ [e]) r = wrap64 (-e.f4) := by unfold amtOf; rw [if_pos (by rw [hr0]), hrd]
    rw [k1, k2, show r.f3 = e.f3 by rw [hr0], hbal, hundo]
    exact if_pos rfl
  · exact (hzg.inv.rev _).2 ⟨(x.length : Int) + 1, n10, n11, by rw [hlast, hr0], by rw [hlast, hr0]⟩
theorem twice_bad {x : List S26} {e r : S26} (hl : x.length ≤ 30) (hr : inR e = true) (h : Twice x e r) (a : Int) (a0 : 1 ≤ a) (a1 : a ≤ (x.length : Int) + 2) (hb : Aside0 ((rd_T26 (x ++ [e] ++ [r]) (a - 1)).f2 = 9 ∨ (readTo (x ++ [e] ++ [r]) (x ++ [e] ++ [r]).length).2.2 a = true)) :
    (appendR (x ++ [e] ++ [r]) ⟨(x.length : Int) + 3, e.f1, 9, e.f3, a, 0⟩).2 = 17 := by
  have hrr := inR_iff.1 hr
  have hzl : (x ++ [e] ++ [r]).length = x.length + 2 := by simp
  have n1 : (x ++ [e] ++ [r]).length < 2000 := by omega
  have n2 : (x.length : Int) + 3 = ((x ++ [e] ++ [r]).length : Int) + 1 := by omega
  have n3 : a ≤ ((x ++ [e] ++ [r]).length : Int) := by omega
  have hrR : inR (⟨(x.length : Int) + 3, e.f1, 9, e.f3, a, 0⟩ : S26) = true := inR_mk ⟨hrr.1, hrr.2.1⟩ (by decide) ⟨hrr.2.2.2.2.1, hrr.2.2.2.2.2.1⟩ ⟨a0, by omega⟩ (by decide)
  rw [appendR_code h.z.read, addC_rev (e := ⟨(x.length : Int) + 3, e.f1, 9, e.f3, a, 0⟩) h.z.inv n1 hrR n2 rfl n3]
  exact if_pos hb.out
theorem reversal_key {x : List S26} (hx : Good x) (hl : x.length ≤ 30) (e : S26) (hn : e.f0 = (x.length : Int) + 1) (hr : inR e = true) (h9 : e.f2 ≠ 9) : Ev (fun k => customslaw30_LedgerReversal.j0 k x e.f0 e.f1 e.f2 e.f3 e.f4 e.f5) true := by
  have hrr := inR_iff.1 hr; have h64 : i64 e.f3 := i64_mk (by omega) (by omega)
  have m1 : 1 ≤ (x.length : Int) + 1 := by omega
  have m2 : (x.length : Int) + 1 ≤ (x.length : Int) + 2 := by omega
  have m3 : 1 ≤ (x.length : Int) + 2 := by omega
  have m4 : (x.length : Int) + 2 - 1 = (x.length : Int) + 1 := by omega
  have m5 : x.length < 2000 := by omega
  have HW1 := Aside0.mk (show wrap64 ((x.length : Int) + 1) = (x.length : Int) + 1 from wrap64_id (by omega) (by omega))
  have HW2 := Aside0.mk (show wrap64 ((x.length : Int) + 2) = (x.length : Int) + 2 from wrap64_id (by omega) (by omega))
  have HW3 := Aside0.mk (show wrap64 ((x.length : Int) + 3) = (x.length : Int) + 3 from wrap64_id (by omega) (by omega))
  refine evShift ?_
  simp only [customslaw30_LedgerReversal.j0]
  by_cases hz : (appendR x e).2 = 0
  · obtain ⟨r, hr0⟩ : ∃ r : S26, r = ⟨(x.length : Int) + 2, e.f1, 9, e.f3, (x.length : Int) + 1, 0⟩ := ⟨_, rfl⟩
    have T := twice_of hx hl e hn hr h9 ⟨hz⟩ r hr0
    refine evBind0 (a := (x ++ [e], 0)) (by rw [append_good hx.wf e, (appendR_zero hz).2.2]) (evPos rfl ?_)
    rw [HW1.out, HW2.out]
    have happ : ledger_Append.f (x ++ [e]) ((x.length : Int) + 2) e.f1 9 e.f3 ((x.length : Int) + 1) 0 = some (x ++ [e] ++ [r], 0) := by
      have := append_good T.y.wf r
      rw [T.app, hr0] at this
      rw [hr0]
      exact this
    refine evBind0 happ (evPos rfl ?_)
    refine evBind0 (balance_good T.z.wf h64) (evBind0 (balance_good hx.wf h64) ?_)
    rw [T.bal]
    refine evShift ?_
    simp only [customslaw30_LedgerReversal.j1]
    refine evNeg (by simp) ?_
    rw [HW3.out, HW2.out]
    have b1 := twice_bad hl hr T ((x.length : Int) + 1) m1 m2 ⟨.inr T.rev⟩; have b2 := twice_bad hl hr T ((x.length : Int) + 2) m3 (Int.le_refl _) ⟨.inl (by rw [m4]; exact T.last)⟩
    refine evBind0 (append_good T.z.wf ⟨(x.length : Int) + 3, e.f1, 9, e.f3, (x.length : Int) + 1, 0⟩) (evBind0 (append_good T.z.wf ⟨(x.length : Int) + 3, e.f1, 9, e.f3, (x.length : Int) + 2, 0⟩) ?_)
    exact evPos b1 (evPos b2 (evBind0 awake_true (evNow rfl)))
  · refine evBind0 (append_good hx.wf e) (evNeg hz ?_)
    refine evPos ?_ (evBind0 awake_true (evNow rfl))
    rw [appendR_code hx.read, addC_plain hx.inv m5 hr hn h9] at hz ⊢
    split at hz
    · exact absurd rfl hz
    · rename_i hq; rw [if_neg hq]
theorem reversal_law (l0 l1 : List Int) (h1 : l1.length ≤ 9223372036854775807) : ∃ k, customslaw30_LedgerReversal.f k l0 l1 = some true := by
  obtain ⟨x, hx, hl, hxe⟩ := made_ev l0; obtain ⟨e0, j, he, hm, _⟩ := entry_some l1 h1 0 (x.length : Int) (by omega) (by omega) (by omega) (by omega)
  have hl2 : x.length < 2000 := by omega
  -- the entry, no reversal
  have key : ∀ e : S26, e.f0 = (x.length : Int) + 1 → inR e = true → e.f2 ≠ 9 → Ev (fun k => customslaw30_LedgerReversal.j0 k x e.f0 e.f1 e.f2 e.f3 e.f4 e.f5) true := fun e hn hr h9 => reversal_key hx hl e hn hr h9
  have hall : Ev (fun k => customslaw30_LedgerReversal.f k l0 l1) true := by
    unfold customslaw30_LedgerReversal.f
    refine evBind hxe (evBind0 he ?_)
    refine evIf (fun h9 => ?_) (fun h9 => ?_)
    · exact key ⟨e0.f0, e0.f1, 1, e0.f3, 7, e0.f5⟩ hm.f0 (inR_mk ⟨hm.f1.1, by have := hm.f1.2; omega⟩ (by decide) ⟨hm.f3.1, by have := hm.f3.2; omega⟩ (by decide) ⟨hm.f5.1, by have := hm.f5.2; omega⟩) (by show (1 : Int) ≠ 9; decide)
    · exact key e0 hm.f0 (inR_iff.2 ⟨hm.f1.1, by have := hm.f1.2; omega, hm.f2.1, hm.f2.2, hm.f3.1, by have := hm.f3.2; omega, hm.f4.1, by have := hm.f4.2; omega, hm.f5.1, by have := hm.f5.2; omega⟩) h9
  obtain ⟨K, hK⟩ := hall
  exact ⟨K, hK K (Nat.le_refl _)⟩
theorem reversal_said (l0 l1 : List Int) (m0 : l0.length ≤ maxLen) (w0 : ∀ n ∈ l0, (Lit.int .i64 n).wf = true) (m1 : l1.length ≤ maxLen) (w1 : ∀ n ∈ l1, (Lit.int .i64 n).wf = true) : ∃ k, customslaw30_LedgerReversal.f k l0 l1 = some true :=
  reversal_law l0 l1 (Nat.le_trans m1 (by unfold maxLen; decide))
end Go.Proofs.Ytgedkdofhonicaa.E

namespace Go.Proofs.Ytgedkdofhonicaa.ledgerReversal
open Go.ChangeShapes Go.WideShapes Go.ChangeAt Go.RowKit
open Go.Proofs.YtgedkdofhonicaaW.PrintWords Go.Proofs.YtgedkdofhonicaaW.PrintLast Go.Proofs.YtgedkdofhonicaaW.PrintMore Go.Proofs.Ytgedkdofhonicaa.G Go.Proofs.Ytgedkdofhonicaa.PA Go.Proofs.Ytgedkdofhonicaa.PM Go.Proofs.Ytgedkdofhonicaa.PC Go.Proofs.Ytgedkdofhonicaa.PR
set_option linter.unusedVariables false
theorem own : ownKnob Try.prog.godebug = none := by kernel_rfl
theorem laidOut : laidOutB Try.prog = true := by kernel_rfl
theorem walk (A0 : Option Addr) (c0 : Nat) (l0 : List Int) (A1 : Option Addr) (c1 : Nat) (l1 : List Int) (w : World) (r0_ : Kd.C (Kd.int .i64) w A0 l0.length l0) (n0_ : l0.length ≤ c0) (r1_ : Kd.C (Kd.int .i64) w A1 l1.length l1) (n1_ : l1.length ≤ c1) (m0_ : l0.length ≤ maxLen) (w0_ : ∀ n ∈ l0, (Lit.int .i64 n).wf = true) (m1_ : l1.length ≤ maxLen) (w1_ : ∀ n ∈ l1, (Lit.int .i64 n).wf = true) :
    Calls Try.prog 4 #[.slice A0 l0.length c0, .slice A1 l1.length c1] w fun e w' => e = .returned (.bool true) ∧ Below w.heap.size w w' := by
  obtain ⟨k, h⟩ := E.reversal_said l0 l1 m0_ w0_ m1_ w1_
  refine (customslaw30_LedgerReversal.calls k A0 c0 l0 A1 c1 l1 w r0_ n0_ r1_ n1_ h).mono ?_
  rintro e w' ⟨rfl, hd⟩
  exact ⟨rfl, hd⟩
set_option maxRecDepth 100000 in
theorem lifted (os : Os) (started : os.Started) (H : Type) (enc : TypeId × Value → H) :
    ReturnsInHanded {} Try.checked os 4 .any (Rows.ledgerReversalSpec.pre6 enc Try.prog Try.f4 Rows.ledgerReversalRow.domain false) (Rows.ledgerReversalSpec.post enc Try.prog Try.f4 false true false false) := by
  refine returnsInHanded_of_change (C := Try.checked) own started (by kernel_rfl) Try.func4
    (ChangeSpec.witness6 (enc := enc) (C := Try.checked) false ⟨#[], #[.slice none 0 0, .slice none 0 0], []⟩ 8 (by kernel_rfl) (by kernel_rfl) (by kernel_rfl) (by kernel_rfl)) ?_
  intro W base args ds gs before hval0 hW hcnd _
  have hval : ∀ (j : Nat) t v, Try.f4.params[j]? = some t → args[j]? = some v → Value.okWide Try.prog W .any base t v := hval0; have hW' := hW; obtain ⟨p, q, hA0, hV, rfl, hfz, hnd⟩ := hW; have hA : DataW.TrodAll enc Try.prog W 0 (fun _ => true) true Try.f4.params.toList args.toList ds p := hA0
  rw [Try.params4] at hA hval
  obtain ⟨v0, vs0, d0, ds0, p0, q0, hargs, rfl, rfl, h0, r0⟩ := trodAll_cons hA; obtain ⟨v1, vs1, d1, ds1, p1, q1, rfl, rfl, rfl, h1, r1⟩ := trodAll_cons r0; obtain ⟨rfl, rfl, rfl⟩ := trodAll_nil r1
  obtain rfl : args = #[v0, v1] := by cases args; simp_all
  obtain ⟨rfl, rfl⟩ := trodVars_none hV; obtain ⟨sa0, sl0, sc0, rfl⟩ := okWide_slice Try.underlying22 (hval 0 22 v0 rfl rfl); have k0 := h0
  have lt0 : ∀ x ∈ p0, x.block < W.heap.size := by obtain ⟨m, hm⟩ := k0; exact DataW.trod_lt m _ _ _ hm
  obtain ⟨A0, c0, l0, e0, n0_, r0_, m0_, w0_⟩ : ∃ A c, ∃ l : List Int, (sa0 = A ∧ sl0 = l.length ∧ sc0 = c) ∧ l.length ≤ c ∧ Kd.C (Kd.int .i64) W A l.length l ∧ l.length ≤ maxLen ∧ ∀ n ∈ l, (Lit.int .i64 n).wf = true := by
    obtain ⟨fuel, hf⟩ := h0; obtain ⟨A, c, l, e, r⟩ := in_ints Try.underlying22 Try.underlying3 (by kernel_rfl) hf
    exact ⟨A, c, l, by simpa [Value.cells] using e, r⟩
  obtain ⟨rfl, rfl, rfl⟩ := e0; obtain ⟨sa1, sl1, sc1, rfl⟩ := okWide_slice Try.underlying22 (hval 1 22 v1 rfl rfl); have k1 := h1
  have lt1 : ∀ x ∈ p1, x.block < W.heap.size := by obtain ⟨m, hm⟩ := k1; exact DataW.trod_lt m _ _ _ hm
  obtain ⟨A1, c1, l1, e1, n1_, r1_, m1_, w1_⟩ : ∃ A c, ∃ l : List Int, (sa1 = A ∧ sl1 = l.length ∧ sc1 = c) ∧ l.length ≤ c ∧ Kd.C (Kd.int .i64) W A l.length l ∧ l.length ≤ maxLen ∧ ∀ n ∈ l, (Lit.int .i64 n).wf = true := by
    obtain ⟨fuel, hf⟩ := h1; obtain ⟨A, c, l, e, r⟩ := in_ints Try.underlying22 Try.underlying3 (by kernel_rfl) hf
    exact ⟨A, c, l, by simpa [Value.cells] using e, r⟩
  obtain ⟨rfl, rfl, rfl⟩ := e1; clear hA0 hval0
  refine (walk _ _ _ _ _ _ W r0_ n0_ r1_ n1_ m0_ w0_ m1_ w1_).mono fun e W' ⟨he, bel⟩ => ?_
  subst he
  exact ⟨_, rfl, _, _, _, [], _, [], hW', trodAll_mk1 (shut_bool Try.underlying4 _), (trodAll_cons_mk (Below.trod laidOut (by kernel_rfl) (of_decide_eq_true (by kernel_rfl)) k0 bel lt0) (trodAll_cons_mk (Below.trod laidOut (by kernel_rfl) (of_decide_eq_true (by kernel_rfl)) k1 bel lt1) trodAll_mk0)), rfl, bel.frame _, fun h => by cases h⟩
theorem over : Rows.ledgerReversalRow.holds Try.pinned (OpenSpec.ofChange Rows.ledgerReversalSpec) :=
  OpenClaim.holds_of_wide 4 Try.f4 rfl rfl rfl rfl rfl rfl rfl ⟨rfl, rfl, rfl, rfl, rfl⟩ rfl rfl rfl rfl rfl (by kernel_rfl) Try.func4 (by kernel_rfl)
    (of_decide_eq_true (by kernel_rfl)) (by unfold Func.isWrapper; first | (rw [if_pos (by decide +kernel)]; kernel_rfl) | (rw [if_neg (by decide +kernel)]; exact ⟨rfl, rfl⟩))
    (fun os started H enc _ => lifted os started H enc)
theorem proved : Rows.LedgerReversalSaid := over
#print axioms proved
end Go.Proofs.Ytgedkdofhonicaa.ledgerReversal
namespace Go.Proofs.Ytgedkdofhonicaa
/-- The row, under a short name, for the claim. -/
theorem ledgerReversal_holds : Rows.LedgerReversalSaid := ledgerReversal.proved
end Go.Proofs.Ytgedkdofhonicaa
