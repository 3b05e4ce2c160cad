/- The row of the law LedgerFold: whatever the arguments, the call returns true and leaves them as they were. Its conditions: those of the given row. -/
import Derived.Test.YtgedkdofhonicaaKF5
import Derived.Test.YtgedkdofhonicaaRows
import Derived.ProofKit
import Derived.ShutString
import Derived.ChangeOld
import Derived.SizedLaws
/- The reference's may, Ledger and Append answer as the books do. -/
namespace Go.Proofs.Ytgedkdofhonicaa.E
set_option linter.unusedVariables false
set_option linter.unusedSimpArgs false
open Go.RowKit Go.Proofs.YtgedkdofhonicaaW.PrintWords Go.Proofs.YtgedkdofhonicaaW.PrintLast Go.Proofs.YtgedkdofhonicaaW.PrintMore Go.Proofs.Ytgedkdofhonicaa.PA Go.Proofs.Ytgedkdofhonicaa.PM Go.Proofs.Ytgedkdofhonicaa.PC Go.Proofs.Ytgedkdofhonicaa.G
/-- Some reversal from i on takes back entry n. -/
theorem scan_ev {l : List S26} (hl : l.length < 2000) (hread : (readTo l l.length).1 = 0) (e : S26) (he : e.f2 = 9 ∧ 1 ≤ e.f4 ∧ e.f4 ≤ (l.length : Int)) (y0 y1 y2 y3 y4 y5 : Int) : ∀ (n i : Nat), i + n = l.length →
    (∀ j : Int, 0 ≤ j → j < (i : Int) → ¬ ((rd_T26 l j).f2 = 9 ∧ (rd_T26 l j).f4 = e.f4)) →
    Ev (fun k => customsref27_may.l0 k l (i : Int) e.f0 e.f1 e.f2 e.f3 e.f4 e.f5 y0 y1 y2 y3 y4 y5)
      (if (readTo l l.length).2.2 e.f4 = true then 17 else if y3 = e.f3 then (if nonneg (aft ((readTo l l.length).2.1 e.f3) (kindOf l e) (amtOf l e)) then 0 else 16) else 14)
  | 0, i, hi, hno => by
    obtain rfl : i = l.length := by omega
    have hI := inv_read (Nat.le_refl _) hread
    rw [List.take_length] at hI
    have hrv : (readTo l l.length).2.2 e.f4 = false := by
      cases hv : (readTo l l.length).2.2 e.f4 with
      | false => rfl
      | true =>
        obtain ⟨j, j0, j1, j2, j3⟩ := (hI.rev e.f4).1 hv
        exact absurd ⟨j2, j3⟩ (hno j j0 j1)
    rw [if_neg (by rw [hrv]; simp)]
    refine evShift ?_
    simp only [customsref27_may.l0]
    refine evNeg (by omega) ?_
    by_cases h3 : y3 = e.f3
    · rw [if_pos h3]
      exact evPos h3 (last_ev hl hread e (fun _ => he.2))
    · rw [if_neg h3]
      exact evNeg h3 (evNow rfl)
  | n + 1, i, hi, hno => by
    have hw : wrap64 ((i : Int) + 1) = ((i + 1 : Nat) : Int) := by rw [wrap64_id (by omega) (by omega)]; omega
    have hI := inv_read (Nat.le_refl _) hread
    rw [List.take_length] at hI
    have step : ¬ ((rd_T26 l (i : Int)).f2 = 9 ∧ (rd_T26 l (i : Int)).f4 = e.f4) → Ev (fun k => customsref27_may.l0 k l (wrap64 ((i : Int) + 1)) e.f0 e.f1 e.f2 e.f3 e.f4 e.f5 y0 y1 y2 y3 y4 y5) _ := fun hn => by
      rw [hw]
      exact scan_ev hl hread e he y0 y1 y2 y3 y4 y5 n (i + 1) (by omega) (fun j j0 j1 => by
        by_cases hj : j < (i : Int)
        · exact hno j j0 hj
        · rw [show j = (i : Int) by omega]; exact hn)
    refine evShift ?_
    simp only [customsref27_may.l0]
    refine evPos (by omega) (evPos (by omega) ?_)
    refine evIf (fun h9 => ?_) (fun h9 => step (fun h => h9 h.1))
    refine evIf (fun h4 => ?_) (fun h4 => step (fun h => h4 h.2))
    rw [if_pos ((hI.rev e.f4).2 ⟨(i : Int), by omega, by omega, h9, h4⟩)]
    exact evNow rfl
theorem may_flag {l : List S26} (e : S26) : Ev (fun k => customsref27_may.j0 k l true e.f0 e.f1 e.f2 e.f3 e.f4 e.f5) 2 := by
  refine evShift ?_
  simp only [customsref27_may.j0]
  exact evPos (by simp) (evNow rfl)
/-- may answers as the books' add. -/
theorem may_ev {l : List S26} (hread : (readTo l l.length).1 = 0) (e : S26) : Ev (fun k => customsref27_may.f k l e.f0 e.f1 e.f2 e.f3 e.f4 e.f5) (addC l (readTo l l.length).2.1 (readTo l l.length).2.2 e).1 := by
  have hI := inv_read (Nat.le_refl _) hread
  rw [List.take_length] at hI
  generalize hb : (readTo l l.length).2.1 = bal at hI
  generalize hv : (readTo l l.length).2.2 = rev at hI
  unfold customsref27_may.f addC
  by_cases a1 : 2000 ≤ (l.length : Int)
  · rw [if_pos a1]; exact evPos a1 (evNow rfl)
  rw [if_neg a1]
  refine evNeg a1 ?_
  by_cases a2 : inR e = false
  · rw [if_pos a2]
    have a2' : ¬ (0 ≤ e.f1 ∧ e.f1 ≤ 36524 ∧ 1 ≤ e.f2 ∧ e.f2 ≤ 9 ∧ 1 ≤ e.f3 ∧ e.f3 ≤ 1000000 ∧ 1 ≤ e.f4 ∧ e.f4 ≤ 64000000000000 ∧ 0 ≤ e.f5 ∧ e.f5 ≤ 1000000000) := fun h => by
      rw [← inR_iff, a2] at h; cases h
    refine evIf (fun _ => may_flag e) (fun c1 => evIf (fun _ => may_flag e) (fun c2 => evIf (fun _ => may_flag e) (fun c3 => evIf (fun _ => may_flag e) (fun c4 => evIf (fun _ => may_flag e) (fun c5 => evIf (fun _ => may_flag e) (fun c6 => evIf (fun _ => may_flag e) (fun c7 => evIf (fun _ => may_flag e) (fun c8 => evIf (fun _ => may_flag e) (fun c9 => ?_)))))))))
    rw [decide_eq_true (show e.f5 > 1000000000 by omega)]
    exact may_flag e
  rw [if_neg a2]
  have hr := inR_iff.1 (show inR e = true by simpa using a2)
  refine evNeg (by omega) (evNeg (by omega) (evNeg (by omega) (evNeg (by omega) (evNeg (by omega) (evNeg (by omega) (evNeg (by omega) (evNeg (by omega) (evNeg (by omega) ?_))))))))
  rw [decide_eq_false (show ¬ e.f5 > 1000000000 by omega)]
  refine evShift ?_
  simp only [customsref27_may.j0]
  refine evNeg (by simp) ?_
  rw [wrap64_id (x := (l.length : Int) + 1) (by omega) (by omega)]
  by_cases a3 : e.f0 ≠ (l.length : Int) + 1
  · rw [if_pos a3]; exact evNeg a3 (evNow rfl)
  rw [if_neg a3]
  refine evPos (by simpa using a3) ?_
  by_cases a4 : e.f2 = 9
  · rw [if_pos a4]
    refine evPos a4 ?_
    by_cases a5 : e.f4 > (l.length : Int)
    · rw [if_pos a5]; exact evPos a5 (evNow rfl)
    rw [if_neg a5]
    refine evNeg a5 ?_
    rw [wrap64_id (x := e.f4 - 1) (by omega) (by omega)]
    refine evPos (by omega) (evPos (by omega) ?_)
    have hnum := hI.num (e.f4 - 1) (by omega) (by omega)
    rw [show e.f4 - 1 + 1 = e.f4 by omega] at hnum
    have hrng := inR_iff.1 (hI.rng (e.f4 - 1) (by omega) (by omega))
    rw [hnum]
    by_cases a6 : (rd_T26 l (e.f4 - 1)).f2 = 9
    · rw [if_pos (.inl a6)]; exact evPos a6 (evNow rfl)
    refine evNeg a6 ?_
    have hs := scan_ev (by omega) hread e ⟨a4, by omega, by omega⟩ ((rd_T26 l (e.f4 - 1)).f0) ((rd_T26 l (e.f4 - 1)).f1) ((rd_T26 l (e.f4 - 1)).f2) ((rd_T26 l (e.f4 - 1)).f3) ((rd_T26 l (e.f4 - 1)).f4) ((rd_T26 l (e.f4 - 1)).f5) l.length 0 (by omega) (fun j j0 j1 => by omega)
    rw [hb, hv] at hs
    by_cases a7 : rev e.f4 = true
    · rw [if_pos (.inr a7)]
      rw [if_pos a7] at hs
      rw [hnum] at hs
      exact hs
    rw [if_neg (fun h => h.elim a6 a7)]
    rw [if_neg a7] at hs
    have hk : 1 ≤ (rd_T26 l (e.f4 - 1)).f2 ∧ (rd_T26 l (e.f4 - 1)).f2 ≤ 8 := by omega
    rw [Int.neg_mul, Int.one_mul]
    by_cases a8 : (rd_T26 l (e.f4 - 1)).f3 = e.f3
    · rw [if_neg (by simpa using a8)]
      rw [if_pos a8] at hs
      rw [a8, eff_aft hk]
      have e1 : kindOf l e = (rd_T26 l (e.f4 - 1)).f2 := if_pos a4; have e2 : amtOf l e = wrap64 (-(rd_T26 l (e.f4 - 1)).f4) := if_pos a4
      rw [e1, e2] at hs
      have ho := eff_ok (v := wrap64 (-(rd_T26 l (e.f4 - 1)).f4)) hk (hI.pos e.f3)
      rw [hnum, a8] at hs
      by_cases a9 : nonneg (aft (bal e.f3) (rd_T26 l (e.f4 - 1)).f2 (wrap64 (-(rd_T26 l (e.f4 - 1)).f4)))
      · rw [if_pos (ho.2 a9)]
        rw [if_pos a9] at hs
        exact hs
      · rw [if_neg (fun h => a9 (ho.1 h))]
        rw [if_neg a9] at hs
        exact hs
    · rw [if_pos a8]
      rw [if_neg a8] at hs
      rw [hnum] at hs
      exact hs
  · rw [if_neg a4]
    refine evNeg a4 ?_
    have hk : 1 ≤ e.f2 ∧ e.f2 ≤ 8 := by omega
    have hs := last_ev (by omega) hread e (fun h => absurd h a4)
    rw [hb] at hs
    rw [wrap_one (by omega) (by omega), eff_aft hk]
    have e1 : kindOf l e = e.f2 := if_neg a4; have e2 : amtOf l e = e.f4 := if_neg a4
    rw [e1, e2] at hs
    have ho := eff_ok (v := e.f4) hk (hI.pos e.f3)
    by_cases a9 : nonneg (aft (bal e.f3) e.f2 e.f4)
    · rw [if_pos (ho.2 a9)]
      rw [if_pos a9] at hs
      exact hs
    · rw [if_neg (fun h => a9 (ho.1 h))]
      rw [if_neg a9] at hs
      exact hs
end Go.Proofs.Ytgedkdofhonicaa.E
-- Written by a program of this claim (wip/tools: mkprint.py, pr.sh) out of the translation: plain functions and their contracts. Lean checks every line.
namespace Go.Proofs.Ytgedkdofhonicaa.PC
open Go.RowKit Go.Proofs.YtgedkdofhonicaaW.PrintWords Go.Proofs.YtgedkdofhonicaaW.PrintLast Go.Proofs.YtgedkdofhonicaaW.PrintMore Go.Proofs.Ytgedkdofhonicaa.G Go.Proofs.Ytgedkdofhonicaa.PA Go.Proofs.Ytgedkdofhonicaa.PM
attribute [local go_sem] max2_int min2_int max_two min_two max_three min_three max_four min_four   -- for this text's walks alone
set_option linter.unusedVariables false
set_option linter.unusedSimpArgs false
theorem eqA26 (d : Nat) (w : World) (x0 y0 : Int) (x1 y1 : Int) (x2 y2 : Int) (x3 y3 : Int) (x4 y4 : Int) (x5 y5 : Int) :
    (Op.equalIn (d + 2) 26 (.agg #[.int .i64 x0, .int .i64 x1, .int .i64 x2, .int .i64 x3, .int .i64 x4, .int .i64 x5]) (.agg #[.int .i64 y0, .int .i64 y1, .int .i64 y2, .int .i64 y3, .int .i64 y4, .int .i64 y5])).run Try.prog w = .ok (x0 == y0 && (x1 == y1 && (x2 == y2 && (x3 == y3 && (x4 == y4 && (x5 == y5)))))) w := by
  refine eqA_of Try.underlying26 (by kernel_rfl) ?_
  refine eqf_cons (by rfl) (by go_simp; rfl) (by go_simp; rfl) (by go_simp) ?_
  refine eqf_cons (by rfl) (by go_simp; rfl) (by go_simp; rfl) (by go_simp) ?_
  refine eqf_cons (by rfl) (by go_simp; rfl) (by go_simp; rfl) (by go_simp) ?_
  refine eqf_cons (by rfl) (by go_simp; rfl) (by go_simp; rfl) (by go_simp) ?_
  refine eqf_cons (by rfl) (by go_simp; rfl) (by go_simp; rfl) (by go_simp) ?_
  exact eqf_last (by rfl) (by go_simp; rfl) (by go_simp; rfl) (by go_simp)
end Go.Proofs.Ytgedkdofhonicaa.PC
-- Written by a program of this claim (wip/tools: mkprint.py, pr.sh) out of the translation: plain functions and their contracts. Lean checks every line.
namespace Go.Proofs.Ytgedkdofhonicaa.PC
open Go.RowKit Go.Proofs.YtgedkdofhonicaaW.PrintWords Go.Proofs.YtgedkdofhonicaaW.PrintLast Go.Proofs.YtgedkdofhonicaaW.PrintMore Go.Proofs.Ytgedkdofhonicaa.G Go.Proofs.Ytgedkdofhonicaa.PA Go.Proofs.Ytgedkdofhonicaa.PM
attribute [local go_sem] max2_int min2_int max_two min_two max_three min_three max_four min_four   -- for this text's walks alone
set_option linter.unusedVariables false
set_option linter.unusedSimpArgs false
theorem eqA37 (d : Nat) (w : World) (x0 y0 : Int) (x1 y1 : Int) (x2 y2 : Int) (x3 y3 : Int) (x4 y4 : Int) :
    (Op.equalIn (d + 2) 37 (.agg #[.int .i64 x0, .int .i64 x1, .int .i64 x2, .int .i64 x3, .int .i64 x4]) (.agg #[.int .i64 y0, .int .i64 y1, .int .i64 y2, .int .i64 y3, .int .i64 y4])).run Try.prog w = .ok (x0 == y0 && (x1 == y1 && (x2 == y2 && (x3 == y3 && (x4 == y4))))) w := by
  refine eqA_of Try.underlying37 (by kernel_rfl) ?_
  refine eqf_cons (by rfl) (by go_simp; rfl) (by go_simp; rfl) (by go_simp) ?_
  refine eqf_cons (by rfl) (by go_simp; rfl) (by go_simp; rfl) (by go_simp) ?_
  refine eqf_cons (by rfl) (by go_simp; rfl) (by go_simp; rfl) (by go_simp) ?_
  refine eqf_cons (by rfl) (by go_simp; rfl) (by go_simp; rfl) (by go_simp) ?_
  exact eqf_last (by rfl) (by go_simp; rfl) (by go_simp; rfl) (by go_simp)
end Go.Proofs.Ytgedkdofhonicaa.PC
-- Written by a program of this claim (wip/tools: mkprint.py, pr.sh) out of the translation: plain functions and their contracts. Lean checks every line.
namespace Go.Proofs.Ytgedkdofhonicaa.PC
open Go.RowKit Go.Proofs.YtgedkdofhonicaaW.PrintWords Go.Proofs.YtgedkdofhonicaaW.PrintLast Go.Proofs.YtgedkdofhonicaaW.PrintMore Go.Proofs.Ytgedkdofhonicaa.G Go.Proofs.Ytgedkdofhonicaa.PA Go.Proofs.Ytgedkdofhonicaa.PM
attribute [local go_sem] max2_int min2_int max_two min_two max_three min_three max_four min_four   -- for this text's walks alone
set_option linter.unusedVariables false
set_option linter.unusedSimpArgs false
attribute [local go_sem high] eqA26 eqA37
mutual
def customsmade_Ledger.l0 : Nat → List (S26) → List Int → Int → Option ((List (S26)))
 | 0, _, _, _ => none
 | k + 1, x4, x124000, x124001 => (customsmade_Source_Left.f x124000 x124001).bind fun bt124 => (if bt124.1 = true then (customsmade_Ledger.j1 k x4 (decide ((x4.length : Int) < 30)) x124000 bt124.2) else (customsmade_Ledger.j1 k x4 false x124000 bt124.2))
def customsmade_Ledger.j1 : Nat → List (S26) → Bool → List Int → Int → Option ((List (S26)))
 | 0, _, _, _, _ => none
 | k + 1, x4, x18, x124000, x124001 => if x18 = true then ((customsmade_Entry.f x124000 x124001 (x4.length : Int)).bind fun bt126 => ((customsref27_Append.f k x4 bt126.1 bt126.2.1 bt126.2.2.1 bt126.2.2.2.1 bt126.2.2.2.2.1 bt126.2.2.2.2.2.1).bind fun bt134 => (if bt134.2 = 0 then (customsmade_Ledger.l0 k bt134.1 x124000 bt126.2.2.2.2.2.2) else (customsmade_Ledger.l0 k x4 x124000 bt126.2.2.2.2.2.2)))) else (some x4)
end
def customsmade_Ledger.f (k : Nat) (l0 : List Int) : Option ((List (S26))) := (customsmade_Cut.f l0 100).bind fun t122 => (customsmade_Ledger.l0 k ([] : List (S26)) t122 0)
set_option maxHeartbeats 8000000 in
set_option maxRecDepth 100000 in
theorem customsmade_Ledger.calls (k : Nat) (A0 : Option Addr) (c0 : Nat) (l0 : List Int) (r : List (S26)) (w : World) (hr0 : Kd.C (Kd.int .i64) w A0 l0.length l0) (hc0 : l0.length ≤ c0) (h : customsmade_Ledger.f k l0 = some r) :
  Calls Try.prog 9 #[.slice A0 l0.length c0] w fun e w' => ∃ v0_ : Value, e = .returned (v0_) ∧ Kd.R k26 26 w' w.heap.size (fun _ => True) v0_ r ∧ Below w.heap.size w w' := by
 have hu30 := Try.underlying30; have hu26 := Try.underlying26; have HR0 := Aside0.mk hr0; have HC0 := Aside0.mk hc0; clear hr0 hc0; have HB := Aside0.mk (Below.refl w.heap.size w); have H : ((customsmade_Cut.f l0 100).bind fun t122 => (customsmade_Ledger.l0 k ([] : List (S26)) t122 0)) = some r := h; clear h; replace H := Option.bind_eq_some_iff.mp H; obtain ⟨t122, A20, H⟩ := H; replace H : (customsmade_Ledger.l0 k ([] : List (S26)) t122 0) = some r := H; have A2 := Aside0.mk A20; clear A20; have H' := Aside0.mk H; clear H
 go_enter Try.func9, Try.ntmps9
 go_wp2_with (first | ((with_reducible refine gate_callee (f := 24) rfl ?_); refine goesL_ (some 9) rfl rfl Try.func24 (by kernel_rfl) rfl #[.slice A0 l0.length c0, .int .i64 100] rfl argx ?_; (with_reducible refine (customsmade_Cut.calls _ _ l0 100 t122 _ w ?side1 ?side2 A2.out).mono ?_); (case side1 => exact HR0.out); (case side2 => exact HC0.out); rintro e w' ⟨A122_9, c122_9, rfl, hr_, hc_, ⟨nd, rfl⟩⟩; refine ⟨_, rfl, ?_⟩; have HR122_9 := Aside0.mk hr_; have HC122_9 := Aside0.mk hc_; clear hr_ hc_) | ((with_reducible refine gate_dst (N := 11) rfl ?_); refine box_event ?hg (N := 11) ?hd (cs := #[.slice A122_9 t122.length c122_9, .int .i64 0]) (t := 30) ?hr ?_; (case hd => rfl); (case hg => rfl); (case hr => first | (go_simp; done) | (go_simp; rfl)); intro gb123 hg w3 hbox hb; have qb_ := below_both bel hb; have n0_ := Aside0.mk (qb_.1); have n1_ := Aside0.mk ((show IsS30 w w3 gb123 t122 0 from ⟨_, _, hbox, (by rw [hg]; exact qb_.2 : w.heap.size ≤ gb123), HR122_9.out⟩)); clear HB; have HB := n0_; have HI123 := n1_; clear qb_; clear n0_ n1_; clear hb hbox hg))
 go_loopg [4] k (fun kq v4 w' => ∃ (x4_1 : List (S26)) (x124001_1 : Int), Aside0 (customsmade_Ledger.l0 kq x4_1 t122 x124001_1 = some r) ∧ Aside0 (kq ≤ k) ∧ Aside0 (Kd.R k26 26 w' w.heap.size (fun _ => True) v4 x4_1) ∧ Aside0 (IsS30 w w' gb123 t122 x124001_1) ∧ Aside0 (Below w.heap.size w w'))
 case atStart => exact ⟨(([] : List (S26))), (0), H', ⟨Nat.le_refl _⟩, ⟨by first | exact Kd.R_nil _ _ _ _ _ | exact Kd.N_nil _ _ _ _ _ | exact Kd.V_nil _ _ _ _ _ | exact Kd.Q_nil _ _ _ _ _ | exact Kd.S_nil _ _ _ _ _⟩, ⟨by repeat (first | (with_reducible first | exact HI123.out | apply IsS30.alloc | apply IsS30.drewN | apply IsS30.drew | apply IsS30.set_1) | exact HI123.out)⟩, ⟨by repeat (first | (with_reducible first | exact HB.out | apply below_alloc | apply pw_below_drewN | apply below_drew1 | refine below_set ?_ (IsS30.ge HI123.out)) | exact HB.out)⟩⟩
 case round =>
  clear H'
  try clear c1
  try clear c2
  try clear p2
  obtain ⟨x4_1, x124001_1, HA, HK1, HO_4, HI123, HB⟩ := hrel
  cases gk with
  | zero => exact absurd HA.out (by simp [customsmade_Ledger.l0])
  | succ k1 =>
   have H := HA.out; clear HA
   simp only [customsmade_Ledger.l0] at H
   have HC4 := Aside0.mk H; clear H
   go_upto_region 3 with (fail)
   go_cut [18] (fun v18 wc => ∃ (kq : Nat) (x18_3 : Bool) (x124001_3 : Int), v18 = .bool x18_3 ∧ Aside0 (customsmade_Ledger.j1 kq x4_1 x18_3 t122 x124001_3 = some r) ∧ Aside0 (kq ≤ k1) ∧ Aside0 (Kd.R k26 26 wc w.heap.size (fun _ => True) u4 x4_1) ∧ Aside0 (IsS30 w wc gb123 t122 x124001_3) ∧ Aside0 (Below w.heap.size w wc))
   case first =>
    have H := HC4.out; clear HC4; replace H := Option.bind_eq_some_iff.mp H; obtain ⟨⟨t124, t125⟩, A50, H⟩ := H; replace H : (if t124 = true then (customsmade_Ledger.j1 k1 x4_1 (decide ((x4_1.length : Int) < 30)) t122 t125) else (customsmade_Ledger.j1 k1 x4_1 false t122 t125)) = some r := H; have A5 := Aside0.mk A50; clear A50
    by_cases c6 : t124 = true
    ·subst c6
     have H1 : (customsmade_Ledger.j1 k1 x4_1 (decide ((x4_1.length : Int) < 30)) t122 t125) = some r := by rw [if_pos rfl] at H; exact H
     clear H; have H := H1; clear H1; have H' := Aside0.mk H; clear H
     go_wp2_with (first | ((with_reducible refine gate_callee (f := 26) rfl ?_); refine goesL_ (some 13) rfl rfl Try.func26 (by kernel_rfl) rfl #[.pointer (some ⟨gb123, 0, none⟩)] rfl argx ?_; (with_reducible refine (customsmade_Source_Left.calls gb123 t122 x124001_1 true t125 w _ ?side1 ?side2 A5.out).mono ?_); (case side1 => repeat (first | (with_reducible first | exact HI123.out | apply IsS30.alloc | apply IsS30.drewN | apply IsS30.drew | apply IsS30.set_1) | exact HI123.out)); (case side2 => repeat (first | (with_reducible first | exact HB.out | apply below_alloc | apply pw_below_drewN | apply below_drew1 | refine below_set ?_ (IsS30.ge HI123.out)) | exact HB.out)); rintro e w7 ⟨rfl, hi, hb, hk⟩; refine ⟨_, rfl, ?_⟩; have n0_ := Aside0.mk (Kd.R_mono (Kd.R_keep (IsS30.apart (show IsS30 w _ gb123 t122 x124001_1 from by repeat (first | (with_reducible first | exact HI123.out | apply IsS30.alloc | apply IsS30.drewN | apply IsS30.drew | apply IsS30.set_1) | exact HI123.out)) (rowx HO_4.out) (by decide)) hk (fun _ h => h.2)) (fun _ h => h.1)); have n1_ := Aside0.mk (hb); have n2_ := Aside0.mk (hi); clear HO_4; clear HB; clear HI123; have HO_4 := n0_; have HB := n1_; have HI123 := n2_; clear n0_ n1_ n2_; (try clear hb); (try clear hb2); (try clear hk); (try clear hi); obtain ⟨Ao8, co8, eo8⟩ := Kd.R_slice HO_4.out; subst eo8))
     go_meet
     case rel => exact ⟨_, (decide ((x4_1.length : Int) < 30)), (t125), zPA11, H', ⟨by have := HK1.out; first | omega | exact Nat.le_refl _⟩, ⟨by (with_reducible repeat (first | apply Kd.R_alloc | apply Kd.R_drewN | apply Kd.R_drew)); exact HO_4.out⟩, ⟨by repeat (first | (with_reducible first | exact HI123.out | apply IsS30.alloc | apply IsS30.drewN | apply IsS30.drew | apply IsS30.set_1) | exact HI123.out)⟩, ⟨by repeat (first | (with_reducible first | exact HB.out | apply below_alloc | apply pw_below_drewN | apply below_drew1 | refine below_set ?_ (IsS30.ge HI123.out)) | exact HB.out)⟩⟩
    ·replace c6 := Bool.eq_false_iff.mpr c6
     subst c6
     have H1 : (customsmade_Ledger.j1 k1 x4_1 false t122 t125) = some r := by rw [if_neg (show ¬ (false = true) by decide)] at H; exact H
     clear H; have H := H1; clear H1; have H' := Aside0.mk H; clear H
     go_wp2_with (first | ((with_reducible refine gate_callee (f := 26) rfl ?_); refine goesL_ (some 13) rfl rfl Try.func26 (by kernel_rfl) rfl #[.pointer (some ⟨gb123, 0, none⟩)] rfl argx ?_; (with_reducible refine (customsmade_Source_Left.calls gb123 t122 x124001_1 false t125 w _ ?side1 ?side2 A5.out).mono ?_); (case side1 => repeat (first | (with_reducible first | exact HI123.out | apply IsS30.alloc | apply IsS30.drewN | apply IsS30.drew | apply IsS30.set_1) | exact HI123.out)); (case side2 => repeat (first | (with_reducible first | exact HB.out | apply below_alloc | apply pw_below_drewN | apply below_drew1 | refine below_set ?_ (IsS30.ge HI123.out)) | exact HB.out)); rintro e w9 ⟨rfl, hi, hb, hk⟩; refine ⟨_, rfl, ?_⟩; have n0_ := Aside0.mk (Kd.R_mono (Kd.R_keep (IsS30.apart (show IsS30 w _ gb123 t122 x124001_1 from by repeat (first | (with_reducible first | exact HI123.out | apply IsS30.alloc | apply IsS30.drewN | apply IsS30.drew | apply IsS30.set_1) | exact HI123.out)) (rowx HO_4.out) (by decide)) hk (fun _ h => h.2)) (fun _ h => h.1)); have n1_ := Aside0.mk (hb); have n2_ := Aside0.mk (hi); clear HO_4; clear HB; clear HI123; have HO_4 := n0_; have HB := n1_; have HI123 := n2_; clear n0_ n1_ n2_; (try clear hb); (try clear hb2); (try clear hk); (try clear hi)))
     go_meet
     case rel => exact ⟨_, (false), (t125), zPA11, H', ⟨by have := HK1.out; first | omega | exact Nat.le_refl _⟩, ⟨by (with_reducible repeat (first | apply Kd.R_alloc | apply Kd.R_drewN | apply Kd.R_drew)); exact HO_4.out⟩, ⟨by repeat (first | (with_reducible first | exact HI123.out | apply IsS30.alloc | apply IsS30.drewN | apply IsS30.drew | apply IsS30.set_1) | exact HI123.out)⟩, ⟨by repeat (first | (with_reducible first | exact HB.out | apply below_alloc | apply pw_below_drewN | apply below_drew1 | refine below_set ?_ (IsS30.ge HI123.out)) | exact HB.out)⟩⟩
   case rest =>
    clear HC4
    try clear c1
    try clear c2
    try clear p2
    try clear c6
    try clear c9
    try clear p2
    obtain ⟨kq, x18_3, x124001_3, rfl, HA, HJ3, HO_4, HI123, HB⟩ := hcut
    cases kq with
    | zero => exact absurd HA.out (by simp [customsmade_Ledger.j1])
    | succ kj3 =>
     have H := HA.out; clear HA
     simp only [customsmade_Ledger.j1] at H
     by_cases c10 : x18_3 = true
     ·subst c10
      have H1 : ((customsmade_Entry.f t122 x124001_3 (x4_1.length : Int)).bind fun bt126 => ((customsref27_Append.f kj3 x4_1 bt126.1 bt126.2.1 bt126.2.2.1 bt126.2.2.2.1 bt126.2.2.2.2.1 bt126.2.2.2.2.2.1).bind fun bt134 => (if bt134.2 = 0 then (customsmade_Ledger.l0 kj3 bt134.1 t122 bt126.2.2.2.2.2.2) else (customsmade_Ledger.l0 kj3 x4_1 t122 bt126.2.2.2.2.2.2)))) = some r := by rw [if_pos rfl] at H; exact H
      clear H; have H := H1; clear H1; replace H := Option.bind_eq_some_iff.mp H; obtain ⟨⟨t126, t127, t128, t129, t130, t131, t132⟩, A110, H⟩ := H; replace H : ((customsref27_Append.f kj3 x4_1 t126 t127 t128 t129 t130 t131).bind fun bt134 => (if bt134.2 = 0 then (customsmade_Ledger.l0 kj3 bt134.1 t122 t132) else (customsmade_Ledger.l0 kj3 x4_1 t122 t132))) = some r := H; have A11 := Aside0.mk A110; clear A110; replace H := Option.bind_eq_some_iff.mp H; obtain ⟨⟨t134, t137⟩, A120, H⟩ := H; replace H : (if t137 = 0 then (customsmade_Ledger.l0 kj3 t134 t122 t132) else (customsmade_Ledger.l0 kj3 x4_1 t122 t132)) = some r := H; have A12 := Aside0.mk A120; clear A120
      by_cases c13 : t137 = 0
      ·rw [if_pos c13] at H
       have c13b0 : (t137 == 0) = true := beq_iff_eq.mpr c13; have c13b1 : (t137 != 0) = false := bne_eq_false_iff_eq.mpr c13; clear c13; have H' := Aside0.mk H; clear H; obtain ⟨Ao14, co14, eo14⟩ := Kd.R_slice HO_4.out; subst eo14
       go_wp2_with (first | ((with_reducible refine gate_callee (f := 10) rfl ?_); refine goesL_ (some 22) rfl rfl Try.func10 (by kernel_rfl) rfl #[.pointer (some ⟨gb123, 0, none⟩), .int .i64 (x4_1.length : Int)] rfl argx ?_; (with_reducible refine (customsmade_Entry.calls gb123 t122 x124001_3 (x4_1.length : Int) t126 t127 t128 t129 t130 t131 t132 w _ ?side1 ?side2 A11.out).mono ?_); (case side1 => repeat (first | (with_reducible first | exact HI123.out | apply IsS30.alloc | apply IsS30.drewN | apply IsS30.drew | apply IsS30.set_1) | exact HI123.out)); (case side2 => repeat (first | (with_reducible first | exact HB.out | apply below_alloc | apply pw_below_drewN | apply below_drew1 | refine below_set ?_ (IsS30.ge HI123.out)) | exact HB.out)); rintro e w15 ⟨rfl, hi, hb, hk⟩; refine ⟨_, rfl, ?_⟩; have n0_ := Aside0.mk (Kd.R_mono (Kd.R_keep (IsS30.apart (show IsS30 w _ gb123 t122 x124001_3 from by repeat (first | (with_reducible first | exact HI123.out | apply IsS30.alloc | apply IsS30.drewN | apply IsS30.drew | apply IsS30.set_1) | exact HI123.out)) (rowx HO_4.out) (by decide)) hk (fun _ h => h.2)) (fun _ h => h.1)); have n1_ := Aside0.mk (hb); have n2_ := Aside0.mk (hi); clear HO_4; clear HB; clear HI123; have HO_4 := n0_; have HB := n1_; have HI123 := n2_; clear n0_ n1_ n2_; (try clear hb); (try clear hb2); (try clear hk); (try clear hi)) | ((with_reducible refine gate_dst (N := 5) rfl ?_); refine box_event ?hg (N := 5) ?hd (cs := #[.int .i64 0, .int .i64 0, .int .i64 0, .int .i64 0, .int .i64 0, .int .i64 0]) (t := 26) ?hr ?_; (case hd => rfl); (case hg => rfl); (case hr => first | (go_simp; done) | (go_simp; rfl)); intro gb133 hg w16 hbox hb; have n0_ := Aside0.mk (Kd.R_below (Kd.R_elderB (rowx HO_4.out) gb133 (Nat.le_of_eq hg.symm)) hb); have n1_ := Aside0.mk (IsS30.below (by repeat (first | (with_reducible first | exact HI123.out | apply IsS30.alloc | apply IsS30.drewN | apply IsS30.drew | apply IsS30.set_1) | exact HI123.out)) hb); have n2_ := Aside0.mk (below_step zPA16 hb); have n3_ := Aside0.mk (hbox); have n5_ := Aside0.mk ((by rw [hg]; exact (below_size zPA16) : w.heap.size ≤ gb133)); have n6_ := Aside0.mk ((by rw [hg]; exact Nat.ne_of_lt (IsS30.lt (show IsS30 w _ gb123 t122 t132 from by repeat (first | (with_reducible first | exact HI123.out | apply IsS30.alloc | apply IsS30.drewN | apply IsS30.drew | apply IsS30.set_1) | exact HI123.out))) : gb123 ≠ gb133)); have n7_ := Aside0.mk (Ne.symm n6_.out); clear HO_4; clear HI123; clear HB; have HO_4 := n0_; have HI123 := n1_; have HB := n2_; have BK133 := n3_; have GE133 := n5_; have NB123_133 := n6_; have NB133_123 := n7_; clear n0_ n1_ n2_ n3_ n5_ n6_ n7_; clear hb hbox hg; have hnb17 := NB133_123.out; have hnc17 := NB123_133.out; obtain ⟨hcz18_0, hcz18_1, hcz18_2, hcz18_3, hcz18_4, hcz18_5, hfz18_0, hfz18_1, hfz18_2, hfz18_3, hfz18_4, hfz18_5⟩ := cells6 BK133.out) | ((with_reducible refine gate_callee (f := 20) rfl ?_); refine goesL_ (some 26) rfl rfl Try.func20 (by kernel_rfl) rfl #[.slice Ao14 x4_1.length co14, .agg #[.int .i64 t126, .int .i64 t127, .int .i64 t128, .int .i64 t129, .int .i64 t130, .int .i64 t131]] rfl argx ?_; (with_reducible refine (customsref27_Append.calls kj3 _ _ x4_1 t126 t127 t128 t129 t130 t131 t134 t137 _ ?side1 ?side2 A12.out).mono ?_); (case side1 => refine (Kd.R_reads' (e := 26) (base := w.heap.size) (ok := fun k_ => (True ∧ k_ ≠ gb133)) (n := x4_1.length) (c := co14) ?_).2.2; exact zPA9); (case side2 => exact (Kd.R_reads' HO_4.out).2.1); rintro e w19 ⟨v135, rfl, ho0, hb⟩; refine ⟨_, rfl, ?_⟩; have n1_ := Aside0.mk (Kd.R_lower (Kd.R_newB (Kd.R_new' ho0 (Kd.R_lt zPA9)) (g := gb133) (o := .cells #[.int .i64 t126, .int .i64 t127, .int .i64 t128, .int .i64 t129, .int .i64 t130, .int .i64 t131] 26 (0, 0)) (by (with_reducible repeat (first | refine blk_drewN ?_ _ | refine blk_drew ?_ | refine blk_alloc ?_ _)); refine blk_put (cs := #[.int .i64 t126, .int .i64 t127, .int .i64 t128, .int .i64 t129, .int .i64 t130, .int .i64 0]) ?_ 5 _ rfl; refine blk_put (cs := #[.int .i64 t126, .int .i64 t127, .int .i64 t128, .int .i64 t129, .int .i64 0, .int .i64 0]) ?_ 4 _ rfl; refine blk_put (cs := #[.int .i64 t126, .int .i64 t127, .int .i64 t128, .int .i64 0, .int .i64 0, .int .i64 0]) ?_ 3 _ rfl; refine blk_put (cs := #[.int .i64 t126, .int .i64 t127, .int .i64 0, .int .i64 0, .int .i64 0, .int .i64 0]) ?_ 2 _ rfl; refine blk_put (cs := #[.int .i64 t126, .int .i64 0, .int .i64 0, .int .i64 0, .int .i64 0, .int .i64 0]) ?_ 1 _ rfl; refine blk_put (cs := #[.int .i64 0, .int .i64 0, .int .i64 0, .int .i64 0, .int .i64 0, .int .i64 0]) ?_ 0 _ rfl; (with_reducible repeat (first | refine blk_drewN ?_ _ | refine blk_drew ?_ | refine blk_alloc ?_ _)); exact BK133.out)) (below_size (by repeat (first | (with_reducible first | exact HB.out | apply below_alloc | apply pw_below_drewN | apply below_drew1 | refine below_set ?_ (IsS30.ge HI123.out) | refine below_set ?_ GE133.out) | exact HB.out)))); have n2_ := Aside0.mk (IsS30.below (show IsS30 w ((((((w16.setCell ⟨gb133, 0, none⟩ (.int .i64 t126)).setCell ⟨gb133, 1, none⟩ (.int .i64 t127)).setCell ⟨gb133, 2, none⟩ (.int .i64 t128)).setCell ⟨gb133, 3, none⟩ (.int .i64 t129)).setCell ⟨gb133, 4, none⟩ (.int .i64 t130)).setCell ⟨gb133, 5, none⟩ (.int .i64 t131)) gb123 t122 t132 from by repeat (first | (with_reducible first | exact HI123.out | apply IsS30.alloc | apply IsS30.drewN | apply IsS30.drew | apply IsS30.set_1 | refine IsS30.far ?_ NB123_133.out _) | exact HI123.out)) hb); have n4_ := Aside0.mk (below_step (by repeat (first | (with_reducible first | exact HB.out | apply below_alloc | apply pw_below_drewN | apply below_drew1 | refine below_set ?_ (IsS30.ge HI123.out) | refine below_set ?_ GE133.out) | exact HB.out)) hb); (try clear HO_4); clear HI123; (try clear BK133); clear HB; have HO136 := n1_; have HI123 := n2_; have HB := n4_; clear n1_ n2_ n4_; (try clear hb); (try clear hb2); (try clear hk); (try clear hi); (try clear ho0)))
       go_roundg kj3
       case measure => have := HK1.out; have := HJ3.out; omega
       case rel => exact ⟨(t134), (t132), H', ⟨by have := HK1.out; have := HJ3.out; omega⟩, ⟨by (with_reducible repeat (first | apply Kd.R_alloc | apply Kd.R_drewN | apply Kd.R_drew)); exact Kd.R_mono HO136.out (fun _ hk => trivial)⟩, ⟨by repeat (first | (with_reducible first | exact HI123.out | apply IsS30.alloc | apply IsS30.drewN | apply IsS30.drew | apply IsS30.set_1 | refine IsS30.far ?_ NB123_133.out _) | exact HI123.out)⟩, ⟨by repeat (first | (with_reducible first | exact HB.out | apply below_alloc | apply pw_below_drewN | apply below_drew1 | refine below_set ?_ (IsS30.ge HI123.out) | refine below_set ?_ GE133.out) | exact HB.out)⟩⟩
      ·rw [if_neg c13] at H
       have c13b0 : (t137 == 0) = false := beq_eq_false_iff_ne.mpr c13; have c13b1 : (t137 != 0) = true := bne_iff_ne.mpr c13; have H' := Aside0.mk H; clear H; obtain ⟨Ao20, co20, eo20⟩ := Kd.R_slice HO_4.out; subst eo20
       go_wp2_with (first | ((with_reducible refine gate_callee (f := 10) rfl ?_); refine goesL_ (some 22) rfl rfl Try.func10 (by kernel_rfl) rfl #[.pointer (some ⟨gb123, 0, none⟩), .int .i64 (x4_1.length : Int)] rfl argx ?_; (with_reducible refine (customsmade_Entry.calls gb123 t122 x124001_3 (x4_1.length : Int) t126 t127 t128 t129 t130 t131 t132 w _ ?side1 ?side2 A11.out).mono ?_); (case side1 => repeat (first | (with_reducible first | exact HI123.out | apply IsS30.alloc | apply IsS30.drewN | apply IsS30.drew | apply IsS30.set_1) | exact HI123.out)); (case side2 => repeat (first | (with_reducible first | exact HB.out | apply below_alloc | apply pw_below_drewN | apply below_drew1 | refine below_set ?_ (IsS30.ge HI123.out)) | exact HB.out)); rintro e w21 ⟨rfl, hi, hb, hk⟩; refine ⟨_, rfl, ?_⟩; have n0_ := Aside0.mk (Kd.R_mono (Kd.R_keep (IsS30.apart (show IsS30 w _ gb123 t122 x124001_3 from by repeat (first | (with_reducible first | exact HI123.out | apply IsS30.alloc | apply IsS30.drewN | apply IsS30.drew | apply IsS30.set_1) | exact HI123.out)) (rowx HO_4.out) (by decide)) hk (fun _ h => h.2)) (fun _ h => h.1)); have n1_ := Aside0.mk (hb); have n2_ := Aside0.mk (hi); clear HO_4; clear HB; clear HI123; have HO_4 := n0_; have HB := n1_; have HI123 := n2_; clear n0_ n1_ n2_; (try clear hb); (try clear hb2); (try clear hk); (try clear hi)) | ((with_reducible refine gate_dst (N := 5) rfl ?_); refine box_event ?hg (N := 5) ?hd (cs := #[.int .i64 0, .int .i64 0, .int .i64 0, .int .i64 0, .int .i64 0, .int .i64 0]) (t := 26) ?hr ?_; (case hd => rfl); (case hg => rfl); (case hr => first | (go_simp; done) | (go_simp; rfl)); intro gb133 hg w22 hbox hb; have n0_ := Aside0.mk (Kd.R_below (Kd.R_elderB (rowx HO_4.out) gb133 (Nat.le_of_eq hg.symm)) hb); have n1_ := Aside0.mk (IsS30.below (by repeat (first | (with_reducible first | exact HI123.out | apply IsS30.alloc | apply IsS30.drewN | apply IsS30.drew | apply IsS30.set_1) | exact HI123.out)) hb); have n2_ := Aside0.mk (below_step zPA16 hb); have n3_ := Aside0.mk (hbox); have n5_ := Aside0.mk ((by rw [hg]; exact (below_size zPA16) : w.heap.size ≤ gb133)); have n6_ := Aside0.mk ((by rw [hg]; exact Nat.ne_of_lt (IsS30.lt (show IsS30 w _ gb123 t122 t132 from by repeat (first | (with_reducible first | exact HI123.out | apply IsS30.alloc | apply IsS30.drewN | apply IsS30.drew | apply IsS30.set_1) | exact HI123.out))) : gb123 ≠ gb133)); have n7_ := Aside0.mk (Ne.symm n6_.out); clear HO_4; clear HI123; clear HB; have HO_4 := n0_; have HI123 := n1_; have HB := n2_; have BK133 := n3_; have GE133 := n5_; have NB123_133 := n6_; have NB133_123 := n7_; clear n0_ n1_ n2_ n3_ n5_ n6_ n7_; clear hb hbox hg; have hnb23 := NB133_123.out; have hnc23 := NB123_133.out; obtain ⟨hcz24_0, hcz24_1, hcz24_2, hcz24_3, hcz24_4, hcz24_5, hfz24_0, hfz24_1, hfz24_2, hfz24_3, hfz24_4, hfz24_5⟩ := cells6 BK133.out) | ((with_reducible refine gate_callee (f := 20) rfl ?_); refine goesL_ (some 26) rfl rfl Try.func20 (by kernel_rfl) rfl #[.slice Ao20 x4_1.length co20, .agg #[.int .i64 t126, .int .i64 t127, .int .i64 t128, .int .i64 t129, .int .i64 t130, .int .i64 t131]] rfl argx ?_; (with_reducible refine (customsref27_Append.calls kj3 _ _ x4_1 t126 t127 t128 t129 t130 t131 t134 t137 _ ?side1 ?side2 A12.out).mono ?_); (case side1 => refine (Kd.R_reads' (e := 26) (base := w.heap.size) (ok := fun k_ => (True ∧ k_ ≠ gb133)) (n := x4_1.length) (c := co20) ?_).2.2; exact zPA9); (case side2 => exact (Kd.R_reads' HO_4.out).2.1); rintro e w25 ⟨v135, rfl, ho0, hb⟩; refine ⟨_, rfl, ?_⟩; have n0_ := Aside0.mk (Kd.R_elder' zPA9 (Kd.R_base ho0) hb); have n2_ := Aside0.mk (IsS30.below (show IsS30 w ((((((w22.setCell ⟨gb133, 0, none⟩ (.int .i64 t126)).setCell ⟨gb133, 1, none⟩ (.int .i64 t127)).setCell ⟨gb133, 2, none⟩ (.int .i64 t128)).setCell ⟨gb133, 3, none⟩ (.int .i64 t129)).setCell ⟨gb133, 4, none⟩ (.int .i64 t130)).setCell ⟨gb133, 5, none⟩ (.int .i64 t131)) gb123 t122 t132 from by repeat (first | (with_reducible first | exact HI123.out | apply IsS30.alloc | apply IsS30.drewN | apply IsS30.drew | apply IsS30.set_1 | refine IsS30.far ?_ NB123_133.out _) | exact HI123.out)) hb); have n4_ := Aside0.mk (below_step (by repeat (first | (with_reducible first | exact HB.out | apply below_alloc | apply pw_below_drewN | apply below_drew1 | refine below_set ?_ (IsS30.ge HI123.out) | refine below_set ?_ GE133.out) | exact HB.out)) hb); clear HO_4; clear HI123; (try clear BK133); clear HB; have HO_4 := n0_; have HI123 := n2_; have HB := n4_; clear n0_ n2_ n4_; (try clear hb); (try clear hb2); (try clear hk); (try clear hi); (try clear ho0)))
       go_roundg kj3
       case measure => have := HK1.out; have := HJ3.out; omega
       case rel => exact ⟨(x4_1), (t132), H', ⟨by have := HK1.out; have := HJ3.out; omega⟩, ⟨by (with_reducible repeat (first | apply Kd.R_alloc | apply Kd.R_drewN | apply Kd.R_drew)); exact Kd.R_mono HO_4.out (fun _ hk => trivial)⟩, ⟨by repeat (first | (with_reducible first | exact HI123.out | apply IsS30.alloc | apply IsS30.drewN | apply IsS30.drew | apply IsS30.set_1 | refine IsS30.far ?_ NB123_133.out _) | exact HI123.out)⟩, ⟨by repeat (first | (with_reducible first | exact HB.out | apply below_alloc | apply pw_below_drewN | apply below_drew1 | refine below_set ?_ (IsS30.ge HI123.out) | refine below_set ?_ GE133.out) | exact HB.out)⟩⟩
     ·replace c10 := Bool.eq_false_iff.mpr c10
      subst c10
      have H1 : (some x4_1) = some r := by rw [if_neg (show ¬ (false = true) by decide)] at H; exact H
      clear H; have H := H1; clear H1; obtain rfl := Option.some.inj H
      go_wp2
      go_ret
      exact ⟨_, by first | rfl | (simp [errW_none, errW_some] <;> rfl) | (simp [*, errW_none, errW_some] <;> rfl), by (with_reducible repeat (first | apply Kd.R_alloc | apply Kd.R_drewN | apply Kd.R_drew)); exact HO_4.out, by repeat (first | (with_reducible first | exact HB.out | apply below_alloc | apply pw_below_drewN | apply below_drew1 | refine below_set ?_ (IsS30.ge HI123.out)) | exact HB.out)⟩
noncomputable def customslaw30_awake.f  : Option (Bool) := (ledger_Append.f ([] : List (S26)) 1 0 1 5 100 0).bind fun bt138 => ((ledger_Append.f bt138.1 2 0 5 5 40 0).bind fun bt142 => ((ledger_Correct.f bt142.1 9 3 (([(⟨5, 70, 0, 40, 0⟩ : S37)] : List (S37)))).bind fun bt149 => (if bt138.2 = 0 then (if bt142.2 = 0 then (if bt149.2 = 0 then (if (bt149.1.length : Int) = 3 then (if 2 < (bt149.1.length : Int) then (if (((rd_T26 bt149.1 2).f0) == 3 && (((rd_T26 bt149.1 2).f1) == 9 && (((rd_T26 bt149.1 2).f2) == 2 && (((rd_T26 bt149.1 2).f3) == 5 && (((rd_T26 bt149.1 2).f4) == 30 && (((rd_T26 bt149.1 2).f5) == 3)))))) = true then ((ledger_BalanceOf.f bt149.1 5).bind fun bt154 => (some (bt154.1 == 5 && (bt154.2.1 == 70 && (bt154.2.2.1 == 0 && (bt154.2.2.2.1 == 40 && (bt154.2.2.2.2 == 0))))))) else (some false)) else (none)) else (some false)) else (some false)) else (some false)) else (some false))))
set_option maxHeartbeats 8000000 in
set_option maxRecDepth 100000 in
theorem customslaw30_awake.calls  (w : World) (h : customslaw30_awake.f  = some true) :
  Calls Try.prog 12 #[] w fun e w' => e = .returned (.bool true) ∧ Below w.heap.size w w' := by
 have hu26 := Try.underlying26; have hu37 := Try.underlying37; have HB := Aside0.mk (Below.refl w.heap.size w); have H : ((ledger_Append.f ([] : List (S26)) 1 0 1 5 100 0).bind fun bt138 => ((ledger_Append.f bt138.1 2 0 5 5 40 0).bind fun bt142 => ((ledger_Correct.f bt142.1 9 3 (([(⟨5, 70, 0, 40, 0⟩ : S37)] : List (S37)))).bind fun bt149 => (if bt138.2 = 0 then (if bt142.2 = 0 then (if bt149.2 = 0 then (if (bt149.1.length : Int) = 3 then (if 2 < (bt149.1.length : Int) then (if (((rd_T26 bt149.1 2).f0) == 3 && (((rd_T26 bt149.1 2).f1) == 9 && (((rd_T26 bt149.1 2).f2) == 2 && (((rd_T26 bt149.1 2).f3) == 5 && (((rd_T26 bt149.1 2).f4) == 30 && (((rd_T26 bt149.1 2).f5) == 3)))))) = true then ((ledger_BalanceOf.f bt149.1 5).bind fun bt154 => (some (bt154.1 == 5 && (bt154.2.1 == 70 && (bt154.2.2.1 == 0 && (bt154.2.2.2.1 == 40 && (bt154.2.2.2.2 == 0))))))) else (some false)) else (none)) else (some false)) else (some false)) else (some false)) else (some false))))) = some true := h; clear h; replace H := Option.bind_eq_some_iff.mp H; obtain ⟨⟨t138, t141⟩, A10, H⟩ := H; replace H : ((ledger_Append.f t138 2 0 5 5 40 0).bind fun bt142 => ((ledger_Correct.f bt142.1 9 3 (([(⟨5, 70, 0, 40, 0⟩ : S37)] : List (S37)))).bind fun bt149 => (if t141 = 0 then (if bt142.2 = 0 then (if bt149.2 = 0 then (if (bt149.1.length : Int) = 3 then (if 2 < (bt149.1.length : Int) then (if (((rd_T26 bt149.1 2).f0) == 3 && (((rd_T26 bt149.1 2).f1) == 9 && (((rd_T26 bt149.1 2).f2) == 2 && (((rd_T26 bt149.1 2).f3) == 5 && (((rd_T26 bt149.1 2).f4) == 30 && (((rd_T26 bt149.1 2).f5) == 3)))))) = true then ((ledger_BalanceOf.f bt149.1 5).bind fun bt154 => (some (bt154.1 == 5 && (bt154.2.1 == 70 && (bt154.2.2.1 == 0 && (bt154.2.2.2.1 == 40 && (bt154.2.2.2.2 == 0))))))) else (some false)) else (none)) else (some false)) else (some false)) else (some false)) else (some false)))) = some true := H; have A1 := Aside0.mk A10; clear A10; replace H := Option.bind_eq_some_iff.mp H; obtain ⟨⟨t142, t145⟩, A20, H⟩ := H; replace H : ((ledger_Correct.f t142 9 3 (([(⟨5, 70, 0, 40, 0⟩ : S37)] : List (S37)))).bind fun bt149 => (if t141 = 0 then (if t145 = 0 then (if bt149.2 = 0 then (if (bt149.1.length : Int) = 3 then (if 2 < (bt149.1.length : Int) then (if (((rd_T26 bt149.1 2).f0) == 3 && (((rd_T26 bt149.1 2).f1) == 9 && (((rd_T26 bt149.1 2).f2) == 2 && (((rd_T26 bt149.1 2).f3) == 5 && (((rd_T26 bt149.1 2).f4) == 30 && (((rd_T26 bt149.1 2).f5) == 3)))))) = true then ((ledger_BalanceOf.f bt149.1 5).bind fun bt154 => (some (bt154.1 == 5 && (bt154.2.1 == 70 && (bt154.2.2.1 == 0 && (bt154.2.2.2.1 == 40 && (bt154.2.2.2.2 == 0))))))) else (some false)) else (none)) else (some false)) else (some false)) else (some false)) else (some false))) = some true := H; have A2 := Aside0.mk A20; clear A20; obtain ⟨y146, hy146⟩ : ∃ y_ : List (S37), y_ = (([(⟨5, 70, 0, 40, 0⟩ : S37)] : List (S37))) := ⟨_, rfl⟩
 replace H : ((ledger_Correct.f t142 9 3 y146).bind fun bt149 => (if t141 = 0 then (if t145 = 0 then (if bt149.2 = 0 then (if (bt149.1.length : Int) = 3 then (if 2 < (bt149.1.length : Int) then (if (((rd_T26 bt149.1 2).f0) == 3 && (((rd_T26 bt149.1 2).f1) == 9 && (((rd_T26 bt149.1 2).f2) == 2 && (((rd_T26 bt149.1 2).f3) == 5 && (((rd_T26 bt149.1 2).f4) == 30 && (((rd_T26 bt149.1 2).f5) == 3)))))) = true then ((ledger_BalanceOf.f bt149.1 5).bind fun bt154 => (some (bt154.1 == 5 && (bt154.2.1 == 70 && (bt154.2.2.1 == 0 && (bt154.2.2.2.1 == 40 && (bt154.2.2.2.2 == 0))))))) else (some false)) else (none)) else (some false)) else (some false)) else (some false)) else (some false))) = some true := by first | (rw [hy146]; with_reducible exact H) | (have H2_ := (Option.bind_some _ _).symm.trans H; rw [hy146]; with_reducible exact H2_) | (have H2_ := (Option.bind_some _ _).symm.trans H; with_reducible exact H2_) | with_reducible exact H | (rw [hy146]; exact H) | exact H
 have Ny146 := Aside0.mk hy146; clear hy146; replace H := Option.bind_eq_some_iff.mp H; obtain ⟨⟨t149, t150⟩, A30, H⟩ := H; replace H : (if t141 = 0 then (if t145 = 0 then (if t150 = 0 then (if (t149.length : Int) = 3 then (if 2 < (t149.length : Int) then (if (((rd_T26 t149 2).f0) == 3 && (((rd_T26 t149 2).f1) == 9 && (((rd_T26 t149 2).f2) == 2 && (((rd_T26 t149 2).f3) == 5 && (((rd_T26 t149 2).f4) == 30 && (((rd_T26 t149 2).f5) == 3)))))) = true then ((ledger_BalanceOf.f t149 5).bind fun bt154 => (some (bt154.1 == 5 && (bt154.2.1 == 70 && (bt154.2.2.1 == 0 && (bt154.2.2.2.1 == 40 && (bt154.2.2.2.2 == 0))))))) else (some false)) else (none)) else (some false)) else (some false)) else (some false)) else (some false)) = some true := H; have A3 := Aside0.mk A30; clear A30
 by_cases c4 : t141 = 0
 ·rw [if_pos c4] at H
  have c4b0 : (t141 == 0) = true := beq_iff_eq.mpr c4; have c4b1 : (t141 != 0) = false := bne_eq_false_iff_eq.mpr c4; clear c4
  by_cases c5 : t145 = 0
  ·rw [if_pos c5] at H
   have c5b0 : (t145 == 0) = true := beq_iff_eq.mpr c5; have c5b1 : (t145 != 0) = false := bne_eq_false_iff_eq.mpr c5; clear c5
   by_cases c6 : t150 = 0
   ·rw [if_pos c6] at H
    have c6b0 : (t150 == 0) = true := beq_iff_eq.mpr c6; have c6b1 : (t150 != 0) = false := bne_eq_false_iff_eq.mpr c6; clear c6
    by_cases c7 : (t149.length : Int) = 3
    ·rw [if_pos c7] at H
     have c7b0 : ((t149.length : Int) == 3) = true := beq_iff_eq.mpr c7; have c7b1 : ((t149.length : Int) != 3) = false := bne_eq_false_iff_eq.mpr c7; clear c7
     by_cases c8 : 2 < (t149.length : Int)
     ·rw [if_pos c8] at H
      have c8b0 : decide (2 < (t149.length : Int)) = true := decide_eq_true c8; have c8b1 : decide (2 < t149.length) = true := decide_eq_true (by omega); clear c8
      by_cases c9 : (((rd_T26 t149 2).f0) == 3 && (((rd_T26 t149 2).f1) == 9 && (((rd_T26 t149 2).f2) == 2 && (((rd_T26 t149 2).f3) == 5 && (((rd_T26 t149 2).f4) == 30 && (((rd_T26 t149 2).f5) == 3)))))) = true
      ·rw [if_pos c9] at H
       have c9b0 : (((rd_T26 t149 2).f0) == 3 && (((rd_T26 t149 2).f1) == 9 && (((rd_T26 t149 2).f2) == 2 && (((rd_T26 t149 2).f3) == 5 && (((rd_T26 t149 2).f4) == 30 && (((rd_T26 t149 2).f5) == 3)))))) = true := c9
       (try (have c9b1 : decide (((rd_T26 t149 2).f0) = 3 && (((rd_T26 t149 2).f1) == 9 && (((rd_T26 t149 2).f2) == 2 && (((rd_T26 t149 2).f3) == 5 && (((rd_T26 t149 2).f4) == 30 && (((rd_T26 t149 2).f5) == 3)))))) = true := by simpa using c9))
       (try (have c9b2 : (((rd_T26 t149 2).f0) == 3 && (((rd_T26 t149 2).f1) == 9 && (((rd_T26 t149 2).f2) == 2 && (((rd_T26 t149 2).f3) == 5 && (((rd_T26 t149 2).f4) == 30 && (((rd_T26 t149 2).f5) == 3)))))) = true := by simpa using c9))
       clear c9; replace H := Option.bind_eq_some_iff.mp H; obtain ⟨⟨t154, t155, t156, t157, t158⟩, A100, H⟩ := H; replace H : (some (t154 == 5 && (t155 == 70 && (t156 == 0 && (t157 == 40 && (t158 == 0)))))) = some true := H; have A10 := Aside0.mk A100; clear A100; have HT_ := Option.some.inj H; clear H
       go_enter Try.func12, Try.ntmps12
       go_wp2_with (first | ((with_reducible refine gate_callee (f := 11) rfl ?_); refine goesL_ (some 8) rfl rfl Try.func11 (by kernel_rfl) rfl #[.slice none 0 0, .agg #[.int .i64 1, .int .i64 0, .int .i64 1, .int .i64 5, .int .i64 100, .int .i64 0]] rfl argx ?_; (refine (ledger_Append.calls _ _ ([] : List (S26)) 1 0 1 5 100 0 t138 t141 _ ?side1 ?side2 A1.out).mono ?_); (case side1 => exact Kd.C_nil _ _); (case side2 => exact Nat.le_refl _); rintro e w11 ⟨v139, rfl, ho0, hb⟩; refine ⟨_, rfl, ?_⟩; have qb_ := below_both bel hb; have n0_ := Aside0.mk (Kd.R_lower ho0 qb_.2); have n1_ := Aside0.mk (qb_.1); clear HB; have HO140 := n0_; have HB := n1_; clear qb_; clear n0_ n1_; (try clear hb); (try clear hb2); (try clear hk); (try clear hi); (try clear ho0); obtain ⟨Ao12, co12, eo12⟩ := Kd.R_slice HO140.out; subst eo12) | ((with_reducible refine gate_callee (f := 11) rfl ?_); refine goesL_ (some 14) rfl rfl Try.func11 (by kernel_rfl) rfl #[.slice Ao12 t138.length co12, .agg #[.int .i64 2, .int .i64 0, .int .i64 5, .int .i64 5, .int .i64 40, .int .i64 0]] rfl argx ?_; (with_reducible refine (ledger_Append.calls _ _ t138 2 0 5 5 40 0 t142 t145 _ ?side1 ?side2 A2.out).mono ?_); (case side1 => repeat (first | exact (Kd.R_reads' HO140.out).2.2 | (with_reducible refine Kd.C_alloc ?_ _) | (with_reducible refine Kd.C_drewN ?_ _) | (with_reducible refine Kd.C_drew ?_))); (case side2 => exact (Kd.R_reads' HO140.out).2.1); rintro e w13 ⟨v143, rfl, ho0, hb⟩; refine ⟨_, rfl, ?_⟩; have qb_ := below_both bel hb; have q1_ := Kd.R_elder2 (rowx HO140.out) (Kd.R_base ho0) hb; have n0_ := Aside0.mk (q1_.1); have n1_ := Aside0.mk (Kd.R_lower (Kd.R_new' ho0 q1_.2) qb_.2); have n2_ := Aside0.mk (qb_.1); clear HO140; clear HB; have HO140 := n0_; have HO144 := n1_; have HB := n2_; clear q1_; clear qb_; clear n0_ n1_ n2_; (try clear hb); (try clear hb2); (try clear hk); (try clear hi); (try clear ho0)) | ((with_reducible refine gate_dst (N := 20) rfl ?_); refine Kd.R_lit k37 _ 37 ?hg (N := 20) ?hd (xs := ([(⟨5, 70, 0, 40, 0⟩ : S37)] : List (S37))) (inner := [.int .i64 5, .int .i64 70, .int .i64 0, .int .i64 40, .int .i64 0]) (ok := fun _ => True) (okp := fun _ => True) ?hr ?hp (fun _ hk => hk) trivial (Below.refl _ _) (Nat.le_refl _) (by simp) ?_; (case hd => rfl); (case hg => rfl); (case hr => first | (go_simp; done) | (go_simp; rfl)); (case hp => exact (Reps.c5 (show Kd.M k37 _ _ _ (⟨5, 70, 0, 40, 0⟩ : S37) [.int .i64 5, .int .i64 70, .int .i64 0, .int .i64 40, .int .i64 0] from (k37_mkM _ _ _ (⟨5, 70, 0, 40, 0⟩ : S37) )) (Reps.none _ _))); intro v147 w14 ho15 hb hg_ hnew_; clear hg_ hnew_; (first | rw [← Ny146.out] at ho15 | (simp only [Int.reduceToNat] at ho15; rw [← Ny146.out] at ho15)); have qb_ := below_both bel hb; have n0_ := Aside0.mk (Kd.R_below (rowx HO140.out) hb); have n1_ := Aside0.mk (Kd.R_below (rowx HO144.out) hb); have n2_ := Aside0.mk (Kd.R_lower ho15 qb_.2); have n3_ := Aside0.mk (qb_.1); clear HO140; clear HO144; clear HB; have HO140 := n0_; have HO144 := n1_; have HO148 := n2_; have HB := n3_; clear qb_; clear n0_ n1_ n2_ n3_; clear hb ho15; obtain ⟨Ao16, co16, eo16⟩ := Kd.R_slice HO144.out; subst eo16; obtain ⟨Ao17, co17, eo17⟩ := Kd.R_slice HO148.out; subst eo17) | ((with_reducible refine gate_callee (f := 18) rfl ?_); refine goesL_ (some 21) rfl rfl Try.func18 (by kernel_rfl) rfl #[.slice Ao16 t142.length co16, .int .i64 9, .int .i64 3, .slice Ao17 y146.length co17] rfl argx ?_; (with_reducible refine (ledger_Correct.calls _ _ t142 9 3 _ _ y146 t149 t150 _ ?side1 ?side2 ?side3 ?side4 A3.out).mono ?_); (case side1 => repeat (first | exact (Kd.R_reads' HO144.out).2.2 | (with_reducible refine Kd.C_alloc ?_ _) | (with_reducible refine Kd.C_drewN ?_ _) | (with_reducible refine Kd.C_drew ?_))); (case side2 => exact (Kd.R_reads' HO144.out).2.1); (case side3 => repeat (first | exact (Kd.R_reads' HO148.out).2.2 | (with_reducible refine Kd.C_alloc ?_ _) | (with_reducible refine Kd.C_drewN ?_ _) | (with_reducible refine Kd.C_drew ?_))); (case side4 => exact (Kd.R_reads' HO148.out).2.1); rintro e w18 ⟨v151, rfl, ho0, hb⟩; refine ⟨_, rfl, ?_⟩; have n3_ := Aside0.mk (Kd.R_lower (Kd.R_new' (Kd.R_new' ho0 (Kd.R_lt (rowx HO140.out))) (Kd.R_lt (rowx HO144.out))) (below_size bel)); have n4_ := Aside0.mk (below_step bel hb); (try clear HO140); (try clear HO144); (try clear HO148); clear HB; have HO152 := n3_; have HB := n4_; clear n3_ n4_; (try clear hb); (try clear hb2); (try clear hk); (try clear hi); (try clear ho0); obtain ⟨Ao19, co19, eo19⟩ := Kd.R_slice HO152.out; subst eo19; have p153 : 0 ≤ (2 : Int) := (by omega); have q153 : 2 < (t149.length : Int) := of_decide_eq_true zPA7; obtain ⟨ad153, e153, hx153_0, hx153_1, hx153_2, hx153_3, hx153_4, hx153_5⟩ := at_T26 (Kd.R_reads' HO152.out).2.2 2 p153 q153; cases e153; (try simp only [show (2 : Int).toNat = 2 from rfl, Nat.reduceMul, Nat.reduceEqDiff, Go.Addr.add, ↓reduceIte] at hx153_0); (try simp only [show (2 : Int).toNat = 2 from rfl, Nat.reduceMul, Nat.reduceEqDiff, Go.Addr.add, ↓reduceIte] at hx153_1); (try simp only [show (2 : Int).toNat = 2 from rfl, Nat.reduceMul, Nat.reduceEqDiff, Go.Addr.add, ↓reduceIte] at hx153_2); (try simp only [show (2 : Int).toNat = 2 from rfl, Nat.reduceMul, Nat.reduceEqDiff, Go.Addr.add, ↓reduceIte] at hx153_3); (try simp only [show (2 : Int).toNat = 2 from rfl, Nat.reduceMul, Nat.reduceEqDiff, Go.Addr.add, ↓reduceIte] at hx153_4); (try simp only [show (2 : Int).toNat = 2 from rfl, Nat.reduceMul, Nat.reduceEqDiff, Go.Addr.add, ↓reduceIte] at hx153_5); have qi153 : (2 < t149.length) = True := eq_true (by omega); (try rw [show ((2 : Int)).toNat = 2 from rfl] at hx153_0); (try rw [show 2 * 6 = 12 from rfl] at hx153_0); (try rw [show ((2 : Int)).toNat = 2 from rfl] at hx153_1); (try rw [show 2 * 6 = 12 from rfl] at hx153_1); (try rw [show ((2 : Int)).toNat = 2 from rfl] at hx153_2); (try rw [show 2 * 6 = 12 from rfl] at hx153_2); (try rw [show ((2 : Int)).toNat = 2 from rfl] at hx153_3); (try rw [show 2 * 6 = 12 from rfl] at hx153_3); (try rw [show ((2 : Int)).toNat = 2 from rfl] at hx153_4); (try rw [show 2 * 6 = 12 from rfl] at hx153_4); (try rw [show ((2 : Int)).toNat = 2 from rfl] at hx153_5); (try rw [show 2 * 6 = 12 from rfl] at hx153_5); replace p153 := eq_true p153; replace q153 := eq_true q153) | (go_at_call 14; (with_reducible refine (ledger_BalanceOf.calls _ _ t149 5 t154 t155 t156 t157 t158 _ ?side1 ?side2 A10.out).mono ?_); (case side1 => repeat (first | exact (Kd.R_reads' HO152.out).2.2 | (with_reducible refine Kd.C_alloc ?_ _) | (with_reducible refine Kd.C_drewN ?_ _) | (with_reducible refine Kd.C_drew ?_))); (case side2 => exact (Kd.R_reads' HO152.out).2.1); rintro e w20 ⟨rfl, hb⟩; have n4_ := Aside0.mk (below_step bel hb); (try clear HO140); (try clear HO144); (try clear HO148); (try clear HO152); clear HB; have HB := n4_; clear n4_; (try clear hb); (try clear hb2); (try clear hk); (try clear hi)))
       go_ret
       exact ⟨by first | rfl | (simp [errW_none, errW_some] <;> rfl) | (simp [*, errW_none, errW_some] <;> rfl), bel⟩
      ·rw [if_neg c9] at H
       have c9b0 : (((rd_T26 t149 2).f0) == 3 && (((rd_T26 t149 2).f1) == 9 && (((rd_T26 t149 2).f2) == 2 && (((rd_T26 t149 2).f3) == 5 && (((rd_T26 t149 2).f4) == 30 && (((rd_T26 t149 2).f5) == 3)))))) = false := by simpa using c9
       (try (have c9b1 : decide (((rd_T26 t149 2).f0) = 3 && (((rd_T26 t149 2).f1) == 9 && (((rd_T26 t149 2).f2) == 2 && (((rd_T26 t149 2).f3) == 5 && (((rd_T26 t149 2).f4) == 30 && (((rd_T26 t149 2).f5) == 3)))))) = false := by simpa using c9))
       (try (have c9b2 : (((rd_T26 t149 2).f0) == 3 && (((rd_T26 t149 2).f1) == 9 && (((rd_T26 t149 2).f2) == 2 && (((rd_T26 t149 2).f3) == 5 && (((rd_T26 t149 2).f4) == 30 && (((rd_T26 t149 2).f5) == 3)))))) = false := by simpa using c9))
       (try (have c9b3 : ¬ (((rd_T26 t149 2).f0) = 3 && (((rd_T26 t149 2).f1) == 9 && (((rd_T26 t149 2).f2) == 2 && (((rd_T26 t149 2).f3) == 5 && (((rd_T26 t149 2).f4) == 30 && (((rd_T26 t149 2).f5) == 3)))))) := by simpa using c9))
       clear c9
       cases H
     ·rw [if_neg c8] at H
      exact absurd H (by simp)
    ·rw [if_neg c7] at H
     have c7b0 : ((t149.length : Int) == 3) = false := beq_eq_false_iff_ne.mpr c7; have c7b1 : ((t149.length : Int) != 3) = true := bne_iff_ne.mpr c7
     cases H
   ·rw [if_neg c6] at H
    have c6b0 : (t150 == 0) = false := beq_eq_false_iff_ne.mpr c6; have c6b1 : (t150 != 0) = true := bne_iff_ne.mpr c6
    cases H
  ·rw [if_neg c5] at H
   have c5b0 : (t145 == 0) = false := beq_eq_false_iff_ne.mpr c5; have c5b1 : (t145 != 0) = true := bne_iff_ne.mpr c5
   cases H
 ·rw [if_neg c4] at H
  have c4b0 : (t141 == 0) = false := beq_eq_false_iff_ne.mpr c4; have c4b1 : (t141 != 0) = true := bne_iff_ne.mpr c4
  cases H
end Go.Proofs.Ytgedkdofhonicaa.PC
/- The ledgers that are made; the fixed example. -/
namespace Go.Proofs.Ytgedkdofhonicaa.E
set_option linter.unusedVariables false
set_option linter.unusedSimpArgs false
open Go.RowKit Go.Proofs.YtgedkdofhonicaaW.PrintWords Go.Proofs.YtgedkdofhonicaaW.PrintLast Go.Proofs.YtgedkdofhonicaaW.PrintMore Go.Proofs.Ytgedkdofhonicaa.PA Go.Proofs.Ytgedkdofhonicaa.PM Go.Proofs.Ytgedkdofhonicaa.PC Go.Proofs.Ytgedkdofhonicaa.G
theorem readTo_take {l : List S26} {i : Nat} (hi : i ≤ l.length) : ∀ j, j ≤ i → readTo (l.take i) j = readTo l j
  | 0, _ => rfl
  | j + 1, h => by
    rw [readTo, readTo, readTo_take hi j (by omega), List.take_take, Nat.min_eq_left (by omega), rd_take (by omega) (by omega)]
theorem refLedger_from {l : List S26} (hl : l.length ≤ 100000) : ∀ (n i : Nat), i + n = l.length → (readTo l i).1 = 0 → Ev (fun k => customsref27_Ledger.l0 k l (i : Int)) (readTo l l.length).1
  | 0, i, hi, h0 => by
    obtain rfl : i = l.length := by omega
    refine evShift ?_
    simp only [customsref27_Ledger.l0]
    rw [h0]
    exact evNeg (by omega) (evNow rfl)
  | n + 1, i, hi, h0 => by
    have hw : wrap64 ((i : Int) + 1) = ((i + 1 : Nat) : Int) := by rw [wrap64_id (by omega) (by omega)]; omega
    refine evShift ?_
    simp only [customsref27_Ledger.l0]
    refine evPos (by omega) (evPos (by omega) (evPos (by omega) ?_))
    have hlen : (l.take i).length = i := by rw [List.length_take]; omega
    have hrd : readTo (l.take i) (l.take i).length = readTo l i := by rw [hlen]; exact readTo_take (by omega) i (Nat.le_refl _)
    have hm := may_ev (l := l.take i) (by rw [hrd]; exact h0) (rd_T26 l (i : Int))
    rw [hrd] at hm
    rw [Int.toNat_natCast]
    refine evBind hm ?_
    have hstep : readTo l (i + 1) = addC (l.take i) (readTo l i).2.1 (readTo l i).2.2 (rd_T26 l (i : Int)) := by rw [readTo, if_pos h0]
    rw [← hstep]
    refine evIf (fun hz => ?_) (fun hz => ?_)
    · rw [hw]
      exact refLedger_from hl n (i + 1) (by omega) hz
    · have := readTo_stuck l hz (l.length - (i + 1))
      rw [show i + 1 + (l.length - (i + 1)) = l.length by omega] at this
      rw [this]
      exact evNow rfl
/-- The reference's Ledger answers as reading does. -/
theorem refLedger_ev {l : List S26} (hl : l.length ≤ 100000) : Ev (fun k => customsref27_Ledger.f k l) (readTo l l.length).1 := refLedger_from hl l.length 0 (by omega) rfl
/-- The reference's Append answers as the program's. -/
theorem refAppend_ev {l : List S26} (hl : l.length ≤ 100000) (e : S26) : Ev (fun k => customsref27_Append.f k l e.f0 e.f1 e.f2 e.f3 e.f4 e.f5) (appendR l e) := by
  unfold customsref27_Append.f appendR
  refine evBind (refLedger_ev hl) ?_
  by_cases h0 : (readTo l l.length).1 = 0
  · rw [if_pos h0]
    refine evPos h0 ?_
    refine evBind (may_ev h0 e) ?_
    by_cases h1 : (addC l (readTo l l.length).2.1 (readTo l l.length).2.2 e).1 = 0
    · refine evPos h1 ?_
      rw [if_pos h1]
      simp only [Option.bind_some, List.nil_append, List.length_nil, Nat.zero_add, List.length_singleton]
      exact evPos (by omega) (evPos (by omega) (evNow rfl))
    · refine evNeg h1 ?_
      rw [if_neg h1]
      exact evNow rfl
  · rw [if_neg h0]
    exact evNeg h0 (evNow rfl)
/-- A ledger that reads well, of few entries. -/
structure Good (l : List S26) : Prop where
  read : (readTo l l.length).1 = 0
  len : l.length ≤ 100
theorem Good.inv {l : List S26} (h : Good l) : Inv l (readTo l l.length).2.1 (readTo l l.length).2.2 := by
  have := inv_read (Nat.le_refl _) h.read
  rwa [List.take_length] at this
theorem wfL_inv {l : List S26} {bal : Int → Bal} {rev : Int → Bool} (hI : Inv l bal rev) (hl : l.length ≤ 100000) : wfL l :=
  ⟨by omega, fun i h0 h1 => by
    have a := hI.num i h0 h1; have b := inR_iff.1 (hI.rng i h0 h1)
    exact ⟨i64_mk (by omega) (by omega), i64_mk (by omega) (by omega)⟩⟩
theorem Good.wf {l : List S26} (h : Good l) : wfL l := wfL_inv h.inv (by have := h.len; omega)
theorem read_snoc {l : List S26} {e : S26} (h : (readTo l l.length).1 = 0) : readTo (l ++ [e]) (l ++ [e]).length = addC l (readTo l l.length).2.1 (readTo l l.length).2.2 e := by
  rw [List.length_append, List.length_singleton, readTo_snoc h]
theorem appendR_zero {l : List S26} {e : S26} (h : (appendR l e).2 = 0) : (readTo l l.length).1 = 0 ∧ (addC l (readTo l l.length).2.1 (readTo l l.length).2.2 e).1 = 0 ∧ appendR l e = (l ++ [e], 0) := by
  unfold appendR at h ⊢
  by_cases h0 : (readTo l l.length).1 = 0
  · rw [if_pos h0] at h ⊢
    by_cases h1 : (addC l (readTo l l.length).2.1 (readTo l l.length).2.2 e).1 = 0
    · rw [if_pos h1] at h ⊢
      exact ⟨h0, h1, rfl⟩
    · rw [if_neg h1] at h; exact absurd h h1
  · rw [if_neg h0] at h; exact absurd h h0
theorem made_from (s : List Int) (hs : s.length ≤ 100) : ∀ (n : Nat) (l : List S26) (i : Int), 0 ≤ i → i ≤ s.length → s.length ≤ i + n → Good l → l.length ≤ 30 → ∃ r, Good r ∧ r.length ≤ 30 ∧ Ev (fun k => customsmade_Ledger.l0 k l s i) r := by
  intro n
  induction n with
  | zero =>
    intro l i i0 i1 hn hg hl
    refine ⟨l, hg, hl, evShift ?_⟩
    simp only [customsmade_Ledger.l0]
    refine evBind0 (a := (decide (i < (s.length : Int)), i)) rfl ?_
    rw [decide_eq_false (show ¬ i < (s.length : Int) by omega)]
    refine evNeg (by simp) (evShift ?_)
    simp only [customsmade_Ledger.j1]
    exact evNeg (by simp) (evNow rfl)
  | succ n ih =>
    intro l i i0 i1 hn hg hl
    by_cases hi : i < (s.length : Int)
    · by_cases h30 : (l.length : Int) < 30
      · obtain ⟨e, j, he, hm, j0, j1, hj⟩ := entry_some s (by omega) i (l.length : Int) i0 i1 (by omega) (by omega)
        have hij := hj hi
        by_cases hz : (appendR l e).2 = 0
        · obtain ⟨z0, z1, z2⟩ := appendR_zero hz
          have hg2 : Good (l ++ [e]) := ⟨by rw [read_snoc z0]; exact z1, by rw [List.length_append, List.length_singleton]; omega⟩; obtain ⟨r, r0, r1, r2⟩ := ih (l ++ [e]) j j0 j1 (by omega) hg2 (by rw [List.length_append, List.length_singleton]; omega)
          refine ⟨r, r0, r1, evShift ?_⟩
          simp only [customsmade_Ledger.l0]
          refine evBind0 (a := (decide (i < (s.length : Int)), i)) rfl ?_
          rw [decide_eq_true hi, decide_eq_true h30]
          refine evPos (by simp) (evShift ?_)
          simp only [customsmade_Ledger.j1]
          refine evPos (by simp) (evBind0 he (evBind (refAppend_ev (by omega) e) ?_))
          refine evPos hz ?_
          rw [z2]
          exact r2
        · obtain ⟨r, r0, r1, r2⟩ := ih l j j0 j1 (by omega) hg hl
          refine ⟨r, r0, r1, evShift ?_⟩
          simp only [customsmade_Ledger.l0]
          refine evBind0 (a := (decide (i < (s.length : Int)), i)) rfl ?_
          rw [decide_eq_true hi, decide_eq_true h30]
          refine evPos (by simp) (evShift ?_)
          simp only [customsmade_Ledger.j1]
          refine evPos (by simp) (evBind0 he (evBind (refAppend_ev (by omega) e) ?_))
          exact evNeg hz r2
      · refine ⟨l, hg, hl, evShift ?_⟩
        simp only [customsmade_Ledger.l0]
        refine evBind0 (a := (decide (i < (s.length : Int)), i)) rfl ?_
        rw [decide_eq_true hi, decide_eq_false h30]
        refine evPos (by simp) (evShift ?_)
        simp only [customsmade_Ledger.j1]
        exact evNeg (by simp) (evNow rfl)
    · refine ⟨l, hg, hl, evShift ?_⟩
      simp only [customsmade_Ledger.l0]
      refine evBind0 (a := (decide (i < (s.length : Int)), i)) rfl ?_
      rw [decide_eq_false hi]
      refine evNeg (by simp) (evShift ?_)
      simp only [customsmade_Ledger.j1]
      exact evNeg (by simp) (evNow rfl)
/-- A ledger that is made reads well and has at most 30 entries. -/
theorem made_ev (src : List Int) : ∃ l, Good l ∧ l.length ≤ 30 ∧ Ev (fun k => customsmade_Ledger.f k src) l := by
  obtain ⟨s, hs, hsl⟩ : ∃ s, customsmade_Cut.f src 100 = some s ∧ s.length ≤ 100 := by
    unfold customsmade_Cut.f
    by_cases h : (src.length : Int) > 100
    · rw [if_pos h, if_pos (by omega)]
      exact ⟨_, rfl, by rw [List.length_take]; omega⟩
    · rw [if_neg h]
      exact ⟨src, rfl, by omega⟩
  obtain ⟨r, h1, h2, h3⟩ := made_from s hsl s.length [] 0 (Int.le_refl _) (by omega) (by omega) ⟨rfl, by simp⟩ (by simp)
  exact ⟨r, h1, h2, evBind0 hs h3⟩
theorem append_good {l : List S26} (h : wfL l) (e : S26) : ledger_Append.f l e.f0 e.f1 e.f2 e.f3 e.f4 e.f5 = some (appendR l e) := by unfold ledger_Append.f; rw [if_pos h]
theorem balance_good {l : List S26} (h : wfL l) {x : Int} (hx : i64 x) : ledger_BalanceOf.f l x = some (x, (balOf l x).o, (balOf l x).s, (balOf l x).p, (balOf l x).r) := by unfold ledger_BalanceOf.f; rw [if_pos ⟨h, hx⟩]
def aw1 : S26 := ⟨1, 0, 1, 5, 100, 0⟩
def aw2 : S26 := ⟨2, 0, 5, 5, 40, 0⟩
def aw3 : S26 := ⟨3, 9, 2, 5, 30, 3⟩
def awt : S37 := ⟨5, 70, 0, 40, 0⟩
theorem aw_good2 : Good [aw1, aw2] := ⟨by kernel_rfl, by decide⟩
theorem aw_good3 : Good [aw1, aw2, aw3] := ⟨by kernel_rfl, by decide⟩
theorem aw_bal (x : Int) (h : x ≠ 5) : (readTo [aw1, aw2] 2).2.1 x = noBal := by
  have e1 : readTo [aw1, aw2] 1 = addC [] (fun _ => noBal) (fun _ => false) aw1 := rfl
  have hz1 : (addC [] (fun _ => noBal) (fun _ => false) aw1).1 = 0 := by kernel_rfl
  have hI1 := inv_nil; have b1 := (addC_zero hI1 hz1).2.2.2.2.2
  have hg : (readTo [aw1, aw2] 1).1 = 0 := by rw [e1]; exact hz1
  have e2 : readTo [aw1, aw2] 2 = addC [aw1] (readTo [aw1, aw2] 1).2.1 (readTo [aw1, aw2] 1).2.2 aw2 := by rw [readTo, if_pos hg]; rfl
  have hz2 : (addC [aw1] (readTo [aw1, aw2] 1).2.1 (readTo [aw1, aw2] 1).2.2 aw2).1 = 0 := by rw [← e2]; kernel_rfl
  have hI2 : Inv [aw1] (readTo [aw1, aw2] 1).2.1 (readTo [aw1, aw2] 1).2.2 := inv_read (l := [aw1, aw2]) (j := 1) (by decide) hg; have b2 := (addC_zero hI2 hz2).2.2.2.2.2
  rw [e2, b2]
  show (if x = aw2.f3 then _ else _) = _
  rw [if_neg (show ¬ x = aw2.f3 from h), e1, b1]
  show (if x = aw1.f3 then _ else _) = _
  rw [if_neg (show ¬ x = aw1.f3 from h)]
theorem awake_true : customslaw30_awake.f = some true := by
  unfold customslaw30_awake.f
  have h1 : ledger_Append.f ([] : List S26) 1 0 1 5 100 0 = some ([aw1], 0) := by
    show ledger_Append.f ([] : List S26) aw1.f0 aw1.f1 aw1.f2 aw1.f3 aw1.f4 aw1.f5 = _
    rw [append_good (l := []) ⟨by decide, fun i h0 h1 => by simp at h1; omega⟩ aw1]
    have : (appendR [] aw1).2 = 0 := by kernel_rfl
    rw [(appendR_zero this).2.2]; rfl
  have hg1 : Good [aw1] := ⟨by kernel_rfl, by decide⟩
  have h2 : ledger_Append.f [aw1] 2 0 5 5 40 0 = some ([aw1, aw2], 0) := by
    show ledger_Append.f [aw1] aw2.f0 aw2.f1 aw2.f2 aw2.f3 aw2.f4 aw2.f5 = _
    rw [append_good hg1.wf aw2]
    have : (appendR [aw1] aw2).2 = 0 := by kernel_rfl
    rw [(appendR_zero this).2.2]; rfl
  have hks : KsOK (readTo [aw1, aw2] [aw1, aw2].length).2.1 [awt] [5] := by
    refine ⟨by simp, fun x hx => ?_, fun j hj => ?_⟩
    · by_cases h5 : x = 5
      · simp [h5]
      · exact absurd (aw_bal x h5) hx
    · have : j = 0 := by simp at hj; omega
      subst this
      show (5 : Int) ∈ [5]
      simp
  have hc : correctK [aw1, aw2] 9 3 [awt] [5] = ([aw1, aw2, aw3], 0) := by kernel_rfl
  have h3 : ledger_Correct.f [aw1, aw2] 9 3 [(⟨5, 70, 0, 40, 0⟩ : S37)] = some ([aw1, aw2, aw3], 0) := by
    unfold ledger_Correct.f
    rw [if_pos aw_good2.wf, ← hc]
    exact congrArg some (correctK_uniq (fun _ => ksOf_ok hks) (fun _ => hks))
  have h4 : ledger_BalanceOf.f [aw1, aw2, aw3] 5 = some (5, 70, 0, 40, 0) := by
    rw [balance_good aw_good3.wf (i64_mk (by decide) (by decide))]
    have e : balOf [aw1, aw2, aw3] 5 = ⟨70, 0, 40, 0⟩ := by kernel_rfl
    rw [e]
  rw [h1, Option.bind_some, h2, Option.bind_some, h3, Option.bind_some]
  simp only [List.length_cons, List.length_nil, h4, Option.bind_some]
  rfl
end Go.Proofs.Ytgedkdofhonicaa.E
-- Written by a program of this claim (wip/tools: mkprint.py, pr.sh) out of the translation: plain functions and their contracts. Lean checks every line.
namespace Go.Proofs.Ytgedkdofhonicaa.PF
open Go.RowKit Go.Proofs.YtgedkdofhonicaaW.PrintWords Go.Proofs.YtgedkdofhonicaaW.PrintLast Go.Proofs.YtgedkdofhonicaaW.PrintMore Go.Proofs.Ytgedkdofhonicaa.G Go.Proofs.Ytgedkdofhonicaa.PA Go.Proofs.Ytgedkdofhonicaa.PM Go.Proofs.Ytgedkdofhonicaa.PC
attribute [local go_sem] max2_int min2_int max_two min_two max_three min_three max_four min_four   -- for this text's walks alone
set_option linter.unusedVariables false
set_option linter.unusedSimpArgs false
def errW : Option Int → Value
  | none => .nilIface
  | some c => .iface 0 (.int .i64 c)
theorem errW_none : errW none = .nilIface := rfl
theorem errW_some (c : Int) : errW (some c) = .iface 0 (.int .i64 c) := rfl
theorem info26 : (Try.prog.info? 26).map (fun i => (i.zero, i.size, i.bytes)) = some (some (.agg #[(.int .i64 0), (.int .i64 0), (.int .i64 0), (.int .i64 0), (.int .i64 0), (.int .i64 0)]), 6, 48) := by kernel_rfl
-- the values' own types
end Go.Proofs.Ytgedkdofhonicaa.PF
-- Written by a program of this claim (wip/tools: mkprint.py, pr.sh) out of the translation: plain functions and their contracts. Lean checks every line.
namespace Go.Proofs.Ytgedkdofhonicaa.PF
open Go.RowKit Go.Proofs.YtgedkdofhonicaaW.PrintWords Go.Proofs.YtgedkdofhonicaaW.PrintLast Go.Proofs.YtgedkdofhonicaaW.PrintMore Go.Proofs.Ytgedkdofhonicaa.G Go.Proofs.Ytgedkdofhonicaa.PA Go.Proofs.Ytgedkdofhonicaa.PM Go.Proofs.Ytgedkdofhonicaa.PC
attribute [local go_sem] max2_int min2_int max_two min_two max_three min_three max_four min_four   -- for this text's walks alone
set_option linter.unusedVariables false
set_option linter.unusedSimpArgs false
theorem eqA26 (d : Nat) (w : World) (x0 y0 : Int) (x1 y1 : Int) (x2 y2 : Int) (x3 y3 : Int) (x4 y4 : Int) (x5 y5 : Int) :
    (Op.equalIn (d + 2) 26 (.agg #[.int .i64 x0, .int .i64 x1, .int .i64 x2, .int .i64 x3, .int .i64 x4, .int .i64 x5]) (.agg #[.int .i64 y0, .int .i64 y1, .int .i64 y2, .int .i64 y3, .int .i64 y4, .int .i64 y5])).run Try.prog w = .ok (x0 == y0 && (x1 == y1 && (x2 == y2 && (x3 == y3 && (x4 == y4 && (x5 == y5)))))) w := by
  refine eqA_of Try.underlying26 (by kernel_rfl) ?_
  refine eqf_cons (by rfl) (by go_simp; rfl) (by go_simp; rfl) (by go_simp) ?_
  refine eqf_cons (by rfl) (by go_simp; rfl) (by go_simp; rfl) (by go_simp) ?_
  refine eqf_cons (by rfl) (by go_simp; rfl) (by go_simp; rfl) (by go_simp) ?_
  refine eqf_cons (by rfl) (by go_simp; rfl) (by go_simp; rfl) (by go_simp) ?_
  refine eqf_cons (by rfl) (by go_simp; rfl) (by go_simp; rfl) (by go_simp) ?_
  exact eqf_last (by rfl) (by go_simp; rfl) (by go_simp; rfl) (by go_simp)
end Go.Proofs.Ytgedkdofhonicaa.PF
-- Written by a program of this claim (wip/tools: mkprint.py, pr.sh) out of the translation: plain functions and their contracts. Lean checks every line.
namespace Go.Proofs.Ytgedkdofhonicaa.PF
open Go.RowKit Go.Proofs.YtgedkdofhonicaaW.PrintWords Go.Proofs.YtgedkdofhonicaaW.PrintLast Go.Proofs.YtgedkdofhonicaaW.PrintMore Go.Proofs.Ytgedkdofhonicaa.G Go.Proofs.Ytgedkdofhonicaa.PA Go.Proofs.Ytgedkdofhonicaa.PM Go.Proofs.Ytgedkdofhonicaa.PC
attribute [local go_sem] max2_int min2_int max_two min_two max_three min_three max_four min_four   -- for this text's walks alone
set_option linter.unusedVariables false
set_option linter.unusedSimpArgs false
theorem eqA37 (d : Nat) (w : World) (x0 y0 : Int) (x1 y1 : Int) (x2 y2 : Int) (x3 y3 : Int) (x4 y4 : Int) :
    (Op.equalIn (d + 2) 37 (.agg #[.int .i64 x0, .int .i64 x1, .int .i64 x2, .int .i64 x3, .int .i64 x4]) (.agg #[.int .i64 y0, .int .i64 y1, .int .i64 y2, .int .i64 y3, .int .i64 y4])).run Try.prog w = .ok (x0 == y0 && (x1 == y1 && (x2 == y2 && (x3 == y3 && (x4 == y4))))) w := by
  refine eqA_of Try.underlying37 (by kernel_rfl) ?_
  refine eqf_cons (by rfl) (by go_simp; rfl) (by go_simp; rfl) (by go_simp) ?_
  refine eqf_cons (by rfl) (by go_simp; rfl) (by go_simp; rfl) (by go_simp) ?_
  refine eqf_cons (by rfl) (by go_simp; rfl) (by go_simp; rfl) (by go_simp) ?_
  refine eqf_cons (by rfl) (by go_simp; rfl) (by go_simp; rfl) (by go_simp) ?_
  exact eqf_last (by rfl) (by go_simp; rfl) (by go_simp; rfl) (by go_simp)
end Go.Proofs.Ytgedkdofhonicaa.PF
-- Written by a program of this claim (wip/tools: mkprint.py, pr.sh) out of the translation: plain functions and their contracts. Lean checks every line.
namespace Go.Proofs.Ytgedkdofhonicaa.PF
open Go.RowKit Go.Proofs.YtgedkdofhonicaaW.PrintWords Go.Proofs.YtgedkdofhonicaaW.PrintLast Go.Proofs.YtgedkdofhonicaaW.PrintMore Go.Proofs.Ytgedkdofhonicaa.G Go.Proofs.Ytgedkdofhonicaa.PA Go.Proofs.Ytgedkdofhonicaa.PM Go.Proofs.Ytgedkdofhonicaa.PC
attribute [local go_sem] max2_int min2_int max_two min_two max_three min_three max_four min_four   -- for this text's walks alone
set_option linter.unusedVariables false
set_option linter.unusedSimpArgs false
attribute [local go_sem high] eqA26 eqA37
mutual
noncomputable def customslaw30_LedgerFold.j0 : Nat → List (S26) → List (S26) → Bool → Int → Int → Int → Int → Int → Int → Option (Bool)
 | 0, _, _, _, _, _, _, _, _, _ => none
 | k + 1, x5, x7, x58, x113000, x113001, x113002, x113003, x113004, x113005 => if x58 = true then (some false) else (if x113002 = 9 then (if x113004 < 1 then (some false) else (if x113004 > (x5.length : Int) then (some false) else (if 0 ≤ (wrap64 (x113004 - 1)) then (if (wrap64 (x113004 - 1)) < (x5.length : Int) then (customslaw30_LedgerFold.j1 k x5 x7 ((rd_T26 x5 (wrap64 (x113004 - 1))).f2) (wrap64 (-((rd_T26 x5 (wrap64 (x113004 - 1))).f4))) x113000 x113001 x113002 x113003 x113004 x113005) else (none)) else (none)))) else (customslaw30_LedgerFold.j1 k x5 x7 x113002 x113004 x113000 x113001 x113002 x113003 x113004 x113005))
noncomputable def customslaw30_LedgerFold.j1 : Nat → List (S26) → List (S26) → Int → Int → Int → Int → Int → Int → Int → Int → Option (Bool)
 | 0, _, _, _, _, _, _, _, _, _, _ => none
 | k + 1, x5, x7, x9, x10, x113000, x113001, x113002, x113003, x113004, x113005 => customslaw30_LedgerFold.l0 k x5 x7 x9 x10 1 x113000 x113001 x113002 x113003 x113004 x113005
noncomputable def customslaw30_LedgerFold.l0 : Nat → List (S26) → List (S26) → Int → Int → Int → Int → Int → Int → Int → Int → Int → Option (Bool)
 | 0, _, _, _, _, _, _, _, _, _, _, _ => none
 | k + 1, x5, x7, x9, x10, x11, x113000, x113001, x113002, x113003, x113004, x113005 => if x11 ≤ 5 then ((ledger_BalanceOf.f x5 x11).bind fun bt127 => (if x11 = x113003 then ((customsref27_BalanceAfter.f bt127.1 bt127.2.1 bt127.2.2.1 bt127.2.2.2.1 bt127.2.2.2.2 x9 x10).bind fun bt133 => ((ledger_BalanceOf.f x7 x11).bind fun bt138 => (if (!(bt138.1 == bt133.1) || (!(bt138.2.1 == bt133.2.1) || (!(bt138.2.2.1 == bt133.2.2.1) || (!(bt138.2.2.2.1 == bt133.2.2.2.1) || (!(bt138.2.2.2.2 == bt133.2.2.2.2)))))) = true then (some false) else (customslaw30_LedgerFold.l0 k x5 x7 x9 x10 (wrap64 (x11 + 1)) x113000 x113001 x113002 x113003 x113004 x113005)))) else ((ledger_BalanceOf.f x7 x11).bind fun bt143 => (if (!(bt143.1 == bt127.1) || (!(bt143.2.1 == bt127.2.1) || (!(bt143.2.2.1 == bt127.2.2.1) || (!(bt143.2.2.2.1 == bt127.2.2.2.1) || (!(bt143.2.2.2.2 == bt127.2.2.2.2)))))) = true then (some false) else (customslaw30_LedgerFold.l0 k x5 x7 x9 x10 (wrap64 (x11 + 1)) x113000 x113001 x113002 x113003 x113004 x113005))))) else ((customslaw30_awake.f).bind fun t126 => (some t126))
end
noncomputable def customslaw30_LedgerFold.f (k : Nat) (l0 : List Int) (l1 : List Int) : Option (Bool) := (customsmade_Ledger.f k l0).bind fun t101 => ((customsmade_Entry.f l1 0 (t101.length : Int)).bind fun bt105 => ((ledger_Append.f t101 bt105.1 bt105.2.1 bt105.2.2.1 bt105.2.2.2.1 bt105.2.2.2.2.1 bt105.2.2.2.2.2.1).bind fun bt113 => (if bt113.2 = 0 then (if (bt113.1.length : Int) = (wrap64 ((t101.length : Int) + 1)) then (if 0 ≤ (t101.length : Int) then (if (t101.length : Int) < (bt113.1.length : Int) then (if (!(((rd_T26 bt113.1 (t101.length : Int)).f0) == bt105.1) || (!(((rd_T26 bt113.1 (t101.length : Int)).f1) == bt105.2.1) || (!(((rd_T26 bt113.1 (t101.length : Int)).f2) == bt105.2.2.1) || (!(((rd_T26 bt113.1 (t101.length : Int)).f3) == bt105.2.2.2.1) || (!(((rd_T26 bt113.1 (t101.length : Int)).f4) == bt105.2.2.2.2.1) || (!(((rd_T26 bt113.1 (t101.length : Int)).f5) == bt105.2.2.2.2.2.1))))))) = true then (customslaw30_LedgerFold.j0 k t101 bt113.1 true bt105.1 bt105.2.1 bt105.2.2.1 bt105.2.2.2.1 bt105.2.2.2.2.1 bt105.2.2.2.2.2.1) else (if (t101.length : Int) ≤ (bt113.1.length : Int) then ((customsref27_SameLedger.f k (bt113.1.take ((t101.length : Int) : Int).toNat) t101).bind fun t123 => (customslaw30_LedgerFold.j0 k t101 bt113.1 (!t123) bt105.1 bt105.2.1 bt105.2.2.1 bt105.2.2.2.1 bt105.2.2.2.2.1 bt105.2.2.2.2.2.1)) else (none))) else (none)) else (none)) else (customslaw30_LedgerFold.j0 k t101 bt113.1 true bt105.1 bt105.2.1 bt105.2.2.1 bt105.2.2.2.1 bt105.2.2.2.2.1 bt105.2.2.2.2.2.1)) else (if (bt113.1.length : Int) = 0 then ((customslaw30_awake.f).bind fun t117 => (some t117)) else (some false)))))
def customslaw30_LedgerFold.T6 : Bool × List (List Nat × List Nat) := (true, [([], []), ([0], [0]), ([], []), ([2], [2]), ([3], [3]), ([1, 4], [1, 4]), ([5], [5]), ([6], [6]), ([6], [6]), ([8, 6], [6, 8]), ([7, 9, 6], [6, 7, 9]), ([10, 6], [6, 10]), ([6], [6]), ([11, 12, 6], [6, 11, 12]), ([6, 13], [6, 13]), ([14, 6], [14]), ([15], [15]), ([15], [15]), ([17, 15], [15, 17]), ([16, 18, 15], [15, 16, 18]), ([15], [15]), ([19, 20, 15, 15], [15, 19, 20]), ([21, 15], [15, 21]), ([15, 22], [15, 22])])
def customslaw30_LedgerFold.B6 : List Nat := [0, 1, 0, 4, 12, 31, 63, 127, 127, 383, 1023, 2047, 127, 8191, 16383, 32767, 65535, 65535, 196607, 524287, 65535, 2097151, 4194303, 8388607]
theorem customslaw30_LedgerFold.tab6 : rtab .any (opsOf Try.f3 6) = customslaw30_LedgerFold.T6 := by kernel_rfl
theorem customslaw30_LedgerFold.bits6 : waitsOk customslaw30_LedgerFold.T6.2 customslaw30_LedgerFold.B6 = true := by kernel_rfl
def customslaw30_LedgerFold.T12 : Bool × List (List Nat × List Nat) := (true, [([], []), ([], []), ([1], [1]), ([0, 2], [0, 2]), ([3], [3]), ([4], [4]), ([], []), ([], []), ([7], [7]), ([6, 8], [6, 8]), ([9], [9]), ([10], [10]), ([11], [11]), ([5, 0, 1, 2, 3, 4, 5], [5]), ([12, 13, 0, 1, 2, 3, 4, 5, 6, 7, 8, 9, 10, 11, 12, 13], [1, 7, 12])])
def customslaw30_LedgerFold.B12 : List Nat := [0, 0, 2, 7, 15, 31, 0, 0, 128, 448, 960, 1984, 4032, 63, 16383]
theorem customslaw30_LedgerFold.tab12 : rtab .any (opsOf Try.f3 12) = customslaw30_LedgerFold.T12 := by kernel_rfl
theorem customslaw30_LedgerFold.bits12 : waitsOk customslaw30_LedgerFold.T12.2 customslaw30_LedgerFold.B12 = true := by kernel_rfl
set_option maxHeartbeats 8000000 in
set_option maxRecDepth 100000 in
theorem customslaw30_LedgerFold.calls (k : Nat) (A0 : Option Addr) (c0 : Nat) (l0 : List Int) (A1 : Option Addr) (c1 : Nat) (l1 : List Int) (w : World) (hr0 : Kd.C (Kd.int .i64) w A0 l0.length l0) (hc0 : l0.length ≤ c0) (hr1 : Kd.C (Kd.int .i64) w A1 l1.length l1) (hc1 : l1.length ≤ c1) (h : customslaw30_LedgerFold.f k l0 l1 = some true) :
  Calls Try.prog 3 #[.slice A0 l0.length c0, .slice A1 l1.length c1] w fun e w' => e = .returned (.bool true) ∧ Below w.heap.size w w' := by
 have hu30 := Try.underlying30; have hu26 := Try.underlying26; have hu37 := Try.underlying37; have HR0 := Aside0.mk hr0; have HC0 := Aside0.mk hc0; clear hr0 hc0; have HR1 := Aside0.mk hr1; have HC1 := Aside0.mk hc1; clear hr1 hc1; have HB := Aside0.mk (Below.refl w.heap.size w); have H : ((customsmade_Ledger.f k l0).bind fun t101 => ((customsmade_Entry.f l1 0 (t101.length : Int)).bind fun bt105 => ((ledger_Append.f t101 bt105.1 bt105.2.1 bt105.2.2.1 bt105.2.2.2.1 bt105.2.2.2.2.1 bt105.2.2.2.2.2.1).bind fun bt113 => (if bt113.2 = 0 then (if (bt113.1.length : Int) = (wrap64 ((t101.length : Int) + 1)) then (if 0 ≤ (t101.length : Int) then (if (t101.length : Int) < (bt113.1.length : Int) then (if (!(((rd_T26 bt113.1 (t101.length : Int)).f0) == bt105.1) || (!(((rd_T26 bt113.1 (t101.length : Int)).f1) == bt105.2.1) || (!(((rd_T26 bt113.1 (t101.length : Int)).f2) == bt105.2.2.1) || (!(((rd_T26 bt113.1 (t101.length : Int)).f3) == bt105.2.2.2.1) || (!(((rd_T26 bt113.1 (t101.length : Int)).f4) == bt105.2.2.2.2.1) || (!(((rd_T26 bt113.1 (t101.length : Int)).f5) == bt105.2.2.2.2.2.1))))))) = true then (customslaw30_LedgerFold.j0 k t101 bt113.1 true bt105.1 bt105.2.1 bt105.2.2.1 bt105.2.2.2.1 bt105.2.2.2.2.1 bt105.2.2.2.2.2.1) else (if (t101.length : Int) ≤ (bt113.1.length : Int) then ((customsref27_SameLedger.f k (bt113.1.take ((t101.length : Int) : Int).toNat) t101).bind fun t123 => (customslaw30_LedgerFold.j0 k t101 bt113.1 (!t123) bt105.1 bt105.2.1 bt105.2.2.1 bt105.2.2.2.1 bt105.2.2.2.2.1 bt105.2.2.2.2.2.1)) else (none))) else (none)) else (none)) else (customslaw30_LedgerFold.j0 k t101 bt113.1 true bt105.1 bt105.2.1 bt105.2.2.1 bt105.2.2.2.1 bt105.2.2.2.2.1 bt105.2.2.2.2.2.1)) else (if (bt113.1.length : Int) = 0 then ((customslaw30_awake.f).bind fun t117 => (some t117)) else (some false)))))) = some true := h; clear h; replace H := Option.bind_eq_some_iff.mp H; obtain ⟨t101, A30, H⟩ := H; replace H : ((customsmade_Entry.f l1 0 (t101.length : Int)).bind fun bt105 => ((ledger_Append.f t101 bt105.1 bt105.2.1 bt105.2.2.1 bt105.2.2.2.1 bt105.2.2.2.2.1 bt105.2.2.2.2.2.1).bind fun bt113 => (if bt113.2 = 0 then (if (bt113.1.length : Int) = (wrap64 ((t101.length : Int) + 1)) then (if 0 ≤ (t101.length : Int) then (if (t101.length : Int) < (bt113.1.length : Int) then (if (!(((rd_T26 bt113.1 (t101.length : Int)).f0) == bt105.1) || (!(((rd_T26 bt113.1 (t101.length : Int)).f1) == bt105.2.1) || (!(((rd_T26 bt113.1 (t101.length : Int)).f2) == bt105.2.2.1) || (!(((rd_T26 bt113.1 (t101.length : Int)).f3) == bt105.2.2.2.1) || (!(((rd_T26 bt113.1 (t101.length : Int)).f4) == bt105.2.2.2.2.1) || (!(((rd_T26 bt113.1 (t101.length : Int)).f5) == bt105.2.2.2.2.2.1))))))) = true then (customslaw30_LedgerFold.j0 k t101 bt113.1 true bt105.1 bt105.2.1 bt105.2.2.1 bt105.2.2.2.1 bt105.2.2.2.2.1 bt105.2.2.2.2.2.1) else (if (t101.length : Int) ≤ (bt113.1.length : Int) then ((customsref27_SameLedger.f k (bt113.1.take ((t101.length : Int) : Int).toNat) t101).bind fun t123 => (customslaw30_LedgerFold.j0 k t101 bt113.1 (!t123) bt105.1 bt105.2.1 bt105.2.2.1 bt105.2.2.2.1 bt105.2.2.2.2.1 bt105.2.2.2.2.2.1)) else (none))) else (none)) else (none)) else (customslaw30_LedgerFold.j0 k t101 bt113.1 true bt105.1 bt105.2.1 bt105.2.2.1 bt105.2.2.2.1 bt105.2.2.2.2.1 bt105.2.2.2.2.2.1)) else (if (bt113.1.length : Int) = 0 then ((customslaw30_awake.f).bind fun t117 => (some t117)) else (some false))))) = some true := H; have A3 := Aside0.mk A30; clear A30; replace H := Option.bind_eq_some_iff.mp H; obtain ⟨⟨t105, t106, t107, t108, t109, t110, t111⟩, A40, H⟩ := H; replace H : ((ledger_Append.f t101 t105 t106 t107 t108 t109 t110).bind fun bt113 => (if bt113.2 = 0 then (if (bt113.1.length : Int) = (wrap64 ((t101.length : Int) + 1)) then (if 0 ≤ (t101.length : Int) then (if (t101.length : Int) < (bt113.1.length : Int) then (if (!(((rd_T26 bt113.1 (t101.length : Int)).f0) == t105) || (!(((rd_T26 bt113.1 (t101.length : Int)).f1) == t106) || (!(((rd_T26 bt113.1 (t101.length : Int)).f2) == t107) || (!(((rd_T26 bt113.1 (t101.length : Int)).f3) == t108) || (!(((rd_T26 bt113.1 (t101.length : Int)).f4) == t109) || (!(((rd_T26 bt113.1 (t101.length : Int)).f5) == t110))))))) = true then (customslaw30_LedgerFold.j0 k t101 bt113.1 true t105 t106 t107 t108 t109 t110) else (if (t101.length : Int) ≤ (bt113.1.length : Int) then ((customsref27_SameLedger.f k (bt113.1.take ((t101.length : Int) : Int).toNat) t101).bind fun t123 => (customslaw30_LedgerFold.j0 k t101 bt113.1 (!t123) t105 t106 t107 t108 t109 t110)) else (none))) else (none)) else (none)) else (customslaw30_LedgerFold.j0 k t101 bt113.1 true t105 t106 t107 t108 t109 t110)) else (if (bt113.1.length : Int) = 0 then ((customslaw30_awake.f).bind fun t117 => (some t117)) else (some false)))) = some true := H; have A4 := Aside0.mk A40; clear A40; replace H := Option.bind_eq_some_iff.mp H; obtain ⟨⟨t113, t116⟩, A50, H⟩ := H; replace H : (if t116 = 0 then (if (t113.length : Int) = (wrap64 ((t101.length : Int) + 1)) then (if 0 ≤ (t101.length : Int) then (if (t101.length : Int) < (t113.length : Int) then (if (!(((rd_T26 t113 (t101.length : Int)).f0) == t105) || (!(((rd_T26 t113 (t101.length : Int)).f1) == t106) || (!(((rd_T26 t113 (t101.length : Int)).f2) == t107) || (!(((rd_T26 t113 (t101.length : Int)).f3) == t108) || (!(((rd_T26 t113 (t101.length : Int)).f4) == t109) || (!(((rd_T26 t113 (t101.length : Int)).f5) == t110))))))) = true then (customslaw30_LedgerFold.j0 k t101 t113 true t105 t106 t107 t108 t109 t110) else (if (t101.length : Int) ≤ (t113.length : Int) then ((customsref27_SameLedger.f k (t113.take ((t101.length : Int) : Int).toNat) t101).bind fun t123 => (customslaw30_LedgerFold.j0 k t101 t113 (!t123) t105 t106 t107 t108 t109 t110)) else (none))) else (none)) else (none)) else (customslaw30_LedgerFold.j0 k t101 t113 true t105 t106 t107 t108 t109 t110)) else (if (t113.length : Int) = 0 then ((customslaw30_awake.f).bind fun t117 => (some t117)) else (some false))) = some true := H; have A5 := Aside0.mk A50; clear A50
 by_cases c6 : t116 = 0
 ·rw [if_pos c6] at H
  have c6b0 : (t116 == 0) = true := beq_iff_eq.mpr c6; have c6b1 : (t116 != 0) = false := bne_eq_false_iff_eq.mpr c6; clear c6; have HC7 := Aside0.mk H; clear H
  go_enter Try.func3, Try.ntmps3
  go_upto_region 6 with (first | ((with_reducible refine gate_callee (f := 9) rfl ?_); refine goesL_ (some 14) rfl rfl Try.func9 (by kernel_rfl) rfl #[.slice A0 l0.length c0] rfl argx ?_; (with_reducible refine (customsmade_Ledger.calls k _ _ l0 t101 _ ?side1 ?side2 A3.out).mono ?_); (case side1 => repeat (first | exact HR0.out | (with_reducible refine Kd.C_alloc ?_ _) | (with_reducible refine Kd.C_drewN ?_ _) | (with_reducible refine Kd.C_drew ?_))); (case side2 => exact HC0.out); rintro e w8 ⟨v102, rfl, ho0, hb⟩; refine ⟨_, rfl, ?_⟩; have qb_ := below_both bel hb; have n0_ := Aside0.mk (Kd.R_lower ho0 qb_.2); have n1_ := Aside0.mk (qb_.1); clear HB; have HO103 := n0_; have HB := n1_; clear qb_; clear n0_ n1_; (try clear hb); (try clear hb2); (try clear hk); (try clear hi); (try clear ho0)) | ((with_reducible refine gate_dst (N := 17) rfl ?_); refine box_event ?hg (N := 17) ?hd (cs := #[.slice A1 l1.length c1, .int .i64 0]) (t := 30) ?hr ?_; (case hd => rfl); (case hg => rfl); (case hr => first | (go_simp; done) | (go_simp; rfl)); intro gb104 hg w9 hbox hb; have qb_ := below_both bel hb; have n0_ := Aside0.mk (Kd.R_below (rowx HO103.out) hb); have n1_ := Aside0.mk (qb_.1); have n2_ := Aside0.mk ((show IsS30 w w9 gb104 l1 0 from ⟨_, _, hbox, (by rw [hg]; exact qb_.2 : w.heap.size ≤ gb104), HR1.out⟩)); clear HO103; clear HB; have HO103 := n0_; have HB := n1_; have HI104 := n2_; clear qb_; clear n0_ n1_ n2_; clear hb hbox hg; obtain ⟨Ao10, co10, eo10⟩ := Kd.R_slice HO103.out; subst eo10) | ((with_reducible refine gate_callee (f := 10) rfl ?_); refine goesL_ (some 20) rfl rfl Try.func10 (by kernel_rfl) rfl #[.pointer (some ⟨gb104, 0, none⟩), .int .i64 (t101.length : Int)] rfl argx ?_; (with_reducible refine (customsmade_Entry.calls gb104 l1 0 (t101.length : Int) t105 t106 t107 t108 t109 t110 t111 w _ ?side1 ?side2 A4.out).mono ?_); (case side1 => repeat (first | (with_reducible first | exact HI104.out | apply IsS30.alloc | apply IsS30.drewN | apply IsS30.drew | apply IsS30.set_1) | exact HI104.out)); (case side2 => repeat (first | (with_reducible first | exact HB.out | apply below_alloc | apply pw_below_drewN | apply below_drew1 | refine below_set ?_ (IsS30.ge HI104.out)) | exact HB.out)); rintro e w11 ⟨rfl, hi, hb, hk⟩; refine ⟨_, rfl, ?_⟩; have n0_ := Aside0.mk (Kd.R_mono (Kd.R_keep (IsS30.apart (show IsS30 w _ gb104 l1 0 from by repeat (first | (with_reducible first | exact HI104.out | apply IsS30.alloc | apply IsS30.drewN | apply IsS30.drew | apply IsS30.set_1) | exact HI104.out)) (rowx HO103.out) (by decide)) hk (fun _ h => h.2)) (fun _ h => h.1)); have n1_ := Aside0.mk (hb); have n2_ := Aside0.mk (hi); clear HO103; clear HB; clear HI104; have HO103 := n0_; have HB := n1_; have HI104 := n2_; clear n0_ n1_ n2_; (try clear hb); (try clear hb2); (try clear hk); (try clear hi)) | ((with_reducible refine gate_dst (N := 6) rfl ?_); refine box_event ?hg (N := 6) ?hd (cs := #[.int .i64 0, .int .i64 0, .int .i64 0, .int .i64 0, .int .i64 0, .int .i64 0]) (t := 26) ?hr ?_; (case hd => rfl); (case hg => rfl); (case hr => first | (go_simp; done) | (go_simp; rfl)); intro gb112 hg w12 hbox hb; have n0_ := Aside0.mk (Kd.R_below (Kd.R_elderB (rowx HO103.out) gb112 (Nat.le_of_eq hg.symm)) hb); have n1_ := Aside0.mk (IsS30.below (by repeat (first | (with_reducible first | exact HI104.out | apply IsS30.alloc | apply IsS30.drewN | apply IsS30.drew | apply IsS30.set_1) | exact HI104.out)) hb); have n2_ := Aside0.mk (below_step zPA14 hb); have n3_ := Aside0.mk (hbox); have n4_ := Aside0.mk ((by rw [hg]; exact (below_size zPA14) : w.heap.size ≤ gb112)); have n5_ := n4_; have n6_ := Aside0.mk ((by rw [hg]; exact Nat.ne_of_lt (IsS30.lt (show IsS30 w _ gb104 l1 t111 from by repeat (first | (with_reducible first | exact HI104.out | apply IsS30.alloc | apply IsS30.drewN | apply IsS30.drew | apply IsS30.set_1) | exact HI104.out))) : gb104 ≠ gb112)); have n7_ := Aside0.mk (Ne.symm n6_.out); clear HO103; clear HI104; clear HB; have HO103 := n0_; have HI104 := n1_; have HB := n2_; have BK112 := n3_; have GW112 := n4_; have GE112 := n5_; have NB104_112 := n6_; have NB112_104 := n7_; clear n0_ n1_ n2_ n3_ n4_ n5_ n6_ n7_; clear hb hbox hg; have hnb13 := NB112_104.out; have hnc13 := NB104_112.out; obtain ⟨hcz14_0, hcz14_1, hcz14_2, hcz14_3, hcz14_4, hcz14_5, hfz14_0, hfz14_1, hfz14_2, hfz14_3, hfz14_4, hfz14_5⟩ := cells6 BK112.out) | ((with_reducible refine gate_callee (f := 11) rfl ?_); refine goesL_ (some 24) rfl rfl Try.func11 (by kernel_rfl) rfl #[.slice Ao10 t101.length co10, .agg #[.int .i64 t105, .int .i64 t106, .int .i64 t107, .int .i64 t108, .int .i64 t109, .int .i64 t110]] rfl argx ?_; (with_reducible refine (ledger_Append.calls _ _ t101 t105 t106 t107 t108 t109 t110 t113 t116 _ ?side1 ?side2 A5.out).mono ?_); (case side1 => refine (Kd.R_reads' (e := 26) (base := w.heap.size) (ok := fun k_ => (True ∧ k_ ≠ gb112)) (n := t101.length) (c := co10) ?_).2.2; exact zPA8); (case side2 => exact (Kd.R_reads' HO103.out).2.1); rintro e w15 ⟨v114, rfl, ho0, hb⟩; refine ⟨_, rfl, ?_⟩; have q1_ := Kd.R_elder2 zPA8 (Kd.R_base ho0) hb; have n0_ := Aside0.mk (q1_.1); have n1_ := Aside0.mk (Kd.R_lower (Kd.R_newB (Kd.R_new' ho0 q1_.2) (g := gb112) (o := .cells #[.int .i64 t105, .int .i64 t106, .int .i64 t107, .int .i64 t108, .int .i64 t109, .int .i64 t110] 26 (0, 0)) zPA10) (below_size zPA15)); have n2_ := Aside0.mk (IsS30.below (show IsS30 w ((((((w12.setCell ⟨gb112, 0, none⟩ (.int .i64 t105)).setCell ⟨gb112, 1, none⟩ (.int .i64 t106)).setCell ⟨gb112, 2, none⟩ (.int .i64 t107)).setCell ⟨gb112, 3, none⟩ (.int .i64 t108)).setCell ⟨gb112, 4, none⟩ (.int .i64 t109)).setCell ⟨gb112, 5, none⟩ (.int .i64 t110)) gb104 l1 t111 from by repeat (first | (with_reducible first | exact HI104.out | apply IsS30.alloc | apply IsS30.drewN | apply IsS30.drew | apply IsS30.set_1 | refine IsS30.far ?_ NB104_112.out _) | exact HI104.out)) hb); have n3_ := Aside0.mk (blk_below (g := gb112) (o := .cells #[.int .i64 t105, .int .i64 t106, .int .i64 t107, .int .i64 t108, .int .i64 t109, .int .i64 t110] 26 (0, 0)) zPA10 hb); have n4_ := Aside0.mk (below_step zPA15 hb); clear HO103; clear HI104; clear BK112; clear HB; have HO103 := n0_; have HO115 := n1_; have HI104 := n2_; have BK112 := n3_; have HB := n4_; clear q1_; clear n0_ n1_ n2_ n3_ n4_; (try clear hb); (try clear hb2); (try clear hk); (try clear hi); (try clear ho0)))
  (try simp only [Act.put, List.setIfInBounds_toArray, List.set_cons_zero, List.set_cons_succ])
  go_cut [58] (fun v58 wc => ∃ (kq : Nat) (x58_6 : Bool), v58 = .bool x58_6 ∧ Aside0 (customslaw30_LedgerFold.j0 kq t101 t113 x58_6 t105 t106 t107 t108 t109 t110 = some true) ∧ Aside0 (kq ≤ k) ∧ Aside0 (Kd.R k26 26 wc w.heap.size (fun k_ => some k_ ≠ (v114 : Value).ownBlock ∧ k_ ≠ gb112) (.slice Ao10 t101.length co10) t101) ∧ Aside0 (Kd.R k26 26 wc w.heap.size (fun k_ => some k_ ≠ ((.slice Ao10 t101.length co10) : Value).ownBlock ∧ k_ ≠ gb112) v114 t113) ∧ Aside0 (wc.heap[gb112]? = some (.cells #[.int .i64 t105, .int .i64 t106, .int .i64 t107, .int .i64 t108, .int .i64 t109, .int .i64 t110] 26 (0, 0))) ∧ Aside0 (Below w.heap.size w wc))
  case first =>
   have H := HC7.out; clear HC7
   by_cases c16 : (t113.length : Int) = (wrap64 ((t101.length : Int) + 1))
   ·rw [if_pos c16] at H
    have c16b0 : ((t113.length : Int) == (wrap64 ((t101.length : Int) + 1))) = true := beq_iff_eq.mpr c16; have c16b1 : ((t113.length : Int) != (wrap64 ((t101.length : Int) + 1))) = false := bne_eq_false_iff_eq.mpr c16; clear c16
    (first | rw [c16b0] | (simp only [i64_w, i32_w]; rw [c16b0]) | skip)
    by_cases c17 : 0 ≤ (t101.length : Int)
    ·rw [if_pos c17] at H
     have c17b0 : decide (0 ≤ (t101.length : Int)) = true := decide_eq_true c17; have c17b1 : decide (0 ≤ t101.length) = true := decide_eq_true (by omega); clear c17
     by_cases c18 : (t101.length : Int) < (t113.length : Int)
     ·rw [if_pos c18] at H
      have c18b0 : decide ((t101.length : Int) < (t113.length : Int)) = true := decide_eq_true c18; have c18b1 : decide (t101.length < t113.length) = true := decide_eq_true (Int.ofNat_lt.mp c18); clear c18
      by_cases c19 : (!(((rd_T26 t113 (t101.length : Int)).f0) == t105) || (!(((rd_T26 t113 (t101.length : Int)).f1) == t106) || (!(((rd_T26 t113 (t101.length : Int)).f2) == t107) || (!(((rd_T26 t113 (t101.length : Int)).f3) == t108) || (!(((rd_T26 t113 (t101.length : Int)).f4) == t109) || (!(((rd_T26 t113 (t101.length : Int)).f5) == t110))))))) = true
      ·rw [if_pos c19] at H
       have c19b0 : (!(((rd_T26 t113 (t101.length : Int)).f0) == t105) || (!(((rd_T26 t113 (t101.length : Int)).f1) == t106) || (!(((rd_T26 t113 (t101.length : Int)).f2) == t107) || (!(((rd_T26 t113 (t101.length : Int)).f3) == t108) || (!(((rd_T26 t113 (t101.length : Int)).f4) == t109) || (!(((rd_T26 t113 (t101.length : Int)).f5) == t110))))))) = true := c19; clear c19; have H' := Aside0.mk H; clear H
       try go_wp2
       have n0_ := Aside0.mk (Kd.R_drew HO103.out); have n1_ := Aside0.mk (Kd.R_drew HO115.out); have n2_ := Aside0.mk (blk_drew BK112.out); have n3_ := Aside0.mk (IsS30.drew HI104.out); have n4_ := Aside0.mk (below_drew1 HB.out); clear HO103; clear HO115; clear BK112; clear HI104; clear HB; have HO103 := n0_; have HO115 := n1_; have BK112 := n2_; have HI104 := n3_; have HB := n4_; clear n0_ n1_ n2_ n3_ n4_; obtain ⟨Ao21, co21, eo21⟩ := Kd.R_slice HO115.out
       (first | subst eo21 | (injection eo21 with f1_ f2_ f3_; have f4_ := f1_.symm; have f5_ := f3_.symm; clear f1_ f2_ f3_; subst f4_; subst f5_))
       have p118 : 0 ≤ ((t101.length : Int) : Int) := of_decide_eq_true zPA7; have q118 : (t101.length : Int) < (t113.length : Int) := of_decide_eq_true zPA7; obtain ⟨ad118, e118, hx118_0, hx118_1, hx118_2, hx118_3, hx118_4, hx118_5⟩ := at_T26 (Kd.R_reads' HO115.out).2.2 (t101.length : Int) p118 q118
       cases e118
       (try simp only [Go.IntWalk.toNatUp] at hx118_0)
       (try simp only [Go.IntWalk.toNatUp] at hx118_1)
       (try simp only [Go.IntWalk.toNatUp] at hx118_2)
       (try simp only [Go.IntWalk.toNatUp] at hx118_3)
       (try simp only [Go.IntWalk.toNatUp] at hx118_4)
       (try simp only [Go.IntWalk.toNatUp] at hx118_5)
       replace p118 := eq_true p118; replace q118 := eq_true q118
       refine start_ (n := 24) (S := fun w' => w'.cell? ⟨gb112, 0, none⟩ = some (.int .i64 t105) ∧ w'.cell? ⟨gb112, 1, none⟩ = some (.int .i64 t106) ∧ w'.cell? ⟨gb112, 2, none⟩ = some (.int .i64 t107) ∧ w'.cell? ⟨gb112, 3, none⟩ = some (.int .i64 t108) ∧ w'.cell? ⟨gb112, 4, none⟩ = some (.int .i64 t109) ∧ w'.cell? ⟨gb112, 5, none⟩ = some (.int .i64 t110) ∧ w'.cell? (ad118.add (t101.length * 6)) = some (.int .i64 ((rd_T26 t113 (t101.length : Int)).f0)) ∧ w'.cell? ⟨(ad118.add (t101.length * 6)).block, (ad118.add (t101.length * 6)).off + 1, none⟩ = some (.int .i64 ((rd_T26 t113 (t101.length : Int)).f1)) ∧ w'.cell? ⟨(ad118.add (t101.length * 6)).block, (ad118.add (t101.length * 6)).off + 2, none⟩ = some (.int .i64 ((rd_T26 t113 (t101.length : Int)).f2)) ∧ w'.cell? ⟨(ad118.add (t101.length * 6)).block, (ad118.add (t101.length * 6)).off + 3, none⟩ = some (.int .i64 ((rd_T26 t113 (t101.length : Int)).f3)) ∧ w'.cell? ⟨(ad118.add (t101.length * 6)).block, (ad118.add (t101.length * 6)).off + 4, none⟩ = some (.int .i64 ((rd_T26 t113 (t101.length : Int)).f4)) ∧ w'.cell? ⟨(ad118.add (t101.length * 6)).block, (ad118.add (t101.length * 6)).off + 5, none⟩ = some (.int .i64 ((rd_T26 t113 (t101.length : Int)).f5))) (ds := []) #[false, false, false, false, false, false, false, false, false, false, false, false, false, false, false, false, false, false, false, false, false, false, false, false] (by kernel_rfl) rfl rfl ⟨(blk_cell BK112.out 0).trans rfl, (blk_cell BK112.out 1).trans rfl, (blk_cell BK112.out 2).trans rfl, (blk_cell BK112.out 3).trans rfl, (blk_cell BK112.out 4).trans rfl, (blk_cell BK112.out 5).trans rfl, hx118_0, hx118_1, hx118_2, hx118_3, hx118_4, hx118_5⟩ (fun hHeld => ?_); refine with_tabW customslaw30_LedgerFold.tab6 customslaw30_LedgerFold.bits6 (fun HT_ HW_ => ?_)
       generalize w15.drew = w20 at HO103 HO115 BK112 HI104 HB hx118_0 hx118_1 hx118_2 hx118_3 hx118_4 hx118_5 hHeld ⊢
       refine pure_ (i := 0) (N := some 35) (v := ?_) (a' := ?_) #[true, false, false, false, false, false, false, false, false, false, false, false, false, false, false, false, false, false, false, false, false, false, false, false] rfl rfl (any_of HT_.out (by kernel_rfl)) (fun _ _ _ h => h) (Or.inl ⟨by rfl, ?_⟩) ?_ ?_
       rotate_left
       ·intro w'
        go_simp
        with_reducible rfl
       rotate_left
       ·simp only [Act.put, List.setIfInBounds_toArray, List.set_cons_zero, List.set_cons_succ, i64_w, i32_w]
        rfl
       refine pure_ (i := 1) (N := some 36) (v := ?_) (a' := ?_) #[true, true, false, false, false, false, false, false, false, false, false, false, false, false, false, false, false, false, false, false, false, false, false, false] rfl rfl (any_of HT_.out (by kernel_rfl)) (fun _ _ _ h => h) (Or.inl ⟨by rfl, ?_⟩) ?_ ?_
       rotate_left
       ·intro w'
        go_simp
        with_reducible rfl
       rotate_left
       ·simp only [Act.put, List.setIfInBounds_toArray, List.set_cons_zero, List.set_cons_succ, i64_w, i32_w]
        rfl
       refine pure_ (i := 2) (N := some 37) (v := ?_) (a' := ?_) #[true, true, true, false, false, false, false, false, false, false, false, false, false, false, false, false, false, false, false, false, false, false, false, false] rfl rfl (any_of HT_.out (by kernel_rfl)) (fun _ _ _ h => h) (Or.inl ⟨by rfl, ?_⟩) ?_ ?_
       rotate_left
       ·intro w'
        go_simp
        with_reducible rfl
       rotate_left
       ·simp only [Act.put, List.setIfInBounds_toArray, List.set_cons_zero, List.set_cons_succ, i64_w, i32_w]
        rfl
       refine pure_ (i := 3) (N := some 38) (v := ?_) (a' := ?_) #[true, true, true, true, false, false, false, false, false, false, false, false, false, false, false, false, false, false, false, false, false, false, false, false] rfl rfl (any_of HT_.out (by kernel_rfl)) (fun _ _ _ h => h) (Or.inl ⟨by rfl, ?_⟩) ?_ ?_
       rotate_left
       ·intro w'
        go_simp
        with_reducible rfl
       rotate_left
       ·simp only [Act.put, List.setIfInBounds_toArray, List.set_cons_zero, List.set_cons_succ, i64_w, i32_w]
        rfl
       refine pure_ (i := 4) (N := some 39) (v := ?_) (a' := ?_) #[true, true, true, true, true, false, false, false, false, false, false, false, false, false, false, false, false, false, false, false, false, false, false, false] rfl rfl (any_of HT_.out (by kernel_rfl)) (fun _ _ _ h => h) (Or.inl ⟨by rfl, ?_⟩) ?_ ?_
       rotate_left
       ·intro w'
        go_simp
        with_reducible rfl
       rotate_left
       ·simp only [Act.put, List.setIfInBounds_toArray, List.set_cons_zero, List.set_cons_succ, i64_w, i32_w]
        rfl
       refine pure_ (i := 5) (N := some 40) (v := ?_) (a' := ?_) #[true, true, true, true, true, true, false, false, false, false, false, false, false, false, false, false, false, false, false, false, false, false, false, false] rfl rfl (any_of HT_.out (by kernel_rfl)) (fun _ _ _ h => h) (Or.inl ⟨by rfl, ?_⟩) ?_ ?_
       rotate_left
       ·intro w'
        go_simp
        with_reducible rfl
       rotate_left
       ·simp only [Act.put, List.setIfInBounds_toArray, List.set_cons_zero, List.set_cons_succ, i64_w, i32_w]
        rfl
       refine pure_ (i := 6) (N := some 41) (v := ?_) (a' := ?_) #[true, true, true, true, true, true, true, false, false, false, false, false, false, false, false, false, false, false, false, false, false, false, false, false] rfl rfl (any_of HT_.out (by kernel_rfl)) (fun _ _ _ h => h) (Or.inl ⟨by rfl, ?_⟩) ?_ ?_
       rotate_left
       ·intro w'
        go_simp
        with_reducible rfl
       rotate_left
       ·simp only [Act.put, List.setIfInBounds_toArray, List.set_cons_zero, List.set_cons_succ, i64_w, i32_w]
        rfl
       refine pure_ (i := 7) (N := some 42) (v := ?_) (a' := ?_) #[true, true, true, true, true, true, true, true, false, false, false, false, false, false, false, false, false, false, false, false, false, false, false, false] rfl rfl (any_of HT_.out (by kernel_rfl)) (fun _ _ _ h => h) (Or.inl ⟨by rfl, ?_⟩) ?_ ?_
       rotate_left
       ·intro w'
        go_simp
        with_reducible rfl
       rotate_left
       ·simp only [Act.put, List.setIfInBounds_toArray, List.set_cons_zero, List.set_cons_succ, i64_w, i32_w]
        rfl
       refine pure_ (i := 8) (N := some 43) (v := ?_) (a' := ?_) #[true, true, true, true, true, true, true, true, true, false, false, false, false, false, false, false, false, false, false, false, false, false, false, false] rfl rfl (any_of HT_.out (by kernel_rfl)) (fun _ _ _ h => h) (Or.inl ⟨by rfl, ?_⟩) ?_ ?_
       rotate_left
       ·intro w'
        go_simp
        with_reducible rfl
       rotate_left
       ·simp only [Act.put, List.setIfInBounds_toArray, List.set_cons_zero, List.set_cons_succ, i64_w, i32_w]
        rfl
       refine pure_ (i := 9) (N := some 44) (v := ?_) (a' := ?_) #[true, true, true, true, true, true, true, true, true, true, false, false, false, false, false, false, false, false, false, false, false, false, false, false] rfl rfl (any_of HT_.out (by kernel_rfl)) (fun _ _ _ h => h) (Or.inl ⟨by rfl, ?_⟩) ?_ ?_
       rotate_left
       ·intro w'
        go_simp
        with_reducible rfl
       rotate_left
       ·simp only [Act.put, List.setIfInBounds_toArray, List.set_cons_zero, List.set_cons_succ, i64_w, i32_w]
        rfl
       refine pure_ (i := 10) (N := some 45) (v := ?_) (a' := ?_) #[true, true, true, true, true, true, true, true, true, true, true, false, false, false, false, false, false, false, false, false, false, false, false, false] rfl rfl (any_of HT_.out (by kernel_rfl)) (fun _ _ _ h => h) (Or.inl ⟨by rfl, ?_⟩) ?_ ?_
       rotate_left
       ·intro w'
        go_simp
        with_reducible rfl
       rotate_left
       ·simp only [Act.put, List.setIfInBounds_toArray, List.set_cons_zero, List.set_cons_succ, i64_w, i32_w]
        rfl
       refine take_ (i := 11) (N := some 46) (v := ?_) (a' := ?_) #[true, true, true, true, true, true, true, true, true, true, true, true, false, false, false, false, false, false, false, false, false, false, false, false] rfl rfl (take_ofW HT_.out HW_.out (by kernel_rfl)) (fun _ _ _ h => h) (Or.inl ⟨by rfl, ?_⟩) hHeld ?_ ?_
       rotate_left
       ·rintro w' ⟨s0, s1, s2, s3, s4, s5, s6, s7, s8, s9, s10, s11⟩
        go_simp
        with_reducible rfl
       rotate_left
       ·simp only [Act.put, List.setIfInBounds_toArray, List.set_cons_zero, List.set_cons_succ, i64_w, i32_w]
        rfl
       refine take_ (i := 12) (N := some 47) (v := ?_) (a' := ?_) #[true, true, true, true, true, true, true, true, true, true, true, true, true, false, false, false, false, false, false, false, false, false, false, false] rfl rfl (take_ofW HT_.out HW_.out (by kernel_rfl)) (fun _ _ _ h => h) (Or.inl ⟨by rfl, ?_⟩) hHeld ?_ ?_
       rotate_left
       ·rintro w' ⟨s0, s1, s2, s3, s4, s5, s6, s7, s8, s9, s10, s11⟩
        go_simp
        with_reducible rfl
       rotate_left
       ·simp only [Act.put, List.setIfInBounds_toArray, List.set_cons_zero, List.set_cons_succ, i64_w, i32_w]
        rfl
       refine pure_ (i := 13) (N := some 48) (v := ?_) (a' := ?_) #[true, true, true, true, true, true, true, true, true, true, true, true, true, true, false, false, false, false, false, false, false, false, false, false] rfl rfl (any_of HT_.out (by kernel_rfl)) (fun _ _ _ h => h) (Or.inl ⟨by rfl, ?_⟩) ?_ ?_
       rotate_left
       ·intro w'
        go_simp
        with_reducible rfl
       rotate_left
       ·simp only [Act.put, List.setIfInBounds_toArray, List.set_cons_zero, List.set_cons_succ, i64_w, i32_w]
        rfl
       refine pure_ (i := 14) (N := some 49) (v := ?_) (a' := ?_) #[true, true, true, true, true, true, true, true, true, true, true, true, true, true, true, false, false, false, false, false, false, false, false, false] rfl rfl (any_of HT_.out (by kernel_rfl)) (fun _ _ _ h => h) (Or.inl ⟨by rfl, ?_⟩) ?_ ?_
       rotate_left
       ·intro w'
        go_simp
        with_reducible rfl
       rotate_left
       ·simp only [Act.put, List.setIfInBounds_toArray, List.set_cons_zero, List.set_cons_succ, i64_w, i32_w]
        rfl
       refine pure_ (i := 15) (N := some 50) (v := ?_) (a' := ?_) #[true, true, true, true, true, true, true, true, true, true, true, true, true, true, true, true, false, false, false, false, false, false, false, false] rfl rfl (any_of HT_.out (by kernel_rfl)) (fun _ _ _ h => h) (Or.inl ⟨by rfl, ?_⟩) ?_ ?_
       rotate_left
       ·intro w'
        go_simp
        with_reducible rfl
       rotate_left
       ·simp only [Act.put, List.setIfInBounds_toArray, List.set_cons_zero, List.set_cons_succ, i64_w, i32_w]
        rfl
       refine pure_ (i := 16) (N := some 51) (v := undef) (a' := ?_) #[true, true, true, true, true, true, true, true, true, true, true, true, true, true, true, true, true, false, false, false, false, false, false, false] rfl rfl (any_of HT_.out (by kernel_rfl)) (fun _ _ _ h => h) (Or.inr ⟨by rfl, rfl⟩) ?_ ?_
       rotate_left
       ·simp only [Act.put, List.setIfInBounds_toArray, List.set_cons_zero, List.set_cons_succ, i64_w, i32_w]
        rfl
       refine pure_ (i := 17) (N := some 52) (v := undef) (a' := ?_) #[true, true, true, true, true, true, true, true, true, true, true, true, true, true, true, true, true, true, false, false, false, false, false, false] rfl rfl (any_of HT_.out (by kernel_rfl)) (fun _ _ _ h => h) (Or.inr ⟨by rfl, rfl⟩) ?_ ?_
       rotate_left
       ·simp only [Act.put, List.setIfInBounds_toArray, List.set_cons_zero, List.set_cons_succ, i64_w, i32_w]
        rfl
       refine pure_ (i := 18) (N := some 53) (v := undef) (a' := ?_) #[true, true, true, true, true, true, true, true, true, true, true, true, true, true, true, true, true, true, true, false, false, false, false, false] rfl rfl (any_of HT_.out (by kernel_rfl)) (fun _ _ _ h => h) (Or.inr ⟨by rfl, rfl⟩) ?_ ?_
       rotate_left
       ·simp only [Act.put, List.setIfInBounds_toArray, List.set_cons_zero, List.set_cons_succ, i64_w, i32_w]
        rfl
       refine pure_ (i := 19) (N := some 54) (v := undef) (a' := ?_) #[true, true, true, true, true, true, true, true, true, true, true, true, true, true, true, true, true, true, true, true, false, false, false, false] rfl rfl (any_of HT_.out (by kernel_rfl)) (fun _ _ _ h => h) (Or.inr ⟨by rfl, rfl⟩) ?_ ?_
       rotate_left
       ·simp only [Act.put, List.setIfInBounds_toArray, List.set_cons_zero, List.set_cons_succ, i64_w, i32_w]
        rfl
       refine pure_ (i := 20) (N := some 55) (v := undef) (a' := ?_) #[true, true, true, true, true, true, true, true, true, true, true, true, true, true, true, true, true, true, true, true, true, false, false, false] rfl rfl (any_of HT_.out (by kernel_rfl)) (fun _ _ _ h => h) (Or.inr ⟨by rfl, rfl⟩) ?_ ?_
       rotate_left
       ·simp only [Act.put, List.setIfInBounds_toArray, List.set_cons_zero, List.set_cons_succ, i64_w, i32_w]
        rfl
       refine pure_ (i := 21) (N := some 56) (v := undef) (a' := ?_) #[true, true, true, true, true, true, true, true, true, true, true, true, true, true, true, true, true, true, true, true, true, true, false, false] rfl rfl (any_of HT_.out (by kernel_rfl)) (fun _ _ _ h => h) (Or.inr ⟨by rfl, rfl⟩) ?_ ?_
       rotate_left
       ·simp only [Act.put, List.setIfInBounds_toArray, List.set_cons_zero, List.set_cons_succ, i64_w, i32_w]
        rfl
       refine pure_ (i := 22) (N := some 57) (v := undef) (a' := ?_) #[true, true, true, true, true, true, true, true, true, true, true, true, true, true, true, true, true, true, true, true, true, true, true, false] rfl rfl (any_of HT_.out (by kernel_rfl)) (fun _ _ _ h => h) (Or.inr ⟨by rfl, rfl⟩) ?_ ?_
       rotate_left
       ·simp only [Act.put, List.setIfInBounds_toArray, List.set_cons_zero, List.set_cons_succ, i64_w, i32_w]
        rfl
       refine pure_ (i := 23) (N := some 58) (v := ?_) (a' := ?_) #[true, true, true, true, true, true, true, true, true, true, true, true, true, true, true, true, true, true, true, true, true, true, true, true] rfl rfl (any_of HT_.out (by kernel_rfl)) (fun _ _ _ h => h) (Or.inl ⟨by rfl, ?_⟩) ?_ ?_
       rotate_left
       ·intro w'
        go_simp
        with_reducible rfl
       rotate_left
       ·simp only [Act.put, List.setIfInBounds_toArray, List.set_cons_zero, List.set_cons_succ, i64_w, i32_w]
        rfl
       refine done_ (done_of HT_.out (by kernel_rfl)) ?_
       try go_wp2
       go_meet
       case rel => exact ⟨_, (true), zPA11, H', ⟨by first | omega | exact Nat.le_refl _⟩, ⟨by (with_reducible repeat (first | apply Kd.R_alloc | apply Kd.R_drewN | apply Kd.R_drew)); exact Kd.R_mono HO103.out (fun _ hk => ⟨hk.2, hk.1.2⟩)⟩, ⟨by (with_reducible repeat (first | apply Kd.R_alloc | apply Kd.R_drewN | apply Kd.R_drew)); exact Kd.R_mono HO115.out (fun _ hk => ⟨hk.1.2, hk.2⟩)⟩, ⟨by (with_reducible repeat (first | refine blk_drewN ?_ _ | refine blk_drew ?_ | refine blk_alloc ?_ _)); exact BK112.out⟩, ⟨by repeat (first | (with_reducible first | exact HB.out | apply below_alloc | apply pw_below_drewN | apply below_drew1 | refine below_set ?_ (IsS30.ge HI104.out) | refine below_set ?_ GE112.out) | exact HB.out)⟩⟩
      ·rw [if_neg c19] at H
       have c19b0 : (!(((rd_T26 t113 (t101.length : Int)).f0) == t105) || (!(((rd_T26 t113 (t101.length : Int)).f1) == t106) || (!(((rd_T26 t113 (t101.length : Int)).f2) == t107) || (!(((rd_T26 t113 (t101.length : Int)).f3) == t108) || (!(((rd_T26 t113 (t101.length : Int)).f4) == t109) || (!(((rd_T26 t113 (t101.length : Int)).f5) == t110))))))) = false := by simpa using c19
       clear c19; have c22b0 := eq_true (of_decide_eq_true zPA7 : 0 ≤ (t101.length : Int))
       by_cases c23 : (t101.length : Int) ≤ (t113.length : Int)
       ·rw [if_pos c23] at H
        have c23b0 := eq_true c23; have c23b1 : decide ((t101.length : Int) ≤ (t113.length : Int)) = true := decide_eq_true c23; clear c23; obtain ⟨y119, hy119⟩ : ∃ y_ : List (S26), y_ = (t113.take ((t101.length : Int) : Int).toNat) := ⟨_, rfl⟩
        replace H : ((customsref27_SameLedger.f k y119 t101).bind fun t123 => (customslaw30_LedgerFold.j0 k t101 t113 (!t123) t105 t106 t107 t108 t109 t110)) = some true := by first | (rw [hy119]; with_reducible exact H) | (have H2_ := (Option.bind_some _ _).symm.trans H; rw [hy119]; with_reducible exact H2_) | (have H2_ := (Option.bind_some _ _).symm.trans H; with_reducible exact H2_) | with_reducible exact H | (rw [hy119]; exact H) | exact H
        have Ny119 := Aside0.mk hy119; clear hy119; replace H := Option.bind_eq_some_iff.mp H; obtain ⟨t123, A240, H⟩ := H; replace H : (customslaw30_LedgerFold.j0 k t101 t113 (!t123) t105 t106 t107 t108 t109 t110) = some true := H; have A24 := Aside0.mk A240; clear A240; have H' := Aside0.mk H; clear H
        try go_wp2
        have n0_ := Aside0.mk (Kd.R_drew HO103.out); have n1_ := Aside0.mk (Kd.R_drew HO115.out); have n2_ := Aside0.mk (blk_drew BK112.out); have n3_ := Aside0.mk (IsS30.drew HI104.out); have n4_ := Aside0.mk (below_drew1 HB.out); clear HO103; clear HO115; clear BK112; clear HI104; clear HB; have HO103 := n0_; have HO115 := n1_; have BK112 := n2_; have HI104 := n3_; have HB := n4_; clear n0_ n1_ n2_ n3_ n4_; obtain ⟨Ao26, co26, eo26⟩ := Kd.R_slice HO115.out
        (first | subst eo26 | (injection eo26 with f1_ f2_ f3_; have f4_ := f1_.symm; have f5_ := f3_.symm; clear f1_ f2_ f3_; subst f4_; subst f5_))
        have p118 : 0 ≤ ((t101.length : Int) : Int) := of_decide_eq_true zPA7; have q118 : (t101.length : Int) < (t113.length : Int) := of_decide_eq_true zPA7; obtain ⟨ad118, e118, hx118_0, hx118_1, hx118_2, hx118_3, hx118_4, hx118_5⟩ := at_T26 (Kd.R_reads' HO115.out).2.2 (t101.length : Int) p118 q118
        cases e118
        (try simp only [Go.IntWalk.toNatUp] at hx118_0)
        (try simp only [Go.IntWalk.toNatUp] at hx118_1)
        (try simp only [Go.IntWalk.toNatUp] at hx118_2)
        (try simp only [Go.IntWalk.toNatUp] at hx118_3)
        (try simp only [Go.IntWalk.toNatUp] at hx118_4)
        (try simp only [Go.IntWalk.toNatUp] at hx118_5)
        replace p118 := eq_true p118; replace q118 := eq_true q118; have q27 : ((t101.length : Int) : Int) ≤ ((t113.length : Int) : Int) := of_decide_eq_true zPA7; obtain ⟨i027, hi027, _, hsz27, _⟩ := info_parts info26; have hroom27 : t113.length ≤ co26 := (Kd.R_reads' HO115.out).2.1; have hC27 : Kd.C k26 _ (some ad118) t113.length t113 := (Kd.R_reads' HO115.out).2.2; have hcut27 := cut_to (P := Try.prog) 23 26 .i64 Try.underlying23 hi027 (some ad118) t113.length co26 (t101.length : Int) (of_decide_eq_true zPA7) q27 hroom27; have hr27 := Kd.C_take (m := ((t101.length : Int) : Int).toNat) hC27 (by omega); have hy27 : y119.length = ((t101.length : Int) : Int).toNat := (by rw [Ny119.out, List.length_take]; omega)
        rw [← Ny119.out] at hr27
        rw [← hy27] at hcut27
        have HR122 := Aside0.mk hr27
        have HC122 := Aside0.mk (show y119.length ≤ co26 from by omega)
        clear hr27 hC27 hroom27 hi027 hsz27; have KY27 := Aside0.mk hy27; clear hy27
        have KL27 := Aside0.mk (show ((t101.length : Int) : Int).toNat ≤ t113.length from by omega)
        replace q27 := eq_true q27
        refine start_ (n := 24) (S := fun w' => w'.cell? ⟨gb112, 0, none⟩ = some (.int .i64 t105) ∧ w'.cell? ⟨gb112, 1, none⟩ = some (.int .i64 t106) ∧ w'.cell? ⟨gb112, 2, none⟩ = some (.int .i64 t107) ∧ w'.cell? ⟨gb112, 3, none⟩ = some (.int .i64 t108) ∧ w'.cell? ⟨gb112, 4, none⟩ = some (.int .i64 t109) ∧ w'.cell? ⟨gb112, 5, none⟩ = some (.int .i64 t110) ∧ w'.cell? (ad118.add (t101.length * 6)) = some (.int .i64 ((rd_T26 t113 (t101.length : Int)).f0)) ∧ w'.cell? ⟨(ad118.add (t101.length * 6)).block, (ad118.add (t101.length * 6)).off + 1, none⟩ = some (.int .i64 ((rd_T26 t113 (t101.length : Int)).f1)) ∧ w'.cell? ⟨(ad118.add (t101.length * 6)).block, (ad118.add (t101.length * 6)).off + 2, none⟩ = some (.int .i64 ((rd_T26 t113 (t101.length : Int)).f2)) ∧ w'.cell? ⟨(ad118.add (t101.length * 6)).block, (ad118.add (t101.length * 6)).off + 3, none⟩ = some (.int .i64 ((rd_T26 t113 (t101.length : Int)).f3)) ∧ w'.cell? ⟨(ad118.add (t101.length * 6)).block, (ad118.add (t101.length * 6)).off + 4, none⟩ = some (.int .i64 ((rd_T26 t113 (t101.length : Int)).f4)) ∧ w'.cell? ⟨(ad118.add (t101.length * 6)).block, (ad118.add (t101.length * 6)).off + 5, none⟩ = some (.int .i64 ((rd_T26 t113 (t101.length : Int)).f5))) (ds := []) #[false, false, false, false, false, false, false, false, false, false, false, false, false, false, false, false, false, false, false, false, false, false, false, false] (by kernel_rfl) rfl rfl ⟨(blk_cell BK112.out 0).trans rfl, (blk_cell BK112.out 1).trans rfl, (blk_cell BK112.out 2).trans rfl, (blk_cell BK112.out 3).trans rfl, (blk_cell BK112.out 4).trans rfl, (blk_cell BK112.out 5).trans rfl, hx118_0, hx118_1, hx118_2, hx118_3, hx118_4, hx118_5⟩ (fun hHeld => ?_); refine with_tabW customslaw30_LedgerFold.tab6 customslaw30_LedgerFold.bits6 (fun HT_ HW_ => ?_)
        generalize w15.drew = w25 at HO103 HO115 BK112 HI104 HB HR122 hx118_0 hx118_1 hx118_2 hx118_3 hx118_4 hx118_5 hHeld ⊢
        refine pure_ (i := 0) (N := some 35) (v := ?_) (a' := ?_) #[true, false, false, false, false, false, false, false, false, false, false, false, false, false, false, false, false, false, false, false, false, false, false, false] rfl rfl (any_of HT_.out (by kernel_rfl)) (fun _ _ _ h => h) (Or.inl ⟨by rfl, ?_⟩) ?_ ?_
        rotate_left
        ·intro w'
         go_simp
         with_reducible rfl
        rotate_left
        ·simp only [Act.put, List.setIfInBounds_toArray, List.set_cons_zero, List.set_cons_succ, i64_w, i32_w]
         rfl
        refine pure_ (i := 1) (N := some 36) (v := ?_) (a' := ?_) #[true, true, false, false, false, false, false, false, false, false, false, false, false, false, false, false, false, false, false, false, false, false, false, false] rfl rfl (any_of HT_.out (by kernel_rfl)) (fun _ _ _ h => h) (Or.inl ⟨by rfl, ?_⟩) ?_ ?_
        rotate_left
        ·intro w'
         go_simp
         with_reducible rfl
        rotate_left
        ·simp only [Act.put, List.setIfInBounds_toArray, List.set_cons_zero, List.set_cons_succ, i64_w, i32_w]
         rfl
        refine pure_ (i := 2) (N := some 37) (v := ?_) (a' := ?_) #[true, true, true, false, false, false, false, false, false, false, false, false, false, false, false, false, false, false, false, false, false, false, false, false] rfl rfl (any_of HT_.out (by kernel_rfl)) (fun _ _ _ h => h) (Or.inl ⟨by rfl, ?_⟩) ?_ ?_
        rotate_left
        ·intro w'
         go_simp
         with_reducible rfl
        rotate_left
        ·simp only [Act.put, List.setIfInBounds_toArray, List.set_cons_zero, List.set_cons_succ, i64_w, i32_w]
         rfl
        refine pure_ (i := 3) (N := some 38) (v := ?_) (a' := ?_) #[true, true, true, true, false, false, false, false, false, false, false, false, false, false, false, false, false, false, false, false, false, false, false, false] rfl rfl (any_of HT_.out (by kernel_rfl)) (fun _ _ _ h => h) (Or.inl ⟨by rfl, ?_⟩) ?_ ?_
        rotate_left
        ·intro w'
         go_simp
         with_reducible rfl
        rotate_left
        ·simp only [Act.put, List.setIfInBounds_toArray, List.set_cons_zero, List.set_cons_succ, i64_w, i32_w]
         rfl
        refine pure_ (i := 4) (N := some 39) (v := ?_) (a' := ?_) #[true, true, true, true, true, false, false, false, false, false, false, false, false, false, false, false, false, false, false, false, false, false, false, false] rfl rfl (any_of HT_.out (by kernel_rfl)) (fun _ _ _ h => h) (Or.inl ⟨by rfl, ?_⟩) ?_ ?_
        rotate_left
        ·intro w'
         go_simp
         with_reducible rfl
        rotate_left
        ·simp only [Act.put, List.setIfInBounds_toArray, List.set_cons_zero, List.set_cons_succ, i64_w, i32_w]
         rfl
        refine pure_ (i := 5) (N := some 40) (v := ?_) (a' := ?_) #[true, true, true, true, true, true, false, false, false, false, false, false, false, false, false, false, false, false, false, false, false, false, false, false] rfl rfl (any_of HT_.out (by kernel_rfl)) (fun _ _ _ h => h) (Or.inl ⟨by rfl, ?_⟩) ?_ ?_
        rotate_left
        ·intro w'
         go_simp
         with_reducible rfl
        rotate_left
        ·simp only [Act.put, List.setIfInBounds_toArray, List.set_cons_zero, List.set_cons_succ, i64_w, i32_w]
         rfl
        refine pure_ (i := 6) (N := some 41) (v := ?_) (a' := ?_) #[true, true, true, true, true, true, true, false, false, false, false, false, false, false, false, false, false, false, false, false, false, false, false, false] rfl rfl (any_of HT_.out (by kernel_rfl)) (fun _ _ _ h => h) (Or.inl ⟨by rfl, ?_⟩) ?_ ?_
        rotate_left
        ·intro w'
         go_simp
         with_reducible rfl
        rotate_left
        ·simp only [Act.put, List.setIfInBounds_toArray, List.set_cons_zero, List.set_cons_succ, i64_w, i32_w]
         rfl
        refine pure_ (i := 7) (N := some 42) (v := ?_) (a' := ?_) #[true, true, true, true, true, true, true, true, false, false, false, false, false, false, false, false, false, false, false, false, false, false, false, false] rfl rfl (any_of HT_.out (by kernel_rfl)) (fun _ _ _ h => h) (Or.inl ⟨by rfl, ?_⟩) ?_ ?_
        rotate_left
        ·intro w'
         go_simp
         with_reducible rfl
        rotate_left
        ·simp only [Act.put, List.setIfInBounds_toArray, List.set_cons_zero, List.set_cons_succ, i64_w, i32_w]
         rfl
        refine pure_ (i := 8) (N := some 43) (v := ?_) (a' := ?_) #[true, true, true, true, true, true, true, true, true, false, false, false, false, false, false, false, false, false, false, false, false, false, false, false] rfl rfl (any_of HT_.out (by kernel_rfl)) (fun _ _ _ h => h) (Or.inl ⟨by rfl, ?_⟩) ?_ ?_
        rotate_left
        ·intro w'
         go_simp
         with_reducible rfl
        rotate_left
        ·simp only [Act.put, List.setIfInBounds_toArray, List.set_cons_zero, List.set_cons_succ, i64_w, i32_w]
         rfl
        refine pure_ (i := 9) (N := some 44) (v := ?_) (a' := ?_) #[true, true, true, true, true, true, true, true, true, true, false, false, false, false, false, false, false, false, false, false, false, false, false, false] rfl rfl (any_of HT_.out (by kernel_rfl)) (fun _ _ _ h => h) (Or.inl ⟨by rfl, ?_⟩) ?_ ?_
        rotate_left
        ·intro w'
         go_simp
         with_reducible rfl
        rotate_left
        ·simp only [Act.put, List.setIfInBounds_toArray, List.set_cons_zero, List.set_cons_succ, i64_w, i32_w]
         rfl
        refine pure_ (i := 10) (N := some 45) (v := ?_) (a' := ?_) #[true, true, true, true, true, true, true, true, true, true, true, false, false, false, false, false, false, false, false, false, false, false, false, false] rfl rfl (any_of HT_.out (by kernel_rfl)) (fun _ _ _ h => h) (Or.inl ⟨by rfl, ?_⟩) ?_ ?_
        rotate_left
        ·intro w'
         go_simp
         with_reducible rfl
        rotate_left
        ·simp only [Act.put, List.setIfInBounds_toArray, List.set_cons_zero, List.set_cons_succ, i64_w, i32_w]
         rfl
        refine take_ (i := 11) (N := some 46) (v := ?_) (a' := ?_) #[true, true, true, true, true, true, true, true, true, true, true, true, false, false, false, false, false, false, false, false, false, false, false, false] rfl rfl (take_ofW HT_.out HW_.out (by kernel_rfl)) (fun _ _ _ h => h) (Or.inl ⟨by rfl, ?_⟩) hHeld ?_ ?_
        rotate_left
        ·rintro w' ⟨s0, s1, s2, s3, s4, s5, s6, s7, s8, s9, s10, s11⟩
         go_simp
         with_reducible rfl
        rotate_left
        ·simp only [Act.put, List.setIfInBounds_toArray, List.set_cons_zero, List.set_cons_succ, i64_w, i32_w]
         rfl
        refine take_ (i := 12) (N := some 47) (v := ?_) (a' := ?_) #[true, true, true, true, true, true, true, true, true, true, true, true, true, false, false, false, false, false, false, false, false, false, false, false] rfl rfl (take_ofW HT_.out HW_.out (by kernel_rfl)) (fun _ _ _ h => h) (Or.inl ⟨by rfl, ?_⟩) hHeld ?_ ?_
        rotate_left
        ·rintro w' ⟨s0, s1, s2, s3, s4, s5, s6, s7, s8, s9, s10, s11⟩
         go_simp
         with_reducible rfl
        rotate_left
        ·simp only [Act.put, List.setIfInBounds_toArray, List.set_cons_zero, List.set_cons_succ, i64_w, i32_w]
         rfl
        refine pure_ (i := 13) (N := some 48) (v := ?_) (a' := ?_) #[true, true, true, true, true, true, true, true, true, true, true, true, true, true, false, false, false, false, false, false, false, false, false, false] rfl rfl (any_of HT_.out (by kernel_rfl)) (fun _ _ _ h => h) (Or.inl ⟨by rfl, ?_⟩) ?_ ?_
        rotate_left
        ·intro w'
         go_simp
         with_reducible rfl
        rotate_left
        ·simp only [Act.put, List.setIfInBounds_toArray, List.set_cons_zero, List.set_cons_succ, i64_w, i32_w]
         rfl
        refine pure_ (i := 14) (N := some 49) (v := ?_) (a' := ?_) #[true, true, true, true, true, true, true, true, true, true, true, true, true, true, true, false, false, false, false, false, false, false, false, false] rfl rfl (any_of HT_.out (by kernel_rfl)) (fun _ _ _ h => h) (Or.inl ⟨by rfl, ?_⟩) ?_ ?_
        rotate_left
        ·intro w'
         go_simp
         with_reducible rfl
        rotate_left
        ·simp only [Act.put, List.setIfInBounds_toArray, List.set_cons_zero, List.set_cons_succ, i64_w, i32_w]
         rfl
        refine pure_ (i := 15) (N := some 50) (v := ?_) (a' := ?_) #[true, true, true, true, true, true, true, true, true, true, true, true, true, true, true, true, false, false, false, false, false, false, false, false] rfl rfl (any_of HT_.out (by kernel_rfl)) (fun _ _ _ h => h) (Or.inl ⟨by rfl, ?_⟩) ?_ ?_
        rotate_left
        ·intro w'
         go_simp
         with_reducible rfl
        rotate_left
        ·simp only [Act.put, List.setIfInBounds_toArray, List.set_cons_zero, List.set_cons_succ, i64_w, i32_w]
         rfl
        refine pure_ (i := 16) (N := some 51) (v := ?_) (a' := ?_) #[true, true, true, true, true, true, true, true, true, true, true, true, true, true, true, true, true, false, false, false, false, false, false, false] rfl rfl (any_of HT_.out (by kernel_rfl)) (fun _ _ _ h => h) (Or.inl ⟨by rfl, ?_⟩) ?_ ?_
        rotate_left
        ·intro w'
         go_simp
         with_reducible rfl
        rotate_left
        ·simp only [Act.put, List.setIfInBounds_toArray, List.set_cons_zero, List.set_cons_succ, i64_w, i32_w]
         rfl
        refine pure_ (i := 17) (N := some 52) (v := ?_) (a' := ?_) #[true, true, true, true, true, true, true, true, true, true, true, true, true, true, true, true, true, true, false, false, false, false, false, false] rfl rfl (any_of HT_.out (by kernel_rfl)) (fun _ _ _ h => h) (Or.inl ⟨by rfl, ?_⟩) ?_ ?_
        rotate_left
        ·intro w'
         go_simp
         with_reducible rfl
        rotate_left
        ·simp only [Act.put, List.setIfInBounds_toArray, List.set_cons_zero, List.set_cons_succ, i64_w, i32_w]
         rfl
        refine pure_ (i := 18) (N := some 53) (v := ?_) (a' := ?_) #[true, true, true, true, true, true, true, true, true, true, true, true, true, true, true, true, true, true, true, false, false, false, false, false] rfl rfl (any_of HT_.out (by kernel_rfl)) (fun _ _ _ h => h) (Or.inl ⟨by rfl, ?_⟩) ?_ ?_
        rotate_left
        ·intro w'
         go_simp
         with_reducible rfl
        rotate_left
        ·simp only [Act.put, List.setIfInBounds_toArray, List.set_cons_zero, List.set_cons_succ, i64_w, i32_w]
         rfl
        refine pure_ (i := 19) (N := some 54) (v := ?_) (a' := ?_) #[true, true, true, true, true, true, true, true, true, true, true, true, true, true, true, true, true, true, true, true, false, false, false, false] rfl rfl (any_of HT_.out (by kernel_rfl)) (fun _ _ _ h => h) (Or.inl ⟨by rfl, ?_⟩) ?_ ?_
        rotate_left
        ·intro w'
         go_simp
         with_reducible rfl
        rotate_left
        ·simp only [Act.put, List.setIfInBounds_toArray, List.set_cons_zero, List.set_cons_succ, i64_w, i32_w]
         rfl
        refine pure_ (i := 20) (N := some 55) (v := ?_) (a' := ?_) #[true, true, true, true, true, true, true, true, true, true, true, true, true, true, true, true, true, true, true, true, true, false, false, false] rfl rfl (any_of HT_.out (by kernel_rfl)) (fun _ _ _ h => h) (Or.inl ⟨by rfl, ?_⟩) ?_ ?_
        rotate_left
        ·intro w'
         go_simp
         with_reducible rfl
        rotate_left
        ·simp only [Act.put, List.setIfInBounds_toArray, List.set_cons_zero, List.set_cons_succ, i64_w, i32_w]
         rfl
        refine one_ (i := 21) (N := some 56) #[true, true, true, true, true, true, true, true, true, true, true, true, true, true, true, true, true, true, true, true, true, true, false, false] rfl rfl (one_of HT_.out (by kernel_rfl)) (by decide) (fun K hK => ?_)
        refine goes_ Try.func13 (by kernel_rfl) rfl #[.slice (some ad118) y119.length co26, .slice Ao10 t101.length co10] (by rfl) rfl rfl argx ?_
        with_reducible refine (customsref27_SameLedger.calls k _ _ y119 _ _ t101 t123 _ ?side1 ?side2 ?side3 ?side4 A24.out).mono ?_
        (case side1 => repeat (first | exact (by repeat (first | (with_reducible exact HR122.out) | (with_reducible refine Kd.C_alloc ?_ _) | (with_reducible refine Kd.C_drewN ?_ _) | (with_reducible refine Kd.C_drew ?_) | exact HR122.out)) | (with_reducible refine Kd.C_alloc ?_ _) | (with_reducible refine Kd.C_drewN ?_ _) | (with_reducible refine Kd.C_drew ?_)))
        (case side2 => exact HC122.out)
        (case side3 => repeat (first | exact (Kd.R_reads' HO103.out).2.2 | (with_reducible refine Kd.C_alloc ?_ _) | (with_reducible refine Kd.C_drewN ?_ _) | (with_reducible refine Kd.C_drew ?_)))
        (case side4 => exact (Kd.R_reads' HO103.out).2.1)
        rintro e w' ⟨rfl, ⟨nd, rfl⟩⟩
        refine ⟨_, rfl, ?_⟩
        refine hK.out _ _ ⟨(blk_cell BK112.out 0).trans rfl, (blk_cell BK112.out 1).trans rfl, (blk_cell BK112.out 2).trans rfl, (blk_cell BK112.out 3).trans rfl, (blk_cell BK112.out 4).trans rfl, (blk_cell BK112.out 5).trans rfl, hHeld.2.2.2.2.2.2.1, hHeld.2.2.2.2.2.2.2.1, hHeld.2.2.2.2.2.2.2.2.1, hHeld.2.2.2.2.2.2.2.2.2.1, hHeld.2.2.2.2.2.2.2.2.2.2.1, hHeld.2.2.2.2.2.2.2.2.2.2.2⟩ (fun hHeld => ?_)
        clear hK K
        refine norm_ (a' := ?_) ?_ ?_
        rotate_left
        ·show Act.put _ (some 56) _ = _
         simp only [Act.put, List.setIfInBounds_toArray, List.set_cons_zero, List.set_cons_succ, i64_w, i32_w]
         rfl
        refine pure_ (i := 22) (N := some 57) (v := ?_) (a' := ?_) #[true, true, true, true, true, true, true, true, true, true, true, true, true, true, true, true, true, true, true, true, true, true, true, false] rfl rfl (any_of HT_.out (by kernel_rfl)) (fun _ _ _ h => h) (Or.inl ⟨by rfl, ?_⟩) ?_ ?_
        rotate_left
        ·intro w'
         go_simp
         with_reducible rfl
        rotate_left
        ·simp only [Act.put, List.setIfInBounds_toArray, List.set_cons_zero, List.set_cons_succ, i64_w, i32_w]
         rfl
        refine pure_ (i := 23) (N := some 58) (v := ?_) (a' := ?_) #[true, true, true, true, true, true, true, true, true, true, true, true, true, true, true, true, true, true, true, true, true, true, true, true] rfl rfl (any_of HT_.out (by kernel_rfl)) (fun _ _ _ h => h) (Or.inl ⟨by rfl, ?_⟩) ?_ ?_
        rotate_left
        ·intro w'
         go_simp
         with_reducible rfl
        rotate_left
        ·simp only [Act.put, List.setIfInBounds_toArray, List.set_cons_zero, List.set_cons_succ, i64_w, i32_w]
         rfl
        refine done_ (done_of HT_.out (by kernel_rfl)) ?_
        try go_wp2
        go_meet
        case rel => exact ⟨_, (!t123), zPA11, H', ⟨by first | omega | exact Nat.le_refl _⟩, ⟨by (with_reducible repeat (first | apply Kd.R_alloc | apply Kd.R_drewN | apply Kd.R_drew)); exact Kd.R_mono HO103.out (fun _ hk => ⟨hk.2, hk.1.2⟩)⟩, ⟨by (with_reducible repeat (first | apply Kd.R_alloc | apply Kd.R_drewN | apply Kd.R_drew)); exact Kd.R_mono HO115.out (fun _ hk => ⟨hk.1.2, hk.2⟩)⟩, ⟨by (with_reducible repeat (first | refine blk_drewN ?_ _ | refine blk_drew ?_ | refine blk_alloc ?_ _)); exact BK112.out⟩, ⟨by repeat (first | (with_reducible first | exact HB.out | apply below_alloc | apply pw_below_drewN | apply below_drew1 | refine below_set ?_ (IsS30.ge HI104.out) | refine below_set ?_ GE112.out) | exact HB.out)⟩⟩
       ·rw [if_neg c23] at H
        exact absurd H (by simp)
     ·rw [if_neg c18] at H
      exact absurd H (by simp)
    ·rw [if_neg c17] at H
     exact absurd H (by simp)
   ·rw [if_neg c16] at H
    have c16b0 : ((t113.length : Int) == (wrap64 ((t101.length : Int) + 1))) = false := beq_eq_false_iff_ne.mpr c16; have c16b1 : ((t113.length : Int) != (wrap64 ((t101.length : Int) + 1))) = true := bne_iff_ne.mpr c16
    (first | rw [c16b0] | (simp only [i64_w, i32_w]; rw [c16b0]) | skip)
    have H' := Aside0.mk H; clear H
    try go_wp2
    have n0_ := Aside0.mk (Kd.R_drew HO103.out); have n1_ := Aside0.mk (Kd.R_drew HO115.out); have n2_ := Aside0.mk (blk_drew BK112.out); have n3_ := Aside0.mk (IsS30.drew HI104.out); have n4_ := Aside0.mk (below_drew1 HB.out); clear HO103; clear HO115; clear BK112; clear HI104; clear HB; have HO103 := n0_; have HO115 := n1_; have BK112 := n2_; have HI104 := n3_; have HB := n4_; clear n0_ n1_ n2_ n3_ n4_; obtain ⟨Ao29, co29, eo29⟩ := Kd.R_slice HO115.out
    (first | subst eo29 | (injection eo29 with f1_ f2_ f3_; have f4_ := f1_.symm; have f5_ := f3_.symm; clear f1_ f2_ f3_; subst f4_; subst f5_))
    refine start_ (n := 24) (S := fun w' => True) (ds := []) #[false, false, false, false, false, false, false, false, false, false, false, false, false, false, false, false, false, false, false, false, false, false, false, false] (by kernel_rfl) rfl rfl trivial (fun hHeld => ?_); refine with_tabW customslaw30_LedgerFold.tab6 customslaw30_LedgerFold.bits6 (fun HT_ HW_ => ?_)
    generalize w15.drew = w28 at HO103 HO115 BK112 HI104 HB hHeld ⊢
    refine pure_ (i := 0) (N := some 35) (v := ?_) (a' := ?_) #[true, false, false, false, false, false, false, false, false, false, false, false, false, false, false, false, false, false, false, false, false, false, false, false] rfl rfl (any_of HT_.out (by kernel_rfl)) (fun _ _ _ h => h) (Or.inl ⟨by rfl, ?_⟩) ?_ ?_
    rotate_left
    ·intro w'
     go_simp
     with_reducible rfl
    rotate_left
    ·simp only [Act.put, List.setIfInBounds_toArray, List.set_cons_zero, List.set_cons_succ, i64_w, i32_w]
     rfl
    refine pure_ (i := 1) (N := some 36) (v := ?_) (a' := ?_) #[true, true, false, false, false, false, false, false, false, false, false, false, false, false, false, false, false, false, false, false, false, false, false, false] rfl rfl (any_of HT_.out (by kernel_rfl)) (fun _ _ _ h => h) (Or.inl ⟨by rfl, ?_⟩) ?_ ?_
    rotate_left
    ·intro w'
     go_simp
     with_reducible rfl
    rotate_left
    ·simp only [Act.put, List.setIfInBounds_toArray, List.set_cons_zero, List.set_cons_succ, i64_w, i32_w]
     rfl
    refine pure_ (i := 2) (N := some 37) (v := ?_) (a' := ?_) #[true, true, true, false, false, false, false, false, false, false, false, false, false, false, false, false, false, false, false, false, false, false, false, false] rfl rfl (any_of HT_.out (by kernel_rfl)) (fun _ _ _ h => h) (Or.inl ⟨by rfl, ?_⟩) ?_ ?_
    rotate_left
    ·intro w'
     go_simp
     with_reducible rfl
    rotate_left
    ·simp only [Act.put, List.setIfInBounds_toArray, List.set_cons_zero, List.set_cons_succ, i64_w, i32_w]
     rfl
    refine pure_ (i := 3) (N := some 38) (v := ?_) (a' := ?_) #[true, true, true, true, false, false, false, false, false, false, false, false, false, false, false, false, false, false, false, false, false, false, false, false] rfl rfl (any_of HT_.out (by kernel_rfl)) (fun _ _ _ h => h) (Or.inl ⟨by rfl, ?_⟩) ?_ ?_
    rotate_left
    ·intro w'
     go_simp
     with_reducible rfl
    rotate_left
    ·simp only [Act.put, List.setIfInBounds_toArray, List.set_cons_zero, List.set_cons_succ, i64_w, i32_w]
     rfl
    refine pure_ (i := 4) (N := some 39) (v := ?_) (a' := ?_) #[true, true, true, true, true, false, false, false, false, false, false, false, false, false, false, false, false, false, false, false, false, false, false, false] rfl rfl (any_of HT_.out (by kernel_rfl)) (fun _ _ _ h => h) (Or.inl ⟨by rfl, ?_⟩) ?_ ?_
    rotate_left
    ·intro w'
     go_simp
     with_reducible rfl
    rotate_left
    ·simp only [Act.put, List.setIfInBounds_toArray, List.set_cons_zero, List.set_cons_succ, i64_w, i32_w]
     rfl
    refine pure_ (i := 5) (N := some 40) (v := ?_) (a' := ?_) #[true, true, true, true, true, true, false, false, false, false, false, false, false, false, false, false, false, false, false, false, false, false, false, false] rfl rfl (any_of HT_.out (by kernel_rfl)) (fun _ _ _ h => h) (Or.inl ⟨by rfl, ?_⟩) ?_ ?_
    rotate_left
    ·intro w'
     go_simp
     with_reducible rfl
    rotate_left
    ·simp only [Act.put, List.setIfInBounds_toArray, List.set_cons_zero, List.set_cons_succ, i64_w, i32_w]
     rfl
    refine pure_ (i := 6) (N := some 41) (v := ?_) (a' := ?_) #[true, true, true, true, true, true, true, false, false, false, false, false, false, false, false, false, false, false, false, false, false, false, false, false] rfl rfl (any_of HT_.out (by kernel_rfl)) (fun _ _ _ h => h) (Or.inl ⟨by rfl, ?_⟩) ?_ ?_
    rotate_left
    ·intro w'
     go_simp
     with_reducible rfl
    rotate_left
    ·simp only [Act.put, List.setIfInBounds_toArray, List.set_cons_zero, List.set_cons_succ, i64_w, i32_w]
     rfl
    refine pure_ (i := 7) (N := some 42) (v := undef) (a' := ?_) #[true, true, true, true, true, true, true, true, false, false, false, false, false, false, false, false, false, false, false, false, false, false, false, false] rfl rfl (any_of HT_.out (by kernel_rfl)) (fun _ _ _ h => h) (Or.inr ⟨by rfl, rfl⟩) ?_ ?_
    rotate_left
    ·simp only [Act.put, List.setIfInBounds_toArray, List.set_cons_zero, List.set_cons_succ, i64_w, i32_w]
     rfl
    refine pure_ (i := 8) (N := some 43) (v := undef) (a' := ?_) #[true, true, true, true, true, true, true, true, true, false, false, false, false, false, false, false, false, false, false, false, false, false, false, false] rfl rfl (any_of HT_.out (by kernel_rfl)) (fun _ _ _ h => h) (Or.inr ⟨by rfl, rfl⟩) ?_ ?_
    rotate_left
    ·simp only [Act.put, List.setIfInBounds_toArray, List.set_cons_zero, List.set_cons_succ, i64_w, i32_w]
     rfl
    refine pure_ (i := 9) (N := some 44) (v := undef) (a' := ?_) #[true, true, true, true, true, true, true, true, true, true, false, false, false, false, false, false, false, false, false, false, false, false, false, false] rfl rfl (any_of HT_.out (by kernel_rfl)) (fun _ _ _ h => h) (Or.inr ⟨by rfl, rfl⟩) ?_ ?_
    rotate_left
    ·simp only [Act.put, List.setIfInBounds_toArray, List.set_cons_zero, List.set_cons_succ, i64_w, i32_w]
     rfl
    refine pure_ (i := 10) (N := some 45) (v := undef) (a' := ?_) #[true, true, true, true, true, true, true, true, true, true, true, false, false, false, false, false, false, false, false, false, false, false, false, false] rfl rfl (any_of HT_.out (by kernel_rfl)) (fun _ _ _ h => h) (Or.inr ⟨by rfl, rfl⟩) ?_ ?_
    rotate_left
    ·simp only [Act.put, List.setIfInBounds_toArray, List.set_cons_zero, List.set_cons_succ, i64_w, i32_w]
     rfl
    refine pure_ (i := 11) (N := some 46) (v := undef) (a' := ?_) #[true, true, true, true, true, true, true, true, true, true, true, true, false, false, false, false, false, false, false, false, false, false, false, false] rfl rfl (any_of HT_.out (by kernel_rfl)) (fun _ _ _ h => h) (Or.inr ⟨by rfl, rfl⟩) ?_ ?_
    rotate_left
    ·simp only [Act.put, List.setIfInBounds_toArray, List.set_cons_zero, List.set_cons_succ, i64_w, i32_w]
     rfl
    refine pure_ (i := 12) (N := some 47) (v := undef) (a' := ?_) #[true, true, true, true, true, true, true, true, true, true, true, true, true, false, false, false, false, false, false, false, false, false, false, false] rfl rfl (any_of HT_.out (by kernel_rfl)) (fun _ _ _ h => h) (Or.inr ⟨by rfl, rfl⟩) ?_ ?_
    rotate_left
    ·simp only [Act.put, List.setIfInBounds_toArray, List.set_cons_zero, List.set_cons_succ, i64_w, i32_w]
     rfl
    refine pure_ (i := 13) (N := some 48) (v := undef) (a' := ?_) #[true, true, true, true, true, true, true, true, true, true, true, true, true, true, false, false, false, false, false, false, false, false, false, false] rfl rfl (any_of HT_.out (by kernel_rfl)) (fun _ _ _ h => h) (Or.inr ⟨by rfl, rfl⟩) ?_ ?_
    rotate_left
    ·simp only [Act.put, List.setIfInBounds_toArray, List.set_cons_zero, List.set_cons_succ, i64_w, i32_w]
     rfl
    refine pure_ (i := 14) (N := some 49) (v := ?_) (a' := ?_) #[true, true, true, true, true, true, true, true, true, true, true, true, true, true, true, false, false, false, false, false, false, false, false, false] rfl rfl (any_of HT_.out (by kernel_rfl)) (fun _ _ _ h => h) (Or.inl ⟨by rfl, ?_⟩) ?_ ?_
    rotate_left
    ·intro w'
     go_simp
     with_reducible rfl
    rotate_left
    ·simp only [Act.put, List.setIfInBounds_toArray, List.set_cons_zero, List.set_cons_succ, i64_w, i32_w]
     rfl
    refine pure_ (i := 15) (N := some 50) (v := ?_) (a' := ?_) #[true, true, true, true, true, true, true, true, true, true, true, true, true, true, true, true, false, false, false, false, false, false, false, false] rfl rfl (any_of HT_.out (by kernel_rfl)) (fun _ _ _ h => h) (Or.inl ⟨by rfl, ?_⟩) ?_ ?_
    rotate_left
    ·intro w'
     go_simp
     with_reducible rfl
    rotate_left
    ·simp only [Act.put, List.setIfInBounds_toArray, List.set_cons_zero, List.set_cons_succ, i64_w, i32_w]
     rfl
    refine pure_ (i := 16) (N := some 51) (v := undef) (a' := ?_) #[true, true, true, true, true, true, true, true, true, true, true, true, true, true, true, true, true, false, false, false, false, false, false, false] rfl rfl (any_of HT_.out (by kernel_rfl)) (fun _ _ _ h => h) (Or.inr ⟨by rfl, rfl⟩) ?_ ?_
    rotate_left
    ·simp only [Act.put, List.setIfInBounds_toArray, List.set_cons_zero, List.set_cons_succ, i64_w, i32_w]
     rfl
    refine pure_ (i := 17) (N := some 52) (v := undef) (a' := ?_) #[true, true, true, true, true, true, true, true, true, true, true, true, true, true, true, true, true, true, false, false, false, false, false, false] rfl rfl (any_of HT_.out (by kernel_rfl)) (fun _ _ _ h => h) (Or.inr ⟨by rfl, rfl⟩) ?_ ?_
    rotate_left
    ·simp only [Act.put, List.setIfInBounds_toArray, List.set_cons_zero, List.set_cons_succ, i64_w, i32_w]
     rfl
    refine pure_ (i := 18) (N := some 53) (v := undef) (a' := ?_) #[true, true, true, true, true, true, true, true, true, true, true, true, true, true, true, true, true, true, true, false, false, false, false, false] rfl rfl (any_of HT_.out (by kernel_rfl)) (fun _ _ _ h => h) (Or.inr ⟨by rfl, rfl⟩) ?_ ?_
    rotate_left
    ·simp only [Act.put, List.setIfInBounds_toArray, List.set_cons_zero, List.set_cons_succ, i64_w, i32_w]
     rfl
    refine pure_ (i := 19) (N := some 54) (v := undef) (a' := ?_) #[true, true, true, true, true, true, true, true, true, true, true, true, true, true, true, true, true, true, true, true, false, false, false, false] rfl rfl (any_of HT_.out (by kernel_rfl)) (fun _ _ _ h => h) (Or.inr ⟨by rfl, rfl⟩) ?_ ?_
    rotate_left
    ·simp only [Act.put, List.setIfInBounds_toArray, List.set_cons_zero, List.set_cons_succ, i64_w, i32_w]
     rfl
    refine pure_ (i := 20) (N := some 55) (v := undef) (a' := ?_) #[true, true, true, true, true, true, true, true, true, true, true, true, true, true, true, true, true, true, true, true, true, false, false, false] rfl rfl (any_of HT_.out (by kernel_rfl)) (fun _ _ _ h => h) (Or.inr ⟨by rfl, rfl⟩) ?_ ?_
    rotate_left
    ·simp only [Act.put, List.setIfInBounds_toArray, List.set_cons_zero, List.set_cons_succ, i64_w, i32_w]
     rfl
    refine pure_ (i := 21) (N := some 56) (v := undef) (a' := ?_) #[true, true, true, true, true, true, true, true, true, true, true, true, true, true, true, true, true, true, true, true, true, true, false, false] rfl rfl (any_of HT_.out (by kernel_rfl)) (fun _ _ _ h => h) (Or.inr ⟨by rfl, rfl⟩) ?_ ?_
    rotate_left
    ·simp only [Act.put, List.setIfInBounds_toArray, List.set_cons_zero, List.set_cons_succ, i64_w, i32_w]
     rfl
    refine pure_ (i := 22) (N := some 57) (v := undef) (a' := ?_) #[true, true, true, true, true, true, true, true, true, true, true, true, true, true, true, true, true, true, true, true, true, true, true, false] rfl rfl (any_of HT_.out (by kernel_rfl)) (fun _ _ _ h => h) (Or.inr ⟨by rfl, rfl⟩) ?_ ?_
    rotate_left
    ·simp only [Act.put, List.setIfInBounds_toArray, List.set_cons_zero, List.set_cons_succ, i64_w, i32_w]
     rfl
    refine pure_ (i := 23) (N := some 58) (v := ?_) (a' := ?_) #[true, true, true, true, true, true, true, true, true, true, true, true, true, true, true, true, true, true, true, true, true, true, true, true] rfl rfl (any_of HT_.out (by kernel_rfl)) (fun _ _ _ h => h) (Or.inl ⟨by rfl, ?_⟩) ?_ ?_
    rotate_left
    ·intro w'
     go_simp
     with_reducible rfl
    rotate_left
    ·simp only [Act.put, List.setIfInBounds_toArray, List.set_cons_zero, List.set_cons_succ, i64_w, i32_w]
     rfl
    refine done_ (done_of HT_.out (by kernel_rfl)) ?_
    try go_wp2
    go_meet
    case rel => exact ⟨_, (true), zPA11, H', ⟨by first | omega | exact Nat.le_refl _⟩, ⟨by (with_reducible repeat (first | apply Kd.R_alloc | apply Kd.R_drewN | apply Kd.R_drew)); exact Kd.R_mono HO103.out (fun _ hk => ⟨hk.2, hk.1.2⟩)⟩, ⟨by (with_reducible repeat (first | apply Kd.R_alloc | apply Kd.R_drewN | apply Kd.R_drew)); exact Kd.R_mono HO115.out (fun _ hk => ⟨hk.1.2, hk.2⟩)⟩, ⟨by (with_reducible repeat (first | refine blk_drewN ?_ _ | refine blk_drew ?_ | refine blk_alloc ?_ _)); exact BK112.out⟩, ⟨by repeat (first | (with_reducible first | exact HB.out | apply below_alloc | apply pw_below_drewN | apply below_drew1 | refine below_set ?_ (IsS30.ge HI104.out) | refine below_set ?_ GE112.out) | exact HB.out)⟩⟩
  case rest =>
   clear HC7
   try clear c1
   try clear p1
   try clear q1
   try clear hx1
   try clear c2
   try clear p2
   try clear q2
   try clear p6
   try clear p11
   try clear q11
   try clear hx11
   try clear c13
   try clear c16
   try clear c16b0
   try clear c16b1
   try clear c17
   try clear c18
   try clear c19
   try clear c19b0
   try clear c22
   try clear c22b0
   try clear c23
   try clear c23b0
   try clear c23b1
   try clear q27
   try clear hx118_0
   try clear hx118_1
   try clear hx118_2
   try clear hx118_3
   try clear hx118_4
   try clear hx118_5
   try clear p118
   try clear q118
   try clear q27
   obtain ⟨kq, x58_6, rfl, HA, HJ6, HO_5, HO_7, BK112, HB⟩ := hcut
   cases kq with
   | zero => exact absurd HA.out (by simp [customslaw30_LedgerFold.j0])
   | succ kj6 =>
    have H := HA.out; clear HA
    simp only [customslaw30_LedgerFold.j0] at H
    by_cases c30 : x58_6 = true
    ·subst c30
     have H1 : (some false) = some true := by rw [if_pos rfl] at H; exact H
     clear H; have H := H1; clear H1
     cases H
    ·replace c30 := Bool.eq_false_iff.mpr c30
     subst c30
     have H1 : (if t107 = 9 then (if t109 < 1 then (some false) else (if t109 > (t101.length : Int) then (some false) else (if 0 ≤ (wrap64 (t109 - 1)) then (if (wrap64 (t109 - 1)) < (t101.length : Int) then (customslaw30_LedgerFold.j1 kj6 t101 t113 ((rd_T26 t101 (wrap64 (t109 - 1))).f2) (wrap64 (-((rd_T26 t101 (wrap64 (t109 - 1))).f4))) t105 t106 t107 t108 t109 t110) else (none)) else (none)))) else (customslaw30_LedgerFold.j1 kj6 t101 t113 t107 t109 t105 t106 t107 t108 t109 t110)) = some true := by rw [if_neg (show ¬ (false = true) by decide)] at H; exact H
     clear H; have H := H1; clear H1; have HC31 := Aside0.mk H; clear H
     try go_wp2
     have n0_ := Aside0.mk (Kd.R_drew HO_5.out); have n1_ := Aside0.mk (Kd.R_drew HO_7.out); have n2_ := Aside0.mk (blk_drew BK112.out); have n3_ := Aside0.mk (below_drew1 HB.out); clear HO_5; clear HO_7; clear BK112; clear HB; have HO_5 := n0_; have HO_7 := n1_; have BK112 := n2_; have HB := n3_; clear n0_ n1_ n2_ n3_
     refine start_ (n := 6) (S := fun w' => w'.cell? ⟨gb112, 0, none⟩ = some (.int .i64 t105) ∧ w'.cell? ⟨gb112, 1, none⟩ = some (.int .i64 t106) ∧ w'.cell? ⟨gb112, 2, none⟩ = some (.int .i64 t107) ∧ w'.cell? ⟨gb112, 3, none⟩ = some (.int .i64 t108) ∧ w'.cell? ⟨gb112, 4, none⟩ = some (.int .i64 t109) ∧ w'.cell? ⟨gb112, 5, none⟩ = some (.int .i64 t110)) (ds := []) #[false, false, false, false, false, false] (by kernel_rfl) rfl rfl ⟨(blk_cell BK112.out 0).trans rfl, (blk_cell BK112.out 1).trans rfl, (blk_cell BK112.out 2).trans rfl, (blk_cell BK112.out 3).trans rfl, (blk_cell BK112.out 4).trans rfl, (blk_cell BK112.out 5).trans rfl⟩ (fun hHeld => ?_)
     generalize wc.drew = w32 at HO_5 HO_7 BK112 HB hHeld ⊢
     refine pure_ (i := 0) (N := some 59) (v := ?_) (a' := ?_) #[true, false, false, false, false, false] rfl rfl (by kernel_rfl) (fun _ _ _ h => h) (Or.inl ⟨by rfl, ?_⟩) ?_ ?_
     rotate_left
     ·intro w'
      go_simp
      with_reducible rfl
     rotate_left
     ·simp only [Act.put, List.setIfInBounds_toArray, List.set_cons_zero, List.set_cons_succ, i64_w, i32_w]
      rfl
     refine pure_ (i := 2) (N := some 61) (v := ?_) (a' := ?_) #[true, false, true, false, false, false] rfl rfl (by kernel_rfl) (fun _ _ _ h => h) (Or.inl ⟨by rfl, ?_⟩) ?_ ?_
     rotate_left
     ·intro w'
      go_simp
      with_reducible rfl
     rotate_left
     ·simp only [Act.put, List.setIfInBounds_toArray, List.set_cons_zero, List.set_cons_succ, i64_w, i32_w]
      rfl
     refine take_ (i := 1) (N := some 60) (v := ?_) (a' := ?_) #[true, true, true, false, false, false] rfl rfl (by kernel_rfl) (fun _ _ _ h => h) (Or.inl ⟨by rfl, ?_⟩) hHeld ?_ ?_
     rotate_left
     ·rintro w' ⟨s0, s1, s2, s3, s4, s5⟩
      go_simp
      with_reducible rfl
     rotate_left
     ·simp only [Act.put, List.setIfInBounds_toArray, List.set_cons_zero, List.set_cons_succ, i64_w, i32_w]
      rfl
     refine pure_ (i := 4) (N := some 9) (v := ?_) (a' := ?_) #[true, true, true, false, true, false] rfl rfl (by kernel_rfl) (fun _ _ _ h => h) (Or.inl ⟨by rfl, ?_⟩) ?_ ?_
     rotate_left
     ·intro w'
      go_simp
      with_reducible rfl
     rotate_left
     ·simp only [Act.put, List.setIfInBounds_toArray, List.set_cons_zero, List.set_cons_succ, i64_w, i32_w]
      rfl
     refine take_ (i := 3) (N := some 62) (v := ?_) (a' := ?_) #[true, true, true, true, true, false] rfl rfl (by kernel_rfl) (fun _ _ _ h => h) (Or.inl ⟨by rfl, ?_⟩) hHeld ?_ ?_
     rotate_left
     ·rintro w' ⟨s0, s1, s2, s3, s4, s5⟩
      go_simp
      with_reducible rfl
     rotate_left
     ·simp only [Act.put, List.setIfInBounds_toArray, List.set_cons_zero, List.set_cons_succ, i64_w, i32_w]
      rfl
     refine pure_ (i := 5) (N := some 10) (v := ?_) (a' := ?_) #[true, true, true, true, true, true] rfl rfl (by kernel_rfl) (fun _ _ _ h => h) (Or.inl ⟨by rfl, ?_⟩) ?_ ?_
     rotate_left
     ·intro w'
      go_simp
      with_reducible rfl
     rotate_left
     ·simp only [Act.put, List.setIfInBounds_toArray, List.set_cons_zero, List.set_cons_succ, i64_w, i32_w]
      rfl
     refine done_ (by kernel_rfl) ?_
     go_upto_if 64 with (fail)
     go_cut [9, 10] (fun v9 v10 wc => ∃ (kq : Nat) (x9_30 : Int) (x10_30 : Int), v9 = .int .i64 x9_30 ∧ v10 = .int .i64 x10_30 ∧ Aside0 (customslaw30_LedgerFold.j1 kq t101 t113 x9_30 x10_30 t105 t106 t107 t108 t109 t110 = some true) ∧ Aside0 (kq ≤ kj6) ∧ Aside0 (Kd.R k26 26 wc w.heap.size (fun k_ => some k_ ≠ (v114 : Value).ownBlock ∧ k_ ≠ gb112) (.slice Ao10 t101.length co10) t101) ∧ Aside0 (Kd.R k26 26 wc w.heap.size (fun k_ => some k_ ≠ ((.slice Ao10 t101.length co10) : Value).ownBlock ∧ k_ ≠ gb112) v114 t113) ∧ Aside0 (wc.heap[gb112]? = some (.cells #[.int .i64 t105, .int .i64 t106, .int .i64 t107, .int .i64 t108, .int .i64 t109, .int .i64 t110] 26 (0, 0))) ∧ Aside0 (Below w.heap.size w wc))
     case first =>
      have H := HC31.out; clear HC31
      by_cases c33 : t107 = 9
      ·rw [if_pos c33] at H
       have c33b0 : (t107 == 9) = true := beq_iff_eq.mpr c33; have c33b1 : (t107 != 9) = false := bne_eq_false_iff_eq.mpr c33; clear c33
       (first | rw [c33b0] | (simp only [i64_w, i32_w]; rw [c33b0]) | skip)
       by_cases c34 : t109 < 1
       ·rw [if_pos c34] at H
        have c34b0 : decide (t109 < 1) = true := decide_eq_true c34; clear c34
        cases H
       ·rw [if_neg c34] at H
        have c34b0 : decide (t109 < 1) = false := decide_eq_false c34; clear c34
        by_cases c35 : t109 > (t101.length : Int)
        ·rw [if_pos c35] at H
         have c35b0 : decide ((t101.length : Int) < t109) = true := decide_eq_true c35; clear c35
         cases H
        ·rw [if_neg c35] at H
         have c35b0 : decide ((t101.length : Int) < t109) = false := decide_eq_false c35; clear c35; obtain ⟨ji36, hji36⟩ : ∃ j_ : Int, (wrap64 (t109 - 1)) = j_ := ⟨_, rfl⟩
         replace H : (if 0 ≤ (ji36) then (if (ji36) < (t101.length : Int) then (customslaw30_LedgerFold.j1 kj6 t101 t113 ((rd_T26 t101 (ji36)).f2) (wrap64 (-((rd_T26 t101 (ji36)).f4))) t105 t106 t107 t108 t109 t110) else (none)) else (none)) = some true := by first | (rw [hji36] at H; exact H) | (simp only [hji36] at H ⊢; exact H)
         have hji36w : (IntKind.i64.wrap (t109 - 1)) = ji36 := (i64_w _).trans hji36
         by_cases c37 : 0 ≤ (ji36)
         ·rw [if_pos c37] at H
          have c37b0 : decide (0 ≤ (ji36)) = true := decide_eq_true c37; clear c37
          by_cases c38 : (ji36) < (t101.length : Int)
          ·rw [if_pos c38] at H
           have c38b0 : decide ((ji36) < (t101.length : Int)) = true := decide_eq_true c38; clear c38; have H' := Aside0.mk H; clear H
           try go_wp2
           have n0_ := Aside0.mk (Kd.R_drew HO_5.out); have n1_ := Aside0.mk (Kd.R_drew HO_7.out); have n2_ := Aside0.mk (blk_drew BK112.out); have n3_ := Aside0.mk (below_drew1 HB.out); clear HO_5; clear HO_7; clear BK112; clear HB; have HO_5 := n0_; have HO_7 := n1_; have BK112 := n2_; have HB := n3_; clear n0_ n1_ n2_ n3_; have p124 : 0 ≤ ((ji36) : Int) := of_decide_eq_true zPA7; have q124 : (ji36) < (t101.length : Int) := of_decide_eq_true zPA7; obtain ⟨ad124, e124, hx124_0, hx124_1, hx124_2, hx124_3, hx124_4, hx124_5⟩ := at_T26 (Kd.R_reads' HO_5.out).2.2 (ji36) p124 q124
           cases e124
           replace p124 := eq_true p124; replace q124 := eq_true q124; have p125 : 0 ≤ ((ji36) : Int) := of_decide_eq_true zPA7; have q125 : (ji36) < (t101.length : Int) := of_decide_eq_true zPA7; obtain ⟨ad125, e125, hx125_0, hx125_1, hx125_2, hx125_3, hx125_4, hx125_5⟩ := at_T26 (Kd.R_reads' HO_5.out).2.2 (ji36) p125 q125; obtain rfl : ad124 = ad125 := (by injection e125); replace p125 := eq_true p125; replace q125 := eq_true q125
           refine start_ (n := 15) (S := fun w' => w'.cell? (ad124.add (((ji36)).toNat * 6)) = some (.int .i64 ((rd_T26 t101 (ji36)).f0)) ∧ w'.cell? ⟨(ad124.add (((ji36)).toNat * 6)).block, (ad124.add (((ji36)).toNat * 6)).off + 1, none⟩ = some (.int .i64 ((rd_T26 t101 (ji36)).f1)) ∧ w'.cell? ⟨(ad124.add (((ji36)).toNat * 6)).block, (ad124.add (((ji36)).toNat * 6)).off + 2, none⟩ = some (.int .i64 ((rd_T26 t101 (ji36)).f2)) ∧ w'.cell? ⟨(ad124.add (((ji36)).toNat * 6)).block, (ad124.add (((ji36)).toNat * 6)).off + 3, none⟩ = some (.int .i64 ((rd_T26 t101 (ji36)).f3)) ∧ w'.cell? ⟨(ad124.add (((ji36)).toNat * 6)).block, (ad124.add (((ji36)).toNat * 6)).off + 4, none⟩ = some (.int .i64 ((rd_T26 t101 (ji36)).f4)) ∧ w'.cell? ⟨(ad124.add (((ji36)).toNat * 6)).block, (ad124.add (((ji36)).toNat * 6)).off + 5, none⟩ = some (.int .i64 ((rd_T26 t101 (ji36)).f5)) ∧ w'.cell? (ad124.add (((ji36)).toNat * 6)) = some (.int .i64 ((rd_T26 t101 (ji36)).f0)) ∧ w'.cell? ⟨(ad124.add (((ji36)).toNat * 6)).block, (ad124.add (((ji36)).toNat * 6)).off + 1, none⟩ = some (.int .i64 ((rd_T26 t101 (ji36)).f1)) ∧ w'.cell? ⟨(ad124.add (((ji36)).toNat * 6)).block, (ad124.add (((ji36)).toNat * 6)).off + 2, none⟩ = some (.int .i64 ((rd_T26 t101 (ji36)).f2)) ∧ w'.cell? ⟨(ad124.add (((ji36)).toNat * 6)).block, (ad124.add (((ji36)).toNat * 6)).off + 3, none⟩ = some (.int .i64 ((rd_T26 t101 (ji36)).f3)) ∧ w'.cell? ⟨(ad124.add (((ji36)).toNat * 6)).block, (ad124.add (((ji36)).toNat * 6)).off + 4, none⟩ = some (.int .i64 ((rd_T26 t101 (ji36)).f4)) ∧ w'.cell? ⟨(ad124.add (((ji36)).toNat * 6)).block, (ad124.add (((ji36)).toNat * 6)).off + 5, none⟩ = some (.int .i64 ((rd_T26 t101 (ji36)).f5))) (ds := []) #[false, false, false, false, false, false, false, false, false, false, false, false, false, false, false] (by kernel_rfl) rfl rfl ⟨hx124_0, hx124_1, hx124_2, hx124_3, hx124_4, hx124_5, hx125_0, hx125_1, hx125_2, hx125_3, hx125_4, hx125_5⟩ (fun hHeld => ?_); refine with_tabW customslaw30_LedgerFold.tab12 customslaw30_LedgerFold.bits12 (fun HT_ HW_ => ?_)
           generalize w32.drew = w39 at HO_5 HO_7 BK112 HB hx124_0 hx124_1 hx124_2 hx124_3 hx124_4 hx124_5 hx125_0 hx125_1 hx125_2 hx125_3 hx125_4 hx125_5 hHeld ⊢
           refine pure_ (i := 0) (N := some 73) (v := ?_) (a' := ?_) #[true, false, false, false, false, false, false, false, false, false, false, false, false, false, false] rfl rfl (any_of HT_.out (by kernel_rfl)) (fun _ _ _ h => h) (Or.inl ⟨by rfl, ?_⟩) ?_ ?_
           rotate_left
           ·intro w'
            go_simp
            with_reducible rfl
           rotate_left
           ·simp only [Act.put, List.setIfInBounds_toArray, List.set_cons_zero, List.set_cons_succ, i64_w, i32_w]
            rfl
           refine pure_ (i := 1) (N := some 74) (v := ?_) (a' := ?_) #[true, true, false, false, false, false, false, false, false, false, false, false, false, false, false] rfl rfl (any_of HT_.out (by kernel_rfl)) (fun _ _ _ h => h) (Or.inl ⟨by rfl, ?_⟩) ?_ ?_
           rotate_left
           ·intro w'
            go_simp
            with_reducible rfl
           rotate_left
           ·simp only [Act.put, List.setIfInBounds_toArray, List.set_cons_zero, List.set_cons_succ, i64_w, i32_w]
            rfl
           refine pure_ (i := 2) (N := some 75) (v := ?_) (a' := ?_) #[true, true, true, false, false, false, false, false, false, false, false, false, false, false, false] rfl rfl (any_of HT_.out (by kernel_rfl)) (fun _ _ _ h => h) (Or.inl ⟨by rfl, ?_⟩) ?_ ?_
           rotate_left
           ·intro w'
            go_simp
            with_reducible rfl
           rotate_left
           ·simp only [Act.put, List.setIfInBounds_toArray, List.set_cons_zero, List.set_cons_succ, i64_w, i32_w]
            rfl
           refine pure_ (i := 3) (N := some 76) (v := ?_) (a' := ?_) #[true, true, true, true, false, false, false, false, false, false, false, false, false, false, false] rfl rfl (any_of HT_.out (by kernel_rfl)) (fun _ _ _ h => h) (Or.inl ⟨by rfl, ?_⟩) ?_ ?_
           rotate_left
           ·intro w'
            go_simp
            with_reducible rfl
           rotate_left
           ·simp only [Act.put, List.setIfInBounds_toArray, List.set_cons_zero, List.set_cons_succ, i64_w, i32_w]
            rfl
           refine pure_ (i := 4) (N := some 77) (v := ?_) (a' := ?_) #[true, true, true, true, true, false, false, false, false, false, false, false, false, false, false] rfl rfl (any_of HT_.out (by kernel_rfl)) (fun _ _ _ h => h) (Or.inl ⟨by rfl, ?_⟩) ?_ ?_
           rotate_left
           ·intro w'
            go_simp
            with_reducible rfl
           rotate_left
           ·simp only [Act.put, List.setIfInBounds_toArray, List.set_cons_zero, List.set_cons_succ, i64_w, i32_w]
            rfl
           refine pure_ (i := 6) (N := some 79) (v := ?_) (a' := ?_) #[true, true, true, true, true, false, true, false, false, false, false, false, false, false, false] rfl rfl (any_of HT_.out (by kernel_rfl)) (fun _ _ _ h => h) (Or.inl ⟨by rfl, ?_⟩) ?_ ?_
           rotate_left
           ·intro w'
            go_simp
            with_reducible rfl
           rotate_left
           ·simp only [Act.put, List.setIfInBounds_toArray, List.set_cons_zero, List.set_cons_succ, i64_w, i32_w]
            rfl
           refine pure_ (i := 7) (N := some 80) (v := ?_) (a' := ?_) #[true, true, true, true, true, false, true, true, false, false, false, false, false, false, false] rfl rfl (any_of HT_.out (by kernel_rfl)) (fun _ _ _ h => h) (Or.inl ⟨by rfl, ?_⟩) ?_ ?_
           rotate_left
           ·intro w'
            go_simp
            with_reducible rfl
           rotate_left
           ·simp only [Act.put, List.setIfInBounds_toArray, List.set_cons_zero, List.set_cons_succ, i64_w, i32_w]
            rfl
           refine pure_ (i := 8) (N := some 81) (v := ?_) (a' := ?_) #[true, true, true, true, true, false, true, true, true, false, false, false, false, false, false] rfl rfl (any_of HT_.out (by kernel_rfl)) (fun _ _ _ h => h) (Or.inl ⟨by rfl, ?_⟩) ?_ ?_
           rotate_left
           ·intro w'
            go_simp
            with_reducible rfl
           rotate_left
           ·simp only [Act.put, List.setIfInBounds_toArray, List.set_cons_zero, List.set_cons_succ, i64_w, i32_w]
            rfl
           refine pure_ (i := 9) (N := some 82) (v := ?_) (a' := ?_) #[true, true, true, true, true, false, true, true, true, true, false, false, false, false, false] rfl rfl (any_of HT_.out (by kernel_rfl)) (fun _ _ _ h => h) (Or.inl ⟨by rfl, ?_⟩) ?_ ?_
           rotate_left
           ·intro w'
            go_simp
            with_reducible rfl
           rotate_left
           ·simp only [Act.put, List.setIfInBounds_toArray, List.set_cons_zero, List.set_cons_succ, i64_w, i32_w]
            rfl
           refine pure_ (i := 10) (N := some 83) (v := ?_) (a' := ?_) #[true, true, true, true, true, false, true, true, true, true, true, false, false, false, false] rfl rfl (any_of HT_.out (by kernel_rfl)) (fun _ _ _ h => h) (Or.inl ⟨by rfl, ?_⟩) ?_ ?_
           rotate_left
           ·intro w'
            go_simp
            with_reducible rfl
           rotate_left
           ·simp only [Act.put, List.setIfInBounds_toArray, List.set_cons_zero, List.set_cons_succ, i64_w, i32_w]
            rfl
           refine take_ (i := 5) (N := some 78) (v := ?_) (a' := ?_) #[true, true, true, true, true, true, true, true, true, true, true, false, false, false, false] rfl rfl (take_ofW HT_.out HW_.out (by kernel_rfl)) (fun _ _ _ h => h) (Or.inl ⟨by rfl, ?_⟩) hHeld ?_ ?_
           rotate_left
           ·rintro w' ⟨s0, s1, s2, s3, s4, s5, s6, s7, s8, s9, s10, s11⟩
            go_simp
            with_reducible rfl
           rotate_left
           ·simp only [Act.put, List.setIfInBounds_toArray, List.set_cons_zero, List.set_cons_succ, i64_w, i32_w]
            rfl
           refine pure_ (i := 13) (N := some 9) (v := ?_) (a' := ?_) #[true, true, true, true, true, true, true, true, true, true, true, false, false, true, false] rfl rfl (any_of HT_.out (by kernel_rfl)) (fun _ _ _ h => h) (Or.inl ⟨by rfl, ?_⟩) ?_ ?_
           rotate_left
           ·intro w'
            go_simp
            with_reducible rfl
           rotate_left
           ·simp only [Act.put, List.setIfInBounds_toArray, List.set_cons_zero, List.set_cons_succ, i64_w, i32_w]
            rfl
           refine take_ (i := 11) (N := some 84) (v := ?_) (a' := ?_) #[true, true, true, true, true, true, true, true, true, true, true, true, false, true, false] rfl rfl (take_ofW HT_.out HW_.out (by kernel_rfl)) (fun _ _ _ h => h) (Or.inl ⟨by rfl, ?_⟩) hHeld ?_ ?_
           rotate_left
           ·rintro w' ⟨s0, s1, s2, s3, s4, s5, s6, s7, s8, s9, s10, s11⟩
            go_simp
            with_reducible rfl
           rotate_left
           ·simp only [Act.put, List.setIfInBounds_toArray, List.set_cons_zero, List.set_cons_succ, i64_w, i32_w]
            rfl
           refine pure_ (i := 12) (N := some 85) (v := ?_) (a' := ?_) #[true, true, true, true, true, true, true, true, true, true, true, true, true, true, false] rfl rfl (any_of HT_.out (by kernel_rfl)) (fun _ _ _ h => h) (Or.inl ⟨by rfl, ?_⟩) ?_ ?_
           rotate_left
           ·intro w'
            go_simp
            with_reducible rfl
           rotate_left
           ·simp only [Act.put, List.setIfInBounds_toArray, List.set_cons_zero, List.set_cons_succ, i64_w, i32_w]
            rfl
           refine pure_ (i := 14) (N := some 10) (v := ?_) (a' := ?_) #[true, true, true, true, true, true, true, true, true, true, true, true, true, true, true] rfl rfl (any_of HT_.out (by kernel_rfl)) (fun _ _ _ h => h) (Or.inl ⟨by rfl, ?_⟩) ?_ ?_
           rotate_left
           ·intro w'
            go_simp
            with_reducible rfl
           rotate_left
           ·simp only [Act.put, List.setIfInBounds_toArray, List.set_cons_zero, List.set_cons_succ, i64_w, i32_w]
            rfl
           refine done_ (done_of HT_.out (by kernel_rfl)) ?_
           try go_wp2
           go_meet
           case rel => exact ⟨_, ((rd_T26 t101 (ji36)).f2), (wrap64 (-((rd_T26 t101 (ji36)).f4))), (by first | rfl | (simp; done) | (simp only [← hji36] <;> (first | rfl | simp)) | (simp [*]; done)), (by first | rfl | (simp; done) | (simp only [← hji36] <;> (first | rfl | simp)) | (simp [*]; done)), H', ⟨by have := HJ6.out; first | omega | exact Nat.le_refl _⟩, ⟨by (with_reducible repeat (first | apply Kd.R_alloc | apply Kd.R_drewN | apply Kd.R_drew)); exact HO_5.out⟩, ⟨by (with_reducible repeat (first | apply Kd.R_alloc | apply Kd.R_drewN | apply Kd.R_drew)); exact HO_7.out⟩, ⟨by (with_reducible repeat (first | refine blk_drewN ?_ _ | refine blk_drew ?_ | refine blk_alloc ?_ _)); exact BK112.out⟩, ⟨bel⟩⟩
          ·rw [if_neg c38] at H
           exact absurd H (by simp)
         ·rw [if_neg c37] at H
          exact absurd H (by simp)
      ·rw [if_neg c33] at H
       have c33b0 : (t107 == 9) = false := beq_eq_false_iff_ne.mpr c33; have c33b1 : (t107 != 9) = true := bne_iff_ne.mpr c33
       (first | rw [c33b0] | (simp only [i64_w, i32_w]; rw [c33b0]) | skip)
       have H' := Aside0.mk H; clear H
       go_wp2
       go_meet
       case rel => exact ⟨_, (t107), (t109), zPA11, zPA11, H', ⟨by have := HJ6.out; first | omega | exact Nat.le_refl _⟩, ⟨by (with_reducible repeat (first | apply Kd.R_alloc | apply Kd.R_drewN | apply Kd.R_drew)); exact HO_5.out⟩, ⟨by (with_reducible repeat (first | apply Kd.R_alloc | apply Kd.R_drewN | apply Kd.R_drew)); exact HO_7.out⟩, ⟨by (with_reducible repeat (first | refine blk_drewN ?_ _ | refine blk_drew ?_ | refine blk_alloc ?_ _)); exact BK112.out⟩, ⟨bel⟩⟩
     case rest =>
      clear HC31
      try clear c1
      try clear p1
      try clear q1
      try clear hx1
      try clear c2
      try clear p2
      try clear q2
      try clear c3
      try clear p6
      try clear p11
      try clear q11
      try clear hx11
      try clear p12
      try clear q12
      try clear hx12
      try clear c13
      try clear c16
      try clear c16b0
      try clear c16b1
      try clear c17
      try clear c18
      try clear c19
      try clear c19b0
      try clear c22
      try clear c22b0
      try clear c23
      try clear c23b0
      try clear c23b1
      try clear q27
      try clear c30
      try clear c33
      try clear c33b0
      try clear c33b1
      try clear c34
      try clear c34b0
      try clear c35
      try clear c35b0
      try clear c37
      try clear c37b0
      try clear c38
      try clear c38b0
      try clear hx118_0
      try clear hx118_1
      try clear hx118_2
      try clear hx118_3
      try clear hx118_4
      try clear hx118_5
      try clear hx124_0
      try clear hx124_1
      try clear hx124_2
      try clear hx124_3
      try clear hx124_4
      try clear hx124_5
      try clear hx125_0
      try clear hx125_1
      try clear hx125_2
      try clear hx125_3
      try clear hx125_4
      try clear hx125_5
      try clear p1
      try clear p11
      try clear p118
      try clear p124
      try clear p125
      try clear p2
      try clear p6
      try clear q1
      try clear q11
      try clear q118
      try clear q124
      try clear q125
      try clear q2
      try clear q27
      obtain ⟨kq, x9_30, x10_30, rfl, rfl, HA, HJ30, HO_5, HO_7, BK112, HB⟩ := hcut
      cases kq with
      | zero => exact absurd HA.out (by simp [customslaw30_LedgerFold.j1])
      | succ kj30 =>
       have H := HA.out; clear HA
       simp only [customslaw30_LedgerFold.j1] at H
       have H' := Aside0.mk H; clear H
       go_wp2
       go_loopg [11] kj30 (fun kq v11 w' => ∃ (x11_3 : Int), v11 = .int .i64 x11_3 ∧ Aside0 (customslaw30_LedgerFold.l0 kq t101 t113 x9_30 x10_30 x11_3 t105 t106 t107 t108 t109 t110 = some true) ∧ Aside0 (kq ≤ kj30) ∧ Aside0 (Kd.R k26 26 w' w.heap.size (fun k_ => some k_ ≠ (v114 : Value).ownBlock ∧ k_ ≠ gb112) (.slice Ao10 t101.length co10) t101) ∧ Aside0 (Kd.R k26 26 w' w.heap.size (fun k_ => some k_ ≠ ((.slice Ao10 t101.length co10) : Value).ownBlock ∧ k_ ≠ gb112) v114 t113) ∧ Aside0 (w'.heap[gb112]? = some (.cells #[.int .i64 t105, .int .i64 t106, .int .i64 t107, .int .i64 t108, .int .i64 t109, .int .i64 t110] 26 (0, 0))) ∧ Aside0 (Below w.heap.size w w'))
       case atStart => exact ⟨(1), zPA11, H', ⟨Nat.le_refl _⟩, ⟨by (with_reducible repeat (first | apply Kd.R_alloc | apply Kd.R_drewN | apply Kd.R_drew)); exact HO_5.out⟩, ⟨by (with_reducible repeat (first | apply Kd.R_alloc | apply Kd.R_drewN | apply Kd.R_drew)); exact HO_7.out⟩, ⟨by (with_reducible repeat (first | refine blk_drewN ?_ _ | refine blk_drew ?_ | refine blk_alloc ?_ _)); exact BK112.out⟩, ⟨bel⟩⟩
       case round =>
        clear H'
        try clear c1
        try clear p1
        try clear q1
        try clear hx1
        try clear c2
        try clear p2
        try clear q2
        try clear c3
        try clear p6
        try clear p11
        try clear q11
        try clear hx11
        try clear p12
        try clear q12
        try clear hx12
        try clear c13
        try clear c16
        try clear c16b0
        try clear c16b1
        try clear c17
        try clear c18
        try clear c19
        try clear c19b0
        try clear c22
        try clear c22b0
        try clear c23
        try clear c23b0
        try clear c23b1
        try clear q27
        try clear c30
        try clear c33
        try clear c33b0
        try clear c33b1
        try clear c34
        try clear c34b0
        try clear c35
        try clear c35b0
        try clear c37
        try clear c37b0
        try clear c38
        try clear c38b0
        try clear hx118_0
        try clear hx118_1
        try clear hx118_2
        try clear hx118_3
        try clear hx118_4
        try clear hx118_5
        try clear hx124_0
        try clear hx124_1
        try clear hx124_2
        try clear hx124_3
        try clear hx124_4
        try clear hx124_5
        try clear hx125_0
        try clear hx125_1
        try clear hx125_2
        try clear hx125_3
        try clear hx125_4
        try clear hx125_5
        try clear p1
        try clear p11
        try clear p118
        try clear p12
        try clear p124
        try clear p125
        try clear p2
        try clear p6
        try clear q1
        try clear q11
        try clear q118
        try clear q12
        try clear q124
        try clear q125
        try clear q2
        try clear q27
        obtain ⟨x11_3, rfl, HA, HK3, HO_5, HO_7, BK112, HB⟩ := hrel
        cases gk with
        | zero => exact absurd HA.out (by simp [customslaw30_LedgerFold.l0])
        | succ k3 =>
         have H := HA.out; clear HA
         simp only [customslaw30_LedgerFold.l0] at H
         by_cases c40 : x11_3 ≤ 5
         ·rw [if_pos c40] at H
          have c40b0 : decide (x11_3 ≤ 5) = true := decide_eq_true c40; clear c40; replace H := Option.bind_eq_some_iff.mp H; obtain ⟨⟨t127, t128, t129, t130, t131⟩, A410, H⟩ := H; replace H : (if x11_3 = t108 then ((customsref27_BalanceAfter.f t127 t128 t129 t130 t131 x9_30 x10_30).bind fun bt133 => ((ledger_BalanceOf.f t113 x11_3).bind fun bt138 => (if (!(bt138.1 == bt133.1) || (!(bt138.2.1 == bt133.2.1) || (!(bt138.2.2.1 == bt133.2.2.1) || (!(bt138.2.2.2.1 == bt133.2.2.2.1) || (!(bt138.2.2.2.2 == bt133.2.2.2.2)))))) = true then (some false) else (customslaw30_LedgerFold.l0 k3 t101 t113 x9_30 x10_30 (wrap64 (x11_3 + 1)) t105 t106 t107 t108 t109 t110)))) else ((ledger_BalanceOf.f t113 x11_3).bind fun bt143 => (if (!(bt143.1 == t127) || (!(bt143.2.1 == t128) || (!(bt143.2.2.1 == t129) || (!(bt143.2.2.2.1 == t130) || (!(bt143.2.2.2.2 == t131)))))) = true then (some false) else (customslaw30_LedgerFold.l0 k3 t101 t113 x9_30 x10_30 (wrap64 (x11_3 + 1)) t105 t106 t107 t108 t109 t110)))) = some true := H; have A41 := Aside0.mk A410; clear A410
          by_cases c42 : x11_3 = t108
          ·rw [if_pos c42] at H
           have c42b0 : (x11_3 == t108) = true := beq_iff_eq.mpr c42; have c42b1 : (x11_3 != t108) = false := bne_eq_false_iff_eq.mpr c42; clear c42; replace H := Option.bind_eq_some_iff.mp H; obtain ⟨⟨t133, t134, t135, t136, t137⟩, A430, H⟩ := H; replace H : ((ledger_BalanceOf.f t113 x11_3).bind fun bt138 => (if (!(bt138.1 == t133) || (!(bt138.2.1 == t134) || (!(bt138.2.2.1 == t135) || (!(bt138.2.2.2.1 == t136) || (!(bt138.2.2.2.2 == t137)))))) = true then (some false) else (customslaw30_LedgerFold.l0 k3 t101 t113 x9_30 x10_30 (wrap64 (x11_3 + 1)) t105 t106 t107 t108 t109 t110))) = some true := H; have A43 := Aside0.mk A430; clear A430; replace H := Option.bind_eq_some_iff.mp H; obtain ⟨⟨t138, t139, t140, t141, t142⟩, A440, H⟩ := H; replace H : (if (!(t138 == t133) || (!(t139 == t134) || (!(t140 == t135) || (!(t141 == t136) || (!(t142 == t137)))))) = true then (some false) else (customslaw30_LedgerFold.l0 k3 t101 t113 x9_30 x10_30 (wrap64 (x11_3 + 1)) t105 t106 t107 t108 t109 t110)) = some true := H; have A44 := Aside0.mk A440; clear A440
           by_cases c45 : (!(t138 == t133) || (!(t139 == t134) || (!(t140 == t135) || (!(t141 == t136) || (!(t142 == t137)))))) = true
           ·rw [if_pos c45] at H
            have c45b0 : (!(t138 == t133) || (!(t139 == t134) || (!(t140 == t135) || (!(t141 == t136) || (!(t142 == t137)))))) = true := c45; clear c45
            cases H
           ·rw [if_neg c45] at H
            have c45b0 : (!(t138 == t133) || (!(t139 == t134) || (!(t140 == t135) || (!(t141 == t136) || (!(t142 == t137)))))) = false := by simpa using c45
            clear c45; have H' := Aside0.mk H; clear H
            try go_wp2_with (first | ((with_reducible refine gate_callee (f := 14) rfl ?_); refine goesL_ (some 92) rfl rfl Try.func14 (by kernel_rfl) rfl #[.slice Ao10 t101.length co10, .int .i64 x11_3] rfl argx ?_; (with_reducible refine (ledger_BalanceOf.calls _ _ t101 x11_3 t127 t128 t129 t130 t131 _ ?side1 ?side2 A41.out).mono ?_); (case side1 => repeat (first | exact (Kd.R_reads' HO_5.out).2.2 | (with_reducible refine Kd.C_alloc ?_ _) | (with_reducible refine Kd.C_drewN ?_ _) | (with_reducible refine Kd.C_drew ?_))); (case side2 => exact (Kd.R_reads' HO_5.out).2.1); rintro e w46 ⟨rfl, hb⟩; refine ⟨_, rfl, ?_⟩; have n0_ := Aside0.mk (Kd.R_below (rowx HO_5.out) hb); have n1_ := Aside0.mk (Kd.R_below (rowx HO_7.out) hb); have n2_ := Aside0.mk (blk_below (g := gb112) (o := .cells #[.int .i64 t105, .int .i64 t106, .int .i64 t107, .int .i64 t108, .int .i64 t109, .int .i64 t110] 26 (0, 0)) blkx hb); have n3_ := Aside0.mk (below_step bel hb); clear HO_5; clear HO_7; clear BK112; clear HB; have HO_5 := n0_; have HO_7 := n1_; have BK112 := n2_; have HB := n3_; clear n0_ n1_ n2_ n3_; (try clear hb); (try clear hb2); (try clear hk); (try clear hi)) | ((with_reducible refine gate_dst (N := 12) rfl ?_); refine box_event ?hg (N := 12) ?hd (cs := #[.int .i64 0, .int .i64 0, .int .i64 0, .int .i64 0, .int .i64 0]) (t := 37) ?hr ?_; (case hd => rfl); (case hg => rfl); (case hr => first | (go_simp; done) | (go_simp; rfl)); intro gb132 hg w47 hbox hb; have qb_ := below_both bel hb; have n0_ := Aside0.mk (Kd.R_below (rowx HO_5.out) hb); have n1_ := Aside0.mk (Kd.R_below (rowx HO_7.out) hb); have q1_ := blk_below2 (g := gb112) (o := .cells #[.int .i64 t105, .int .i64 t106, .int .i64 t107, .int .i64 t108, .int .i64 t109, .int .i64 t110] 26 (0, 0)) blkx hb; have n2_ := Aside0.mk (q1_.1); have n3_ := Aside0.mk (qb_.1); have n4_ := Aside0.mk (hbox); have n6_ := Aside0.mk ((by rw [hg]; exact qb_.2 : w.heap.size ≤ gb132)); have n7_ := Aside0.mk ((by rw [hg]; exact Nat.ne_of_lt q1_.2 : gb112 ≠ gb132)); have n8_ := Aside0.mk (Ne.symm n7_.out); clear HO_5; clear HO_7; clear BK112; clear HB; have HO_5 := n0_; have HO_7 := n1_; have BK112 := n2_; have HB := n3_; have BK132 := n4_; have GE132 := n6_; have NB112_132 := n7_; have NB132_112 := n8_; clear q1_; clear qb_; clear n0_ n1_ n2_ n3_ n4_ n6_ n7_ n8_; clear hb hbox hg; have hnb48 := NB132_112.out; have hnc48 := NB112_132.out; obtain ⟨hcz49_0, hcz49_1, hcz49_2, hcz49_3, hcz49_4, hfz49_0, hfz49_1, hfz49_2, hfz49_3, hfz49_4⟩ := cells5 BK132.out; obtain ⟨hcz50_0, hcz50_1, hcz50_2, hcz50_3, hcz50_4, hcz50_5, hfz50_0, hfz50_1, hfz50_2, hfz50_3, hfz50_4, hfz50_5⟩ := cells6 BK112.out) | ((with_reducible refine gate_callee (f := 15) rfl ?_); refine goesL_ (some 100) rfl rfl Try.func15 (by kernel_rfl) rfl #[.agg #[.int .i64 t127, .int .i64 t128, .int .i64 t129, .int .i64 t130, .int .i64 t131], .int .i64 x9_30, .int .i64 x10_30] rfl argx ?_; (with_reducible refine (customsref27_BalanceAfter.calls t127 t128 t129 t130 t131 x9_30 x10_30 t133 t134 t135 t136 t137 _ A43.out).mono ?_); rintro e w51 ⟨rfl, hb⟩; refine ⟨_, rfl, ?_⟩; have n0_ := Aside0.mk (Kd.R_below (by (with_reducible repeat (first | apply Kd.R_alloc | apply Kd.R_drewN | apply Kd.R_drew)); exact (Kd.R_mono (Kd.R_far (p := ⟨gb132, 4, none⟩) (Kd.R_far (p := ⟨gb132, 3, none⟩) (Kd.R_far (p := ⟨gb132, 2, none⟩) (Kd.R_far (p := ⟨gb132, 1, none⟩) (Kd.R_far (p := ⟨gb132, 0, none⟩) (Kd.R_types HO_5.out BK132.out (by decide)) (fun _ hk => hk.2) (.int .i64 t127)) (fun _ hk => hk.2) (.int .i64 t128)) (fun _ hk => hk.2) (.int .i64 t129)) (fun _ hk => hk.2) (.int .i64 t130)) (fun _ hk => hk.2) (.int .i64 t131)) (fun _ h_ => h_.1))) hb); have n1_ := Aside0.mk (Kd.R_below (by (with_reducible repeat (first | apply Kd.R_alloc | apply Kd.R_drewN | apply Kd.R_drew)); exact (Kd.R_mono (Kd.R_far (p := ⟨gb132, 4, none⟩) (Kd.R_far (p := ⟨gb132, 3, none⟩) (Kd.R_far (p := ⟨gb132, 2, none⟩) (Kd.R_far (p := ⟨gb132, 1, none⟩) (Kd.R_far (p := ⟨gb132, 0, none⟩) (Kd.R_types HO_7.out BK132.out (by decide)) (fun _ hk => hk.2) (.int .i64 t127)) (fun _ hk => hk.2) (.int .i64 t128)) (fun _ hk => hk.2) (.int .i64 t129)) (fun _ hk => hk.2) (.int .i64 t130)) (fun _ hk => hk.2) (.int .i64 t131)) (fun _ h_ => h_.1))) hb); have n2_ := Aside0.mk (blk_below (g := gb112) (o := .cells #[.int .i64 t105, .int .i64 t106, .int .i64 t107, .int .i64 t108, .int .i64 t109, .int .i64 t110] 26 (0, 0)) blkx hb); have n3_ := Aside0.mk (blk_below (g := gb132) (o := .cells #[.int .i64 t127, .int .i64 t128, .int .i64 t129, .int .i64 t130, .int .i64 t131] 37 (0, 0)) (by (with_reducible repeat (first | refine blk_drewN ?_ _ | refine blk_drew ?_ | refine blk_alloc ?_ _)); refine blk_put (cs := #[.int .i64 t127, .int .i64 t128, .int .i64 t129, .int .i64 t130, .int .i64 0]) ?_ 4 _ rfl; refine blk_put (cs := #[.int .i64 t127, .int .i64 t128, .int .i64 t129, .int .i64 0, .int .i64 0]) ?_ 3 _ rfl; refine blk_put (cs := #[.int .i64 t127, .int .i64 t128, .int .i64 0, .int .i64 0, .int .i64 0]) ?_ 2 _ rfl; refine blk_put (cs := #[.int .i64 t127, .int .i64 0, .int .i64 0, .int .i64 0, .int .i64 0]) ?_ 1 _ rfl; refine blk_put (cs := #[.int .i64 0, .int .i64 0, .int .i64 0, .int .i64 0, .int .i64 0]) ?_ 0 _ rfl; (with_reducible repeat (first | refine blk_drewN ?_ _ | refine blk_drew ?_ | refine blk_alloc ?_ _)); exact BK132.out) hb); have n4_ := Aside0.mk (below_step bel hb); clear HO_5; clear HO_7; clear BK112; clear BK132; clear HB; have HO_5 := n0_; have HO_7 := n1_; have BK112 := n2_; have BK132 := n3_; have HB := n4_; clear n0_ n1_ n2_ n3_ n4_; (try clear hb); (try clear hb2); (try clear hk); (try clear hi); obtain ⟨hcz52_0, hcz52_1, hcz52_2, hcz52_3, hcz52_4, hfz52_0, hfz52_1, hfz52_2, hfz52_3, hfz52_4⟩ := cells5 BK132.out))
            have n0_ : Aside0 (Kd.R k26 26 (((((w51.setCell ⟨gb132, 0, none⟩ (.int .i64 t133)).setCell ⟨gb132, 1, none⟩ (.int .i64 t134)).setCell ⟨gb132, 2, none⟩ (.int .i64 t135)).setCell ⟨gb132, 3, none⟩ (.int .i64 t136)).setCell ⟨gb132, 4, none⟩ (.int .i64 t137)) w.heap.size (fun k_ => some k_ ≠ (v114 : Value).ownBlock ∧ k_ ≠ gb112) (.slice Ao10 t101.length co10) t101) := ⟨by (with_reducible repeat (first | apply Kd.R_alloc | apply Kd.R_drewN | apply Kd.R_drew)); exact Kd.R_mono (Kd.R_far (p := ⟨gb132, 4, none⟩) (Kd.R_far (p := ⟨gb132, 3, none⟩) (Kd.R_far (p := ⟨gb132, 2, none⟩) (Kd.R_far (p := ⟨gb132, 1, none⟩) (Kd.R_far (p := ⟨gb132, 0, none⟩) (Kd.R_types HO_5.out BK132.out (by decide)) (fun _ hk => hk.2) (.int .i64 t133)) (fun _ hk => hk.2) (.int .i64 t134)) (fun _ hk => hk.2) (.int .i64 t135)) (fun _ hk => hk.2) (.int .i64 t136)) (fun _ hk => hk.2) (.int .i64 t137)) (fun _ hk => ⟨hk.1.1, hk.1.2⟩)⟩; have n1_ : Aside0 (Kd.R k26 26 (((((w51.setCell ⟨gb132, 0, none⟩ (.int .i64 t133)).setCell ⟨gb132, 1, none⟩ (.int .i64 t134)).setCell ⟨gb132, 2, none⟩ (.int .i64 t135)).setCell ⟨gb132, 3, none⟩ (.int .i64 t136)).setCell ⟨gb132, 4, none⟩ (.int .i64 t137)) w.heap.size (fun k_ => some k_ ≠ (.slice Ao10 t101.length co10 : Value).ownBlock ∧ k_ ≠ gb112) v114 t113) := ⟨by (with_reducible repeat (first | apply Kd.R_alloc | apply Kd.R_drewN | apply Kd.R_drew)); exact Kd.R_mono (Kd.R_far (p := ⟨gb132, 4, none⟩) (Kd.R_far (p := ⟨gb132, 3, none⟩) (Kd.R_far (p := ⟨gb132, 2, none⟩) (Kd.R_far (p := ⟨gb132, 1, none⟩) (Kd.R_far (p := ⟨gb132, 0, none⟩) (Kd.R_types HO_7.out BK132.out (by decide)) (fun _ hk => hk.2) (.int .i64 t133)) (fun _ hk => hk.2) (.int .i64 t134)) (fun _ hk => hk.2) (.int .i64 t135)) (fun _ hk => hk.2) (.int .i64 t136)) (fun _ hk => hk.2) (.int .i64 t137)) (fun _ hk => ⟨hk.1.1, hk.1.2⟩)⟩; have n2_ : Aside0 ((((((w51.setCell ⟨gb132, 0, none⟩ (.int .i64 t133)).setCell ⟨gb132, 1, none⟩ (.int .i64 t134)).setCell ⟨gb132, 2, none⟩ (.int .i64 t135)).setCell ⟨gb132, 3, none⟩ (.int .i64 t136)).setCell ⟨gb132, 4, none⟩ (.int .i64 t137)).heap[gb112]? = some (.cells #[.int .i64 t105, .int .i64 t106, .int .i64 t107, .int .i64 t108, .int .i64 t109, .int .i64 t110] 26 (0, 0))) := ⟨by (with_reducible repeat (first | refine blk_drewN ?_ _ | refine blk_drew ?_ | refine blk_alloc ?_ _)); refine blk_far ?_ NB112_132.out _; (with_reducible repeat (first | refine blk_drewN ?_ _ | refine blk_drew ?_ | refine blk_alloc ?_ _)); refine blk_far ?_ NB112_132.out _; (with_reducible repeat (first | refine blk_drewN ?_ _ | refine blk_drew ?_ | refine blk_alloc ?_ _)); refine blk_far ?_ NB112_132.out _; (with_reducible repeat (first | refine blk_drewN ?_ _ | refine blk_drew ?_ | refine blk_alloc ?_ _)); refine blk_far ?_ NB112_132.out _; (with_reducible repeat (first | refine blk_drewN ?_ _ | refine blk_drew ?_ | refine blk_alloc ?_ _)); refine blk_far ?_ NB112_132.out _; (with_reducible repeat (first | refine blk_drewN ?_ _ | refine blk_drew ?_ | refine blk_alloc ?_ _)); exact BK112.out⟩; have n3_ : Aside0 ((((((w51.setCell ⟨gb132, 0, none⟩ (.int .i64 t133)).setCell ⟨gb132, 1, none⟩ (.int .i64 t134)).setCell ⟨gb132, 2, none⟩ (.int .i64 t135)).setCell ⟨gb132, 3, none⟩ (.int .i64 t136)).setCell ⟨gb132, 4, none⟩ (.int .i64 t137)).heap[gb132]? = some (.cells #[.int .i64 t133, .int .i64 t134, .int .i64 t135, .int .i64 t136, .int .i64 t137] 37 (0, 0))) := ⟨by (with_reducible repeat (first | refine blk_drewN ?_ _ | refine blk_drew ?_ | refine blk_alloc ?_ _)); refine blk_put (cs := #[.int .i64 t133, .int .i64 t134, .int .i64 t135, .int .i64 t136, .int .i64 t131]) ?_ 4 _ rfl; (with_reducible repeat (first | refine blk_drewN ?_ _ | refine blk_drew ?_ | refine blk_alloc ?_ _)); refine blk_put (cs := #[.int .i64 t133, .int .i64 t134, .int .i64 t135, .int .i64 t130, .int .i64 t131]) ?_ 3 _ rfl; (with_reducible repeat (first | refine blk_drewN ?_ _ | refine blk_drew ?_ | refine blk_alloc ?_ _)); refine blk_put (cs := #[.int .i64 t133, .int .i64 t134, .int .i64 t129, .int .i64 t130, .int .i64 t131]) ?_ 2 _ rfl; (with_reducible repeat (first | refine blk_drewN ?_ _ | refine blk_drew ?_ | refine blk_alloc ?_ _)); refine blk_put (cs := #[.int .i64 t133, .int .i64 t128, .int .i64 t129, .int .i64 t130, .int .i64 t131]) ?_ 1 _ rfl; (with_reducible repeat (first | refine blk_drewN ?_ _ | refine blk_drew ?_ | refine blk_alloc ?_ _)); refine blk_put (cs := #[.int .i64 t127, .int .i64 t128, .int .i64 t129, .int .i64 t130, .int .i64 t131]) ?_ 0 _ rfl; (with_reducible repeat (first | refine blk_drewN ?_ _ | refine blk_drew ?_ | refine blk_alloc ?_ _)); exact BK132.out⟩; have n4_ : Aside0 (Below w.heap.size w (((((w51.setCell ⟨gb132, 0, none⟩ (.int .i64 t133)).setCell ⟨gb132, 1, none⟩ (.int .i64 t134)).setCell ⟨gb132, 2, none⟩ (.int .i64 t135)).setCell ⟨gb132, 3, none⟩ (.int .i64 t136)).setCell ⟨gb132, 4, none⟩ (.int .i64 t137))) := ⟨bel⟩
            (try clear HO_5)
            (try clear HO_7)
            (try clear BK112)
            (try clear BK132)
            (try clear HB)
            generalize (((((w51.setCell ⟨gb132, 0, none⟩ (.int .i64 t133)).setCell ⟨gb132, 1, none⟩ (.int .i64 t134)).setCell ⟨gb132, 2, none⟩ (.int .i64 t135)).setCell ⟨gb132, 3, none⟩ (.int .i64 t136)).setCell ⟨gb132, 4, none⟩ (.int .i64 t137)) = w53 at n0_ n1_ n2_ n3_ n4_ ⊢
            have HO_5 := n0_; have HO_7 := n1_; have BK112 := n2_; have BK132 := n3_; have HB := n4_; clear n0_ n1_ n2_ n3_ n4_; have n0_ := Aside0.mk (Kd.R_drew HO_5.out); have n1_ := Aside0.mk (Kd.R_drew HO_7.out); have n2_ := Aside0.mk (blk_drew BK112.out); have n3_ := Aside0.mk (blk_drew BK132.out); have n4_ := Aside0.mk (below_drew1 HB.out); clear HO_5; clear HO_7; clear BK112; clear BK132; clear HB; have HO_5 := n0_; have HO_7 := n1_; have BK112 := n2_; have BK132 := n3_; have HB := n4_; clear n0_ n1_ n2_ n3_ n4_; obtain ⟨Ao55, co55, eo55⟩ := Kd.R_slice HO_7.out
            (first | subst eo55 | (injection eo55 with f1_ f2_ f3_; have f4_ := f1_.symm; have f5_ := f3_.symm; clear f1_ f2_ f3_; subst f4_; subst f5_))
            refine start_ (n := 5) (S := fun w' => w'.cell? ⟨gb132, 0, none⟩ = some (.int .i64 t133) ∧ w'.cell? ⟨gb132, 1, none⟩ = some (.int .i64 t134) ∧ w'.cell? ⟨gb132, 2, none⟩ = some (.int .i64 t135) ∧ w'.cell? ⟨gb132, 3, none⟩ = some (.int .i64 t136) ∧ w'.cell? ⟨gb132, 4, none⟩ = some (.int .i64 t137)) (ds := []) #[false, false, false, false, false] (by kernel_rfl) rfl rfl ⟨(blk_cell BK132.out 0).trans rfl, (blk_cell BK132.out 1).trans rfl, (blk_cell BK132.out 2).trans rfl, (blk_cell BK132.out 3).trans rfl, (blk_cell BK132.out 4).trans rfl⟩ (fun hHeld => ?_)
            generalize w53.drew = w54 at HO_5 HO_7 BK112 BK132 HB hHeld ⊢
            refine pure_ (i := 0) (N := some 101) (v := ?_) (a' := ?_) #[true, false, false, false, false] rfl rfl (by kernel_rfl) (fun _ _ _ h => h) (Or.inl ⟨by rfl, ?_⟩) ?_ ?_
            rotate_left
            ·intro w'
             go_simp
             with_reducible rfl
            rotate_left
            ·simp only [Act.put, List.setIfInBounds_toArray, List.set_cons_zero, List.set_cons_succ, i64_w, i32_w]
             rfl
            refine pure_ (i := 1) (N := some 102) (v := ?_) (a' := ?_) #[true, true, false, false, false] rfl rfl (by kernel_rfl) (fun _ _ _ h => h) (Or.inl ⟨by rfl, ?_⟩) ?_ ?_
            rotate_left
            ·intro w'
             go_simp
             with_reducible rfl
            rotate_left
            ·simp only [Act.put, List.setIfInBounds_toArray, List.set_cons_zero, List.set_cons_succ, i64_w, i32_w]
             rfl
            refine take_ (i := 3) (N := some 104) (v := ?_) (a' := ?_) #[true, true, false, true, false] rfl rfl (by kernel_rfl) (fun _ _ _ h => h) (Or.inl ⟨by rfl, ?_⟩) hHeld ?_ ?_
            rotate_left
            ·rintro w' ⟨s0, s1, s2, s3, s4⟩
             go_simp
             with_reducible rfl
            rotate_left
            ·simp only [Act.put, List.setIfInBounds_toArray, List.set_cons_zero, List.set_cons_succ, i64_w, i32_w]
             rfl
            refine one_ (i := 2) (N := some 103) #[true, true, true, true, false] rfl rfl (by kernel_rfl) (by decide) (fun K hK => ?_)
            refine goes_ Try.func14 (by kernel_rfl) rfl #[.slice Ao55 t113.length co55, .int .i64 x11_3] (by rfl) rfl rfl argx ?_
            with_reducible refine (ledger_BalanceOf.calls _ _ t113 x11_3 t138 t139 t140 t141 t142 _ ?side1 ?side2 A44.out).mono ?_
            (case side1 => repeat (first | exact (Kd.R_reads' HO_7.out).2.2 | (with_reducible refine Kd.C_alloc ?_ _) | (with_reducible refine Kd.C_drewN ?_ _) | (with_reducible refine Kd.C_drew ?_)))
            (case side2 => exact (Kd.R_reads' HO_7.out).2.1)
            rintro e w56 ⟨rfl, hb⟩
            refine ⟨_, rfl, ?_⟩
            have n0_ := Aside0.mk (Kd.R_below (rowx HO_5.out) hb); have n1_ := Aside0.mk (Kd.R_below (rowx HO_7.out) hb); have n2_ := Aside0.mk (blk_below (g := gb112) (o := .cells #[.int .i64 t105, .int .i64 t106, .int .i64 t107, .int .i64 t108, .int .i64 t109, .int .i64 t110] 26 (0, 0)) blkx hb); have n3_ := Aside0.mk (blk_below (g := gb132) (o := .cells #[.int .i64 t133, .int .i64 t134, .int .i64 t135, .int .i64 t136, .int .i64 t137] 37 (0, 0)) blkx hb); have n4_ := Aside0.mk (below_step bel hb); clear HO_5; clear HO_7; clear BK112; clear BK132; clear HB; have HO_5 := n0_; have HO_7 := n1_; have BK112 := n2_; have BK132 := n3_; have HB := n4_; clear n0_ n1_ n2_ n3_ n4_
            (try clear hb)
            (try clear hb2)
            (try clear hk)
            (try clear hi)
            refine hK.out _ _ ⟨(blk_cell BK132.out 0).trans rfl, (blk_cell BK132.out 1).trans rfl, (blk_cell BK132.out 2).trans rfl, (blk_cell BK132.out 3).trans rfl, (blk_cell BK132.out 4).trans rfl⟩ (fun hHeld => ?_)
            clear hK K
            refine norm_ (a' := ?_) ?_ ?_
            rotate_left
            ·show Act.put _ (some 103) _ = _
             simp only [Act.put, List.setIfInBounds_toArray, List.set_cons_zero, List.set_cons_succ, i64_w, i32_w]
             rfl
            refine pure_ (i := 4) (N := some 105) (v := ?_) (a' := ?_) #[true, true, true, true, true] rfl rfl (by kernel_rfl) (fun _ _ _ h => h) (Or.inl ⟨by rfl, ?_⟩) ?_ ?_
            rotate_left
            ·intro w'
             go_simp
             with_reducible rfl
            rotate_left
            ·simp only [Act.put, List.setIfInBounds_toArray, List.set_cons_zero, List.set_cons_succ, i64_w, i32_w]
             rfl
            refine done_ (by kernel_rfl) ?_
            try go_wp2
            go_roundg k3
            case measure => have := HJ6.out; have := HJ30.out; have := HK3.out; omega
            case rel => exact ⟨(wrap64 (x11_3 + 1)), zPA11, H', ⟨by have := HJ6.out; have := HJ30.out; have := HK3.out; omega⟩, ⟨by (with_reducible repeat (first | apply Kd.R_alloc | apply Kd.R_drewN | apply Kd.R_drew)); exact HO_5.out⟩, ⟨by (with_reducible repeat (first | apply Kd.R_alloc | apply Kd.R_drewN | apply Kd.R_drew)); exact HO_7.out⟩, ⟨by (with_reducible repeat (first | refine blk_drewN ?_ _ | refine blk_drew ?_ | refine blk_alloc ?_ _)); exact BK112.out⟩, ⟨bel⟩⟩
          ·rw [if_neg c42] at H
           have c42b0 : (x11_3 == t108) = false := beq_eq_false_iff_ne.mpr c42; have c42b1 : (x11_3 != t108) = true := bne_iff_ne.mpr c42; replace H := Option.bind_eq_some_iff.mp H; obtain ⟨⟨t143, t144, t145, t146, t147⟩, A570, H⟩ := H; replace H : (if (!(t143 == t127) || (!(t144 == t128) || (!(t145 == t129) || (!(t146 == t130) || (!(t147 == t131)))))) = true then (some false) else (customslaw30_LedgerFold.l0 k3 t101 t113 x9_30 x10_30 (wrap64 (x11_3 + 1)) t105 t106 t107 t108 t109 t110)) = some true := H; have A57 := Aside0.mk A570; clear A570
           by_cases c58 : (!(t143 == t127) || (!(t144 == t128) || (!(t145 == t129) || (!(t146 == t130) || (!(t147 == t131)))))) = true
           ·rw [if_pos c58] at H
            have c58b0 : (!(t143 == t127) || (!(t144 == t128) || (!(t145 == t129) || (!(t146 == t130) || (!(t147 == t131)))))) = true := c58; clear c58
            cases H
           ·rw [if_neg c58] at H
            have c58b0 : (!(t143 == t127) || (!(t144 == t128) || (!(t145 == t129) || (!(t146 == t130) || (!(t147 == t131)))))) = false := by simpa using c58
            clear c58; have H' := Aside0.mk H; clear H
            try go_wp2_with (first | ((with_reducible refine gate_callee (f := 14) rfl ?_); refine goesL_ (some 92) rfl rfl Try.func14 (by kernel_rfl) rfl #[.slice Ao10 t101.length co10, .int .i64 x11_3] rfl argx ?_; (with_reducible refine (ledger_BalanceOf.calls _ _ t101 x11_3 t127 t128 t129 t130 t131 _ ?side1 ?side2 A41.out).mono ?_); (case side1 => repeat (first | exact (Kd.R_reads' HO_5.out).2.2 | (with_reducible refine Kd.C_alloc ?_ _) | (with_reducible refine Kd.C_drewN ?_ _) | (with_reducible refine Kd.C_drew ?_))); (case side2 => exact (Kd.R_reads' HO_5.out).2.1); rintro e w59 ⟨rfl, hb⟩; refine ⟨_, rfl, ?_⟩; have n0_ := Aside0.mk (Kd.R_below (rowx HO_5.out) hb); have n1_ := Aside0.mk (Kd.R_below (rowx HO_7.out) hb); have n2_ := Aside0.mk (blk_below (g := gb112) (o := .cells #[.int .i64 t105, .int .i64 t106, .int .i64 t107, .int .i64 t108, .int .i64 t109, .int .i64 t110] 26 (0, 0)) blkx hb); have n3_ := Aside0.mk (below_step bel hb); clear HO_5; clear HO_7; clear BK112; clear HB; have HO_5 := n0_; have HO_7 := n1_; have BK112 := n2_; have HB := n3_; clear n0_ n1_ n2_ n3_; (try clear hb); (try clear hb2); (try clear hk); (try clear hi)) | ((with_reducible refine gate_dst (N := 12) rfl ?_); refine box_event ?hg (N := 12) ?hd (cs := #[.int .i64 0, .int .i64 0, .int .i64 0, .int .i64 0, .int .i64 0]) (t := 37) ?hr ?_; (case hd => rfl); (case hg => rfl); (case hr => first | (go_simp; done) | (go_simp; rfl)); intro gb132 hg w60 hbox hb; have qb_ := below_both bel hb; have n0_ := Aside0.mk (Kd.R_below (rowx HO_5.out) hb); have n1_ := Aside0.mk (Kd.R_below (rowx HO_7.out) hb); have q1_ := blk_below2 (g := gb112) (o := .cells #[.int .i64 t105, .int .i64 t106, .int .i64 t107, .int .i64 t108, .int .i64 t109, .int .i64 t110] 26 (0, 0)) blkx hb; have n2_ := Aside0.mk (q1_.1); have n3_ := Aside0.mk (qb_.1); have n4_ := Aside0.mk (hbox); have n6_ := Aside0.mk ((by rw [hg]; exact qb_.2 : w.heap.size ≤ gb132)); have n7_ := Aside0.mk ((by rw [hg]; exact Nat.ne_of_lt q1_.2 : gb112 ≠ gb132)); have n8_ := Aside0.mk (Ne.symm n7_.out); clear HO_5; clear HO_7; clear BK112; clear HB; have HO_5 := n0_; have HO_7 := n1_; have BK112 := n2_; have HB := n3_; have BK132 := n4_; have GE132 := n6_; have NB112_132 := n7_; have NB132_112 := n8_; clear q1_; clear qb_; clear n0_ n1_ n2_ n3_ n4_ n6_ n7_ n8_; clear hb hbox hg; have hnb61 := NB132_112.out; have hnc61 := NB112_132.out; obtain ⟨hcz62_0, hcz62_1, hcz62_2, hcz62_3, hcz62_4, hfz62_0, hfz62_1, hfz62_2, hfz62_3, hfz62_4⟩ := cells5 BK132.out; obtain ⟨hcz63_0, hcz63_1, hcz63_2, hcz63_3, hcz63_4, hcz63_5, hfz63_0, hfz63_1, hfz63_2, hfz63_3, hfz63_4, hfz63_5⟩ := cells6 BK112.out))
            have n0_ : Aside0 (Kd.R k26 26 (((((w60.setCell ⟨gb132, 0, none⟩ (.int .i64 t127)).setCell ⟨gb132, 1, none⟩ (.int .i64 t128)).setCell ⟨gb132, 2, none⟩ (.int .i64 t129)).setCell ⟨gb132, 3, none⟩ (.int .i64 t130)).setCell ⟨gb132, 4, none⟩ (.int .i64 t131)) w.heap.size (fun k_ => some k_ ≠ (v114 : Value).ownBlock ∧ k_ ≠ gb112) (.slice Ao10 t101.length co10) t101) := ⟨by (with_reducible repeat (first | apply Kd.R_alloc | apply Kd.R_drewN | apply Kd.R_drew)); exact Kd.R_mono (Kd.R_far (p := ⟨gb132, 4, none⟩) (Kd.R_far (p := ⟨gb132, 3, none⟩) (Kd.R_far (p := ⟨gb132, 2, none⟩) (Kd.R_far (p := ⟨gb132, 1, none⟩) (Kd.R_far (p := ⟨gb132, 0, none⟩) (Kd.R_types HO_5.out BK132.out (by decide)) (fun _ hk => hk.2) (.int .i64 t127)) (fun _ hk => hk.2) (.int .i64 t128)) (fun _ hk => hk.2) (.int .i64 t129)) (fun _ hk => hk.2) (.int .i64 t130)) (fun _ hk => hk.2) (.int .i64 t131)) (fun _ hk => ⟨hk.1.1, hk.1.2⟩)⟩; have n1_ : Aside0 (Kd.R k26 26 (((((w60.setCell ⟨gb132, 0, none⟩ (.int .i64 t127)).setCell ⟨gb132, 1, none⟩ (.int .i64 t128)).setCell ⟨gb132, 2, none⟩ (.int .i64 t129)).setCell ⟨gb132, 3, none⟩ (.int .i64 t130)).setCell ⟨gb132, 4, none⟩ (.int .i64 t131)) w.heap.size (fun k_ => some k_ ≠ (.slice Ao10 t101.length co10 : Value).ownBlock ∧ k_ ≠ gb112) v114 t113) := ⟨by (with_reducible repeat (first | apply Kd.R_alloc | apply Kd.R_drewN | apply Kd.R_drew)); exact Kd.R_mono (Kd.R_far (p := ⟨gb132, 4, none⟩) (Kd.R_far (p := ⟨gb132, 3, none⟩) (Kd.R_far (p := ⟨gb132, 2, none⟩) (Kd.R_far (p := ⟨gb132, 1, none⟩) (Kd.R_far (p := ⟨gb132, 0, none⟩) (Kd.R_types HO_7.out BK132.out (by decide)) (fun _ hk => hk.2) (.int .i64 t127)) (fun _ hk => hk.2) (.int .i64 t128)) (fun _ hk => hk.2) (.int .i64 t129)) (fun _ hk => hk.2) (.int .i64 t130)) (fun _ hk => hk.2) (.int .i64 t131)) (fun _ hk => ⟨hk.1.1, hk.1.2⟩)⟩; have n2_ : Aside0 ((((((w60.setCell ⟨gb132, 0, none⟩ (.int .i64 t127)).setCell ⟨gb132, 1, none⟩ (.int .i64 t128)).setCell ⟨gb132, 2, none⟩ (.int .i64 t129)).setCell ⟨gb132, 3, none⟩ (.int .i64 t130)).setCell ⟨gb132, 4, none⟩ (.int .i64 t131)).heap[gb112]? = some (.cells #[.int .i64 t105, .int .i64 t106, .int .i64 t107, .int .i64 t108, .int .i64 t109, .int .i64 t110] 26 (0, 0))) := ⟨by (with_reducible repeat (first | refine blk_drewN ?_ _ | refine blk_drew ?_ | refine blk_alloc ?_ _)); refine blk_far ?_ NB112_132.out _; (with_reducible repeat (first | refine blk_drewN ?_ _ | refine blk_drew ?_ | refine blk_alloc ?_ _)); refine blk_far ?_ NB112_132.out _; (with_reducible repeat (first | refine blk_drewN ?_ _ | refine blk_drew ?_ | refine blk_alloc ?_ _)); refine blk_far ?_ NB112_132.out _; (with_reducible repeat (first | refine blk_drewN ?_ _ | refine blk_drew ?_ | refine blk_alloc ?_ _)); refine blk_far ?_ NB112_132.out _; (with_reducible repeat (first | refine blk_drewN ?_ _ | refine blk_drew ?_ | refine blk_alloc ?_ _)); refine blk_far ?_ NB112_132.out _; (with_reducible repeat (first | refine blk_drewN ?_ _ | refine blk_drew ?_ | refine blk_alloc ?_ _)); exact BK112.out⟩; have n3_ : Aside0 ((((((w60.setCell ⟨gb132, 0, none⟩ (.int .i64 t127)).setCell ⟨gb132, 1, none⟩ (.int .i64 t128)).setCell ⟨gb132, 2, none⟩ (.int .i64 t129)).setCell ⟨gb132, 3, none⟩ (.int .i64 t130)).setCell ⟨gb132, 4, none⟩ (.int .i64 t131)).heap[gb132]? = some (.cells #[.int .i64 t127, .int .i64 t128, .int .i64 t129, .int .i64 t130, .int .i64 t131] 37 (0, 0))) := ⟨by (with_reducible repeat (first | refine blk_drewN ?_ _ | refine blk_drew ?_ | refine blk_alloc ?_ _)); refine blk_put (cs := #[.int .i64 t127, .int .i64 t128, .int .i64 t129, .int .i64 t130, .int .i64 0]) ?_ 4 _ rfl; (with_reducible repeat (first | refine blk_drewN ?_ _ | refine blk_drew ?_ | refine blk_alloc ?_ _)); refine blk_put (cs := #[.int .i64 t127, .int .i64 t128, .int .i64 t129, .int .i64 0, .int .i64 0]) ?_ 3 _ rfl; (with_reducible repeat (first | refine blk_drewN ?_ _ | refine blk_drew ?_ | refine blk_alloc ?_ _)); refine blk_put (cs := #[.int .i64 t127, .int .i64 t128, .int .i64 0, .int .i64 0, .int .i64 0]) ?_ 2 _ rfl; (with_reducible repeat (first | refine blk_drewN ?_ _ | refine blk_drew ?_ | refine blk_alloc ?_ _)); refine blk_put (cs := #[.int .i64 t127, .int .i64 0, .int .i64 0, .int .i64 0, .int .i64 0]) ?_ 1 _ rfl; (with_reducible repeat (first | refine blk_drewN ?_ _ | refine blk_drew ?_ | refine blk_alloc ?_ _)); refine blk_put (cs := #[.int .i64 0, .int .i64 0, .int .i64 0, .int .i64 0, .int .i64 0]) ?_ 0 _ rfl; (with_reducible repeat (first | refine blk_drewN ?_ _ | refine blk_drew ?_ | refine blk_alloc ?_ _)); exact BK132.out⟩; have n4_ : Aside0 (Below w.heap.size w (((((w60.setCell ⟨gb132, 0, none⟩ (.int .i64 t127)).setCell ⟨gb132, 1, none⟩ (.int .i64 t128)).setCell ⟨gb132, 2, none⟩ (.int .i64 t129)).setCell ⟨gb132, 3, none⟩ (.int .i64 t130)).setCell ⟨gb132, 4, none⟩ (.int .i64 t131))) := ⟨bel⟩
            (try clear HO_5)
            (try clear HO_7)
            (try clear BK112)
            (try clear BK132)
            (try clear HB)
            generalize (((((w60.setCell ⟨gb132, 0, none⟩ (.int .i64 t127)).setCell ⟨gb132, 1, none⟩ (.int .i64 t128)).setCell ⟨gb132, 2, none⟩ (.int .i64 t129)).setCell ⟨gb132, 3, none⟩ (.int .i64 t130)).setCell ⟨gb132, 4, none⟩ (.int .i64 t131)) = w64 at n0_ n1_ n2_ n3_ n4_ ⊢
            have HO_5 := n0_; have HO_7 := n1_; have BK112 := n2_; have BK132 := n3_; have HB := n4_; clear n0_ n1_ n2_ n3_ n4_; have n0_ := Aside0.mk (Kd.R_drew HO_5.out); have n1_ := Aside0.mk (Kd.R_drew HO_7.out); have n2_ := Aside0.mk (blk_drew BK112.out); have n3_ := Aside0.mk (blk_drew BK132.out); have n4_ := Aside0.mk (below_drew1 HB.out); clear HO_5; clear HO_7; clear BK112; clear BK132; clear HB; have HO_5 := n0_; have HO_7 := n1_; have BK112 := n2_; have BK132 := n3_; have HB := n4_; clear n0_ n1_ n2_ n3_ n4_; obtain ⟨Ao66, co66, eo66⟩ := Kd.R_slice HO_7.out
            (first | subst eo66 | (injection eo66 with f1_ f2_ f3_; have f4_ := f1_.symm; have f5_ := f3_.symm; clear f1_ f2_ f3_; subst f4_; subst f5_))
            refine start_ (n := 5) (S := fun w' => w'.cell? ⟨gb132, 0, none⟩ = some (.int .i64 t127) ∧ w'.cell? ⟨gb132, 1, none⟩ = some (.int .i64 t128) ∧ w'.cell? ⟨gb132, 2, none⟩ = some (.int .i64 t129) ∧ w'.cell? ⟨gb132, 3, none⟩ = some (.int .i64 t130) ∧ w'.cell? ⟨gb132, 4, none⟩ = some (.int .i64 t131)) (ds := []) #[false, false, false, false, false] (by kernel_rfl) rfl rfl ⟨(blk_cell BK132.out 0).trans rfl, (blk_cell BK132.out 1).trans rfl, (blk_cell BK132.out 2).trans rfl, (blk_cell BK132.out 3).trans rfl, (blk_cell BK132.out 4).trans rfl⟩ (fun hHeld => ?_)
            generalize w64.drew = w65 at HO_5 HO_7 BK112 BK132 HB hHeld ⊢
            refine pure_ (i := 0) (N := some 101) (v := ?_) (a' := ?_) #[true, false, false, false, false] rfl rfl (by kernel_rfl) (fun _ _ _ h => h) (Or.inl ⟨by rfl, ?_⟩) ?_ ?_
            rotate_left
            ·intro w'
             go_simp
             with_reducible rfl
            rotate_left
            ·simp only [Act.put, List.setIfInBounds_toArray, List.set_cons_zero, List.set_cons_succ, i64_w, i32_w]
             rfl
            refine pure_ (i := 1) (N := some 102) (v := ?_) (a' := ?_) #[true, true, false, false, false] rfl rfl (by kernel_rfl) (fun _ _ _ h => h) (Or.inl ⟨by rfl, ?_⟩) ?_ ?_
            rotate_left
            ·intro w'
             go_simp
             with_reducible rfl
            rotate_left
            ·simp only [Act.put, List.setIfInBounds_toArray, List.set_cons_zero, List.set_cons_succ, i64_w, i32_w]
             rfl
            refine take_ (i := 3) (N := some 104) (v := ?_) (a' := ?_) #[true, true, false, true, false] rfl rfl (by kernel_rfl) (fun _ _ _ h => h) (Or.inl ⟨by rfl, ?_⟩) hHeld ?_ ?_
            rotate_left
            ·rintro w' ⟨s0, s1, s2, s3, s4⟩
             go_simp
             with_reducible rfl
            rotate_left
            ·simp only [Act.put, List.setIfInBounds_toArray, List.set_cons_zero, List.set_cons_succ, i64_w, i32_w]
             rfl
            refine one_ (i := 2) (N := some 103) #[true, true, true, true, false] rfl rfl (by kernel_rfl) (by decide) (fun K hK => ?_)
            refine goes_ Try.func14 (by kernel_rfl) rfl #[.slice Ao66 t113.length co66, .int .i64 x11_3] (by rfl) rfl rfl argx ?_
            with_reducible refine (ledger_BalanceOf.calls _ _ t113 x11_3 t143 t144 t145 t146 t147 _ ?side1 ?side2 A57.out).mono ?_
            (case side1 => repeat (first | exact (Kd.R_reads' HO_7.out).2.2 | (with_reducible refine Kd.C_alloc ?_ _) | (with_reducible refine Kd.C_drewN ?_ _) | (with_reducible refine Kd.C_drew ?_)))
            (case side2 => exact (Kd.R_reads' HO_7.out).2.1)
            rintro e w67 ⟨rfl, hb⟩
            refine ⟨_, rfl, ?_⟩
            have n0_ := Aside0.mk (Kd.R_below (rowx HO_5.out) hb); have n1_ := Aside0.mk (Kd.R_below (rowx HO_7.out) hb); have n2_ := Aside0.mk (blk_below (g := gb112) (o := .cells #[.int .i64 t105, .int .i64 t106, .int .i64 t107, .int .i64 t108, .int .i64 t109, .int .i64 t110] 26 (0, 0)) blkx hb); have n3_ := Aside0.mk (blk_below (g := gb132) (o := .cells #[.int .i64 t127, .int .i64 t128, .int .i64 t129, .int .i64 t130, .int .i64 t131] 37 (0, 0)) blkx hb); have n4_ := Aside0.mk (below_step bel hb); clear HO_5; clear HO_7; clear BK112; clear BK132; clear HB; have HO_5 := n0_; have HO_7 := n1_; have BK112 := n2_; have BK132 := n3_; have HB := n4_; clear n0_ n1_ n2_ n3_ n4_
            (try clear hb)
            (try clear hb2)
            (try clear hk)
            (try clear hi)
            refine hK.out _ _ ⟨(blk_cell BK132.out 0).trans rfl, (blk_cell BK132.out 1).trans rfl, (blk_cell BK132.out 2).trans rfl, (blk_cell BK132.out 3).trans rfl, (blk_cell BK132.out 4).trans rfl⟩ (fun hHeld => ?_)
            clear hK K
            refine norm_ (a' := ?_) ?_ ?_
            rotate_left
            ·show Act.put _ (some 103) _ = _
             simp only [Act.put, List.setIfInBounds_toArray, List.set_cons_zero, List.set_cons_succ, i64_w, i32_w]
             rfl
            refine pure_ (i := 4) (N := some 105) (v := ?_) (a' := ?_) #[true, true, true, true, true] rfl rfl (by kernel_rfl) (fun _ _ _ h => h) (Or.inl ⟨by rfl, ?_⟩) ?_ ?_
            rotate_left
            ·intro w'
             go_simp
             with_reducible rfl
            rotate_left
            ·simp only [Act.put, List.setIfInBounds_toArray, List.set_cons_zero, List.set_cons_succ, i64_w, i32_w]
             rfl
            refine done_ (by kernel_rfl) ?_
            try go_wp2
            go_roundg k3
            case measure => have := HJ6.out; have := HJ30.out; have := HK3.out; omega
            case rel => exact ⟨(wrap64 (x11_3 + 1)), zPA11, H', ⟨by have := HJ6.out; have := HJ30.out; have := HK3.out; omega⟩, ⟨by (with_reducible repeat (first | apply Kd.R_alloc | apply Kd.R_drewN | apply Kd.R_drew)); exact HO_5.out⟩, ⟨by (with_reducible repeat (first | apply Kd.R_alloc | apply Kd.R_drewN | apply Kd.R_drew)); exact HO_7.out⟩, ⟨by (with_reducible repeat (first | refine blk_drewN ?_ _ | refine blk_drew ?_ | refine blk_alloc ?_ _)); exact BK112.out⟩, ⟨bel⟩⟩
         ·rw [if_neg c40] at H
          have c40b0 : decide (x11_3 ≤ 5) = false := decide_eq_false c40; clear c40; replace H := Option.bind_eq_some_iff.mp H; obtain ⟨t126, A680, H⟩ := H; replace H : (some t126) = some true := H; have A68 := Aside0.mk A680; clear A680; have HT_ := Option.some.inj H; clear H
          go_wp2_with (first | ((with_reducible refine gate_callee (f := 12) rfl ?_); refine goesL_ (some 106) rfl rfl Try.func12 (by kernel_rfl) rfl #[] rfl argx ?_; (with_reducible refine (customslaw30_awake.calls _ (HT_ ▸ A68.out)).mono ?_); rintro e w69 ⟨rfl, hb⟩; refine ⟨_, rfl, ?_⟩; have n3_ := Aside0.mk (below_step bel hb); (try clear HO_5); (try clear HO_7); (try clear BK112); clear HB; have HB := n3_; clear n3_; (try clear hb); (try clear hb2); (try clear hk); (try clear hi)))
          go_ret
          exact ⟨by first | rfl | (simp [errW_none, errW_some] <;> rfl) | (simp [*, errW_none, errW_some] <;> rfl), bel⟩
 ·rw [if_neg c6] at H
  have c6b0 : (t116 == 0) = false := beq_eq_false_iff_ne.mpr c6; have c6b1 : (t116 != 0) = true := bne_iff_ne.mpr c6
  by_cases c70 : (t113.length : Int) = 0
  ·rw [if_pos c70] at H
   have c70b0 : ((t113.length : Int) == 0) = true := beq_iff_eq.mpr c70; have c70b1 : ((t113.length : Int) != 0) = false := bne_eq_false_iff_eq.mpr c70; clear c70; replace H := Option.bind_eq_some_iff.mp H; obtain ⟨t117, A710, H⟩ := H; replace H : (some t117) = some true := H; have A71 := Aside0.mk A710; clear A710; have HT_ := Option.some.inj H; clear H
   go_enter Try.func3, Try.ntmps3
   go_wp2_with (first | ((with_reducible refine gate_callee (f := 9) rfl ?_); refine goesL_ (some 14) rfl rfl Try.func9 (by kernel_rfl) rfl #[.slice A0 l0.length c0] rfl argx ?_; (with_reducible refine (customsmade_Ledger.calls k _ _ l0 t101 _ ?side1 ?side2 A3.out).mono ?_); (case side1 => repeat (first | exact HR0.out | (with_reducible refine Kd.C_alloc ?_ _) | (with_reducible refine Kd.C_drewN ?_ _) | (with_reducible refine Kd.C_drew ?_))); (case side2 => exact HC0.out); rintro e w72 ⟨v102, rfl, ho0, hb⟩; refine ⟨_, rfl, ?_⟩; have qb_ := below_both bel hb; have n0_ := Aside0.mk (Kd.R_lower ho0 qb_.2); have n1_ := Aside0.mk (qb_.1); clear HB; have HO103 := n0_; have HB := n1_; clear qb_; clear n0_ n1_; (try clear hb); (try clear hb2); (try clear hk); (try clear hi); (try clear ho0)) | ((with_reducible refine gate_dst (N := 17) rfl ?_); refine box_event ?hg (N := 17) ?hd (cs := #[.slice A1 l1.length c1, .int .i64 0]) (t := 30) ?hr ?_; (case hd => rfl); (case hg => rfl); (case hr => first | (go_simp; done) | (go_simp; rfl)); intro gb104 hg w73 hbox hb; have qb_ := below_both bel hb; have n0_ := Aside0.mk (Kd.R_below (rowx HO103.out) hb); have n1_ := Aside0.mk (qb_.1); have n2_ := Aside0.mk ((show IsS30 w w73 gb104 l1 0 from ⟨_, _, hbox, (by rw [hg]; exact qb_.2 : w.heap.size ≤ gb104), HR1.out⟩)); clear HO103; clear HB; have HO103 := n0_; have HB := n1_; have HI104 := n2_; clear qb_; clear n0_ n1_ n2_; clear hb hbox hg; obtain ⟨Ao74, co74, eo74⟩ := Kd.R_slice HO103.out; subst eo74) | ((with_reducible refine gate_callee (f := 10) rfl ?_); refine goesL_ (some 20) rfl rfl Try.func10 (by kernel_rfl) rfl #[.pointer (some ⟨gb104, 0, none⟩), .int .i64 (t101.length : Int)] rfl argx ?_; (with_reducible refine (customsmade_Entry.calls gb104 l1 0 (t101.length : Int) t105 t106 t107 t108 t109 t110 t111 w _ ?side1 ?side2 A4.out).mono ?_); (case side1 => repeat (first | (with_reducible first | exact HI104.out | apply IsS30.alloc | apply IsS30.drewN | apply IsS30.drew | apply IsS30.set_1) | exact HI104.out)); (case side2 => repeat (first | (with_reducible first | exact HB.out | apply below_alloc | apply pw_below_drewN | apply below_drew1 | refine below_set ?_ (IsS30.ge HI104.out)) | exact HB.out)); rintro e w75 ⟨rfl, hi, hb, hk⟩; refine ⟨_, rfl, ?_⟩; have n0_ := Aside0.mk (Kd.R_mono (Kd.R_keep (IsS30.apart (show IsS30 w _ gb104 l1 0 from by repeat (first | (with_reducible first | exact HI104.out | apply IsS30.alloc | apply IsS30.drewN | apply IsS30.drew | apply IsS30.set_1) | exact HI104.out)) (rowx HO103.out) (by decide)) hk (fun _ h => h.2)) (fun _ h => h.1)); have n1_ := Aside0.mk (hb); have n2_ := Aside0.mk (hi); clear HO103; clear HB; clear HI104; have HO103 := n0_; have HB := n1_; have HI104 := n2_; clear n0_ n1_ n2_; (try clear hb); (try clear hb2); (try clear hk); (try clear hi)) | ((with_reducible refine gate_dst (N := 6) rfl ?_); refine box_event ?hg (N := 6) ?hd (cs := #[.int .i64 0, .int .i64 0, .int .i64 0, .int .i64 0, .int .i64 0, .int .i64 0]) (t := 26) ?hr ?_; (case hd => rfl); (case hg => rfl); (case hr => first | (go_simp; done) | (go_simp; rfl)); intro gb112 hg w76 hbox hb; have n0_ := Aside0.mk (Kd.R_below (Kd.R_elderB (rowx HO103.out) gb112 (Nat.le_of_eq hg.symm)) hb); have n1_ := Aside0.mk (IsS30.below (by repeat (first | (with_reducible first | exact HI104.out | apply IsS30.alloc | apply IsS30.drewN | apply IsS30.drew | apply IsS30.set_1) | exact HI104.out)) hb); have n2_ := Aside0.mk (below_step zPA14 hb); have n3_ := Aside0.mk (hbox); have n5_ := Aside0.mk ((by rw [hg]; exact (below_size zPA14) : w.heap.size ≤ gb112)); have n6_ := Aside0.mk ((by rw [hg]; exact Nat.ne_of_lt (IsS30.lt (show IsS30 w _ gb104 l1 t111 from by repeat (first | (with_reducible first | exact HI104.out | apply IsS30.alloc | apply IsS30.drewN | apply IsS30.drew | apply IsS30.set_1) | exact HI104.out))) : gb104 ≠ gb112)); have n7_ := Aside0.mk (Ne.symm n6_.out); clear HO103; clear HI104; clear HB; have HO103 := n0_; have HI104 := n1_; have HB := n2_; have BK112 := n3_; have GE112 := n5_; have NB104_112 := n6_; have NB112_104 := n7_; clear n0_ n1_ n2_ n3_ n5_ n6_ n7_; clear hb hbox hg; have hnb77 := NB112_104.out; have hnc77 := NB104_112.out; obtain ⟨hcz78_0, hcz78_1, hcz78_2, hcz78_3, hcz78_4, hcz78_5, hfz78_0, hfz78_1, hfz78_2, hfz78_3, hfz78_4, hfz78_5⟩ := cells6 BK112.out) | ((with_reducible refine gate_callee (f := 11) rfl ?_); refine goesL_ (some 24) rfl rfl Try.func11 (by kernel_rfl) rfl #[.slice Ao74 t101.length co74, .agg #[.int .i64 t105, .int .i64 t106, .int .i64 t107, .int .i64 t108, .int .i64 t109, .int .i64 t110]] rfl argx ?_; (with_reducible refine (ledger_Append.calls _ _ t101 t105 t106 t107 t108 t109 t110 t113 t116 _ ?side1 ?side2 A5.out).mono ?_); (case side1 => refine (Kd.R_reads' (e := 26) (base := w.heap.size) (ok := fun k_ => (True ∧ k_ ≠ gb112)) (n := t101.length) (c := co74) ?_).2.2; exact zPA8); (case side2 => exact (Kd.R_reads' HO103.out).2.1); rintro e w79 ⟨v114, rfl, ho0, hb⟩; refine ⟨_, rfl, ?_⟩; have n1_ := Aside0.mk (Kd.R_lower (Kd.R_newB (Kd.R_new' ho0 (Kd.R_lt zPA8)) (g := gb112) (o := .cells #[.int .i64 t105, .int .i64 t106, .int .i64 t107, .int .i64 t108, .int .i64 t109, .int .i64 t110] 26 (0, 0)) zPA10) (below_size zPA15)); have n2_ := Aside0.mk (IsS30.below (show IsS30 w ((((((w76.setCell ⟨gb112, 0, none⟩ (.int .i64 t105)).setCell ⟨gb112, 1, none⟩ (.int .i64 t106)).setCell ⟨gb112, 2, none⟩ (.int .i64 t107)).setCell ⟨gb112, 3, none⟩ (.int .i64 t108)).setCell ⟨gb112, 4, none⟩ (.int .i64 t109)).setCell ⟨gb112, 5, none⟩ (.int .i64 t110)) gb104 l1 t111 from by repeat (first | (with_reducible first | exact HI104.out | apply IsS30.alloc | apply IsS30.drewN | apply IsS30.drew | apply IsS30.set_1 | refine IsS30.far ?_ NB104_112.out _) | exact HI104.out)) hb); have n4_ := Aside0.mk (below_step zPA15 hb); (try clear HO103); clear HI104; (try clear BK112); clear HB; have HO115 := n1_; have HI104 := n2_; have HB := n4_; clear n1_ n2_ n4_; (try clear hb); (try clear hb2); (try clear hk); (try clear hi); (try clear ho0); obtain ⟨Ao80, co80, eo80⟩ := Kd.R_slice HO115.out; subst eo80) | (go_at_call 12; (with_reducible refine (customslaw30_awake.calls _ (HT_ ▸ A71.out)).mono ?_); rintro e w81 ⟨rfl, hb⟩; have n2_ := Aside0.mk (IsS30.below (by repeat (first | (with_reducible first | exact HI104.out | apply IsS30.alloc | apply IsS30.drewN | apply IsS30.drew | apply IsS30.set_1 | refine IsS30.far ?_ NB104_112.out _) | exact HI104.out)) hb); have n4_ := Aside0.mk (below_step zPA15 hb); (try clear HO103); (try clear HO115); clear HI104; (try clear BK112); clear HB; have HI104 := n2_; have HB := n4_; clear n2_ n4_; (try clear hb); (try clear hb2); (try clear hk); (try clear hi)))
   go_ret
   exact ⟨by first | rfl | (simp [errW_none, errW_some] <;> rfl) | (simp [*, errW_none, errW_some] <;> rfl), by repeat (first | (with_reducible first | exact HB.out | apply below_alloc | apply pw_below_drewN | apply below_drew1 | refine below_set ?_ (IsS30.ge HI104.out) | refine below_set ?_ GE112.out) | exact HB.out)⟩
  ·rw [if_neg c70] at H
   have c70b0 : ((t113.length : Int) == 0) = false := beq_eq_false_iff_ne.mpr c70; have c70b1 : ((t113.length : Int) != 0) = true := bne_iff_ne.mpr c70
   have c70b2 : ¬ (t113 = []) := fun h_ => c70 (by rw [h_]; rfl)
   cases H
end Go.Proofs.Ytgedkdofhonicaa.PF
/- The law LedgerFold in plain words. -/
namespace Go.Proofs.Ytgedkdofhonicaa.E
set_option linter.unusedVariables false
set_option linter.unusedSimpArgs false
open Go.RowKit Go.Proofs.YtgedkdofhonicaaW.PrintWords Go.Proofs.YtgedkdofhonicaaW.PrintLast Go.Proofs.YtgedkdofhonicaaW.PrintMore Go.Proofs.Ytgedkdofhonicaa.PA Go.Proofs.Ytgedkdofhonicaa.PM Go.Proofs.Ytgedkdofhonicaa.PC Go.Proofs.Ytgedkdofhonicaa.PF Go.Proofs.Ytgedkdofhonicaa.G
theorem same_from {l : List S26} (hl : l.length ≤ 100000) : ∀ (n i : Nat), i + n = l.length → Ev (fun k => customsref27_SameLedger.l0 k l l (i : Int)) true
  | 0, i, hi => by
    refine evShift ?_
    simp only [customsref27_SameLedger.l0]
    exact evNeg (by omega) (evNow rfl)
  | n + 1, i, hi => by
    have hw : wrap64 ((i : Int) + 1) = ((i + 1 : Nat) : Int) := by rw [wrap64_id (by omega) (by omega)]; omega
    refine evShift ?_
    simp only [customsref27_SameLedger.l0]
    refine evPos (by omega) (evPos (by omega) (evPos (by omega) (evNeg (by simp) ?_)))
    rw [hw]
    exact same_from hl n (i + 1) (by omega)
theorem same_ev {l : List S26} (hl : l.length ≤ 100000) : Ev (fun k => customsref27_SameLedger.f k l l) true := by
  unfold customsref27_SameLedger.f
  exact evPos rfl (same_from hl l.length 0 (by omega))
theorem balOf_snoc {x : List S26} {e : S26} (hx : Good x) (hz : (addC x (readTo x x.length).2.1 (readTo x x.length).2.2 e).1 = 0) (i : Int) :
    balOf (x ++ [e]) i = if i = e.f3 then aft (balOf x i) (kindOf x e) (amtOf x e) else balOf x i := by
  have ha := (addC_zero hx.inv hz).2.2.2.2.2
  unfold balOf
  rw [read_snoc hx.read, if_pos hz, ha, if_pos hx.read]
  show (if i = e.f3 then _ else _) = _
  by_cases h : i = e.f3
  · rw [if_pos h, if_pos h, h]
  · rw [if_neg h, if_neg h]
theorem fold_loop {x : List S26} {e : S26} (hx : Good x) (hl : x.length ≤ 30) (hz : (addC x (readTo x x.length).2.1 (readTo x x.length).2.2 e).1 = 0) (hy : Good (x ++ [e])) : ∀ (n : Nat) (i : Int), i + n = 6 → 1 ≤ i → Ev (fun k => customslaw30_LedgerFold.l0 k x (x ++ [e]) (kindOf x e) (amtOf x e) i e.f0 e.f1 e.f2 e.f3 e.f4 e.f5) true
  | 0, i, hi, h1 => by
    refine evShift ?_
    simp only [customslaw30_LedgerFold.l0]
    exact evNeg (by omega) (evBind0 awake_true (evNow rfl))
  | n + 1, i, hi, h1 => by
    have ih := fold_loop hx hl hz hy n (i + 1) (by omega) (by omega); have hw : wrap64 (i + 1) = i + 1 := wrap64_id (by omega) (by omega); have hi64 : i64 i := i64_mk (by omega) (by omega); have hb := balOf_snoc hx hz i
    refine evShift ?_
    simp only [customslaw30_LedgerFold.l0]
    refine evPos (by omega) (evBind0 (balance_good hx.wf hi64) ?_)
    rw [hw]
    by_cases h3 : i = e.f3
    · rw [if_pos h3] at hb
      refine evPos h3 (evBind0 (after_f i (balOf x i) _ _) (evBind0 (balance_good hy.wf hi64) ?_))
      rw [hb]
      exact evNeg (by simp) ih
    · rw [if_neg h3] at hb
      refine evNeg h3 (evBind0 (balance_good hy.wf hi64) ?_)
      rw [hb]
      exact evNeg (by simp) ih
theorem fold_law (l0 l1 : List Int) (h1 : l1.length ≤ 9223372036854775807) : ∃ k, customslaw30_LedgerFold.f k l0 l1 = some true := by
  obtain ⟨x, hx, hl, hxe⟩ := made_ev l0; obtain ⟨e, j, he, hm, _⟩ := entry_some l1 h1 0 (x.length : Int) (by omega) (by omega) (by omega) (by omega)
  have key : Ev (fun k => customslaw30_LedgerFold.f k l0 l1) true := by
    unfold customslaw30_LedgerFold.f
    refine evBind hxe (evBind0 he ?_)
    by_cases hz : (appendR x e).2 = 0
    · obtain ⟨z0, z1, z2⟩ := appendR_zero hz
      have hy : Good (x ++ [e]) := ⟨by rw [read_snoc z0]; exact z1, by rw [List.length_append, List.length_singleton]; omega⟩
      refine evBind0 (a := (x ++ [e], 0)) (by rw [append_good hx.wf e, z2]) ?_
      refine evPos rfl (evPos ?_ (evPos (by omega) (evPos ?_ (evNeg ?_ (evPos ?_ ?_)))))
      · show ((x ++ [e]).length : Int) = _
        rw [wrap64_id (by omega) (by omega), List.length_append, List.length_singleton]
        omega
      · show _ < ((x ++ [e]).length : Int)
        rw [List.length_append, List.length_singleton]
        omega
      · show ¬ ((!((rd_T26 (x ++ [e]) (x.length : Int)).f0 == e.f0) || _) = true)
        rw [rd_new]
        simp
      · show _ ≤ ((x ++ [e]).length : Int)
        rw [List.length_append, List.length_singleton]
        omega
      · have ht : (x ++ [e]).take ((x.length : Int)).toNat = x := by rw [Int.toNat_natCast, List.take_append_of_le_length (Nat.le_refl _), List.take_length]
        refine evBind (a := true) (by show Ev (fun k => customsref27_SameLedger.f k ((x ++ [e]).take ((x.length : Int)).toNat) x) true; rw [ht]; exact same_ev (by omega)) ?_
        have hlp := fold_loop hx hl z1 hy 5 1 (by omega) (by omega); have hzz := addC_zero hx.inv z1
        refine evShift ?_
        simp only [customslaw30_LedgerFold.j0]
        refine evNeg (by simp) ?_
        by_cases h9 : e.f2 = 9
        · have h4 := hzz.2.2.2.1 h9
          have hr := inR_iff.1 hzz.2.1; have hw : wrap64 (e.f4 - 1) = e.f4 - 1 := wrap64_id (by omega) (by omega)
          rw [hw]
          refine evPos h9 (evNeg (by omega) (evNeg (by omega) (evPos (by omega) (evPos (by omega) (evShift ?_)))))
          simp only [customslaw30_LedgerFold.j1]
          have e1 : kindOf x e = (rd_T26 x (e.f4 - 1)).f2 := if_pos h9; have e2 : amtOf x e = wrap64 (-(rd_T26 x (e.f4 - 1)).f4) := if_pos h9
          rw [e1, e2] at hlp
          exact hlp
        · refine evNeg h9 (evShift ?_)
          simp only [customslaw30_LedgerFold.j1]
          have e1 : kindOf x e = e.f2 := if_neg h9; have e2 : amtOf x e = e.f4 := if_neg h9
          rw [e1, e2] at hlp
          exact hlp
    · refine evBind0 (append_good hx.wf e) (evNeg hz ?_)
      have h0 : (appendR x e).1 = [] := by
        unfold appendR at hz ⊢
        rw [if_pos hx.read] at hz ⊢
        by_cases ha : (addC x (readTo x x.length).2.1 (readTo x x.length).2.2 e).1 = 0
        · rw [if_pos ha] at hz; exact absurd rfl hz
        · rw [if_neg ha]
      rw [h0]
      exact evPos rfl (evBind0 awake_true (evNow rfl))
  obtain ⟨K, hK⟩ := key
  exact ⟨K, hK K (Nat.le_refl _)⟩
theorem fold_said (l0 l1 : List Int) (m0 : l0.length ≤ maxLen) (w0 : ∀ n ∈ l0, (Lit.int .i64 n).wf = true) (m1 : l1.length ≤ maxLen) (w1 : ∀ n ∈ l1, (Lit.int .i64 n).wf = true) : ∃ k, customslaw30_LedgerFold.f k l0 l1 = some true :=
  fold_law l0 l1 (Nat.le_trans m1 (by unfold maxLen; decide))
end Go.Proofs.Ytgedkdofhonicaa.E

namespace Go.Proofs.Ytgedkdofhonicaa.ledgerFold
open Go.ChangeShapes Go.WideShapes Go.ChangeAt Go.RowKit
open Go.Proofs.YtgedkdofhonicaaW.PrintWords Go.Proofs.YtgedkdofhonicaaW.PrintLast Go.Proofs.YtgedkdofhonicaaW.PrintMore Go.Proofs.Ytgedkdofhonicaa.G Go.Proofs.Ytgedkdofhonicaa.PA Go.Proofs.Ytgedkdofhonicaa.PM Go.Proofs.Ytgedkdofhonicaa.PC Go.Proofs.Ytgedkdofhonicaa.PF
set_option linter.unusedVariables false
theorem own : ownKnob Try.prog.godebug = none := by kernel_rfl
theorem laidOut : laidOutB Try.prog = true := by kernel_rfl
theorem walk (A0 : Option Addr) (c0 : Nat) (l0 : List Int) (A1 : Option Addr) (c1 : Nat) (l1 : List Int) (w : World) (r0_ : Kd.C (Kd.int .i64) w A0 l0.length l0) (n0_ : l0.length ≤ c0) (r1_ : Kd.C (Kd.int .i64) w A1 l1.length l1) (n1_ : l1.length ≤ c1) (m0_ : l0.length ≤ maxLen) (w0_ : ∀ n ∈ l0, (Lit.int .i64 n).wf = true) (m1_ : l1.length ≤ maxLen) (w1_ : ∀ n ∈ l1, (Lit.int .i64 n).wf = true) :
    Calls Try.prog 3 #[.slice A0 l0.length c0, .slice A1 l1.length c1] w fun e w' => e = .returned (.bool true) ∧ Below w.heap.size w w' := by
  obtain ⟨k, h⟩ := E.fold_said l0 l1 m0_ w0_ m1_ w1_
  refine (customslaw30_LedgerFold.calls k A0 c0 l0 A1 c1 l1 w r0_ n0_ r1_ n1_ h).mono ?_
  rintro e w' ⟨rfl, hd⟩
  exact ⟨rfl, hd⟩
set_option maxRecDepth 100000 in
theorem lifted (os : Os) (started : os.Started) (H : Type) (enc : TypeId × Value → H) :
    ReturnsInHanded {} Try.checked os 3 .any (Rows.ledgerFoldSpec.pre6 enc Try.prog Try.f3 Rows.ledgerFoldRow.domain false) (Rows.ledgerFoldSpec.post enc Try.prog Try.f3 false true false false) := by
  refine returnsInHanded_of_change (C := Try.checked) own started (by kernel_rfl) Try.func3
    (ChangeSpec.witness6 (enc := enc) (C := Try.checked) false ⟨#[], #[.slice none 0 0, .slice none 0 0], []⟩ 8 (by kernel_rfl) (by kernel_rfl) (by kernel_rfl) (by kernel_rfl)) ?_
  intro W base args ds gs before hval0 hW hcnd _
  have hval : ∀ (j : Nat) t v, Try.f3.params[j]? = some t → args[j]? = some v → Value.okWide Try.prog W .any base t v := hval0; have hW' := hW; obtain ⟨p, q, hA0, hV, rfl, hfz, hnd⟩ := hW; have hA : DataW.TrodAll enc Try.prog W 0 (fun _ => true) true Try.f3.params.toList args.toList ds p := hA0
  rw [Try.params3] at hA hval
  obtain ⟨v0, vs0, d0, ds0, p0, q0, hargs, rfl, rfl, h0, r0⟩ := trodAll_cons hA; obtain ⟨v1, vs1, d1, ds1, p1, q1, rfl, rfl, rfl, h1, r1⟩ := trodAll_cons r0; obtain ⟨rfl, rfl, rfl⟩ := trodAll_nil r1
  obtain rfl : args = #[v0, v1] := by cases args; simp_all
  obtain ⟨rfl, rfl⟩ := trodVars_none hV; obtain ⟨sa0, sl0, sc0, rfl⟩ := okWide_slice Try.underlying22 (hval 0 22 v0 rfl rfl); have k0 := h0
  have lt0 : ∀ x ∈ p0, x.block < W.heap.size := by obtain ⟨m, hm⟩ := k0; exact DataW.trod_lt m _ _ _ hm
  obtain ⟨A0, c0, l0, e0, n0_, r0_, m0_, w0_⟩ : ∃ A c, ∃ l : List Int, (sa0 = A ∧ sl0 = l.length ∧ sc0 = c) ∧ l.length ≤ c ∧ Kd.C (Kd.int .i64) W A l.length l ∧ l.length ≤ maxLen ∧ ∀ n ∈ l, (Lit.int .i64 n).wf = true := by
    obtain ⟨fuel, hf⟩ := h0; obtain ⟨A, c, l, e, r⟩ := in_ints Try.underlying22 Try.underlying3 (by kernel_rfl) hf
    exact ⟨A, c, l, by simpa [Value.cells] using e, r⟩
  obtain ⟨rfl, rfl, rfl⟩ := e0; obtain ⟨sa1, sl1, sc1, rfl⟩ := okWide_slice Try.underlying22 (hval 1 22 v1 rfl rfl); have k1 := h1
  have lt1 : ∀ x ∈ p1, x.block < W.heap.size := by obtain ⟨m, hm⟩ := k1; exact DataW.trod_lt m _ _ _ hm
  obtain ⟨A1, c1, l1, e1, n1_, r1_, m1_, w1_⟩ : ∃ A c, ∃ l : List Int, (sa1 = A ∧ sl1 = l.length ∧ sc1 = c) ∧ l.length ≤ c ∧ Kd.C (Kd.int .i64) W A l.length l ∧ l.length ≤ maxLen ∧ ∀ n ∈ l, (Lit.int .i64 n).wf = true := by
    obtain ⟨fuel, hf⟩ := h1; obtain ⟨A, c, l, e, r⟩ := in_ints Try.underlying22 Try.underlying3 (by kernel_rfl) hf
    exact ⟨A, c, l, by simpa [Value.cells] using e, r⟩
  obtain ⟨rfl, rfl, rfl⟩ := e1; clear hA0 hval0
  refine (walk _ _ _ _ _ _ W r0_ n0_ r1_ n1_ m0_ w0_ m1_ w1_).mono fun e W' ⟨he, bel⟩ => ?_
  subst he
  exact ⟨_, rfl, _, _, _, [], _, [], hW', trodAll_mk1 (shut_bool Try.underlying4 _), (trodAll_cons_mk (Below.trod laidOut (by kernel_rfl) (of_decide_eq_true (by kernel_rfl)) k0 bel lt0) (trodAll_cons_mk (Below.trod laidOut (by kernel_rfl) (of_decide_eq_true (by kernel_rfl)) k1 bel lt1) trodAll_mk0)), rfl, bel.frame _, fun h => by cases h⟩
theorem over : Rows.ledgerFoldRow.holds Try.pinned (OpenSpec.ofChange Rows.ledgerFoldSpec) :=
  OpenClaim.holds_of_wide 3 Try.f3 rfl rfl rfl rfl rfl rfl rfl ⟨rfl, rfl, rfl, rfl, rfl⟩ rfl rfl rfl rfl rfl (by kernel_rfl) Try.func3 (by kernel_rfl)
    (of_decide_eq_true (by kernel_rfl)) (by unfold Func.isWrapper; first | (rw [if_pos (by decide +kernel)]; kernel_rfl) | (rw [if_neg (by decide +kernel)]; exact ⟨rfl, rfl⟩))
    (fun os started H enc _ => lifted os started H enc)
theorem proved : Rows.LedgerFoldSaid := over
#print axioms proved
end Go.Proofs.Ytgedkdofhonicaa.ledgerFold
namespace Go.Proofs.Ytgedkdofhonicaa
/-- The row, under a short name, for the claim. -/
theorem ledgerFold_holds : Rows.LedgerFoldSaid := ledgerFold.proved
end Go.Proofs.Ytgedkdofhonicaa
