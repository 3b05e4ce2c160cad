/- The law GuaranteeValidate in plain Lean. -/
import Derived.Test.YtakhjhiofmgpnaaE8
import Derived.Test.YtakhjhiofmgpnaaPBx3
namespace Go.Proofs.Ytakhjhiofmgpnaa.E
set_option linter.unusedVariables false
set_option linter.unusedSimpArgs false
open Go.RowKit Go.Proofs.YtakhjhiofmgpnaaW.PrintWords Go.Proofs.YtakhjhiofmgpnaaW.PrintLast Go.Proofs.YtakhjhiofmgpnaaW.PrintMore Go.Proofs.Ytakhjhiofmgpnaa.G Go.Proofs.Ytakhjhiofmgpnaa.PA Go.Proofs.Ytakhjhiofmgpnaa.PB

theorem validate (l0 : List Int) (x0 x1 x2 : Int) (l : List S39) (a2 : Bool) (m0 : l0.length ≤ maxLen) (v0 : ∀ n ∈ l0, (Lit.int .i64 n).wf = true) (w0 : (Lit.int .i64 x0).wf = true) (w1 : (Lit.int .i64 x1).wf = true) (w2 : (Lit.int .i64 x2).wf = true) (m : l.length ≤ maxLen) (w3 : ∀ u ∈ l, (Lit.int .i64 u.f0).wf = true ∧ (Lit.int .i64 u.f1).wf = true) :
    ∃ k, customslaw23_GuaranteeValidate.f k l0 x0 x1 x2 l a2 = some true := by
  have same : ∀ (a b c : Int) (u : List S39), Ev (fun k => (guarantee_Validate.f k a b c u).bind fun t152 => ((customsref21_ValidGuarantee.f k a b c u).bind fun t153 => (if t152 = t153 then ((guarantee_Total.f k a b c u).bind fun t154 => ((customsref21_Total.f k a b c u).bind fun t155 => (if t154 = t155 then ((customslaw23_awake.f k).bind fun t156 => (some t156)) else (some false)))) else (some false)))) true := fun a b c u =>
    evBind (validate_ev a b c u) (evBind (refvalid_ev a b c u) (evPos rfl (evBind (total_ev a b c u) (evBind (reftotal_ev a b c u) (evPos rfl (evBind awake_ev (evNow rfl)))))))
  have h : Ev (fun k => customslaw23_GuaranteeValidate.f k l0 x0 x1 x2 l a2) true := by
    unfold customslaw23_GuaranteeValidate.f
    refine evIf (fun _ => same _ _ _ _) (fun _ => ?_)
    obtain ⟨a, b, c, u, h1, _⟩ := made_ev l0
    exact evBind h1 (same a b c u)
  exact h.rounds
end Go.Proofs.Ytakhjhiofmgpnaa.E
