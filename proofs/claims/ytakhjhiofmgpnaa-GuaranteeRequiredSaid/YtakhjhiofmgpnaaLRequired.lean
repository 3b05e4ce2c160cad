/- The row of the law GuaranteeRequired: whatever the arguments, the call returns true and leaves them as they were. Its conditions: those of the given row. -/
import Derived.Test.YtakhjhiofmgpnaaRows
import Derived.Test.YtakhjhiofmgpnaaE6
import Derived.Test.YtakhjhiofmgpnaaO1
import Derived.WalkKit
import Derived.ProofKit
import Derived.OpenShut
import Derived.ShutString
import Derived.ChangeOld
import Derived.Below
import Derived.Carry
import Derived.SizedLaws
namespace Go.Proofs.Ytakhjhiofmgpnaa.guaranteeRequired
open Go.ChangeShapes Go.WideShapes Go.ChangeAt Go.RowKit
open Go.Proofs.YtakhjhiofmgpnaaW.PrintWords Go.Proofs.YtakhjhiofmgpnaaW.PrintLast Go.Proofs.YtakhjhiofmgpnaaW.PrintMore Go.Proofs.Ytakhjhiofmgpnaa.G Go.Proofs.Ytakhjhiofmgpnaa.PA Go.Proofs.Ytakhjhiofmgpnaa.PB
set_option linter.unusedVariables false
theorem own : ownKnob Try.prog.godebug = none := by kernel_rfl
theorem laidOut : laidOutB Try.prog = true := by kernel_rfl
theorem walk (x0_0 : Int) (x0_1 : Int) (x0_2 : Int) (A0 : Option Addr) (c0 : Nat) (l0 : List S39) (a1 : Int) (a2 : Bool) (w : World) (r0_ : Kd.C k39 w A0 l0.length l0) (n0_ : l0.length ≤ c0) (w0_0 : (Lit.int .i64 x0_0).wf = true) (w0_1 : (Lit.int .i64 x0_1).wf = true) (w0_2 : (Lit.int .i64 x0_2).wf = true) (m0_ : l0.length ≤ maxLen) (w0_3 : ∀ u ∈ l0, (Lit.int .i64 u.f0).wf = true ∧ (Lit.int .i64 u.f1).wf = true) (w1 : (Lit.int .i64 a1).wf = true) :
    Calls Try.prog 4 #[.agg #[.int .i64 x0_0, .int .i64 x0_1, .int .i64 x0_2, .slice A0 l0.length c0], .int .i64 a1, .bool a2] w fun e w' => e = .returned (.bool true) ∧ Below w.heap.size w w' := by
  obtain ⟨k, h⟩ := E.required x0_0 x0_1 x0_2 l0 a1 a2 w0_0 w0_1 w0_2 m0_ w0_3 w1
  refine (customslaw23_GuaranteeRequired.calls k x0_0 x0_1 x0_2 A0 c0 l0 a1 a2 true w r0_ n0_ h).mono ?_
  rintro e w' ⟨rfl, hd⟩
  exact ⟨rfl, hd⟩
set_option maxRecDepth 100000 in
theorem lifted (os : Os) (started : os.Started) (H : Type) (enc : TypeId × Value → H) :
    ReturnsInHanded {} Try.checked os 4 .any (Rows.guaranteeRequiredSpec.pre6 enc Try.prog Try.f4 Rows.guaranteeRequiredRow.domain false) (Rows.guaranteeRequiredSpec.post enc Try.prog Try.f4 false true false false) := by
  refine returnsInHanded_of_change (C := Try.checked) own started (by kernel_rfl) Try.func4
    (ChangeSpec.witness6 (enc := enc) (C := Try.checked) false ⟨#[], #[.agg #[.int .i64 0, .int .i64 0, .int .i64 0, .slice none 0 0], .int .i64 0, .bool false], []⟩ 8 (by kernel_rfl) (by kernel_rfl) (by kernel_rfl) (by kernel_rfl)) ?_
  intro W base args ds gs before hval0 hW hcnd _
  have hval : ∀ (j : Nat) t v, Try.f4.params[j]? = some t → args[j]? = some v → Value.okWide Try.prog W .any base t v := hval0
  have hW' := hW
  obtain ⟨p, q, hA0, hV, rfl, hfz, hnd⟩ := hW
  have hA : DataW.TrodAll enc Try.prog W 0 (fun _ => true) true Try.f4.params.toList args.toList ds p := hA0
  rw [Try.params4] at hA hval
  obtain ⟨v0, vs0, d0, ds0, p0, q0, hargs, rfl, rfl, h0, r0⟩ := trodAll_cons hA
  obtain ⟨v1, vs1, d1, ds1, p1, q1, rfl, rfl, rfl, h1, r1⟩ := trodAll_cons r0
  obtain ⟨v2, vs2, d2, ds2, p2, q2, rfl, rfl, rfl, h2, r2⟩ := trodAll_cons r1
  obtain ⟨rfl, rfl, rfl⟩ := trodAll_nil r2
  obtain rfl : args = #[v0, v1, v2] := by cases args; simp_all
  obtain ⟨rfl, rfl⟩ := trodVars_none hV
  have k0 := h0
  have lt0 : ∀ x ∈ p0, x.block < W.heap.size := by obtain ⟨m, hm⟩ := k0; exact DataW.trod_lt m _ _ _ hm
  obtain ⟨x0_0, x0_1, x0_2, A0, c0, l0, rfl, w0_0, w0_1, w0_2, n0_, r0_, m0_, w0_3⟩ := in_guarantee Try.underlying25 (by kernel_rfl) (by kernel_rfl) Try.underlying3 Try.underlying3 Try.underlying3 Try.underlying23 Try.underlying39 (by kernel_rfl) rfl rfl (by kernel_rfl) (by kernel_rfl) Try.underlying3 Try.underlying3 (hval 0 25 v0 rfl rfl) h0
  obtain ⟨a1, rfl, rfl, rfl, w1⟩ := open_int Try.underlying3 (hval 1 3 v1 rfl rfl) h1
  obtain ⟨a2, rfl, rfl, rfl⟩ := open_bool Try.underlying4 (hval 2 4 v2 rfl rfl) h2
  clear hA0 hval0
  refine (walk _ _ _ _ _ _ _ _ W r0_ n0_ w0_0 w0_1 w0_2 m0_ w0_3 w1).mono fun e W' ⟨he, bel⟩ => ?_
  subst he
  exact ⟨_, rfl, _, _, _, [], _, [], hW', trodAll_mk1 (shut_bool Try.underlying4 _), (trodAll_cons_mk (Below.trod laidOut (by kernel_rfl) (of_decide_eq_true (by kernel_rfl)) k0 bel lt0) (trodAll_cons_mk (shut_int Try.underlying3 w1) (trodAll_cons_mk (shut_bool Try.underlying4 _) trodAll_mk0))), rfl, bel.frame _, fun h => by cases h⟩
theorem over : Rows.guaranteeRequiredRow.holds Try.pinned (OpenSpec.ofChange Rows.guaranteeRequiredSpec) :=
  OpenClaim.holds_of_wide 4 Try.f4 rfl rfl rfl rfl rfl rfl rfl ⟨rfl, rfl, rfl, rfl, rfl⟩ rfl rfl rfl rfl rfl (by kernel_rfl) Try.func4 (by kernel_rfl)
    (of_decide_eq_true (by kernel_rfl)) (by unfold Func.isWrapper; first | (rw [if_pos (by decide +kernel)]; kernel_rfl) | (rw [if_neg (by decide +kernel)]; exact ⟨rfl, rfl⟩))
    (fun os started H enc _ => lifted os started H enc)
theorem proved : Rows.GuaranteeRequiredSaid := over
#print axioms proved
end Go.Proofs.Ytakhjhiofmgpnaa.guaranteeRequired
namespace Go.Proofs.Ytakhjhiofmgpnaa
/-- The row, under a short name, for the claim. -/
theorem guaranteeRequired_holds : Rows.GuaranteeRequiredSaid := guaranteeRequired.proved
end Go.Proofs.Ytakhjhiofmgpnaa
