/- The row of the law GuaranteeValidate: whatever the arguments, the call returns true and leaves them as they were. Its conditions: those of the given row. -/
import Derived.Test.YtakhjhiofmgpnaaRows
import Derived.Test.YtakhjhiofmgpnaaE9
import Derived.Test.YtakhjhiofmgpnaaO1
import Derived.WalkKit
import Derived.ProofKit
import Derived.OpenShut
import Derived.ShutString
import Derived.ChangeOld
import Derived.Below
import Derived.Carry
import Derived.SizedLaws
namespace Go.Proofs.Ytakhjhiofmgpnaa.guaranteeValidate
open Go.ChangeShapes Go.WideShapes Go.ChangeAt Go.RowKit
open Go.Proofs.YtakhjhiofmgpnaaW.PrintWords Go.Proofs.YtakhjhiofmgpnaaW.PrintLast Go.Proofs.YtakhjhiofmgpnaaW.PrintMore Go.Proofs.Ytakhjhiofmgpnaa.G Go.Proofs.Ytakhjhiofmgpnaa.PA Go.Proofs.Ytakhjhiofmgpnaa.PB
set_option linter.unusedVariables false
theorem own : ownKnob Try.prog.godebug = none := by kernel_rfl
theorem laidOut : laidOutB Try.prog = true := by kernel_rfl
theorem walk (A0 : Option Addr) (c0 : Nat) (l0 : List Int) (x1_0 : Int) (x1_1 : Int) (x1_2 : Int) (A1 : Option Addr) (c1 : Nat) (l1 : List S39) (a2 : Bool) (w : World) (r0_ : Kd.C (Kd.int .i64) w A0 l0.length l0) (n0_ : l0.length ≤ c0) (r1_ : Kd.C k39 w A1 l1.length l1) (n1_ : l1.length ≤ c1) (m0_ : l0.length ≤ maxLen) (w0_ : ∀ n ∈ l0, (Lit.int .i64 n).wf = true) (w1_0 : (Lit.int .i64 x1_0).wf = true) (w1_1 : (Lit.int .i64 x1_1).wf = true) (w1_2 : (Lit.int .i64 x1_2).wf = true) (m1_ : l1.length ≤ maxLen) (w1_3 : ∀ u ∈ l1, (Lit.int .i64 u.f0).wf = true ∧ (Lit.int .i64 u.f1).wf = true) :
    Calls Try.prog 3 #[.slice A0 l0.length c0, .agg #[.int .i64 x1_0, .int .i64 x1_1, .int .i64 x1_2, .slice A1 l1.length c1], .bool a2] w fun e w' => e = .returned (.bool true) ∧ Below w.heap.size w w' := by
  obtain ⟨k, h⟩ := E.validate l0 x1_0 x1_1 x1_2 l1 a2 m0_ w0_ w1_0 w1_1 w1_2 m1_ w1_3
  refine (customslaw23_GuaranteeValidate.calls k A0 c0 l0 x1_0 x1_1 x1_2 A1 c1 l1 a2 true w r0_ n0_ r1_ n1_ h).mono ?_
  rintro e w' ⟨rfl, hd⟩
  exact ⟨rfl, hd⟩
set_option maxRecDepth 100000 in
theorem lifted (os : Os) (started : os.Started) (H : Type) (enc : TypeId × Value → H) :
    ReturnsInHanded {} Try.checked os 3 .any (Rows.guaranteeValidateSpec.pre6 enc Try.prog Try.f3 Rows.guaranteeValidateRow.domain false) (Rows.guaranteeValidateSpec.post enc Try.prog Try.f3 false true false false) := by
  refine returnsInHanded_of_change (C := Try.checked) own started (by kernel_rfl) Try.func3
    (ChangeSpec.witness6 (enc := enc) (C := Try.checked) false ⟨#[], #[.slice none 0 0, .agg #[.int .i64 0, .int .i64 0, .int .i64 0, .slice none 0 0], .bool false], []⟩ 8 (by kernel_rfl) (by kernel_rfl) (by kernel_rfl) (by kernel_rfl)) ?_
  intro W base args ds gs before hval0 hW hcnd _
  have hval : ∀ (j : Nat) t v, Try.f3.params[j]? = some t → args[j]? = some v → Value.okWide Try.prog W .any base t v := hval0
  have hW' := hW
  obtain ⟨p, q, hA0, hV, rfl, hfz, hnd⟩ := hW
  have hA : DataW.TrodAll enc Try.prog W 0 (fun _ => true) true Try.f3.params.toList args.toList ds p := hA0
  rw [Try.params3] at hA hval
  obtain ⟨v0, vs0, d0, ds0, p0, q0, hargs, rfl, rfl, h0, r0⟩ := trodAll_cons hA
  obtain ⟨v1, vs1, d1, ds1, p1, q1, rfl, rfl, rfl, h1, r1⟩ := trodAll_cons r0
  obtain ⟨v2, vs2, d2, ds2, p2, q2, rfl, rfl, rfl, h2, r2⟩ := trodAll_cons r1
  obtain ⟨rfl, rfl, rfl⟩ := trodAll_nil r2
  obtain rfl : args = #[v0, v1, v2] := by cases args; simp_all
  obtain ⟨rfl, rfl⟩ := trodVars_none hV
  obtain ⟨sa0, sl0, sc0, rfl⟩ := okWide_slice Try.underlying22 (hval 0 22 v0 rfl rfl)
  have k0 := h0
  have lt0 : ∀ x ∈ p0, x.block < W.heap.size := by obtain ⟨m, hm⟩ := k0; exact DataW.trod_lt m _ _ _ hm
  obtain ⟨A0, c0, l0, e0, n0_, r0_, m0_, w0_⟩ : ∃ A c, ∃ l : List Int, (sa0 = A ∧ sl0 = l.length ∧ sc0 = c) ∧ l.length ≤ c ∧ Kd.C (Kd.int .i64) W A l.length l ∧ l.length ≤ maxLen ∧ ∀ n ∈ l, (Lit.int .i64 n).wf = true := by
    obtain ⟨fuel, hf⟩ := h0
    obtain ⟨A, c, l, e, r⟩ := in_ints Try.underlying22 Try.underlying3 (by kernel_rfl) hf
    exact ⟨A, c, l, by simpa [Value.cells] using e, r⟩
  obtain ⟨rfl, rfl, rfl⟩ := e0
  have k1 := h1
  have lt1 : ∀ x ∈ p1, x.block < W.heap.size := by obtain ⟨m, hm⟩ := k1; exact DataW.trod_lt m _ _ _ hm
  obtain ⟨x1_0, x1_1, x1_2, A1, c1, l1, rfl, w1_0, w1_1, w1_2, n1_, r1_, m1_, w1_3⟩ := in_guarantee Try.underlying25 (by kernel_rfl) (by kernel_rfl) Try.underlying3 Try.underlying3 Try.underlying3 Try.underlying23 Try.underlying39 (by kernel_rfl) rfl rfl (by kernel_rfl) (by kernel_rfl) Try.underlying3 Try.underlying3 (hval 1 25 v1 rfl rfl) h1
  obtain ⟨a2, rfl, rfl, rfl⟩ := open_bool Try.underlying4 (hval 2 4 v2 rfl rfl) h2
  clear hA0 hval0
  refine (walk _ _ _ _ _ _ _ _ _ _ W r0_ n0_ r1_ n1_ m0_ w0_ w1_0 w1_1 w1_2 m1_ w1_3).mono fun e W' ⟨he, bel⟩ => ?_
  subst he
  exact ⟨_, rfl, _, _, _, [], _, [], hW', trodAll_mk1 (shut_bool Try.underlying4 _), (trodAll_cons_mk (Below.trod laidOut (by kernel_rfl) (of_decide_eq_true (by kernel_rfl)) k0 bel lt0) (trodAll_cons_mk (Below.trod laidOut (by kernel_rfl) (of_decide_eq_true (by kernel_rfl)) k1 bel lt1) (trodAll_cons_mk (shut_bool Try.underlying4 _) trodAll_mk0))), rfl, bel.frame _, fun h => by cases h⟩
theorem over : Rows.guaranteeValidateRow.holds Try.pinned (OpenSpec.ofChange Rows.guaranteeValidateSpec) :=
  OpenClaim.holds_of_wide 3 Try.f3 rfl rfl rfl rfl rfl rfl rfl ⟨rfl, rfl, rfl, rfl, rfl⟩ rfl rfl rfl rfl rfl (by kernel_rfl) Try.func3 (by kernel_rfl)
    (of_decide_eq_true (by kernel_rfl)) (by unfold Func.isWrapper; first | (rw [if_pos (by decide +kernel)]; kernel_rfl) | (rw [if_neg (by decide +kernel)]; exact ⟨rfl, rfl⟩))
    (fun os started H enc _ => lifted os started H enc)
theorem proved : Rows.GuaranteeValidateSaid := over
#print axioms proved
end Go.Proofs.Ytakhjhiofmgpnaa.guaranteeValidate
namespace Go.Proofs.Ytakhjhiofmgpnaa
/-- The row, under a short name, for the claim. -/
theorem guaranteeValidate_holds : Rows.GuaranteeValidateSaid := guaranteeValidate.proved
end Go.Proofs.Ytakhjhiofmgpnaa
