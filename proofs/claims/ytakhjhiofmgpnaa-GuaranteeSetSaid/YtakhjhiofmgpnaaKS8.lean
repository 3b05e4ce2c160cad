/- The row of the law GuaranteeSet: whatever the arguments, the call returns true and leaves them as they were. Its conditions: those of the given row. -/
import Derived.Test.YtakhjhiofmgpnaaKS7
import Derived.Deep.SlicePairs
import Derived.Lib.SmallJoins
import Derived.ChangeSlices
import Derived.OpenShut
import Derived.Test.YtakhjhiofmgpnaaRows
import Derived.ProofKit
import Derived.ShutString
import Derived.ChangeOld
import Derived.Carry
import Derived.SizedLaws
/- What comes in, in the walks' own words: a slice of whole numbers, a slice of reservations, a guarantee by value. -/
namespace Go.Proofs.Ytakhjhiofmgpnaa.G
open Go.ChangeShapes Go.WideShapes Go.RowKit Go.Deep Go.Lib Go.Proofs.YtakhjhiofmgpnaaW.PrintWords Go.Proofs.YtakhjhiofmgpnaaW.PrintLast Go.Proofs.YtakhjhiofmgpnaaW.PrintMore Go.Proofs.Ytakhjhiofmgpnaa.PA
set_option linter.unusedVariables false
variable {H : Type} {enc : TypeId × Value → H} {P : Program} {W : World} {base : Nat} {spare : Nat → Bool} {held : Bool}
theorem in_ints {t e : TypeId} {fuel : Nat} {cs : List Value} {x : DataW H × List MemPlace} (ht : P.underlying t = some (.slice e)) (he : P.underlying e = some (.int .i64)) (hc : P.cellsOf e = 1)
    (h : DataW.trod enc P W base spare held fuel t cs = some x) :
    ∃ (A : Option Addr) (c : Nat) (l : List Int), cs = [.slice A l.length c] ∧ l.length ≤ c ∧ Kd.C (Kd.int .i64) W A l.length l ∧ l.length ≤ maxLen ∧ ∀ n ∈ l, (Lit.int .i64 n).wf = true := by
  rcases open_ints ht he hc h with ⟨rfl, _⟩ | ⟨a, len, cap, zs, rfl, _, hl, hm, hz, _, hcell, hwz⟩
  · exact ⟨none, 0, [], rfl, Nat.le_refl _, Kd.C_nil _ _, Nat.zero_le _, fun n h => by cases h⟩
  · have hlz : len ≤ zs.length := by rw [hz]; split <;> omega
    obtain ⟨l, hle⟩ : ∃ l, l = zs.take len := ⟨_, rfl⟩
    have hll : l.length = len := by rw [hle, List.length_take]; omega
    refine ⟨some a, cap, l, by rw [hll], by omega, ⟨rfl, by unfold maxLen at hm; omega, fun _ => ⟨a, rfl, fun j p hj => ?_⟩⟩, by omega, fun n hn => hwz n (by rw [hle] at hn; exact List.mem_of_mem_take hn)⟩
    have hj2 : j < len := by have := (List.getElem?_eq_some_iff.1 hj).1; omega
    refine ⟨[.int .i64 p], rfl, rfl, fun q u hq => ?_⟩
    have hq0 : q = 0 := by
      have := (List.getElem?_eq_some_iff.1 hq).1
      simp at this
      exact this
    subst hq0
    obtain rfl : Value.int .i64 p = u := by simpa using hq
    have hc1 := hcell j (by omega)
    rw [show j * (Kd.int .i64).sz + 0 = j by show j * 1 + 0 = j; omega, hc1]
    rw [hle, List.getElem?_take, if_pos hj2] at hj
    rw [List.getD_eq_getElem?_getD, hj]
    rfl
theorem in_pairs {t e : TypeId} {f0 f1 : Field} {fuel : Nat} {cs : List Value} {x : DataW H × List MemPlace} (ht : P.underlying t = some (.slice e)) (he : P.underlying e = some (.struct #[f0, f1]))
    (ce : P.cellsOf e = 2) (o0 : f0.offset = 0) (o1 : f1.offset = 1) (c0 : P.cellsOf f0.type = 1) (c1 : P.cellsOf f1.type = 1) (k0 : P.underlying f0.type = some (.int .i64)) (k1 : P.underlying f1.type = some (.int .i64))
    (h : DataW.trod enc P W base spare held fuel t cs = some x) :
    ∃ (A : Option Addr) (c : Nat) (l : List S39), cs = [.slice A l.length c] ∧ l.length ≤ c ∧ Kd.C k39 W A l.length l ∧ l.length ≤ maxLen ∧ ∀ u ∈ l, (Lit.int .i64 u.f0).wf = true ∧ (Lit.int .i64 u.f1).wf = true := by
  rcases open_slice_pairs ht he ce o0 o1 c0 c1 h with ⟨rfl, _⟩ | ⟨a, len, cap, m, n, V0, V1, D0, D1, P0, P1, rfl, _, hl, hm, hmm, _, hx⟩
  · exact ⟨none, 0, [], rfl, Nat.le_refl _, Kd.C_nil _ _, Nat.zero_le _, fun n h => by cases h⟩
  · have hlm : len ≤ m := by rw [hmm]; split <;> omega
    have each : ∀ i, i < len → ∃ q : S39, W.cell? (a.add (i * 2)) = some (.int .i64 q.f0) ∧ W.cell? (a.add (i * 2 + 1)) = some (.int .i64 q.f1) ∧ (Lit.int .i64 q.f0).wf = true ∧ (Lit.int .i64 q.f1).wf = true := fun i hi => by
      obtain ⟨h0, h1, t0, t1⟩ := hx i (by omega)
      obtain ⟨n0, e0, _, w0⟩ := DataW.trod_int k0 t0
      obtain ⟨n1, e1, _, w1⟩ := DataW.trod_int k1 t1
      simp only [List.cons.injEq, and_true] at e0 e1
      exact ⟨⟨n0, n1⟩, by rw [h0, e0], by rw [h1, e1], w0, w1⟩
    haveI : Inhabited S39 := ⟨⟨0, 0⟩⟩
    obtain ⟨q, hq⟩ := choose_lt each
    refine ⟨some a, cap, (List.range len).map q, by simp, by simpa using hl, ⟨by simp, by simp; unfold maxLen at hm; omega, fun _ => ⟨a, rfl, fun j p hj => ?_⟩⟩, by simp; omega, fun u hu => ?_⟩
    · have hj2 : j < len := by have := (List.getElem?_eq_some_iff.1 hj).1; simpa using this
      obtain rfl : q j = p := by simpa [hj2] using hj
      obtain ⟨g0, g1, _, _⟩ := hq j hj2
      refine ⟨[.int .i64 (q j).f0, .int .i64 (q j).f1], rfl, k39_mk _ _, fun z u hz => ?_⟩
      match z, hz with
      | 0, hz => obtain rfl : Value.int .i64 (q j).f0 = u := by simpa using hz
                 exact g0
      | 1, hz => obtain rfl : Value.int .i64 (q j).f1 = u := by simpa using hz
                 exact g1
      | z + 2, hz => simp at hz
    · obtain ⟨i, hi, rfl⟩ := List.mem_map.1 hu
      have := hq i (List.mem_range.1 hi)
      exact ⟨this.2.2.1, this.2.2.2⟩
/-- A guarantee by value. -/
theorem in_guarantee {r : Reach} {b0 : Nat} {t e : TypeId} {f0 f1 f2 f3 g0 g1 : Field} {v : Value} {d : DataW H} {p : List MemPlace} (hs : P.underlying t = some (.struct #[f0, f1, f2, f3])) (hone : oneCellFields P #[f0, f1, f2, f3] = true) (hC : P.cellsOf t = 4)
    (k0 : P.underlying f0.type = some (.int .i64)) (k1 : P.underlying f1.type = some (.int .i64)) (k2 : P.underlying f2.type = some (.int .i64)) (k3 : P.underlying f3.type = some (.slice e)) (he : P.underlying e = some (.struct #[g0, g1]))
    (ce : P.cellsOf e = 2) (o0 : g0.offset = 0) (o1 : g1.offset = 1) (c0 : P.cellsOf g0.type = 1) (c1 : P.cellsOf g1.type = 1) (q0 : P.underlying g0.type = some (.int .i64)) (q1 : P.underlying g1.type = some (.int .i64))
    (hv : Value.okWide P W r b0 t v) (h : DataW.Trod enc P W base spare held t v d p) :
    ∃ (x0 x1 x2 : Int) (A : Option Addr) (c : Nat) (l : List S39), v = .agg #[.int .i64 x0, .int .i64 x1, .int .i64 x2, .slice A l.length c] ∧ (Lit.int .i64 x0).wf = true ∧ (Lit.int .i64 x1).wf = true ∧ (Lit.int .i64 x2).wf = true ∧
      l.length ≤ c ∧ Kd.C k39 W A l.length l ∧ l.length ≤ maxLen ∧ ∀ u ∈ l, (Lit.int .i64 u.f0).wf = true ∧ (Lit.int .i64 u.f1).wf = true := by
  obtain ⟨v0, v1, v2, v3, y0, y1, y2, y3, n, rfl, rfl, rfl, t0, t1, t2, t3⟩ := Go.Joins.open_agg4 hs hone hC hv h
  obtain ⟨n0, e0, _, w0⟩ := DataW.trod_int k0 t0
  obtain ⟨n1, e1, _, w1⟩ := DataW.trod_int k1 t1
  obtain ⟨n2, e2, _, w2⟩ := DataW.trod_int k2 t2
  obtain ⟨A, c, l, e3, hc, hC2, hm, hw⟩ := in_pairs k3 he ce o0 o1 c0 c1 q0 q1 t3
  simp only [List.cons.injEq, and_true] at e0 e1 e2 e3
  subst e0 e1 e2 e3
  exact ⟨n0, n1, n2, A, c, l, rfl, w0, w1, w2, hc, hC2, hm, hw⟩
end Go.Proofs.Ytakhjhiofmgpnaa.G

namespace Go.Proofs.Ytakhjhiofmgpnaa.guaranteeSet
open Go.ChangeShapes Go.WideShapes Go.ChangeAt Go.RowKit
open Go.Proofs.YtakhjhiofmgpnaaW.PrintWords Go.Proofs.YtakhjhiofmgpnaaW.PrintLast Go.Proofs.YtakhjhiofmgpnaaW.PrintMore Go.Proofs.Ytakhjhiofmgpnaa.G Go.Proofs.Ytakhjhiofmgpnaa.PA Go.Proofs.Ytakhjhiofmgpnaa.PB Go.Proofs.Ytakhjhiofmgpnaa.PC
set_option linter.unusedVariables false
theorem own : ownKnob Try.prog.godebug = none := by kernel_rfl
theorem laidOut : laidOutB Try.prog = true := by kernel_rfl
theorem walk (A0 : Option Addr) (c0 : Nat) (l0 : List Int) (x1_0 : Int) (x1_1 : Int) (x1_2 : Int) (A1 : Option Addr) (c1 : Nat) (l1 : List S39) (a2 : Int) (a3 : Int) (a4 : Bool) (w : World) (r0_ : Kd.C (Kd.int .i64) w A0 l0.length l0) (n0_ : l0.length ≤ c0) (r1_ : Kd.C k39 w A1 l1.length l1) (n1_ : l1.length ≤ c1) (m0_ : l0.length ≤ maxLen) (w0_ : ∀ n ∈ l0, (Lit.int .i64 n).wf = true) (w1_0 : (Lit.int .i64 x1_0).wf = true) (w1_1 : (Lit.int .i64 x1_1).wf = true) (w1_2 : (Lit.int .i64 x1_2).wf = true) (m1_ : l1.length ≤ maxLen) (w1_3 : ∀ u ∈ l1, (Lit.int .i64 u.f0).wf = true ∧ (Lit.int .i64 u.f1).wf = true) (w2 : (Lit.int .i64 a2).wf = true) (w3 : (Lit.int .i64 a3).wf = true) :
    Calls Try.prog 7 #[.slice A0 l0.length c0, .agg #[.int .i64 x1_0, .int .i64 x1_1, .int .i64 x1_2, .slice A1 l1.length c1], .int .i64 a2, .int .i64 a3, .bool a4] w fun e w' => e = .returned (.bool true) ∧ Below w.heap.size w w' := by
  obtain ⟨k, h⟩ := E.set_law l0 x1_0 x1_1 x1_2 l1 a2 a3 a4 m0_ w0_ w1_0 w1_1 w1_2 m1_ w1_3 w2 w3
  refine (customslaw23_GuaranteeSet.calls k A0 c0 l0 x1_0 x1_1 x1_2 A1 c1 l1 a2 a3 a4 w r0_ n0_ r1_ n1_ h).mono ?_
  rintro e w' ⟨rfl, hd⟩
  exact ⟨rfl, hd⟩
set_option maxRecDepth 100000 in
theorem lifted (os : Os) (started : os.Started) (H : Type) (enc : TypeId × Value → H) :
    ReturnsInHanded {} Try.checked os 7 .any (Rows.guaranteeSetSpec.pre6 enc Try.prog Try.f7 Rows.guaranteeSetRow.domain false) (Rows.guaranteeSetSpec.post enc Try.prog Try.f7 false true false false) := by
  refine returnsInHanded_of_change (C := Try.checked) own started (by kernel_rfl) Try.func7
    (ChangeSpec.witness6 (enc := enc) (C := Try.checked) false ⟨#[], #[.slice none 0 0, .agg #[.int .i64 0, .int .i64 0, .int .i64 0, .slice none 0 0], .int .i64 0, .int .i64 0, .bool false], []⟩ 8 (by kernel_rfl) (by kernel_rfl) (by kernel_rfl) (by kernel_rfl)) ?_
  intro W base args ds gs before hval0 hW hcnd _
  have hval : ∀ (j : Nat) t v, Try.f7.params[j]? = some t → args[j]? = some v → Value.okWide Try.prog W .any base t v := hval0
  have hW' := hW
  obtain ⟨p, q, hA0, hV, rfl, hfz, hnd⟩ := hW
  have hA : DataW.TrodAll enc Try.prog W 0 (fun _ => true) true Try.f7.params.toList args.toList ds p := hA0
  rw [Try.params7] at hA hval
  obtain ⟨v0, vs0, d0, ds0, p0, q0, hargs, rfl, rfl, h0, r0⟩ := trodAll_cons hA
  obtain ⟨v1, vs1, d1, ds1, p1, q1, rfl, rfl, rfl, h1, r1⟩ := trodAll_cons r0
  obtain ⟨v2, vs2, d2, ds2, p2, q2, rfl, rfl, rfl, h2, r2⟩ := trodAll_cons r1
  obtain ⟨v3, vs3, d3, ds3, p3, q3, rfl, rfl, rfl, h3, r3⟩ := trodAll_cons r2
  obtain ⟨v4, vs4, d4, ds4, p4, q4, rfl, rfl, rfl, h4, r4⟩ := trodAll_cons r3
  obtain ⟨rfl, rfl, rfl⟩ := trodAll_nil r4
  obtain rfl : args = #[v0, v1, v2, v3, v4] := by cases args; simp_all
  obtain ⟨rfl, rfl⟩ := trodVars_none hV
  obtain ⟨sa0, sl0, sc0, rfl⟩ := okWide_slice Try.underlying22 (hval 0 22 v0 rfl rfl)
  have k0 := h0
  have lt0 : ∀ x ∈ p0, x.block < W.heap.size := by obtain ⟨m, hm⟩ := k0; exact DataW.trod_lt m _ _ _ hm
  obtain ⟨A0, c0, l0, e0, n0_, r0_, m0_, w0_⟩ : ∃ A c, ∃ l : List Int, (sa0 = A ∧ sl0 = l.length ∧ sc0 = c) ∧ l.length ≤ c ∧ Kd.C (Kd.int .i64) W A l.length l ∧ l.length ≤ maxLen ∧ ∀ n ∈ l, (Lit.int .i64 n).wf = true := by
    obtain ⟨fuel, hf⟩ := h0
    obtain ⟨A, c, l, e, r⟩ := in_ints Try.underlying22 Try.underlying3 (by kernel_rfl) hf
    exact ⟨A, c, l, by simpa [Value.cells] using e, r⟩
  obtain ⟨rfl, rfl, rfl⟩ := e0
  have k1 := h1
  have lt1 : ∀ x ∈ p1, x.block < W.heap.size := by obtain ⟨m, hm⟩ := k1; exact DataW.trod_lt m _ _ _ hm
  obtain ⟨x1_0, x1_1, x1_2, A1, c1, l1, rfl, w1_0, w1_1, w1_2, n1_, r1_, m1_, w1_3⟩ := in_guarantee Try.underlying25 (by kernel_rfl) (by kernel_rfl) Try.underlying3 Try.underlying3 Try.underlying3 Try.underlying23 Try.underlying39 (by kernel_rfl) rfl rfl (by kernel_rfl) (by kernel_rfl) Try.underlying3 Try.underlying3 (hval 1 25 v1 rfl rfl) h1
  obtain ⟨a2, rfl, rfl, rfl, w2⟩ := open_int Try.underlying3 (hval 2 3 v2 rfl rfl) h2
  obtain ⟨a3, rfl, rfl, rfl, w3⟩ := open_int Try.underlying3 (hval 3 3 v3 rfl rfl) h3
  obtain ⟨a4, rfl, rfl, rfl⟩ := open_bool Try.underlying4 (hval 4 4 v4 rfl rfl) h4
  clear hA0 hval0
  refine (walk _ _ _ _ _ _ _ _ _ _ _ _ W r0_ n0_ r1_ n1_ m0_ w0_ w1_0 w1_1 w1_2 m1_ w1_3 w2 w3).mono fun e W' ⟨he, bel⟩ => ?_
  subst he
  exact ⟨_, rfl, _, _, _, [], _, [], hW', trodAll_mk1 (shut_bool Try.underlying4 _), (trodAll_cons_mk (Below.trod laidOut (by kernel_rfl) (of_decide_eq_true (by kernel_rfl)) k0 bel lt0) (trodAll_cons_mk (Below.trod laidOut (by kernel_rfl) (of_decide_eq_true (by kernel_rfl)) k1 bel lt1) (trodAll_cons_mk (shut_int Try.underlying3 w2) (trodAll_cons_mk (shut_int Try.underlying3 w3) (trodAll_cons_mk (shut_bool Try.underlying4 _) trodAll_mk0))))), rfl, bel.frame _, fun h => by cases h⟩
theorem over : Rows.guaranteeSetRow.holds Try.pinned (OpenSpec.ofChange Rows.guaranteeSetSpec) :=
  OpenClaim.holds_of_wide 7 Try.f7 rfl rfl rfl rfl rfl rfl rfl ⟨rfl, rfl, rfl, rfl, rfl⟩ rfl rfl rfl rfl rfl (by kernel_rfl) Try.func7 (by kernel_rfl)
    (of_decide_eq_true (by kernel_rfl)) (by unfold Func.isWrapper; first | (rw [if_pos (by decide +kernel)]; kernel_rfl) | (rw [if_neg (by decide +kernel)]; exact ⟨rfl, rfl⟩))
    (fun os started H enc _ => lifted os started H enc)
theorem proved : Rows.GuaranteeSetSaid := over
#print axioms proved
end Go.Proofs.Ytakhjhiofmgpnaa.guaranteeSet
namespace Go.Proofs.Ytakhjhiofmgpnaa
/-- The row, under a short name, for the claim. -/
theorem guaranteeSet_holds : Rows.GuaranteeSetSaid := guaranteeSet.proved
end Go.Proofs.Ytakhjhiofmgpnaa
