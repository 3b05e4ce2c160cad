/- What comes in, in the walks' own words: a slice of whole numbers, a slice of reservations, a guarantee by value. -/
import Derived.Test.YtakhjhiofmgpnaaPAx0
import Derived.Test.YtakhjhiofmgpnaaVMore
import Derived.Deep.SlicePairs
import Derived.Lib.SmallJoins
import Derived.ChangeSlices
import Derived.OpenShut
import Derived.WalkKit
namespace Go.Proofs.Ytakhjhiofmgpnaa.G
open Go.ChangeShapes Go.WideShapes Go.RowKit Go.Deep Go.Lib Go.Proofs.YtakhjhiofmgpnaaW.PrintWords Go.Proofs.YtakhjhiofmgpnaaW.PrintLast Go.Proofs.YtakhjhiofmgpnaaW.PrintMore Go.Proofs.Ytakhjhiofmgpnaa.PA
set_option linter.unusedVariables false
variable {H : Type} {enc : TypeId × Value → H} {P : Program} {W : World} {base : Nat} {spare : Nat → Bool} {held : Bool}

theorem in_ints {t e : TypeId} {fuel : Nat} {cs : List Value} {x : DataW H × List MemPlace} (ht : P.underlying t = some (.slice e)) (he : P.underlying e = some (.int .i64)) (hc : P.cellsOf e = 1)
    (h : DataW.trod enc P W base spare held fuel t cs = some x) :
    ∃ (A : Option Addr) (c : Nat) (l : List Int), cs = [.slice A l.length c] ∧ l.length ≤ c ∧ Kd.C (Kd.int .i64) W A l.length l ∧ l.length ≤ maxLen ∧ ∀ n ∈ l, (Lit.int .i64 n).wf = true := by
  rcases open_ints ht he hc h with ⟨rfl, _⟩ | ⟨a, len, cap, zs, rfl, _, hl, hm, hz, _, hcell, hwz⟩
  · exact ⟨none, 0, [], rfl, Nat.le_refl _, Kd.C_nil _ _, Nat.zero_le _, fun n h => by cases h⟩
  · have hlz : len ≤ zs.length := by rw [hz]; split <;> omega
    obtain ⟨l, hle⟩ : ∃ l, l = zs.take len := ⟨_, rfl⟩
    have hll : l.length = len := by rw [hle, List.length_take]; omega
    refine ⟨some a, cap, l, by rw [hll], by omega, ⟨rfl, by unfold maxLen at hm; omega, fun _ => ⟨a, rfl, fun j p hj => ?_⟩⟩, by omega, fun n hn => hwz n (by rw [hle] at hn; exact List.mem_of_mem_take hn)⟩
    have hj2 : j < len := by have := (List.getElem?_eq_some_iff.1 hj).1; omega
    refine ⟨[.int .i64 p], rfl, rfl, fun q u hq => ?_⟩
    have hq0 : q = 0 := by
      have := (List.getElem?_eq_some_iff.1 hq).1
      simp at this
      exact this
    subst hq0
    obtain rfl : Value.int .i64 p = u := by simpa using hq
    have hc1 := hcell j (by omega)
    rw [show j * (Kd.int .i64).sz + 0 = j by show j * 1 + 0 = j; omega, hc1]
    rw [hle, List.getElem?_take, if_pos hj2] at hj
    rw [List.getD_eq_getElem?_getD, hj]
    rfl

theorem in_pairs {t e : TypeId} {f0 f1 : Field} {fuel : Nat} {cs : List Value} {x : DataW H × List MemPlace} (ht : P.underlying t = some (.slice e)) (he : P.underlying e = some (.struct #[f0, f1]))
    (ce : P.cellsOf e = 2) (o0 : f0.offset = 0) (o1 : f1.offset = 1) (c0 : P.cellsOf f0.type = 1) (c1 : P.cellsOf f1.type = 1) (k0 : P.underlying f0.type = some (.int .i64)) (k1 : P.underlying f1.type = some (.int .i64))
    (h : DataW.trod enc P W base spare held fuel t cs = some x) :
    ∃ (A : Option Addr) (c : Nat) (l : List S39), cs = [.slice A l.length c] ∧ l.length ≤ c ∧ Kd.C k39 W A l.length l ∧ l.length ≤ maxLen ∧ ∀ u ∈ l, (Lit.int .i64 u.f0).wf = true ∧ (Lit.int .i64 u.f1).wf = true := by
  rcases open_slice_pairs ht he ce o0 o1 c0 c1 h with ⟨rfl, _⟩ | ⟨a, len, cap, m, n, V0, V1, D0, D1, P0, P1, rfl, _, hl, hm, hmm, _, hx⟩
  · exact ⟨none, 0, [], rfl, Nat.le_refl _, Kd.C_nil _ _, Nat.zero_le _, fun n h => by cases h⟩
  · have hlm : len ≤ m := by rw [hmm]; split <;> omega
    have each : ∀ i, i < len → ∃ q : S39, W.cell? (a.add (i * 2)) = some (.int .i64 q.f0) ∧ W.cell? (a.add (i * 2 + 1)) = some (.int .i64 q.f1) ∧ (Lit.int .i64 q.f0).wf = true ∧ (Lit.int .i64 q.f1).wf = true := fun i hi => by
      obtain ⟨h0, h1, t0, t1⟩ := hx i (by omega)
      obtain ⟨n0, e0, _, w0⟩ := DataW.trod_int k0 t0
      obtain ⟨n1, e1, _, w1⟩ := DataW.trod_int k1 t1
      simp only [List.cons.injEq, and_true] at e0 e1
      exact ⟨⟨n0, n1⟩, by rw [h0, e0], by rw [h1, e1], w0, w1⟩
    haveI : Inhabited S39 := ⟨⟨0, 0⟩⟩
    obtain ⟨q, hq⟩ := choose_lt each
    refine ⟨some a, cap, (List.range len).map q, by simp, by simpa using hl, ⟨by simp, by simp; unfold maxLen at hm; omega, fun _ => ⟨a, rfl, fun j p hj => ?_⟩⟩, by simp; omega, fun u hu => ?_⟩
    · have hj2 : j < len := by have := (List.getElem?_eq_some_iff.1 hj).1; simpa using this
      obtain rfl : q j = p := by simpa [hj2] using hj
      obtain ⟨g0, g1, _, _⟩ := hq j hj2
      refine ⟨[.int .i64 (q j).f0, .int .i64 (q j).f1], rfl, k39_mk _ _, fun z u hz => ?_⟩
      match z, hz with
      | 0, hz => obtain rfl : Value.int .i64 (q j).f0 = u := by simpa using hz
                 exact g0
      | 1, hz => obtain rfl : Value.int .i64 (q j).f1 = u := by simpa using hz
                 exact g1
      | z + 2, hz => simp at hz
    · obtain ⟨i, hi, rfl⟩ := List.mem_map.1 hu
      have := hq i (List.mem_range.1 hi)
      exact ⟨this.2.2.1, this.2.2.2⟩

/-- A guarantee by value. -/
theorem in_guarantee {r : Reach} {b0 : Nat} {t e : TypeId} {f0 f1 f2 f3 g0 g1 : Field} {v : Value} {d : DataW H} {p : List MemPlace} (hs : P.underlying t = some (.struct #[f0, f1, f2, f3])) (hone : oneCellFields P #[f0, f1, f2, f3] = true) (hC : P.cellsOf t = 4)
    (k0 : P.underlying f0.type = some (.int .i64)) (k1 : P.underlying f1.type = some (.int .i64)) (k2 : P.underlying f2.type = some (.int .i64)) (k3 : P.underlying f3.type = some (.slice e)) (he : P.underlying e = some (.struct #[g0, g1]))
    (ce : P.cellsOf e = 2) (o0 : g0.offset = 0) (o1 : g1.offset = 1) (c0 : P.cellsOf g0.type = 1) (c1 : P.cellsOf g1.type = 1) (q0 : P.underlying g0.type = some (.int .i64)) (q1 : P.underlying g1.type = some (.int .i64))
    (hv : Value.okWide P W r b0 t v) (h : DataW.Trod enc P W base spare held t v d p) :
    ∃ (x0 x1 x2 : Int) (A : Option Addr) (c : Nat) (l : List S39), v = .agg #[.int .i64 x0, .int .i64 x1, .int .i64 x2, .slice A l.length c] ∧ (Lit.int .i64 x0).wf = true ∧ (Lit.int .i64 x1).wf = true ∧ (Lit.int .i64 x2).wf = true ∧
      l.length ≤ c ∧ Kd.C k39 W A l.length l ∧ l.length ≤ maxLen ∧ ∀ u ∈ l, (Lit.int .i64 u.f0).wf = true ∧ (Lit.int .i64 u.f1).wf = true := by
  obtain ⟨v0, v1, v2, v3, y0, y1, y2, y3, n, rfl, rfl, rfl, t0, t1, t2, t3⟩ := Go.Joins.open_agg4 hs hone hC hv h
  obtain ⟨n0, e0, _, w0⟩ := DataW.trod_int k0 t0
  obtain ⟨n1, e1, _, w1⟩ := DataW.trod_int k1 t1
  obtain ⟨n2, e2, _, w2⟩ := DataW.trod_int k2 t2
  obtain ⟨A, c, l, e3, hc, hC2, hm, hw⟩ := in_pairs k3 he ce o0 o1 c0 c1 q0 q1 t3
  simp only [List.cons.injEq, and_true] at e0 e1 e2 e3
  subst e0 e1 e2 e3
  exact ⟨n0, n1, n2, A, c, l, rfl, w0, w1, w2, hc, hC2, hm, hw⟩
end Go.Proofs.Ytakhjhiofmgpnaa.G
