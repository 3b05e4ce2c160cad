/- Part 1 of the proof of ledgerFold_holds: texts of this claim, printed and by hand, cut to what it needs (wip/tools/link.py). Lean checks every line. -/
import Derived.Test.YtgedkdofhonicaaKF0
import Derived.Test.YtgedkdofhonicaaProg
import Derived.WalkSpells
import Derived.WalkLawsBesides
import Derived.Lib.SmallJoins
import Derived.ChangeSlices
import Derived.OpenShut
/- The contract by hand of customsmade.Cut: it hands back what came in, or its head. -/
namespace Go.Proofs.Ytgedkdofhonicaa.G
open Go.RowKit Go.Proofs.YtgedkdofhonicaaW.PrintWords Go.Proofs.YtgedkdofhonicaaW.PrintLast Go.Proofs.YtgedkdofhonicaaW.PrintMore
set_option linter.unusedVariables false
set_option linter.unusedSimpArgs false
theorem C_head {α : Type} {d : Kd α} {w : World} {A : Option Addr} {xs : List α} (h : d.C w A xs.length xs) (m : Nat) (hm : m ≤ xs.length) : d.C w A (xs.take m).length (xs.take m) := by
  obtain ⟨h1, h2, h3⟩ := h
  have hl : (xs.take m).length = m := by rw [List.length_take]; omega
  refine ⟨rfl, by omega, fun hn => ?_⟩
  obtain ⟨ad, e, hc⟩ := h3 (by omega)
  refine ⟨ad, e, fun j p hj => ?_⟩
  have hj2 : xs[j]? = some p := by
    have : j < m := by
      have := (List.getElem?_eq_some_iff.1 hj).1
      omega
    rw [List.getElem?_take] at hj
    simpa [this] using hj
  exact hc j p hj2
def customsmade_Cut.f (l : List Int) (n : Int) : Option (List Int) := if (l.length : Int) > n then (if 0 ≤ n then some (l.take n.toNat) else none) else some l
theorem info3 : (Try.prog.info? 3).map (fun i => (i.zero, i.size, i.bytes)) = some (some (.int .i64 0), 1, 8) := by kernel_rfl
set_option maxHeartbeats 400000 in
theorem customsmade_Cut.calls (A : Option Addr) (c : Nat) (l : List Int) (n : Int) (r : List Int) (w w0 : World) (hr : Kd.C (Kd.int .i64) w0 A l.length l) (hc : l.length ≤ c) (h : customsmade_Cut.f l n = some r) :
    Calls Try.prog 24 #[.slice A l.length c, .int .i64 n] w fun e w' => ∃ A' c', e = .returned (.slice A' r.length c') ∧ Kd.C (Kd.int .i64) w0 A' r.length r ∧ r.length ≤ c' ∧ ∃ nd, w' = w.drewN nd := by
  unfold customsmade_Cut.f at h
  have HR := Aside0.mk hr; clear hr; have hmax : l.length ≤ 9223372036854775807 := HR.out.2.1
  by_cases c1 : (l.length : Int) > n
  · rw [if_pos c1] at h
    by_cases c2 : 0 ≤ n
    · rw [if_pos c2] at h
      obtain rfl := Option.some.inj h; clear h; obtain ⟨i0, hi, hzz⟩ := Option.map_eq_some_iff.1 info3
      simp only [Prod.mk.injEq] at hzz
      obtain ⟨q1, q2, q3⟩ := print_take_int (P := Try.prog) (k := .i64) 22 3 Try.underlying22 hi hzz.2.1 A c l n c2 (by omega) hc; clear hi hzz i0; have Q3 := Aside0.mk q3; clear q2 q3
      go_enter Try.func24, Try.ntmps24
      go_wp2
      go_ret
      exact ⟨A, c, by rw [List.length_take]; rfl, C_head HR.out _ (by omega), Q3.out, 0, rfl⟩
    · rw [if_neg c2] at h
      exact absurd h (by simp)
  · rw [if_neg c1] at h
    obtain rfl := Option.some.inj h; clear h
    have c2 : ¬ n < (l.length : Int) := by omega
    have HC := Aside0.mk hc; clear hc
    go_enter Try.func24, Try.ntmps24
    go_wp2
    go_ret
    exact ⟨A, c, rfl, HR.out, HC.out, 0, rfl⟩
end Go.Proofs.Ytgedkdofhonicaa.G
-- Written by a program of this claim (wip/tools: mkprint.py, pr.sh) out of the translation: plain functions and their contracts. Lean checks every line.
namespace Go.Proofs.Ytgedkdofhonicaa.PA
open Go.RowKit Go.Proofs.YtgedkdofhonicaaW.PrintWords Go.Proofs.YtgedkdofhonicaaW.PrintLast Go.Proofs.YtgedkdofhonicaaW.PrintMore Go.Proofs.Ytgedkdofhonicaa.G
attribute [local go_sem] max2_int min2_int max_two min_two max_three min_three max_four min_four   -- for this text's walks alone
set_option linter.unusedVariables false
set_option linter.unusedSimpArgs false
def errW : Option Int → Value
  | none => .nilIface
  | some c => .iface 0 (.int .i64 c)
theorem errW_none : errW none = .nilIface := rfl
theorem errW_some (c : Int) : errW (some c) = .iface 0 (.int .i64 c) := rfl
theorem info26 : (Try.prog.info? 26).map (fun i => (i.zero, i.size, i.bytes)) = some (some (.agg #[(.int .i64 0), (.int .i64 0), (.int .i64 0), (.int .i64 0), (.int .i64 0), (.int .i64 0)]), 6, 48) := by kernel_rfl
theorem info37 : (Try.prog.info? 37).map (fun i => (i.zero, i.size, i.bytes)) = some (some (.agg #[(.int .i64 0), (.int .i64 0), (.int .i64 0), (.int .i64 0), (.int .i64 0)]), 5, 40) := by kernel_rfl
-- the values' own types
structure S26 where
  f0 : Int
  f1 : Int
  f2 : Int
  f3 : Int
  f4 : Int
  f5 : Int
def z26 : S26 := ⟨(0 : Int), (0 : Int), (0 : Int), (0 : Int), (0 : Int), (0 : Int)⟩
def k26 : Kd S26 := Kd.iso (Kd.pair (Kd.int .i64) (Kd.pair (Kd.int .i64) (Kd.pair (Kd.int .i64) (Kd.pair (Kd.int .i64) (Kd.pair (Kd.int .i64) (Kd.int .i64)))))) (fun x : S26 => (x.f0, x.f1, x.f2, x.f3, x.f4, x.f5))
theorem k26_open {w : World} {x : S26} {cs : List Value} (h : k26.K w x cs) : cs = [.int .i64 x.f0, .int .i64 x.f1, .int .i64 x.f2, .int .i64 x.f3, .int .i64 x.f4, .int .i64 x.f5] := by
  obtain ⟨_, _, rfl, rfl, ⟨_, _, rfl, rfl, ⟨_, _, rfl, rfl, ⟨_, _, rfl, rfl, ⟨_, _, rfl, rfl, rfl⟩⟩⟩⟩⟩ := h
  exact rfl
theorem k26_openM {w : World} {base : Nat} {ok : Nat → Prop} {x : S26} {cs : List Value} (h : k26.M w base ok x cs) : cs = [.int .i64 x.f0, .int .i64 x.f1, .int .i64 x.f2, .int .i64 x.f3, .int .i64 x.f4, .int .i64 x.f5] := by
  obtain ⟨_, _, rfl, rfl, ⟨_, _, rfl, rfl, ⟨_, _, rfl, rfl, ⟨_, _, rfl, rfl, ⟨_, _, rfl, rfl, rfl⟩⟩⟩⟩⟩ := h
  exact rfl
theorem k26_mkM (w : World) (base : Nat) (ok : Nat → Prop) (x : S26)  : k26.M w base ok x [.int .i64 x.f0, .int .i64 x.f1, .int .i64 x.f2, .int .i64 x.f3, .int .i64 x.f4, .int .i64 x.f5] := ⟨[.int .i64 x.f0], [.int .i64 x.f1, .int .i64 x.f2, .int .i64 x.f3, .int .i64 x.f4, .int .i64 x.f5], rfl, rfl, ⟨[.int .i64 x.f1], [.int .i64 x.f2, .int .i64 x.f3, .int .i64 x.f4, .int .i64 x.f5], rfl, rfl, ⟨[.int .i64 x.f2], [.int .i64 x.f3, .int .i64 x.f4, .int .i64 x.f5], rfl, rfl, ⟨[.int .i64 x.f3], [.int .i64 x.f4, .int .i64 x.f5], rfl, rfl, ⟨[.int .i64 x.f4], [.int .i64 x.f5], rfl, rfl, rfl⟩⟩⟩⟩⟩
def rd_T26 (xs : List S26) (i : Int) : S26 := xs.getD i.toNat z26
theorem at_T26 {w : World} {A : Option Addr} {n : Nat} {xs : List S26} (h : Kd.C k26 w A n xs) (i : Int) (h0 : 0 ≤ i) (h1 : i < n) : ∃ ad , A = some ad ∧ w.cell? (ad.add (i.toNat * 6)) = some (.int .i64 (rd_T26 xs i).f0) ∧ w.cell? ⟨(ad.add (i.toNat * 6)).block, (ad.add (i.toNat * 6)).off + 1, none⟩ = some (.int .i64 (rd_T26 xs i).f1) ∧ w.cell? ⟨(ad.add (i.toNat * 6)).block, (ad.add (i.toNat * 6)).off + 2, none⟩ = some (.int .i64 (rd_T26 xs i).f2) ∧ w.cell? ⟨(ad.add (i.toNat * 6)).block, (ad.add (i.toNat * 6)).off + 3, none⟩ = some (.int .i64 (rd_T26 xs i).f3) ∧ w.cell? ⟨(ad.add (i.toNat * 6)).block, (ad.add (i.toNat * 6)).off + 4, none⟩ = some (.int .i64 (rd_T26 xs i).f4) ∧ w.cell? ⟨(ad.add (i.toNat * 6)).block, (ad.add (i.toNat * 6)).off + 5, none⟩ = some (.int .i64 (rd_T26 xs i).f5) := by
  obtain ⟨ad, c, e, _, hK, hc0⟩ := Kd.C_get h z26 i h0 h1; have hc : ∀ j u, c[j]? = some u → w.cell? (ad.add (i.toNat * 6 + j)) = some u := hc0; obtain rfl := k26_open hK
  exact ⟨ad, e, hc 0 _ rfl, by rw [← add_field _ _ 1 (by omega)]; exact hc 1 _ rfl, by rw [← add_field _ _ 2 (by omega)]; exact hc 2 _ rfl, by rw [← add_field _ _ 3 (by omega)]; exact hc 3 _ rfl, by rw [← add_field _ _ 4 (by omega)]; exact hc 4 _ rfl, by rw [← add_field _ _ 5 (by omega)]; exact hc 5 _ rfl⟩
structure S37 where
  f0 : Int
  f1 : Int
  f2 : Int
  f3 : Int
  f4 : Int
def z37 : S37 := ⟨(0 : Int), (0 : Int), (0 : Int), (0 : Int), (0 : Int)⟩
def k37 : Kd S37 := Kd.iso (Kd.pair (Kd.int .i64) (Kd.pair (Kd.int .i64) (Kd.pair (Kd.int .i64) (Kd.pair (Kd.int .i64) (Kd.int .i64))))) (fun x : S37 => (x.f0, x.f1, x.f2, x.f3, x.f4))
theorem k37_open {w : World} {x : S37} {cs : List Value} (h : k37.K w x cs) : cs = [.int .i64 x.f0, .int .i64 x.f1, .int .i64 x.f2, .int .i64 x.f3, .int .i64 x.f4] := by
  obtain ⟨_, _, rfl, rfl, ⟨_, _, rfl, rfl, ⟨_, _, rfl, rfl, ⟨_, _, rfl, rfl, rfl⟩⟩⟩⟩ := h
  exact rfl
theorem k37_openM {w : World} {base : Nat} {ok : Nat → Prop} {x : S37} {cs : List Value} (h : k37.M w base ok x cs) : cs = [.int .i64 x.f0, .int .i64 x.f1, .int .i64 x.f2, .int .i64 x.f3, .int .i64 x.f4] := by
  obtain ⟨_, _, rfl, rfl, ⟨_, _, rfl, rfl, ⟨_, _, rfl, rfl, ⟨_, _, rfl, rfl, rfl⟩⟩⟩⟩ := h
  exact rfl
theorem k37_mkM (w : World) (base : Nat) (ok : Nat → Prop) (x : S37)  : k37.M w base ok x [.int .i64 x.f0, .int .i64 x.f1, .int .i64 x.f2, .int .i64 x.f3, .int .i64 x.f4] := ⟨[.int .i64 x.f0], [.int .i64 x.f1, .int .i64 x.f2, .int .i64 x.f3, .int .i64 x.f4], rfl, rfl, ⟨[.int .i64 x.f1], [.int .i64 x.f2, .int .i64 x.f3, .int .i64 x.f4], rfl, rfl, ⟨[.int .i64 x.f2], [.int .i64 x.f3, .int .i64 x.f4], rfl, rfl, ⟨[.int .i64 x.f3], [.int .i64 x.f4], rfl, rfl, rfl⟩⟩⟩⟩
def rd_T37 (xs : List S37) (i : Int) : S37 := xs.getD i.toNat z37
theorem at_T37 {w : World} {A : Option Addr} {n : Nat} {xs : List S37} (h : Kd.C k37 w A n xs) (i : Int) (h0 : 0 ≤ i) (h1 : i < n) : ∃ ad , A = some ad ∧ w.cell? (ad.add (i.toNat * 5)) = some (.int .i64 (rd_T37 xs i).f0) ∧ w.cell? ⟨(ad.add (i.toNat * 5)).block, (ad.add (i.toNat * 5)).off + 1, none⟩ = some (.int .i64 (rd_T37 xs i).f1) ∧ w.cell? ⟨(ad.add (i.toNat * 5)).block, (ad.add (i.toNat * 5)).off + 2, none⟩ = some (.int .i64 (rd_T37 xs i).f2) ∧ w.cell? ⟨(ad.add (i.toNat * 5)).block, (ad.add (i.toNat * 5)).off + 3, none⟩ = some (.int .i64 (rd_T37 xs i).f3) ∧ w.cell? ⟨(ad.add (i.toNat * 5)).block, (ad.add (i.toNat * 5)).off + 4, none⟩ = some (.int .i64 (rd_T37 xs i).f4) := by
  obtain ⟨ad, c, e, _, hK, hc0⟩ := Kd.C_get h z37 i h0 h1; have hc : ∀ j u, c[j]? = some u → w.cell? (ad.add (i.toNat * 5 + j)) = some u := hc0; obtain rfl := k37_open hK
  exact ⟨ad, e, hc 0 _ rfl, by rw [← add_field _ _ 1 (by omega)]; exact hc 1 _ rfl, by rw [← add_field _ _ 2 (by omega)]; exact hc 2 _ rfl, by rw [← add_field _ _ 3 (by omega)]; exact hc 3 _ rfl, by rw [← add_field _ _ 4 (by omega)]; exact hc 4 _ rfl⟩
end Go.Proofs.Ytgedkdofhonicaa.PA
/- What comes in, in the walks' own words: a slice of whole numbers. -/
namespace Go.Proofs.Ytgedkdofhonicaa.G
open Go.ChangeShapes Go.WideShapes Go.RowKit Go.Deep Go.Lib Go.Proofs.YtgedkdofhonicaaW.PrintWords Go.Proofs.YtgedkdofhonicaaW.PrintLast Go.Proofs.YtgedkdofhonicaaW.PrintMore Go.Proofs.Ytgedkdofhonicaa.PA
set_option linter.unusedVariables false
variable {H : Type} {enc : TypeId × Value → H} {P : Program} {W : World} {base : Nat} {spare : Nat → Bool} {held : Bool}
theorem in_ints {t e : TypeId} {fuel : Nat} {cs : List Value} {x : DataW H × List MemPlace} (ht : P.underlying t = some (.slice e)) (he : P.underlying e = some (.int .i64)) (hc : P.cellsOf e = 1)
    (h : DataW.trod enc P W base spare held fuel t cs = some x) :
    ∃ (A : Option Addr) (c : Nat) (l : List Int), cs = [.slice A l.length c] ∧ l.length ≤ c ∧ Kd.C (Kd.int .i64) W A l.length l ∧ l.length ≤ maxLen ∧ ∀ n ∈ l, (Lit.int .i64 n).wf = true := by
  rcases open_ints ht he hc h with ⟨rfl, _⟩ | ⟨a, len, cap, zs, rfl, _, hl, hm, hz, _, hcell, hwz⟩
  · exact ⟨none, 0, [], rfl, Nat.le_refl _, Kd.C_nil _ _, Nat.zero_le _, fun n h => by cases h⟩
  · have hlz : len ≤ zs.length := by rw [hz]; split <;> omega
    obtain ⟨l, hle⟩ : ∃ l, l = zs.take len := ⟨_, rfl⟩
    have hll : l.length = len := by rw [hle, List.length_take]; omega
    refine ⟨some a, cap, l, by rw [hll], by omega, ⟨rfl, by unfold maxLen at hm; omega, fun _ => ⟨a, rfl, fun j p hj => ?_⟩⟩, by omega, fun n hn => hwz n (by rw [hle] at hn; exact List.mem_of_mem_take hn)⟩
    have hj2 : j < len := by have := (List.getElem?_eq_some_iff.1 hj).1; omega
    refine ⟨[.int .i64 p], rfl, rfl, fun q u hq => ?_⟩
    have hq0 : q = 0 := by
      have := (List.getElem?_eq_some_iff.1 hq).1
      simp at this
      exact this
    subst hq0
    obtain rfl : Value.int .i64 p = u := by simpa using hq
    have hc1 := hcell j (by omega)
    rw [show j * (Kd.int .i64).sz + 0 = j by show j * 1 + 0 = j; omega, hc1]
    rw [hle, List.getElem?_take, if_pos hj2] at hj
    rw [List.getD_eq_getElem?_getD, hj]
    rfl
end Go.Proofs.Ytgedkdofhonicaa.G
-- Written by a program of this claim (wip/tools: mkprint.py, pr.sh) out of the translation: plain functions and their contracts. Lean checks every line.
namespace Go.Proofs.Ytgedkdofhonicaa.PA
open Go.RowKit Go.Proofs.YtgedkdofhonicaaW.PrintWords Go.Proofs.YtgedkdofhonicaaW.PrintLast Go.Proofs.YtgedkdofhonicaaW.PrintMore Go.Proofs.Ytgedkdofhonicaa.G
attribute [local go_sem] max2_int min2_int max_two min_two max_three min_three max_four min_four   -- for this text's walks alone
set_option linter.unusedVariables false
set_option linter.unusedSimpArgs false
def customsref27_Target.l0 : Nat → List (S37) → Int → Int → Option (Int × Int × Int × Int × Int)
  | 0, _, _, _ => none
  | k + 1, x0, x1, x5 => if x5 < (x0.length : Int) then (if 0 ≤ x5 then (if ((rd_T37 x0 x5).f0) = x1 then (some ((rd_T37 x0 x5).f0, (rd_T37 x0 x5).f1, (rd_T37 x0 x5).f2, (rd_T37 x0 x5).f3, (rd_T37 x0 x5).f4)) else (customsref27_Target.l0 k x0 x1 (wrap64 (x5 + 1)))) else (none)) else (some (x1, 0, 0, 0, 0))
def customsref27_Target.f (k : Nat) (l0 : List (S37)) (a1 : Int) : Option (Int × Int × Int × Int × Int) := customsref27_Target.l0 k l0 a1 0
-- NOT PRINTED: function 36 (customsref27_fields)
-- NOT PRINTED: function 38 (customsref27_Rise)
-- NOT PRINTED: function 37 (customsref27_lots)
-- NOT PRINTED: function 19 (customsref27_Correct)
def ledger_ranges.f (a0_0 : Int) (a0_1 : Int) (a0_2 : Int) (a0_3 : Int) (a0_4 : Int) (a0_5 : Int) : Option (Bool) := if a0_1 ≥ 0 then (if a0_1 ≤ 36524 then (if a0_2 ≥ 1 then (if a0_2 ≤ 9 then (if a0_3 ≥ 1 then (if a0_3 ≤ 1000000 then (if a0_4 ≥ 1 then (if a0_4 ≤ 64000000000000 then (if a0_5 ≥ 0 then (some (decide (a0_5 ≤ 1000000000))) else (some false)) else (some false)) else (some false)) else (some false)) else (some false)) else (some false)) else (some false)) else (some false)) else (some false)
set_option maxHeartbeats 8000000 in
set_option maxRecDepth 100000 in
theorem ledger_ranges.calls (a0_0 : Int) (a0_1 : Int) (a0_2 : Int) (a0_3 : Int) (a0_4 : Int) (a0_5 : Int) (r : Bool) (w : World) (h : ledger_ranges.f a0_0 a0_1 a0_2 a0_3 a0_4 a0_5 = some r) :
    Calls Try.prog 42 #[.agg #[.int .i64 a0_0, .int .i64 a0_1, .int .i64 a0_2, .int .i64 a0_3, .int .i64 a0_4, .int .i64 a0_5]] w fun e w' => e = .returned (.bool r) ∧ Below w.heap.size w w' := by
  have hu26 := Try.underlying26; have HB := Aside0.mk (Below.refl w.heap.size w); have H : (if a0_1 ≥ 0 then (if a0_1 ≤ 36524 then (if a0_2 ≥ 1 then (if a0_2 ≤ 9 then (if a0_3 ≥ 1 then (if a0_3 ≤ 1000000 then (if a0_4 ≥ 1 then (if a0_4 ≤ 64000000000000 then (if a0_5 ≥ 0 then (some (decide (a0_5 ≤ 1000000000))) else (some false)) else (some false)) else (some false)) else (some false)) else (some false)) else (some false)) else (some false)) else (some false)) else (some false)) = some r := h; clear h
  by_cases c2 : a0_1 ≥ 0
  · rw [if_pos c2] at H
    have c2b0 : decide (0 ≤ a0_1) = true := decide_eq_true c2; clear c2
    by_cases c3 : a0_1 ≤ 36524
    · rw [if_pos c3] at H
      have c3b0 : decide (a0_1 ≤ 36524) = true := decide_eq_true c3; clear c3
      by_cases c4 : a0_2 ≥ 1
      · rw [if_pos c4] at H
        have c4b0 : decide (1 ≤ a0_2) = true := decide_eq_true c4; clear c4
        by_cases c5 : a0_2 ≤ 9
        · rw [if_pos c5] at H
          have c5b0 : decide (a0_2 ≤ 9) = true := decide_eq_true c5; clear c5
          by_cases c6 : a0_3 ≥ 1
          · rw [if_pos c6] at H
            have c6b0 : decide (1 ≤ a0_3) = true := decide_eq_true c6; clear c6
            by_cases c7 : a0_3 ≤ 1000000
            · rw [if_pos c7] at H
              have c7b0 : decide (a0_3 ≤ 1000000) = true := decide_eq_true c7; clear c7
              by_cases c8 : a0_4 ≥ 1
              · rw [if_pos c8] at H
                have c8b0 : decide (1 ≤ a0_4) = true := decide_eq_true c8; clear c8
                by_cases c9 : a0_4 ≤ 64000000000000
                · rw [if_pos c9] at H
                  have c9b0 : decide (a0_4 ≤ 64000000000000) = true := decide_eq_true c9; clear c9
                  by_cases c10 : a0_5 ≥ 0
                  · rw [if_pos c10] at H
                    have c10b0 : decide (0 ≤ a0_5) = true := decide_eq_true c10; clear c10; obtain rfl := Option.some.inj H
                    go_enter Try.func42, Try.ntmps42
                    go_wp2_with (first | ((with_reducible refine gate_dst (N := 1) rfl ?_); refine box_event ?hg (N := 1) ?hd (cs := #[.int .i64 a0_0, .int .i64 a0_1, .int .i64 a0_2, .int .i64 a0_3, .int .i64 a0_4, .int .i64 a0_5]) (t := 26) ?hr ?_; (case hd => rfl); (case hg => rfl); (case hr => first | (go_simp; done) | (go_simp; rfl)); intro gb278 hg w11 hbox hb; have n0_ := Aside0.mk (below_step (by repeat (first | (with_reducible first | exact HB.out | apply below_alloc | apply pw_below_drewN | apply below_drew1) | exact HB.out)) hb); have n1_ := Aside0.mk (hbox); have n2_ := Aside0.mk ((by rw [hg]; exact (below_size (by repeat (first | (with_reducible first | exact HB.out | apply below_alloc | apply pw_below_drewN | apply below_drew1) | exact HB.out))) : w.heap.size ≤ gb278)); have n3_ := Aside0.mk ((by rw [hg]; exact (below_size (by repeat (first | (with_reducible first | exact HB.out | apply below_alloc | apply pw_below_drewN | apply below_drew1) | exact HB.out))) : w.heap.size ≤ gb278)); clear HB; have HB := n0_; have BK278 := n1_; have GW278 := n2_; have GE278 := n3_; clear n0_ n1_ n2_ n3_; clear hb hbox hg; have hcz12_0 : w11.cell? ⟨gb278, 0, none⟩ = some (.int .i64 a0_0) := (blk_cell BK278.out 0).trans rfl; have hcz12_1 : w11.cell? ⟨gb278, 1, none⟩ = some (.int .i64 a0_1) := (blk_cell BK278.out 1).trans rfl; have hcz12_2 : w11.cell? ⟨gb278, 2, none⟩ = some (.int .i64 a0_2) := (blk_cell BK278.out 2).trans rfl; have hcz12_3 : w11.cell? ⟨gb278, 3, none⟩ = some (.int .i64 a0_3) := (blk_cell BK278.out 3).trans rfl; have hcz12_4 : w11.cell? ⟨gb278, 4, none⟩ = some (.int .i64 a0_4) := (blk_cell BK278.out 4).trans rfl; have hcz12_5 : w11.cell? ⟨gb278, 5, none⟩ = some (.int .i64 a0_5) := (blk_cell BK278.out 5).trans rfl; have hfz12_0 := blk_frozen BK278.out 0; have hfz12_1 := blk_frozen BK278.out 1; have hfz12_2 := blk_frozen BK278.out 2; have hfz12_3 := blk_frozen BK278.out 3; have hfz12_4 := blk_frozen BK278.out 4; have hfz12_5 := blk_frozen BK278.out 5))
                    go_ret
                    exact ⟨by first | rfl | (simp [errW_none, errW_some] <;> rfl) | (simp [*, errW_none, errW_some] <;> rfl), by repeat (first | (with_reducible first | exact HB.out | apply below_alloc | apply pw_below_drewN | apply below_drew1 | refine below_set ?_ GE278.out) | exact HB.out)⟩
                  · rw [if_neg c10] at H
                    have c10b0 : decide (0 ≤ a0_5) = false := decide_eq_false c10; clear c10; obtain rfl := Option.some.inj H
                    go_enter Try.func42, Try.ntmps42
                    go_wp2_with (first | ((with_reducible refine gate_dst (N := 1) rfl ?_); refine box_event ?hg (N := 1) ?hd (cs := #[.int .i64 a0_0, .int .i64 a0_1, .int .i64 a0_2, .int .i64 a0_3, .int .i64 a0_4, .int .i64 a0_5]) (t := 26) ?hr ?_; (case hd => rfl); (case hg => rfl); (case hr => first | (go_simp; done) | (go_simp; rfl)); intro gb278 hg w13 hbox hb; have n0_ := Aside0.mk (below_step (by repeat (first | (with_reducible first | exact HB.out | apply below_alloc | apply pw_below_drewN | apply below_drew1) | exact HB.out)) hb); have n1_ := Aside0.mk (hbox); have n2_ := Aside0.mk ((by rw [hg]; exact (below_size (by repeat (first | (with_reducible first | exact HB.out | apply below_alloc | apply pw_below_drewN | apply below_drew1) | exact HB.out))) : w.heap.size ≤ gb278)); have n3_ := Aside0.mk ((by rw [hg]; exact (below_size (by repeat (first | (with_reducible first | exact HB.out | apply below_alloc | apply pw_below_drewN | apply below_drew1) | exact HB.out))) : w.heap.size ≤ gb278)); clear HB; have HB := n0_; have BK278 := n1_; have GW278 := n2_; have GE278 := n3_; clear n0_ n1_ n2_ n3_; clear hb hbox hg; have hcz14_0 : w13.cell? ⟨gb278, 0, none⟩ = some (.int .i64 a0_0) := (blk_cell BK278.out 0).trans rfl; have hcz14_1 : w13.cell? ⟨gb278, 1, none⟩ = some (.int .i64 a0_1) := (blk_cell BK278.out 1).trans rfl; have hcz14_2 : w13.cell? ⟨gb278, 2, none⟩ = some (.int .i64 a0_2) := (blk_cell BK278.out 2).trans rfl; have hcz14_3 : w13.cell? ⟨gb278, 3, none⟩ = some (.int .i64 a0_3) := (blk_cell BK278.out 3).trans rfl; have hcz14_4 : w13.cell? ⟨gb278, 4, none⟩ = some (.int .i64 a0_4) := (blk_cell BK278.out 4).trans rfl; have hcz14_5 : w13.cell? ⟨gb278, 5, none⟩ = some (.int .i64 a0_5) := (blk_cell BK278.out 5).trans rfl; have hfz14_0 := blk_frozen BK278.out 0; have hfz14_1 := blk_frozen BK278.out 1; have hfz14_2 := blk_frozen BK278.out 2; have hfz14_3 := blk_frozen BK278.out 3; have hfz14_4 := blk_frozen BK278.out 4; have hfz14_5 := blk_frozen BK278.out 5))
                    go_ret
                    exact ⟨by first | rfl | (simp [errW_none, errW_some] <;> rfl) | (simp [*, errW_none, errW_some] <;> rfl), by repeat (first | (with_reducible first | exact HB.out | apply below_alloc | apply pw_below_drewN | apply below_drew1 | refine below_set ?_ GE278.out) | exact HB.out)⟩
                · rw [if_neg c9] at H
                  have c9b0 : decide (a0_4 ≤ 64000000000000) = false := decide_eq_false c9; clear c9; obtain rfl := Option.some.inj H
                  go_enter Try.func42, Try.ntmps42
                  go_wp2_with (first | ((with_reducible refine gate_dst (N := 1) rfl ?_); refine box_event ?hg (N := 1) ?hd (cs := #[.int .i64 a0_0, .int .i64 a0_1, .int .i64 a0_2, .int .i64 a0_3, .int .i64 a0_4, .int .i64 a0_5]) (t := 26) ?hr ?_; (case hd => rfl); (case hg => rfl); (case hr => first | (go_simp; done) | (go_simp; rfl)); intro gb278 hg w15 hbox hb; have n0_ := Aside0.mk (below_step (by repeat (first | (with_reducible first | exact HB.out | apply below_alloc | apply pw_below_drewN | apply below_drew1) | exact HB.out)) hb); have n1_ := Aside0.mk (hbox); have n2_ := Aside0.mk ((by rw [hg]; exact (below_size (by repeat (first | (with_reducible first | exact HB.out | apply below_alloc | apply pw_below_drewN | apply below_drew1) | exact HB.out))) : w.heap.size ≤ gb278)); have n3_ := Aside0.mk ((by rw [hg]; exact (below_size (by repeat (first | (with_reducible first | exact HB.out | apply below_alloc | apply pw_below_drewN | apply below_drew1) | exact HB.out))) : w.heap.size ≤ gb278)); clear HB; have HB := n0_; have BK278 := n1_; have GW278 := n2_; have GE278 := n3_; clear n0_ n1_ n2_ n3_; clear hb hbox hg; have hcz16_0 : w15.cell? ⟨gb278, 0, none⟩ = some (.int .i64 a0_0) := (blk_cell BK278.out 0).trans rfl; have hcz16_1 : w15.cell? ⟨gb278, 1, none⟩ = some (.int .i64 a0_1) := (blk_cell BK278.out 1).trans rfl; have hcz16_2 : w15.cell? ⟨gb278, 2, none⟩ = some (.int .i64 a0_2) := (blk_cell BK278.out 2).trans rfl; have hcz16_3 : w15.cell? ⟨gb278, 3, none⟩ = some (.int .i64 a0_3) := (blk_cell BK278.out 3).trans rfl; have hcz16_4 : w15.cell? ⟨gb278, 4, none⟩ = some (.int .i64 a0_4) := (blk_cell BK278.out 4).trans rfl; have hcz16_5 : w15.cell? ⟨gb278, 5, none⟩ = some (.int .i64 a0_5) := (blk_cell BK278.out 5).trans rfl; have hfz16_0 := blk_frozen BK278.out 0; have hfz16_1 := blk_frozen BK278.out 1; have hfz16_2 := blk_frozen BK278.out 2; have hfz16_3 := blk_frozen BK278.out 3; have hfz16_4 := blk_frozen BK278.out 4; have hfz16_5 := blk_frozen BK278.out 5))
                  go_ret
                  exact ⟨by first | rfl | (simp [errW_none, errW_some] <;> rfl) | (simp [*, errW_none, errW_some] <;> rfl), by repeat (first | (with_reducible first | exact HB.out | apply below_alloc | apply pw_below_drewN | apply below_drew1 | refine below_set ?_ GE278.out) | exact HB.out)⟩
              · rw [if_neg c8] at H
                have c8b0 : decide (1 ≤ a0_4) = false := decide_eq_false c8; clear c8; obtain rfl := Option.some.inj H
                go_enter Try.func42, Try.ntmps42
                go_wp2_with (first | ((with_reducible refine gate_dst (N := 1) rfl ?_); refine box_event ?hg (N := 1) ?hd (cs := #[.int .i64 a0_0, .int .i64 a0_1, .int .i64 a0_2, .int .i64 a0_3, .int .i64 a0_4, .int .i64 a0_5]) (t := 26) ?hr ?_; (case hd => rfl); (case hg => rfl); (case hr => first | (go_simp; done) | (go_simp; rfl)); intro gb278 hg w17 hbox hb; have n0_ := Aside0.mk (below_step (by repeat (first | (with_reducible first | exact HB.out | apply below_alloc | apply pw_below_drewN | apply below_drew1) | exact HB.out)) hb); have n1_ := Aside0.mk (hbox); have n2_ := Aside0.mk ((by rw [hg]; exact (below_size (by repeat (first | (with_reducible first | exact HB.out | apply below_alloc | apply pw_below_drewN | apply below_drew1) | exact HB.out))) : w.heap.size ≤ gb278)); have n3_ := Aside0.mk ((by rw [hg]; exact (below_size (by repeat (first | (with_reducible first | exact HB.out | apply below_alloc | apply pw_below_drewN | apply below_drew1) | exact HB.out))) : w.heap.size ≤ gb278)); clear HB; have HB := n0_; have BK278 := n1_; have GW278 := n2_; have GE278 := n3_; clear n0_ n1_ n2_ n3_; clear hb hbox hg; have hcz18_0 : w17.cell? ⟨gb278, 0, none⟩ = some (.int .i64 a0_0) := (blk_cell BK278.out 0).trans rfl; have hcz18_1 : w17.cell? ⟨gb278, 1, none⟩ = some (.int .i64 a0_1) := (blk_cell BK278.out 1).trans rfl; have hcz18_2 : w17.cell? ⟨gb278, 2, none⟩ = some (.int .i64 a0_2) := (blk_cell BK278.out 2).trans rfl; have hcz18_3 : w17.cell? ⟨gb278, 3, none⟩ = some (.int .i64 a0_3) := (blk_cell BK278.out 3).trans rfl; have hcz18_4 : w17.cell? ⟨gb278, 4, none⟩ = some (.int .i64 a0_4) := (blk_cell BK278.out 4).trans rfl; have hcz18_5 : w17.cell? ⟨gb278, 5, none⟩ = some (.int .i64 a0_5) := (blk_cell BK278.out 5).trans rfl; have hfz18_0 := blk_frozen BK278.out 0; have hfz18_1 := blk_frozen BK278.out 1; have hfz18_2 := blk_frozen BK278.out 2; have hfz18_3 := blk_frozen BK278.out 3; have hfz18_4 := blk_frozen BK278.out 4; have hfz18_5 := blk_frozen BK278.out 5))
                go_ret
                exact ⟨by first | rfl | (simp [errW_none, errW_some] <;> rfl) | (simp [*, errW_none, errW_some] <;> rfl), by repeat (first | (with_reducible first | exact HB.out | apply below_alloc | apply pw_below_drewN | apply below_drew1 | refine below_set ?_ GE278.out) | exact HB.out)⟩
            · rw [if_neg c7] at H
              have c7b0 : decide (a0_3 ≤ 1000000) = false := decide_eq_false c7; clear c7; obtain rfl := Option.some.inj H
              go_enter Try.func42, Try.ntmps42
              go_wp2_with (first | ((with_reducible refine gate_dst (N := 1) rfl ?_); refine box_event ?hg (N := 1) ?hd (cs := #[.int .i64 a0_0, .int .i64 a0_1, .int .i64 a0_2, .int .i64 a0_3, .int .i64 a0_4, .int .i64 a0_5]) (t := 26) ?hr ?_; (case hd => rfl); (case hg => rfl); (case hr => first | (go_simp; done) | (go_simp; rfl)); intro gb278 hg w19 hbox hb; have n0_ := Aside0.mk (below_step (by repeat (first | (with_reducible first | exact HB.out | apply below_alloc | apply pw_below_drewN | apply below_drew1) | exact HB.out)) hb); have n1_ := Aside0.mk (hbox); have n2_ := Aside0.mk ((by rw [hg]; exact (below_size (by repeat (first | (with_reducible first | exact HB.out | apply below_alloc | apply pw_below_drewN | apply below_drew1) | exact HB.out))) : w.heap.size ≤ gb278)); have n3_ := Aside0.mk ((by rw [hg]; exact (below_size (by repeat (first | (with_reducible first | exact HB.out | apply below_alloc | apply pw_below_drewN | apply below_drew1) | exact HB.out))) : w.heap.size ≤ gb278)); clear HB; have HB := n0_; have BK278 := n1_; have GW278 := n2_; have GE278 := n3_; clear n0_ n1_ n2_ n3_; clear hb hbox hg; have hcz20_0 : w19.cell? ⟨gb278, 0, none⟩ = some (.int .i64 a0_0) := (blk_cell BK278.out 0).trans rfl; have hcz20_1 : w19.cell? ⟨gb278, 1, none⟩ = some (.int .i64 a0_1) := (blk_cell BK278.out 1).trans rfl; have hcz20_2 : w19.cell? ⟨gb278, 2, none⟩ = some (.int .i64 a0_2) := (blk_cell BK278.out 2).trans rfl; have hcz20_3 : w19.cell? ⟨gb278, 3, none⟩ = some (.int .i64 a0_3) := (blk_cell BK278.out 3).trans rfl; have hcz20_4 : w19.cell? ⟨gb278, 4, none⟩ = some (.int .i64 a0_4) := (blk_cell BK278.out 4).trans rfl; have hcz20_5 : w19.cell? ⟨gb278, 5, none⟩ = some (.int .i64 a0_5) := (blk_cell BK278.out 5).trans rfl; have hfz20_0 := blk_frozen BK278.out 0; have hfz20_1 := blk_frozen BK278.out 1; have hfz20_2 := blk_frozen BK278.out 2; have hfz20_3 := blk_frozen BK278.out 3; have hfz20_4 := blk_frozen BK278.out 4; have hfz20_5 := blk_frozen BK278.out 5))
              go_ret
              exact ⟨by first | rfl | (simp [errW_none, errW_some] <;> rfl) | (simp [*, errW_none, errW_some] <;> rfl), by repeat (first | (with_reducible first | exact HB.out | apply below_alloc | apply pw_below_drewN | apply below_drew1 | refine below_set ?_ GE278.out) | exact HB.out)⟩
          · rw [if_neg c6] at H
            have c6b0 : decide (1 ≤ a0_3) = false := decide_eq_false c6; clear c6; obtain rfl := Option.some.inj H
            go_enter Try.func42, Try.ntmps42
            go_wp2_with (first | ((with_reducible refine gate_dst (N := 1) rfl ?_); refine box_event ?hg (N := 1) ?hd (cs := #[.int .i64 a0_0, .int .i64 a0_1, .int .i64 a0_2, .int .i64 a0_3, .int .i64 a0_4, .int .i64 a0_5]) (t := 26) ?hr ?_; (case hd => rfl); (case hg => rfl); (case hr => first | (go_simp; done) | (go_simp; rfl)); intro gb278 hg w21 hbox hb; have n0_ := Aside0.mk (below_step (by repeat (first | (with_reducible first | exact HB.out | apply below_alloc | apply pw_below_drewN | apply below_drew1) | exact HB.out)) hb); have n1_ := Aside0.mk (hbox); have n2_ := Aside0.mk ((by rw [hg]; exact (below_size (by repeat (first | (with_reducible first | exact HB.out | apply below_alloc | apply pw_below_drewN | apply below_drew1) | exact HB.out))) : w.heap.size ≤ gb278)); have n3_ := Aside0.mk ((by rw [hg]; exact (below_size (by repeat (first | (with_reducible first | exact HB.out | apply below_alloc | apply pw_below_drewN | apply below_drew1) | exact HB.out))) : w.heap.size ≤ gb278)); clear HB; have HB := n0_; have BK278 := n1_; have GW278 := n2_; have GE278 := n3_; clear n0_ n1_ n2_ n3_; clear hb hbox hg; have hcz22_0 : w21.cell? ⟨gb278, 0, none⟩ = some (.int .i64 a0_0) := (blk_cell BK278.out 0).trans rfl; have hcz22_1 : w21.cell? ⟨gb278, 1, none⟩ = some (.int .i64 a0_1) := (blk_cell BK278.out 1).trans rfl; have hcz22_2 : w21.cell? ⟨gb278, 2, none⟩ = some (.int .i64 a0_2) := (blk_cell BK278.out 2).trans rfl; have hcz22_3 : w21.cell? ⟨gb278, 3, none⟩ = some (.int .i64 a0_3) := (blk_cell BK278.out 3).trans rfl; have hcz22_4 : w21.cell? ⟨gb278, 4, none⟩ = some (.int .i64 a0_4) := (blk_cell BK278.out 4).trans rfl; have hcz22_5 : w21.cell? ⟨gb278, 5, none⟩ = some (.int .i64 a0_5) := (blk_cell BK278.out 5).trans rfl; have hfz22_0 := blk_frozen BK278.out 0; have hfz22_1 := blk_frozen BK278.out 1; have hfz22_2 := blk_frozen BK278.out 2; have hfz22_3 := blk_frozen BK278.out 3; have hfz22_4 := blk_frozen BK278.out 4; have hfz22_5 := blk_frozen BK278.out 5))
            go_ret
            exact ⟨by first | rfl | (simp [errW_none, errW_some] <;> rfl) | (simp [*, errW_none, errW_some] <;> rfl), by repeat (first | (with_reducible first | exact HB.out | apply below_alloc | apply pw_below_drewN | apply below_drew1 | refine below_set ?_ GE278.out) | exact HB.out)⟩
        · rw [if_neg c5] at H
          have c5b0 : decide (a0_2 ≤ 9) = false := decide_eq_false c5; clear c5; obtain rfl := Option.some.inj H
          go_enter Try.func42, Try.ntmps42
          go_wp2_with (first | ((with_reducible refine gate_dst (N := 1) rfl ?_); refine box_event ?hg (N := 1) ?hd (cs := #[.int .i64 a0_0, .int .i64 a0_1, .int .i64 a0_2, .int .i64 a0_3, .int .i64 a0_4, .int .i64 a0_5]) (t := 26) ?hr ?_; (case hd => rfl); (case hg => rfl); (case hr => first | (go_simp; done) | (go_simp; rfl)); intro gb278 hg w23 hbox hb; have n0_ := Aside0.mk (below_step (by repeat (first | (with_reducible first | exact HB.out | apply below_alloc | apply pw_below_drewN | apply below_drew1) | exact HB.out)) hb); have n1_ := Aside0.mk (hbox); have n2_ := Aside0.mk ((by rw [hg]; exact (below_size (by repeat (first | (with_reducible first | exact HB.out | apply below_alloc | apply pw_below_drewN | apply below_drew1) | exact HB.out))) : w.heap.size ≤ gb278)); have n3_ := Aside0.mk ((by rw [hg]; exact (below_size (by repeat (first | (with_reducible first | exact HB.out | apply below_alloc | apply pw_below_drewN | apply below_drew1) | exact HB.out))) : w.heap.size ≤ gb278)); clear HB; have HB := n0_; have BK278 := n1_; have GW278 := n2_; have GE278 := n3_; clear n0_ n1_ n2_ n3_; clear hb hbox hg; have hcz24_0 : w23.cell? ⟨gb278, 0, none⟩ = some (.int .i64 a0_0) := (blk_cell BK278.out 0).trans rfl; have hcz24_1 : w23.cell? ⟨gb278, 1, none⟩ = some (.int .i64 a0_1) := (blk_cell BK278.out 1).trans rfl; have hcz24_2 : w23.cell? ⟨gb278, 2, none⟩ = some (.int .i64 a0_2) := (blk_cell BK278.out 2).trans rfl; have hcz24_3 : w23.cell? ⟨gb278, 3, none⟩ = some (.int .i64 a0_3) := (blk_cell BK278.out 3).trans rfl; have hcz24_4 : w23.cell? ⟨gb278, 4, none⟩ = some (.int .i64 a0_4) := (blk_cell BK278.out 4).trans rfl; have hcz24_5 : w23.cell? ⟨gb278, 5, none⟩ = some (.int .i64 a0_5) := (blk_cell BK278.out 5).trans rfl; have hfz24_0 := blk_frozen BK278.out 0; have hfz24_1 := blk_frozen BK278.out 1; have hfz24_2 := blk_frozen BK278.out 2; have hfz24_3 := blk_frozen BK278.out 3; have hfz24_4 := blk_frozen BK278.out 4; have hfz24_5 := blk_frozen BK278.out 5))
          go_ret
          exact ⟨by first | rfl | (simp [errW_none, errW_some] <;> rfl) | (simp [*, errW_none, errW_some] <;> rfl), by repeat (first | (with_reducible first | exact HB.out | apply below_alloc | apply pw_below_drewN | apply below_drew1 | refine below_set ?_ GE278.out) | exact HB.out)⟩
      · rw [if_neg c4] at H
        have c4b0 : decide (1 ≤ a0_2) = false := decide_eq_false c4; clear c4; obtain rfl := Option.some.inj H
        go_enter Try.func42, Try.ntmps42
        go_wp2_with (first | ((with_reducible refine gate_dst (N := 1) rfl ?_); refine box_event ?hg (N := 1) ?hd (cs := #[.int .i64 a0_0, .int .i64 a0_1, .int .i64 a0_2, .int .i64 a0_3, .int .i64 a0_4, .int .i64 a0_5]) (t := 26) ?hr ?_; (case hd => rfl); (case hg => rfl); (case hr => first | (go_simp; done) | (go_simp; rfl)); intro gb278 hg w25 hbox hb; have n0_ := Aside0.mk (below_step (by repeat (first | (with_reducible first | exact HB.out | apply below_alloc | apply pw_below_drewN | apply below_drew1) | exact HB.out)) hb); have n1_ := Aside0.mk (hbox); have n2_ := Aside0.mk ((by rw [hg]; exact (below_size (by repeat (first | (with_reducible first | exact HB.out | apply below_alloc | apply pw_below_drewN | apply below_drew1) | exact HB.out))) : w.heap.size ≤ gb278)); have n3_ := Aside0.mk ((by rw [hg]; exact (below_size (by repeat (first | (with_reducible first | exact HB.out | apply below_alloc | apply pw_below_drewN | apply below_drew1) | exact HB.out))) : w.heap.size ≤ gb278)); clear HB; have HB := n0_; have BK278 := n1_; have GW278 := n2_; have GE278 := n3_; clear n0_ n1_ n2_ n3_; clear hb hbox hg; have hcz26_0 : w25.cell? ⟨gb278, 0, none⟩ = some (.int .i64 a0_0) := (blk_cell BK278.out 0).trans rfl; have hcz26_1 : w25.cell? ⟨gb278, 1, none⟩ = some (.int .i64 a0_1) := (blk_cell BK278.out 1).trans rfl; have hcz26_2 : w25.cell? ⟨gb278, 2, none⟩ = some (.int .i64 a0_2) := (blk_cell BK278.out 2).trans rfl; have hcz26_3 : w25.cell? ⟨gb278, 3, none⟩ = some (.int .i64 a0_3) := (blk_cell BK278.out 3).trans rfl; have hcz26_4 : w25.cell? ⟨gb278, 4, none⟩ = some (.int .i64 a0_4) := (blk_cell BK278.out 4).trans rfl; have hcz26_5 : w25.cell? ⟨gb278, 5, none⟩ = some (.int .i64 a0_5) := (blk_cell BK278.out 5).trans rfl; have hfz26_0 := blk_frozen BK278.out 0; have hfz26_1 := blk_frozen BK278.out 1; have hfz26_2 := blk_frozen BK278.out 2; have hfz26_3 := blk_frozen BK278.out 3; have hfz26_4 := blk_frozen BK278.out 4; have hfz26_5 := blk_frozen BK278.out 5))
        go_ret
        exact ⟨by first | rfl | (simp [errW_none, errW_some] <;> rfl) | (simp [*, errW_none, errW_some] <;> rfl), by repeat (first | (with_reducible first | exact HB.out | apply below_alloc | apply pw_below_drewN | apply below_drew1 | refine below_set ?_ GE278.out) | exact HB.out)⟩
    · rw [if_neg c3] at H
      have c3b0 : decide (a0_1 ≤ 36524) = false := decide_eq_false c3; clear c3; obtain rfl := Option.some.inj H
      go_enter Try.func42, Try.ntmps42
      go_wp2_with (first | ((with_reducible refine gate_dst (N := 1) rfl ?_); refine box_event ?hg (N := 1) ?hd (cs := #[.int .i64 a0_0, .int .i64 a0_1, .int .i64 a0_2, .int .i64 a0_3, .int .i64 a0_4, .int .i64 a0_5]) (t := 26) ?hr ?_; (case hd => rfl); (case hg => rfl); (case hr => first | (go_simp; done) | (go_simp; rfl)); intro gb278 hg w27 hbox hb; have n0_ := Aside0.mk (below_step (by repeat (first | (with_reducible first | exact HB.out | apply below_alloc | apply pw_below_drewN | apply below_drew1) | exact HB.out)) hb); have n1_ := Aside0.mk (hbox); have n2_ := Aside0.mk ((by rw [hg]; exact (below_size (by repeat (first | (with_reducible first | exact HB.out | apply below_alloc | apply pw_below_drewN | apply below_drew1) | exact HB.out))) : w.heap.size ≤ gb278)); have n3_ := Aside0.mk ((by rw [hg]; exact (below_size (by repeat (first | (with_reducible first | exact HB.out | apply below_alloc | apply pw_below_drewN | apply below_drew1) | exact HB.out))) : w.heap.size ≤ gb278)); clear HB; have HB := n0_; have BK278 := n1_; have GW278 := n2_; have GE278 := n3_; clear n0_ n1_ n2_ n3_; clear hb hbox hg; have hcz28_0 : w27.cell? ⟨gb278, 0, none⟩ = some (.int .i64 a0_0) := (blk_cell BK278.out 0).trans rfl; have hcz28_1 : w27.cell? ⟨gb278, 1, none⟩ = some (.int .i64 a0_1) := (blk_cell BK278.out 1).trans rfl; have hcz28_2 : w27.cell? ⟨gb278, 2, none⟩ = some (.int .i64 a0_2) := (blk_cell BK278.out 2).trans rfl; have hcz28_3 : w27.cell? ⟨gb278, 3, none⟩ = some (.int .i64 a0_3) := (blk_cell BK278.out 3).trans rfl; have hcz28_4 : w27.cell? ⟨gb278, 4, none⟩ = some (.int .i64 a0_4) := (blk_cell BK278.out 4).trans rfl; have hcz28_5 : w27.cell? ⟨gb278, 5, none⟩ = some (.int .i64 a0_5) := (blk_cell BK278.out 5).trans rfl; have hfz28_0 := blk_frozen BK278.out 0; have hfz28_1 := blk_frozen BK278.out 1; have hfz28_2 := blk_frozen BK278.out 2; have hfz28_3 := blk_frozen BK278.out 3; have hfz28_4 := blk_frozen BK278.out 4; have hfz28_5 := blk_frozen BK278.out 5))
      go_ret
      exact ⟨by first | rfl | (simp [errW_none, errW_some] <;> rfl) | (simp [*, errW_none, errW_some] <;> rfl), by repeat (first | (with_reducible first | exact HB.out | apply below_alloc | apply pw_below_drewN | apply below_drew1 | refine below_set ?_ GE278.out) | exact HB.out)⟩
  · rw [if_neg c2] at H
    have c2b0 : decide (0 ≤ a0_1) = false := decide_eq_false c2; clear c2; obtain rfl := Option.some.inj H
    go_enter Try.func42, Try.ntmps42
    go_wp2_with (first | ((with_reducible refine gate_dst (N := 1) rfl ?_); refine box_event ?hg (N := 1) ?hd (cs := #[.int .i64 a0_0, .int .i64 a0_1, .int .i64 a0_2, .int .i64 a0_3, .int .i64 a0_4, .int .i64 a0_5]) (t := 26) ?hr ?_; (case hd => rfl); (case hg => rfl); (case hr => first | (go_simp; done) | (go_simp; rfl)); intro gb278 hg w29 hbox hb; have n0_ := Aside0.mk (below_step (by repeat (first | (with_reducible first | exact HB.out | apply below_alloc | apply pw_below_drewN | apply below_drew1) | exact HB.out)) hb); have n1_ := Aside0.mk (hbox); have n2_ := Aside0.mk ((by rw [hg]; exact (below_size (by repeat (first | (with_reducible first | exact HB.out | apply below_alloc | apply pw_below_drewN | apply below_drew1) | exact HB.out))) : w.heap.size ≤ gb278)); have n3_ := Aside0.mk ((by rw [hg]; exact (below_size (by repeat (first | (with_reducible first | exact HB.out | apply below_alloc | apply pw_below_drewN | apply below_drew1) | exact HB.out))) : w.heap.size ≤ gb278)); clear HB; have HB := n0_; have BK278 := n1_; have GW278 := n2_; have GE278 := n3_; clear n0_ n1_ n2_ n3_; clear hb hbox hg; have hcz30_0 : w29.cell? ⟨gb278, 0, none⟩ = some (.int .i64 a0_0) := (blk_cell BK278.out 0).trans rfl; have hcz30_1 : w29.cell? ⟨gb278, 1, none⟩ = some (.int .i64 a0_1) := (blk_cell BK278.out 1).trans rfl; have hcz30_2 : w29.cell? ⟨gb278, 2, none⟩ = some (.int .i64 a0_2) := (blk_cell BK278.out 2).trans rfl; have hcz30_3 : w29.cell? ⟨gb278, 3, none⟩ = some (.int .i64 a0_3) := (blk_cell BK278.out 3).trans rfl; have hcz30_4 : w29.cell? ⟨gb278, 4, none⟩ = some (.int .i64 a0_4) := (blk_cell BK278.out 4).trans rfl; have hcz30_5 : w29.cell? ⟨gb278, 5, none⟩ = some (.int .i64 a0_5) := (blk_cell BK278.out 5).trans rfl; have hfz30_0 := blk_frozen BK278.out 0; have hfz30_1 := blk_frozen BK278.out 1; have hfz30_2 := blk_frozen BK278.out 2; have hfz30_3 := blk_frozen BK278.out 3; have hfz30_4 := blk_frozen BK278.out 4; have hfz30_5 := blk_frozen BK278.out 5))
    go_ret
    exact ⟨by first | rfl | (simp [errW_none, errW_some] <;> rfl) | (simp [*, errW_none, errW_some] <;> rfl), by repeat (first | (with_reducible first | exact HB.out | apply below_alloc | apply pw_below_drewN | apply below_drew1 | refine below_set ?_ GE278.out) | exact HB.out)⟩
end Go.Proofs.Ytgedkdofhonicaa.PA
/- A few lemmas that the printed texts lean on where they would say one thing twice. -/
namespace Go.Proofs.YtgedkdofhonicaaW.PrintWords
open Go.RowKit
theorem below_both {w W w2 : World} (h : Below w.heap.size w W) (k : Below W.heap.size W w2) : Below w.heap.size w w2 ∧ w.heap.size ≤ W.heap.size := ⟨below_step h k, below_size h⟩
theorem blk_below2 {w w1 : World} {g : Nat} {o : Obj} (h : w.heap[g]? = some o) (hb : Below w.heap.size w w1) : w1.heap[g]? = some o ∧ g < w.heap.size := ⟨blk_below h hb, blk_lt h⟩
theorem Kd.R_elder2 {α : Type} {d : Kd α} {e base : Nat} {ok : Nat → Prop} {u v : Value} {W w1 : World} {xs : List α} (hu : d.R e W base ok u xs) (hbase : ∀ k, v.ownBlock = some k → W.heap.size ≤ k) (hb : Below W.heap.size W w1) : d.R e w1 base (fun k => ok k ∧ some k ≠ v.ownBlock) u xs ∧ ∀ k, u.ownBlock = some k → k < W.heap.size := ⟨Kd.R_elder' hu hbase hb, Kd.R_lt hu⟩
end Go.Proofs.YtgedkdofhonicaaW.PrintWords
/- Lemmas that the printed texts lean on where they would say one thing many times: an argument that is left out is proved at the place itself, by the rows that stand here. -/
namespace Go.Proofs.YtgedkdofhonicaaW.PrintWords
open Go.RowKit
/-- What is new since lies above; HB tells it of the last letter. -/
theorem bel {P : Prop} (h : P := by repeat (first | (with_reducible first | exact HB.out | apply below_alloc | apply pw_below_drewN | apply below_drew1 | refine below_set ?_ (Aside0.out (by with_reducible assumption))) | exact HB.out)) : P := h
/-- A variable in memory holds what it held, behind stores into others. -/
theorem blkx {P : Prop} (h : P := by (with_reducible repeat (first | refine blk_drewN ?_ _ | refine blk_drew ?_ | refine blk_alloc ?_ _)); (repeat (refine blk_far ?_ (Aside0.out (by with_reducible assumption)) _; (with_reducible repeat (first | refine blk_drewN ?_ _ | refine blk_drew ?_ | refine blk_alloc ?_ _)))); exact Aside0.out (by with_reducible assumption)) : P := h
/-- A row, behind steps that leave it. -/
theorem rowx {P Q : Prop} (h : Q) (f : Q → P := by intro z; (with_reducible repeat (first | apply Kd.R_alloc | apply Kd.R_drewN | apply Kd.R_drew)); exact z) : P := f h
theorem argx {P : Prop} (h : P := by (try simp only [List.map_toArray, List.map_cons, List.map_nil]); first | done | rfl | (simp only [List.length_drop, List.length_take]; rfl)) : P := h
section
variable {w : World} {g : Nat} {t : TypeId} {a b c d e f : Value}
theorem cells5 (h : w.heap[g]? = some (.cells #[a, b, c, d, e] t (0, 0))) : w.cell? ⟨g, 0, none⟩ = some a ∧ w.cell? ⟨g, 1, none⟩ = some b ∧ w.cell? ⟨g, 2, none⟩ = some c ∧ w.cell? ⟨g, 3, none⟩ = some d ∧ w.cell? ⟨g, 4, none⟩ = some e ∧ w.frozen? ⟨g, 0, none⟩ = false ∧ w.frozen? ⟨g, 1, none⟩ = false ∧ w.frozen? ⟨g, 2, none⟩ = false ∧ w.frozen? ⟨g, 3, none⟩ = false ∧ w.frozen? ⟨g, 4, none⟩ = false :=
  ⟨(blk_cell h 0).trans rfl, (blk_cell h 1).trans rfl, (blk_cell h 2).trans rfl, (blk_cell h 3).trans rfl, (blk_cell h 4).trans rfl, blk_frozen h 0, blk_frozen h 1, blk_frozen h 2, blk_frozen h 3, blk_frozen h 4⟩
theorem cells6 (h : w.heap[g]? = some (.cells #[a, b, c, d, e, f] t (0, 0))) : w.cell? ⟨g, 0, none⟩ = some a ∧ w.cell? ⟨g, 1, none⟩ = some b ∧ w.cell? ⟨g, 2, none⟩ = some c ∧ w.cell? ⟨g, 3, none⟩ = some d ∧ w.cell? ⟨g, 4, none⟩ = some e ∧ w.cell? ⟨g, 5, none⟩ = some f ∧ w.frozen? ⟨g, 0, none⟩ = false ∧ w.frozen? ⟨g, 1, none⟩ = false ∧ w.frozen? ⟨g, 2, none⟩ = false ∧ w.frozen? ⟨g, 3, none⟩ = false ∧ w.frozen? ⟨g, 4, none⟩ = false ∧ w.frozen? ⟨g, 5, none⟩ = false :=
  ⟨(blk_cell h 0).trans rfl, (blk_cell h 1).trans rfl, (blk_cell h 2).trans rfl, (blk_cell h 3).trans rfl, (blk_cell h 4).trans rfl, (blk_cell h 5).trans rfl, blk_frozen h 0, blk_frozen h 1, blk_frozen h 2, blk_frozen h 3, blk_frozen h 4, blk_frozen h 5⟩
end
end Go.Proofs.YtgedkdofhonicaaW.PrintWords
/- Lemmas that the printed texts of this stage lean on where they would say one proof many times: the argument that is left out is proved at the place itself, by the rows that stand here. -/
namespace Go.Proofs.Ytgedkdofhonicaa.PA
open Go.RowKit Go.Proofs.YtgedkdofhonicaaW.PrintWords Go.Proofs.YtgedkdofhonicaaW.PrintLast Go.Proofs.YtgedkdofhonicaaW.PrintMore
theorem zPA0 {P : Prop} (h : P := by first | (simp only [putAll, Act.put, List.setIfInBounds_toArray, List.set_cons_zero, List.set_cons_succ]; done) | (simp only [putAll, Act.put, List.setIfInBounds_toArray, List.set_cons_zero, List.set_cons_succ]; rfl)) : P := h
theorem zPA1 {P : Prop} (h : P := by repeat (first | (with_reducible first | exact HK.out | apply KeepBut.set_ | apply keep_drewN | apply keep_drew | apply keep_alloc | refine keep_far ?_ GW109.out _) | exact HK.out)) : P := h
theorem zPA2 {P : Prop} (h : P := by repeat (first | (with_reducible first | exact HK.out | apply KeepBut.set_ | apply keep_drewN | apply keep_drew | apply keep_alloc | refine keep_far ?_ GW109.out _ | refine keep_far ?_ GW124.out _) | exact HK.out)) : P := h
theorem zPA3 {P : Prop} (h : P := by repeat (first | (with_reducible first | exact HB.out | apply below_alloc | apply pw_below_drewN | apply below_drew1 | refine below_set ?_ (IsS30.ge HI0.out) | refine below_set ?_ GE109.out | refine below_set ?_ GE124.out) | exact HB.out)) : P := h
theorem zPA4 {P : Prop} (h : P := by repeat (first | (with_reducible first | exact HI0.out | apply IsS30.alloc | apply IsS30.drewN | apply IsS30.drew | apply IsS30.set_1 | refine IsS30.far ?_ NB0_109.out _ | refine IsS30.far ?_ NB0_124.out _) | exact HI0.out)) : P := h
theorem zPA5 {P : Prop} (h : P := by repeat (first | (with_reducible first | exact HB.out | apply below_alloc | apply pw_below_drewN | apply below_drew1 | refine below_set ?_ (IsS30.ge HI0.out) | refine below_set ?_ GE109.out) | exact HB.out)) : P := h
theorem zPA6 {P : Prop} (h : P := by repeat (first | (with_reducible first | exact HI0.out | apply IsS30.alloc | apply IsS30.drewN | apply IsS30.drew | apply IsS30.set_1 | refine IsS30.far ?_ NB0_109.out _) | exact HI0.out)) : P := h
theorem zPA7 {P : Prop} (h : P := by first | (with_reducible assumption) | assumption) : P := h
theorem zPA8 {P : Prop} (h : P := by (with_reducible repeat (first | apply Kd.R_alloc | apply Kd.R_drewN | apply Kd.R_drew)); exact (Kd.R_mono (Kd.R_far (p := ⟨gb112, 5, none⟩) (Kd.R_far (p := ⟨gb112, 4, none⟩) (Kd.R_far (p := ⟨gb112, 3, none⟩) (Kd.R_far (p := ⟨gb112, 2, none⟩) (Kd.R_far (p := ⟨gb112, 1, none⟩) (Kd.R_far (p := ⟨gb112, 0, none⟩) (Kd.R_mono HO103.out (fun k_ hk => (⟨hk, hk.2⟩ : _ ∧ k_ ≠ gb112))) (fun _ hk => hk.2) (.int .i64 t105)) (fun _ hk => hk.2) (.int .i64 t106)) (fun _ hk => hk.2) (.int .i64 t107)) (fun _ hk => hk.2) (.int .i64 t108)) (fun _ hk => hk.2) (.int .i64 t109)) (fun _ hk => hk.2) (.int .i64 t110)) (fun _ h_ => h_.1))) : P := h
theorem zPA9 {P : Prop} (h : P := by (with_reducible repeat (first | apply Kd.R_alloc | apply Kd.R_drewN | apply Kd.R_drew)); exact (Kd.R_mono (Kd.R_far (p := ⟨gb133, 5, none⟩) (Kd.R_far (p := ⟨gb133, 4, none⟩) (Kd.R_far (p := ⟨gb133, 3, none⟩) (Kd.R_far (p := ⟨gb133, 2, none⟩) (Kd.R_far (p := ⟨gb133, 1, none⟩) (Kd.R_far (p := ⟨gb133, 0, none⟩) (Kd.R_mono HO_4.out (fun k_ hk => (⟨hk, hk.2⟩ : _ ∧ k_ ≠ gb133))) (fun _ hk => hk.2) (.int .i64 t126)) (fun _ hk => hk.2) (.int .i64 t127)) (fun _ hk => hk.2) (.int .i64 t128)) (fun _ hk => hk.2) (.int .i64 t129)) (fun _ hk => hk.2) (.int .i64 t130)) (fun _ hk => hk.2) (.int .i64 t131)) (fun _ h_ => h_.1))) : P := h
theorem zPA10 {P : Prop} (h : P := by (with_reducible repeat (first | refine blk_drewN ?_ _ | refine blk_drew ?_ | refine blk_alloc ?_ _)); refine blk_put (cs := #[.int .i64 t105, .int .i64 t106, .int .i64 t107, .int .i64 t108, .int .i64 t109, .int .i64 0]) ?_ 5 _ rfl; refine blk_put (cs := #[.int .i64 t105, .int .i64 t106, .int .i64 t107, .int .i64 t108, .int .i64 0, .int .i64 0]) ?_ 4 _ rfl; refine blk_put (cs := #[.int .i64 t105, .int .i64 t106, .int .i64 t107, .int .i64 0, .int .i64 0, .int .i64 0]) ?_ 3 _ rfl; refine blk_put (cs := #[.int .i64 t105, .int .i64 t106, .int .i64 0, .int .i64 0, .int .i64 0, .int .i64 0]) ?_ 2 _ rfl; refine blk_put (cs := #[.int .i64 t105, .int .i64 0, .int .i64 0, .int .i64 0, .int .i64 0, .int .i64 0]) ?_ 1 _ rfl; refine blk_put (cs := #[.int .i64 0, .int .i64 0, .int .i64 0, .int .i64 0, .int .i64 0, .int .i64 0]) ?_ 0 _ rfl; (with_reducible repeat (first | refine blk_drewN ?_ _ | refine blk_drew ?_ | refine blk_alloc ?_ _)); exact BK112.out) : P := h
theorem zPA11 {P : Prop} (h : P := by first | rfl | (simp; done) | (simp [*]; done)) : P := h
theorem zPA12 {P : Prop} (h : P := by (with_reducible repeat (first | apply Kd.R_alloc | apply Kd.R_drewN | apply Kd.R_drew)); exact Kd.R_mono HO132.out (fun _ hk => ⟨hk.2, hk.1⟩)) : P := h
theorem zPA13 {P : Prop} (h : P := by repeat (first | (with_reducible first | exact HK.out | apply KeepBut.set_ | apply keep_drewN | apply keep_drew | apply keep_alloc) | exact HK.out)) : P := h
theorem zPA14 {P : Prop} (h : P := by repeat (first | (with_reducible first | exact HB.out | apply below_alloc | apply pw_below_drewN | apply below_drew1 | refine below_set ?_ (IsS30.ge HI104.out)) | exact HB.out)) : P := h
theorem zPA15 {P : Prop} (h : P := by repeat (first | (with_reducible first | exact HB.out | apply below_alloc | apply pw_below_drewN | apply below_drew1 | refine below_set ?_ (IsS30.ge HI104.out) | refine below_set ?_ GE112.out) | exact HB.out)) : P := h
theorem zPA16 {P : Prop} (h : P := by repeat (first | (with_reducible first | exact HB.out | apply below_alloc | apply pw_below_drewN | apply below_drew1 | refine below_set ?_ (IsS30.ge HI123.out)) | exact HB.out)) : P := h
end Go.Proofs.Ytgedkdofhonicaa.PA
-- Written by a program of this claim (wip/tools: mkprint.py, pr.sh) out of the translation: plain functions and their contracts. Lean checks every line.
namespace Go.Proofs.Ytgedkdofhonicaa.PA
open Go.RowKit Go.Proofs.YtgedkdofhonicaaW.PrintWords Go.Proofs.YtgedkdofhonicaaW.PrintLast Go.Proofs.YtgedkdofhonicaaW.PrintMore Go.Proofs.Ytgedkdofhonicaa.G
attribute [local go_sem] max2_int min2_int max_two min_two max_three min_three max_four min_four   -- for this text's walks alone
set_option linter.unusedVariables false
set_option linter.unusedSimpArgs false
def customsmade_Within.f (a0 : Int) (a1 : Int) : Option (Int) := if a1 = 0 then (none) else (some (Int.tmod (wrap64 ((Int.tmod a0 a1) + a1)) a1))
set_option maxHeartbeats 8000000 in
set_option maxRecDepth 100000 in
theorem customsmade_Within.calls (a0 : Int) (a1 : Int) (r : Int) (w : World) (h : customsmade_Within.f a0 a1 = some r) :
  Calls Try.prog 17 #[.int .i64 a0, .int .i64 a1] w fun e w' => e = .returned (.int .i64 r) ∧ Drawn0 w w' := by
 have H : (if a1 = 0 then (none) else (some (Int.tmod (wrap64 ((Int.tmod a0 a1) + a1)) a1))) = some r := h; clear h
 by_cases c3 : a1 = 0
 ·rw [if_pos c3] at H
  exact absurd H (by simp)
 ·rw [if_neg c3] at H
  have c3b0 : (a1 == 0) = false := beq_eq_false_iff_ne.mpr c3; have c3b1 : (a1 != 0) = true := bne_iff_ne.mpr c3; obtain rfl := Option.some.inj H
  go_enter Try.func17, Try.ntmps17
  go_wp2
  go_ret
  exact ⟨by first | rfl | (simp; done) | (simp [*]; done), by repeat (first | exact Drawn0.refl _ | apply Drawn0.step)⟩
/-- A state of type 30 at block g of W; what its slices lead to came in by w0. -/
def IsS30 (w0 W : World) (g : Nat) (f0 : List Int) (f1 : Int) : Prop := ∃ A0 c0, W.heap[g]? = some (.cells #[.slice A0 f0.length c0, .int .i64 f1] 30 (0, 0)) ∧ w0.heap.size ≤ g ∧ Kd.C (Kd.int .i64) w0 A0 f0.length f0
theorem IsS30.grown {w0 W : World} {g : Nat} {f0 : List Int} {f1 : Int} {W1 : World} {row : Option Nat} (h : IsS30 w0 W g f0 f1) (hw : W.grownBy W1 row) (hne : some g ≠ row) : IsS30 w0 W1 g f0 f1 := by
 obtain ⟨A0, c0, hb, hg, hr0⟩ := h
 exact ⟨A0, c0, blk_grown hb hw hne, hg, hr0⟩
theorem IsS30.below {w0 W : World} {g : Nat} {f0 : List Int} {f1 : Int} {W1 : World} (h : IsS30 w0 W g f0 f1) (hw : Below W.heap.size W W1) : IsS30 w0 W1 g f0 f1 := h.grown (grown_of_below hw none) (by simp)
theorem IsS30.drewN {w0 W : World} {g : Nat} {f0 : List Int} {f1 : Int} (h : IsS30 w0 W g f0 f1) (m : Nat) : IsS30 w0 (W.drewN m) g f0 f1 := h
theorem IsS30.drew {w0 W : World} {g : Nat} {f0 : List Int} {f1 : Int} (h : IsS30 w0 W g f0 f1) : IsS30 w0 W.drew g f0 f1 := h
theorem IsS30.apart {w0 W : World} {g : Nat} {f0 : List Int} {f1 : Int} {α : Type} {d : Kd α} {e : Nat} {base : Nat} {ok : Nat → Prop} {v : Value} {xs : List α} (h : IsS30 w0 W g f0 f1) (ho : d.R e W base ok v xs) (ht : ∀ q, q ∈ e :: d.E → q ≠ 30) : d.R e W base (fun k => ok k ∧ k ≠ g) v xs := by
 obtain ⟨A0, c0, hb, hg, hr0⟩ := h
 exact Kd.R_types ho hb ht
theorem IsS30.lt {w0 W : World} {g : Nat} {f0 : List Int} {f1 : Int} (h : IsS30 w0 W g f0 f1) : g < W.heap.size := by
 obtain ⟨A0, c0, hb, hg, hr0⟩ := h
 exact blk_lt hb
theorem IsS30.ge {w0 W : World} {g : Nat} {f0 : List Int} {f1 : Int} (h : IsS30 w0 W g f0 f1) : w0.heap.size ≤ g := by
 obtain ⟨A0, c0, hb, hg, hr0⟩ := h
 exact hg
theorem IsS30.far {w0 W : World} {g : Nat} {f0 : List Int} {f1 : Int} {p : Addr} (h : IsS30 w0 W g f0 f1) (hne : g ≠ p.block) (u : Value) : IsS30 w0 (W.setCell p u) g f0 f1 := by
 obtain ⟨A0, c0, hb, hg, hr0⟩ := h
 exact ⟨A0, c0, blk_far hb hne u, hg, hr0⟩
theorem cellS30_0 {W : World} {g : Nat} {A0 : Option Addr} {c0 : Nat} {f0 : List Int} {f1 : Int} (h : W.heap[g]? = some (.cells #[.slice A0 f0.length c0, .int .i64 f1] 30 (0, 0))) : W.cell? ⟨g, 0, none⟩ = some (.slice A0 f0.length c0) := (blk_cell h 0).trans rfl
theorem cellS30_1 {W : World} {g : Nat} {A0 : Option Addr} {c0 : Nat} {f0 : List Int} {f1 : Int} (h : W.heap[g]? = some (.cells #[.slice A0 f0.length c0, .int .i64 f1] 30 (0, 0))) : W.cell? ⟨g, 1, none⟩ = some (.int .i64 f1) := (blk_cell h 1).trans rfl
theorem IsS30.set_1 {w0 W : World} {g : Nat} {f0 : List Int} {f1 : Int} (h : IsS30 w0 W g f0 f1) (x : Int) : IsS30 w0 (W.setCell ⟨g, 1, none⟩ (.int .i64 x)) g f0 x := by
 obtain ⟨A0, c0, hb, hg, hr0⟩ := h
 exact ⟨A0, c0, by simpa using blk_set hb 1 (.int .i64 x), hg, hr0⟩
def customsmade_Source_Next.f (s0_0 : List Int) (s0_1 : Int) (a1 : Int) : Option (Int × Int) := if s0_1 ≥ (s0_0.length : Int) then (some (0, s0_1)) else (if 0 ≤ (wrap64 ((wrap64 (s0_1 + 1)) - 1)) then (if (wrap64 ((wrap64 (s0_1 + 1)) - 1)) < (s0_0.length : Int) then ((customsmade_Within.f (rd s0_0 (wrap64 ((wrap64 (s0_1 + 1)) - 1))) a1).bind fun t102 => (some (t102, wrap64 (s0_1 + 1)))) else (none)) else (none))
set_option maxHeartbeats 8000000 in
set_option maxRecDepth 100000 in
theorem customsmade_Source_Next.calls (g : Nat) (s0_0 : List Int) (s0_1 : Int) (a1 : Int) (r1 : Int) (r2 : Int) (w0 w : World) (hI : IsS30 w0 w g s0_0 s0_1) (hB : Below w0.heap.size w0 w) (h : customsmade_Source_Next.f s0_0 s0_1 a1 = some (r1, r2)) :
  Calls Try.prog 27 #[.pointer (some ⟨g, 0, none⟩), .int .i64 a1] w fun e w' => e = .returned (.int .i64 r1) ∧ IsS30 w0 w' g s0_0 r2 ∧ Below w0.heap.size w0 w' ∧ KeepBut w w' g none := by
 have HI0 := Aside0.mk hI; have HK := Aside0.mk (KeepBut.refl w g none); have HL := Aside0.mk hB.size; clear hI; have HW0 := Aside0.mk hB.size; have HB := Aside0.mk hB; clear hB; have H : (if s0_1 ≥ (s0_0.length : Int) then (some (0, s0_1)) else (if 0 ≤ (wrap64 ((wrap64 (s0_1 + 1)) - 1)) then (if (wrap64 ((wrap64 (s0_1 + 1)) - 1)) < (s0_0.length : Int) then ((customsmade_Within.f (rd s0_0 (wrap64 ((wrap64 (s0_1 + 1)) - 1))) a1).bind fun t102 => (some (t102, wrap64 (s0_1 + 1)))) else (none)) else (none))) = some (r1, r2) := h; clear h
 by_cases c3 : s0_1 ≥ (s0_0.length : Int)
 ·rw [if_pos c3] at H
  have c3b0 : decide ((s0_0.length : Int) ≤ s0_1) = true := decide_eq_true c3; clear c3
  simp only [Option.some.injEq, Prod.mk.injEq] at H
  obtain ⟨rfl, rfl⟩ := H; obtain ⟨ASz4_0, cSz4_0, HGz4, hgz4, HSz4_0⟩ := HI0.out; have hcz4_0 := cellS30_0 HGz4; have hcz4_1 := cellS30_1 HGz4; have hfz4_1 := blk_frozen HGz4 1; clear HGz4 hgz4
  go_enter Try.func27, Try.ntmps27
  go_wp2
  repeat (go_quiet (fail); try go_wp2)
  go_ret
  exact ⟨by first | rfl | (simp [errW_none, errW_some] <;> rfl) | (simp [*, errW_none, errW_some] <;> rfl), by repeat (first | (with_reducible first | exact HI0.out | apply IsS30.alloc | apply IsS30.drewN | apply IsS30.drew | apply IsS30.set_1) | exact HI0.out), by repeat (first | (with_reducible first | exact HB.out | apply below_alloc | apply pw_below_drewN | apply below_drew1 | refine below_set ?_ (IsS30.ge HI0.out)) | exact HB.out), by repeat (first | (with_reducible first | exact HK.out | apply KeepBut.set_ | apply keep_drewN | apply keep_drew | apply keep_alloc) | exact HK.out)⟩
 ·rw [if_neg c3] at H
  have c3b0 : decide ((s0_0.length : Int) ≤ s0_1) = false := decide_eq_false c3; clear c3; obtain ⟨ji5, hji5⟩ : ∃ j_ : Int, (wrap64 ((wrap64 (s0_1 + 1)) - 1)) = j_ := ⟨_, rfl⟩
  replace H : (if 0 ≤ (ji5) then (if (ji5) < (s0_0.length : Int) then ((customsmade_Within.f (rd s0_0 (ji5)) a1).bind fun t102 => (some (t102, wrap64 (s0_1 + 1)))) else (none)) else (none)) = some (r1, r2) := by first | (rw [hji5] at H; exact H) | (simp only [hji5] at H ⊢; exact H)
  have hji5w : (IntKind.i64.wrap ((wrap64 (s0_1 + 1)) - 1)) = ji5 := (i64_w _).trans hji5
  by_cases c6 : 0 ≤ (ji5)
  ·rw [if_pos c6] at H
   have c6b0 : decide (0 ≤ (ji5)) = true := decide_eq_true c6; clear c6
   by_cases c7 : (ji5) < (s0_0.length : Int)
   ·rw [if_pos c7] at H
    have c7b0 : decide ((ji5) < (s0_0.length : Int)) = true := decide_eq_true c7; clear c7; replace H := Option.bind_eq_some_iff.mp H; obtain ⟨t102, A80, H⟩ := H; replace H : (some (t102, wrap64 (s0_1 + 1))) = some (r1, r2) := H; have A8 := Aside0.mk A80; clear A80
    simp only [Option.some.injEq, Prod.mk.injEq] at H
    obtain ⟨rfl, rfl⟩ := H; obtain ⟨ASz9_0, cSz9_0, HGz9, hgz9, HSz9_0⟩ := HI0.out; have hcz9_0 := cellS30_0 HGz9; have hcz9_1 := cellS30_1 HGz9; have hfz9_1 := blk_frozen HGz9 1; clear HGz9 hgz9; have p101 : 0 ≤ ((ji5) : Int) := of_decide_eq_true zPA7; have q101 : (ji5) < (s0_0.length : Int) := of_decide_eq_true zPA7; obtain ⟨ad101, e101, hx101_0⟩ := Kd.at_int HSz9_0 (ji5) p101 q101
    cases e101
    have hn101_0 : ad101.block ≠ g := Nat.ne_of_lt (Nat.lt_of_lt_of_le (by have := World.block_lt_of_cell? _ _ hx101_0; first | rwa [add_block] at this | exact this) (IsS30.ge HI0.out)); replace hx101_0 := pw_cell_below HB.out hx101_0; replace hx101_0 := (cell_far (p := ⟨g, 1, none⟩) (by first | (rw [add_block]; exact hn101_0) | (show (Addr.add _ _).block ≠ _; rw [add_block]; exact hn101_0) | exact hn101_0) (.int .i64 (wrap64 (s0_1 + 1)))).trans hx101_0
    (try have hy101_0 := fun (n_ : Nat) => (show (((w.drewN n_).setCell ⟨g, 1, none⟩ (.int .i64 (wrap64 (s0_1 + 1))))).cell? _ = some _ from hx101_0))
    clear hn101_0; replace p101 := eq_true p101; replace q101 := eq_true q101
    go_enter Try.func27, Try.ntmps27
    go_wp2_with (first | (go_at_call 17; (with_reducible refine (customsmade_Within.calls (rd s0_0 (ji5)) a1 t102 _ A8.out).mono ?_); rintro e w' ⟨rfl, ⟨nd, rfl⟩⟩; (try first | exact ⟨rfl, _, World.drewN_drewN _ _ _⟩ | exact ⟨rfl, _, Eq.trans (World.drewN_drewN _ _ _) (congrArg (World.drewN _) (Nat.add_assoc _ _ _))⟩)))
    repeat (go_quiet (first | (go_at_call 17; (with_reducible refine (customsmade_Within.calls (rd s0_0 (ji5)) a1 t102 _ A8.out).mono ?_); rintro e w' ⟨rfl, ⟨nd, rfl⟩⟩; (try first | exact ⟨rfl, _, World.drewN_drewN _ _ _⟩ | exact ⟨rfl, _, Eq.trans (World.drewN_drewN _ _ _) (congrArg (World.drewN _) (Nat.add_assoc _ _ _))⟩))); try go_wp2_with (first | (go_at_call 17; (with_reducible refine (customsmade_Within.calls (rd s0_0 (ji5)) a1 t102 _ A8.out).mono ?_); rintro e w' ⟨rfl, ⟨nd, rfl⟩⟩; (try first | exact ⟨rfl, _, World.drewN_drewN _ _ _⟩ | exact ⟨rfl, _, Eq.trans (World.drewN_drewN _ _ _) (congrArg (World.drewN _) (Nat.add_assoc _ _ _))⟩))))
    go_ret
    exact ⟨by first | rfl | (simp [errW_none, errW_some] <;> rfl) | (simp only [← hji5]; first | rfl | (simp [errW_none, errW_some] <;> rfl)) | (simp [*, errW_none, errW_some] <;> rfl), by repeat (first | (with_reducible first | exact HI0.out | apply IsS30.alloc | apply IsS30.drewN | apply IsS30.drew | apply IsS30.set_1) | exact HI0.out), by repeat (first | (with_reducible first | exact HB.out | apply below_alloc | apply pw_below_drewN | apply below_drew1 | refine below_set ?_ (IsS30.ge HI0.out)) | exact HB.out), by repeat (first | (with_reducible first | exact HK.out | apply KeepBut.set_ | apply keep_drewN | apply keep_drew | apply keep_alloc) | exact HK.out)⟩
   ·rw [if_neg c7] at H
    exact absurd H (by simp)
  ·rw [if_neg c6] at H
   exact absurd H (by simp)
def customsmade_Small.f (s0_0 : List Int) (s0_1 : Int) (a1 : Int) (a2 : Int) : Option (Int × Int) := (customsmade_Source_Next.f s0_0 s0_1 5).bind fun bt103 => (if bt103.1 = 4 then ((customsmade_Source_Next.f s0_0 bt103.2 a2).bind fun bt105 => (some (bt105.1, bt105.2))) else ((customsmade_Source_Next.f s0_0 bt103.2 a1).bind fun bt107 => (some (bt107.1, bt107.2))))
set_option maxHeartbeats 8000000 in
set_option maxRecDepth 100000 in
theorem customsmade_Small.calls (g : Nat) (s0_0 : List Int) (s0_1 : Int) (a1 : Int) (a2 : Int) (r1 : Int) (r2 : Int) (w0 w : World) (hI : IsS30 w0 w g s0_0 s0_1) (hB : Below w0.heap.size w0 w) (h : customsmade_Small.f s0_0 s0_1 a1 a2 = some (r1, r2)) :
  Calls Try.prog 28 #[.pointer (some ⟨g, 0, none⟩), .int .i64 a1, .int .i64 a2] w fun e w' => e = .returned (.int .i64 r1) ∧ IsS30 w0 w' g s0_0 r2 ∧ Below w0.heap.size w0 w' ∧ KeepBut w w' g none := by
 have HI0 := Aside0.mk hI; have HK := Aside0.mk (KeepBut.refl w g none); have HL := Aside0.mk hB.size; clear hI; have HW0 := Aside0.mk hB.size; have HB := Aside0.mk hB; clear hB; have H : ((customsmade_Source_Next.f s0_0 s0_1 5).bind fun bt103 => (if bt103.1 = 4 then ((customsmade_Source_Next.f s0_0 bt103.2 a2).bind fun bt105 => (some (bt105.1, bt105.2))) else ((customsmade_Source_Next.f s0_0 bt103.2 a1).bind fun bt107 => (some (bt107.1, bt107.2))))) = some (r1, r2) := h; clear h; replace H := Option.bind_eq_some_iff.mp H; obtain ⟨⟨t103, t104⟩, A40, H⟩ := H; replace H : (if t103 = 4 then ((customsmade_Source_Next.f s0_0 t104 a2).bind fun bt105 => (some (bt105.1, bt105.2))) else ((customsmade_Source_Next.f s0_0 t104 a1).bind fun bt107 => (some (bt107.1, bt107.2)))) = some (r1, r2) := H; have A4 := Aside0.mk A40; clear A40
 by_cases c5 : t103 = 4
 ·rw [if_pos c5] at H
  have c5b0 : (t103 == 4) = true := beq_iff_eq.mpr c5; have c5b1 : (t103 != 4) = false := bne_eq_false_iff_eq.mpr c5; clear c5; replace H := Option.bind_eq_some_iff.mp H; obtain ⟨⟨t105, t106⟩, A60, H⟩ := H; replace H : (some (t105, t106)) = some (r1, r2) := H; have A6 := Aside0.mk A60; clear A60
  simp only [Option.some.injEq, Prod.mk.injEq] at H
  obtain ⟨rfl, rfl⟩ := H
  go_enter Try.func28, Try.ntmps28
  go_wp2_with (first | ((with_reducible refine gate_callee (f := 27) rfl ?_); refine goesL_ (some 8) rfl rfl Try.func27 (by kernel_rfl) rfl #[.pointer (some ⟨g, 0, none⟩), .int .i64 5] rfl argx ?_; (with_reducible refine (customsmade_Source_Next.calls g s0_0 s0_1 5 t103 t104 w0 _ ?side1 ?side2 A4.out).mono ?_); (case side1 => repeat (first | (with_reducible first | exact HI0.out | apply IsS30.alloc | apply IsS30.drewN | apply IsS30.drew | apply IsS30.set_1) | exact HI0.out)); (case side2 => repeat (first | (with_reducible first | exact HB.out | apply below_alloc | apply pw_below_drewN | apply below_drew1 | refine below_set ?_ (IsS30.ge HI0.out)) | exact HB.out)); rintro e w7 ⟨rfl, hi, hb, hk⟩; refine ⟨_, rfl, ?_⟩; have n0_ := Aside0.mk (KeepBut.trans zPA13 hk (.inl rfl)); have n1_ := Aside0.mk (hb); have n2_ := Aside0.mk (hi); clear HK; clear HB; clear HI0; have HK := n0_; have HB := n1_; have HI0 := n2_; clear n0_ n1_ n2_; (try clear hb); (try clear hb2); (try clear hk); (try clear hi)) | ((with_reducible refine gate_callee (f := 27) rfl ?_); refine goesL_ (some 12) rfl rfl Try.func27 (by kernel_rfl) rfl #[.pointer (some ⟨g, 0, none⟩), .int .i64 a2] rfl argx ?_; (with_reducible refine (customsmade_Source_Next.calls g s0_0 t104 a2 t105 t106 w0 _ ?side1 ?side2 A6.out).mono ?_); (case side1 => repeat (first | (with_reducible first | exact HI0.out | apply IsS30.alloc | apply IsS30.drewN | apply IsS30.drew | apply IsS30.set_1) | exact HI0.out)); (case side2 => repeat (first | (with_reducible first | exact HB.out | apply below_alloc | apply pw_below_drewN | apply below_drew1 | refine below_set ?_ (IsS30.ge HI0.out)) | exact HB.out)); rintro e w8 ⟨rfl, hi, hb, hk⟩; refine ⟨_, rfl, ?_⟩; have n0_ := Aside0.mk (KeepBut.trans zPA13 hk (.inl rfl)); have n1_ := Aside0.mk (hb); have n2_ := Aside0.mk (hi); clear HK; clear HB; clear HI0; have HK := n0_; have HB := n1_; have HI0 := n2_; clear n0_ n1_ n2_; (try clear hb); (try clear hb2); (try clear hk); (try clear hi)))
  go_ret
  exact ⟨by first | rfl | (simp [errW_none, errW_some] <;> rfl) | (simp [*, errW_none, errW_some] <;> rfl), by repeat (first | (with_reducible first | exact HI0.out | apply IsS30.alloc | apply IsS30.drewN | apply IsS30.drew | apply IsS30.set_1) | exact HI0.out), by repeat (first | (with_reducible first | exact HB.out | apply below_alloc | apply pw_below_drewN | apply below_drew1 | refine below_set ?_ (IsS30.ge HI0.out)) | exact HB.out), by repeat (first | (with_reducible first | exact HK.out | apply KeepBut.set_ | apply keep_drewN | apply keep_drew | apply keep_alloc) | exact HK.out)⟩
 ·rw [if_neg c5] at H
  have c5b0 : (t103 == 4) = false := beq_eq_false_iff_ne.mpr c5; have c5b1 : (t103 != 4) = true := bne_iff_ne.mpr c5; replace H := Option.bind_eq_some_iff.mp H; obtain ⟨⟨t107, t108⟩, A90, H⟩ := H; replace H : (some (t107, t108)) = some (r1, r2) := H; have A9 := Aside0.mk A90; clear A90
  simp only [Option.some.injEq, Prod.mk.injEq] at H
  obtain ⟨rfl, rfl⟩ := H
  go_enter Try.func28, Try.ntmps28
  go_wp2_with (first | ((with_reducible refine gate_callee (f := 27) rfl ?_); refine goesL_ (some 8) rfl rfl Try.func27 (by kernel_rfl) rfl #[.pointer (some ⟨g, 0, none⟩), .int .i64 5] rfl argx ?_; (with_reducible refine (customsmade_Source_Next.calls g s0_0 s0_1 5 t103 t104 w0 _ ?side1 ?side2 A4.out).mono ?_); (case side1 => repeat (first | (with_reducible first | exact HI0.out | apply IsS30.alloc | apply IsS30.drewN | apply IsS30.drew | apply IsS30.set_1) | exact HI0.out)); (case side2 => repeat (first | (with_reducible first | exact HB.out | apply below_alloc | apply pw_below_drewN | apply below_drew1 | refine below_set ?_ (IsS30.ge HI0.out)) | exact HB.out)); rintro e w10 ⟨rfl, hi, hb, hk⟩; refine ⟨_, rfl, ?_⟩; have n0_ := Aside0.mk (KeepBut.trans zPA13 hk (.inl rfl)); have n1_ := Aside0.mk (hb); have n2_ := Aside0.mk (hi); clear HK; clear HB; clear HI0; have HK := n0_; have HB := n1_; have HI0 := n2_; clear n0_ n1_ n2_; (try clear hb); (try clear hb2); (try clear hk); (try clear hi)) | ((with_reducible refine gate_callee (f := 27) rfl ?_); refine goesL_ (some 15) rfl rfl Try.func27 (by kernel_rfl) rfl #[.pointer (some ⟨g, 0, none⟩), .int .i64 a1] rfl argx ?_; (with_reducible refine (customsmade_Source_Next.calls g s0_0 t104 a1 t107 t108 w0 _ ?side1 ?side2 A9.out).mono ?_); (case side1 => repeat (first | (with_reducible first | exact HI0.out | apply IsS30.alloc | apply IsS30.drewN | apply IsS30.drew | apply IsS30.set_1) | exact HI0.out)); (case side2 => repeat (first | (with_reducible first | exact HB.out | apply below_alloc | apply pw_below_drewN | apply below_drew1 | refine below_set ?_ (IsS30.ge HI0.out)) | exact HB.out)); rintro e w11 ⟨rfl, hi, hb, hk⟩; refine ⟨_, rfl, ?_⟩; have n0_ := Aside0.mk (KeepBut.trans zPA13 hk (.inl rfl)); have n1_ := Aside0.mk (hb); have n2_ := Aside0.mk (hi); clear HK; clear HB; clear HI0; have HK := n0_; have HB := n1_; have HI0 := n2_; clear n0_ n1_ n2_; (try clear hb); (try clear hb2); (try clear hk); (try clear hi)))
  go_ret
  exact ⟨by first | rfl | (simp [errW_none, errW_some] <;> rfl) | (simp [*, errW_none, errW_some] <;> rfl), by repeat (first | (with_reducible first | exact HI0.out | apply IsS30.alloc | apply IsS30.drewN | apply IsS30.drew | apply IsS30.set_1) | exact HI0.out), by repeat (first | (with_reducible first | exact HB.out | apply below_alloc | apply pw_below_drewN | apply below_drew1 | refine below_set ?_ (IsS30.ge HI0.out)) | exact HB.out), by repeat (first | (with_reducible first | exact HK.out | apply KeepBut.set_ | apply keep_drewN | apply keep_drew | apply keep_alloc) | exact HK.out)⟩
end Go.Proofs.Ytgedkdofhonicaa.PA
