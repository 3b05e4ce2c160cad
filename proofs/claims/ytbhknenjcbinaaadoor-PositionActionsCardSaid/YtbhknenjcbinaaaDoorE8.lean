/- The table of transitions at package level, as the contract by hand asks for it. -/
import Derived.Test.YtbhknenjcbinaaaDoorE7
import Derived.Test.YtbhknenjcbinaaaDoorG3
namespace Go.Proofs.YtbhknenjcbinaaaDoor.E
set_option linter.unusedVariables false
set_option linter.unusedSimpArgs false
open Go.RowKit Go.Proofs.YtbhknenjcbinaaaDoor.G

theorem gTrans : Tryd.prog.globalNamed "customs/procedure.transitions" = some 0 := by kernel_rfl
theorem tTrans : (Tryd.prog.globals[0]?).map (·.type) = some 60 := by kernel_rfl
theorem c60 : Tryd.prog.cellsOf 60 = 108 := by kernel_rfl
theorem c59 : Tryd.prog.cellsOf 59 = 3 := by kernel_rfl
theorem c3 : Tryd.prog.cellsOf 3 = 1 := by kernel_rfl

/-- A transition's cells, read back. -/
theorem row3 {H : Type} {enc : TypeId × Value → H} {w : World} {base : Nat} {sp : Nat → Bool} {held : Bool} {fuel : Nat} {cs : List Value} {a b c : Int} {p : List MemPlace}
    (h : DataW.trod enc Tryd.prog w base sp held fuel 59 cs = some (.agg [.lit (.int .i64 a), .lit (.int .i64 b), .lit (.int .i64 c)], p)) : cs = [.int .i64 a, .int .i64 b, .int .i64 c] := by
  obtain ⟨xs, m, rfl, hx, hl, hn, hel⟩ := DataW.trod_struct Tryd.underlying59 h
  rw [c59] at hl
  match cs, hl with
  | [x, y, z], _ =>
    have e0 := hel 0 _ rfl
    have e1 := hel 1 _ rfl
    have e2 := hel 2 _ rfl
    change DataW.trod _ _ _ _ _ _ m 3 ((List.drop 0 [x, y, z]).take (Tryd.prog.cellsOf 3)) = _ at e0
    change DataW.trod _ _ _ _ _ _ m 3 ((List.drop 1 [x, y, z]).take (Tryd.prog.cellsOf 3)) = _ at e1
    change DataW.trod _ _ _ _ _ _ m 3 ((List.drop 2 [x, y, z]).take (Tryd.prog.cellsOf 3)) = _ at e2
    rw [c3] at e0 e1 e2
    simp only [Prod.mk.injEq, DataW.agg.injEq] at hx
    match xs, hn, hx, e0, e1, e2 with
    | [x0, x1, x2], _, hx, e0, e1, e2 =>
      simp only [List.map_cons, List.map_nil, List.cons.injEq] at hx
      obtain ⟨n0, q0, r0, _⟩ := DataW.trod_int Tryd.underlying3 (show DataW.trod _ _ _ _ _ _ _ _ _ = some x0 from e0)
      obtain ⟨n1, q1, r1, _⟩ := DataW.trod_int Tryd.underlying3 (show DataW.trod _ _ _ _ _ _ _ _ _ = some x1 from e1)
      obtain ⟨n2, q2, r2, _⟩ := DataW.trod_int Tryd.underlying3 (show DataW.trod _ _ _ _ _ _ _ _ _ = some x2 from e2)
      subst r0 r1 r2
      simp at q0 q1 q2 hx
      obtain ⟨⟨rfl, rfl, rfl⟩, _⟩ := hx
      simp [q0, q1, q2]

def rowD (t : Int × Int × Int) : DataW Unit := .agg [.lit (.int .i64 t.1), .lit (.int .i64 t.2.1), .lit (.int .i64 t.2.2)]
theorem trans_data : (Rows.laid_customs_procedure_transitions : DataW Unit) = .agg (trans.map rowD) := by rfl
theorem chunks : ∀ i : Nat, i < 36 → (transCells.toList.drop (i * 3)).take 3 = [.int .i64 (row_ i).1, .int .i64 (row_ i).2.1, .int .i64 (row_ i).2.2]
  | 0, _ => rfl
  | 1, _ => rfl
  | 2, _ => rfl
  | 3, _ => rfl
  | 4, _ => rfl
  | 5, _ => rfl
  | 6, _ => rfl
  | 7, _ => rfl
  | 8, _ => rfl
  | 9, _ => rfl
  | 10, _ => rfl
  | 11, _ => rfl
  | 12, _ => rfl
  | 13, _ => rfl
  | 14, _ => rfl
  | 15, _ => rfl
  | 16, _ => rfl
  | 17, _ => rfl
  | 18, _ => rfl
  | 19, _ => rfl
  | 20, _ => rfl
  | 21, _ => rfl
  | 22, _ => rfl
  | 23, _ => rfl
  | 24, _ => rfl
  | 25, _ => rfl
  | 26, _ => rfl
  | 27, _ => rfl
  | 28, _ => rfl
  | 29, _ => rfl
  | 30, _ => rfl
  | 31, _ => rfl
  | 32, _ => rfl
  | 33, _ => rfl
  | 34, _ => rfl
  | 35, _ => rfl
  | n + 36, h => absurd h (by omega)
theorem cells_of_trans {w : World} {base : Nat} {sp : Nat → Bool} {held : Bool} {fuel : Nat} {cs : Array Value} {p : List MemPlace}
    (h : DataW.trod (fun _ => ()) Tryd.prog w base sp held fuel 60 cs.toList = some (.agg (trans.map rowD), p)) : cs = transCells := by
  obtain ⟨xs, m, rfl, hx, hl, hn, hel⟩ := DataW.trod_array Tryd.underlying60 h
  rw [c60] at hl
  rw [c59] at hel
  simp only [Prod.mk.injEq, DataW.agg.injEq] at hx
  have each : ∀ i, i < 36 → (cs.toList.drop (i * 3)).take 3 = (transCells.toList.drop (i * 3)).take 3 := by
    intro i hi
    have e := hel i hi
    obtain ⟨x, hxi⟩ : ∃ x, xs[i]? = some x := ⟨xs[i], List.getElem?_eq_getElem (by omega)⟩
    rw [hxi] at e
    have hd : (xs.map (·.1))[i]? = (trans.map rowD)[i]? := by rw [← hx.1]
    simp only [List.getElem?_map, hxi, Option.map_some] at hd
    have ht : trans[i]? = some (row_ i) := by
      have hl : trans.length = 36 := rfl
      rw [List.getElem?_eq_getElem (by omega)]
      simp [row_, List.getD_eq_getElem?_getD, List.getElem?_eq_getElem (show i < trans.length by omega)]
    rw [ht] at hd
    have hx1 : x.1 = rowD (row_ i) := by simpa using hd
    have e2 : DataW.trod (fun _ => ()) Tryd.prog w base sp held m 59 ((cs.toList.drop (i * 3)).take 3) = some (rowD (row_ i), x.2) := by rw [e, ← hx1]
    rw [row3 e2, chunks i hi]
  have hlen : transCells.toList.length = 108 := rfl
  apply Array.ext'
  apply List.ext_getElem?
  intro j
  by_cases hj : j < 108
  · have e := each (j / 3) (by omega)
    have e1 := congrArg (·[j % 3]?) e
    simp only [List.getElem?_take, List.getElem?_drop, show j % 3 < 3 by omega, if_true, show j / 3 * 3 + j % 3 = j by omega] at e1
    exact e1
  · rw [List.getElem?_eq_none (by omega), List.getElem?_eq_none (by omega)]

theorem gt_2 {W : World} (h : laidMetH Tryd.prog [("customs/calendar.lengths", Rows.laid_customs_calendar_lengths), ("customs/procedure.transitions", Rows.laid_customs_procedure_transitions)] W) : GT W := by
  rw [MakeChecks.laidMetH_plain _ _ _ (by kernel_rfl)] at h
  obtain ⟨ps, ⟨g0, t0, cs0, f0, p0, q0, hg0, ht0, hv0, hd0, ⟨g1, t1, cs1, f1, p1, q1, hg1, ht1, hv1, hd1, _, _⟩, _⟩, _, _⟩ := h
  obtain rfl := Option.some.inj (gTrans.symm.trans hg1)
  obtain rfl := Option.some.inj (tTrans.symm.trans ht1)
  rw [trans_data] at hd1
  have hc := cells_of_trans hd1
  subst hc
  refine ⟨?_⟩
  simp only [World.var?, gTrans, Option.bind_some] at hv1
  split at hv1
  · rename_i cs t fr hh
    obtain rfl := Option.some.inj hv1
    exact ⟨t, fr, hh⟩
  · cases hv1
theorem gl_2 {W : World} (h : laidMetH Tryd.prog [("customs/calendar.lengths", Rows.laid_customs_calendar_lengths), ("customs/procedure.transitions", Rows.laid_customs_procedure_transitions)] W) : GL W := by
  rw [MakeChecks.laidMetH_plain _ _ _ (by kernel_rfl)] at h
  exact gl_of_met h

end Go.Proofs.YtbhknenjcbinaaaDoor.E
