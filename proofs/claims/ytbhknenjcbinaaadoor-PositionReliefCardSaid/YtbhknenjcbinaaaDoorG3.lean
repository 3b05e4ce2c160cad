/- The contract by hand of procedure.target: a loop over the table of transitions. -/
import Derived.Test.YtbhknenjcbinaaaDoorG1
namespace Go.Proofs.YtbhknenjcbinaaaDoor.G
open Go.RowKit Go.Proofs.YtbhknenjcbinaaaDoorW.PrintWords Go.Proofs.YtbhknenjcbinaaaDoorW.PrintLast Go.Proofs.YtbhknenjcbinaaaDoorW.PrintMore Go.Proofs.YtbhknenjcbinaaaDoor.PA
set_option linter.unusedVariables false
set_option linter.unusedSimpArgs false

/-- The transitions: action, from, to. -/
def trans : List (Int × Int × Int) := [(1, 0, 1), (2, 1, 2), (2, 3, 2), (2, 4, 2), (2, 5, 2), (3, 2, 1), (4, 2, 13), (5, 1, 3), (5, 4, 3), (5, 5, 3), (6, 1, 4), (6, 3, 4), (7, 1, 5), (7, 3, 5), (8, 1, 6), (8, 3, 6), (8, 4, 6), (8, 5, 6), (9, 6, 7), (10, 7, 6), (11, 1, 8), (11, 3, 8), (11, 4, 8), (11, 5, 8), (11, 6, 9), (12, 1, 10), (12, 3, 10), (12, 4, 10), (12, 5, 10), (13, 1, 11), (13, 3, 11), (14, 1, 12), (14, 2, 12), (14, 3, 12), (14, 4, 12), (14, 5, 12)]
def transCells : Array Value := #[.int .i64 1, .int .i64 0, .int .i64 1, .int .i64 2, .int .i64 1, .int .i64 2, .int .i64 2, .int .i64 3, .int .i64 2, .int .i64 2, .int .i64 4, .int .i64 2, .int .i64 2, .int .i64 5, .int .i64 2, .int .i64 3, .int .i64 2, .int .i64 1, .int .i64 4, .int .i64 2, .int .i64 13, .int .i64 5, .int .i64 1, .int .i64 3, .int .i64 5, .int .i64 4, .int .i64 3, .int .i64 5, .int .i64 5, .int .i64 3, .int .i64 6, .int .i64 1, .int .i64 4, .int .i64 6, .int .i64 3, .int .i64 4, .int .i64 7, .int .i64 1, .int .i64 5, .int .i64 7, .int .i64 3, .int .i64 5, .int .i64 8, .int .i64 1, .int .i64 6, .int .i64 8, .int .i64 3, .int .i64 6, .int .i64 8, .int .i64 4, .int .i64 6, .int .i64 8, .int .i64 5, .int .i64 6, .int .i64 9, .int .i64 6, .int .i64 7, .int .i64 10, .int .i64 7, .int .i64 6, .int .i64 11, .int .i64 1, .int .i64 8, .int .i64 11, .int .i64 3, .int .i64 8, .int .i64 11, .int .i64 4, .int .i64 8, .int .i64 11, .int .i64 5, .int .i64 8, .int .i64 11, .int .i64 6, .int .i64 9, .int .i64 12, .int .i64 1, .int .i64 10, .int .i64 12, .int .i64 3, .int .i64 10, .int .i64 12, .int .i64 4, .int .i64 10, .int .i64 12, .int .i64 5, .int .i64 10, .int .i64 13, .int .i64 1, .int .i64 11, .int .i64 13, .int .i64 3, .int .i64 11, .int .i64 14, .int .i64 1, .int .i64 12, .int .i64 14, .int .i64 2, .int .i64 12, .int .i64 14, .int .i64 3, .int .i64 12, .int .i64 14, .int .i64 4, .int .i64 12, .int .i64 14, .int .i64 5, .int .i64 12]
/-- What the table of transitions at package level holds. -/
def GTW (w : World) : Prop := ∃ t fr, w.heap[0]? = some (.cells transCells t fr)
structure GT (w : World) : Prop where
  at_ : GTW w
theorem GT.below {w w' : World} (h : GT w) (hb : Below w.heap.size w w') : GT w' := by
  obtain ⟨t, fr, h⟩ := h.at_
  have h0 : 0 < w.heap.size := (Array.getElem?_eq_some_iff.1 h).1
  exact ⟨⟨t, fr, by rw [hb.block 0 h0]; exact h⟩⟩
theorem GT.drewN {w : World} {n : Nat} (h : GT w) : GT (w.drewN n) := ⟨h.at_⟩
theorem GT.drew {w : World} (h : GT w) : GT w.drew := ⟨h.at_⟩

def hit (p a : Int) (t : Int × Int × Int) : Bool := t.1 == a && t.2.1 == p
def fnd (p a : Int) (l : List (Int × Int × Int)) : Int := ((l.find? (hit p a)).map (·.2.2)).getD (-1)
def procedure_target.f (p a : Int) : Option Int := some (fnd p a trans)
def row_ (i : Nat) : Int × Int × Int := trans.getD i (0, 0, 0)
theorem drop_row (i : Nat) (h : i < 36) : trans.drop i = row_ i :: trans.drop (i + 1) := by
  have hl : trans.length = 36 := rfl
  rw [List.drop_eq_getElem_cons (by omega)]
  simp [row_, List.getD_eq_getElem?_getD, List.getElem?_eq_getElem (show i < trans.length by omega)]
theorem fnd_hit (p a : Int) (i : Nat) (h : i < 36) (hh : hit p a (row_ i) = true) : fnd p a (trans.drop i) = (row_ i).2.2 := by
  rw [drop_row i h]; simp [fnd, List.find?_cons, hh]
theorem fnd_miss (p a : Int) (i : Nat) (h : i < 36) (hh : hit p a (row_ i) = false) : fnd p a (trans.drop i) = fnd p a (trans.drop (i + 1)) := by
  rw [drop_row i h]; simp [fnd, List.find?_cons, hh]
theorem idx_ (w : World) : ∀ i : Nat, i < 36 → (Instr.index 60 (.agg transCells) (.int .i64 i)).run Tryd.prog w = .ok (.agg #[.int .i64 (row_ i).1, .int .i64 (row_ i).2.1, .int .i64 (row_ i).2.2]) w
  | 0, _ => by kernel_rfl
  | 1, _ => by kernel_rfl
  | 2, _ => by kernel_rfl
  | 3, _ => by kernel_rfl
  | 4, _ => by kernel_rfl
  | 5, _ => by kernel_rfl
  | 6, _ => by kernel_rfl
  | 7, _ => by kernel_rfl
  | 8, _ => by kernel_rfl
  | 9, _ => by kernel_rfl
  | 10, _ => by kernel_rfl
  | 11, _ => by kernel_rfl
  | 12, _ => by kernel_rfl
  | 13, _ => by kernel_rfl
  | 14, _ => by kernel_rfl
  | 15, _ => by kernel_rfl
  | 16, _ => by kernel_rfl
  | 17, _ => by kernel_rfl
  | 18, _ => by kernel_rfl
  | 19, _ => by kernel_rfl
  | 20, _ => by kernel_rfl
  | 21, _ => by kernel_rfl
  | 22, _ => by kernel_rfl
  | 23, _ => by kernel_rfl
  | 24, _ => by kernel_rfl
  | 25, _ => by kernel_rfl
  | 26, _ => by kernel_rfl
  | 27, _ => by kernel_rfl
  | 28, _ => by kernel_rfl
  | 29, _ => by kernel_rfl
  | 30, _ => by kernel_rfl
  | 31, _ => by kernel_rfl
  | 32, _ => by kernel_rfl
  | 33, _ => by kernel_rfl
  | 34, _ => by kernel_rfl
  | 35, _ => by kernel_rfl
  | n + 36, h => absurd h (by omega)


set_option maxHeartbeats 4000000 in
theorem procedure_target.calls (p a r : Int) (w : World) (hGT : GT w) (h : procedure_target.f p a = some r) :
    Calls Tryd.prog 24 #[.int .i64 p, .int .i64 a] w fun e w' => e = .returned (.int .i64 r) ∧ Below w.heap.size w w' := by
  obtain ⟨t, fr, hg⟩ := hGT.at_
  clear hGT
  have Hr := Aside0.mk (Option.some.inj h)
  clear h
  have Hg := Aside0.mk hg
  clear hg
  go_enter Tryd.func24, Tryd.ntmps24
  go_wp2_with (refine wpList_load_row rfl 60 _ rfl 0 rfl t transCells fr _ Hg.out Tryd.underlying60 rfl (by kernel_rfl) ?_)
  go_loopw [8] (fun i wr => ∃ k : Nat, k ≤ 36 ∧ i = .int .i64 k ∧ Aside0 (fnd p a (trans.drop k) = r) ∧ Aside0 (Below w.heap.size w wr)) (fun i _ => 36 - (intOf i).toNat)
  case atStart => exact ⟨0, by omega, rfl, Hr, ⟨Below.refl _ _⟩⟩
  case round =>
    obtain ⟨k, hk, rfl, HF, HB⟩ := hrel
    by_cases hlt : k < 36
    · have hx := fun w' => idx_ w' k hlt
      obtain ⟨t1, t2, t3, ht⟩ : ∃ t1 t2 t3, row_ k = (t1, t2, t3) := ⟨_, _, _, rfl⟩
      simp only [ht] at hx
      have Ht := Aside0.mk ht
      clear ht
      by_cases c1 : t1 = a
      · by_cases c2 : t2 = p
        · have HE : Aside0 (t3 = r) := ⟨by rw [← HF.out, fnd_hit p a k hlt (by simp [hit, Ht.out, c1, c2]), Ht.out]⟩
          subst c1 c2
          go_wp2
          go_ret
          exact ⟨by rw [← HE.out]; rfl, by repeat (first | exact HB.out | apply below_alloc)⟩
        · have c3 : (t2 == p) = false := beq_eq_false_iff_ne.mpr c2
          have HE : Aside0 (fnd p a (trans.drop (k + 1)) = r) := ⟨by rw [← HF.out, fnd_miss p a k hlt (by simp [hit, Ht.out, c3])]⟩
          subst c1
          go_wp2
          go_roundw
          case rel => exact ⟨k + 1, by omega, by go_num, HE, ⟨by repeat (first | exact HB.out | apply below_alloc)⟩⟩
          case measure => simp [intOf]; omega
      · have c3 : (t1 == a) = false := beq_eq_false_iff_ne.mpr c1
        have HE : Aside0 (fnd p a (trans.drop (k + 1)) = r) := ⟨by rw [← HF.out, fnd_miss p a k hlt (by simp [hit, Ht.out, c3])]⟩
        go_wp2
        go_roundw
        case rel => exact ⟨k + 1, by omega, by go_num, HE, ⟨by repeat (first | exact HB.out | apply below_alloc)⟩⟩
        case measure => simp [intOf]; omega
    · obtain rfl : k = 36 := by omega
      have HE : Aside0 ((-1 : Int) = r) := ⟨by rw [← HF.out]; rfl⟩
      clear hlt
      go_wp2
      go_ret
      exact ⟨by rw [← HE.out]; rfl, HB.out⟩

end Go.Proofs.YtbhknenjcbinaaaDoor.G
