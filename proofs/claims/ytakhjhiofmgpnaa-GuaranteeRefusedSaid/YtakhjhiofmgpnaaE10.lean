/- The search, and two lists that are the same, in plain Lean. -/
import Derived.Test.YtakhjhiofmgpnaaE8
import Derived.Test.YtakhjhiofmgpnaaPBx2
namespace Go.Proofs.Ytakhjhiofmgpnaa.E
set_option linter.unusedVariables false
set_option linter.unusedSimpArgs false
open Go.RowKit Go.Proofs.YtakhjhiofmgpnaaW.PrintWords Go.Proofs.YtakhjhiofmgpnaaW.PrintLast Go.Proofs.YtakhjhiofmgpnaaW.PrintMore Go.Proofs.Ytakhjhiofmgpnaa.G Go.Proofs.Ytakhjhiofmgpnaa.PA Go.Proofs.Ytakhjhiofmgpnaa.PB

theorem asc_le {l : List S39} (h : asc l) {i j : Nat} (hij : i ≤ j) (hj : j < l.length) : (at_ l i).f0 ≤ (at_ l j).f0 := by
  induction j with
  | zero => obtain rfl : i = 0 := by omega
            exact Int.le_refl _
  | succ j ih =>
    by_cases he : i = j + 1
    · subst he; exact Int.le_refl _
    · have := ih (by omega) (by omega)
      have := h j hj
      omega

theorem bsi_spec {l : List S39} (ha : asc l) (ho : allOk l) (m : Int) (hm : -4611686018427387904 ≤ m ∧ m ≤ 4611686018427387904) :
    ∀ (k i j : Nat), i ≤ j → j ≤ l.length → j - i ≤ k → (∀ t, t < i → (at_ l t).f0 < m) → (∀ t, j ≤ t → t < l.length → m ≤ (at_ l t).f0) →
      (∀ t, t < bsi l m k i j → (at_ l t).f0 < m) ∧ (∀ t, bsi l m k i j ≤ t → t < l.length → m ≤ (at_ l t).f0) ∧ bsi l m k i j ≤ l.length := by
  intro k
  induction k with
  | zero =>
    intro i j hij hj hk h1 h2
    obtain rfl : i = j := by omega
    exact ⟨h1, h2, hj⟩
  | succ k ih =>
    intro i j hij hj hk h1 h2
    rw [bsi]
    by_cases hlt : i < j
    · rw [if_pos hlt]
      have hb := (ho ((i + j) / 2) (by omega)).1
      show _ ∧ _ ∧ _
      have e : wrap64 ((rd_T39 l (((i + j) / 2 : Nat) : Int)).f0 - m) = (at_ l ((i + j) / 2)).f0 - m := wrap64_id (by show _ ≤ (at_ l ((i + j) / 2)).f0 - m; omega) (by show (at_ l ((i + j) / 2)).f0 - m ≤ _; omega)
      rw [e]
      by_cases hc : (at_ l ((i + j) / 2)).f0 - m < 0
      · rw [if_pos hc]
        exact ih _ _ (by omega) hj (by omega) (fun t ht => by have := asc_le ha (show t ≤ (i + j) / 2 by omega) (by omega); omega) h2
      · rw [if_neg hc]
        exact ih _ _ (by omega) (by omega) (by omega) h1 (fun t ht ht2 => by have := asc_le ha (show (i + j) / 2 ≤ t by omega) ht2; omega)
    · rw [if_neg hlt]
      obtain rfl : i = j := by omega
      exact ⟨h1, h2, hj⟩

theorem find_at {l : List S39} (ha : asc l) (ho : allOk l) (hl : l.length ≤ 100) (m : Int) (hm : -4611686018427387904 ≤ m ∧ m ≤ 4611686018427387904) :
    ∃ p : Nat, guarantee_find.f l m = some ((p : Int), decide (p < l.length) && decide ((at_ l p).f0 = m)) ∧ p ≤ l.length ∧ (∀ t, t < p → (at_ l t).f0 < m) ∧ (∀ t, p ≤ t → t < l.length → m ≤ (at_ l t).f0) := by
  obtain ⟨h1, h2, h3⟩ := bsi_spec ha ho m hm l.length 0 l.length (by omega) (by omega) (by omega) (fun t ht => by omega) (fun t ht h => by omega)
  refine ⟨bsi l m l.length 0 l.length, ?_, h3, h1, h2⟩
  unfold guarantee_find.f
  rw [if_pos (by omega)]
  congr 2
  generalize bsi l m l.length 0 l.length = p at h1 h2 h3
  by_cases hp : p < l.length
  · have hb := (ho p hp).1
    have e : wrap64 ((rd_T39 l (p : Int)).f0 - m) = (at_ l p).f0 - m := wrap64_id (by show _ ≤ (at_ l p).f0 - m; omega) (by show (at_ l p).f0 - m ≤ _; omega)
    rw [e]
    congr 1
    rw [decide_eq_decide]
    omega
  · simp [hp]

theorem same_ev (l : List S39) (hl : l.length ≤ 100) : Ev (fun k => customsref21_SameReservations.f k l l) true := by
  unfold customsref21_SameReservations.f
  refine evPos rfl ?_
  have key : ∀ (n i : Nat), i + n = l.length → Ev (fun k => customsref21_SameReservations.l0 k l l (i : Int)) true := by
    intro n
    induction n with
    | zero =>
      intro i hi
      refine evShift ?_
      simp only [customsref21_SameReservations.l0]
      exact evNeg (by omega) (evNow rfl)
    | succ n ih =>
      intro i hi
      refine evShift ?_
      simp only [customsref21_SameReservations.l0]
      have e2 : wrap64 ((i : Int) + 1) = ((i + 1 : Nat) : Int) := by rw [wrap64_id (by omega) (by omega)]; omega
      rw [e2]
      exact evPos (by omega) (evPos (by omega) (evPos (by omega) (evNeg (by simp) (ih (i + 1) (by omega)))))
  exact key l.length 0 (by omega)
theorem sameg_ev (a b c : Int) (l : List S39) (hl : l.length ≤ 100) : Ev (fun k => customsref21_SameGuarantee.f k a b c l a b c l) true := by
  unfold customsref21_SameGuarantee.f
  exact evPos rfl (evPos rfl (evPos rfl (evBind (same_ev l hl) (evNow rfl))))

/-- A movement behind all others: Set puts it at the end, or refuses it. -/
theorem set_end {a b c : Int} {u : List S39} (hv : vf a b c u = 0) (hu : u.length < 64) (m t : Int) (hm : 1 ≤ m ∧ m ≤ 1000000) (ht : 0 ≤ t ∧ t ≤ 1000000000000) (hb : ∀ j, j < u.length → (at_ u j).f0 < m) :
    (tot u + need t c > b → Ev (fun k => guarantee_Set.f k a b c u m t) (0, 0, 0, [], 16)) ∧
    (tot u + need t c ≤ b → Ev (fun k => guarantee_Set.f k a b c u m t) (a, b, c, u ++ [⟨m, need t c⟩], 0)) := by
  have hz := vf_zero.1 hv
  obtain ⟨hh, hlen, ho, ha, htot⟩ := hz
  have hn := need_range ht.1 ht.2 hh.2.2.1 hh.2.2.2
  obtain ⟨p, hf, hp, h1, h2⟩ := find_at ha ho (by omega) m (by omega)
  obtain rfl : p = u.length := by
    rcases Nat.lt_or_ge p u.length with h | h
    · have := h2 p (Nat.le_refl _) h
      have := hb p h
      omega
    · omega
  have hf' : guarantee_find.f u m = some ((u.length : Int), false) := by rw [hf]; simp
  have hset : (u ++ [(⟨m, 0⟩ : S39)]).set u.length ⟨m, need t c⟩ = u ++ [⟨m, need t c⟩] := by
    rw [List.set_append_right _ _ (Nat.le_refl _)]
    simp
  have hok : allOk (u ++ [(⟨m, need t c⟩ : S39)]) := fun j hj => by
    by_cases hj2 : j < u.length
    · rw [at_old hj2]; exact ho j hj2
    · have : j = u.length := by simp at hj; omega
      subst this
      rw [at_new]
      exact ⟨hm, hn.1, hn.2.1⟩
  have hsum := sum_ev hok (by simp; omega)
  rw [tot_snoc] at hsum
  have main : ∀ R, ((tot u + need t c > b → R = (0, 0, 0, [], 16)) ∧ (¬ tot u + need t c > b → R = (a, b, c, u ++ [(⟨m, need t c⟩ : S39)], 0))) → Ev (fun k => guarantee_Set.f k a b c u m t) R := by
    intro R hR
    unfold guarantee_Set.f
    refine evBind (validate_ev a b c u) (evPos hv (evBind0 (within_in hm) (evPos rfl (evBind (required_in a b c u t ht.1 ht.2 hh.2.2.1 hh.2.2.2) (evPos rfl (evBind0 hf' (evNeg (by simp) ?_)))))))
    show Ev (fun k => guarantee_Set.j0 k m (need t c) (u.length : Int) false ((u.length : Int) == 64) a b c u) R
    rw [show ((u.length : Int) == 64) = false by simp; omega]
    refine evShift ?_
    simp only [guarantee_Set.j0]
    refine evNeg (by simp) (evBind0 (a := u) (by unfold slices_Clone.f; rw [if_pos (by omega)]) (evNeg (by simp) (evBind0 (a := u ++ [⟨m, 0⟩]) ?_ ?_)))
    · unfold slices_Insert.f
      rw [if_pos ⟨rfl, by omega, by omega, by omega⟩]
      simp
    · refine evPos (by omega) (evPos (by simp; omega) (evBind0 (a := u ++ [⟨m, need t c⟩]) ?_ (evBind hsum (evIf (fun h => evNow ?_) (fun h => evNow ?_)))))
      · rw [Int.toNat_natCast, show (rd_T39 (u ++ [(⟨m, 0⟩ : S39)]) (u.length : Int)) = ⟨m, 0⟩ from at_new, hset]
      · rw [hR.1 h]
      · rw [hR.2 h]
  exact ⟨fun h => main _ ⟨fun _ => rfl, fun h2 => absurd h h2⟩, fun h => main _ ⟨fun h2 => absurd h (by omega), fun _ => rfl⟩⟩
end Go.Proofs.Ytakhjhiofmgpnaa.E
