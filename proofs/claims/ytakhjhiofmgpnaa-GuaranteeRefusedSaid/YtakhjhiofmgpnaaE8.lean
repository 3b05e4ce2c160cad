/- The guarantees that are made of numbers: each is valid; its movements are small. -/
import Derived.Test.YtakhjhiofmgpnaaE7
namespace Go.Proofs.Ytakhjhiofmgpnaa.E
set_option linter.unusedVariables false
set_option linter.unusedSimpArgs false
open Go.RowKit Go.Proofs.YtakhjhiofmgpnaaW.PrintWords Go.Proofs.YtakhjhiofmgpnaaW.PrintLast Go.Proofs.YtakhjhiofmgpnaaW.PrintMore Go.Proofs.Ytakhjhiofmgpnaa.G Go.Proofs.Ytakhjhiofmgpnaa.PA Go.Proofs.Ytakhjhiofmgpnaa.PB

theorem next_some (s : List Int) (hs : s.length ≤ 1000) (i n : Int) (i0 : 0 ≤ i) (i1 : i ≤ s.length) (hn : 0 < n) (hb : n ≤ 4611686018427387904) :
    ∃ r j, customsmade_Source_Next.f s i n = some (r, j) ∧ 0 ≤ r ∧ r < n ∧ 0 ≤ j ∧ j ≤ s.length := by
  unfold customsmade_Source_Next.f
  by_cases h : i ≥ (s.length : Int)
  · exact ⟨0, i, by rw [if_pos h], by omega, by omega, i0, i1⟩
  · have e1 : wrap64 (i + 1) = i + 1 := wrap64_id (by omega) (by omega)
    have e2 : wrap64 (i + 1 - 1) = i := by rw [wrap64_id (by omega) (by omega)]; omega
    rw [if_neg h, e1, e2, if_pos i0, if_pos (by omega)]
    obtain ⟨r, h1, h2, h3⟩ := within_some (rd s i) n hn hb
    exact ⟨r, i + 1, by rw [h1]; rfl, h2, h3, by omega, by omega⟩

theorem small_some (s : List Int) (hs : s.length ≤ 1000) (i a b : Int) (i0 : 0 ≤ i) (i1 : i ≤ s.length) (ha : 0 < a) (hab : a ≤ b) (hb : b ≤ 4611686018427387904) :
    ∃ r j, customsmade_Small.f s i a b = some (r, j) ∧ 0 ≤ r ∧ r < b ∧ 0 ≤ j ∧ j ≤ s.length := by
  unfold customsmade_Small.f
  obtain ⟨r, j, h1, h2, h3, h4, h5⟩ := next_some s hs i 5 i0 i1 (by omega) (by omega)
  rw [h1]
  show ∃ r' j', (if r = 4 then _ else _) = _ ∧ _
  by_cases h : r = 4
  · rw [if_pos h]
    obtain ⟨r2, j2, g1, g2, g3, g4, g5⟩ := next_some s hs j b h4 h5 (by omega) hb
    exact ⟨r2, j2, by rw [g1]; rfl, g2, g3, g4, g5⟩
  · rw [if_neg h]
    obtain ⟨r2, j2, g1, g2, g3, g4, g5⟩ := next_some s hs j a h4 h5 ha (by omega)
    exact ⟨r2, j2, by rw [g1]; rfl, g2, by omega, g4, g5⟩

theorem at_old {u : List S39} {v : S39} {j : Nat} (h : j < u.length) : at_ (u ++ [v]) j = at_ u j := by
  unfold at_ rd_T39
  simp [List.getD_eq_getElem?_getD, List.getElem?_append_left h]
theorem at_new {u : List S39} {v : S39} : at_ (u ++ [v]) u.length = v := by
  unfold at_ rd_T39
  simp [List.getD_eq_getElem?_getD]
theorem psum_old {u : List S39} {v : S39} : ∀ j, j ≤ u.length → psum (u ++ [v]) j = psum u j
  | 0, _ => rfl
  | j + 1, h => by rw [psum, psum, psum_old j (by omega), at_old (by omega)]
theorem tot_snoc {u : List S39} {v : S39} : tot (u ++ [v]) = tot u + v.f1 := by
  unfold tot
  rw [List.length_append, List.length_singleton, psum, psum_old _ (Nat.le_refl _), at_new]

/-- What holds of a guarantee that is made: it is valid, its movements and amounts are small. -/
structure Made (a b c : Int) (u : List S39) : Prop where
  id : 1 ≤ a ∧ a ≤ 9
  ref : tot u ≤ b ∧ b ≤ tot u + 1000000
  level : 0 ≤ c ∧ c ≤ 1000000
  len : u.length ≤ 10
  small : ∀ j, j < u.length → 1 ≤ (at_ u j).f0 ∧ (at_ u j).f0 ≤ 20 ∧ 0 ≤ (at_ u j).f1 ∧ (at_ u j).f1 < 10000
  asc : asc u
theorem small_tot {u : List S39} (h : ∀ j, j < u.length → 0 ≤ (at_ u j).f1 ∧ (at_ u j).f1 < 10000) : ∀ j, j ≤ u.length → 0 ≤ psum u j ∧ psum u j ≤ j * 10000
  | 0, _ => by simp [psum]
  | j + 1, hj => by
    have := small_tot h j (by omega)
    have h1 := h j (by omega)
    simp only [psum]
    omega
theorem Made.tot_range {a b c : Int} {u : List S39} (h : Made a b c u) : 0 ≤ tot u ∧ tot u ≤ 100000 := by
  have := small_tot (fun j hj => (h.small j hj).2.2) u.length (Nat.le_refl _)
  have := h.len
  unfold tot
  omega
theorem Made.ok {a b c : Int} {u : List S39} (h : Made a b c u) : allOk u := fun j hj => by
  have := h.small j hj
  exact ⟨by omega, by omega⟩
theorem Made.valid {a b c : Int} {u : List S39} (h : Made a b c u) : vf a b c u = 0 := by
  have h1 := h.tot_range
  have h2 := h.ref
  have h3 := h.id
  have h4 := h.len
  exact vf_zero.2 ⟨⟨by omega, by omega, h.level⟩, by omega, h.ok, h.asc, h2.1⟩

theorem made_loop (s : List Int) (hs : s.length ≤ 1000) (a c : Int) (ha : 1 ≤ a ∧ a ≤ 9) (hc : 0 ≤ c ∧ c ≤ 1000000) :
    ∀ (n : Nat) (x i : Int) (u : List S39), u.length + n = 10 → 0 ≤ i → i ≤ s.length → 0 ≤ x → x ≤ 2 * (u.length : Int) → (∀ j, j < u.length → 1 ≤ (at_ u j).f0 ∧ (at_ u j).f0 ≤ x ∧ 0 ≤ (at_ u j).f1 ∧ (at_ u j).f1 < 10000) → E.asc u →
      ∃ b v, Ev (fun k => customsmade_Guarantee.l0 k x s i a (tot u) c u) (a, b, c, v) ∧ Made a b c v := by
  have fin : ∀ (x i : Int) (u : List S39), u.length ≤ 10 → 0 ≤ i → i ≤ s.length → 0 ≤ x → x ≤ 2 * (u.length : Int) → (∀ j, j < u.length → 1 ≤ (at_ u j).f0 ∧ (at_ u j).f0 ≤ x ∧ 0 ≤ (at_ u j).f1 ∧ (at_ u j).f1 < 10000) → E.asc u →
      ∃ b v, Ev (fun k => customsmade_Guarantee.j1 k x false s i a (tot u) c u) (a, b, c, v) ∧ Made a b c v := by
    intro x i u hu i0 i1 x0 x1 hsm has
    obtain ⟨r, j, h1, h2, h3, _, _⟩ := small_some s hs i 100 1000000 i0 i1 (by omega) (by omega) (by omega)
    have ht := small_tot (fun j hj => (hsm j hj).2.2) u.length (Nat.le_refl _)
    have ht2 : tot u = psum u u.length := rfl
    refine ⟨tot u + r, u, ?_, ⟨ha, by omega, hc, hu, fun j hj => by have := hsm j hj; omega, has⟩⟩
    refine evShift ?_
    simp only [customsmade_Guarantee.j1]
    refine evNeg (by simp) (evBind0 h1 (evNow ?_))
    show some (a, wrap64 (tot u + r), c, u) = _
    rw [wrap64_id (by omega) (by omega)]
  intro n
  induction n with
  | zero =>
    intro x i u hu i0 i1 x0 x1 hsm has
    obtain ⟨b, v, h1, h2⟩ := fin x i u (by omega) i0 i1 x0 x1 hsm has
    refine ⟨b, v, evShift ?_, h2⟩
    simp only [customsmade_Guarantee.l0]
    refine evBind0 rfl (evIf (fun h => ?_) (fun h => h1))
    show Ev (fun k => customsmade_Guarantee.j1 k x (decide ((u.length : Int) < 10)) s i a (tot u) c u) _
    rw [decide_eq_false (by omega)]
    exact h1
  | succ n ih =>
    intro x i u hu i0 i1 x0 x1 hsm has
    by_cases hl : i < (s.length : Int)
    · obtain ⟨r1, j1, g1, g2, g3, g4, g5⟩ := next_some s hs i 2 i0 i1 (by omega) (by omega)
      obtain ⟨r2, j2, q1, q2, q3, q4, q5⟩ := small_some s hs j1 60 10000 g4 g5 (by omega) (by omega) (by omega)
      have ht := small_tot (fun j hj => (hsm j hj).2.2) u.length (Nat.le_refl _)
      have ht2 : tot u = psum u u.length := rfl
      have hle : (u ++ [(⟨x + 1 + r1, r2⟩ : S39)]).length = u.length + 1 := by simp
      obtain ⟨b, v, h1, h2⟩ := ih (x + 1 + r1) j2 (u ++ [⟨x + 1 + r1, r2⟩]) (by omega) q4 q5 (by omega) (by rw [hle]; omega)
        (fun j hj => by
          by_cases hj2 : j < u.length
          · rw [at_old hj2]; have := hsm j hj2; omega
          · obtain rfl : j = u.length := by omega
            rw [at_new]
            exact ⟨by show 1 ≤ x + 1 + r1; omega, Int.le_refl _, q2, q3⟩)
        (fun j hj => by
          by_cases hj2 : j + 1 < u.length
          · rw [at_old (by omega), at_old hj2]; exact has j hj2
          · have : j + 1 = u.length := by omega
            rw [this, at_new, at_old (by omega)]
            have := hsm j (by omega)
            show (at_ u j).f0 < x + 1 + r1
            omega)
      refine ⟨b, v, evShift ?_, h2⟩
      simp only [customsmade_Guarantee.l0]
      refine evBind0 rfl (evPos (decide_eq_true hl) ?_)
      show Ev (fun k => customsmade_Guarantee.j1 k x (decide ((u.length : Int) < 10)) s i a (tot u) c u) _
      rw [decide_eq_true (by omega)]
      refine evShift ?_
      simp only [customsmade_Guarantee.j1]
      refine evPos (by simp) (evBind0 g1 (evBind0 q1 (evPos (by omega) ?_)))
      show Ev (fun k => customsmade_Guarantee.l0 k (wrap64 (wrap64 (x + 1) + r1)) s j2 a (wrap64 (tot u + r2)) c (u ++ [⟨wrap64 (wrap64 (x + 1) + r1), r2⟩])) _
      rw [wrap64_id (x := x + 1) (by omega) (by omega), wrap64_id (x := x + 1 + r1) (by omega) (by omega), wrap64_id (x := tot u + r2) (by omega) (by omega)]
      rw [tot_snoc] at h1
      exact h1
    · obtain ⟨b, v, h1, h2⟩ := fin x i u (by omega) i0 i1 x0 x1 hsm has
      refine ⟨b, v, evShift ?_, h2⟩
      simp only [customsmade_Guarantee.l0]
      exact evBind0 rfl (evNeg (by simpa using hl) h1)

theorem made_ev (l : List Int) : ∃ a b c u, Ev (fun k => customsmade_Guarantee.f k l) (a, b, c, u) ∧ Made a b c u := by
  obtain ⟨s, h1, hs⟩ : ∃ s, customsmade_Cut.f l 40 = some s ∧ s.length ≤ 1000 := by
    unfold customsmade_Cut.f
    by_cases h : (l.length : Int) > 40
    · exact ⟨l.take 40, by rw [if_pos h, if_pos (by omega)]; rfl, by rw [List.length_take]; omega⟩
    · exact ⟨l, by rw [if_neg h], by omega⟩
  obtain ⟨r1, j1, g1, g2, g3, g4, g5⟩ := next_some s hs 0 9 (by omega) (by omega) (by omega) (by omega)
  obtain ⟨r2, j2, q1, q2, q3, q4, q5⟩ := next_some s hs j1 5 g4 g5 (by omega) (by omega)
  have hc : 0 ≤ rd [0, 300000, 500000, 999999, 1000000] r2 ∧ rd [0, 300000, 500000, 999999, 1000000] r2 ≤ 1000000 := by
    have : r2 = 0 ∨ r2 = 1 ∨ r2 = 2 ∨ r2 = 3 ∨ r2 = 4 := by omega
    rcases this with rfl | rfl | rfl | rfl | rfl <;> decide
  obtain ⟨b, v, h2, h3⟩ := made_loop s hs (1 + r1) (rd [0, 300000, 500000, 999999, 1000000] r2) (by omega) hc 10 0 j2 [] (by simp) q4 q5 (by omega) (by simp) (fun j hj => by simp at hj) (fun j hj => by simp at hj)
  refine ⟨_, b, _, v, ?_, h3⟩
  unfold customsmade_Guarantee.f
  refine evBind0 h1 (evBind0 g1 (evBind0 rfl (evBind0 q1 (evPos q2 (evPos (by show r2 < ((5 : Nat) : Int); omega) ?_)))))
  show Ev (fun k => customsmade_Guarantee.l0 k 0 s j2 (wrap64 (1 + r1)) 0 _ []) _
  rw [wrap64_id (x := 1 + r1) (by omega) (by omega)]
  exact h2
end Go.Proofs.Ytakhjhiofmgpnaa.E
