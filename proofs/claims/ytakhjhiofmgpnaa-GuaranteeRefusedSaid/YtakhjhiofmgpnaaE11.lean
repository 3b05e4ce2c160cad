/- Set on a valid guarantee, in plain Lean; the law GuaranteeRefused. -/
import Derived.Test.YtakhjhiofmgpnaaE10
import Derived.Test.YtakhjhiofmgpnaaPBx5
namespace Go.Proofs.Ytakhjhiofmgpnaa.E
set_option linter.unusedVariables false
set_option linter.unusedSimpArgs false
open Go.RowKit Go.Proofs.YtakhjhiofmgpnaaW.PrintWords Go.Proofs.YtakhjhiofmgpnaaW.PrintLast Go.Proofs.YtakhjhiofmgpnaaW.PrintMore Go.Proofs.Ytakhjhiofmgpnaa.G Go.Proofs.Ytakhjhiofmgpnaa.PA Go.Proofs.Ytakhjhiofmgpnaa.PB

/-- The list with one reservation in the place of those from p up to q. -/
def put (u : List S39) (p q : Nat) (x : S39) : List S39 := u.take p ++ x :: u.drop q
theorem at_get {u : List S39} {j : Nat} (h : j < u.length) : at_ u j = u[j] := by
  unfold at_ rd_T39
  simp [List.getD_eq_getElem?_getD, h]
theorem put_len {u : List S39} {p q : Nat} {x : S39} (hp : p ≤ u.length) (hq : q ≤ u.length) : (put u p q x).length = p + 1 + (u.length - q) := by
  unfold put; simp; omega
theorem put_lo {u : List S39} {p q : Nat} {x : S39} (hp : p ≤ u.length) {j : Nat} (h : j < p) : at_ (put u p q x) j = at_ u j := by
  unfold at_ rd_T39 put
  simp only [List.getD_eq_getElem?_getD, Int.toNat_natCast]
  rw [List.getElem?_append_left (by simp; omega), List.getElem?_take, if_pos h]
theorem put_mid {u : List S39} {p q : Nat} {x : S39} (hp : p ≤ u.length) : at_ (put u p q x) p = x := by
  unfold at_ rd_T39 put
  simp only [List.getD_eq_getElem?_getD, Int.toNat_natCast]
  rw [List.getElem?_append_right (by simp; omega)]
  simp [Nat.min_eq_left hp]
theorem put_hi {u : List S39} {p q : Nat} {x : S39} (hp : p ≤ u.length) (d : Nat) : at_ (put u p q x) (p + 1 + d) = at_ u (q + d) := by
  unfold at_ rd_T39 put
  simp only [List.getD_eq_getElem?_getD, Int.toNat_natCast]
  rw [List.getElem?_append_right (by simp; omega)]
  have : p + 1 + d - (u.take p).length = d + 1 := by simp; omega
  rw [this, List.getElem?_cons_succ, List.getElem?_drop]

/-- The sum of the amounts of all movements but one, up to a place. -/
def oth (u : List S39) (m : Int) : Nat → Int
  | 0 => 0
  | i + 1 => if (at_ u i).f0 = m then oth u m i else oth u m i + (at_ u i).f1
theorem oth_range {u : List S39} (h : allOk u) (m : Int) : ∀ i, i ≤ u.length → 0 ≤ oth u m i ∧ oth u m i ≤ i * 1000000000000
  | 0, _ => by simp [oth]
  | i + 1, hi => by
    have := oth_range h m i (by omega)
    have h1 := (h i (by omega)).2
    simp only [oth]
    split <;> omega
theorem oth_all {u : List S39} {m : Int} : ∀ i, (∀ j, j < i → (at_ u j).f0 ≠ m) → oth u m i = psum u i
  | 0, _ => rfl
  | i + 1, h => by rw [oth, psum, if_neg (h i (by omega)), oth_all i (fun j hj => h j (by omega))]

/-- Where a movement stands, or would stand. -/
structure Place (u : List S39) (m : Int) (p q : Nat) : Prop where
  le : p ≤ u.length
  qle : q ≤ u.length
  pq : (q = p ∧ ∀ j, j < u.length → (at_ u j).f0 ≠ m) ∨ (q = p + 1 ∧ (at_ u p).f0 = m)
  lo : ∀ j, j < p → (at_ u j).f0 < m
  hi : ∀ j, q ≤ j → j < u.length → m < (at_ u j).f0

theorem psum_split {u : List S39} {m : Int} {p q : Nat} (h : Place u m p q) {n : Int} : ∀ d, q + d ≤ u.length → psum (put u p q ⟨m, n⟩) (p + 1 + d) = oth u m (q + d) + n
  | 0, hd => by
    have h1 : ∀ i, i ≤ p → psum (put u p q ⟨m, n⟩) i = psum u i := by
      intro i
      induction i with
      | zero => intro _; rfl
      | succ i ih => intro hi; rw [psum, psum, ih (by omega), put_lo h.le (by omega)]
    show psum (put u p q ⟨m, n⟩) (p + 1) = oth u m q + n
    rw [psum, h1 p (Nat.le_refl _), put_mid h.le]
    have h2 : oth u m p = psum u p := oth_all p (fun j hj => by have := h.lo j hj; omega)
    rcases h.pq with ⟨rfl, _⟩ | ⟨rfl, hm⟩
    · rw [h2]
    · rw [oth, if_pos hm, h2]
  | d + 1, hd => by
    show psum (put u p q ⟨m, n⟩) (p + 1 + d + 1) = oth u m (q + d + 1) + n
    rw [psum, psum_split h d (by omega), put_hi h.le, oth, if_neg (by have := h.hi (q + d) (by omega) (by omega); omega)]
    omega
theorem put_tot {u : List S39} {m : Int} {p q : Nat} (h : Place u m p q) {n : Int} : tot (put u p q ⟨m, n⟩) = oth u m u.length + n := by
  have := psum_split h (n := n) (u.length - q) (by have := h.qle; omega)
  rw [show q + (u.length - q) = u.length by have := h.qle; omega] at this
  rw [tot, put_len h.le h.qle]
  exact this
theorem put_ok {u : List S39} {m n : Int} {p q : Nat} (h : Place u m p q) (ho : allOk u) (hm : 1 ≤ m ∧ m ≤ 1000000) (hn : 0 ≤ n ∧ n ≤ 1000000000000) : allOk (put u p q ⟨m, n⟩) := fun j hj => by
  rw [put_len h.le h.qle] at hj
  rcases Nat.lt_trichotomy j p with h1 | h1 | h1
  · rw [put_lo h.le h1]; exact ho j (by have := h.le; omega)
  · subst h1; rw [put_mid h.le]; exact ⟨hm, hn⟩
  · obtain ⟨d, rfl⟩ : ∃ d, j = p + 1 + d := ⟨j - (p + 1), by omega⟩
    rw [put_hi h.le]; exact ho _ (by omega)
theorem put_asc {u : List S39} {m n : Int} {p q : Nat} (h : Place u m p q) (ha : asc u) : asc (put u p q ⟨m, n⟩) := fun j hj => by
  rw [put_len h.le h.qle] at hj
  rcases Nat.lt_trichotomy (j + 1) p with h1 | h1 | h1
  · rw [put_lo h.le (by omega), put_lo h.le h1]; exact ha j (by have := h.le; omega)
  · have e : at_ (put u p q ⟨m, n⟩) (j + 1) = ⟨m, n⟩ := by rw [h1]; exact put_mid h.le
    rw [put_lo h.le (by omega), e]; exact h.lo j (by omega)
  · by_cases h2 : j = p
    · subst h2
      have e : at_ (put u j q ⟨m, n⟩) (j + 1) = at_ u q := put_hi h.le 0
      rw [put_mid h.le, e]; exact h.hi q (Nat.le_refl _) (by omega)
    · obtain ⟨d, rfl⟩ : ∃ d, j = p + 1 + d := ⟨j - (p + 1), by omega⟩
      rw [put_hi h.le, show p + 1 + d + 1 = p + 1 + (d + 1) by omega, put_hi h.le]
      exact ha (q + d) (by omega)

theorem find_place {l : List S39} (ha : asc l) (ho : allOk l) (hl : l.length ≤ 100) (m : Int) (hm : -4611686018427387904 ≤ m ∧ m ≤ 4611686018427387904) :
    ∃ p q : Nat, Place l m p q ∧ guarantee_find.f l m = some ((p : Int), decide (q = p + 1)) := by
  obtain ⟨p, hf, hp, h1, h2⟩ := find_at ha ho hl m hm
  by_cases h : p < l.length ∧ (at_ l p).f0 = m
  · refine ⟨p, p + 1, ⟨hp, by omega, .inr ⟨rfl, h.2⟩, h1, fun j hj hjl => ?_⟩, by rw [hf]; simp [h.1, h.2]⟩
    have := asc_le ha (show p + 1 ≤ j by omega) hjl
    have := ha p (by omega)
    omega
  · refine ⟨p, p, ⟨hp, hp, .inl ⟨rfl, fun j hj => ?_⟩, h1, fun j hj hjl => ?_⟩, by rw [hf]; simp; intro h3 h4; exact h ⟨h3, h4⟩⟩
    · by_cases hjp : j < p
      · have := h1 j hjp; omega
      · intro he
        have hpl : p < l.length := by omega
        have h5 := h2 p (Nat.le_refl _) hpl
        have h6 := asc_le ha (show p ≤ j by omega) hj
        exact h ⟨hpl, by omega⟩
    · have h5 := h2 p (Nat.le_refl _) (by omega)
      have h6 := asc_le ha hj hjl
      have : (at_ l p).f0 ≠ m := fun e => h ⟨by omega, e⟩
      omega

/-- Set on a valid guarantee, an amount and a movement within their bounds, room for one more. -/
theorem set_ev {a b c : Int} {u : List S39} (hv : vf a b c u = 0) (hu : u.length < 64) (m t : Int) (hm : 1 ≤ m ∧ m ≤ 1000000) (ht : 0 ≤ t ∧ t ≤ 1000000000000) :
    ∃ p q, Place u m p q ∧ (oth u m u.length + need t c > b → Ev (fun k => guarantee_Set.f k a b c u m t) (0, 0, 0, [], 16)) ∧
      (¬ oth u m u.length + need t c > b → Ev (fun k => guarantee_Set.f k a b c u m t) (a, b, c, put u p q ⟨m, need t c⟩, 0)) := by
  obtain ⟨hh, hlen, ho, ha, htot⟩ := vf_zero.1 hv
  have hn := need_range ht.1 ht.2 hh.2.2.1 hh.2.2.2
  obtain ⟨p, q, hP, hf⟩ := find_place ha ho (by omega) m (by omega)
  have hle := hP.le
  have hok := put_ok hP ho hm ⟨hn.1, hn.2.1⟩
  have hql : p ≤ q := by rcases hP.pq with ⟨rfl, _⟩ | ⟨rfl, _⟩ <;> omega
  have hsum := sum_ev hok (by rw [put_len hP.le hP.qle]; have := hP.qle; omega)
  rw [put_tot hP] at hsum
  have main : ∀ R, ((oth u m u.length + need t c > b → R = (0, 0, 0, [], 16)) ∧ (¬ oth u m u.length + need t c > b → R = (a, b, c, put u p q ⟨m, need t c⟩, 0))) → Ev (fun k => guarantee_Set.f k a b c u m t) R := by
    intro R hR
    have fin : Ev (fun k => (guarantee_sum.f k (put u p q ⟨m, need t c⟩)).bind fun t113 => (if t113 > b then (some (0, 0, 0, ([] : List (S39)), 16)) else (some (a, b, c, put u p q ⟨m, need t c⟩, 0)))) R :=
      evBind hsum (evIf (fun h => evNow (by rw [hR.1 h])) (fun h => evNow (by rw [hR.2 h])))
    have hcl : slices_Clone.f u = some u := by unfold slices_Clone.f; rw [if_pos (by omega)]
    unfold guarantee_Set.f
    refine evBind (validate_ev a b c u) (evPos hv (evBind0 (within_in hm) (evPos rfl (evBind (required_in a b c u t ht.1 ht.2 hh.2.2.1 hh.2.2.2) (evPos rfl (evBind0 hf ?_))))))
    rcases hP.pq with ⟨rfl, hno⟩ | ⟨rfl, hfm⟩
    · refine evNeg (by simp) ?_
      show Ev (fun k => guarantee_Set.j0 k m (need t c) (q : Int) (decide (q = q + 1)) ((u.length : Int) == 64) a b c u) R
      rw [show ((u.length : Int) == 64) = false by simp; omega, show decide (q = q + 1) = false by simp]
      refine evShift ?_
      simp only [guarantee_Set.j0]
      refine evNeg (by simp) (evBind0 hcl (evNeg (by simp) (evBind0 (a := put u q q ⟨m, 0⟩) ?_ ?_)))
      · unfold slices_Insert.f put
        rw [if_pos ⟨rfl, by omega, by omega, by omega⟩]
        simp
      · refine evPos (by omega) (evPos (by rw [put_len hP.le hP.qle]; omega) (evBind0 (a := put u q q ⟨m, need t c⟩) ?_ fin))
        rw [Int.toNat_natCast, show (rd_T39 (put u q q ⟨m, 0⟩) (q : Int)) = ⟨m, 0⟩ from put_mid hP.le]
        unfold put
        rw [List.set_append_right _ _ (by simp; omega)]
        simp [Nat.min_eq_left hle]
    · have hpl : p < u.length := by have := hP.qle; omega
      refine evPos (by simp) ?_
      show Ev (fun k => guarantee_Set.j0 k m (need t c) (p : Int) (decide (p + 1 = p + 1)) false a b c u) R
      rw [show decide (p + 1 = p + 1) = true by simp]
      refine evShift ?_
      simp only [guarantee_Set.j0]
      refine evNeg (by simp) (evBind0 hcl (evPos (by simp) (evPos (by omega) (evPos (by omega) (evBind0 (a := put u p (p + 1) ⟨m, need t c⟩) ?_ fin)))))
      rw [Int.toNat_natCast, show (rd_T39 u (p : Int)).f0 = m from hfm, List.set_eq_take_append_cons_drop, if_pos hpl]
      rfl
  exact ⟨p, q, hP, fun h => main _ ⟨fun _ => rfl, fun h2 => absurd h h2⟩, fun h => main _ ⟨fun h2 => absurd h2 h, fun _ => rfl⟩⟩
end Go.Proofs.Ytakhjhiofmgpnaa.E
