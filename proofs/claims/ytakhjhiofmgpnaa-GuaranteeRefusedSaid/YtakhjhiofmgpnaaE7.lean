/- Validate and Total of a guarantee, in plain Lean: both the program's and the reference's answer is 'vf'; the sum is 'psum'. -/
import Derived.Test.YtakhjhiofmgpnaaE6
namespace Go.Proofs.Ytakhjhiofmgpnaa.E
set_option linter.unusedVariables false
set_option linter.unusedSimpArgs false
open Go.RowKit Go.Proofs.YtakhjhiofmgpnaaW.PrintWords Go.Proofs.YtakhjhiofmgpnaaW.PrintLast Go.Proofs.YtakhjhiofmgpnaaW.PrintMore Go.Proofs.Ytakhjhiofmgpnaa.PA Go.Proofs.Ytakhjhiofmgpnaa.PB

def at_ (l : List S39) (i : Nat) : S39 := rd_T39 l (i : Int)
def okE (u : S39) : Prop := (1 ≤ u.f0 ∧ u.f0 ≤ 1000000) ∧ 0 ≤ u.f1 ∧ u.f1 ≤ 1000000000000
def allOk (l : List S39) : Prop := ∀ j, j < l.length → okE (at_ l j)
def asc (l : List S39) : Prop := ∀ j, j + 1 < l.length → (at_ l j).f0 < (at_ l (j + 1)).f0
def psum (l : List S39) : Nat → Int
  | 0 => 0
  | i + 1 => psum l i + (at_ l i).f1
def tot (l : List S39) : Int := psum l l.length
theorem psum_range {l : List S39} (h : allOk l) : ∀ i, i ≤ l.length → 0 ≤ psum l i ∧ psum l i ≤ i * 1000000000000
  | 0, _ => by simp [psum]
  | i + 1, hi => by
    have := psum_range h i (by omega)
    have h1 := (h i (by omega)).2
    simp only [psum]
    omega
def headOk (a b c : Int) : Prop := (1 ≤ a ∧ a ≤ 1000000) ∧ (0 ≤ b ∧ b ≤ 1000000000000) ∧ 0 ≤ c ∧ c ≤ 1000000
open Classical in
noncomputable def vf (a b c : Int) (l : List S39) : Int :=
  if ¬ headOk a b c then 2 else if l.length > 64 then 8 else if ¬ allOk l then 2 else if ¬ asc l then 9 else if tot l > b then 16 else 0
theorem vf_zero {a b c : Int} {l : List S39} : vf a b c l = 0 ↔ headOk a b c ∧ l.length ≤ 64 ∧ allOk l ∧ asc l ∧ tot l ≤ b := by
  unfold vf
  by_cases h1 : headOk a b c
  · by_cases h2 : l.length > 64
    · simp [h1, h2] <;> omega
    · by_cases h3 : allOk l
      · by_cases h4 : asc l
        · by_cases h5 : tot l > b
          · simp [h1, h2, h3, h4, h5] <;> omega
          · simp [h1, h2, h3, h4, h5] <;> omega
        · simp [h1, h2, h3, h4]
      · simp [h1, h2, h3]
  · simp [h1]

theorem sum_ev {l : List S39} (h : allOk l) (hl : l.length ≤ 64) : Ev (fun k => guarantee_sum.f k l) (tot l) := by
  have key : ∀ (n i : Nat), i + n = l.length → Ev (fun k => guarantee_sum.l0 k (psum l i) l (l.length : Int) (i : Int)) (tot l) := by
    intro n
    induction n with
    | zero =>
      intro i hi
      refine evShift ?_
      simp only [guarantee_sum.l0]
      refine evNeg (by omega) (evNow ?_)
      rw [tot, ← hi]; rfl
    | succ n ih =>
      intro i hi
      refine evShift ?_
      simp only [guarantee_sum.l0]
      refine evPos (by omega) (evPos (by omega) (evPos (by omega) ?_))
      have h0 := psum_range h i (by omega)
      have h1 := (h i (by omega)).2
      have e1 : wrap64 (psum l i + (rd_T39 l (i : Int)).f1) = psum l (i + 1) := by
        have : (rd_T39 l (i : Int)).f1 = (at_ l i).f1 := rfl
        rw [this, wrap64_id (by omega) (by omega)]; rfl
      have e2 : wrap64 ((i : Int) + 1) = ((i + 1 : Nat) : Int) := by rw [wrap64_id (by omega) (by omega)]; omega
      rw [e1, e2]
      exact ih (i + 1) (by omega)
  exact key l.length 0 (by omega)

theorem val_l1 {a b c R : Int} {l : List S39} (hl : l.length ≤ 64) (hbad : ¬ asc l → R = 9) (hgood : asc l → Ev (fun k => (guarantee_sum.f k l).bind fun t => (if t > b then (some 16) else (some 0))) R) :
    Ev (fun k => guarantee_Validate.l1 k 1 a b c l) R := by
  have key : ∀ (n i : Nat), i + n = max l.length 1 → 1 ≤ i → (∀ j, j + 1 < i → (at_ l j).f0 < (at_ l (j + 1)).f0) → Ev (fun k => guarantee_Validate.l1 k (i : Int) a b c l) R := by
    intro n
    induction n with
    | zero =>
      intro i hi h1 hp
      refine evShift ?_
      simp only [guarantee_Validate.l1]
      exact evNeg (by omega) (hgood (fun j hj => hp j (by omega)))
    | succ n ih =>
      intro i hi h1 hp
      refine evShift ?_
      simp only [guarantee_Validate.l1]
      have e0 : wrap64 ((i : Int) - 1) = ((i - 1 : Nat) : Int) := by rw [wrap64_id (by omega) (by omega)]; omega
      have e2 : wrap64 ((i : Int) + 1) = ((i + 1 : Nat) : Int) := by rw [wrap64_id (by omega) (by omega)]; omega
      rw [e0, e2]
      refine evPos (by omega) (evPos (by omega) (evPos (by omega) (evPos (by omega) ?_)))
      refine evIf (fun hle => ?_) (fun hgt => ?_)
      · refine evNow ?_
        rw [hbad (fun ha => ?_)]
        have := ha (i - 1) (by omega)
        rw [show i - 1 + 1 = i by omega] at this
        exact absurd hle (by show ¬ (at_ l i).f0 ≤ (at_ l (i - 1)).f0; omega)
      · refine ih (i + 1) (by omega) (by omega) (fun j hj => ?_)
        by_cases hj2 : j + 1 < i
        · exact hp j hj2
        · obtain rfl : j = i - 1 := by omega
          rw [show i - 1 + 1 = i by omega]
          have : ¬ (at_ l i).f0 ≤ (at_ l (i - 1)).f0 := hgt
          omega
  exact key (max l.length 1 - 1) 1 (by omega) (by omega) (fun j hj => by omega)

theorem val_l0 {a b c R : Int} {l : List S39} (hl : l.length ≤ 64) (hbad : ¬ allOk l → R = 2) (hgood : allOk l → Ev (fun k => guarantee_Validate.l1 k 1 a b c l) R) :
    Ev (fun k => guarantee_Validate.l0 k l (l.length : Int) 0 a b c l) R := by
  have key : ∀ (n i : Nat), i + n = l.length → (∀ j, j < i → okE (at_ l j)) → Ev (fun k => guarantee_Validate.l0 k l (l.length : Int) (i : Int) a b c l) R := by
    intro n
    induction n with
    | zero =>
      intro i hi hp
      refine evShift ?_
      simp only [guarantee_Validate.l0]
      exact evNeg (by omega) (hgood (fun j hj => hp j (by omega)))
    | succ n ih =>
      intro i hi hp
      refine evShift ?_
      simp only [guarantee_Validate.l0]
      have e2 : wrap64 ((i : Int) + 1) = ((i + 1 : Nat) : Int) := by rw [wrap64_id (by omega) (by omega)]; omega
      rw [e2]
      refine evPos (by omega) (evPos (by omega) (evPos (by omega) ?_))
      by_cases h0 : 1 ≤ (at_ l i).f0 ∧ (at_ l i).f0 ≤ 1000000
      · refine evBind0 (within_in h0) (evPos rfl ?_)
        by_cases h1 : 0 ≤ (at_ l i).f1 ∧ (at_ l i).f1 ≤ 1000000000000
        · refine evBind0 (within_in h1) (evPos rfl (ih (i + 1) (by omega) (fun j hj => ?_)))
          by_cases hj2 : j < i
          · exact hp j hj2
          · obtain rfl : j = i := by omega
            exact ⟨h0, h1⟩
        · refine evBind0 (within_out h1) (evNeg (by simp) (evNow ?_))
          rw [hbad (fun ha => h1 (ha i (by omega)).2)]
      · refine evBind0 (within_out h0) (evNeg (by simp) (evNow ?_))
        rw [hbad (fun ha => h0 (ha i (by omega)).1)]
  exact key l.length 0 (by omega) (fun j hj => by omega)

theorem validate_ev (a b c : Int) (l : List S39) : Ev (fun k => guarantee_Validate.f k a b c l) (vf a b c l) := by
  have bad : ¬ headOk a b c → Ev (fun k => guarantee_Validate.j0 k true a b c l) (vf a b c l) := fun h => by
    refine evShift ?_
    simp only [guarantee_Validate.j0]
    refine evPos (by simp) (evNow ?_)
    simp [vf, h]
  unfold guarantee_Validate.f
  by_cases h1 : 1 ≤ a ∧ a ≤ 1000000
  case neg => exact evBind0 (within_out h1) (evNeg (by simp) (bad (fun h => h1 h.1)))
  refine evBind0 (within_in h1) (evPos rfl ?_)
  by_cases h2 : 0 ≤ b ∧ b ≤ 1000000000000
  case neg => exact evBind0 (within_out h2) (evNeg (by simp) (bad (fun h => h2 h.2.1)))
  refine evBind0 (within_in h2) (evPos rfl ?_)
  by_cases h3 : 0 ≤ c ∧ c ≤ 1000000
  case neg => exact evBind0 (within_out h3) (bad (fun h => h3 h.2.2))
  refine evBind0 (within_in h3) (evShift ?_)
  have hh : headOk a b c := ⟨h1, h2, h3⟩
  simp only [guarantee_Validate.j0]
  refine evNeg (by simp) (evIf (fun h => evNow ?_) (fun h => ?_))
  · simp [vf, hh, show l.length > 64 by omega]
  · have hl : l.length ≤ 64 := by omega
    have hl' : ¬ l.length > 64 := by omega
    refine val_l0 hl (fun hb => by simp [vf, hh, hl', hb]) (fun ha => val_l1 hl (fun hb => by simp [vf, hh, hl', ha, hb]) (fun hs => ?_))
    refine evBind (sum_ev ha hl) (evIf (fun h => evNow ?_) (fun h => evNow ?_))
    · simp [vf, hh, hl', ha, hs, h]
    · simp [vf, hh, hl', ha, hs, h]

theorem ref_l1 {a b c s R : Int} {l : List S39} (hl : l.length ≤ 64) (hbad : ¬ asc l → R = 9) (hgood : asc l → R = if s > b then 16 else 0) :
    Ev (fun k => customsref21_ValidGuarantee.l1 k s 1 a b c l) R := by
  have key : ∀ (n i : Nat), i + n = max l.length 1 → 1 ≤ i → (∀ j, j + 1 < i → (at_ l j).f0 < (at_ l (j + 1)).f0) → Ev (fun k => customsref21_ValidGuarantee.l1 k s (i : Int) a b c l) R := by
    intro n
    induction n with
    | zero =>
      intro i hi h1 hp
      refine evShift ?_
      simp only [customsref21_ValidGuarantee.l1]
      refine evNeg (by omega) ?_
      rw [hgood (fun j hj => hp j (by omega))]
      exact evIf (fun h => evNow (by rw [if_pos h])) (fun h => evNow (by rw [if_neg h]))
    | succ n ih =>
      intro i hi h1 hp
      refine evShift ?_
      simp only [customsref21_ValidGuarantee.l1]
      have e0 : wrap64 ((i : Int) - 1) = ((i - 1 : Nat) : Int) := by rw [wrap64_id (by omega) (by omega)]; omega
      have e2 : wrap64 ((i : Int) + 1) = ((i + 1 : Nat) : Int) := by rw [wrap64_id (by omega) (by omega)]; omega
      rw [e0, e2]
      refine evPos (by omega) (evPos (by omega) (evPos (by omega) (evPos (by omega) ?_)))
      refine evIf (fun hle => ?_) (fun hgt => ?_)
      · refine evNow ?_
        rw [hbad (fun ha => ?_)]
        have := ha (i - 1) (by omega)
        rw [show i - 1 + 1 = i by omega] at this
        exact absurd hle (by show ¬ (at_ l i).f0 ≤ (at_ l (i - 1)).f0; omega)
      · refine ih (i + 1) (by omega) (by omega) (fun j hj => ?_)
        by_cases hj2 : j + 1 < i
        · exact hp j hj2
        · obtain rfl : j = i - 1 := by omega
          rw [show i - 1 + 1 = i by omega]
          have : ¬ (at_ l i).f0 ≤ (at_ l (i - 1)).f0 := hgt
          omega
  exact key (max l.length 1 - 1) 1 (by omega) (by omega) (fun j hj => by omega)

theorem psum_part {l : List S39} : ∀ i, i ≤ l.length → (∀ j, j < i → okE (at_ l j)) → 0 ≤ psum l i ∧ psum l i ≤ i * 1000000000000
  | 0, _, _ => by simp [psum]
  | i + 1, hi, h => by
    have := psum_part i (by omega) (fun j hj => h j (by omega))
    have h1 := (h i (by omega)).2
    simp only [psum]
    omega

theorem ref_l0 {a b c R : Int} {l : List S39} (hl : l.length ≤ 64) (hbad : ¬ allOk l → R = 2) (hgood : allOk l → Ev (fun k => customsref21_ValidGuarantee.l1 k (tot l) 1 a b c l) R) :
    Ev (fun k => customsref21_ValidGuarantee.l0 k 0 0 a b c l) R := by
  have key : ∀ (n i : Nat), i + n = l.length → (∀ j, j < i → okE (at_ l j)) → Ev (fun k => customsref21_ValidGuarantee.l0 k (psum l i) (i : Int) a b c l) R := by
    intro n
    induction n with
    | zero =>
      intro i hi hp
      refine evShift ?_
      simp only [customsref21_ValidGuarantee.l0]
      obtain rfl : i = l.length := by omega
      exact evNeg (by omega) (hgood (fun j hj => hp j (by omega)))
    | succ n ih =>
      intro i hi hp
      refine evShift ?_
      simp only [customsref21_ValidGuarantee.l0]
      have e2 : wrap64 ((i : Int) + 1) = ((i + 1 : Nat) : Int) := by rw [wrap64_id (by omega) (by omega)]; omega
      rw [e2]
      have hq := psum_part i (by omega) hp
      refine evPos (by omega) (evPos (by omega) ?_)
      show Ev (fun k => if (at_ l i).f0 < 1 then some 2 else (if (at_ l i).f0 > 1000000 then some 2 else (if (at_ l i).f1 < 0 then some 2 else (if (at_ l i).f1 > 1000000000000 then some 2 else customsref21_ValidGuarantee.l0 k (wrap64 (psum l i + (at_ l i).f1)) ((i + 1 : Nat) : Int) a b c l)))) R
      refine evIf (fun h => evNow ?_) (fun h1 => evIf (fun h => evNow ?_) (fun h2 => evIf (fun h => evNow ?_) (fun h3 => evIf (fun h => evNow ?_) (fun h4 => ?_))))
      · rw [hbad (fun ha => by have := (ha i (by omega)).1; omega)]
      · rw [hbad (fun ha => by have := (ha i (by omega)).1; omega)]
      · rw [hbad (fun ha => by have := (ha i (by omega)).2; omega)]
      · rw [hbad (fun ha => by have := (ha i (by omega)).2; omega)]
      · rw [wrap64_id (by omega) (by omega)]
        refine ih (i + 1) (by omega) (fun j hj => ?_)
        by_cases hj2 : j < i
        · exact hp j hj2
        · obtain rfl : j = i := by omega
          exact ⟨by omega, by omega⟩
  exact key l.length 0 (by omega) (fun j hj => by omega)

theorem refvalid_ev (a b c : Int) (l : List S39) : Ev (fun k => customsref21_ValidGuarantee.f k a b c l) (vf a b c l) := by
  have bad : ¬ headOk a b c → Ev (fun k => customsref21_ValidGuarantee.j0 k true a b c l) (vf a b c l) := fun h => by
    refine evShift ?_
    simp only [customsref21_ValidGuarantee.j0]
    refine evPos (by simp) (evNow ?_)
    simp [vf, h]
  unfold customsref21_ValidGuarantee.f
  refine evIf (fun h => bad (fun g => by have := g.1; omega)) (fun h1 => evIf (fun h => bad (fun g => by have := g.1; omega)) (fun h2 => evIf (fun h => bad (fun g => by have := g.2.1; omega)) (fun h3 => evIf (fun h => bad (fun g => by have := g.2.1; omega)) (fun h4 => evIf (fun h => bad (fun g => by have := g.2.2; omega)) (fun h5 => ?_)))))
  by_cases h6 : c > 1000000
  · rw [decide_eq_true h6]
    exact bad (fun g => by have := g.2.2; omega)
  · rw [decide_eq_false h6]
    refine evShift ?_
    have hh : headOk a b c := ⟨by omega, by omega, by omega⟩
    simp only [customsref21_ValidGuarantee.j0]
    refine evNeg (by simp) (evIf (fun h => evNow ?_) (fun h => ?_))
    · simp [vf, hh, show l.length > 64 by omega]
    · have hl : l.length ≤ 64 := by omega
      have hl' : ¬ l.length > 64 := by omega
      refine ref_l0 hl (fun hb => by simp [vf, hh, hl', hb]) (fun ha => ref_l1 hl (fun hb => by simp [vf, hh, hl', ha, hb]) (fun hs => ?_))
      simp [vf, hh, hl', ha, hs]

/-- The sum of a valid guarantee's reservations; 0 of another one. -/
noncomputable def tf (a b c : Int) (l : List S39) : Int := if vf a b c l = 0 then tot l else 0
theorem total_ev (a b c : Int) (l : List S39) : Ev (fun k => guarantee_Total.f k a b c l) (tf a b c l) := by
  unfold guarantee_Total.f
  refine evBind (validate_ev a b c l) (evIf (fun h => ?_) (fun h => evNow ?_))
  · have hv := vf_zero.1 h
    refine evBind (sum_ev hv.2.2.1 hv.2.1) (evNow ?_)
    simp [tf, h]
  · simp [tf, h]
theorem reftotal_ev (a b c : Int) (l : List S39) : Ev (fun k => customsref21_Total.f k a b c l) (tf a b c l) := by
  unfold customsref21_Total.f
  refine evBind (refvalid_ev a b c l) (evIf (fun h => ?_) (fun h => evNow ?_))
  · have hv := vf_zero.1 h
    have hl := hv.2.1
    have key : ∀ (n i : Nat), i + n = l.length → Ev (fun k => customsref21_Total.l0 k (psum l i) (i : Int) a b c l) (tf a b c l) := by
      intro n
      induction n with
      | zero =>
        intro i hi
        refine evShift ?_
        simp only [customsref21_Total.l0]
        refine evNeg (by omega) (evNow ?_)
        obtain rfl : i = l.length := by omega
        simp [tf, h, tot]
      | succ n ih =>
        intro i hi
        refine evShift ?_
        simp only [customsref21_Total.l0]
        refine evPos (by omega) (evPos (by omega) ?_)
        have h0 := psum_range hv.2.2.1 i (by omega)
        have h1 := (hv.2.2.1 i (by omega)).2
        have e1 : wrap64 (psum l i + (rd_T39 l (i : Int)).f1) = psum l (i + 1) := by
          have : (rd_T39 l (i : Int)).f1 = (at_ l i).f1 := rfl
          rw [this, wrap64_id (by omega) (by omega)]; rfl
        have e2 : wrap64 ((i : Int) + 1) = ((i + 1 : Nat) : Int) := by rw [wrap64_id (by omega) (by omega)]; omega
        rw [e1, e2]
        exact ih (i + 1) (by omega)
    exact key l.length 0 (by omega)
  · simp [tf, h]
end Go.Proofs.Ytakhjhiofmgpnaa.E
