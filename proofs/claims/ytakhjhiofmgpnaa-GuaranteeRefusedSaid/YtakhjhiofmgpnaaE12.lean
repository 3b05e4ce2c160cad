/- The law GuaranteeRefused in plain Lean. -/
import Derived.Test.YtakhjhiofmgpnaaE11
namespace Go.Proofs.Ytakhjhiofmgpnaa.E
set_option linter.unusedVariables false
set_option linter.unusedSimpArgs false
open Go.RowKit Go.Proofs.YtakhjhiofmgpnaaW.PrintWords Go.Proofs.YtakhjhiofmgpnaaW.PrintLast Go.Proofs.YtakhjhiofmgpnaaW.PrintMore Go.Proofs.Ytakhjhiofmgpnaa.G Go.Proofs.Ytakhjhiofmgpnaa.PA Go.Proofs.Ytakhjhiofmgpnaa.PB

theorem ref_l2 {m nd o a b c a' b' c' : Int} {u v : List S39} (hu : u.length ≤ 100) (hv : v.length ≤ 100) (n i : Nat) (hn : n < u.length) (hi : i < v.length) (hne : (at_ u n).f0 ≠ m) (he : at_ u n = at_ v i)
    (h : Ev (fun k => customslaw23_GuaranteeRefused.l1 k m nd o ((n + 1 : Nat) : Int) ((i + 1 : Nat) : Int) a b c u a' b' c' v) true) :
    Ev (fun k => customslaw23_GuaranteeRefused.l2 k m nd o (n : Int) (i : Int) a b c u a' b' c' v) true := by
  refine evShift ?_
  simp only [customslaw23_GuaranteeRefused.l2]
  have e1 : wrap64 ((n : Int) + 1) = ((n + 1 : Nat) : Int) := by rw [wrap64_id (by omega) (by omega)]; omega
  have e2 : wrap64 ((i : Int) + 1) = ((i + 1 : Nat) : Int) := by rw [wrap64_id (by omega) (by omega)]; omega
  rw [e1, e2]
  clear e1 e2
  have he' : rd_T39 u (n : Int) = rd_T39 v (i : Int) := he
  refine evPos (by omega) (evPos (by omega) (evNeg hne (evNeg (by omega) (evPos (by omega) (evPos (by omega) (evNeg (by rw [he']; simp) h))))))

theorem ref_walk {m nd t a b c : Int} {u v : List S39} {p q : Nat} (hu : u.length ≤ 60) (hpu : p ≤ u.length) (hqu : q ≤ u.length) (hpq : p ≤ q) (hvl : v.length = p + 1 + (u.length - q))
    (hlo : ∀ n, n < p → at_ v n = at_ u n) (hmid : at_ v p = ⟨m, nd⟩) (hhi : ∀ d, at_ v (p + 1 + d) = at_ u (q + d)) (hnl : ∀ n, n < p → (at_ u n).f0 ≠ m) (hnh : ∀ d, q + d < u.length → (at_ u (q + d)).f0 ≠ m)
    (hq : q = p ∨ q = p + 1 ∧ (at_ u p).f0 = m) (htot : tf a b c v = wrap64 (t + nd)) (r : Nat) : ∀ (i n : Nat), i + r = v.length → ((i ≤ p ∧ n = i) ∨ ∃ d, i = p + 1 + d ∧ (n = q + d ∨ (d = 0 ∧ n = p))) →
      Ev (fun k => customslaw23_GuaranteeRefused.l1 k m nd t (n : Int) (i : Int) a b c u a b c v) true := by
  induction r with
  | zero =>
    intro i n hi hrel
    refine evShift ?_
    simp only [customslaw23_GuaranteeRefused.l1]
    exact evNeg (by omega) (evBind (total_ev a b c _) (evPos htot (evBind awake_ev (evNow rfl))))
  | succ r ih =>
    intro i n hi hrel
    refine evShift ?_
    simp only [customslaw23_GuaranteeRefused.l1]
    refine evPos (by omega) (evPos (by omega) ?_)
    have e2 : wrap64 ((i : Int) + 1) = ((i + 1 : Nat) : Int) := by rw [wrap64_id (by omega) (by omega)]; omega
    rw [e2]
    clear e2
    rcases hrel with ⟨hip, rfl⟩ | ⟨d, rfl, hd⟩
    · by_cases hx : n = p
      · subst hx
        refine evPos (by show (at_ v n).f0 = m; rw [hmid]) (evPos (by show (at_ v n).f1 = nd; rw [hmid]) ?_)
        exact ih (n + 1) n (by omega) (.inr ⟨0, rfl, .inr ⟨rfl, rfl⟩⟩)
      · have hl : n < p := by omega
        have em : at_ v n = at_ u n := hlo n hl
        have hne : (at_ u n).f0 ≠ m := hnl n hl
        refine evNeg (by show ¬ (at_ v n).f0 = m; rw [em]; exact hne) ?_
        exact ref_l2 (by omega) (by omega) n n (by omega) (by omega) hne em.symm (ih (n + 1) (n + 1) (by omega) (.inl ⟨by omega, rfl⟩))
    · have em : at_ v (p + 1 + d) = at_ u (q + d) := hhi d
      have hne : (at_ u (q + d)).f0 ≠ m := hnh d (by omega)
      refine evNeg (by show ¬ (at_ v (p + 1 + d)).f0 = m; rw [em]; exact hne) ?_
      have step : Ev (fun k => customslaw23_GuaranteeRefused.l2 k m nd t ((q + d : Nat) : Int) ((p + 1 + d : Nat) : Int) a b c u a b c v) true :=
        ref_l2 (by omega) (by omega) (q + d) (p + 1 + d) (by omega) (by omega) hne em.symm (ih (p + 1 + d + 1) (q + d + 1) (by omega) (.inr ⟨d + 1, by omega, .inl (by omega)⟩))
      rcases hd with rfl | ⟨rfl, rfl⟩
      · exact step
      · rcases hq with rfl | ⟨rfl, hm⟩
        · exact step
        · refine evShift ?_
          simp only [customslaw23_GuaranteeRefused.l2]
          have e1 : wrap64 ((n : Int) + 1) = ((n + 1 + 0 : Nat) : Int) := by rw [wrap64_id (by omega) (by omega)]; omega
          rw [e1]
          clear e1
          exact evPos (by omega) (evPos (by omega) (evPos hm step))

theorem ref_list {m nd a b c : Int} {u : List S39} {p q : Nat} (hP : Place u m p q) (hu : u.length ≤ 60) (hvv : vf a b c (put u p q ⟨m, nd⟩) = 0) (ho : 0 ≤ oth u m u.length + nd ∧ oth u m u.length + nd ≤ 4611686018427387904) :
    Ev (fun k => customslaw23_GuaranteeRefused.l1 k m nd (oth u m u.length) 0 0 a b c u a b c (put u p q ⟨m, nd⟩)) true := by
  have hpq : p ≤ q := by rcases hP.pq with ⟨h, _⟩ | ⟨h, _⟩ <;> omega
  have hq : q = p ∨ q = p + 1 ∧ (at_ u p).f0 = m := by
    rcases hP.pq with ⟨h, _⟩ | ⟨h, h'⟩
    · exact .inl (by omega)
    · exact .inr ⟨by omega, h'⟩
  have ht : tf a b c (put u p q ⟨m, nd⟩) = wrap64 (oth u m u.length + nd) := by
    rw [tf, if_pos hvv, put_tot hP, wrap64_id (by omega) (by omega)]
  exact ref_walk (p := p) (q := q) hu hP.le hP.qle hpq (put_len hP.le hP.qle) (fun n h => put_lo hP.le h) (put_mid hP.le) (fun d => put_hi hP.le d) (fun n h => by have := hP.lo n h; omega)
    (fun d h => by have := hP.hi (q + d) (by omega) (by omega); omega) hq ht (put u p q ⟨m, nd⟩).length 0 0 (Nat.zero_add _) (.inl ⟨by omega, rfl⟩)

theorem ref_oth {m e nd a b c a' b' c' : Int} {u v : List S39} (ho : allOk u) (hu : u.length ≤ 60) (hnd : 0 ≤ nd ∧ nd ≤ 1000000000000) (hc : (e = 0 ∧ oth u m u.length + nd ≤ b) ∨ (e = 16 ∧ ¬ oth u m u.length + nd ≤ b))
    (h : Ev (fun k => customslaw23_GuaranteeRefused.j1 k m e nd (oth u m u.length) false a b c u a' b' c' v) true) :
    Ev (fun k => customslaw23_GuaranteeRefused.l0 k m e nd 0 0 0 a b c u a' b' c' v) true := by
  have key : ∀ (n i : Nat), i + n = u.length → Ev (fun k => customslaw23_GuaranteeRefused.l0 k m e nd 0 (oth u m i) (i : Int) a b c u a' b' c' v) true := by
    intro n
    induction n with
    | zero =>
      intro i hi
      obtain rfl : i = u.length := by omega
      have hr := oth_range ho m u.length (Nat.le_refl _)
      refine evShift ?_
      simp only [customslaw23_GuaranteeRefused.l0]
      rw [wrap64_id (x := oth u m u.length + nd) (by omega) (by omega)]
      refine evNeg (by omega) (evPos (by simp) ?_)
      rcases hc with ⟨rfl, h1⟩ | ⟨rfl, h1⟩
      · exact evNeg (by simp [h1]) (evPos rfl h)
      · exact evNeg (by simp [h1]) (evNeg (by decide) h)
    | succ n ih =>
      intro i hi
      have hr := oth_range ho m i (by omega)
      have h1 := (ho i (by omega)).2
      refine evShift ?_
      simp only [customslaw23_GuaranteeRefused.l0]
      have e2 : wrap64 ((i : Int) + 1) = ((i + 1 : Nat) : Int) := by rw [wrap64_id (by omega) (by omega)]; omega
      rw [e2]
      have := ih (i + 1) (by omega)
      rw [oth] at this
      refine evPos (by omega) (evPos (by omega) (evIf (fun hx => ?_) (fun hx => ?_)))
      · rw [if_pos (show (at_ u i).f0 = m from hx)] at this
        exact this
      · rw [if_neg (show ¬ (at_ u i).f0 = m from hx)] at this
        show Ev (fun k => customslaw23_GuaranteeRefused.l0 k m e nd 0 (wrap64 (oth u m i + (at_ u i).f1)) ((i + 1 : Nat) : Int) a b c u a' b' c' v) true
        rw [wrap64_id (x := oth u m i + (at_ u i).f1) (by omega) (by omega)]
        exact this
  exact key u.length 0 (by omega)

theorem refused (l : List Int) (a1 a2 : Int) (m : l.length ≤ maxLen) (w3 : ∀ n ∈ l, (Lit.int .i64 n).wf = true) (w4 : (Lit.int .i64 a1).wf = true) (w5 : (Lit.int .i64 a2).wf = true) :
    ∃ k, customslaw23_GuaranteeRefused.f k l a1 a2 = some true := by
  have h : Ev (fun k => customslaw23_GuaranteeRefused.f k l a1 a2) true := by
    unfold customslaw23_GuaranteeRefused.f
    obtain ⟨a, b, c, u, h1, hM⟩ := made_ev l
    obtain ⟨s, h2, s0, s1⟩ := within_some a1 12 (by omega) (by omega)
    obtain ⟨t, h3, t0, t1⟩ := within_some a2 2000 (by omega) (by omega)
    have hlen := hM.len
    have hn := need_range t0 (by omega) hM.level.1 hM.level.2
    have hr := oth_range hM.ok (1 + s) u.length (Nat.le_refl _)
    obtain ⟨p, q, hP, g1, g2⟩ := set_ev hM.valid (by omega) (1 + s) t (by omega) ⟨t0, by omega⟩
    refine evBind h1 (evBind0 h2 (evBind0 h3 ?_))
    show Ev (fun k => (guarantee_Set.f k a b c u (wrap64 (1 + s)) t).bind fun bt175 => ((guarantee_Required.f k a b c u t).bind fun bt183 => (customslaw23_GuaranteeRefused.l0 k (wrap64 (1 + s)) bt175.2.2.2.2 bt183.1 bt183.2 0 0 a b c u bt175.1 bt175.2.1 bt175.2.2.1 bt175.2.2.2.1))) true
    rw [wrap64_id (x := 1 + s) (by omega) (by omega)]
    by_cases hx : oth u (1 + s) u.length + need t c > b
    · refine evBind (g1 hx) (evBind (required_in a b c u t t0 (by omega) hM.level.1 hM.level.2) (ref_oth hM.ok (by omega) ⟨hn.1, hn.2.1⟩ (.inr ⟨rfl, by omega⟩) ?_))
      refine evShift ?_
      simp only [customslaw23_GuaranteeRefused.j1]
      exact evNeg (by simp) (evNeg (by decide) (evBind awake_ev (evNow rfl)))
    · have hv0 := vf_zero.1 hM.valid
      have hv : vf a b c (put u p q ⟨1 + s, need t c⟩) = 0 := by
        refine vf_zero.2 ⟨hv0.1, ?_, put_ok hP hM.ok (by omega) ⟨hn.1, hn.2.1⟩, put_asc hP hM.asc, by rw [put_tot hP]; omega⟩
        rw [put_len hP.le hP.qle]
        have := hP.le
        omega
      refine evBind (g2 hx) (evBind (required_in a b c u t t0 (by omega) hM.level.1 hM.level.2) (ref_oth hM.ok (by omega) ⟨hn.1, hn.2.1⟩ (.inl ⟨rfl, by omega⟩) ?_))
      refine evShift ?_
      simp only [customslaw23_GuaranteeRefused.j1]
      exact evNeg (by simp) (evPos (by simp) (ref_list hP (by omega) hv (by omega)))
  exact h.rounds
end Go.Proofs.Ytakhjhiofmgpnaa.E
