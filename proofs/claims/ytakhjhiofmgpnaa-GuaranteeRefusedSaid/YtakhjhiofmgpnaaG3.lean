/- The contracts by hand of slices.Clone and slices.Insert at reservations. -/
import Derived.Test.YtakhjhiofmgpnaaPAx0
import Derived.Test.YtakhjhiofmgpnaaG2
namespace Go.Proofs.Ytakhjhiofmgpnaa.G
open Go.RowKit Go.Proofs.YtakhjhiofmgpnaaW.PrintWords Go.Proofs.YtakhjhiofmgpnaaW.PrintLast Go.Proofs.YtakhjhiofmgpnaaW.PrintMore Go.Proofs.Ytakhjhiofmgpnaa.PA
set_option linter.unusedVariables false
set_option linter.unusedSimpArgs false

def slices_Clone.f {α : Type} (l : List α) : Option (List α) := if l.length < 8796093022207 then some l else none

set_option maxHeartbeats 400000 in
theorem slices_Clone.calls (A0 : Option Addr) (c0 : Nat) (l0 : List S39) (r : List S39) (w : World) (hr0 : Kd.C k39 w A0 l0.length l0) (hc0 : l0.length ≤ c0) (h : slices_Clone.f l0 = some r) :
    Calls Try.prog 38 #[.slice A0 l0.length c0] w fun e w' => ∃ v0_ : Value, e = .returned (v0_) ∧ Kd.R k39 39 w' w.heap.size (fun _ => True) v0_ r ∧ Below w.heap.size w w' := by
  unfold slices_Clone.f at h
  by_cases hn : l0.length < 8796093022207
  · rw [if_pos hn] at h
    obtain rfl := Option.some.inj h
    clear h
    have HR0_ := Aside0.mk hr0
    have HC0 := Aside0.mk hc0
    clear hr0 hc0
    have hu39 := Try.underlying39
    rcases A0 with _ | ad
    · have h0 : l0.length = 0 := by
        rcases Nat.eq_zero_or_pos l0.length with h0 | h0
        · exact h0
        · obtain ⟨ad, h, _⟩ := HR0_.out.2.2 h0
          cases h
      have hl : l0 = [] := List.eq_nil_of_length_eq_zero h0
      subst hl
      clear h0
      have heq : ∀ w, (binOp .eql 23 (.slice none 0 c0) (.slice none 0 0)).run Try.prog w = .ok (.bool true) w := fun w => Lib.run_eql_slice_nil (P := Try.prog) w 23 39 none 0 c0 0 0 Try.underlying23
      go_enter Try.func38, Try.ntmps38
      go_wp2
      go_ret
      exact ⟨_, rfl, Kd.R_nil _ _ _ _ _, Below.refl _ _⟩
    · have heq : ∀ w, (binOp .eql 23 (.slice (some ad) l0.length c0) (.slice none 0 0)).run Try.prog w = .ok (.bool false) w := fun w => Lib.run_eql_slice_nil (P := Try.prog) w 23 39 (some ad) l0.length c0 0 0 Try.underlying23
      go_enter Try.func38, Try.ntmps38
      go_wp2_with (first
        | ((with_reducible refine gate_dst (N := 5) rfl ?_); refine Kd.R_lit k39 _ 39 ?hg (N := 5) ?hd (xs := ([] : List (S39))) (inner := []) (ok := fun _ => True) (okp := fun _ => True) ?hr ?hp (fun _ hk => hk) trivial (Below.refl _ _) (Nat.le_refl _) (by simp) ?_; (case hd => rfl); (case hg => rfl); (case hr => first | (go_simp; done) | (go_simp; rfl)); (case hp => exact (Reps.none _ _)); intro v1 w1 ho1 hb hg_ hnew_; clear hg_ hnew_; have HO1 := Aside0.mk ho1; have HB := Aside0.mk hb; clear ho1 hb)
        | ((with_reducible refine gate_builtin (b := .append) (xs := #[.tmp 5, .tmp 6]) rfl ?_); at_builtin; refine Kd.R_append_rows k39 (w0 := w) w.heap.size rfl (.tmp 5) (.tmp 6) 23 39 (.agg #[(.int .i64 0), (.int .i64 0)]) 16 rfl Try.underlying23 info39 rfl (by decide) (by omega) v1 ([] : List S39) l0 _ _ _ (fun _ => True) (fun _ => False) rfl rfl HO1.out (Kd.C_below HR0_.out HB.out) (fun _ _ h => h) (fun _ h => h.elim) (fun _ _ => trivial) HB.out (below_size HB.out) (by simp; omega) ?_; intro v2 w2 ho hb hg hat; have HO2 := Aside0.mk ho; have HB2 := Aside0.mk hb; clear ho hb hg hat))
      go_ret
      exact ⟨_, rfl, HO2.out, HB2.out⟩
  · rw [if_neg hn] at h
    cases h

/-- One element (a literal row), put in. -/
def slices_Insert.f {α : Type} (l : List α) (i : Int) (v : List α) : Option (List α) :=
  if v.length = 1 ∧ 0 ≤ i ∧ i ≤ (l.length : Int) ∧ l.length < 8796093022206 then some (l.take i.toNat ++ v ++ l.drop i.toNat) else none

theorem k39_one {w : World} {base : Nat} {ok : Nat → Prop} {x : S39} {cs : List Value} (h : k39.M w base ok x cs) : ∀ u ∈ cs, u.oneCell' = true := k39.K_one (k39.K_of_M h)

theorem reps39_one {w : World} {base : Nat} {ok : Nat → Prop} {xs : List S39} {cs : List Value} (h : Reps (k39.M w base ok) 2 xs cs) : ∀ u ∈ cs, u.oneCell' = true := by
  intro u hu
  obtain ⟨j, hj, rfl⟩ := List.mem_iff_getElem.1 hu
  have h1 := h.1
  have hj2 : j / 2 < xs.length := by omega
  have := k39_one (h.2 (j / 2) _ (List.getElem?_eq_getElem hj2)) cs[j]
  apply this
  rw [List.mem_iff_getElem?]
  refine ⟨j % 2, ?_⟩
  rw [List.getElem?_take, if_pos (Nat.mod_lt _ (by omega)), List.getElem?_drop, show j / 2 * 2 + j % 2 = j by omega, List.getElem?_eq_getElem hj]

set_option maxHeartbeats 1000000 in
theorem slices_Insert.calls (P0_ : Nat → Prop) (u0 : Value) (l0 : List S39) (a1 : Int) (P2_ : Nat → Prop) (u2 : Value) (l2 : List S39) (r : List S39) (w0 w : World) (hB : Below w0.heap.size w0 w)
    (ho0 : Kd.R k39 39 w w0.heap.size P0_ u0 l0) (hs0 : ∀ k, P0_ k → ¬ P2_ k) (ho2 : Kd.R k39 39 w w0.heap.size P2_ u2 l2) (hs2 : ∀ k, P2_ k → ¬ P0_ k) (h : slices_Insert.f l0 a1 l2 = some r) :
    Calls Try.prog 39 #[u0, .int .i64 a1, u2] w fun e w' => ∃ v0_ : Value, e = .returned (v0_) ∧ Kd.R k39 39 w' w0.heap.size (fun k_ => (P0_ k_ ∨ P2_ k_) ∨ w.heap.size ≤ k_) v0_ r ∧ Below w0.heap.size w0 w' ∧ Kept w w' (fun k_ => P0_ k_ ∨ P2_ k_) := by
  unfold slices_Insert.f at h
  by_cases hc : l2.length = 1 ∧ 0 ≤ a1 ∧ a1 ≤ (l0.length : Int) ∧ l0.length < 8796093022206
  case neg => rw [if_neg hc] at h; cases h
  rw [if_pos hc] at h
  obtain rfl := Option.some.inj h
  clear h
  obtain ⟨hv1, hi0, hin, hlim⟩ := hc
  obtain ⟨i, rfl⟩ : ∃ i : Nat, a1 = (i : Int) := ⟨a1.toNat, by omega⟩
  have hin' : i ≤ l0.length := by omega
  rw [Int.toNat_natCast]
  clear hi0
  by_cases he : i = l0.length
  · -- at the end: an append
    subst he
    rw [List.take_length, List.drop_length, List.append_nil]
    obtain ⟨A0, c0, e0⟩ := Kd.R_slice ho0
    obtain ⟨A2, c2, e2⟩ := Kd.R_slice ho2
    subst e0 e2
    have hr2 := Kd.R_reads' ho2
    rw [hv1] at hr2 ⊢
    have HO0 := Aside0.mk ho0
    have HR2 := Aside0.mk hr2.2.2
    have HB := Aside0.mk hB
    have HC := Aside0.mk (Kd.R_reads' ho0).2.1
    have HC2 := Aside0.mk hr2.2.1
    clear ho0 ho2 hr2 hB hs2 hs0
    go_enter Try.func39, Try.ntmps39
    go_wp2_with ((with_reducible refine gate_builtin (b := .append) (xs := #[.tmp 23, .tmp 24]) rfl ?_); at_builtin; refine Kd.R_append_rows k39 (w0 := w0) w0.heap.size rfl (.tmp 23) (.tmp 24) 23 39 (.agg #[(.int .i64 0), (.int .i64 0)]) 16 rfl Try.underlying23 info39 rfl (by decide) (by omega) _ l0 l2 _ _ _ (fun k_ => (P0_ k_ ∨ P2_ k_) ∨ w.heap.size ≤ k_) (fun _ => False) rfl rfl (Kd.R_mono HO0.out (fun _ hk => .inl (.inl hk))) HR2.out (fun _ _ h => h) (fun _ h => h.elim) (fun _ hk => .inr hk) HB.out (below_size HB.out) (by omega) ?_; intro v2 w2 ho hb hg hat; have HO2 := Aside0.mk ho; have HB2 := Aside0.mk hb; have HG2 := Aside0.mk hg; clear ho hb hg hat)
    all_goals
      go_ret
      refine ⟨_, rfl, HO2.out, HB2.out, ?_⟩
      exact Kept.of_grown HG2.out (Kept.refl _ _) (fun k hk => .inl (.inl (HO0.out.1 k hk)))
  · have hi : i < l0.length := by omega
    obtain ⟨hP0, in0, ow0, rp0⟩ := ho0
    obtain ⟨hP2, in2, ow2, rp2⟩ := ho2
    rcases ow0 with ⟨hl0, ⟨rfl, hn⟩ | ⟨g, cap, cur, rfl, hbg, hg, hnc, hcm, hcs, ht0⟩⟩
    · omega
    rcases ow2 with ⟨hl2, ⟨rfl, hn⟩ | ⟨vb, vc, curv, rfl, hbv, hv, hvc, hvm, hvs, ht2⟩⟩
    · omega
    have hk39 : k39.sz = 2 := rfl
    rw [hv1] at ht2 hvc hl2 ⊢
    replace hl0 : in0.length = l0.length * 2 := hl0
    replace hcs : cur.size = cap * 2 := hcs
    replace ht0 : cur.toList.take (l0.length * 2) = in0 := ht0
    replace hvs : curv.size = vc * 2 := hvs
    replace hl2 : in2.length = 1 * 2 := hl2
    replace ht2 : curv.toList.take (1 * 2) = in2 := ht2
    have hvb : vb ≠ g := fun e => hs0 g (hP0 g rfl) (by rw [← e]; exact hP2 vb rfl)
    have h1c : ∀ v ∈ cur.toList.take (l0.length * 2), v.oneCell' = true := by rw [ht0]; exact reps39_one rp0
    have h1v : ∀ v ∈ curv.toList.take 2, v.oneCell' = true := by rw [Nat.one_mul] at ht2; rw [ht2]; exact reps39_one rp2
    rw [Nat.one_mul] at ht2 hl2
    have hmid : ∀ (W : World) (b : Nat) (ok : Nat → Prop), b ≤ w0.heap.size → Reps (k39.M W b ok) 2 (l0.take i ++ l2 ++ l0.drop i) (cur.toList.take (i * 2) ++ curv.toList.take 2 ++ (cur.toList.take (l0.length * 2)).drop (i * 2)) := fun W b ok hb => by
      have := reps_mid (rp0.imp_ (fun x cs h => flat_M (d := k39) rfl (w1 := W) (b1 := b) (ok1 := ok) h hb)) (rp2.imp_ (fun x cs h => flat_M (d := k39) rfl (w1 := W) (b1 := b) (ok1 := ok) h hb)) i hin'
      rw [ht2, ht0]
      rwa [show cur.toList.take (i * 2) = in0.take (i * 2) by rw [← ht0, List.take_take, Nat.min_eq_left (by omega)]]
    have hlr : (l0.take i ++ l2 ++ l0.drop i).length = l0.length + 1 := by simp [hv1]; omega
    have hll : (cur.toList.take (i * 2) ++ curv.toList.take 2 ++ (cur.toList.take (l0.length * 2)).drop (i * 2)).length = (l0.length + 1) * 2 := by
      have := (hmid w 0 (fun _ => True) (Nat.zero_le _)).1
      rw [this, hlr]
    by_cases hroom : l0.length + 1 ≤ cap
    · refine (ins_shift g l0.length cap i vb vc cur curv w hi hroom (by unfold maxLen at hcm; omega) hvb hg hcs hv (by omega) h1c h1v _ _ rfl rfl).mono ?_
      rintro e w' ⟨rfl, rfl⟩
      have hg1 := setRow_heap w.drew g cur (splice cur.toList ((i + 1) * 2) ((cur.toList.take (l0.length * 2)).drop (i * 2))).toArray 39 (0, 0) hg
      have hg2 := setRow_heap _ g _ (splice (splice cur.toList ((i + 1) * 2) ((cur.toList.take (l0.length * 2)).drop (i * 2))) (i * 2) (curv.toList.take 2)).toArray 39 (0, 0) hg1
      have hcl : cur.toList.length = cap * 2 := by simpa using hcs
      have hcvl : curv.toList.length = vc * 2 := by simpa using hvs
      refine ⟨_, rfl, ⟨fun k hk => ?_, _, ⟨hll.trans (by rw [hlr]; rfl), .inr ⟨g, cap, _, by rw [hlr], hbg, hg2, by rw [hlr]; exact hroom, hcm, ?_, ?_⟩⟩, hmid _ _ _ (Nat.le_refl _)⟩, below_setRow (below_setRow (below_drew hB) hbg _) hbg _, ?_⟩
      · simp [Value.ownBlock] at hk
        exact .inl (.inl (hk ▸ hP0 g rfl))
      · rw [List.size_toArray, length_splice _ _ _ (by rw [length_splice _ _ _ (by simp; omega)]; simp; omega), length_splice _ _ _ (by simp; omega)]
        exact hcl
      · rw [hlr, hk39]
        have e1 : (splice cur.toList ((i + 1) * 2) ((cur.toList.take (l0.length * 2)).drop (i * 2))).take (i * 2) = cur.toList.take (i * 2) := by
          rw [splice, List.take_append_of_le_length (by simp; omega), List.take_take, Nat.min_eq_left (by omega)]
        have e2 : ((splice cur.toList ((i + 1) * 2) ((cur.toList.take (l0.length * 2)).drop (i * 2))).drop (i * 2 + (curv.toList.take 2).length)).take ((l0.length - i) * 2) = (cur.toList.take (l0.length * 2)).drop (i * 2) := by
          rw [show i * 2 + (curv.toList.take 2).length = (i + 1) * 2 by simp; omega]
          rw [splice, List.drop_append_of_le_length (by simp; omega), List.drop_of_length_le (by simp; omega), List.nil_append, List.take_append_of_le_length (by simp; omega), List.take_of_length_le (by simp; omega)]
        show List.take _ (splice _ _ _) = _
        rw [splice, e1, ← List.append_assoc, List.take_append, List.take_of_length_le (by simp; omega)]
        congr 1
        rw [show (l0.length + 1) * 2 - (cur.toList.take (i * 2) ++ curv.toList.take 2).length = (l0.length - i) * 2 by simp; omega]
        exact e2
      · refine Kept.then_ (S := fun k_ => P0_ k_ ∨ P2_ k_) (Kept.refl w _) (S2 := fun k => k = g) ⟨by simp [World.setRow], fun k hk hn => ?_⟩ (fun k hk => .inl (.inl (hk ▸ hP0 g rfl)))
        rw [setRow_other _ _ _ _ hn, setRow_other _ _ _ _ hn]
        rfl
    · refine (ins_grow g l0.length cap i vb vc cur curv w hi hnc (by omega) (by omega) hvb hg hcs hv (by omega) h1c h1v).mono ?_
      rintro e w' ⟨G, R, rfl, hGn, hGm, hG, hRs, hRt, hbW⟩
      have hsz := hB.size
      refine ⟨_, rfl, ⟨fun k hk => ?_, _, ⟨hll.trans (by rw [hlr]; rfl), .inr ⟨w.heap.size, G, R, by rw [hlr], hsz, hG, by rw [hlr]; exact hGn, hGm, hRs, by rw [hlr]; exact hRt⟩⟩, hmid _ _ _ (Nat.le_refl _)⟩, below_then hB hsz hbW, Kept.of_below hbW _⟩
      simp [Value.ownBlock] at hk
      exact .inr (hk ▸ Nat.le_refl _)
end Go.Proofs.Ytakhjhiofmgpnaa.G
