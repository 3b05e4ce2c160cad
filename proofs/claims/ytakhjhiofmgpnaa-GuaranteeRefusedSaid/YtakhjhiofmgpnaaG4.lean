/- The contract by hand of slices.Delete at reservations (one element is taken out of a row of the call's own). -/
import Derived.Test.YtakhjhiofmgpnaaG3
namespace Go.Proofs.Ytakhjhiofmgpnaa.G
open Go.RowKit Go.Proofs Go.Proofs.YtakhjhiofmgpnaaW.PrintWords Go.Proofs.YtakhjhiofmgpnaaW.PrintWords.Kd Go.Proofs.YtakhjhiofmgpnaaW.PrintLast Go.Proofs.YtakhjhiofmgpnaaW.PrintMore Go.Proofs.Ytakhjhiofmgpnaa.PA
set_option linter.unusedVariables false
set_option linter.unusedSimpArgs false

/-- 'clear' at one element of k cells. -/
theorem run_clear_one {P : Program} (w : World) (t e ty : TypeId) (z : Value) (ht : P.underlying t = some (.slice e)) (hv : ∀ w, (zeroValue e).run P w = .ok z w) (h1 : ∀ v ∈ (Builtin.zeroCells z.cells 1).toList, v.oneCell' = true) (g o c : Nat) (cur : Array Value) (t' : TypeId)
    (hg : w.heap[g]? = some (.cells cur t' (0, 0))) (hfit : o + (Builtin.zeroCells z.cells 1).size ≤ cur.size) :
    (Builtin.clear_ #[t] ty #[.slice (some ⟨g, o, none⟩) 1 c]).run P w = .ok (.tuple #[]) (w.setRow g (splice cur.toList o (Builtin.zeroCells z.cells 1).toList).toArray) := by
  have hst := run_storeCells_at P g o t' (Builtin.zeroCells z.cells 1).toList 0 cur w hg (by simpa using hfit) h1
  simp only [Nat.add_zero] at hst
  simp [Builtin.clear_, run_underlying ht, hv, hst, splice]

theorem step_append_runI {P : Program} {ops : Array Oper} {o : Oper} {a : Act} {w : World} {K : Act → World → Prop} {Q : Exit → Act → World → Prop} {E : Prop}
    (hg : o.guard = none) (d x : Operand) (dT sT : TypeId) (hop : o.op = Op.call { callee := Callee.builtin Builtin.append, args := #[d, x], argTypes := #[dT, sT] })
    (v u : Value) (hd : a.eval d = v) (hx : a.eval x = u) {v' : Value} {w' : World} (hr : (Builtin.append_ #[dT, sT] o.type #[v, u]).run P w = .ok v' w') (hK : K (a.put o.dst v') w') :
    if Region.wanted o (yielded ops a.tmps) = true then Oper.wp P o a w K Q else E := by
  have hw : Region.wanted o (yielded ops a.tmps) = true := by simp [Region.wanted, hg]
  rw [if_pos hw]
  unfold Oper.wp
  simp [execOp, hop, resolve, invoke, builtin, hd, hx, hr, Result.andThen]
  exact hK

set_option maxHeartbeats 4000000 in
set_option maxRecDepth 100000 in
theorem del_one (g n c i : Nat) (cur : Array Value) (w : World) (hi : i < n) (hnc : n ≤ c) (hc63 : c ≤ 9223372036854775807)
    (hg : w.heap[g]? = some (.cells cur 39 (0, 0))) (hsz : cur.size = c * 2) (h1c : ∀ v ∈ cur.toList.take (n * 2), v.oneCell' = true) (R1 R2 : List Value)
    (hR1 : R1 = splice cur.toList (i * 2) ((cur.toList.take (n * 2)).drop ((i + 1) * 2))) (hR2 : R2 = splice R1 ((n - 1) * 2) [.int .i64 0, .int .i64 0]) :
    Calls Try.prog 40 #[.slice (some ⟨g, 0, none⟩) n c, .int .i64 i, .int .i64 ((i : Int) + 1)] w fun e w' =>
      e = .returned (.slice (some ⟨g, 0, none⟩) (n - 1) c) ∧ w' = (w.drew.setRow g R1.toArray).setRow g R2.toArray := by
  have u23 := Try.underlying23
  obtain ⟨i39, hq39, hz39, hs39, hb39⟩ : ∃ i, Try.prog.info? 39 = some i ∧ i.zero = some (.agg #[.int .i64 0, .int .i64 0]) ∧ i.size = 2 ∧ i.bytes = 16 := by
    have := G.info39
    cases hq : Try.prog.info? 39 with
    | none => simp [hq] at this
    | some x => exact ⟨x, rfl, by simp [hq] at this; exact this⟩
  have mixed : Try.prog.follows Departure.mixedOrders = true := by kernel_rfl
  have hc0 : cur.toList.length = c * 2 := by simpa using hsz
  have hl1 : R1.length = c * 2 := by rw [hR1, length_splice _ _ _ (by simp; omega)]; simpa using hsz
  have hz0 : ∀ w, (zeroValue 39).run Try.prog w = .ok (.agg #[.int .i64 0, .int .i64 0]) w := fun w => by simp [zeroValue, typeInfo, hq39, hz39]
  have hzc : (Builtin.zeroCells (Value.agg #[.int .i64 0, .int .i64 0]).cells 1).toList = [.int .i64 0, .int .i64 0] := by simp [Builtin.zeroCells, Value.cells, List.range, List.range.loop]
  have hap : ∀ ty (A : Addr) c', A = ⟨g, (i + 1) * 2, none⟩ ∨ n = i + 1 → (Builtin.append_ #[23, 23] ty #[.slice (some ⟨g, 0, none⟩) i c, .slice (some A) (n - (i + 1)) c']).run Try.prog w.drew = .ok (.slice (some ⟨g, 0, none⟩) (n - 1) c) (w.drew.setRow g R1.toArray) := fun ty A c' hA => by
    have h := run_append_room (P := Try.prog) w.drew 23 ty 39 i39 u23 hq39 g i c cur hg A (n - (i + 1)) c' ((cur.toList.take (n * 2)).drop ((i + 1) * 2)) (by rw [hs39]; simp; omega)
      (fun j v hj => by
        have hl : j < (List.drop ((i + 1) * 2) (List.take (n * 2) cur.toList)).length := (List.getElem?_eq_some_iff.1 hj).1
        have : (i + 1) * 2 + j < n * 2 := by simp at hl; omega
        rcases hA with rfl | e
        · rw [Addr.add_lit]
          show w.cell? _ = _
          rw [cell_of_row w g _ cur 39 (0, 0) hg, ← hj, List.getElem?_drop, List.getElem?_take]
          simp [this]
        · omega) (fun v hv => h1c v (List.mem_of_mem_drop hv)) (by omega) (by rw [hs39]; simp; omega)
    rw [h, hs39, hR1, splice, List.append_assoc, show i + (n - (i + 1)) = n - 1 by omega]
  have hclr : ∀ ty c', (Builtin.clear_ #[23] ty #[.slice (some ⟨g, (n - 1) * 2, none⟩) 1 c']).run Try.prog (w.drew.setRow g R1.toArray) = .ok (.tuple #[]) ((w.drew.setRow g R1.toArray).setRow g R2.toArray) := fun ty c' => by
    rw [hR2, ← hzc]
    exact run_clear_one (w.drew.setRow g R1.toArray) 23 39 ty _ u23 hz0 (by rw [hzc]; intro v hv; simp at hv; rw [hv]; rfl) g ((n - 1) * 2) c' R1.toArray 39 (setRow_heap w.drew g cur _ 39 _ hg) (by rw [← Array.length_toList, hzc]; simp; omega)
  have hb1 : (0 : Int) ≤ (i : Int) + 1 := by omega
  have hb2 : (i : Int) + 1 ≤ (n : Int) := by omega
  have hb3 : (n : Int) ≤ (c : Int) := by omega
  have hin : i ≤ n := by omega
  have htn : ((i : Int) + 1).toNat = i + 1 := by omega
  have hne : ¬ ((i : Int) = (i : Int) + 1) := by omega
  have hci : ¬ (c = i) := by omega
  have hn1 : ¬ (c = n - 1) := by omega
  have hnn : ((n - 1 : Nat) : Int) = (n : Int) - 1 := by omega
  have hnd : n - (n - 1) = 1 := by omega
  have hic : i ≤ c := by omega
  have hic' : (i : Int) ≤ (c : Int) := by omega
  by_cases hcc : c = i + 1
  · obtain rfl : n = i + 1 := by omega
    subst hcc
    have hsame : w.drew.setRow g R1.toArray = w.drew := by
      rw [show R1 = cur.toList by rw [hR1, splice, List.drop_of_length_le (by simp; omega)]; simp]
      exact setRow_self w.drew g cur 39 (0, 0) hg
    rw [hsame] at hclr ⊢
    have hclr1 : ∀ ty c', (Builtin.clear_ #[23] ty #[.slice (some ⟨g, i * 2, none⟩) 1 c']).run Try.prog w.drew = .ok (.tuple #[]) (w.drew.setRow g R2.toArray) := fun ty c' => by
      have := hclr ty c'
      rwa [show i + 1 - 1 = i by omega] at this
    rw [show i + 1 - 1 = i by omega]
    clear hap hclr hn1 hnn hnd hR1 hR2
    have hii : (i : Int) ≤ (i : Int) + 1 := by omega
    have hi3 : ¬ (i + 1 = i) := by omega
    go_enter Try.func40, Try.ntmps40
    go_wp2
    go_region
    go_wp2
    go_ret
    exact ⟨rfl, rfl⟩
  · have hap1 := fun ty c' => hap ty _ c' (.inl rfl)
    clear hap hR1 hR2
    have hcj : ¬ (c = i + 1) := hcc
    go_enter Try.func40, Try.ntmps40
    go_wp2
    go_region_law_o (refine step_append_runI rfl _ _ 23 23 rfl _ _ rfl rfl (hap1 _ _) ?_)
    go_wp2
    go_ret
    exact ⟨rfl, rfl⟩

/-- One element, taken out. -/
def slices_Delete.f {α : Type} (l : List α) (i j : Int) : Option (List α) :=
  if 0 ≤ i ∧ i < (l.length : Int) ∧ j = i + 1 ∧ l.length < 8796093022206 then some (l.take i.toNat ++ l.drop (i.toNat + 1)) else none

set_option maxHeartbeats 1000000 in
theorem slices_Delete.calls (P0_ : Nat → Prop) (u0 : Value) (l0 : List S39) (a1 a2 : Int) (r : List S39) (w0 w : World) (hB : Below w0.heap.size w0 w)
    (ho0 : Kd.R k39 39 w w0.heap.size P0_ u0 l0) (h : slices_Delete.f l0 a1 a2 = some r) :
    Calls Try.prog 40 #[u0, .int .i64 a1, .int .i64 a2] w fun e w' => ∃ v0_ : Value, e = .returned (v0_) ∧ Kd.R k39 39 w' w0.heap.size (fun k_ => (P0_ k_ ∨ w.heap.size ≤ k_)) v0_ r ∧ Below w0.heap.size w0 w' ∧ Kept w w' (fun k_ => P0_ k_) := by
  unfold slices_Delete.f at h
  by_cases hc : 0 ≤ a1 ∧ a1 < (l0.length : Int) ∧ a2 = a1 + 1 ∧ l0.length < 8796093022206
  case neg => rw [if_neg hc] at h; cases h
  rw [if_pos hc] at h
  obtain rfl := Option.some.inj h
  clear h
  obtain ⟨hi0, hin, rfl, hlim⟩ := hc
  obtain ⟨i, rfl⟩ : ∃ i : Nat, a1 = (i : Int) := ⟨a1.toNat, by omega⟩
  have hi : i < l0.length := by omega
  rw [Int.toNat_natCast]
  clear hi0
  obtain ⟨hP0, in0, ow0, rp0⟩ := ho0
  rcases ow0 with ⟨hl0, ⟨rfl, hn⟩ | ⟨g, cap, cur, rfl, hbg, hg, hnc, hcm, hcs, ht0⟩⟩
  · omega
  have hk39 : k39.sz = 2 := rfl
  replace hl0 : in0.length = l0.length * 2 := hl0
  replace hcs : cur.size = cap * 2 := hcs
  replace ht0 : cur.toList.take (l0.length * 2) = in0 := ht0
  have hcl : cur.toList.length = cap * 2 := by simpa using hcs
  have h1c : ∀ v ∈ cur.toList.take (l0.length * 2), v.oneCell' = true := by rw [ht0]; exact reps39_one rp0
  have hlr : (l0.take i ++ l0.drop (i + 1)).length = l0.length - 1 := by simp; omega
  refine (del_one g l0.length cap i cur w hi hnc (by unfold maxLen at hcm; omega) hg hcs h1c _ _ rfl rfl).mono ?_
  rintro e w' ⟨rfl, rfl⟩
  have hg1 := setRow_heap w.drew g cur (splice cur.toList (i * 2) ((cur.toList.take (l0.length * 2)).drop ((i + 1) * 2))).toArray 39 (0, 0) hg
  have hg2 := setRow_heap _ g _ (splice (splice cur.toList (i * 2) ((cur.toList.take (l0.length * 2)).drop ((i + 1) * 2))) ((l0.length - 1) * 2) [.int .i64 0, .int .i64 0]).toArray 39 (0, 0) hg1
  have hls : (splice cur.toList (i * 2) ((cur.toList.take (l0.length * 2)).drop ((i + 1) * 2))).length = cap * 2 := by rw [length_splice _ _ _ (by simp; omega)]; exact hcl
  have hin2 : cur.toList.take (i * 2) = in0.take (i * 2) := by rw [← ht0, List.take_take, Nat.min_eq_left (by omega)]
  refine ⟨_, rfl, ⟨fun k hk => ?_, in0.take (i * 2) ++ in0.drop ((i + 1) * 2), ⟨by rw [hlr, hk39]; simp; omega, .inr ⟨g, cap, _, by rw [hlr], hbg, hg2, by rw [hlr]; omega, hcm, ?_, ?_⟩⟩, ?_⟩, below_setRow (below_setRow (below_drew hB) hbg _) hbg _, ?_⟩
  · simp [Value.ownBlock] at hk
    exact .inl (hk ▸ hP0 g rfl)
  · rw [List.size_toArray, length_splice _ _ _ (by rw [hls]; simp; omega)]
    exact hls
  · rw [hlr, hk39]
    show List.take _ (splice _ _ _) = _
    rw [splice, List.take_append_of_le_length (by rw [List.length_take, hls]; omega), List.take_take, Nat.min_self, splice, hin2, ht0, ← List.append_assoc, List.take_append_of_le_length (by simp; omega), List.take_of_length_le (by simp; omega)]
  · exact reps_append (reps_take (rp0.imp_ (fun x cs h => flat_M (d := k39) rfl h (Nat.le_refl _))) (by omega)) (reps_drop (rp0.imp_ (fun x cs h => flat_M (d := k39) rfl h (Nat.le_refl _))))
  · refine Kept.then_ (S := fun k_ => P0_ k_) (Kept.refl w _) (S2 := fun k => k = g) ⟨by simp [World.setRow], fun k hk hn => ?_⟩ (fun k hk => .inl (hk ▸ hP0 g rfl))
    rw [setRow_other _ _ _ _ hn, setRow_other _ _ _ _ hn]
    rfl
end Go.Proofs.Ytakhjhiofmgpnaa.G
