/- Cells, plain laws: a copy of elements of any size; elements put into a row; a row that has been written twice. -/
import Derived.Test.YtakhjhiofmgpnaaProg
import Derived.Test.YtakhjhiofmgpnaaVMore
import Derived.Shelf.Spec.SlicesInsertGrow
import Derived.Laws.CopyOwn
import Derived.WalkSpells
import Derived.WalkLawsBesides
namespace Go.Proofs.Ytakhjhiofmgpnaa.G
open Go.RowKit Go.Proofs Go.Proofs.YtakhjhiofmgpnaaW.PrintWords Go.Proofs.YtakhjhiofmgpnaaW.PrintWords.Kd Go.Proofs.YtakhjhiofmgpnaaW.PrintLast Go.Proofs.YtakhjhiofmgpnaaW.PrintMore
set_option linter.unusedVariables false
set_option linter.unusedSimpArgs false

/-- 'copy' at elements of k cells. -/
theorem run_copy_k {P : Program} (w : World) (dT sT ty elem : TypeId) (g o dLen dCap : Nat) (a : Addr) (sLen sCap : Nat) (cur : Array Value) (t : TypeId) (cs : List Value) (k m : Nat)
    (hu : P.underlying dT = some (.slice elem)) (hs : (P.info? elem).map (·.size) = some k) (hm : m = Nat.min sLen dLen)
    (hg : w.heap[g]? = some (.cells cur t (0, 0))) (hn : cs.length = m * k)
    (hsrc : ∀ j v, cs[j]? = some v → w.cell? (a.add j) = some v) (hfit : o + cs.length ≤ cur.size) (h1 : ∀ v ∈ cs, v.oneCell' = true) :
    (Builtin.copy_ #[dT, sT] ty #[.slice (some ⟨g, o, none⟩) dLen dCap, .slice (some a) sLen sCap]).run P w =
      .ok (goInt m) (w.setRow g (splice cur.toList o cs).toArray) := by
  have hl := run_loadCells_list (P := P) w a cs hsrc
  have hst := run_storeCells_at P g o t cs 0 cur w hg (by simpa using hfit) h1
  rw [hn] at hl
  cases hq : P.info? elem with
  | none => simp [hq] at hs
  | some i =>
    have hi : i.size = k := by simpa [hq] using hs
    simp [Builtin.copy_, run_underlying hu, Builtin.lenOf, Builtin.firstCells, sizeOf, typeInfo, hq, hi, ← hm, hl, hst, splice]

theorem flat_M {α : Type} {d : Kd α} (hE : d.E = []) {w w1 : World} {b b1 : Nat} {ok ok1 : Nat → Prop} {x : α} {cs : List Value} (h : d.M w b ok x cs) (hb : b1 ≤ b) : d.M w1 b1 ok1 x cs := by
  have h1 : d.M w b (fun _ => False) x cs := d.M_mono (fun k hk => by
    obtain ⟨_, _, _, q, hq, _⟩ := hk
    rw [hE] at hq
    cases hq) (d.M_bound h)
  have h2 : d.M w1 b (fun _ => False) x cs := d.M_move (fun k hk => hk.elim) h1
  exact d.M_lower hb (d.M_mono (fun k hk => hk.elim) h2)

theorem reps_mid {α : Type} {R : α → List Value → Prop} {sz : Nat} {ps qs : List α} {cs ds : List Value} (h : Reps R sz ps cs) (h' : Reps R sz qs ds) (i : Nat) (hi : i ≤ ps.length) :
    Reps R sz (ps.take i ++ qs ++ ps.drop i) (cs.take (i * sz) ++ ds ++ cs.drop (i * sz)) :=
  reps_append (reps_append (reps_take h hi) h') (reps_drop h)

theorem info39 : (Try.prog.info? 39).map (fun i => (i.zero, i.size, i.bytes)) = some (some (.agg #[(.int .i64 0), (.int .i64 0)]), 2, 16) := by kernel_rfl

set_option maxHeartbeats 4000000 in
set_option maxRecDepth 100000 in
/-- slices.Insert of one element: THERE IS ROOM, i < len(s): in place. -/
theorem ins_shift (g n c i vb vc : Nat) (cur curv : Array Value) (w : World) (hi : i < n) (hroom : n + 1 ≤ c) (hc63 : c ≤ 9223372036854775807) (hvb : vb ≠ g)
    (hg : w.heap[g]? = some (.cells cur 39 (0, 0))) (hsz : cur.size = c * 2) (hv : w.heap[vb]? = some (.cells curv 39 (0, 0))) (hvz : 2 ≤ curv.size)
    (h1c : ∀ v ∈ cur.toList.take (n * 2), v.oneCell' = true) (h1v : ∀ v ∈ curv.toList.take 2, v.oneCell' = true) (R1 R2 : List Value)
    (hR1 : R1 = splice cur.toList ((i + 1) * 2) ((cur.toList.take (n * 2)).drop (i * 2))) (hR2 : R2 = splice R1 (i * 2) (curv.toList.take 2)) :
    Calls Try.prog 39 #[.slice (some ⟨g, 0, none⟩) n c, .int .i64 i, .slice (some ⟨vb, 0, none⟩) 1 vc] w fun e w' =>
      e = .returned (.slice (some ⟨g, 0, none⟩) (n + 1) c) ∧ w' = (w.drew.setRow g R1.toArray).setRow g R2.toArray := by
  have u23 := Try.underlying23
  obtain ⟨i39, hq39, hs39⟩ : ∃ i, Try.prog.info? 39 = some i ∧ i.size = 2 := by
    have := info39
    cases hq : Try.prog.info? 39 with
    | none => simp [hq] at this
    | some x => exact ⟨x, rfl, by simp [hq] at this; exact this.2.1⟩
  have hsz39 : (Try.prog.info? 39).map (·.size) = some 2 := by kernel_rfl
  have hz2 : ¬ ((i : Int) = (n : Int)) := by omega
  have hov : ∀ lb cb, (callFunc 49 #[.slice (some ⟨vb, 0, none⟩) 1 vc, .slice (some ⟨g, (i + 1) * 2, none⟩) lb cb]).run Try.prog w = .ok (.value (.bool false)) w := fun lb cb => by
    rw [run_callFunc_extern Try.func49 (by kernel_rfl) (by kernel_rfl) (by kernel_rfl) (e := Extern.SlicesOverlaps.overlaps #[23, 23] #[4]) (by kernel_rfl),
      Lib.run_overlaps_apart w 23 4 39 u23 2 (fun w => by simp [sizeOf, typeInfo, hq39, hs39]) ⟨vb, 0, none⟩ ⟨g, (i + 1) * 2, none⟩ 1 vc lb cb hvb 39 39 curv.size cur.size (by simp [World.shape?, hv]) (by simp [World.shape?, hg]) (by omega) (by simp [World.frozen?, hv]) (by simp [World.frozen?, hv])]
    rfl
  have mixed : Try.prog.follows Departure.mixedOrders = true := by kernel_rfl
  have hw1 : IntKind.i64.wrap ((i : Int) + 1) = (i : Int) + 1 := by rw [IntKind.wrap_i64]; omega
  have hb1 : (0 : Int) ≤ (i : Int) + 1 := by omega
  have hin : i ≤ n := by omega
  have htn : ((i : Int) + 1).toNat = i + 1 := by omega
  have hb2 : ¬ (c = i + 1) := by omega
  have hb3 : (i : Int) ≤ (n : Int) + 1 := by omega
  have hb4 : ¬ (c = i) := by omega
  have hc0 : cur.toList.length = c * 2 := by simpa using hsz
  have hcell : ∀ j, w.cell? ⟨g, j, none⟩ = cur[j]? := fun j => cell_of_row w g j cur 39 (0, 0) hg
  have hcp1 : ∀ ty dc sc, (Builtin.copy_ #[23, 23] ty #[.slice (some ⟨g, (i + 1) * 2, none⟩) (n - i) dc, .slice (some ⟨g, i * 2, none⟩) (n + 1 - i) sc]).run Try.prog w.drew = .ok (goInt ((n - i : Nat) : Int)) (w.drew.setRow g R1.toArray) := fun ty dc sc => by
    rw [hR1]
    exact run_copy_k w.drew _ _ ty 39 g ((i + 1) * 2) (n - i) dc ⟨g, i * 2, none⟩ (n + 1 - i) sc cur 39 _ 2 (n - i) u23 hsz39 (by simp only [Nat.min_def]; split <;> omega) hg (by simp; omega)
      (fun j v hj => by
        rw [Addr.add_lit]
        show w.cell? _ = _
        rw [hcell, ← hj, List.getElem?_drop, List.getElem?_take]
        have hl : j < (List.drop (i * 2) (List.take (n * 2) cur.toList)).length := (List.getElem?_eq_some_iff.1 hj).1
        have : i * 2 + j < n * 2 := by simp at hl; omega
        simp [this])
      (by simp; omega) (fun v hv => h1c v (List.mem_of_mem_drop hv))
  have hl1 : R1.length = c * 2 := by rw [hR1, length_splice _ _ _ (by simp; omega)]; simpa using hsz
  have hcp2 : ∀ ty dc, (Builtin.copy_ #[23, 23] ty #[.slice (some ⟨g, i * 2, none⟩) (n + 1 - i) dc, .slice (some ⟨vb, 0, none⟩) 1 vc]).run Try.prog (w.drew.setRow g R1.toArray) = .ok (goInt ((1 : Nat) : Int)) ((w.drew.setRow g R1.toArray).setRow g R2.toArray) := fun ty dc => by
    rw [hR2]
    exact run_copy_k (w.drew.setRow g R1.toArray) _ _ ty 39 g (i * 2) (n + 1 - i) dc ⟨vb, 0, none⟩ 1 vc R1.toArray 39 _ 2 1 u23 hsz39 (by simp only [Nat.min_def]; split <;> omega) (setRow_heap w.drew g cur _ 39 _ hg) (by simp; omega)
      (fun j v hj => by
        rw [Addr.add_lit, Nat.zero_add]
        rw [World.cell?_of_block (setRow_other w.drew g vb _ hvb)]
        show w.cell? _ = _
        rw [cell_of_row w vb j curv 39 (0, 0) hv, ← hj, List.getElem?_take]
        have hl : j < (List.take 2 curv.toList).length := (List.getElem?_eq_some_iff.1 hj).1
        have : j < 2 := by simp at hl; omega
        simp [this])
      (by simp; omega) h1v
  clear hR1 hR2
  go_enter Try.func39, Try.ntmps39
  go_wp2
  go_region_law_o (refine step_copy_runI rfl _ _ 23 23 rfl _ _ (by simp [Act.eval, Act.put]) (by simp [Act.eval, Act.put]) (hcp1 _ _ _) ?_)
  go_wp2_with (at_builtin; refine wpList_copy_runI _ rfl _ _ 23 23 rfl _ _ rfl rfl (hcp2 _ _) ?_)
  go_ret
  exact ⟨rfl, rfl⟩

theorem size_zero39 (k : Nat) : (Builtin.zeroCells (Value.agg #[.int .i64 0, .int .i64 0]).cells k).size = k * 2 := by rw [size_zeroCells]; rfl

set_option maxHeartbeats 4000000 in
set_option maxRecDepth 100000 in
/-- slices.Insert of one element: NO ROOM, i < len(s): a new row. -/
theorem ins_grow (g n c i vb vc : Nat) (cur curv : Array Value) (w : World) (hi : i < n) (hnc : n ≤ c) (hroom : c < n + 1) (hbig : (n + 1) * 16 ≤ 140737488355328) (hvb : vb ≠ g)
    (hg : w.heap[g]? = some (.cells cur 39 (0, 0))) (hsz : cur.size = c * 2) (hv : w.heap[vb]? = some (.cells curv 39 (0, 0))) (hvz : 2 ≤ curv.size)
    (h1c : ∀ v ∈ cur.toList.take (n * 2), v.oneCell' = true) (h1v : ∀ v ∈ curv.toList.take 2, v.oneCell' = true) :
    Calls Try.prog 39 #[.slice (some ⟨g, 0, none⟩) n c, .int .i64 i, .slice (some ⟨vb, 0, none⟩) 1 vc] w fun e w' =>
      ∃ G R, e = .returned (.slice (some ⟨w.heap.size, 0, none⟩) (n + 1) G) ∧ n + 1 ≤ G ∧ G ≤ maxLen ∧ w'.heap[w.heap.size]? = some (.cells R 39 (0, 0)) ∧ R.size = G * 2 ∧
        R.toList.take ((n + 1) * 2) = cur.toList.take (i * 2) ++ curv.toList.take 2 ++ (cur.toList.take (n * 2)).drop (i * 2) ∧ Below w.heap.size w w' := by
  have u23 := Try.underlying23
  have u3 := Try.underlying3
  obtain ⟨i39, hq39, hz39, hs39, hb39⟩ : ∃ i, Try.prog.info? 39 = some i ∧ i.zero = some (.agg #[.int .i64 0, .int .i64 0]) ∧ i.size = 2 ∧ i.bytes = 16 := by
    have := info39
    cases hq : Try.prog.info? 39 with
    | none => simp [hq] at this
    | some x => exact ⟨x, rfl, by simp [hq] at this; exact this⟩
  have hsz39 : (Try.prog.info? 39).map (·.size) = some 2 := by kernel_rfl
  have mixed : Try.prog.follows Departure.mixedOrders = true := by kernel_rfl
  have hz2 : ¬ ((i : Int) = (n : Int)) := by omega
  have hz3 : (c : Int) < (n : Int) + 1 := by omega
  have hgw : g < w.heap.size := (Array.getElem?_eq_some_iff.1 hg).1
  have hvw : vb < w.heap.size := (Array.getElem?_eq_some_iff.1 hv).1
  have hc0 : cur.toList.length = c * 2 := by simpa using hsz
  have hcell : ∀ j, w.cell? ⟨g, j, none⟩ = cur[j]? := fun j => cell_of_row w g j cur 39 (0, 0) hg
  have hkk : (n : Int) + 1 - (i : Int) = ((n + 1 - i : Nat) : Int) := by omega
  have hik : i + (n + 1 - i) = n + 1 := by omega
  have hold : (Builtin.firstCells i39.size i (.slice (some ⟨g, 0, none⟩) i c)).run Try.prog w.drew = .ok (cur.toList.take (i * 2)).toArray w.drew := by
    rw [hs39]
    exact run_firstCells_some w.drew 2 i ⟨g, 0, none⟩ i c (cur.toList.take (i * 2)) (by rw [List.length_take]; omega) (fun j v hj => by
      rw [Addr.add_lit, Nat.zero_add]
      show w.cell? _ = _
      rw [hcell, ← hj, List.getElem?_take]
      have hl : j < (List.take (i * 2) cur.toList).length := (List.getElem?_eq_some_iff.1 hj).1
      have : j < i * 2 := by simp at hl; omega
      simp [this])
  have hrz : ∀ ty, (Builtin.append_ #[23, 3] ty #[.slice (some ⟨g, 0, none⟩) i c, .int .i64 ((n : Int) + 1 - (i : Int))]).run Try.prog w =
      .ok (.slice (some ⟨w.heap.size, 0, none⟩) (n + 1) (grownCap w (n + 1) c 39)) (w.drew.alloc (.cells ((cur.toList.take (i * 2)).toArray ++ Builtin.zeroCells (Value.agg #[.int .i64 0, .int .i64 0]).cells (n + 1 - i) ++ Builtin.zeroCells (Value.agg #[.int .i64 0, .int .i64 0]).cells (grownCap w (n + 1) c 39 - (n + 1))) 39)) := fun ty => by
    have h := Lib.run_append_grow_zeros w 23 3 ty 39 i39 _ .i64 .i64 u23 u3 hq39 hz39 (some ⟨g, 0, none⟩) i c (cur.toList.take (i * 2)) hold (n + 1 - i) (by omega) (by omega) (by omega) (by omega) (by rw [hb39]; omega) (by rw [hb39, hik]; exact growslice_fits hroom hbig)
    rw [hik] at h
    rw [hkk]
    exact h
  have hGn : n + 1 ≤ grownCap w (n + 1) c 39 := grownCap_ge w _ _ _
  have hG63 : grownCap w (n + 1) c 39 ≤ maxLen := grownCap_le_maxLen w (n + 1) c 39 (by unfold maxLen; omega)
  revert hGn hG63 hrz
  generalize grownCap w (n + 1) c 39 = G
  intro hrz hGn hG63
  obtain ⟨ROW, hROW⟩ : ∃ ROW : Array Value, ROW = (cur.toList.take (i * 2)).toArray ++ Builtin.zeroCells (Value.agg #[.int .i64 0, .int .i64 0]).cells (n + 1 - i) ++ Builtin.zeroCells (Value.agg #[.int .i64 0, .int .i64 0]).cells (G - (n + 1)) := ⟨_, rfl⟩
  rw [← hROW] at hrz
  have hRl : ROW.size = G * 2 := by
    rw [hROW, Array.size_append, Array.size_append, size_zero39, size_zero39]
    simp
    omega
  have hRt : ROW.toList.take (i * 2) = cur.toList.take (i * 2) := by
    rw [hROW]
    simp only [Array.toList_append, List.append_assoc]
    rw [List.take_append_of_le_length (by simp; omega), List.take_take, Nat.min_self]
  obtain ⟨R1, hR1⟩ : ∃ R1, R1 = splice ROW.toList (i * 2) (curv.toList.take 2) := ⟨_, rfl⟩
  obtain ⟨R2, hR2⟩ : ∃ R2, R2 = splice R1 ((i + 1) * 2) ((cur.toList.take (n * 2)).drop (i * 2)) := ⟨_, rfl⟩
  have hl1 : R1.length = G * 2 := by rw [hR1, length_splice _ _ _ (by simp; omega)]; simpa using hRl
  have hl2 : R2.length = G * 2 := by rw [hR2, length_splice _ _ _ (by simp; omega)]; exact hl1
  have hR2t : R2.take ((n + 1) * 2) = cur.toList.take (i * 2) ++ curv.toList.take 2 ++ (cur.toList.take (n * 2)).drop (i * 2) := by
    have e1 : R1.take ((i + 1) * 2) = cur.toList.take (i * 2) ++ curv.toList.take 2 := by
      rw [hR1, splice, hRt, ← List.append_assoc, List.take_append_of_le_length (by simp; omega), List.take_of_length_le (by simp; omega)]
    rw [hR2, splice, e1, ← List.append_assoc, List.take_append_of_le_length (by simp; omega), List.take_of_length_le (by simp; omega)]
  have hcpA : ∀ (W : World), W.heap = (w.alloc (.cells ROW 39)).heap → ∀ ty dc, (Builtin.copy_ #[23, 23] ty #[.slice (some ⟨w.heap.size, i * 2, none⟩) (n + 1 - i) dc, .slice (some ⟨vb, 0, none⟩) 1 vc]).run Try.prog W = .ok (goInt ((1 : Nat) : Int)) (W.setRow w.heap.size R1.toArray) := fun W hW ty dc => by
    rw [hR1]
    exact run_copy_k W _ _ ty 39 w.heap.size (i * 2) (n + 1 - i) dc ⟨vb, 0, none⟩ 1 vc ROW 39 _ 2 1 u23 hsz39 (by simp only [Nat.min_def]; split <;> omega) (by rw [hW]; exact heap_alloc_new w _) (by simp; omega)
      (fun j v hj => by
        rw [Addr.add_lit, Nat.zero_add]
        rw [cell_of_row W vb j curv 39 (0, 0) (by rw [hW]; exact (heap_alloc_old w _ hvw).trans hv), ← hj, List.getElem?_take]
        have hl : j < (List.take 2 curv.toList).length := (List.getElem?_eq_some_iff.1 hj).1
        have : j < 2 := by simp at hl; omega
        simp [this])
      (by simp; omega) h1v
  have hcpB : ∀ (W : World), W.heap = ((w.alloc (.cells ROW 39)).setRow w.heap.size R1.toArray).heap → ∀ ty dc sc, (Builtin.copy_ #[23, 23] ty #[.slice (some ⟨w.heap.size, (i + 1) * 2, none⟩) (n - i) dc, .slice (some ⟨g, i * 2, none⟩) (n - i) sc]).run Try.prog W = .ok (goInt ((n - i : Nat) : Int)) (W.setRow w.heap.size R2.toArray) := fun W hW ty dc sc => by
    rw [hR2]
    refine run_copy_k W _ _ ty 39 w.heap.size ((i + 1) * 2) (n - i) dc ⟨g, i * 2, none⟩ (n - i) sc R1.toArray 39 _ 2 (n - i) u23 hsz39 (by simp only [Nat.min_def]; split <;> omega) (by rw [hW]; exact setRow_heap _ _ ROW _ 39 _ (heap_alloc_new w _)) (by simp; omega)
      (fun j v hj => ?_) (by simp; omega) (fun v hv => h1c v (List.mem_of_mem_drop hv))
    rw [Addr.add_lit]
    rw [cell_of_row W g _ cur 39 (0, 0) (by rw [hW, setRow_other _ _ _ _ (by omega)]; exact (heap_alloc_old w _ hgw).trans hg), ← hj, List.getElem?_drop, List.getElem?_take]
    have hl : j < (List.drop (i * 2) (List.take (n * 2) cur.toList)).length := (List.getElem?_eq_some_iff.1 hj).1
    have : i * 2 + j < n * 2 := by simp at hl; omega
    simp [this]
  have hGi : ¬ (G = i) := by omega
  have hGim : ¬ (G = i + 1) := by omega
  have hci : ¬ (c = i) := by omega
  have hw1 : IntKind.i64.wrap ((i : Int) + 1) = (i : Int) + 1 := by rw [IntKind.wrap_i64]; omega
  have hb1 : (0 : Int) ≤ (i : Int) + 1 := by omega
  have hin : i ≤ n := by omega
  have htn : ((i : Int) + 1).toNat = i + 1 := by omega
  have hb3 : (i : Int) ≤ (n : Int) := by omega
  have hcpA1 := hcpA ((w.alloc (.cells ROW 39)).drew) rfl
  have hcpB1 := hcpB (((w.alloc (.cells ROW 39)).drew.setRow w.heap.size R1.toArray).drew) rfl
  clear hcpA hcpB
  clear hkk hik hold hR1 hR2 hROW hRt
  go_enter Try.func39, Try.ntmps39
  go_wp2_with (at_builtin; refine Lib.wpList_append_run _ rfl _ _ _ _ rfl _ _ rfl rfl _ _ (hrz _) ?_)
  go_region_law_o (refine step_copy_runI rfl _ _ 23 23 rfl _ _ (by simp [Act.eval, Act.put]) (by simp [Act.eval, Act.put]) (hcpB1 _ _ _) ?_)
  go_wp2
  go_ret
  refine ⟨G, R2.toArray, rfl, hGn, hG63, setRow_heap _ _ R1.toArray _ 39 _ (setRow_heap _ _ ROW _ 39 _ (heap_alloc_new w _)), by simpa using hl2, by simpa using hR2t, ?_⟩
  exact below_setRow (below_drew (below_setRow (below_drew (below_alloc (Below.refl _ _) _)) (Nat.le_refl _) _)) (Nat.le_refl _) _
end Go.Proofs.Ytakhjhiofmgpnaa.G
