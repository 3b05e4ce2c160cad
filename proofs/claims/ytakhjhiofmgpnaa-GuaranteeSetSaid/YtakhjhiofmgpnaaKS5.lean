/- Part 5 of the proof of guaranteeSet_holds: texts of this claim, printed and by hand, cut to what it needs (wip/tools/link.py). Lean checks every line. -/
import Derived.Test.YtakhjhiofmgpnaaKS4
-- Written by a program of this claim (wip/tools: mkprint.py, pr.sh) out of the translation: plain functions and their contracts. Lean checks every line.
namespace Go.Proofs.Ytakhjhiofmgpnaa.PA
open Go.RowKit Go.Proofs.YtakhjhiofmgpnaaW.PrintWords Go.Proofs.YtakhjhiofmgpnaaW.PrintLast Go.Proofs.YtakhjhiofmgpnaaW.PrintMore Go.Proofs.Ytakhjhiofmgpnaa.G
attribute [local go_sem] max2_int min2_int max_two min_two max_three min_three max_four min_four   -- for this text's walks alone
set_option linter.unusedVariables false
set_option linter.unusedSimpArgs false
def customsref21_Insert.l0 : Nat → List (S39) → Int → Int → Int → Option ((List (S39)))
 | 0, _, _, _, _ => none
 | k + 1, x0, x5, x213000, x213001 => if x5 < (x0.length : Int) then (if 0 ≤ x5 then (if ((rd_T39 x0 x5).f0) < x213000 then (customsref21_Insert.l0 k x0 (wrap64 (x5 + 1)) x213000 x213001) else ((some (([] : List (S39)) : List (S39))).bind fun y214 => (if x5 ≤ (x0.length : Int) then ((some (x0.take (x5 : Int).toNat : List (S39))).bind fun y217 => (if y214.length + y217.length < 8796093022208 then ((some (y214 ++ y217 : List (S39))).bind fun y221 => ((some (([(⟨x213000, x213001⟩ : S39)] : List (S39)) : List (S39))).bind fun y224 => (if y221.length + y224.length < 8796093022208 then ((some (y221 ++ y224 : List (S39))).bind fun y227 => ((some (x0.drop (x5 : Int).toNat : List (S39))).bind fun y230 => (if y227.length + y230.length < 8796093022208 then (some (y227 ++ y230)) else (none)))) else (none)))) else (none))) else (none)))) else (none)) else ((some (([] : List (S39)) : List (S39))).bind fun y237 => (if 0 ≤ x5 then (if x5 ≤ (x0.length : Int) then ((some (x0.take (x5 : Int).toNat : List (S39))).bind fun y240 => (if y237.length + y240.length < 8796093022208 then ((some (y237 ++ y240 : List (S39))).bind fun y244 => ((some (([(⟨x213000, x213001⟩ : S39)] : List (S39)) : List (S39))).bind fun y247 => (if y244.length + y247.length < 8796093022208 then ((some (y244 ++ y247 : List (S39))).bind fun y250 => ((some (x0.drop (x5 : Int).toNat : List (S39))).bind fun y253 => (if y250.length + y253.length < 8796093022208 then (some (y250 ++ y253)) else (none)))) else (none)))) else (none))) else (none)) else (none)))
def customsref21_Insert.f (k : Nat) (l0 : List (S39)) (a1_0 : Int) (a1_1 : Int) : Option ((List (S39))) := customsref21_Insert.l0 k l0 0 a1_0 a1_1
def customsref21_Insert.T2 : Bool × List (List Nat × List Nat) := (true, [([], []), ([], []), ([1], [1]), ([0, 2], [0, 2]), ([3], [3]), ([4], [4]), ([4], [4]), ([5, 6, 4], [4, 5, 6]), ([7, 4], [4, 7]), ([8, 4], [4, 8]), ([4], [4]), ([10, 4], [4, 10]), ([9, 11, 4], [4, 9, 11]), ([4, 12], [4, 12])])
def customsref21_Insert.B2 : List Nat := [0, 0, 2, 7, 15, 31, 31, 127, 255, 511, 31, 1055, 4095, 8191]
theorem customsref21_Insert.tab2 : rtab .any (opsOf Try.f43 2) = customsref21_Insert.T2 := by kernel_rfl
theorem customsref21_Insert.bits2 : waitsOk customsref21_Insert.T2.2 customsref21_Insert.B2 = true := by kernel_rfl
def customsref21_Insert.T4 : Bool × List (List Nat × List Nat) := (true, [([], []), ([], []), ([], []), ([1, 2], [1, 2]), ([0, 3], [0, 3]), ([], []), ([5], [5]), ([4, 6, 4], [4, 6]), ([], []), ([], []), ([8, 9], [8, 9]), ([7, 10, 7], [7, 10]), ([11, 11, 0, 1, 2, 3, 4, 5, 6, 7, 8, 9, 10, 11], [11])])
def customsref21_Insert.B4 : List Nat := [0, 0, 0, 6, 15, 0, 32, 127, 0, 0, 768, 2047, 4095]
theorem customsref21_Insert.tab4 : rtab .any (opsOf Try.f43 4) = customsref21_Insert.T4 := by kernel_rfl
theorem customsref21_Insert.bits4 : waitsOk customsref21_Insert.T4.2 customsref21_Insert.B4 = true := by kernel_rfl
set_option maxHeartbeats 8000000 in
set_option maxRecDepth 100000 in
theorem customsref21_Insert.calls (k : Nat) (A0 : Option Addr) (c0 : Nat) (l0 : List (S39)) (a1_0 : Int) (a1_1 : Int) (r : List (S39)) (w : World) (hr0 : Kd.C k39 w A0 l0.length l0) (hc0 : l0.length ≤ c0) (h : customsref21_Insert.f k l0 a1_0 a1_1 = some r) :
  Calls Try.prog 43 #[.slice A0 l0.length c0, .agg #[.int .i64 a1_0, .int .i64 a1_1]] w fun e w' => ∃ v0_ : Value, e = .returned (v0_) ∧ Kd.R k39 39 w' w.heap.size (fun _ => True) v0_ r ∧ Below w.heap.size w w' := by
 have hu39 := Try.underlying39
 have HR0 := Aside0.mk hr0
 have HC0 := Aside0.mk hc0
 clear hr0 hc0
 have HB := Aside0.mk (Below.refl w.heap.size w)
 have H : (customsref21_Insert.l0 k l0 0 a1_0 a1_1) = some r := h
 clear h
 have H' := Aside0.mk H
 clear H
 go_enter Try.func43, Try.ntmps43
 go_wp2_with (first | ((with_reducible refine gate_dst (N := 3) rfl ?_); refine box_event ?hg (N := 3) ?hd (cs := #[.int .i64 a1_0, .int .i64 a1_1]) (t := 39) ?hr ?_; (case hd => rfl); (case hg => rfl); (case hr => first | (go_simp; done) | (go_simp; rfl)); intro gb212 hg w3 hbox hb; have qb_ := below_both (by repeat (first | (with_reducible first | exact HB.out | apply below_alloc | apply pw_below_drewN | apply below_drew1) | exact HB.out)) hb; have n0_ := Aside0.mk (qb_.1); have n1_ := Aside0.mk (hbox); have n3_ := Aside0.mk ((by rw [hg]; exact qb_.2 : w.heap.size ≤ gb212)); clear HB; have HB := n0_; have BK212 := n1_; have GE212 := n3_; clear qb_; clear n0_ n1_ n3_; clear hb hbox hg))
 go_loopg [5] k (fun kq v5 w' => ∃ (x5_1 : Int), v5 = .int .i64 x5_1 ∧ Aside0 (customsref21_Insert.l0 kq l0 x5_1 a1_0 a1_1 = some r) ∧ Aside0 (kq ≤ k) ∧ Aside0 (w'.heap[gb212]? = some (.cells #[.int .i64 a1_0, .int .i64 a1_1] 39 (0, 0))) ∧ Aside0 (Below w.heap.size w w'))
 case atStart => exact ⟨(0), (by first | rfl | (simp; done) | (simp [*]; done)), H', ⟨Nat.le_refl _⟩, ⟨by (with_reducible repeat (first | refine blk_drewN ?_ _ | refine blk_drew ?_ | refine blk_alloc ?_ _)); exact BK212.out⟩, ⟨by repeat (first | (with_reducible first | exact HB.out | apply below_alloc | apply pw_below_drewN | apply below_drew1 | refine below_set ?_ GE212.out) | exact HB.out)⟩⟩
 case round =>
  clear H'
  try clear p2
  obtain ⟨x5_1, rfl, HA, HK1, BK212, HB⟩ := hrel
  cases gk with
  | zero => exact absurd HA.out (by simp [customsref21_Insert.l0])
  | succ k1 =>
   have H := HA.out
   clear HA
   simp only [customsref21_Insert.l0] at H
   by_cases c4 : x5_1 < (l0.length : Int)
   ·rw [if_pos c4] at H
    have c4b0 : decide (x5_1 < (l0.length : Int)) = true := decide_eq_true c4
    clear c4
    by_cases c5 : 0 ≤ x5_1
    ·rw [if_pos c5] at H
     have c5b0 : decide (0 ≤ x5_1) = true := decide_eq_true c5
     clear c5
     by_cases c6 : ((rd_T39 l0 x5_1).f0) < a1_0
     ·rw [if_pos c6] at H
      have c6b0 : decide (((rd_T39 l0 x5_1).f0) < a1_0) = true := decide_eq_true c6
      clear c6
      have H' := Aside0.mk H
      clear H
      try go_wp2
      have n0_ := Aside0.mk (blk_drew BK212.out)
      have n1_ := Aside0.mk (below_drew1 HB.out)
      clear BK212
      clear HB
      have BK212 := n0_
      have HB := n1_
      clear n0_ n1_
      have p213 : 0 ≤ (x5_1 : Int) := of_decide_eq_true (by first | (with_reducible assumption) | assumption)
      have q213 : x5_1 < (l0.length : Int) := of_decide_eq_true (by first | (with_reducible assumption) | assumption)
      obtain ⟨ad213, e213, hx213_0, hx213_1⟩ := at_T39 HR0.out x5_1 p213 q213
      have hw213_1 := hx213_1
      have hw213_0 := hx213_0
      cases e213
      replace hx213_0 := (HB.out.cell (World.block_lt_of_cell? w _ hx213_0)).trans hx213_0
      replace hx213_1 := (HB.out.cell (World.block_lt_of_cell? w _ hx213_1)).trans hx213_1
      replace p213 := eq_true p213
      replace q213 := eq_true q213
      refine start_ (n := 14) (S := fun w' => w'.cell? ⟨gb212, 0, none⟩ = some (.int .i64 a1_0) ∧ w'.cell? ⟨gb212, 1, none⟩ = some (.int .i64 a1_1) ∧ w'.cell? (ad213.add ((x5_1).toNat * 2)) = some (.int .i64 ((rd_T39 l0 x5_1).f0)) ∧ w'.cell? ⟨(ad213.add ((x5_1).toNat * 2)).block, (ad213.add ((x5_1).toNat * 2)).off + 1, none⟩ = some (.int .i64 ((rd_T39 l0 x5_1).f1))) (ds := []) #[false, false, false, false, false, false, false, false, false, false, false, false, false, false] (by kernel_rfl) rfl rfl ⟨(blk_cell BK212.out 0).trans rfl, (blk_cell BK212.out 1).trans rfl, ((HB.out.cell (World.block_lt_of_cell? w _ hw213_0)).trans hw213_0), ((HB.out.cell (World.block_lt_of_cell? w _ hw213_1)).trans hw213_1)⟩ (fun hHeld => ?_); refine with_tabW customsref21_Insert.tab2 customsref21_Insert.bits2 (fun HT_ HW_ => ?_)
      generalize wr.drew = w7 at BK212 HB hx213_0 hx213_1 hHeld ⊢
      refine pure_ (i := 0) (N := some 6) (v := ?_) (a' := ?_) #[true, false, false, false, false, false, false, false, false, false, false, false, false, false] rfl rfl (any_of HT_.out (by kernel_rfl)) (fun _ _ _ h => h) (Or.inl ⟨by rfl, ?_⟩) ?_ ?_
      rotate_left
      ·intro w'
       go_simp
       with_reducible rfl
      rotate_left
      ·simp only [Act.put, List.setIfInBounds_toArray, List.set_cons_zero, List.set_cons_succ, i64_w, i32_w]
       rfl
      refine pure_ (i := 1) (N := some 7) (v := ?_) (a' := ?_) #[true, true, false, false, false, false, false, false, false, false, false, false, false, false] rfl rfl (any_of HT_.out (by kernel_rfl)) (fun _ _ _ h => h) (Or.inl ⟨by rfl, ?_⟩) ?_ ?_
      rotate_left
      ·intro w'
       go_simp
       with_reducible rfl
      rotate_left
      ·simp only [Act.put, List.setIfInBounds_toArray, List.set_cons_zero, List.set_cons_succ, i64_w, i32_w]
       rfl
      refine pure_ (i := 2) (N := some 8) (v := ?_) (a' := ?_) #[true, true, true, false, false, false, false, false, false, false, false, false, false, false] rfl rfl (any_of HT_.out (by kernel_rfl)) (fun _ _ _ h => h) (Or.inl ⟨by rfl, ?_⟩) ?_ ?_
      rotate_left
      ·intro w'
       go_simp
       with_reducible rfl
      rotate_left
      ·simp only [Act.put, List.setIfInBounds_toArray, List.set_cons_zero, List.set_cons_succ, i64_w, i32_w]
       rfl
      refine pure_ (i := 3) (N := some 9) (v := ?_) (a' := ?_) #[true, true, true, true, false, false, false, false, false, false, false, false, false, false] rfl rfl (any_of HT_.out (by kernel_rfl)) (fun _ _ _ h => h) (Or.inl ⟨by rfl, ?_⟩) ?_ ?_
      rotate_left
      ·intro w'
       go_simp
       with_reducible rfl
      rotate_left
      ·simp only [Act.put, List.setIfInBounds_toArray, List.set_cons_zero, List.set_cons_succ, i64_w, i32_w]
       rfl
      refine pure_ (i := 4) (N := some 10) (v := ?_) (a' := ?_) #[true, true, true, true, true, false, false, false, false, false, false, false, false, false] rfl rfl (any_of HT_.out (by kernel_rfl)) (fun _ _ _ h => h) (Or.inl ⟨by rfl, ?_⟩) ?_ ?_
      rotate_left
      ·intro w'
       go_simp
       with_reducible rfl
      rotate_left
      ·simp only [Act.put, List.setIfInBounds_toArray, List.set_cons_zero, List.set_cons_succ, i64_w, i32_w]
       rfl
      refine pure_ (i := 5) (N := some 11) (v := ?_) (a' := ?_) #[true, true, true, true, true, true, false, false, false, false, false, false, false, false] rfl rfl (any_of HT_.out (by kernel_rfl)) (fun _ _ _ h => h) (Or.inl ⟨by rfl, ?_⟩) ?_ ?_
      rotate_left
      ·intro w'
       go_simp
       with_reducible rfl
      rotate_left
      ·simp only [Act.put, List.setIfInBounds_toArray, List.set_cons_zero, List.set_cons_succ, i64_w, i32_w]
       rfl
      refine pure_ (i := 6) (N := some 12) (v := ?_) (a' := ?_) #[true, true, true, true, true, true, true, false, false, false, false, false, false, false] rfl rfl (any_of HT_.out (by kernel_rfl)) (fun _ _ _ h => h) (Or.inl ⟨by rfl, ?_⟩) ?_ ?_
      rotate_left
      ·intro w'
       go_simp
       with_reducible rfl
      rotate_left
      ·simp only [Act.put, List.setIfInBounds_toArray, List.set_cons_zero, List.set_cons_succ, i64_w, i32_w]
       rfl
      refine pure_ (i := 7) (N := some 13) (v := ?_) (a' := ?_) #[true, true, true, true, true, true, true, true, false, false, false, false, false, false] rfl rfl (any_of HT_.out (by kernel_rfl)) (fun _ _ _ h => h) (Or.inl ⟨by rfl, ?_⟩) ?_ ?_
      rotate_left
      ·intro w'
       go_simp
       with_reducible rfl
      rotate_left
      ·simp only [Act.put, List.setIfInBounds_toArray, List.set_cons_zero, List.set_cons_succ, i64_w, i32_w]
       rfl
      refine pure_ (i := 8) (N := some 14) (v := ?_) (a' := ?_) #[true, true, true, true, true, true, true, true, true, false, false, false, false, false] rfl rfl (any_of HT_.out (by kernel_rfl)) (fun _ _ _ h => h) (Or.inl ⟨by rfl, ?_⟩) ?_ ?_
      rotate_left
      ·intro w'
       go_simp
       with_reducible rfl
      rotate_left
      ·simp only [Act.put, List.setIfInBounds_toArray, List.set_cons_zero, List.set_cons_succ, i64_w, i32_w]
       rfl
      refine pure_ (i := 10) (N := some 16) (v := ?_) (a' := ?_) #[true, true, true, true, true, true, true, true, true, false, true, false, false, false] rfl rfl (any_of HT_.out (by kernel_rfl)) (fun _ _ _ h => h) (Or.inl ⟨by rfl, ?_⟩) ?_ ?_
      rotate_left
      ·intro w'
       go_simp
       with_reducible rfl
      rotate_left
      ·simp only [Act.put, List.setIfInBounds_toArray, List.set_cons_zero, List.set_cons_succ, i64_w, i32_w]
       rfl
      refine take_ (i := 9) (N := some 15) (v := ?_) (a' := ?_) #[true, true, true, true, true, true, true, true, true, true, true, false, false, false] rfl rfl (take_ofW HT_.out HW_.out (by kernel_rfl)) (fun _ _ _ h => h) (Or.inl ⟨by rfl, ?_⟩) hHeld ?_ ?_
      rotate_left
      ·rintro w' ⟨s0, s1, s2, s3⟩
       go_simp
       with_reducible rfl
      rotate_left
      ·simp only [Act.put, List.setIfInBounds_toArray, List.set_cons_zero, List.set_cons_succ, i64_w, i32_w]
       rfl
      refine take_ (i := 11) (N := some 17) (v := ?_) (a' := ?_) #[true, true, true, true, true, true, true, true, true, true, true, true, false, false] rfl rfl (take_ofW HT_.out HW_.out (by kernel_rfl)) (fun _ _ _ h => h) (Or.inl ⟨by rfl, ?_⟩) hHeld ?_ ?_
      rotate_left
      ·rintro w' ⟨s0, s1, s2, s3⟩
       go_simp
       with_reducible rfl
      rotate_left
      ·simp only [Act.put, List.setIfInBounds_toArray, List.set_cons_zero, List.set_cons_succ, i64_w, i32_w]
       rfl
      refine pure_ (i := 12) (N := some 18) (v := ?_) (a' := ?_) #[true, true, true, true, true, true, true, true, true, true, true, true, true, false] rfl rfl (any_of HT_.out (by kernel_rfl)) (fun _ _ _ h => h) (Or.inl ⟨by rfl, ?_⟩) ?_ ?_
      rotate_left
      ·intro w'
       go_simp
       with_reducible rfl
      rotate_left
      ·simp only [Act.put, List.setIfInBounds_toArray, List.set_cons_zero, List.set_cons_succ, i64_w, i32_w]
       rfl
      refine pure_ (i := 13) (N := some 19) (v := ?_) (a' := ?_) #[true, true, true, true, true, true, true, true, true, true, true, true, true, true] rfl rfl (any_of HT_.out (by kernel_rfl)) (fun _ _ _ h => h) (Or.inl ⟨by rfl, ?_⟩) ?_ ?_
      rotate_left
      ·intro w'
       go_simp
       with_reducible rfl
      rotate_left
      ·simp only [Act.put, List.setIfInBounds_toArray, List.set_cons_zero, List.set_cons_succ, i64_w, i32_w]
       rfl
      refine done_ (done_of HT_.out (by kernel_rfl)) ?_
      try go_wp2
      go_roundg k1
      case measure => have := HK1.out; omega
      case rel => exact ⟨(wrap64 (x5_1 + 1)), (by first | rfl | (simp; done) | (simp [*]; done)), H', ⟨by have := HK1.out; omega⟩, ⟨by (with_reducible repeat (first | refine blk_drewN ?_ _ | refine blk_drew ?_ | refine blk_alloc ?_ _)); exact BK212.out⟩, ⟨by repeat (first | (with_reducible first | exact HB.out | apply below_alloc | apply pw_below_drewN | apply below_drew1 | refine below_set ?_ GE212.out) | exact HB.out)⟩⟩
     ·rw [if_neg c6] at H
      have c6b0 : decide (((rd_T39 l0 x5_1).f0) < a1_0) = false := decide_eq_false c6
      clear c6
      obtain ⟨y214, hy214⟩ : ∃ y_ : List (S39), y_ = (([] : List (S39))) := ⟨_, rfl⟩
      replace H : (if x5_1 ≤ (l0.length : Int) then ((some (l0.take (x5_1 : Int).toNat : List (S39))).bind fun y217 => (if y214.length + y217.length < 8796093022208 then ((some (y214 ++ y217 : List (S39))).bind fun y221 => ((some (([(⟨a1_0, a1_1⟩ : S39)] : List (S39)) : List (S39))).bind fun y224 => (if y221.length + y224.length < 8796093022208 then ((some (y221 ++ y224 : List (S39))).bind fun y227 => ((some (l0.drop (x5_1 : Int).toNat : List (S39))).bind fun y230 => (if y227.length + y230.length < 8796093022208 then (some (y227 ++ y230)) else (none)))) else (none)))) else (none))) else (none)) = some r := by first | (rw [hy214]; with_reducible exact H) | (have H2_ := (Option.bind_some _ _).symm.trans H; rw [hy214]; with_reducible exact H2_) | (have H2_ := (Option.bind_some _ _).symm.trans H; with_reducible exact H2_) | with_reducible exact H | (rw [hy214]; exact H) | exact H
      have Ny214 := Aside0.mk hy214
      clear hy214
      have c8b0 := eq_true (of_decide_eq_true (by first | (with_reducible assumption) | assumption) : 0 ≤ x5_1)
      by_cases c9 : x5_1 ≤ (l0.length : Int)
      ·rw [if_pos c9] at H
       have c9b0 := eq_true c9
       have c9b1 : decide (x5_1 ≤ (l0.length : Int)) = true := decide_eq_true c9
       clear c9
       obtain ⟨y217, hy217⟩ : ∃ y_ : List (S39), y_ = (l0.take (x5_1 : Int).toNat) := ⟨_, rfl⟩
       replace H : (if y214.length + y217.length < 8796093022208 then ((some (y214 ++ y217 : List (S39))).bind fun y221 => ((some (([(⟨a1_0, a1_1⟩ : S39)] : List (S39)) : List (S39))).bind fun y224 => (if y221.length + y224.length < 8796093022208 then ((some (y221 ++ y224 : List (S39))).bind fun y227 => ((some (l0.drop (x5_1 : Int).toNat : List (S39))).bind fun y230 => (if y227.length + y230.length < 8796093022208 then (some (y227 ++ y230)) else (none)))) else (none)))) else (none)) = some r := by first | (rw [hy217]; with_reducible exact H) | (have H2_ := (Option.bind_some _ _).symm.trans H; rw [hy217]; with_reducible exact H2_) | (have H2_ := (Option.bind_some _ _).symm.trans H; with_reducible exact H2_) | with_reducible exact H | (rw [hy217]; exact H) | exact H
       have Ny217 := Aside0.mk hy217
       clear hy217
       by_cases c10 : y214.length + y217.length < 8796093022208
       ·rw [if_pos c10] at H
        have LMc10 := Aside0.mk c10
        clear c10
        obtain ⟨y221, hy221⟩ : ∃ y_ : List (S39), y_ = (y214 ++ y217) := ⟨_, rfl⟩
        replace H : ((some (([(⟨a1_0, a1_1⟩ : S39)] : List (S39)) : List (S39))).bind fun y224 => (if y221.length + y224.length < 8796093022208 then ((some (y221 ++ y224 : List (S39))).bind fun y227 => ((some (l0.drop (x5_1 : Int).toNat : List (S39))).bind fun y230 => (if y227.length + y230.length < 8796093022208 then (some (y227 ++ y230)) else (none)))) else (none))) = some r := by first | (rw [hy221]; with_reducible exact H) | (have H2_ := (Option.bind_some _ _).symm.trans H; rw [hy221]; with_reducible exact H2_) | (have H2_ := (Option.bind_some _ _).symm.trans H; with_reducible exact H2_) | with_reducible exact H | (rw [hy221]; exact H) | exact H
        have Ny221 := Aside0.mk hy221
        clear hy221
        obtain ⟨y224, hy224⟩ : ∃ y_ : List (S39), y_ = (([(⟨a1_0, a1_1⟩ : S39)] : List (S39))) := ⟨_, rfl⟩
        replace H : (if y221.length + y224.length < 8796093022208 then ((some (y221 ++ y224 : List (S39))).bind fun y227 => ((some (l0.drop (x5_1 : Int).toNat : List (S39))).bind fun y230 => (if y227.length + y230.length < 8796093022208 then (some (y227 ++ y230)) else (none)))) else (none)) = some r := by first | (rw [hy224]; with_reducible exact H) | (have H2_ := (Option.bind_some _ _).symm.trans H; rw [hy224]; with_reducible exact H2_) | (have H2_ := (Option.bind_some _ _).symm.trans H; with_reducible exact H2_) | with_reducible exact H | (rw [hy224]; exact H) | exact H
        have Ny224 := Aside0.mk hy224
        clear hy224
        by_cases c11 : y221.length + y224.length < 8796093022208
        ·rw [if_pos c11] at H
         have LMc11 := Aside0.mk c11
         clear c11
         obtain ⟨y227, hy227⟩ : ∃ y_ : List (S39), y_ = (y221 ++ y224) := ⟨_, rfl⟩
         replace H : ((some (l0.drop (x5_1 : Int).toNat : List (S39))).bind fun y230 => (if y227.length + y230.length < 8796093022208 then (some (y227 ++ y230)) else (none))) = some r := by first | (rw [hy227]; with_reducible exact H) | (have H2_ := (Option.bind_some _ _).symm.trans H; rw [hy227]; with_reducible exact H2_) | (have H2_ := (Option.bind_some _ _).symm.trans H; with_reducible exact H2_) | with_reducible exact H | (rw [hy227]; exact H) | exact H
         have Ny227 := Aside0.mk hy227
         clear hy227
         have c12b0 := eq_true (of_decide_eq_true (by first | (with_reducible assumption) | assumption) : 0 ≤ x5_1)
         have c13b0 := eq_true (of_decide_eq_true (by first | (with_reducible assumption) | assumption) : x5_1 ≤ (l0.length : Int))
         obtain ⟨y230, hy230⟩ : ∃ y_ : List (S39), y_ = (l0.drop (x5_1 : Int).toNat) := ⟨_, rfl⟩
         replace H : (if y227.length + y230.length < 8796093022208 then (some (y227 ++ y230)) else (none)) = some r := by first | (rw [hy230]; with_reducible exact H) | (have H2_ := (Option.bind_some _ _).symm.trans H; rw [hy230]; with_reducible exact H2_) | (have H2_ := (Option.bind_some _ _).symm.trans H; with_reducible exact H2_) | with_reducible exact H | (rw [hy230]; exact H) | exact H
         have Ny230 := Aside0.mk hy230
         clear hy230
         by_cases c14 : y227.length + y230.length < 8796093022208
         ·rw [if_pos c14] at H
          have LMc14 := Aside0.mk c14
          clear c14
          obtain ⟨y234, hy234⟩ : ∃ y_ : List (S39), y_ = (y227 ++ y230) := ⟨_, rfl⟩
          replace H : (some y234) = some r := by first | (rw [hy234]; with_reducible exact H) | (have H2_ := (Option.bind_some _ _).symm.trans H; rw [hy234]; with_reducible exact H2_) | (have H2_ := (Option.bind_some _ _).symm.trans H; with_reducible exact H2_) | with_reducible exact H | (rw [hy234]; exact H) | exact H
          have Ny234 := Aside0.mk hy234
          clear hy234
          obtain rfl := Option.some.inj H
          try go_wp2
          have n0_ := Aside0.mk (blk_drew BK212.out)
          have n1_ := Aside0.mk (below_drew1 HB.out)
          clear BK212
          clear HB
          have BK212 := n0_
          have HB := n1_
          clear n0_ n1_
          have p213 : 0 ≤ (x5_1 : Int) := of_decide_eq_true (by first | (with_reducible assumption) | assumption)
          have q213 : x5_1 < (l0.length : Int) := of_decide_eq_true (by first | (with_reducible assumption) | assumption)
          obtain ⟨ad213, e213, hx213_0, hx213_1⟩ := at_T39 HR0.out x5_1 p213 q213
          have hw213_1 := hx213_1
          have hw213_0 := hx213_0
          cases e213
          replace hx213_0 := (HB.out.cell (World.block_lt_of_cell? w _ hx213_0)).trans hx213_0
          replace hx213_1 := (HB.out.cell (World.block_lt_of_cell? w _ hx213_1)).trans hx213_1
          replace p213 := eq_true p213
          replace q213 := eq_true q213
          refine start_ (n := 14) (S := fun w' => w'.cell? ⟨gb212, 0, none⟩ = some (.int .i64 a1_0) ∧ w'.cell? ⟨gb212, 1, none⟩ = some (.int .i64 a1_1) ∧ w'.cell? (ad213.add ((x5_1).toNat * 2)) = some (.int .i64 ((rd_T39 l0 x5_1).f0)) ∧ w'.cell? ⟨(ad213.add ((x5_1).toNat * 2)).block, (ad213.add ((x5_1).toNat * 2)).off + 1, none⟩ = some (.int .i64 ((rd_T39 l0 x5_1).f1))) (ds := []) #[false, false, false, false, false, false, false, false, false, false, false, false, false, false] (by kernel_rfl) rfl rfl ⟨(blk_cell BK212.out 0).trans rfl, (blk_cell BK212.out 1).trans rfl, ((HB.out.cell (World.block_lt_of_cell? w _ hw213_0)).trans hw213_0), ((HB.out.cell (World.block_lt_of_cell? w _ hw213_1)).trans hw213_1)⟩ (fun hHeld => ?_); refine with_tabW customsref21_Insert.tab2 customsref21_Insert.bits2 (fun HT_ HW_ => ?_)
          generalize wr.drew = w15 at BK212 HB hx213_0 hx213_1 hHeld ⊢
          refine pure_ (i := 0) (N := some 6) (v := ?_) (a' := ?_) #[true, false, false, false, false, false, false, false, false, false, false, false, false, false] rfl rfl (any_of HT_.out (by kernel_rfl)) (fun _ _ _ h => h) (Or.inl ⟨by rfl, ?_⟩) ?_ ?_
          rotate_left
          ·intro w'
           go_simp
           with_reducible rfl
          rotate_left
          ·simp only [Act.put, List.setIfInBounds_toArray, List.set_cons_zero, List.set_cons_succ, i64_w, i32_w]
           rfl
          refine pure_ (i := 1) (N := some 7) (v := ?_) (a' := ?_) #[true, true, false, false, false, false, false, false, false, false, false, false, false, false] rfl rfl (any_of HT_.out (by kernel_rfl)) (fun _ _ _ h => h) (Or.inl ⟨by rfl, ?_⟩) ?_ ?_
          rotate_left
          ·intro w'
           go_simp
           with_reducible rfl
          rotate_left
          ·simp only [Act.put, List.setIfInBounds_toArray, List.set_cons_zero, List.set_cons_succ, i64_w, i32_w]
           rfl
          refine pure_ (i := 2) (N := some 8) (v := ?_) (a' := ?_) #[true, true, true, false, false, false, false, false, false, false, false, false, false, false] rfl rfl (any_of HT_.out (by kernel_rfl)) (fun _ _ _ h => h) (Or.inl ⟨by rfl, ?_⟩) ?_ ?_
          rotate_left
          ·intro w'
           go_simp
           with_reducible rfl
          rotate_left
          ·simp only [Act.put, List.setIfInBounds_toArray, List.set_cons_zero, List.set_cons_succ, i64_w, i32_w]
           rfl
          refine pure_ (i := 3) (N := some 9) (v := ?_) (a' := ?_) #[true, true, true, true, false, false, false, false, false, false, false, false, false, false] rfl rfl (any_of HT_.out (by kernel_rfl)) (fun _ _ _ h => h) (Or.inl ⟨by rfl, ?_⟩) ?_ ?_
          rotate_left
          ·intro w'
           go_simp
           with_reducible rfl
          rotate_left
          ·simp only [Act.put, List.setIfInBounds_toArray, List.set_cons_zero, List.set_cons_succ, i64_w, i32_w]
           rfl
          refine pure_ (i := 4) (N := some 10) (v := ?_) (a' := ?_) #[true, true, true, true, true, false, false, false, false, false, false, false, false, false] rfl rfl (any_of HT_.out (by kernel_rfl)) (fun _ _ _ h => h) (Or.inl ⟨by rfl, ?_⟩) ?_ ?_
          rotate_left
          ·intro w'
           go_simp
           with_reducible rfl
          rotate_left
          ·simp only [Act.put, List.setIfInBounds_toArray, List.set_cons_zero, List.set_cons_succ, i64_w, i32_w]
           rfl
          refine pure_ (i := 5) (N := some 11) (v := ?_) (a' := ?_) #[true, true, true, true, true, true, false, false, false, false, false, false, false, false] rfl rfl (any_of HT_.out (by kernel_rfl)) (fun _ _ _ h => h) (Or.inl ⟨by rfl, ?_⟩) ?_ ?_
          rotate_left
          ·intro w'
           go_simp
           with_reducible rfl
          rotate_left
          ·simp only [Act.put, List.setIfInBounds_toArray, List.set_cons_zero, List.set_cons_succ, i64_w, i32_w]
           rfl
          refine pure_ (i := 6) (N := some 12) (v := ?_) (a' := ?_) #[true, true, true, true, true, true, true, false, false, false, false, false, false, false] rfl rfl (any_of HT_.out (by kernel_rfl)) (fun _ _ _ h => h) (Or.inl ⟨by rfl, ?_⟩) ?_ ?_
          rotate_left
          ·intro w'
           go_simp
           with_reducible rfl
          rotate_left
          ·simp only [Act.put, List.setIfInBounds_toArray, List.set_cons_zero, List.set_cons_succ, i64_w, i32_w]
           rfl
          refine pure_ (i := 7) (N := some 13) (v := ?_) (a' := ?_) #[true, true, true, true, true, true, true, true, false, false, false, false, false, false] rfl rfl (any_of HT_.out (by kernel_rfl)) (fun _ _ _ h => h) (Or.inl ⟨by rfl, ?_⟩) ?_ ?_
          rotate_left
          ·intro w'
           go_simp
           with_reducible rfl
          rotate_left
          ·simp only [Act.put, List.setIfInBounds_toArray, List.set_cons_zero, List.set_cons_succ, i64_w, i32_w]
           rfl
          refine pure_ (i := 8) (N := some 14) (v := ?_) (a' := ?_) #[true, true, true, true, true, true, true, true, true, false, false, false, false, false] rfl rfl (any_of HT_.out (by kernel_rfl)) (fun _ _ _ h => h) (Or.inl ⟨by rfl, ?_⟩) ?_ ?_
          rotate_left
          ·intro w'
           go_simp
           with_reducible rfl
          rotate_left
          ·simp only [Act.put, List.setIfInBounds_toArray, List.set_cons_zero, List.set_cons_succ, i64_w, i32_w]
           rfl
          refine pure_ (i := 10) (N := some 16) (v := ?_) (a' := ?_) #[true, true, true, true, true, true, true, true, true, false, true, false, false, false] rfl rfl (any_of HT_.out (by kernel_rfl)) (fun _ _ _ h => h) (Or.inl ⟨by rfl, ?_⟩) ?_ ?_
          rotate_left
          ·intro w'
           go_simp
           with_reducible rfl
          rotate_left
          ·simp only [Act.put, List.setIfInBounds_toArray, List.set_cons_zero, List.set_cons_succ, i64_w, i32_w]
           rfl
          refine take_ (i := 9) (N := some 15) (v := ?_) (a' := ?_) #[true, true, true, true, true, true, true, true, true, true, true, false, false, false] rfl rfl (take_ofW HT_.out HW_.out (by kernel_rfl)) (fun _ _ _ h => h) (Or.inl ⟨by rfl, ?_⟩) hHeld ?_ ?_
          rotate_left
          ·rintro w' ⟨s0, s1, s2, s3⟩
           go_simp
           with_reducible rfl
          rotate_left
          ·simp only [Act.put, List.setIfInBounds_toArray, List.set_cons_zero, List.set_cons_succ, i64_w, i32_w]
           rfl
          refine take_ (i := 11) (N := some 17) (v := ?_) (a' := ?_) #[true, true, true, true, true, true, true, true, true, true, true, true, false, false] rfl rfl (take_ofW HT_.out HW_.out (by kernel_rfl)) (fun _ _ _ h => h) (Or.inl ⟨by rfl, ?_⟩) hHeld ?_ ?_
          rotate_left
          ·rintro w' ⟨s0, s1, s2, s3⟩
           go_simp
           with_reducible rfl
          rotate_left
          ·simp only [Act.put, List.setIfInBounds_toArray, List.set_cons_zero, List.set_cons_succ, i64_w, i32_w]
           rfl
          refine pure_ (i := 12) (N := some 18) (v := ?_) (a' := ?_) #[true, true, true, true, true, true, true, true, true, true, true, true, true, false] rfl rfl (any_of HT_.out (by kernel_rfl)) (fun _ _ _ h => h) (Or.inl ⟨by rfl, ?_⟩) ?_ ?_
          rotate_left
          ·intro w'
           go_simp
           with_reducible rfl
          rotate_left
          ·simp only [Act.put, List.setIfInBounds_toArray, List.set_cons_zero, List.set_cons_succ, i64_w, i32_w]
           rfl
          refine pure_ (i := 13) (N := some 19) (v := ?_) (a' := ?_) #[true, true, true, true, true, true, true, true, true, true, true, true, true, true] rfl rfl (any_of HT_.out (by kernel_rfl)) (fun _ _ _ h => h) (Or.inl ⟨by rfl, ?_⟩) ?_ ?_
          rotate_left
          ·intro w'
           go_simp
           with_reducible rfl
          rotate_left
          ·simp only [Act.put, List.setIfInBounds_toArray, List.set_cons_zero, List.set_cons_succ, i64_w, i32_w]
           rfl
          refine done_ (done_of HT_.out (by kernel_rfl)) ?_
          try go_wp2
          have n0_ := Aside0.mk (blk_drew BK212.out)
          have n1_ := Aside0.mk (below_drew1 HB.out)
          clear BK212
          clear HB
          have BK212 := n0_
          have HB := n1_
          clear n0_ n1_
          have q17 : (x5_1 : Int) ≤ ((l0.length : Int) : Int) := of_decide_eq_true (by first | (with_reducible assumption) | assumption)
          obtain ⟨i017, hi017, _, hsz17, _⟩ := info_parts info39
          have hroom17 : l0.length ≤ c0 := HC0.out
          have hC17 : Kd.C k39 _ (some ad213) l0.length l0 := HR0.out
          have hcut17 := cut_to (P := Try.prog) 23 39 .i64 Try.underlying23 hi017 (some ad213) l0.length c0 x5_1 (of_decide_eq_true (by first | (with_reducible assumption) | assumption)) q17 hroom17
          have hr17 := Kd.C_take (m := (x5_1 : Int).toNat) hC17 (by omega)
          have hy17 : y217.length = (x5_1 : Int).toNat := (by rw [Ny217.out, List.length_take]; omega)
          rw [← Ny217.out] at hr17
          rw [← hy17] at hcut17
          have HR220 := Aside0.mk hr17
          have HC220 := Aside0.mk (show y217.length ≤ c0 from by omega)
          clear hr17 hC17 hroom17 hi017 hsz17
          have KY17 := Aside0.mk hy17
          clear hy17
          replace q17 := eq_true q17
          have q18 : (x5_1 : Int) ≤ ((l0.length : Int) : Int) := of_decide_eq_true (by first | (with_reducible assumption) | assumption)
          obtain ⟨i018, hi018, _, hsz18, _⟩ := info_parts info39
          have hroom18 : l0.length ≤ c0 := HC0.out
          have hC18 : Kd.C k39 _ (some ad213) l0.length l0 := HR0.out
          have q018 : (0 : Int) ≤ (x5_1 : Int) := of_decide_eq_true (by first | (with_reducible assumption) | assumption)
          have hcut18 := cut_from (P := Try.prog) 23 39 .i64 Try.underlying23 hi018 2 hsz18 (some ad213) l0.length c0 x5_1 q018 q18
          have hr18 := Kd.C_drop (m := (x5_1 : Int).toNat) (c := c0) hC18 (by omega) hroom18
          obtain ⟨A18, hA18⟩ : ∃ A1, A1 = (if c0 = (x5_1 : Int).toNat then (some ad213) else ((some ad213) : Option Addr).map (·.add ((x5_1 : Int).toNat * 2))) := ⟨_, rfl⟩
          obtain ⟨c18, hc18⟩ : ∃ c1, c1 = c0 - (x5_1 : Int).toNat := ⟨_, rfl⟩
          have hy18 : y230.length = l0.length - (x5_1 : Int).toNat := (by rw [Ny230.out, List.length_drop] <;> omega)
          rw [show (l0).drop (x5_1 : Int).toNat = y230 from Ny230.out.symm] at hr18
          replace hr18 : Kd.C k39 _ A18 y230.length y230 := (by rw [hA18]; exact hr18)
          rw [← hy18, ← hA18, ← hc18] at hcut18
          have HR233 := Aside0.mk hr18
          have HC233 := Aside0.mk (show y230.length ≤ c18 from by rw [hy18, hc18]; exact Nat.sub_le_sub_right hroom18 _)
          clear hr18 hC18 hroom18 hi018 hsz18 hc18
          have KY18 := Aside0.mk hy18
          have KA18 := Aside0.mk hA18
          clear hy18 hA18
          replace q18 := eq_true q18
          refine start_ (n := 13) (S := fun w' => w'.cell? ⟨gb212, 0, none⟩ = some (.int .i64 a1_0) ∧ w'.cell? ⟨gb212, 1, none⟩ = some (.int .i64 a1_1)) (ds := []) #[false, false, false, false, false, false, false, false, false, false, false, false, false] (by kernel_rfl) rfl rfl ⟨(blk_cell BK212.out 0).trans rfl, (blk_cell BK212.out 1).trans rfl⟩ (fun hHeld => ?_); refine with_tabW customsref21_Insert.tab4 customsref21_Insert.bits4 (fun HT_ HW_ => ?_)
          generalize w15.drew = w16 at BK212 HB HR220 HR233 hHeld ⊢
          refine pure_ (i := 1) (N := some 23) (v := ?_) (a' := ?_) #[false, true, false, false, false, false, false, false, false, false, false, false, false] rfl rfl (any_of HT_.out (by kernel_rfl)) (fun _ _ _ h => h) (Or.inl ⟨by rfl, ?_⟩) ?_ ?_
          rotate_left
          ·intro w'
           go_simp
           with_reducible rfl
          rotate_left
          ·simp only [Act.put, List.setIfInBounds_toArray, List.set_cons_zero, List.set_cons_succ, i64_w, i32_w]
           rfl
          refine pure_ (i := 2) (N := some 24) (v := ?_) (a' := ?_) #[false, true, true, false, false, false, false, false, false, false, false, false, false] rfl rfl (any_of HT_.out (by kernel_rfl)) (fun _ _ _ h => h) (Or.inl ⟨by rfl, ?_⟩) ?_ ?_
          rotate_left
          ·intro w'
           go_simp
           with_reducible rfl
          rotate_left
          ·simp only [Act.put, List.setIfInBounds_toArray, List.set_cons_zero, List.set_cons_succ, i64_w, i32_w]
           rfl
          refine pure_ (i := 3) (N := some 25) (v := ?_) (a' := ?_) #[false, true, true, true, false, false, false, false, false, false, false, false, false] rfl rfl (any_of HT_.out (by kernel_rfl)) (fun _ _ _ h => h) (Or.inl ⟨by rfl, ?_⟩) ?_ ?_
          rotate_left
          ·intro w'
           go_simp
           with_reducible rfl
          rotate_left
          ·simp only [Act.put, List.setIfInBounds_toArray, List.set_cons_zero, List.set_cons_succ, i64_w, i32_w]
           rfl
          refine pure_ (i := 8) (N := some 30) (v := ?_) (a' := ?_) #[false, true, true, true, false, false, false, false, true, false, false, false, false] rfl rfl (any_of HT_.out (by kernel_rfl)) (fun _ _ _ h => h) (Or.inl ⟨by rfl, ?_⟩) ?_ ?_
          rotate_left
          ·intro w'
           go_simp
           with_reducible rfl
          rotate_left
          ·simp only [Act.put, List.setIfInBounds_toArray, List.set_cons_zero, List.set_cons_succ, i64_w, i32_w]
           rfl
          refine pure_ (i := 9) (N := some 31) (v := ?_) (a' := ?_) #[false, true, true, true, false, false, false, false, true, true, false, false, false] rfl rfl (any_of HT_.out (by kernel_rfl)) (fun _ _ _ h => h) (Or.inl ⟨by rfl, ?_⟩) ?_ ?_
          rotate_left
          ·intro w'
           go_simp
           with_reducible rfl
          rotate_left
          ·simp only [Act.put, List.setIfInBounds_toArray, List.set_cons_zero, List.set_cons_succ, i64_w, i32_w]
           rfl
          refine pure_ (i := 10) (N := some 32) (v := ?_) (a' := ?_) #[false, true, true, true, false, false, false, false, true, true, true, false, false] rfl rfl (any_of HT_.out (by kernel_rfl)) (fun _ _ _ h => h) (Or.inl ⟨by rfl, ?_⟩) ?_ ?_
          rotate_left
          ·intro w'
           go_simp
           with_reducible rfl
          rotate_left
          ·simp only [Act.put, List.setIfInBounds_toArray, List.set_cons_zero, List.set_cons_succ, i64_w, i32_w]
           rfl
          refine take_ (i := 5) (N := some 27) (v := ?_) (a' := ?_) #[false, true, true, true, false, true, false, false, true, true, true, false, false] rfl rfl (take_ofW HT_.out HW_.out (by kernel_rfl)) (fun _ _ _ h => h) (Or.inl ⟨by rfl, ?_⟩) hHeld ?_ ?_
          rotate_left
          ·rintro w' ⟨s0, s1⟩
           go_simp
           with_reducible rfl
          rotate_left
          ·simp only [Act.put, List.setIfInBounds_toArray, List.set_cons_zero, List.set_cons_succ, i64_w, i32_w]
           rfl
          refine join_ (σ := Value × Value × Value) 3 #[true, true, true, true, true, true, true, false, true, true, true, false, false] (fun s_ => [(22, s_.1), (26, s_.2.1), (28, s_.2.2)]) (fun s_ w' => (w'.cell? ⟨gb212, 0, none⟩ = some (.int .i64 a1_0) ∧ w'.cell? ⟨gb212, 1, none⟩ = some (.int .i64 a1_1)) ∧ (Kd.R k39 39 w' w.heap.size (fun k_ => some k_ ≠ (s_.2.2 : Value).ownBlock ∧ k_ ≠ gb212) s_.2.1 y221) ∧ (Kd.R k39 39 w' w.heap.size (fun k_ => some k_ ≠ (s_.2.1 : Value).ownBlock ∧ k_ ≠ gb212) s_.2.2 y224) ∧ (w'.heap[gb212]? = some (.cells #[.int .i64 a1_0, .int .i64 a1_1] 39 (0, 0))) ∧ (Below w.heap.size w w')) ?_ ?_
          rotate_left
          ·intro hCont
           refine two_ (i := 0) (j := 6) (Ni := some 22) (Nj := some 28) #[true, true, true, true, false, true, false, false, true, true, true, false, false] #[false, true, true, true, false, true, true, false, true, true, true, false, false] rfl rfl rfl rfl (two_of HT_.out (by kernel_rfl)) (by decide) (by decide) (fun K hK => ?_) (fun K hK => ?_)
           ·skip
            refine Kd.R_lit_step k39 _ 39 ?hg (N := 22) ?hd (xs := ([] : List (S39))) (inner := []) (ok := fun _ => True) (okp := fun _ => True) ?hr ?hp (fun _ hk => hk) trivial (Below.refl _ _) (Nat.le_refl _) (by simp) ?_; (case hd => rfl); (case hg => rfl); (case hr => first | (go_simp; done) | (go_simp; rfl)); (case hp => exact (Reps.none _ _))
            intro v215 w19 ho20 hb hg_ hnew_
            clear hg_ hnew_
            (first | rw [← Ny214.out] at ho20 | (simp only [Int.reduceToNat] at ho20; rw [← Ny214.out] at ho20))
            have n0_ := Aside0.mk (Kd.R_lower (Kd.R_newB ho20 (g := gb212) (o := .cells #[.int .i64 a1_0, .int .i64 a1_1] 39 (0, 0)) (by (with_reducible repeat (first | refine blk_drewN ?_ _ | refine blk_drew ?_ | refine blk_alloc ?_ _)); exact BK212.out)) (below_size (by repeat (first | (with_reducible first | exact HB.out | apply below_alloc | apply pw_below_drewN | apply below_drew1 | refine below_set ?_ GE212.out) | exact HB.out))))
            have n1_ := Aside0.mk (blk_below (g := gb212) (o := .cells #[.int .i64 a1_0, .int .i64 a1_1] 39 (0, 0)) (by (with_reducible repeat (first | refine blk_drewN ?_ _ | refine blk_drew ?_ | refine blk_alloc ?_ _)); exact BK212.out) hb)
            have n2_ := Aside0.mk (below_step (by repeat (first | (with_reducible first | exact HB.out | apply below_alloc | apply pw_below_drewN | apply below_drew1 | refine below_set ?_ GE212.out) | exact HB.out)) hb)
            clear BK212
            clear HB
            have HO216 := n0_
            have BK212 := n1_
            have HB := n2_
            clear n0_ n1_ n2_
            clear hb ho20
            refine hK.out _ _ ⟨(blk_cell BK212.out 0).trans rfl, (blk_cell BK212.out 1).trans rfl⟩ (fun hHeld => ?_)
            clear hK K
            refine norm_ (a' := ?_) ?_ ?_
            rotate_left
            ·show Act.put _ (some 22) _ = _
             simp only [Act.put, List.setIfInBounds_toArray, List.set_cons_zero, List.set_cons_succ, i64_w, i32_w]
             rfl
            refine two_ (i := 4) (j := 6) (Ni := some 26) (Nj := some 28) #[true, true, true, true, true, true, false, false, true, true, true, false, false] #[true, true, true, true, false, true, true, false, true, true, true, false, false] rfl rfl rfl rfl (two_of HT_.out (by kernel_rfl)) (by decide) (by decide) (fun K hK => ?_) (fun K hK => ?_)
            ·skip
             refine Kd.R_append_rows_step k39 (w0 := w) w.heap.size (by rfl) (.tmp 22) (.tmp 25) 23 39 (.agg #[(.int .i64 0), (.int .i64 0)]) 16 rfl Try.underlying23 info39 rfl (by decide) (by omega) v215 y214 y217 _ _ _ (fun k_ => k_ ≠ gb212) (fun _ => False) rfl rfl ?aO ?aR (fun _ _ h => h) (fun _ h => h.elim) ?aF ?aB ?aS ?aL ?_
             (case aR => repeat (first | exact (Kd.C_below HR220.out HB.out) | (with_reducible refine Kd.C_alloc ?_ _) | (with_reducible refine Kd.C_drewN ?_ _) | (with_reducible refine Kd.C_drew ?_)))
             (case aB => exact (by repeat (first | (with_reducible first | exact HB.out | apply below_alloc | apply pw_below_drewN | apply below_drew1 | refine below_set ?_ GE212.out) | exact HB.out)))
             (case aF => exact (fun k_ hk => Kd.freshB (g := gb212) (o := .cells #[.int .i64 a1_0, .int .i64 a1_1] 39 (0, 0)) (by (with_reducible repeat (first | refine blk_drewN ?_ _ | refine blk_drew ?_ | refine blk_alloc ?_ _)); exact BK212.out) k_ hk))
             (case aO => exact (by (with_reducible repeat (first | apply Kd.R_alloc | apply Kd.R_drewN | apply Kd.R_drew)); exact Kd.R_mono HO216.out (fun _ hk => hk.2)))
             (case aS => exact (below_size (by repeat (first | (with_reducible first | exact HB.out | apply below_alloc | apply pw_below_drewN | apply below_drew1 | refine below_set ?_ GE212.out) | exact HB.out))))
             (case aL => have := LMc10.out; omega)
             intro v222 w21 ho hb hg hat
             rw [← Ny221.out] at ho
             have n0_ := Aside0.mk (blk_grown (g := gb212) (o := .cells #[.int .i64 a1_0, .int .i64 a1_1] 39 (0, 0)) (by (with_reducible repeat (first | refine blk_drewN ?_ _ | refine blk_drew ?_ | refine blk_alloc ?_ _)); exact BK212.out) hg (Kd.R_away HO216.out (fun _ hk => hk.2)))
             have n1_ := Aside0.mk (hb)
             have n2_ := Aside0.mk (ho)
             clear BK212
             clear HB
             clear HO216
             have BK212 := n0_
             have HB := n1_
             have HO223 := n2_
             clear n0_ n1_ n2_
             clear ho hb hg hat
             refine hK.out _ _ ⟨(blk_cell BK212.out 0).trans rfl, (blk_cell BK212.out 1).trans rfl⟩ (fun hHeld => ?_)
             clear hK K
             refine norm_ (a' := ?_) ?_ ?_
             rotate_left
             ·show Act.put _ (some 26) _ = _
              simp only [Act.put, List.setIfInBounds_toArray, List.set_cons_zero, List.set_cons_succ, i64_w, i32_w]
              rfl
             refine one_ (i := 6) (N := some 28) #[true, true, true, true, true, true, true, false, true, true, true, false, false] rfl rfl (one_of HT_.out (by kernel_rfl)) (by decide) (fun K hK => ?_)
             refine Kd.R_lit_step k39 _ 39 ?hg (N := 28) ?hd (xs := ([(⟨a1_0, a1_1⟩ : S39)] : List (S39))) (inner := [.int .i64 a1_0, .int .i64 a1_1]) (ok := fun _ => True) (okp := fun _ => True) ?hr ?hp (fun _ hk => hk) trivial (Below.refl _ _) (Nat.le_refl _) (by simp) ?_; (case hd => rfl); (case hg => rfl); (case hr => first | (go_simp; done) | (go_simp; rfl)); (case hp => exact (Reps.c2 (show Kd.M k39 _ _ _ (⟨a1_0, a1_1⟩ : S39) [.int .i64 a1_0, .int .i64 a1_1] from (k39_mkM _ _ _ (⟨a1_0, a1_1⟩ : S39) )) (Reps.none _ _)))
             intro v225 w22 ho23 hb hg_ hnew_
             clear hg_ hnew_
             (first | rw [← Ny224.out] at ho23 | (simp only [Int.reduceToNat] at ho23; rw [← Ny224.out] at ho23))
             have n0_ := Aside0.mk (Kd.R_elder' (by (with_reducible repeat (first | apply Kd.R_alloc | apply Kd.R_drewN | apply Kd.R_drew)); exact HO223.out) (Kd.R_base ho23) hb)
             have n1_ := Aside0.mk (Kd.R_lower (Kd.R_newB (Kd.R_new' ho23 (Kd.R_lt (by (with_reducible repeat (first | apply Kd.R_alloc | apply Kd.R_drewN | apply Kd.R_drew)); exact HO223.out))) (g := gb212) (o := .cells #[.int .i64 a1_0, .int .i64 a1_1] 39 (0, 0)) (by (with_reducible repeat (first | refine blk_drewN ?_ _ | refine blk_drew ?_ | refine blk_alloc ?_ _)); exact BK212.out)) (below_size (by repeat (first | (with_reducible first | exact HB.out | apply below_alloc | apply pw_below_drewN | apply below_drew1 | refine below_set ?_ GE212.out) | exact HB.out))))
             have n2_ := Aside0.mk (blk_below (g := gb212) (o := .cells #[.int .i64 a1_0, .int .i64 a1_1] 39 (0, 0)) (by (with_reducible repeat (first | refine blk_drewN ?_ _ | refine blk_drew ?_ | refine blk_alloc ?_ _)); exact BK212.out) hb)
             have n3_ := Aside0.mk (below_step (by repeat (first | (with_reducible first | exact HB.out | apply below_alloc | apply pw_below_drewN | apply below_drew1 | refine below_set ?_ GE212.out) | exact HB.out)) hb)
             clear HO223
             clear BK212
             clear HB
             have HO223 := n0_
             have HO226 := n1_
             have BK212 := n2_
             have HB := n3_
             clear n0_ n1_ n2_ n3_
             clear hb ho23
             refine hK.out _ _ ⟨(blk_cell BK212.out 0).trans rfl, (blk_cell BK212.out 1).trans rfl⟩ (fun hHeld => ?_)
             clear hK K
             refine norm_ (a' := ?_) ?_ ?_
             rotate_left
             ·show Act.put _ (some 28) _ = _
              simp only [Act.put, List.setIfInBounds_toArray, List.set_cons_zero, List.set_cons_succ, i64_w, i32_w]
              rfl
             exact norm_ (by simp only [putAll, Act.put, List.setIfInBounds_toArray, List.set_cons_zero, List.set_cons_succ]) (hCont (v215, v222, v225) _ ⟨hHeld, (by (with_reducible repeat (first | apply Kd.R_alloc | apply Kd.R_drewN | apply Kd.R_drew)); exact Kd.R_mono HO223.out (fun _ hk => ⟨hk.2, hk.1⟩)), (by (with_reducible repeat (first | apply Kd.R_alloc | apply Kd.R_drewN | apply Kd.R_drew)); exact Kd.R_mono HO226.out (fun _ hk => ⟨hk.1.2, hk.2⟩)), (by (with_reducible repeat (first | refine blk_drewN ?_ _ | refine blk_drew ?_ | refine blk_alloc ?_ _)); exact BK212.out), (by repeat (first | (with_reducible first | exact HB.out | apply below_alloc | apply pw_below_drewN | apply below_drew1 | refine below_set ?_ GE212.out) | exact HB.out))⟩)
            ·skip
             refine Kd.R_lit_step k39 _ 39 ?hg (N := 28) ?hd (xs := ([(⟨a1_0, a1_1⟩ : S39)] : List (S39))) (inner := [.int .i64 a1_0, .int .i64 a1_1]) (ok := fun _ => True) (okp := fun _ => True) ?hr ?hp (fun _ hk => hk) trivial (Below.refl _ _) (Nat.le_refl _) (by simp) ?_; (case hd => rfl); (case hg => rfl); (case hr => first | (go_simp; done) | (go_simp; rfl)); (case hp => exact (Reps.c2 (show Kd.M k39 _ _ _ (⟨a1_0, a1_1⟩ : S39) [.int .i64 a1_0, .int .i64 a1_1] from (k39_mkM _ _ _ (⟨a1_0, a1_1⟩ : S39) )) (Reps.none _ _)))
             intro v225 w21 ho22 hb hg_ hnew_
             clear hg_ hnew_
             (first | rw [← Ny224.out] at ho22 | (simp only [Int.reduceToNat] at ho22; rw [← Ny224.out] at ho22))
             have n0_ := Aside0.mk (Kd.R_elder' (by (with_reducible repeat (first | apply Kd.R_alloc | apply Kd.R_drewN | apply Kd.R_drew)); exact HO216.out) (Kd.R_base ho22) hb)
             have n1_ := Aside0.mk (Kd.R_lower (Kd.R_newB (Kd.R_new' ho22 (Kd.R_lt (by (with_reducible repeat (first | apply Kd.R_alloc | apply Kd.R_drewN | apply Kd.R_drew)); exact HO216.out))) (g := gb212) (o := .cells #[.int .i64 a1_0, .int .i64 a1_1] 39 (0, 0)) (by (with_reducible repeat (first | refine blk_drewN ?_ _ | refine blk_drew ?_ | refine blk_alloc ?_ _)); exact BK212.out)) (below_size (by repeat (first | (with_reducible first | exact HB.out | apply below_alloc | apply pw_below_drewN | apply below_drew1 | refine below_set ?_ GE212.out) | exact HB.out))))
             have n2_ := Aside0.mk (blk_below (g := gb212) (o := .cells #[.int .i64 a1_0, .int .i64 a1_1] 39 (0, 0)) (by (with_reducible repeat (first | refine blk_drewN ?_ _ | refine blk_drew ?_ | refine blk_alloc ?_ _)); exact BK212.out) hb)
             have n3_ := Aside0.mk (below_step (by repeat (first | (with_reducible first | exact HB.out | apply below_alloc | apply pw_below_drewN | apply below_drew1 | refine below_set ?_ GE212.out) | exact HB.out)) hb)
             clear HO216
             clear BK212
             clear HB
             have HO216 := n0_
             have HO226 := n1_
             have BK212 := n2_
             have HB := n3_
             clear n0_ n1_ n2_ n3_
             clear hb ho22
             refine hK.out _ _ ⟨(blk_cell BK212.out 0).trans rfl, (blk_cell BK212.out 1).trans rfl⟩ (fun hHeld => ?_)
             clear hK K
             refine norm_ (a' := ?_) ?_ ?_
             rotate_left
             ·show Act.put _ (some 28) _ = _
              simp only [Act.put, List.setIfInBounds_toArray, List.set_cons_zero, List.set_cons_succ, i64_w, i32_w]
              rfl
             refine one_ (i := 4) (N := some 26) #[true, true, true, true, true, true, true, false, true, true, true, false, false] rfl rfl (one_of HT_.out (by kernel_rfl)) (by decide) (fun K hK => ?_)
             refine Kd.R_append_rows_step k39 (w0 := w) w.heap.size (by rfl) (.tmp 22) (.tmp 25) 23 39 (.agg #[(.int .i64 0), (.int .i64 0)]) 16 rfl Try.underlying23 info39 rfl (by decide) (by omega) v215 y214 y217 _ _ _ (fun k_ => some k_ ≠ (v225 : Value).ownBlock ∧ k_ ≠ gb212) (fun _ => False) rfl rfl ?aO ?aR (fun _ _ h => h) (fun _ h => h.elim) ?aF ?aB ?aS ?aL ?_
             (case aR => repeat (first | exact (Kd.C_below HR220.out HB.out) | (with_reducible refine Kd.C_alloc ?_ _) | (with_reducible refine Kd.C_drewN ?_ _) | (with_reducible refine Kd.C_drew ?_)))
             (case aB => exact (by repeat (first | (with_reducible first | exact HB.out | apply below_alloc | apply pw_below_drewN | apply below_drew1 | refine below_set ?_ GE212.out) | exact HB.out)))
             (case aF => exact (fun k_ hk => ⟨Kd.fresh' (Kd.R_lt (by (with_reducible repeat (first | apply Kd.R_alloc | apply Kd.R_drewN | apply Kd.R_drew)); exact HO226.out)) k_ hk, Kd.freshB (g := gb212) (o := .cells #[.int .i64 a1_0, .int .i64 a1_1] 39 (0, 0)) (by (with_reducible repeat (first | refine blk_drewN ?_ _ | refine blk_drew ?_ | refine blk_alloc ?_ _)); exact BK212.out) k_ hk⟩))
             (case aO => exact (by (with_reducible repeat (first | apply Kd.R_alloc | apply Kd.R_drewN | apply Kd.R_drew)); exact Kd.R_mono HO216.out (fun _ hk => ⟨hk.2, hk.1.2⟩)))
             (case aS => exact (below_size (by repeat (first | (with_reducible first | exact HB.out | apply below_alloc | apply pw_below_drewN | apply below_drew1 | refine below_set ?_ GE212.out) | exact HB.out))))
             (case aL => have := LMc10.out; omega)
             intro v222 w23 ho hb hg hat
             rw [← Ny221.out] at ho
             have n0_ := Aside0.mk (blk_grown (g := gb212) (o := .cells #[.int .i64 a1_0, .int .i64 a1_1] 39 (0, 0)) (by (with_reducible repeat (first | refine blk_drewN ?_ _ | refine blk_drew ?_ | refine blk_alloc ?_ _)); exact BK212.out) hg (Kd.R_away HO216.out (fun _ hk => hk.1.2)))
             have n1_ := Aside0.mk (Kd.R_after (ok := (fun k_ => k_ ≠ gb212)) (by (with_reducible repeat (first | apply Kd.R_alloc | apply Kd.R_drewN | apply Kd.R_drew)); exact Kd.R_mono HO226.out (fun _ hk => ⟨hk.2, hk.1.2⟩)) hg hat)
             have n2_ := Aside0.mk (hb)
             have n3_ := Aside0.mk (ho)
             clear BK212
             clear HO226
             clear HB
             clear HO216
             have BK212 := n0_
             have HO226 := n1_
             have HB := n2_
             have HO223 := n3_
             clear n0_ n1_ n2_ n3_
             clear ho hb hg hat
             refine hK.out _ _ ⟨(blk_cell BK212.out 0).trans rfl, (blk_cell BK212.out 1).trans rfl⟩ (fun hHeld => ?_)
             clear hK K
             refine norm_ (a' := ?_) ?_ ?_
             rotate_left
             ·show Act.put _ (some 26) _ = _
              simp only [Act.put, List.setIfInBounds_toArray, List.set_cons_zero, List.set_cons_succ, i64_w, i32_w]
              rfl
             exact norm_ (by simp only [putAll, Act.put, List.setIfInBounds_toArray, List.set_cons_zero, List.set_cons_succ]) (hCont (v215, v222, v225) _ ⟨hHeld, (by (with_reducible repeat (first | apply Kd.R_alloc | apply Kd.R_drewN | apply Kd.R_drew)); exact HO223.out), (by (with_reducible repeat (first | apply Kd.R_alloc | apply Kd.R_drewN | apply Kd.R_drew)); exact Kd.R_mono HO226.out (fun _ hk => ⟨hk.2, hk.1⟩)), (by (with_reducible repeat (first | refine blk_drewN ?_ _ | refine blk_drew ?_ | refine blk_alloc ?_ _)); exact BK212.out), (by repeat (first | (with_reducible first | exact HB.out | apply below_alloc | apply pw_below_drewN | apply below_drew1 | refine below_set ?_ GE212.out) | exact HB.out))⟩)
           ·skip
            refine Kd.R_lit_step k39 _ 39 ?hg (N := 28) ?hd (xs := ([(⟨a1_0, a1_1⟩ : S39)] : List (S39))) (inner := [.int .i64 a1_0, .int .i64 a1_1]) (ok := fun _ => True) (okp := fun _ => True) ?hr ?hp (fun _ hk => hk) trivial (Below.refl _ _) (Nat.le_refl _) (by simp) ?_; (case hd => rfl); (case hg => rfl); (case hr => first | (go_simp; done) | (go_simp; rfl)); (case hp => exact (Reps.c2 (show Kd.M k39 _ _ _ (⟨a1_0, a1_1⟩ : S39) [.int .i64 a1_0, .int .i64 a1_1] from (k39_mkM _ _ _ (⟨a1_0, a1_1⟩ : S39) )) (Reps.none _ _)))
            intro v225 w19 ho20 hb hg_ hnew_
            clear hg_ hnew_
            (first | rw [← Ny224.out] at ho20 | (simp only [Int.reduceToNat] at ho20; rw [← Ny224.out] at ho20))
            have n0_ := Aside0.mk (Kd.R_lower (Kd.R_newB ho20 (g := gb212) (o := .cells #[.int .i64 a1_0, .int .i64 a1_1] 39 (0, 0)) (by (with_reducible repeat (first | refine blk_drewN ?_ _ | refine blk_drew ?_ | refine blk_alloc ?_ _)); exact BK212.out)) (below_size (by repeat (first | (with_reducible first | exact HB.out | apply below_alloc | apply pw_below_drewN | apply below_drew1 | refine below_set ?_ GE212.out) | exact HB.out))))
            have n1_ := Aside0.mk (blk_below (g := gb212) (o := .cells #[.int .i64 a1_0, .int .i64 a1_1] 39 (0, 0)) (by (with_reducible repeat (first | refine blk_drewN ?_ _ | refine blk_drew ?_ | refine blk_alloc ?_ _)); exact BK212.out) hb)
            have n2_ := Aside0.mk (below_step (by repeat (first | (with_reducible first | exact HB.out | apply below_alloc | apply pw_below_drewN | apply below_drew1 | refine below_set ?_ GE212.out) | exact HB.out)) hb)
            clear BK212
            clear HB
            have HO226 := n0_
            have BK212 := n1_
            have HB := n2_
            clear n0_ n1_ n2_
            clear hb ho20
            refine hK.out _ _ ⟨(blk_cell BK212.out 0).trans rfl, (blk_cell BK212.out 1).trans rfl⟩ (fun hHeld => ?_)
            clear hK K
            refine norm_ (a' := ?_) ?_ ?_
            rotate_left
            ·show Act.put _ (some 28) _ = _
             simp only [Act.put, List.setIfInBounds_toArray, List.set_cons_zero, List.set_cons_succ, i64_w, i32_w]
             rfl
            refine one_ (i := 0) (N := some 22) #[true, true, true, true, false, true, true, false, true, true, true, false, false] rfl rfl (one_of HT_.out (by kernel_rfl)) (by decide) (fun K hK => ?_)
            refine Kd.R_lit_step k39 _ 39 ?hg (N := 22) ?hd (xs := ([] : List (S39))) (inner := []) (ok := fun _ => True) (okp := fun _ => True) ?hr ?hp (fun _ hk => hk) trivial (Below.refl _ _) (Nat.le_refl _) (by simp) ?_; (case hd => rfl); (case hg => rfl); (case hr => first | (go_simp; done) | (go_simp; rfl)); (case hp => exact (Reps.none _ _))
            intro v215 w21 ho22 hb hg_ hnew_
            clear hg_ hnew_
            (first | rw [← Ny214.out] at ho22 | (simp only [Int.reduceToNat] at ho22; rw [← Ny214.out] at ho22))
            have n0_ := Aside0.mk (Kd.R_elder' (by (with_reducible repeat (first | apply Kd.R_alloc | apply Kd.R_drewN | apply Kd.R_drew)); exact HO226.out) (Kd.R_base ho22) hb)
            have n1_ := Aside0.mk (Kd.R_lower (Kd.R_newB (Kd.R_new' ho22 (Kd.R_lt (by (with_reducible repeat (first | apply Kd.R_alloc | apply Kd.R_drewN | apply Kd.R_drew)); exact HO226.out))) (g := gb212) (o := .cells #[.int .i64 a1_0, .int .i64 a1_1] 39 (0, 0)) (by (with_reducible repeat (first | refine blk_drewN ?_ _ | refine blk_drew ?_ | refine blk_alloc ?_ _)); exact BK212.out)) (below_size (by repeat (first | (with_reducible first | exact HB.out | apply below_alloc | apply pw_below_drewN | apply below_drew1 | refine below_set ?_ GE212.out) | exact HB.out))))
            have n2_ := Aside0.mk (blk_below (g := gb212) (o := .cells #[.int .i64 a1_0, .int .i64 a1_1] 39 (0, 0)) (by (with_reducible repeat (first | refine blk_drewN ?_ _ | refine blk_drew ?_ | refine blk_alloc ?_ _)); exact BK212.out) hb)
            have n3_ := Aside0.mk (below_step (by repeat (first | (with_reducible first | exact HB.out | apply below_alloc | apply pw_below_drewN | apply below_drew1 | refine below_set ?_ GE212.out) | exact HB.out)) hb)
            clear HO226
            clear BK212
            clear HB
            have HO226 := n0_
            have HO216 := n1_
            have BK212 := n2_
            have HB := n3_
            clear n0_ n1_ n2_ n3_
            clear hb ho22
            refine hK.out _ _ ⟨(blk_cell BK212.out 0).trans rfl, (blk_cell BK212.out 1).trans rfl⟩ (fun hHeld => ?_)
            clear hK K
            refine norm_ (a' := ?_) ?_ ?_
            rotate_left
            ·show Act.put _ (some 22) _ = _
             simp only [Act.put, List.setIfInBounds_toArray, List.set_cons_zero, List.set_cons_succ, i64_w, i32_w]
             rfl
            refine one_ (i := 4) (N := some 26) #[true, true, true, true, true, true, true, false, true, true, true, false, false] rfl rfl (one_of HT_.out (by kernel_rfl)) (by decide) (fun K hK => ?_)
            refine Kd.R_append_rows_step k39 (w0 := w) w.heap.size (by rfl) (.tmp 22) (.tmp 25) 23 39 (.agg #[(.int .i64 0), (.int .i64 0)]) 16 rfl Try.underlying23 info39 rfl (by decide) (by omega) v215 y214 y217 _ _ _ (fun k_ => some k_ ≠ (v225 : Value).ownBlock ∧ k_ ≠ gb212) (fun _ => False) rfl rfl ?aO ?aR (fun _ _ h => h) (fun _ h => h.elim) ?aF ?aB ?aS ?aL ?_
            (case aR => repeat (first | exact (Kd.C_below HR220.out HB.out) | (with_reducible refine Kd.C_alloc ?_ _) | (with_reducible refine Kd.C_drewN ?_ _) | (with_reducible refine Kd.C_drew ?_)))
            (case aB => exact (by repeat (first | (with_reducible first | exact HB.out | apply below_alloc | apply pw_below_drewN | apply below_drew1 | refine below_set ?_ GE212.out) | exact HB.out)))
            (case aF => exact (fun k_ hk => ⟨Kd.fresh' (Kd.R_lt (by (with_reducible repeat (first | apply Kd.R_alloc | apply Kd.R_drewN | apply Kd.R_drew)); exact HO226.out)) k_ hk, Kd.freshB (g := gb212) (o := .cells #[.int .i64 a1_0, .int .i64 a1_1] 39 (0, 0)) (by (with_reducible repeat (first | refine blk_drewN ?_ _ | refine blk_drew ?_ | refine blk_alloc ?_ _)); exact BK212.out) k_ hk⟩))
            (case aO => exact (by (with_reducible repeat (first | apply Kd.R_alloc | apply Kd.R_drewN | apply Kd.R_drew)); exact Kd.R_mono HO216.out (fun _ hk => ⟨hk.1.2, hk.2⟩)))
            (case aS => exact (below_size (by repeat (first | (with_reducible first | exact HB.out | apply below_alloc | apply pw_below_drewN | apply below_drew1 | refine below_set ?_ GE212.out) | exact HB.out))))
            (case aL => have := LMc10.out; omega)
            intro v222 w23 ho hb hg hat
            rw [← Ny221.out] at ho
            have n0_ := Aside0.mk (blk_grown (g := gb212) (o := .cells #[.int .i64 a1_0, .int .i64 a1_1] 39 (0, 0)) (by (with_reducible repeat (first | refine blk_drewN ?_ _ | refine blk_drew ?_ | refine blk_alloc ?_ _)); exact BK212.out) hg (Kd.R_away HO216.out (fun _ hk => hk.2)))
            have n1_ := Aside0.mk (Kd.R_after (ok := (fun k_ => k_ ≠ gb212)) (by (with_reducible repeat (first | apply Kd.R_alloc | apply Kd.R_drewN | apply Kd.R_drew)); exact Kd.R_mono HO226.out (fun _ hk => ⟨hk.1.2, hk.2⟩)) hg hat)
            have n2_ := Aside0.mk (hb)
            have n3_ := Aside0.mk (ho)
            clear BK212
            clear HO226
            clear HB
            clear HO216
            have BK212 := n0_
            have HO226 := n1_
            have HB := n2_
            have HO223 := n3_
            clear n0_ n1_ n2_ n3_
            clear ho hb hg hat
            refine hK.out _ _ ⟨(blk_cell BK212.out 0).trans rfl, (blk_cell BK212.out 1).trans rfl⟩ (fun hHeld => ?_)
            clear hK K
            refine norm_ (a' := ?_) ?_ ?_
            rotate_left
            ·show Act.put _ (some 26) _ = _
             simp only [Act.put, List.setIfInBounds_toArray, List.set_cons_zero, List.set_cons_succ, i64_w, i32_w]
             rfl
            exact norm_ (by simp only [putAll, Act.put, List.setIfInBounds_toArray, List.set_cons_zero, List.set_cons_succ]) (hCont (v215, v222, v225) _ ⟨hHeld, (by (with_reducible repeat (first | apply Kd.R_alloc | apply Kd.R_drewN | apply Kd.R_drew)); exact HO223.out), (by (with_reducible repeat (first | apply Kd.R_alloc | apply Kd.R_drewN | apply Kd.R_drew)); exact Kd.R_mono HO226.out (fun _ hk => ⟨hk.2, hk.1⟩)), (by (with_reducible repeat (first | refine blk_drewN ?_ _ | refine blk_drew ?_ | refine blk_alloc ?_ _)); exact BK212.out), (by repeat (first | (with_reducible first | exact HB.out | apply below_alloc | apply pw_below_drewN | apply below_drew1 | refine below_set ?_ GE212.out) | exact HB.out))⟩)
          rintro ⟨v215, v222, v225⟩ w24 ⟨hS_, h0_, h1_, h2_, h3_⟩
          have n0_ : Aside0 (Kd.R k39 39 w24 w.heap.size (fun k_ => some k_ ≠ (v225 : Value).ownBlock ∧ k_ ≠ gb212) v222 y221) := ⟨h0_⟩
          have n1_ : Aside0 (Kd.R k39 39 w24 w.heap.size (fun k_ => some k_ ≠ (v222 : Value).ownBlock ∧ k_ ≠ gb212) v225 y224) := ⟨h1_⟩
          have n2_ : Aside0 (w24.heap[gb212]? = some (.cells #[.int .i64 a1_0, .int .i64 a1_1] 39 (0, 0))) := ⟨h2_⟩
          have n3_ : Aside0 (Below w.heap.size w w24) := ⟨h3_⟩
          clear BK212
          clear HB
          clear h0_ h1_ h2_ h3_
          have HO223 := n0_
          have HO226 := n1_
          have BK212 := n2_
          have HB := n3_
          clear n0_ n1_ n2_ n3_
          have hHeld : w24.cell? ⟨gb212, 0, none⟩ = some (.int .i64 a1_0) ∧ w24.cell? ⟨gb212, 1, none⟩ = some (.int .i64 a1_1) := hS_
          obtain ⟨Ao26, co26, eo26⟩ := Kd.R_slice HO226.out
          (first | subst eo26 | (injection eo26 with f1_ f2_ f3_; have f4_ := f1_.symm; have f5_ := f3_.symm; clear f1_ f2_ f3_; subst f4_; subst f5_))
          refine norm_ (a' := ?_) ?_ ?_
          rotate_left
          ·simp only [putAll, Act.put, List.setIfInBounds_toArray, List.set_cons_zero, List.set_cons_succ]
           rfl
          refine one_ (i := 7) (N := some 29) #[true, true, true, true, true, true, true, true, true, true, true, false, false] rfl rfl (one_of HT_.out (by kernel_rfl)) (by decide) (fun K hK => ?_)
          refine Kd.R_append_rows_step k39 (w0 := w) w.heap.size (by rfl) (.tmp 26) (.tmp 28) 23 39 (.agg #[(.int .i64 0), (.int .i64 0)]) 16 rfl Try.underlying23 info39 rfl (by decide) (by omega) v222 y221 y224 _ _ _ (fun k_ => some k_ ≠ (.slice Ao26 y224.length co26 : Value).ownBlock ∧ k_ ≠ gb212) (fun _ => False) rfl rfl ?aO ?aR (fun _ _ h => h) (fun _ h => h.elim) ?aF ?aB ?aS ?aL ?_
          (case aR => repeat (first | exact (Kd.R_reads' HO226.out).2.2 | (with_reducible refine Kd.C_alloc ?_ _) | (with_reducible refine Kd.C_drewN ?_ _) | (with_reducible refine Kd.C_drew ?_)))
          (case aB => exact (by repeat (first | (with_reducible first | exact HB.out | apply below_alloc | apply pw_below_drewN | apply below_drew1 | refine below_set ?_ GE212.out) | exact HB.out)))
          (case aF => exact (fun k_ hk => ⟨Kd.fresh' (Kd.R_lt (by (with_reducible repeat (first | apply Kd.R_alloc | apply Kd.R_drewN | apply Kd.R_drew)); exact HO226.out)) k_ hk, Kd.freshB (g := gb212) (o := .cells #[.int .i64 a1_0, .int .i64 a1_1] 39 (0, 0)) (by (with_reducible repeat (first | refine blk_drewN ?_ _ | refine blk_drew ?_ | refine blk_alloc ?_ _)); exact BK212.out) k_ hk⟩))
          (case aO => exact (by (with_reducible repeat (first | apply Kd.R_alloc | apply Kd.R_drewN | apply Kd.R_drew)); exact HO223.out))
          (case aS => exact (below_size (by repeat (first | (with_reducible first | exact HB.out | apply below_alloc | apply pw_below_drewN | apply below_drew1 | refine below_set ?_ GE212.out) | exact HB.out))))
          (case aL => have := LMc11.out; omega)
          intro v228 w25 ho hb hg hat
          rw [← Ny227.out] at ho
          have n0_ := Aside0.mk (blk_grown (g := gb212) (o := .cells #[.int .i64 a1_0, .int .i64 a1_1] 39 (0, 0)) (by (with_reducible repeat (first | refine blk_drewN ?_ _ | refine blk_drew ?_ | refine blk_alloc ?_ _)); exact BK212.out) hg (Kd.R_away HO223.out (fun _ hk => hk.2)))
          have n1_ := Aside0.mk (Kd.R_after (ok := (fun k_ => k_ ≠ gb212)) (by (with_reducible repeat (first | apply Kd.R_alloc | apply Kd.R_drewN | apply Kd.R_drew)); exact Kd.R_mono HO226.out (fun _ hk => ⟨hk.2, hk.1⟩)) hg hat)
          have n2_ := Aside0.mk (hb)
          have n3_ := Aside0.mk (ho)
          clear BK212
          clear HO226
          clear HB
          clear HO223
          have BK212 := n0_
          have HO226 := n1_
          have HB := n2_
          have HO229 := n3_
          clear n0_ n1_ n2_ n3_
          clear ho hb hg hat
          refine hK.out _ _ ⟨(blk_cell BK212.out 0).trans rfl, (blk_cell BK212.out 1).trans rfl⟩ (fun hHeld => ?_)
          clear hK K
          refine norm_ (a' := ?_) ?_ ?_
          rotate_left
          ·show Act.put _ (some 29) _ = _
           simp only [Act.put, List.setIfInBounds_toArray, List.set_cons_zero, List.set_cons_succ, i64_w, i32_w]
           rfl
          refine one_ (i := 11) (N := some 33) #[true, true, true, true, true, true, true, true, true, true, true, true, false] rfl rfl (one_of HT_.out (by kernel_rfl)) (by decide) (fun K hK => ?_)
          refine Kd.R_append_rows_step k39 (w0 := w) w.heap.size (by rfl) (.tmp 29) (.tmp 32) 23 39 (.agg #[(.int .i64 0), (.int .i64 0)]) 16 rfl Try.underlying23 info39 rfl (by decide) (by omega) v228 y227 y230 _ _ _ (fun k_ => some k_ ≠ (.slice Ao26 y224.length co26 : Value).ownBlock ∧ k_ ≠ gb212) (fun _ => False) rfl rfl ?aO ?aR (fun _ _ h => h) (fun _ h => h.elim) ?aF ?aB ?aS ?aL ?_
          (case aR => repeat (first | exact (Kd.C_below HR233.out HB.out) | (with_reducible refine Kd.C_alloc ?_ _) | (with_reducible refine Kd.C_drewN ?_ _) | (with_reducible refine Kd.C_drew ?_)))
          (case aB => exact (by repeat (first | (with_reducible first | exact HB.out | apply below_alloc | apply pw_below_drewN | apply below_drew1 | refine below_set ?_ GE212.out) | exact HB.out)))
          (case aF => exact (fun k_ hk => ⟨Kd.fresh' (Kd.R_lt (by (with_reducible repeat (first | apply Kd.R_alloc | apply Kd.R_drewN | apply Kd.R_drew)); exact HO226.out)) k_ hk, Kd.freshB (g := gb212) (o := .cells #[.int .i64 a1_0, .int .i64 a1_1] 39 (0, 0)) (by (with_reducible repeat (first | refine blk_drewN ?_ _ | refine blk_drew ?_ | refine blk_alloc ?_ _)); exact BK212.out) k_ hk⟩))
          (case aO => exact (by (with_reducible repeat (first | apply Kd.R_alloc | apply Kd.R_drewN | apply Kd.R_drew)); exact HO229.out))
          (case aS => exact (below_size (by repeat (first | (with_reducible first | exact HB.out | apply below_alloc | apply pw_below_drewN | apply below_drew1 | refine below_set ?_ GE212.out) | exact HB.out))))
          (case aL => have := LMc14.out; omega)
          intro v235 w27 ho hb hg hat
          rw [← Ny234.out] at ho
          have n0_ := Aside0.mk (blk_grown (g := gb212) (o := .cells #[.int .i64 a1_0, .int .i64 a1_1] 39 (0, 0)) (by (with_reducible repeat (first | refine blk_drewN ?_ _ | refine blk_drew ?_ | refine blk_alloc ?_ _)); exact BK212.out) hg (Kd.R_away HO229.out (fun _ hk => hk.2)))
          have n1_ := Aside0.mk (Kd.R_after (ok := (fun k_ => k_ ≠ gb212)) (by (with_reducible repeat (first | apply Kd.R_alloc | apply Kd.R_drewN | apply Kd.R_drew)); exact HO226.out) hg hat)
          have n2_ := Aside0.mk (hb)
          have n3_ := Aside0.mk (ho)
          clear BK212
          clear HO226
          clear HB
          clear HO229
          have BK212 := n0_
          have HO226 := n1_
          have HB := n2_
          have HO236 := n3_
          clear n0_ n1_ n2_ n3_
          clear ho hb hg hat
          refine hK.out _ _ ⟨(blk_cell BK212.out 0).trans rfl, (blk_cell BK212.out 1).trans rfl⟩ (fun hHeld => ?_)
          clear hK K
          refine norm_ (a' := ?_) ?_ ?_
          rotate_left
          ·show Act.put _ (some 33) _ = _
           simp only [Act.put, List.setIfInBounds_toArray, List.set_cons_zero, List.set_cons_succ, i64_w, i32_w]
           rfl
          refine pure_ (i := 12) (N := some 4) (v := ?_) (a' := ?_) #[true, true, true, true, true, true, true, true, true, true, true, true, true] rfl rfl (any_of HT_.out (by kernel_rfl)) (fun _ _ _ h => h) (Or.inl ⟨by rfl, ?_⟩) ?_ ?_
          rotate_left
          ·intro w'
           go_simp
           with_reducible rfl
          rotate_left
          ·simp only [Act.put, List.setIfInBounds_toArray, List.set_cons_zero, List.set_cons_succ, i64_w, i32_w]
           rfl
          refine done_ (done_of HT_.out (by kernel_rfl)) ?_
          try go_wp2
          go_ret
          exact ⟨_, by first | rfl | (simp [errW_none, errW_some] <;> rfl) | (simp [*, errW_none, errW_some] <;> rfl), by (with_reducible repeat (first | apply Kd.R_alloc | apply Kd.R_drewN | apply Kd.R_drew)); exact Kd.R_mono HO236.out (fun _ hk => trivial), by repeat (first | (with_reducible first | exact HB.out | apply below_alloc | apply pw_below_drewN | apply below_drew1 | refine below_set ?_ GE212.out) | exact HB.out)⟩
         ·rw [if_neg c14] at H
          exact absurd H (by simp)
        ·rw [if_neg c11] at H
         exact absurd H (by simp)
       ·rw [if_neg c10] at H
        exact absurd H (by simp)
      ·rw [if_neg c9] at H
       exact absurd H (by simp)
    ·rw [if_neg c5] at H
     exact absurd H (by simp)
   ·rw [if_neg c4] at H
    have c4b0 : decide (x5_1 < (l0.length : Int)) = false := decide_eq_false c4
    clear c4
    obtain ⟨y237, hy237⟩ : ∃ y_ : List (S39), y_ = (([] : List (S39))) := ⟨_, rfl⟩
    replace H : (if 0 ≤ x5_1 then (if x5_1 ≤ (l0.length : Int) then ((some (l0.take (x5_1 : Int).toNat : List (S39))).bind fun y240 => (if y237.length + y240.length < 8796093022208 then ((some (y237 ++ y240 : List (S39))).bind fun y244 => ((some (([(⟨a1_0, a1_1⟩ : S39)] : List (S39)) : List (S39))).bind fun y247 => (if y244.length + y247.length < 8796093022208 then ((some (y244 ++ y247 : List (S39))).bind fun y250 => ((some (l0.drop (x5_1 : Int).toNat : List (S39))).bind fun y253 => (if y250.length + y253.length < 8796093022208 then (some (y250 ++ y253)) else (none)))) else (none)))) else (none))) else (none)) else (none)) = some r := by first | (rw [hy237]; with_reducible exact H) | (have H2_ := (Option.bind_some _ _).symm.trans H; rw [hy237]; with_reducible exact H2_) | (have H2_ := (Option.bind_some _ _).symm.trans H; with_reducible exact H2_) | with_reducible exact H | (rw [hy237]; exact H) | exact H
    have Ny237 := Aside0.mk hy237
    clear hy237
    by_cases c28 : 0 ≤ x5_1
    ·rw [if_pos c28] at H
     have c28b0 := eq_true c28
     have c28b1 : decide (0 ≤ x5_1) = true := decide_eq_true c28
     clear c28
     by_cases c29 : x5_1 ≤ (l0.length : Int)
     ·rw [if_pos c29] at H
      have c29b0 := eq_true c29
      have c29b1 : decide (x5_1 ≤ (l0.length : Int)) = true := decide_eq_true c29
      clear c29
      obtain ⟨y240, hy240⟩ : ∃ y_ : List (S39), y_ = (l0.take (x5_1 : Int).toNat) := ⟨_, rfl⟩
      replace H : (if y237.length + y240.length < 8796093022208 then ((some (y237 ++ y240 : List (S39))).bind fun y244 => ((some (([(⟨a1_0, a1_1⟩ : S39)] : List (S39)) : List (S39))).bind fun y247 => (if y244.length + y247.length < 8796093022208 then ((some (y244 ++ y247 : List (S39))).bind fun y250 => ((some (l0.drop (x5_1 : Int).toNat : List (S39))).bind fun y253 => (if y250.length + y253.length < 8796093022208 then (some (y250 ++ y253)) else (none)))) else (none)))) else (none)) = some r := by first | (rw [hy240]; with_reducible exact H) | (have H2_ := (Option.bind_some _ _).symm.trans H; rw [hy240]; with_reducible exact H2_) | (have H2_ := (Option.bind_some _ _).symm.trans H; with_reducible exact H2_) | with_reducible exact H | (rw [hy240]; exact H) | exact H
      have Ny240 := Aside0.mk hy240
      clear hy240
      by_cases c30 : y237.length + y240.length < 8796093022208
      ·rw [if_pos c30] at H
       have LMc30 := Aside0.mk c30
       clear c30
       obtain ⟨y244, hy244⟩ : ∃ y_ : List (S39), y_ = (y237 ++ y240) := ⟨_, rfl⟩
       replace H : ((some (([(⟨a1_0, a1_1⟩ : S39)] : List (S39)) : List (S39))).bind fun y247 => (if y244.length + y247.length < 8796093022208 then ((some (y244 ++ y247 : List (S39))).bind fun y250 => ((some (l0.drop (x5_1 : Int).toNat : List (S39))).bind fun y253 => (if y250.length + y253.length < 8796093022208 then (some (y250 ++ y253)) else (none)))) else (none))) = some r := by first | (rw [hy244]; with_reducible exact H) | (have H2_ := (Option.bind_some _ _).symm.trans H; rw [hy244]; with_reducible exact H2_) | (have H2_ := (Option.bind_some _ _).symm.trans H; with_reducible exact H2_) | with_reducible exact H | (rw [hy244]; exact H) | exact H
       have Ny244 := Aside0.mk hy244
       clear hy244
       obtain ⟨y247, hy247⟩ : ∃ y_ : List (S39), y_ = (([(⟨a1_0, a1_1⟩ : S39)] : List (S39))) := ⟨_, rfl⟩
       replace H : (if y244.length + y247.length < 8796093022208 then ((some (y244 ++ y247 : List (S39))).bind fun y250 => ((some (l0.drop (x5_1 : Int).toNat : List (S39))).bind fun y253 => (if y250.length + y253.length < 8796093022208 then (some (y250 ++ y253)) else (none)))) else (none)) = some r := by first | (rw [hy247]; with_reducible exact H) | (have H2_ := (Option.bind_some _ _).symm.trans H; rw [hy247]; with_reducible exact H2_) | (have H2_ := (Option.bind_some _ _).symm.trans H; with_reducible exact H2_) | with_reducible exact H | (rw [hy247]; exact H) | exact H
       have Ny247 := Aside0.mk hy247
       clear hy247
       by_cases c31 : y244.length + y247.length < 8796093022208
       ·rw [if_pos c31] at H
        have LMc31 := Aside0.mk c31
        clear c31
        obtain ⟨y250, hy250⟩ : ∃ y_ : List (S39), y_ = (y244 ++ y247) := ⟨_, rfl⟩
        replace H : ((some (l0.drop (x5_1 : Int).toNat : List (S39))).bind fun y253 => (if y250.length + y253.length < 8796093022208 then (some (y250 ++ y253)) else (none))) = some r := by first | (rw [hy250]; with_reducible exact H) | (have H2_ := (Option.bind_some _ _).symm.trans H; rw [hy250]; with_reducible exact H2_) | (have H2_ := (Option.bind_some _ _).symm.trans H; with_reducible exact H2_) | with_reducible exact H | (rw [hy250]; exact H) | exact H
        have Ny250 := Aside0.mk hy250
        clear hy250
        have c32b0 := eq_true (of_decide_eq_true (by first | (with_reducible assumption) | assumption) : 0 ≤ x5_1)
        have c33b0 := eq_true (of_decide_eq_true (by first | (with_reducible assumption) | assumption) : x5_1 ≤ (l0.length : Int))
        obtain ⟨y253, hy253⟩ : ∃ y_ : List (S39), y_ = (l0.drop (x5_1 : Int).toNat) := ⟨_, rfl⟩
        replace H : (if y250.length + y253.length < 8796093022208 then (some (y250 ++ y253)) else (none)) = some r := by first | (rw [hy253]; with_reducible exact H) | (have H2_ := (Option.bind_some _ _).symm.trans H; rw [hy253]; with_reducible exact H2_) | (have H2_ := (Option.bind_some _ _).symm.trans H; with_reducible exact H2_) | with_reducible exact H | (rw [hy253]; exact H) | exact H
        have Ny253 := Aside0.mk hy253
        clear hy253
        by_cases c34 : y250.length + y253.length < 8796093022208
        ·rw [if_pos c34] at H
         have LMc34 := Aside0.mk c34
         clear c34
         obtain ⟨y257, hy257⟩ : ∃ y_ : List (S39), y_ = (y250 ++ y253) := ⟨_, rfl⟩
         replace H : (some y257) = some r := by first | (rw [hy257]; with_reducible exact H) | (have H2_ := (Option.bind_some _ _).symm.trans H; rw [hy257]; with_reducible exact H2_) | (have H2_ := (Option.bind_some _ _).symm.trans H; with_reducible exact H2_) | with_reducible exact H | (rw [hy257]; exact H) | exact H
         have Ny257 := Aside0.mk hy257
         clear hy257
         obtain rfl := Option.some.inj H
         try go_wp2
         have n0_ := Aside0.mk (blk_drew BK212.out)
         have n1_ := Aside0.mk (below_drew1 HB.out)
         clear BK212
         clear HB
         have BK212 := n0_
         have HB := n1_
         clear n0_ n1_
         refine start_ (n := 14) (S := fun w' => True) (ds := []) #[false, false, false, false, false, false, false, false, false, false, false, false, false, false] (by kernel_rfl) rfl rfl trivial (fun hHeld => ?_); refine with_tabW customsref21_Insert.tab2 customsref21_Insert.bits2 (fun HT_ HW_ => ?_)
         generalize wr.drew = w35 at BK212 HB hHeld ⊢
         refine pure_ (i := 0) (N := some 6) (v := ?_) (a' := ?_) #[true, false, false, false, false, false, false, false, false, false, false, false, false, false] rfl rfl (any_of HT_.out (by kernel_rfl)) (fun _ _ _ h => h) (Or.inl ⟨by rfl, ?_⟩) ?_ ?_
         rotate_left
         ·intro w'
          go_simp
          with_reducible rfl
         rotate_left
         ·simp only [Act.put, List.setIfInBounds_toArray, List.set_cons_zero, List.set_cons_succ, i64_w, i32_w]
          rfl
         refine pure_ (i := 1) (N := some 7) (v := ?_) (a' := ?_) #[true, true, false, false, false, false, false, false, false, false, false, false, false, false] rfl rfl (any_of HT_.out (by kernel_rfl)) (fun _ _ _ h => h) (Or.inl ⟨by rfl, ?_⟩) ?_ ?_
         rotate_left
         ·intro w'
          go_simp
          with_reducible rfl
         rotate_left
         ·simp only [Act.put, List.setIfInBounds_toArray, List.set_cons_zero, List.set_cons_succ, i64_w, i32_w]
          rfl
         refine pure_ (i := 2) (N := some 8) (v := ?_) (a' := ?_) #[true, true, true, false, false, false, false, false, false, false, false, false, false, false] rfl rfl (any_of HT_.out (by kernel_rfl)) (fun _ _ _ h => h) (Or.inl ⟨by rfl, ?_⟩) ?_ ?_
         rotate_left
         ·intro w'
          go_simp
          with_reducible rfl
         rotate_left
         ·simp only [Act.put, List.setIfInBounds_toArray, List.set_cons_zero, List.set_cons_succ, i64_w, i32_w]
          rfl
         refine pure_ (i := 3) (N := some 9) (v := ?_) (a' := ?_) #[true, true, true, true, false, false, false, false, false, false, false, false, false, false] rfl rfl (any_of HT_.out (by kernel_rfl)) (fun _ _ _ h => h) (Or.inl ⟨by rfl, ?_⟩) ?_ ?_
         rotate_left
         ·intro w'
          go_simp
          with_reducible rfl
         rotate_left
         ·simp only [Act.put, List.setIfInBounds_toArray, List.set_cons_zero, List.set_cons_succ, i64_w, i32_w]
          rfl
         refine pure_ (i := 4) (N := some 10) (v := ?_) (a' := ?_) #[true, true, true, true, true, false, false, false, false, false, false, false, false, false] rfl rfl (any_of HT_.out (by kernel_rfl)) (fun _ _ _ h => h) (Or.inl ⟨by rfl, ?_⟩) ?_ ?_
         rotate_left
         ·intro w'
          go_simp
          with_reducible rfl
         rotate_left
         ·simp only [Act.put, List.setIfInBounds_toArray, List.set_cons_zero, List.set_cons_succ, i64_w, i32_w]
          rfl
         refine pure_ (i := 5) (N := some 11) (v := undef) (a' := ?_) #[true, true, true, true, true, true, false, false, false, false, false, false, false, false] rfl rfl (any_of HT_.out (by kernel_rfl)) (fun _ _ _ h => h) (Or.inr ⟨by rfl, rfl⟩) ?_ ?_
         rotate_left
         ·simp only [Act.put, List.setIfInBounds_toArray, List.set_cons_zero, List.set_cons_succ, i64_w, i32_w]
          rfl
         refine pure_ (i := 6) (N := some 12) (v := undef) (a' := ?_) #[true, true, true, true, true, true, true, false, false, false, false, false, false, false] rfl rfl (any_of HT_.out (by kernel_rfl)) (fun _ _ _ h => h) (Or.inr ⟨by rfl, rfl⟩) ?_ ?_
         rotate_left
         ·simp only [Act.put, List.setIfInBounds_toArray, List.set_cons_zero, List.set_cons_succ, i64_w, i32_w]
          rfl
         refine pure_ (i := 7) (N := some 13) (v := undef) (a' := ?_) #[true, true, true, true, true, true, true, true, false, false, false, false, false, false] rfl rfl (any_of HT_.out (by kernel_rfl)) (fun _ _ _ h => h) (Or.inr ⟨by rfl, rfl⟩) ?_ ?_
         rotate_left
         ·simp only [Act.put, List.setIfInBounds_toArray, List.set_cons_zero, List.set_cons_succ, i64_w, i32_w]
          rfl
         refine pure_ (i := 8) (N := some 14) (v := undef) (a' := ?_) #[true, true, true, true, true, true, true, true, true, false, false, false, false, false] rfl rfl (any_of HT_.out (by kernel_rfl)) (fun _ _ _ h => h) (Or.inr ⟨by rfl, rfl⟩) ?_ ?_
         rotate_left
         ·simp only [Act.put, List.setIfInBounds_toArray, List.set_cons_zero, List.set_cons_succ, i64_w, i32_w]
          rfl
         refine pure_ (i := 9) (N := some 15) (v := undef) (a' := ?_) #[true, true, true, true, true, true, true, true, true, true, false, false, false, false] rfl rfl (any_of HT_.out (by kernel_rfl)) (fun _ _ _ h => h) (Or.inr ⟨by rfl, rfl⟩) ?_ ?_
         rotate_left
         ·simp only [Act.put, List.setIfInBounds_toArray, List.set_cons_zero, List.set_cons_succ, i64_w, i32_w]
          rfl
         refine pure_ (i := 10) (N := some 16) (v := undef) (a' := ?_) #[true, true, true, true, true, true, true, true, true, true, true, false, false, false] rfl rfl (any_of HT_.out (by kernel_rfl)) (fun _ _ _ h => h) (Or.inr ⟨by rfl, rfl⟩) ?_ ?_
         rotate_left
         ·simp only [Act.put, List.setIfInBounds_toArray, List.set_cons_zero, List.set_cons_succ, i64_w, i32_w]
          rfl
         refine pure_ (i := 11) (N := some 17) (v := undef) (a' := ?_) #[true, true, true, true, true, true, true, true, true, true, true, true, false, false] rfl rfl (any_of HT_.out (by kernel_rfl)) (fun _ _ _ h => h) (Or.inr ⟨by rfl, rfl⟩) ?_ ?_
         rotate_left
         ·simp only [Act.put, List.setIfInBounds_toArray, List.set_cons_zero, List.set_cons_succ, i64_w, i32_w]
          rfl
         refine pure_ (i := 12) (N := some 18) (v := undef) (a' := ?_) #[true, true, true, true, true, true, true, true, true, true, true, true, true, false] rfl rfl (any_of HT_.out (by kernel_rfl)) (fun _ _ _ h => h) (Or.inr ⟨by rfl, rfl⟩) ?_ ?_
         rotate_left
         ·simp only [Act.put, List.setIfInBounds_toArray, List.set_cons_zero, List.set_cons_succ, i64_w, i32_w]
          rfl
         refine pure_ (i := 13) (N := some 19) (v := ?_) (a' := ?_) #[true, true, true, true, true, true, true, true, true, true, true, true, true, true] rfl rfl (any_of HT_.out (by kernel_rfl)) (fun _ _ _ h => h) (Or.inl ⟨by rfl, ?_⟩) ?_ ?_
         rotate_left
         ·intro w'
          go_simp
          with_reducible rfl
         rotate_left
         ·simp only [Act.put, List.setIfInBounds_toArray, List.set_cons_zero, List.set_cons_succ, i64_w, i32_w]
          rfl
         refine done_ (done_of HT_.out (by kernel_rfl)) ?_
         try go_wp2
         have n0_ := Aside0.mk (blk_drew BK212.out)
         have n1_ := Aside0.mk (below_drew1 HB.out)
         clear BK212
         clear HB
         have BK212 := n0_
         have HB := n1_
         clear n0_ n1_
         have q37 : (x5_1 : Int) ≤ ((l0.length : Int) : Int) := of_decide_eq_true (by first | (with_reducible assumption) | assumption)
         obtain ⟨i037, hi037, _, hsz37, _⟩ := info_parts info39
         have hroom37 : l0.length ≤ c0 := HC0.out
         have hC37 : Kd.C k39 _ A0 l0.length l0 := HR0.out
         have hcut37 := cut_to (P := Try.prog) 23 39 .i64 Try.underlying23 hi037 A0 l0.length c0 x5_1 (of_decide_eq_true (by first | (with_reducible assumption) | assumption)) q37 hroom37
         have hr37 := Kd.C_take (m := (x5_1 : Int).toNat) hC37 (by omega)
         have hy37 : y240.length = (x5_1 : Int).toNat := (by rw [Ny240.out, List.length_take]; omega)
         rw [← Ny240.out] at hr37
         rw [← hy37] at hcut37
         have HR243 := Aside0.mk hr37
         have HC243 := Aside0.mk (show y240.length ≤ c0 from by omega)
         clear hr37 hC37 hroom37 hi037 hsz37
         have KY37 := Aside0.mk hy37
         clear hy37
         replace q37 := eq_true q37
         have q38 : (x5_1 : Int) ≤ ((l0.length : Int) : Int) := of_decide_eq_true (by first | (with_reducible assumption) | assumption)
         obtain ⟨i038, hi038, _, hsz38, _⟩ := info_parts info39
         have hroom38 : l0.length ≤ c0 := HC0.out
         have hC38 : Kd.C k39 _ A0 l0.length l0 := HR0.out
         have q038 : (0 : Int) ≤ (x5_1 : Int) := of_decide_eq_true (by first | (with_reducible assumption) | assumption)
         have hcut38 := cut_from (P := Try.prog) 23 39 .i64 Try.underlying23 hi038 2 hsz38 A0 l0.length c0 x5_1 q038 q38
         have hr38 := Kd.C_drop (m := (x5_1 : Int).toNat) (c := c0) hC38 (by omega) hroom38
         obtain ⟨A38, hA38⟩ : ∃ A1, A1 = (if c0 = (x5_1 : Int).toNat then A0 else (A0 : Option Addr).map (·.add ((x5_1 : Int).toNat * 2))) := ⟨_, rfl⟩
         obtain ⟨c38, hc38⟩ : ∃ c1, c1 = c0 - (x5_1 : Int).toNat := ⟨_, rfl⟩
         have hy38 : y253.length = l0.length - (x5_1 : Int).toNat := (by rw [Ny253.out, List.length_drop] <;> omega)
         rw [show (l0).drop (x5_1 : Int).toNat = y253 from Ny253.out.symm] at hr38
         replace hr38 : Kd.C k39 _ A38 y253.length y253 := (by rw [hA38]; exact hr38)
         rw [← hy38, ← hA38, ← hc38] at hcut38
         have HR256 := Aside0.mk hr38
         have HC256 := Aside0.mk (show y253.length ≤ c38 from by rw [hy38, hc38]; exact Nat.sub_le_sub_right hroom38 _)
         clear hr38 hC38 hroom38 hi038 hsz38 hc38
         have KY38 := Aside0.mk hy38
         have KA38 := Aside0.mk hA38
         clear hy38 hA38
         replace q38 := eq_true q38
         refine start_ (n := 13) (S := fun w' => w'.cell? ⟨gb212, 0, none⟩ = some (.int .i64 a1_0) ∧ w'.cell? ⟨gb212, 1, none⟩ = some (.int .i64 a1_1)) (ds := []) #[false, false, false, false, false, false, false, false, false, false, false, false, false] (by kernel_rfl) rfl rfl ⟨(blk_cell BK212.out 0).trans rfl, (blk_cell BK212.out 1).trans rfl⟩ (fun hHeld => ?_); refine with_tabW customsref21_Insert.tab4 customsref21_Insert.bits4 (fun HT_ HW_ => ?_)
         generalize w35.drew = w36 at BK212 HB HR243 HR256 hHeld ⊢
         refine pure_ (i := 1) (N := some 23) (v := ?_) (a' := ?_) #[false, true, false, false, false, false, false, false, false, false, false, false, false] rfl rfl (any_of HT_.out (by kernel_rfl)) (fun _ _ _ h => h) (Or.inl ⟨by rfl, ?_⟩) ?_ ?_
         rotate_left
         ·intro w'
          go_simp
          with_reducible rfl
         rotate_left
         ·simp only [Act.put, List.setIfInBounds_toArray, List.set_cons_zero, List.set_cons_succ, i64_w, i32_w]
          rfl
         refine pure_ (i := 2) (N := some 24) (v := ?_) (a' := ?_) #[false, true, true, false, false, false, false, false, false, false, false, false, false] rfl rfl (any_of HT_.out (by kernel_rfl)) (fun _ _ _ h => h) (Or.inl ⟨by rfl, ?_⟩) ?_ ?_
         rotate_left
         ·intro w'
          go_simp
          with_reducible rfl
         rotate_left
         ·simp only [Act.put, List.setIfInBounds_toArray, List.set_cons_zero, List.set_cons_succ, i64_w, i32_w]
          rfl
         refine pure_ (i := 3) (N := some 25) (v := ?_) (a' := ?_) #[false, true, true, true, false, false, false, false, false, false, false, false, false] rfl rfl (any_of HT_.out (by kernel_rfl)) (fun _ _ _ h => h) (Or.inl ⟨by rfl, ?_⟩) ?_ ?_
         rotate_left
         ·intro w'
          go_simp
          with_reducible rfl
         rotate_left
         ·simp only [Act.put, List.setIfInBounds_toArray, List.set_cons_zero, List.set_cons_succ, i64_w, i32_w]
          rfl
         refine pure_ (i := 8) (N := some 30) (v := ?_) (a' := ?_) #[false, true, true, true, false, false, false, false, true, false, false, false, false] rfl rfl (any_of HT_.out (by kernel_rfl)) (fun _ _ _ h => h) (Or.inl ⟨by rfl, ?_⟩) ?_ ?_
         rotate_left
         ·intro w'
          go_simp
          with_reducible rfl
         rotate_left
         ·simp only [Act.put, List.setIfInBounds_toArray, List.set_cons_zero, List.set_cons_succ, i64_w, i32_w]
          rfl
         refine pure_ (i := 9) (N := some 31) (v := ?_) (a' := ?_) #[false, true, true, true, false, false, false, false, true, true, false, false, false] rfl rfl (any_of HT_.out (by kernel_rfl)) (fun _ _ _ h => h) (Or.inl ⟨by rfl, ?_⟩) ?_ ?_
         rotate_left
         ·intro w'
          go_simp
          with_reducible rfl
         rotate_left
         ·simp only [Act.put, List.setIfInBounds_toArray, List.set_cons_zero, List.set_cons_succ, i64_w, i32_w]
          rfl
         refine pure_ (i := 10) (N := some 32) (v := ?_) (a' := ?_) #[false, true, true, true, false, false, false, false, true, true, true, false, false] rfl rfl (any_of HT_.out (by kernel_rfl)) (fun _ _ _ h => h) (Or.inl ⟨by rfl, ?_⟩) ?_ ?_
         rotate_left
         ·intro w'
          go_simp
          with_reducible rfl
         rotate_left
         ·simp only [Act.put, List.setIfInBounds_toArray, List.set_cons_zero, List.set_cons_succ, i64_w, i32_w]
          rfl
         refine take_ (i := 5) (N := some 27) (v := ?_) (a' := ?_) #[false, true, true, true, false, true, false, false, true, true, true, false, false] rfl rfl (take_ofW HT_.out HW_.out (by kernel_rfl)) (fun _ _ _ h => h) (Or.inl ⟨by rfl, ?_⟩) hHeld ?_ ?_
         rotate_left
         ·rintro w' ⟨s0, s1⟩
          go_simp
          with_reducible rfl
         rotate_left
         ·simp only [Act.put, List.setIfInBounds_toArray, List.set_cons_zero, List.set_cons_succ, i64_w, i32_w]
          rfl
         refine join_ (σ := Value × Value × Value) 3 #[true, true, true, true, true, true, true, false, true, true, true, false, false] (fun s_ => [(22, s_.1), (26, s_.2.1), (28, s_.2.2)]) (fun s_ w' => (w'.cell? ⟨gb212, 0, none⟩ = some (.int .i64 a1_0) ∧ w'.cell? ⟨gb212, 1, none⟩ = some (.int .i64 a1_1)) ∧ (Kd.R k39 39 w' w.heap.size (fun k_ => some k_ ≠ (s_.2.2 : Value).ownBlock ∧ k_ ≠ gb212) s_.2.1 y244) ∧ (Kd.R k39 39 w' w.heap.size (fun k_ => some k_ ≠ (s_.2.1 : Value).ownBlock ∧ k_ ≠ gb212) s_.2.2 y247) ∧ (w'.heap[gb212]? = some (.cells #[.int .i64 a1_0, .int .i64 a1_1] 39 (0, 0))) ∧ (Below w.heap.size w w')) ?_ ?_
         rotate_left
         ·intro hCont
          refine two_ (i := 0) (j := 6) (Ni := some 22) (Nj := some 28) #[true, true, true, true, false, true, false, false, true, true, true, false, false] #[false, true, true, true, false, true, true, false, true, true, true, false, false] rfl rfl rfl rfl (two_of HT_.out (by kernel_rfl)) (by decide) (by decide) (fun K hK => ?_) (fun K hK => ?_)
          ·skip
           refine Kd.R_lit_step k39 _ 39 ?hg (N := 22) ?hd (xs := ([] : List (S39))) (inner := []) (ok := fun _ => True) (okp := fun _ => True) ?hr ?hp (fun _ hk => hk) trivial (Below.refl _ _) (Nat.le_refl _) (by simp) ?_; (case hd => rfl); (case hg => rfl); (case hr => first | (go_simp; done) | (go_simp; rfl)); (case hp => exact (Reps.none _ _))
           intro v238 w39 ho40 hb hg_ hnew_
           clear hg_ hnew_
           (first | rw [← Ny237.out] at ho40 | (simp only [Int.reduceToNat] at ho40; rw [← Ny237.out] at ho40))
           have n0_ := Aside0.mk (Kd.R_lower (Kd.R_newB ho40 (g := gb212) (o := .cells #[.int .i64 a1_0, .int .i64 a1_1] 39 (0, 0)) (by (with_reducible repeat (first | refine blk_drewN ?_ _ | refine blk_drew ?_ | refine blk_alloc ?_ _)); exact BK212.out)) (below_size (by repeat (first | (with_reducible first | exact HB.out | apply below_alloc | apply pw_below_drewN | apply below_drew1 | refine below_set ?_ GE212.out) | exact HB.out))))
           have n1_ := Aside0.mk (blk_below (g := gb212) (o := .cells #[.int .i64 a1_0, .int .i64 a1_1] 39 (0, 0)) (by (with_reducible repeat (first | refine blk_drewN ?_ _ | refine blk_drew ?_ | refine blk_alloc ?_ _)); exact BK212.out) hb)
           have n2_ := Aside0.mk (below_step (by repeat (first | (with_reducible first | exact HB.out | apply below_alloc | apply pw_below_drewN | apply below_drew1 | refine below_set ?_ GE212.out) | exact HB.out)) hb)
           clear BK212
           clear HB
           have HO239 := n0_
           have BK212 := n1_
           have HB := n2_
           clear n0_ n1_ n2_
           clear hb ho40
           refine hK.out _ _ ⟨(blk_cell BK212.out 0).trans rfl, (blk_cell BK212.out 1).trans rfl⟩ (fun hHeld => ?_)
           clear hK K
           refine norm_ (a' := ?_) ?_ ?_
           rotate_left
           ·show Act.put _ (some 22) _ = _
            simp only [Act.put, List.setIfInBounds_toArray, List.set_cons_zero, List.set_cons_succ, i64_w, i32_w]
            rfl
           refine two_ (i := 4) (j := 6) (Ni := some 26) (Nj := some 28) #[true, true, true, true, true, true, false, false, true, true, true, false, false] #[true, true, true, true, false, true, true, false, true, true, true, false, false] rfl rfl rfl rfl (two_of HT_.out (by kernel_rfl)) (by decide) (by decide) (fun K hK => ?_) (fun K hK => ?_)
           ·skip
            refine Kd.R_append_rows_step k39 (w0 := w) w.heap.size (by rfl) (.tmp 22) (.tmp 25) 23 39 (.agg #[(.int .i64 0), (.int .i64 0)]) 16 rfl Try.underlying23 info39 rfl (by decide) (by omega) v238 y237 y240 _ _ _ (fun k_ => k_ ≠ gb212) (fun _ => False) rfl rfl ?aO ?aR (fun _ _ h => h) (fun _ h => h.elim) ?aF ?aB ?aS ?aL ?_
            (case aR => repeat (first | exact (Kd.C_below HR243.out HB.out) | (with_reducible refine Kd.C_alloc ?_ _) | (with_reducible refine Kd.C_drewN ?_ _) | (with_reducible refine Kd.C_drew ?_)))
            (case aB => exact (by repeat (first | (with_reducible first | exact HB.out | apply below_alloc | apply pw_below_drewN | apply below_drew1 | refine below_set ?_ GE212.out) | exact HB.out)))
            (case aF => exact (fun k_ hk => Kd.freshB (g := gb212) (o := .cells #[.int .i64 a1_0, .int .i64 a1_1] 39 (0, 0)) (by (with_reducible repeat (first | refine blk_drewN ?_ _ | refine blk_drew ?_ | refine blk_alloc ?_ _)); exact BK212.out) k_ hk))
            (case aO => exact (by (with_reducible repeat (first | apply Kd.R_alloc | apply Kd.R_drewN | apply Kd.R_drew)); exact Kd.R_mono HO239.out (fun _ hk => hk.2)))
            (case aS => exact (below_size (by repeat (first | (with_reducible first | exact HB.out | apply below_alloc | apply pw_below_drewN | apply below_drew1 | refine below_set ?_ GE212.out) | exact HB.out))))
            (case aL => have := LMc30.out; omega)
            intro v245 w41 ho hb hg hat
            rw [← Ny244.out] at ho
            have n0_ := Aside0.mk (blk_grown (g := gb212) (o := .cells #[.int .i64 a1_0, .int .i64 a1_1] 39 (0, 0)) (by (with_reducible repeat (first | refine blk_drewN ?_ _ | refine blk_drew ?_ | refine blk_alloc ?_ _)); exact BK212.out) hg (Kd.R_away HO239.out (fun _ hk => hk.2)))
            have n1_ := Aside0.mk (hb)
            have n2_ := Aside0.mk (ho)
            clear BK212
            clear HB
            clear HO239
            have BK212 := n0_
            have HB := n1_
            have HO246 := n2_
            clear n0_ n1_ n2_
            clear ho hb hg hat
            refine hK.out _ _ ⟨(blk_cell BK212.out 0).trans rfl, (blk_cell BK212.out 1).trans rfl⟩ (fun hHeld => ?_)
            clear hK K
            refine norm_ (a' := ?_) ?_ ?_
            rotate_left
            ·show Act.put _ (some 26) _ = _
             simp only [Act.put, List.setIfInBounds_toArray, List.set_cons_zero, List.set_cons_succ, i64_w, i32_w]
             rfl
            refine one_ (i := 6) (N := some 28) #[true, true, true, true, true, true, true, false, true, true, true, false, false] rfl rfl (one_of HT_.out (by kernel_rfl)) (by decide) (fun K hK => ?_)
            refine Kd.R_lit_step k39 _ 39 ?hg (N := 28) ?hd (xs := ([(⟨a1_0, a1_1⟩ : S39)] : List (S39))) (inner := [.int .i64 a1_0, .int .i64 a1_1]) (ok := fun _ => True) (okp := fun _ => True) ?hr ?hp (fun _ hk => hk) trivial (Below.refl _ _) (Nat.le_refl _) (by simp) ?_; (case hd => rfl); (case hg => rfl); (case hr => first | (go_simp; done) | (go_simp; rfl)); (case hp => exact (Reps.c2 (show Kd.M k39 _ _ _ (⟨a1_0, a1_1⟩ : S39) [.int .i64 a1_0, .int .i64 a1_1] from (k39_mkM _ _ _ (⟨a1_0, a1_1⟩ : S39) )) (Reps.none _ _)))
            intro v248 w42 ho43 hb hg_ hnew_
            clear hg_ hnew_
            (first | rw [← Ny247.out] at ho43 | (simp only [Int.reduceToNat] at ho43; rw [← Ny247.out] at ho43))
            have n0_ := Aside0.mk (Kd.R_elder' (by (with_reducible repeat (first | apply Kd.R_alloc | apply Kd.R_drewN | apply Kd.R_drew)); exact HO246.out) (Kd.R_base ho43) hb)
            have n1_ := Aside0.mk (Kd.R_lower (Kd.R_newB (Kd.R_new' ho43 (Kd.R_lt (by (with_reducible repeat (first | apply Kd.R_alloc | apply Kd.R_drewN | apply Kd.R_drew)); exact HO246.out))) (g := gb212) (o := .cells #[.int .i64 a1_0, .int .i64 a1_1] 39 (0, 0)) (by (with_reducible repeat (first | refine blk_drewN ?_ _ | refine blk_drew ?_ | refine blk_alloc ?_ _)); exact BK212.out)) (below_size (by repeat (first | (with_reducible first | exact HB.out | apply below_alloc | apply pw_below_drewN | apply below_drew1 | refine below_set ?_ GE212.out) | exact HB.out))))
            have n2_ := Aside0.mk (blk_below (g := gb212) (o := .cells #[.int .i64 a1_0, .int .i64 a1_1] 39 (0, 0)) (by (with_reducible repeat (first | refine blk_drewN ?_ _ | refine blk_drew ?_ | refine blk_alloc ?_ _)); exact BK212.out) hb)
            have n3_ := Aside0.mk (below_step (by repeat (first | (with_reducible first | exact HB.out | apply below_alloc | apply pw_below_drewN | apply below_drew1 | refine below_set ?_ GE212.out) | exact HB.out)) hb)
            clear HO246
            clear BK212
            clear HB
            have HO246 := n0_
            have HO249 := n1_
            have BK212 := n2_
            have HB := n3_
            clear n0_ n1_ n2_ n3_
            clear hb ho43
            refine hK.out _ _ ⟨(blk_cell BK212.out 0).trans rfl, (blk_cell BK212.out 1).trans rfl⟩ (fun hHeld => ?_)
            clear hK K
            refine norm_ (a' := ?_) ?_ ?_
            rotate_left
            ·show Act.put _ (some 28) _ = _
             simp only [Act.put, List.setIfInBounds_toArray, List.set_cons_zero, List.set_cons_succ, i64_w, i32_w]
             rfl
            exact norm_ (by simp only [putAll, Act.put, List.setIfInBounds_toArray, List.set_cons_zero, List.set_cons_succ]) (hCont (v238, v245, v248) _ ⟨hHeld, (by (with_reducible repeat (first | apply Kd.R_alloc | apply Kd.R_drewN | apply Kd.R_drew)); exact Kd.R_mono HO246.out (fun _ hk => ⟨hk.2, hk.1⟩)), (by (with_reducible repeat (first | apply Kd.R_alloc | apply Kd.R_drewN | apply Kd.R_drew)); exact Kd.R_mono HO249.out (fun _ hk => ⟨hk.1.2, hk.2⟩)), (by (with_reducible repeat (first | refine blk_drewN ?_ _ | refine blk_drew ?_ | refine blk_alloc ?_ _)); exact BK212.out), (by repeat (first | (with_reducible first | exact HB.out | apply below_alloc | apply pw_below_drewN | apply below_drew1 | refine below_set ?_ GE212.out) | exact HB.out))⟩)
           ·skip
            refine Kd.R_lit_step k39 _ 39 ?hg (N := 28) ?hd (xs := ([(⟨a1_0, a1_1⟩ : S39)] : List (S39))) (inner := [.int .i64 a1_0, .int .i64 a1_1]) (ok := fun _ => True) (okp := fun _ => True) ?hr ?hp (fun _ hk => hk) trivial (Below.refl _ _) (Nat.le_refl _) (by simp) ?_; (case hd => rfl); (case hg => rfl); (case hr => first | (go_simp; done) | (go_simp; rfl)); (case hp => exact (Reps.c2 (show Kd.M k39 _ _ _ (⟨a1_0, a1_1⟩ : S39) [.int .i64 a1_0, .int .i64 a1_1] from (k39_mkM _ _ _ (⟨a1_0, a1_1⟩ : S39) )) (Reps.none _ _)))
            intro v248 w41 ho42 hb hg_ hnew_
            clear hg_ hnew_
            (first | rw [← Ny247.out] at ho42 | (simp only [Int.reduceToNat] at ho42; rw [← Ny247.out] at ho42))
            have n0_ := Aside0.mk (Kd.R_elder' (by (with_reducible repeat (first | apply Kd.R_alloc | apply Kd.R_drewN | apply Kd.R_drew)); exact HO239.out) (Kd.R_base ho42) hb)
            have n1_ := Aside0.mk (Kd.R_lower (Kd.R_newB (Kd.R_new' ho42 (Kd.R_lt (by (with_reducible repeat (first | apply Kd.R_alloc | apply Kd.R_drewN | apply Kd.R_drew)); exact HO239.out))) (g := gb212) (o := .cells #[.int .i64 a1_0, .int .i64 a1_1] 39 (0, 0)) (by (with_reducible repeat (first | refine blk_drewN ?_ _ | refine blk_drew ?_ | refine blk_alloc ?_ _)); exact BK212.out)) (below_size (by repeat (first | (with_reducible first | exact HB.out | apply below_alloc | apply pw_below_drewN | apply below_drew1 | refine below_set ?_ GE212.out) | exact HB.out))))
            have n2_ := Aside0.mk (blk_below (g := gb212) (o := .cells #[.int .i64 a1_0, .int .i64 a1_1] 39 (0, 0)) (by (with_reducible repeat (first | refine blk_drewN ?_ _ | refine blk_drew ?_ | refine blk_alloc ?_ _)); exact BK212.out) hb)
            have n3_ := Aside0.mk (below_step (by repeat (first | (with_reducible first | exact HB.out | apply below_alloc | apply pw_below_drewN | apply below_drew1 | refine below_set ?_ GE212.out) | exact HB.out)) hb)
            clear HO239
            clear BK212
            clear HB
            have HO239 := n0_
            have HO249 := n1_
            have BK212 := n2_
            have HB := n3_
            clear n0_ n1_ n2_ n3_
            clear hb ho42
            refine hK.out _ _ ⟨(blk_cell BK212.out 0).trans rfl, (blk_cell BK212.out 1).trans rfl⟩ (fun hHeld => ?_)
            clear hK K
            refine norm_ (a' := ?_) ?_ ?_
            rotate_left
            ·show Act.put _ (some 28) _ = _
             simp only [Act.put, List.setIfInBounds_toArray, List.set_cons_zero, List.set_cons_succ, i64_w, i32_w]
             rfl
            refine one_ (i := 4) (N := some 26) #[true, true, true, true, true, true, true, false, true, true, true, false, false] rfl rfl (one_of HT_.out (by kernel_rfl)) (by decide) (fun K hK => ?_)
            refine Kd.R_append_rows_step k39 (w0 := w) w.heap.size (by rfl) (.tmp 22) (.tmp 25) 23 39 (.agg #[(.int .i64 0), (.int .i64 0)]) 16 rfl Try.underlying23 info39 rfl (by decide) (by omega) v238 y237 y240 _ _ _ (fun k_ => some k_ ≠ (v248 : Value).ownBlock ∧ k_ ≠ gb212) (fun _ => False) rfl rfl ?aO ?aR (fun _ _ h => h) (fun _ h => h.elim) ?aF ?aB ?aS ?aL ?_
            (case aR => repeat (first | exact (Kd.C_below HR243.out HB.out) | (with_reducible refine Kd.C_alloc ?_ _) | (with_reducible refine Kd.C_drewN ?_ _) | (with_reducible refine Kd.C_drew ?_)))
            (case aB => exact (by repeat (first | (with_reducible first | exact HB.out | apply below_alloc | apply pw_below_drewN | apply below_drew1 | refine below_set ?_ GE212.out) | exact HB.out)))
            (case aF => exact (fun k_ hk => ⟨Kd.fresh' (Kd.R_lt (by (with_reducible repeat (first | apply Kd.R_alloc | apply Kd.R_drewN | apply Kd.R_drew)); exact HO249.out)) k_ hk, Kd.freshB (g := gb212) (o := .cells #[.int .i64 a1_0, .int .i64 a1_1] 39 (0, 0)) (by (with_reducible repeat (first | refine blk_drewN ?_ _ | refine blk_drew ?_ | refine blk_alloc ?_ _)); exact BK212.out) k_ hk⟩))
            (case aO => exact (by (with_reducible repeat (first | apply Kd.R_alloc | apply Kd.R_drewN | apply Kd.R_drew)); exact Kd.R_mono HO239.out (fun _ hk => ⟨hk.2, hk.1.2⟩)))
            (case aS => exact (below_size (by repeat (first | (with_reducible first | exact HB.out | apply below_alloc | apply pw_below_drewN | apply below_drew1 | refine below_set ?_ GE212.out) | exact HB.out))))
            (case aL => have := LMc30.out; omega)
            intro v245 w43 ho hb hg hat
            rw [← Ny244.out] at ho
            have n0_ := Aside0.mk (blk_grown (g := gb212) (o := .cells #[.int .i64 a1_0, .int .i64 a1_1] 39 (0, 0)) (by (with_reducible repeat (first | refine blk_drewN ?_ _ | refine blk_drew ?_ | refine blk_alloc ?_ _)); exact BK212.out) hg (Kd.R_away HO239.out (fun _ hk => hk.1.2)))
            have n1_ := Aside0.mk (Kd.R_after (ok := (fun k_ => k_ ≠ gb212)) (by (with_reducible repeat (first | apply Kd.R_alloc | apply Kd.R_drewN | apply Kd.R_drew)); exact Kd.R_mono HO249.out (fun _ hk => ⟨hk.2, hk.1.2⟩)) hg hat)
            have n2_ := Aside0.mk (hb)
            have n3_ := Aside0.mk (ho)
            clear BK212
            clear HO249
            clear HB
            clear HO239
            have BK212 := n0_
            have HO249 := n1_
            have HB := n2_
            have HO246 := n3_
            clear n0_ n1_ n2_ n3_
            clear ho hb hg hat
            refine hK.out _ _ ⟨(blk_cell BK212.out 0).trans rfl, (blk_cell BK212.out 1).trans rfl⟩ (fun hHeld => ?_)
            clear hK K
            refine norm_ (a' := ?_) ?_ ?_
            rotate_left
            ·show Act.put _ (some 26) _ = _
             simp only [Act.put, List.setIfInBounds_toArray, List.set_cons_zero, List.set_cons_succ, i64_w, i32_w]
             rfl
            exact norm_ (by simp only [putAll, Act.put, List.setIfInBounds_toArray, List.set_cons_zero, List.set_cons_succ]) (hCont (v238, v245, v248) _ ⟨hHeld, (by (with_reducible repeat (first | apply Kd.R_alloc | apply Kd.R_drewN | apply Kd.R_drew)); exact HO246.out), (by (with_reducible repeat (first | apply Kd.R_alloc | apply Kd.R_drewN | apply Kd.R_drew)); exact Kd.R_mono HO249.out (fun _ hk => ⟨hk.2, hk.1⟩)), (by (with_reducible repeat (first | refine blk_drewN ?_ _ | refine blk_drew ?_ | refine blk_alloc ?_ _)); exact BK212.out), (by repeat (first | (with_reducible first | exact HB.out | apply below_alloc | apply pw_below_drewN | apply below_drew1 | refine below_set ?_ GE212.out) | exact HB.out))⟩)
          ·skip
           refine Kd.R_lit_step k39 _ 39 ?hg (N := 28) ?hd (xs := ([(⟨a1_0, a1_1⟩ : S39)] : List (S39))) (inner := [.int .i64 a1_0, .int .i64 a1_1]) (ok := fun _ => True) (okp := fun _ => True) ?hr ?hp (fun _ hk => hk) trivial (Below.refl _ _) (Nat.le_refl _) (by simp) ?_; (case hd => rfl); (case hg => rfl); (case hr => first | (go_simp; done) | (go_simp; rfl)); (case hp => exact (Reps.c2 (show Kd.M k39 _ _ _ (⟨a1_0, a1_1⟩ : S39) [.int .i64 a1_0, .int .i64 a1_1] from (k39_mkM _ _ _ (⟨a1_0, a1_1⟩ : S39) )) (Reps.none _ _)))
           intro v248 w39 ho40 hb hg_ hnew_
           clear hg_ hnew_
           (first | rw [← Ny247.out] at ho40 | (simp only [Int.reduceToNat] at ho40; rw [← Ny247.out] at ho40))
           have n0_ := Aside0.mk (Kd.R_lower (Kd.R_newB ho40 (g := gb212) (o := .cells #[.int .i64 a1_0, .int .i64 a1_1] 39 (0, 0)) (by (with_reducible repeat (first | refine blk_drewN ?_ _ | refine blk_drew ?_ | refine blk_alloc ?_ _)); exact BK212.out)) (below_size (by repeat (first | (with_reducible first | exact HB.out | apply below_alloc | apply pw_below_drewN | apply below_drew1 | refine below_set ?_ GE212.out) | exact HB.out))))
           have n1_ := Aside0.mk (blk_below (g := gb212) (o := .cells #[.int .i64 a1_0, .int .i64 a1_1] 39 (0, 0)) (by (with_reducible repeat (first | refine blk_drewN ?_ _ | refine blk_drew ?_ | refine blk_alloc ?_ _)); exact BK212.out) hb)
           have n2_ := Aside0.mk (below_step (by repeat (first | (with_reducible first | exact HB.out | apply below_alloc | apply pw_below_drewN | apply below_drew1 | refine below_set ?_ GE212.out) | exact HB.out)) hb)
           clear BK212
           clear HB
           have HO249 := n0_
           have BK212 := n1_
           have HB := n2_
           clear n0_ n1_ n2_
           clear hb ho40
           refine hK.out _ _ ⟨(blk_cell BK212.out 0).trans rfl, (blk_cell BK212.out 1).trans rfl⟩ (fun hHeld => ?_)
           clear hK K
           refine norm_ (a' := ?_) ?_ ?_
           rotate_left
           ·show Act.put _ (some 28) _ = _
            simp only [Act.put, List.setIfInBounds_toArray, List.set_cons_zero, List.set_cons_succ, i64_w, i32_w]
            rfl
           refine one_ (i := 0) (N := some 22) #[true, true, true, true, false, true, true, false, true, true, true, false, false] rfl rfl (one_of HT_.out (by kernel_rfl)) (by decide) (fun K hK => ?_)
           refine Kd.R_lit_step k39 _ 39 ?hg (N := 22) ?hd (xs := ([] : List (S39))) (inner := []) (ok := fun _ => True) (okp := fun _ => True) ?hr ?hp (fun _ hk => hk) trivial (Below.refl _ _) (Nat.le_refl _) (by simp) ?_; (case hd => rfl); (case hg => rfl); (case hr => first | (go_simp; done) | (go_simp; rfl)); (case hp => exact (Reps.none _ _))
           intro v238 w41 ho42 hb hg_ hnew_
           clear hg_ hnew_
           (first | rw [← Ny237.out] at ho42 | (simp only [Int.reduceToNat] at ho42; rw [← Ny237.out] at ho42))
           have n0_ := Aside0.mk (Kd.R_elder' (by (with_reducible repeat (first | apply Kd.R_alloc | apply Kd.R_drewN | apply Kd.R_drew)); exact HO249.out) (Kd.R_base ho42) hb)
           have n1_ := Aside0.mk (Kd.R_lower (Kd.R_newB (Kd.R_new' ho42 (Kd.R_lt (by (with_reducible repeat (first | apply Kd.R_alloc | apply Kd.R_drewN | apply Kd.R_drew)); exact HO249.out))) (g := gb212) (o := .cells #[.int .i64 a1_0, .int .i64 a1_1] 39 (0, 0)) (by (with_reducible repeat (first | refine blk_drewN ?_ _ | refine blk_drew ?_ | refine blk_alloc ?_ _)); exact BK212.out)) (below_size (by repeat (first | (with_reducible first | exact HB.out | apply below_alloc | apply pw_below_drewN | apply below_drew1 | refine below_set ?_ GE212.out) | exact HB.out))))
           have n2_ := Aside0.mk (blk_below (g := gb212) (o := .cells #[.int .i64 a1_0, .int .i64 a1_1] 39 (0, 0)) (by (with_reducible repeat (first | refine blk_drewN ?_ _ | refine blk_drew ?_ | refine blk_alloc ?_ _)); exact BK212.out) hb)
           have n3_ := Aside0.mk (below_step (by repeat (first | (with_reducible first | exact HB.out | apply below_alloc | apply pw_below_drewN | apply below_drew1 | refine below_set ?_ GE212.out) | exact HB.out)) hb)
           clear HO249
           clear BK212
           clear HB
           have HO249 := n0_
           have HO239 := n1_
           have BK212 := n2_
           have HB := n3_
           clear n0_ n1_ n2_ n3_
           clear hb ho42
           refine hK.out _ _ ⟨(blk_cell BK212.out 0).trans rfl, (blk_cell BK212.out 1).trans rfl⟩ (fun hHeld => ?_)
           clear hK K
           refine norm_ (a' := ?_) ?_ ?_
           rotate_left
           ·show Act.put _ (some 22) _ = _
            simp only [Act.put, List.setIfInBounds_toArray, List.set_cons_zero, List.set_cons_succ, i64_w, i32_w]
            rfl
           refine one_ (i := 4) (N := some 26) #[true, true, true, true, true, true, true, false, true, true, true, false, false] rfl rfl (one_of HT_.out (by kernel_rfl)) (by decide) (fun K hK => ?_)
           refine Kd.R_append_rows_step k39 (w0 := w) w.heap.size (by rfl) (.tmp 22) (.tmp 25) 23 39 (.agg #[(.int .i64 0), (.int .i64 0)]) 16 rfl Try.underlying23 info39 rfl (by decide) (by omega) v238 y237 y240 _ _ _ (fun k_ => some k_ ≠ (v248 : Value).ownBlock ∧ k_ ≠ gb212) (fun _ => False) rfl rfl ?aO ?aR (fun _ _ h => h) (fun _ h => h.elim) ?aF ?aB ?aS ?aL ?_
           (case aR => repeat (first | exact (Kd.C_below HR243.out HB.out) | (with_reducible refine Kd.C_alloc ?_ _) | (with_reducible refine Kd.C_drewN ?_ _) | (with_reducible refine Kd.C_drew ?_)))
           (case aB => exact (by repeat (first | (with_reducible first | exact HB.out | apply below_alloc | apply pw_below_drewN | apply below_drew1 | refine below_set ?_ GE212.out) | exact HB.out)))
           (case aF => exact (fun k_ hk => ⟨Kd.fresh' (Kd.R_lt (by (with_reducible repeat (first | apply Kd.R_alloc | apply Kd.R_drewN | apply Kd.R_drew)); exact HO249.out)) k_ hk, Kd.freshB (g := gb212) (o := .cells #[.int .i64 a1_0, .int .i64 a1_1] 39 (0, 0)) (by (with_reducible repeat (first | refine blk_drewN ?_ _ | refine blk_drew ?_ | refine blk_alloc ?_ _)); exact BK212.out) k_ hk⟩))
           (case aO => exact (by (with_reducible repeat (first | apply Kd.R_alloc | apply Kd.R_drewN | apply Kd.R_drew)); exact Kd.R_mono HO239.out (fun _ hk => ⟨hk.1.2, hk.2⟩)))
           (case aS => exact (below_size (by repeat (first | (with_reducible first | exact HB.out | apply below_alloc | apply pw_below_drewN | apply below_drew1 | refine below_set ?_ GE212.out) | exact HB.out))))
           (case aL => have := LMc30.out; omega)
           intro v245 w43 ho hb hg hat
           rw [← Ny244.out] at ho
           have n0_ := Aside0.mk (blk_grown (g := gb212) (o := .cells #[.int .i64 a1_0, .int .i64 a1_1] 39 (0, 0)) (by (with_reducible repeat (first | refine blk_drewN ?_ _ | refine blk_drew ?_ | refine blk_alloc ?_ _)); exact BK212.out) hg (Kd.R_away HO239.out (fun _ hk => hk.2)))
           have n1_ := Aside0.mk (Kd.R_after (ok := (fun k_ => k_ ≠ gb212)) (by (with_reducible repeat (first | apply Kd.R_alloc | apply Kd.R_drewN | apply Kd.R_drew)); exact Kd.R_mono HO249.out (fun _ hk => ⟨hk.1.2, hk.2⟩)) hg hat)
           have n2_ := Aside0.mk (hb)
           have n3_ := Aside0.mk (ho)
           clear BK212
           clear HO249
           clear HB
           clear HO239
           have BK212 := n0_
           have HO249 := n1_
           have HB := n2_
           have HO246 := n3_
           clear n0_ n1_ n2_ n3_
           clear ho hb hg hat
           refine hK.out _ _ ⟨(blk_cell BK212.out 0).trans rfl, (blk_cell BK212.out 1).trans rfl⟩ (fun hHeld => ?_)
           clear hK K
           refine norm_ (a' := ?_) ?_ ?_
           rotate_left
           ·show Act.put _ (some 26) _ = _
            simp only [Act.put, List.setIfInBounds_toArray, List.set_cons_zero, List.set_cons_succ, i64_w, i32_w]
            rfl
           exact norm_ (by simp only [putAll, Act.put, List.setIfInBounds_toArray, List.set_cons_zero, List.set_cons_succ]) (hCont (v238, v245, v248) _ ⟨hHeld, (by (with_reducible repeat (first | apply Kd.R_alloc | apply Kd.R_drewN | apply Kd.R_drew)); exact HO246.out), (by (with_reducible repeat (first | apply Kd.R_alloc | apply Kd.R_drewN | apply Kd.R_drew)); exact Kd.R_mono HO249.out (fun _ hk => ⟨hk.2, hk.1⟩)), (by (with_reducible repeat (first | refine blk_drewN ?_ _ | refine blk_drew ?_ | refine blk_alloc ?_ _)); exact BK212.out), (by repeat (first | (with_reducible first | exact HB.out | apply below_alloc | apply pw_below_drewN | apply below_drew1 | refine below_set ?_ GE212.out) | exact HB.out))⟩)
         rintro ⟨v238, v245, v248⟩ w44 ⟨hS_, h0_, h1_, h2_, h3_⟩
         have n0_ : Aside0 (Kd.R k39 39 w44 w.heap.size (fun k_ => some k_ ≠ (v248 : Value).ownBlock ∧ k_ ≠ gb212) v245 y244) := ⟨h0_⟩
         have n1_ : Aside0 (Kd.R k39 39 w44 w.heap.size (fun k_ => some k_ ≠ (v245 : Value).ownBlock ∧ k_ ≠ gb212) v248 y247) := ⟨h1_⟩
         have n2_ : Aside0 (w44.heap[gb212]? = some (.cells #[.int .i64 a1_0, .int .i64 a1_1] 39 (0, 0))) := ⟨h2_⟩
         have n3_ : Aside0 (Below w.heap.size w w44) := ⟨h3_⟩
         clear BK212
         clear HB
         clear h0_ h1_ h2_ h3_
         have HO246 := n0_
         have HO249 := n1_
         have BK212 := n2_
         have HB := n3_
         clear n0_ n1_ n2_ n3_
         have hHeld : w44.cell? ⟨gb212, 0, none⟩ = some (.int .i64 a1_0) ∧ w44.cell? ⟨gb212, 1, none⟩ = some (.int .i64 a1_1) := hS_
         obtain ⟨Ao46, co46, eo46⟩ := Kd.R_slice HO249.out
         (first | subst eo46 | (injection eo46 with f1_ f2_ f3_; have f4_ := f1_.symm; have f5_ := f3_.symm; clear f1_ f2_ f3_; subst f4_; subst f5_))
         refine norm_ (a' := ?_) ?_ ?_
         rotate_left
         ·simp only [putAll, Act.put, List.setIfInBounds_toArray, List.set_cons_zero, List.set_cons_succ]
          rfl
         refine one_ (i := 7) (N := some 29) #[true, true, true, true, true, true, true, true, true, true, true, false, false] rfl rfl (one_of HT_.out (by kernel_rfl)) (by decide) (fun K hK => ?_)
         refine Kd.R_append_rows_step k39 (w0 := w) w.heap.size (by rfl) (.tmp 26) (.tmp 28) 23 39 (.agg #[(.int .i64 0), (.int .i64 0)]) 16 rfl Try.underlying23 info39 rfl (by decide) (by omega) v245 y244 y247 _ _ _ (fun k_ => some k_ ≠ (.slice Ao46 y247.length co46 : Value).ownBlock ∧ k_ ≠ gb212) (fun _ => False) rfl rfl ?aO ?aR (fun _ _ h => h) (fun _ h => h.elim) ?aF ?aB ?aS ?aL ?_
         (case aR => repeat (first | exact (Kd.R_reads' HO249.out).2.2 | (with_reducible refine Kd.C_alloc ?_ _) | (with_reducible refine Kd.C_drewN ?_ _) | (with_reducible refine Kd.C_drew ?_)))
         (case aB => exact (by repeat (first | (with_reducible first | exact HB.out | apply below_alloc | apply pw_below_drewN | apply below_drew1 | refine below_set ?_ GE212.out) | exact HB.out)))
         (case aF => exact (fun k_ hk => ⟨Kd.fresh' (Kd.R_lt (by (with_reducible repeat (first | apply Kd.R_alloc | apply Kd.R_drewN | apply Kd.R_drew)); exact HO249.out)) k_ hk, Kd.freshB (g := gb212) (o := .cells #[.int .i64 a1_0, .int .i64 a1_1] 39 (0, 0)) (by (with_reducible repeat (first | refine blk_drewN ?_ _ | refine blk_drew ?_ | refine blk_alloc ?_ _)); exact BK212.out) k_ hk⟩))
         (case aO => exact (by (with_reducible repeat (first | apply Kd.R_alloc | apply Kd.R_drewN | apply Kd.R_drew)); exact HO246.out))
         (case aS => exact (below_size (by repeat (first | (with_reducible first | exact HB.out | apply below_alloc | apply pw_below_drewN | apply below_drew1 | refine below_set ?_ GE212.out) | exact HB.out))))
         (case aL => have := LMc31.out; omega)
         intro v251 w45 ho hb hg hat
         rw [← Ny250.out] at ho
         have n0_ := Aside0.mk (blk_grown (g := gb212) (o := .cells #[.int .i64 a1_0, .int .i64 a1_1] 39 (0, 0)) (by (with_reducible repeat (first | refine blk_drewN ?_ _ | refine blk_drew ?_ | refine blk_alloc ?_ _)); exact BK212.out) hg (Kd.R_away HO246.out (fun _ hk => hk.2)))
         have n1_ := Aside0.mk (Kd.R_after (ok := (fun k_ => k_ ≠ gb212)) (by (with_reducible repeat (first | apply Kd.R_alloc | apply Kd.R_drewN | apply Kd.R_drew)); exact Kd.R_mono HO249.out (fun _ hk => ⟨hk.2, hk.1⟩)) hg hat)
         have n2_ := Aside0.mk (hb)
         have n3_ := Aside0.mk (ho)
         clear BK212
         clear HO249
         clear HB
         clear HO246
         have BK212 := n0_
         have HO249 := n1_
         have HB := n2_
         have HO252 := n3_
         clear n0_ n1_ n2_ n3_
         clear ho hb hg hat
         refine hK.out _ _ ⟨(blk_cell BK212.out 0).trans rfl, (blk_cell BK212.out 1).trans rfl⟩ (fun hHeld => ?_)
         clear hK K
         refine norm_ (a' := ?_) ?_ ?_
         rotate_left
         ·show Act.put _ (some 29) _ = _
          simp only [Act.put, List.setIfInBounds_toArray, List.set_cons_zero, List.set_cons_succ, i64_w, i32_w]
          rfl
         refine one_ (i := 11) (N := some 33) #[true, true, true, true, true, true, true, true, true, true, true, true, false] rfl rfl (one_of HT_.out (by kernel_rfl)) (by decide) (fun K hK => ?_)
         refine Kd.R_append_rows_step k39 (w0 := w) w.heap.size (by rfl) (.tmp 29) (.tmp 32) 23 39 (.agg #[(.int .i64 0), (.int .i64 0)]) 16 rfl Try.underlying23 info39 rfl (by decide) (by omega) v251 y250 y253 _ _ _ (fun k_ => some k_ ≠ (.slice Ao46 y247.length co46 : Value).ownBlock ∧ k_ ≠ gb212) (fun _ => False) rfl rfl ?aO ?aR (fun _ _ h => h) (fun _ h => h.elim) ?aF ?aB ?aS ?aL ?_
         (case aR => repeat (first | exact (Kd.C_below HR256.out HB.out) | (with_reducible refine Kd.C_alloc ?_ _) | (with_reducible refine Kd.C_drewN ?_ _) | (with_reducible refine Kd.C_drew ?_)))
         (case aB => exact (by repeat (first | (with_reducible first | exact HB.out | apply below_alloc | apply pw_below_drewN | apply below_drew1 | refine below_set ?_ GE212.out) | exact HB.out)))
         (case aF => exact (fun k_ hk => ⟨Kd.fresh' (Kd.R_lt (by (with_reducible repeat (first | apply Kd.R_alloc | apply Kd.R_drewN | apply Kd.R_drew)); exact HO249.out)) k_ hk, Kd.freshB (g := gb212) (o := .cells #[.int .i64 a1_0, .int .i64 a1_1] 39 (0, 0)) (by (with_reducible repeat (first | refine blk_drewN ?_ _ | refine blk_drew ?_ | refine blk_alloc ?_ _)); exact BK212.out) k_ hk⟩))
         (case aO => exact (by (with_reducible repeat (first | apply Kd.R_alloc | apply Kd.R_drewN | apply Kd.R_drew)); exact HO252.out))
         (case aS => exact (below_size (by repeat (first | (with_reducible first | exact HB.out | apply below_alloc | apply pw_below_drewN | apply below_drew1 | refine below_set ?_ GE212.out) | exact HB.out))))
         (case aL => have := LMc34.out; omega)
         intro v258 w47 ho hb hg hat
         rw [← Ny257.out] at ho
         have n0_ := Aside0.mk (blk_grown (g := gb212) (o := .cells #[.int .i64 a1_0, .int .i64 a1_1] 39 (0, 0)) (by (with_reducible repeat (first | refine blk_drewN ?_ _ | refine blk_drew ?_ | refine blk_alloc ?_ _)); exact BK212.out) hg (Kd.R_away HO252.out (fun _ hk => hk.2)))
         have n1_ := Aside0.mk (Kd.R_after (ok := (fun k_ => k_ ≠ gb212)) (by (with_reducible repeat (first | apply Kd.R_alloc | apply Kd.R_drewN | apply Kd.R_drew)); exact HO249.out) hg hat)
         have n2_ := Aside0.mk (hb)
         have n3_ := Aside0.mk (ho)
         clear BK212
         clear HO249
         clear HB
         clear HO252
         have BK212 := n0_
         have HO249 := n1_
         have HB := n2_
         have HO259 := n3_
         clear n0_ n1_ n2_ n3_
         clear ho hb hg hat
         refine hK.out _ _ ⟨(blk_cell BK212.out 0).trans rfl, (blk_cell BK212.out 1).trans rfl⟩ (fun hHeld => ?_)
         clear hK K
         refine norm_ (a' := ?_) ?_ ?_
         rotate_left
         ·show Act.put _ (some 33) _ = _
          simp only [Act.put, List.setIfInBounds_toArray, List.set_cons_zero, List.set_cons_succ, i64_w, i32_w]
          rfl
         refine pure_ (i := 12) (N := some 4) (v := ?_) (a' := ?_) #[true, true, true, true, true, true, true, true, true, true, true, true, true] rfl rfl (any_of HT_.out (by kernel_rfl)) (fun _ _ _ h => h) (Or.inl ⟨by rfl, ?_⟩) ?_ ?_
         rotate_left
         ·intro w'
          go_simp
          with_reducible rfl
         rotate_left
         ·simp only [Act.put, List.setIfInBounds_toArray, List.set_cons_zero, List.set_cons_succ, i64_w, i32_w]
          rfl
         refine done_ (done_of HT_.out (by kernel_rfl)) ?_
         try go_wp2
         go_ret
         exact ⟨_, by first | rfl | (simp [errW_none, errW_some] <;> rfl) | (simp [*, errW_none, errW_some] <;> rfl), by (with_reducible repeat (first | apply Kd.R_alloc | apply Kd.R_drewN | apply Kd.R_drew)); exact Kd.R_mono HO259.out (fun _ hk => trivial), by repeat (first | (with_reducible first | exact HB.out | apply below_alloc | apply pw_below_drewN | apply below_drew1 | refine below_set ?_ GE212.out) | exact HB.out)⟩
        ·rw [if_neg c34] at H
         exact absurd H (by simp)
       ·rw [if_neg c31] at H
        exact absurd H (by simp)
      ·rw [if_neg c30] at H
       exact absurd H (by simp)
     ·rw [if_neg c29] at H
      exact absurd H (by simp)
    ·rw [if_neg c28] at H
     exact absurd H (by simp)
end Go.Proofs.Ytakhjhiofmgpnaa.PA
-- Written by a program of this claim (wip/tools: mkprint.py, pr.sh) out of the translation: plain functions and their contracts. Lean checks every line.
namespace Go.Proofs.Ytakhjhiofmgpnaa.PA
open Go.RowKit Go.Proofs.YtakhjhiofmgpnaaW.PrintWords Go.Proofs.YtakhjhiofmgpnaaW.PrintLast Go.Proofs.YtakhjhiofmgpnaaW.PrintMore Go.Proofs.Ytakhjhiofmgpnaa.G
attribute [local go_sem] max2_int min2_int max_two min_two max_three min_three max_four min_four   -- for this text's walks alone
set_option linter.unusedVariables false
set_option linter.unusedSimpArgs false
mutual
def customsref21_Set.j0 : Nat → Int → Int → Bool → Int → Int → Int → List (S39) → Option (Int × Int × Int × (List (S39)) × Int)
 | 0, _, _, _, _, _, _, _ => none
 | k + 1, x1, x2, x32, x261000, x261001, x261002, x261003 => if x32 = true then (some (0, 0, 0, ([] : List (S39)), 2)) else ((customsref21_without.f k x261003 x1).bind fun bt263 => (if bt263.2 < 0 then (customsref21_Set.j1 k x1 x2 bt263.1 (decide ((x261003.length : Int) ≥ 64)) x261000 x261001 x261002 x261003) else (customsref21_Set.j1 k x1 x2 bt263.1 false x261000 x261001 x261002 x261003)))
def customsref21_Set.j1 : Nat → Int → Int → List (S39) → Bool → Int → Int → Int → List (S39) → Option (Int × Int × Int × (List (S39)) × Int)
 | 0, _, _, _, _, _, _, _, _ => none
 | k + 1, x1, x2, x9, x48, x261000, x261001, x261002, x261003 => if x48 = true then (some (0, 0, 0, ([] : List (S39)), 8)) else ((customsref21_Required.f x261000 x261001 x261002 x261003 x2).bind fun bt267 => ((customsref21_Total.f k x261000 x261001 x261002 x9).bind fun t269 => (if (wrap64 (t269 + bt267.1)) > x261001 then (some (0, 0, 0, ([] : List (S39)), 16)) else ((customsref21_Insert.f k x9 x1 bt267.1).bind fun t270 => (some (x261000, x261001, x261002, t270, 0))))))
end
def customsref21_Set.f (k : Nat) (a0_0 : Int) (a0_1 : Int) (a0_2 : Int) (l0_3 : List (S39)) (a1 : Int) (a2 : Int) : Option (Int × Int × Int × (List (S39)) × Int) := (customsref21_ValidGuarantee.f k a0_0 a0_1 a0_2 l0_3).bind fun t262 => (if t262 = 0 then (if a1 < 1 then (customsref21_Set.j0 k a1 a2 true a0_0 a0_1 a0_2 l0_3) else (if a1 > 1000000 then (customsref21_Set.j0 k a1 a2 true a0_0 a0_1 a0_2 l0_3) else (if a2 < 0 then (customsref21_Set.j0 k a1 a2 true a0_0 a0_1 a0_2 l0_3) else (customsref21_Set.j0 k a1 a2 (decide (a2 > 1000000000000)) a0_0 a0_1 a0_2 l0_3)))) else (some (0, 0, 0, ([] : List (S39)), t262)))
set_option maxHeartbeats 8000000 in
set_option maxRecDepth 100000 in
theorem customsref21_Set.calls (k : Nat) (a0_0 : Int) (a0_1 : Int) (a0_2 : Int) (A0_3 : Option Addr) (c0_3 : Nat) (l0_3 : List (S39)) (a1 : Int) (a2 : Int) (r1 : Int) (r2 : Int) (r3 : Int) (r4 : List (S39)) (r5 : Int) (w : World) (hr0_3 : Kd.C k39 w A0_3 l0_3.length l0_3) (hc0_3 : l0_3.length ≤ c0_3) (h : customsref21_Set.f k a0_0 a0_1 a0_2 l0_3 a1 a2 = some (r1, r2, r3, r4, r5)) :
  Calls Try.prog 22 #[.agg #[.int .i64 a0_0, .int .i64 a0_1, .int .i64 a0_2, .slice A0_3 l0_3.length c0_3], .int .i64 a1, .int .i64 a2] w fun e w' => ∃ v3_ : Value, e = .returned (.tuple #[.agg #[.int .i64 r1, .int .i64 r2, .int .i64 r3, v3_], .int .i64 r5]) ∧ Kd.R k39 39 w' w.heap.size (fun _ => True) v3_ r4 ∧ Below w.heap.size w w' := by
 have hu25 := Try.underlying25
 have hu39 := Try.underlying39
 have HR0_3 := Aside0.mk hr0_3
 have HC0_3 := Aside0.mk hc0_3
 clear hr0_3 hc0_3
 have HB := Aside0.mk (Below.refl w.heap.size w)
 have H : ((customsref21_ValidGuarantee.f k a0_0 a0_1 a0_2 l0_3).bind fun t262 => (if t262 = 0 then (if a1 < 1 then (customsref21_Set.j0 k a1 a2 true a0_0 a0_1 a0_2 l0_3) else (if a1 > 1000000 then (customsref21_Set.j0 k a1 a2 true a0_0 a0_1 a0_2 l0_3) else (if a2 < 0 then (customsref21_Set.j0 k a1 a2 true a0_0 a0_1 a0_2 l0_3) else (customsref21_Set.j0 k a1 a2 (decide (a2 > 1000000000000)) a0_0 a0_1 a0_2 l0_3)))) else (some (0, 0, 0, ([] : List (S39)), t262)))) = some (r1, r2, r3, r4, r5) := h
 clear h
 replace H := Option.bind_eq_some_iff.mp H
 obtain ⟨t262, A40, H⟩ := H
 replace H : (if t262 = 0 then (if a1 < 1 then (customsref21_Set.j0 k a1 a2 true a0_0 a0_1 a0_2 l0_3) else (if a1 > 1000000 then (customsref21_Set.j0 k a1 a2 true a0_0 a0_1 a0_2 l0_3) else (if a2 < 0 then (customsref21_Set.j0 k a1 a2 true a0_0 a0_1 a0_2 l0_3) else (customsref21_Set.j0 k a1 a2 (decide (a2 > 1000000000000)) a0_0 a0_1 a0_2 l0_3)))) else (some (0, 0, 0, ([] : List (S39)), t262))) = some (r1, r2, r3, r4, r5) := H
 have A4 := Aside0.mk A40
 clear A40
 by_cases c5 : t262 = 0
 ·rw [if_pos c5] at H
  have c5b0 : (t262 == 0) = true := beq_iff_eq.mpr c5
  have c5b1 : (t262 != 0) = false := bne_eq_false_iff_eq.mpr c5
  clear c5
  have HC6 := Aside0.mk H
  clear H
  go_enter Try.func22, Try.ntmps22
  go_upto_region 4 with (first | ((with_reducible refine gate_dst (N := 3) rfl ?_); refine box_event ?hg (N := 3) ?hd (cs := #[.int .i64 a0_0, .int .i64 a0_1, .int .i64 a0_2, .slice A0_3 l0_3.length c0_3]) (t := 25) ?hr ?_; (case hd => rfl); (case hg => rfl); (case hr => first | (go_simp; done) | (go_simp; rfl)); intro gb260 hg w7 hbox hb; have qb_ := below_both (by repeat (first | (with_reducible first | exact HB.out | apply below_alloc | apply pw_below_drewN | apply below_drew1) | exact HB.out)) hb; have n0_ := Aside0.mk (qb_.1); have n1_ := Aside0.mk (hbox); have n2_ := Aside0.mk ((by rw [hg]; exact qb_.2 : w.heap.size ≤ gb260)); have n3_ := n2_; clear HB; have HB := n0_; have BK260 := n1_; have GW260 := n2_; have GE260 := n3_; clear qb_; clear n0_ n1_ n2_ n3_; clear hb hbox hg) | ((with_reducible refine gate_dst (N := 6) rfl ?_); refine box_event ?hg (N := 6) ?hd (cs := #[.int .i64 0, .int .i64 0, .int .i64 0, .slice none 0 0]) (t := 25) ?hr ?_; (case hd => rfl); (case hg => rfl); (case hr => first | (go_simp; done) | (go_simp; rfl)); intro gb261 hg w8 hbox hb; have qb_ := below_both (by repeat (first | (with_reducible first | exact HB.out | apply below_alloc | apply pw_below_drewN | apply below_drew1 | refine below_set ?_ GE260.out) | exact HB.out)) hb; have q1_ := blk_below2 (g := gb260) (o := .cells #[.int .i64 a0_0, .int .i64 a0_1, .int .i64 a0_2, .slice A0_3 l0_3.length c0_3] 25 (0, 0)) (by (with_reducible repeat (first | refine blk_drewN ?_ _ | refine blk_drew ?_ | refine blk_alloc ?_ _)); exact BK260.out) hb; have n0_ := Aside0.mk (q1_.1); have n1_ := Aside0.mk (qb_.1); have n2_ := Aside0.mk (hbox); have n3_ := Aside0.mk ((by rw [hg]; exact qb_.2 : w.heap.size ≤ gb261)); have n4_ := n3_; have n5_ := Aside0.mk ((by rw [hg]; exact Nat.ne_of_lt q1_.2 : gb260 ≠ gb261)); have n6_ := Aside0.mk (Ne.symm n5_.out); clear BK260; clear HB; have BK260 := n0_; have HB := n1_; have BK261 := n2_; have GW261 := n3_; have GE261 := n4_; have NB260_261 := n5_; have NB261_260 := n6_; clear q1_; clear qb_; clear n0_ n1_ n2_ n3_ n4_ n5_ n6_; clear hb hbox hg; have hnb9 := NB260_261.out; have hnc9 := NB261_260.out; have hcz10_0 : w8.cell? ⟨gb260, 0, none⟩ = some (.int .i64 a0_0) := (blk_cell BK260.out 0).trans rfl; have hcz10_1 : w8.cell? ⟨gb260, 1, none⟩ = some (.int .i64 a0_1) := (blk_cell BK260.out 1).trans rfl; have hcz10_2 : w8.cell? ⟨gb260, 2, none⟩ = some (.int .i64 a0_2) := (blk_cell BK260.out 2).trans rfl; have hcz10_3 : w8.cell? ⟨gb260, 3, none⟩ = some (.slice A0_3 l0_3.length c0_3) := (blk_cell BK260.out 3).trans rfl; have hfz10_0 := blk_frozen BK260.out 0; have hfz10_1 := blk_frozen BK260.out 1; have hfz10_2 := blk_frozen BK260.out 2; have hfz10_3 := blk_frozen BK260.out 3) | ((with_reducible refine gate_callee (f := 12) rfl ?_); refine goesL_ (some 14) rfl rfl Try.func12 (by kernel_rfl) rfl #[.agg #[.int .i64 a0_0, .int .i64 a0_1, .int .i64 a0_2, .slice A0_3 l0_3.length c0_3]] rfl (by (try simp only [List.map_toArray, List.map_cons, List.map_nil]); first | done | rfl | (simp only [List.length_drop, List.length_take]; rfl)) ?_; (with_reducible refine (customsref21_ValidGuarantee.calls k a0_0 a0_1 a0_2 _ _ l0_3 t262 _ ?side1 ?side2 A4.out).mono ?_); (case side1 => repeat (first | exact (Kd.C_below HR0_3.out HB.out) | (with_reducible refine Kd.C_alloc ?_ _) | (with_reducible refine Kd.C_drewN ?_ _) | (with_reducible refine Kd.C_drew ?_))); (case side2 => exact HC0_3.out); rintro e w11 ⟨rfl, hb⟩; refine ⟨_, rfl, ?_⟩; have n0_ := Aside0.mk (blk_below (g := gb260) (o := .cells #[.int .i64 a0_0, .int .i64 a0_1, .int .i64 a0_2, .slice A0_3 l0_3.length c0_3] 25 (0, 0)) (by (with_reducible repeat (first | refine blk_drewN ?_ _ | refine blk_drew ?_ | refine blk_alloc ?_ _)); exact BK260.out) hb); have n1_ := Aside0.mk (blk_below (g := gb261) (o := .cells #[.int .i64 0, .int .i64 0, .int .i64 0, .slice none 0 0] 25 (0, 0)) (by (with_reducible repeat (first | refine blk_drewN ?_ _ | refine blk_drew ?_ | refine blk_alloc ?_ _)); exact BK261.out) hb); have n2_ := Aside0.mk (below_step (by repeat (first | (with_reducible first | exact HB.out | apply below_alloc | apply pw_below_drewN | apply below_drew1 | refine below_set ?_ GE260.out | refine below_set ?_ GE261.out) | exact HB.out)) hb); clear BK260; clear BK261; clear HB; have BK260 := n0_; have BK261 := n1_; have HB := n2_; clear n0_ n1_ n2_; (try clear hb); (try clear hb2); (try clear hk); (try clear hi)))
  (try simp only [Act.put, List.setIfInBounds_toArray, List.set_cons_zero, List.set_cons_succ])
  go_cut [32] (fun v32 wc => ∃ (kq : Nat) (x32_5 : Bool), v32 = .bool x32_5 ∧ Aside0 (customsref21_Set.j0 kq a1 a2 x32_5 a0_0 a0_1 a0_2 l0_3 = some (r1, r2, r3, r4, r5)) ∧ Aside0 (kq ≤ k) ∧ Aside0 (wc.heap[gb260]? = some (.cells #[.int .i64 a0_0, .int .i64 a0_1, .int .i64 a0_2, (.slice A0_3 l0_3.length c0_3)] 25 (0, 0))) ∧ Aside0 (wc.heap[gb261]? = some (.cells #[.int .i64 0, .int .i64 0, .int .i64 0, (.slice none 0 0)] 25 (0, 0))) ∧ Aside0 (Below w.heap.size w wc))
  case first =>
   have H := HC6.out
   clear HC6
   by_cases c12 : a1 < 1
   ·rw [if_pos c12] at H
    have c12b0 : decide (a1 < 1) = true := decide_eq_true c12
    clear c12
    (first | rw [c12b0] | (simp only [i64_w, i32_w]; rw [c12b0]) | skip)
    have H' := Aside0.mk H
    clear H
    go_wp2
    go_meet
    case rel => exact ⟨_, (true), (by first | rfl | (simp; done) | (simp [*]; done)), H', ⟨by first | omega | exact Nat.le_refl _⟩, ⟨by (with_reducible repeat (first | refine blk_drewN ?_ _ | refine blk_drew ?_ | refine blk_alloc ?_ _)); exact BK260.out⟩, ⟨by (with_reducible repeat (first | refine blk_drewN ?_ _ | refine blk_drew ?_ | refine blk_alloc ?_ _)); exact BK261.out⟩, ⟨by repeat (first | (with_reducible first | exact HB.out | apply below_alloc | apply pw_below_drewN | apply below_drew1 | refine below_set ?_ GE260.out | refine below_set ?_ GE261.out) | exact HB.out)⟩⟩
   ·rw [if_neg c12] at H
    have c12b0 : decide (a1 < 1) = false := decide_eq_false c12
    clear c12
    (first | rw [c12b0] | (simp only [i64_w, i32_w]; rw [c12b0]) | skip)
    by_cases c13 : a1 > 1000000
    ·rw [if_pos c13] at H
     have c13b0 : decide (1000000 < a1) = true := decide_eq_true c13
     clear c13
     have H' := Aside0.mk H
     clear H
     go_wp2
     go_meet
     case rel => exact ⟨_, (true), (by first | rfl | (simp; done) | (simp [*]; done)), H', ⟨by first | omega | exact Nat.le_refl _⟩, ⟨by (with_reducible repeat (first | refine blk_drewN ?_ _ | refine blk_drew ?_ | refine blk_alloc ?_ _)); exact BK260.out⟩, ⟨by (with_reducible repeat (first | refine blk_drewN ?_ _ | refine blk_drew ?_ | refine blk_alloc ?_ _)); exact BK261.out⟩, ⟨by repeat (first | (with_reducible first | exact HB.out | apply below_alloc | apply pw_below_drewN | apply below_drew1 | refine below_set ?_ GE260.out | refine below_set ?_ GE261.out) | exact HB.out)⟩⟩
    ·rw [if_neg c13] at H
     have c13b0 : decide (1000000 < a1) = false := decide_eq_false c13
     clear c13
     by_cases c14 : a2 < 0
     ·rw [if_pos c14] at H
      have c14b0 : decide (a2 < 0) = true := decide_eq_true c14
      clear c14
      have H' := Aside0.mk H
      clear H
      go_wp2
      go_meet
      case rel => exact ⟨_, (true), (by first | rfl | (simp; done) | (simp [*]; done)), H', ⟨by first | omega | exact Nat.le_refl _⟩, ⟨by (with_reducible repeat (first | refine blk_drewN ?_ _ | refine blk_drew ?_ | refine blk_alloc ?_ _)); exact BK260.out⟩, ⟨by (with_reducible repeat (first | refine blk_drewN ?_ _ | refine blk_drew ?_ | refine blk_alloc ?_ _)); exact BK261.out⟩, ⟨by repeat (first | (with_reducible first | exact HB.out | apply below_alloc | apply pw_below_drewN | apply below_drew1 | refine below_set ?_ GE260.out | refine below_set ?_ GE261.out) | exact HB.out)⟩⟩
     ·rw [if_neg c14] at H
      have c14b0 : decide (a2 < 0) = false := decide_eq_false c14
      clear c14
      have H' := Aside0.mk H
      clear H
      go_wp2
      go_meet
      case rel => exact ⟨_, (decide (a2 > 1000000000000)), (by first | rfl | (simp; done) | (simp [*]; done)), H', ⟨by first | omega | exact Nat.le_refl _⟩, ⟨by (with_reducible repeat (first | refine blk_drewN ?_ _ | refine blk_drew ?_ | refine blk_alloc ?_ _)); exact BK260.out⟩, ⟨by (with_reducible repeat (first | refine blk_drewN ?_ _ | refine blk_drew ?_ | refine blk_alloc ?_ _)); exact BK261.out⟩, ⟨by repeat (first | (with_reducible first | exact HB.out | apply below_alloc | apply pw_below_drewN | apply below_drew1 | refine below_set ?_ GE260.out | refine below_set ?_ GE261.out) | exact HB.out)⟩⟩
  case rest =>
   clear HC6
   try clear c1
   try clear c2
   try clear p2
   try clear c5
   try clear c5b0
   try clear c5b1
   try clear c9
   try clear c12
   try clear c12b0
   try clear c13
   try clear c13b0
   try clear c14
   try clear c14b0
   try clear hcz10_0
   try clear hcz10_1
   try clear hcz10_2
   try clear hcz10_3
   try clear hfz10_0
   try clear hfz10_1
   try clear hfz10_2
   try clear hfz10_3
   obtain ⟨kq, x32_5, rfl, HA, HJ5, BK260, BK261, HB⟩ := hcut
   cases kq with
   | zero => exact absurd HA.out (by simp [customsref21_Set.j0])
   | succ kj5 =>
    have H := HA.out
    clear HA
    simp only [customsref21_Set.j0] at H
    by_cases c15 : x32_5 = true
    ·subst c15
     have H1 : (some (0, 0, 0, ([] : List (S39)), 2)) = some (r1, r2, r3, r4, r5) := by rw [if_pos rfl] at H; exact H
     clear H
     have H := H1
     clear H1
     simp only [Option.some.injEq, Prod.mk.injEq] at H
     obtain ⟨rfl, rfl, rfl, rfl, rfl⟩ := H
     have hnb16 := NB261_260.out
     have hnc16 := NB260_261.out
     have hcz17_0 : wc.cell? ⟨gb261, 0, none⟩ = some (.int .i64 0) := (blk_cell BK261.out 0).trans rfl
     have hcz17_1 : wc.cell? ⟨gb261, 1, none⟩ = some (.int .i64 0) := (blk_cell BK261.out 1).trans rfl
     have hcz17_2 : wc.cell? ⟨gb261, 2, none⟩ = some (.int .i64 0) := (blk_cell BK261.out 2).trans rfl
     have hcz17_3 : wc.cell? ⟨gb261, 3, none⟩ = some (.slice none 0 0) := (blk_cell BK261.out 3).trans rfl
     have hfz17_0 := blk_frozen BK261.out 0
     have hfz17_1 := blk_frozen BK261.out 1
     have hfz17_2 := blk_frozen BK261.out 2
     have hfz17_3 := blk_frozen BK261.out 3
     go_wp2
     refine bodyPost_ret (results_ct rfl _ _ gb261 25 #[.int .i64 0, .int .i64 0, .int .i64 0, .slice none 0 0] (0, 0) _ rfl (by (with_reducible repeat (first | refine blk_drewN ?_ _ | refine blk_drew ?_ | refine blk_alloc ?_ _)); refine blk_put (cs := #[.int .i64 0, .int .i64 0, .int .i64 0, .slice none 0 0]) ?_ 3 _ rfl; refine blk_put (cs := #[.int .i64 0, .int .i64 0, .int .i64 0, .slice none 0 0]) ?_ 2 _ rfl; refine blk_put (cs := #[.int .i64 0, .int .i64 0, .int .i64 0, .slice none 0 0]) ?_ 1 _ rfl; refine blk_put (cs := #[.int .i64 0, .int .i64 0, .int .i64 0, .slice none 0 0]) ?_ 0 _ rfl; (with_reducible repeat (first | refine blk_drewN ?_ _ | refine blk_drew ?_ | refine blk_alloc ?_ _)); exact BK261.out) Try.underlying25 rfl (by kernel_rfl)) rfl ?_
     exact ⟨_, by first | rfl | (simp [errW_none, errW_some] <;> rfl) | (simp [*, errW_none, errW_some] <;> rfl), by first | exact Kd.R_nil _ _ _ _ _ | exact Kd.N_nil _ _ _ _ _ | exact Kd.V_nil _ _ _ _ _ | exact Kd.Q_nil _ _ _ _ _ | exact Kd.S_nil _ _ _ _ _, by repeat (first | (with_reducible first | exact HB.out | apply below_alloc | apply pw_below_drewN | apply below_drew1 | refine below_set ?_ GE260.out | refine below_set ?_ GE261.out) | exact HB.out)⟩
    ·replace c15 := Bool.eq_false_iff.mpr c15
     subst c15
     have H1 : ((customsref21_without.f kj5 l0_3 a1).bind fun bt263 => (if bt263.2 < 0 then (customsref21_Set.j1 kj5 a1 a2 bt263.1 (decide ((l0_3.length : Int) ≥ 64)) a0_0 a0_1 a0_2 l0_3) else (customsref21_Set.j1 kj5 a1 a2 bt263.1 false a0_0 a0_1 a0_2 l0_3))) = some (r1, r2, r3, r4, r5) := by rw [if_neg (show ¬ (false = true) by decide)] at H; exact H
     clear H
     have H := H1
     clear H1
     replace H := Option.bind_eq_some_iff.mp H
     obtain ⟨⟨t263, t264⟩, A180, H⟩ := H
     replace H : (if t264 < 0 then (customsref21_Set.j1 kj5 a1 a2 t263 (decide ((l0_3.length : Int) ≥ 64)) a0_0 a0_1 a0_2 l0_3) else (customsref21_Set.j1 kj5 a1 a2 t263 false a0_0 a0_1 a0_2 l0_3)) = some (r1, r2, r3, r4, r5) := H
     have A18 := Aside0.mk A180
     clear A180
     have HC19 := Aside0.mk H
     clear H
     have hnb20 := NB260_261.out
     have hnc20 := NB261_260.out
     have hcz21_0 : wc.cell? ⟨gb260, 0, none⟩ = some (.int .i64 a0_0) := (blk_cell BK260.out 0).trans rfl
     have hcz21_1 : wc.cell? ⟨gb260, 1, none⟩ = some (.int .i64 a0_1) := (blk_cell BK260.out 1).trans rfl
     have hcz21_2 : wc.cell? ⟨gb260, 2, none⟩ = some (.int .i64 a0_2) := (blk_cell BK260.out 2).trans rfl
     have hcz21_3 : wc.cell? ⟨gb260, 3, none⟩ = some (.slice A0_3 l0_3.length c0_3) := (blk_cell BK260.out 3).trans rfl
     have hfz21_0 := blk_frozen BK260.out 0
     have hfz21_1 := blk_frozen BK260.out 1
     have hfz21_2 := blk_frozen BK260.out 2
     have hfz21_3 := blk_frozen BK260.out 3
     go_upto_region 7 with (first | ((with_reducible refine gate_callee (f := 42) rfl ?_); refine goesL_ (some 38) rfl rfl Try.func42 (by kernel_rfl) rfl #[.slice A0_3 l0_3.length c0_3, .int .i64 a1] rfl (by (try simp only [List.map_toArray, List.map_cons, List.map_nil]); first | done | rfl | (simp only [List.length_drop, List.length_take]; rfl)) ?_; (with_reducible refine (customsref21_without.calls kj5 _ _ l0_3 a1 t263 t264 _ ?side1 ?side2 A18.out).mono ?_); (case side1 => repeat (first | exact (Kd.C_below HR0_3.out HB.out) | (with_reducible refine Kd.C_alloc ?_ _) | (with_reducible refine Kd.C_drewN ?_ _) | (with_reducible refine Kd.C_drew ?_))); (case side2 => exact HC0_3.out); rintro e w22 ⟨v265, rfl, ho0, hb⟩; refine ⟨_, rfl, ?_⟩; have qb_ := below_both (by repeat (first | (with_reducible first | exact HB.out | apply below_alloc | apply pw_below_drewN | apply below_drew1 | refine below_set ?_ GE260.out | refine below_set ?_ GE261.out) | exact HB.out)) hb; have n0_ := Aside0.mk (Kd.R_lower ho0 qb_.2); have n1_ := Aside0.mk (blk_below (g := gb260) (o := .cells #[.int .i64 a0_0, .int .i64 a0_1, .int .i64 a0_2, .slice A0_3 l0_3.length c0_3] 25 (0, 0)) (by (with_reducible repeat (first | refine blk_drewN ?_ _ | refine blk_drew ?_ | refine blk_alloc ?_ _)); exact BK260.out) hb); have n2_ := Aside0.mk (blk_below (g := gb261) (o := .cells #[.int .i64 0, .int .i64 0, .int .i64 0, .slice none 0 0] 25 (0, 0)) (by (with_reducible repeat (first | refine blk_drewN ?_ _ | refine blk_drew ?_ | refine blk_alloc ?_ _)); exact BK261.out) hb); have n3_ := Aside0.mk (qb_.1); clear BK260; clear BK261; clear HB; have HO266 := n0_; have BK260 := n1_; have BK261 := n2_; have HB := n3_; clear qb_; clear n0_ n1_ n2_ n3_; (try clear hb); (try clear hb2); (try clear hk); (try clear hi); (try clear ho0)))
     (try simp only [Act.put, List.setIfInBounds_toArray, List.set_cons_zero, List.set_cons_succ])
     go_cut [48] (fun v48 wc => ∃ (kq : Nat) (x48_18 : Bool), v48 = .bool x48_18 ∧ Aside0 (customsref21_Set.j1 kq a1 a2 t263 x48_18 a0_0 a0_1 a0_2 l0_3 = some (r1, r2, r3, r4, r5)) ∧ Aside0 (kq ≤ kj5) ∧ Aside0 (Kd.R k39 39 wc w.heap.size (fun _ => True) v265 t263) ∧ Aside0 (wc.heap[gb260]? = some (.cells #[.int .i64 a0_0, .int .i64 a0_1, .int .i64 a0_2, (.slice A0_3 l0_3.length c0_3)] 25 (0, 0))) ∧ Aside0 (wc.heap[gb261]? = some (.cells #[.int .i64 0, .int .i64 0, .int .i64 0, (.slice none 0 0)] 25 (0, 0))) ∧ Aside0 (Below w.heap.size w wc))
     case first =>
      have H := HC19.out
      clear HC19
      by_cases c23 : t264 < 0
      ·rw [if_pos c23] at H
       have c23b0 : decide (t264 < 0) = true := decide_eq_true c23
       clear c23
       (first | rw [c23b0] | (simp only [i64_w, i32_w]; rw [c23b0]) | skip)
       have H' := Aside0.mk H
       clear H
       have hnb24 := NB260_261.out
       have hnc24 := NB261_260.out
       have hcz25_0 : w22.cell? ⟨gb260, 0, none⟩ = some (.int .i64 a0_0) := (blk_cell BK260.out 0).trans rfl
       have hcz25_1 : w22.cell? ⟨gb260, 1, none⟩ = some (.int .i64 a0_1) := (blk_cell BK260.out 1).trans rfl
       have hcz25_2 : w22.cell? ⟨gb260, 2, none⟩ = some (.int .i64 a0_2) := (blk_cell BK260.out 2).trans rfl
       have hcz25_3 : w22.cell? ⟨gb260, 3, none⟩ = some (.slice A0_3 l0_3.length c0_3) := (blk_cell BK260.out 3).trans rfl
       have hfz25_0 := blk_frozen BK260.out 0
       have hfz25_1 := blk_frozen BK260.out 1
       have hfz25_2 := blk_frozen BK260.out 2
       have hfz25_3 := blk_frozen BK260.out 3
       go_wp2
       go_meet
       case rel => exact ⟨_, (decide ((l0_3.length : Int) ≥ 64)), (by first | rfl | (simp; done) | (simp [*]; done)), H', ⟨by have := HJ5.out; first | omega | exact Nat.le_refl _⟩, ⟨by (with_reducible repeat (first | apply Kd.R_alloc | apply Kd.R_drewN | apply Kd.R_drew)); exact HO266.out⟩, ⟨by (with_reducible repeat (first | refine blk_drewN ?_ _ | refine blk_drew ?_ | refine blk_alloc ?_ _)); exact BK260.out⟩, ⟨by (with_reducible repeat (first | refine blk_drewN ?_ _ | refine blk_drew ?_ | refine blk_alloc ?_ _)); exact BK261.out⟩, ⟨by repeat (first | (with_reducible first | exact HB.out | apply below_alloc | apply pw_below_drewN | apply below_drew1 | refine below_set ?_ GE260.out | refine below_set ?_ GE261.out) | exact HB.out)⟩⟩
      ·rw [if_neg c23] at H
       have c23b0 : decide (t264 < 0) = false := decide_eq_false c23
       clear c23
       (first | rw [c23b0] | (simp only [i64_w, i32_w]; rw [c23b0]) | skip)
       have H' := Aside0.mk H
       clear H
       go_wp2
       go_meet
       case rel => exact ⟨_, (false), (by first | rfl | (simp; done) | (simp [*]; done)), H', ⟨by have := HJ5.out; first | omega | exact Nat.le_refl _⟩, ⟨by (with_reducible repeat (first | apply Kd.R_alloc | apply Kd.R_drewN | apply Kd.R_drew)); exact HO266.out⟩, ⟨by (with_reducible repeat (first | refine blk_drewN ?_ _ | refine blk_drew ?_ | refine blk_alloc ?_ _)); exact BK260.out⟩, ⟨by (with_reducible repeat (first | refine blk_drewN ?_ _ | refine blk_drew ?_ | refine blk_alloc ?_ _)); exact BK261.out⟩, ⟨by repeat (first | (with_reducible first | exact HB.out | apply below_alloc | apply pw_below_drewN | apply below_drew1 | refine below_set ?_ GE260.out | refine below_set ?_ GE261.out) | exact HB.out)⟩⟩
     case rest =>
      clear HC19
      try clear c1
      try clear c2
      try clear p2
      try clear c4
      try clear c5
      try clear c5b0
      try clear c5b1
      try clear c9
      try clear c12
      try clear c12b0
      try clear c13
      try clear c13b0
      try clear c14
      try clear c14b0
      try clear c15
      try clear c16
      try clear c20
      try clear c22
      try clear c23
      try clear c23b0
      try clear c24
      try clear hcz10_0
      try clear hcz10_1
      try clear hcz10_2
      try clear hcz10_3
      try clear hcz17_0
      try clear hcz17_1
      try clear hcz17_2
      try clear hcz17_3
      try clear hcz21_0
      try clear hcz21_1
      try clear hcz21_2
      try clear hcz21_3
      try clear hcz25_0
      try clear hcz25_1
      try clear hcz25_2
      try clear hcz25_3
      try clear hfz10_0
      try clear hfz10_1
      try clear hfz10_2
      try clear hfz10_3
      try clear hfz17_0
      try clear hfz17_1
      try clear hfz17_2
      try clear hfz17_3
      try clear hfz21_0
      try clear hfz21_1
      try clear hfz21_2
      try clear hfz21_3
      try clear hfz25_0
      try clear hfz25_1
      try clear hfz25_2
      try clear hfz25_3
      try clear p2
      obtain ⟨kq, x48_18, rfl, HA, HJ18, HO_9, BK260, BK261, HB⟩ := hcut
      cases kq with
      | zero => exact absurd HA.out (by simp [customsref21_Set.j1])
      | succ kj18 =>
       have H := HA.out
       clear HA
       simp only [customsref21_Set.j1] at H
       by_cases c26 : x48_18 = true
       ·subst c26
        have H1 : (some (0, 0, 0, ([] : List (S39)), 8)) = some (r1, r2, r3, r4, r5) := by rw [if_pos rfl] at H; exact H
        clear H
        have H := H1
        clear H1
        simp only [Option.some.injEq, Prod.mk.injEq] at H
        obtain ⟨rfl, rfl, rfl, rfl, rfl⟩ := H
        have hnb27 := NB261_260.out
        have hnc27 := NB260_261.out
        have hcz28_0 : wc.cell? ⟨gb261, 0, none⟩ = some (.int .i64 0) := (blk_cell BK261.out 0).trans rfl
        have hcz28_1 : wc.cell? ⟨gb261, 1, none⟩ = some (.int .i64 0) := (blk_cell BK261.out 1).trans rfl
        have hcz28_2 : wc.cell? ⟨gb261, 2, none⟩ = some (.int .i64 0) := (blk_cell BK261.out 2).trans rfl
        have hcz28_3 : wc.cell? ⟨gb261, 3, none⟩ = some (.slice none 0 0) := (blk_cell BK261.out 3).trans rfl
        have hfz28_0 := blk_frozen BK261.out 0
        have hfz28_1 := blk_frozen BK261.out 1
        have hfz28_2 := blk_frozen BK261.out 2
        have hfz28_3 := blk_frozen BK261.out 3
        go_wp2
        refine bodyPost_ret (results_ct rfl _ _ gb261 25 #[.int .i64 0, .int .i64 0, .int .i64 0, .slice none 0 0] (0, 0) _ rfl (by (with_reducible repeat (first | refine blk_drewN ?_ _ | refine blk_drew ?_ | refine blk_alloc ?_ _)); refine blk_put (cs := #[.int .i64 0, .int .i64 0, .int .i64 0, .slice none 0 0]) ?_ 3 _ rfl; refine blk_put (cs := #[.int .i64 0, .int .i64 0, .int .i64 0, .slice none 0 0]) ?_ 2 _ rfl; refine blk_put (cs := #[.int .i64 0, .int .i64 0, .int .i64 0, .slice none 0 0]) ?_ 1 _ rfl; refine blk_put (cs := #[.int .i64 0, .int .i64 0, .int .i64 0, .slice none 0 0]) ?_ 0 _ rfl; (with_reducible repeat (first | refine blk_drewN ?_ _ | refine blk_drew ?_ | refine blk_alloc ?_ _)); exact BK261.out) Try.underlying25 rfl (by kernel_rfl)) rfl ?_
        exact ⟨_, by first | rfl | (simp [errW_none, errW_some] <;> rfl) | (simp [*, errW_none, errW_some] <;> rfl), by first | exact Kd.R_nil _ _ _ _ _ | exact Kd.N_nil _ _ _ _ _ | exact Kd.V_nil _ _ _ _ _ | exact Kd.Q_nil _ _ _ _ _ | exact Kd.S_nil _ _ _ _ _, by repeat (first | (with_reducible first | exact HB.out | apply below_alloc | apply pw_below_drewN | apply below_drew1 | refine below_set ?_ GE260.out | refine below_set ?_ GE261.out) | exact HB.out)⟩
       ·replace c26 := Bool.eq_false_iff.mpr c26
        subst c26
        have H1 : ((customsref21_Required.f a0_0 a0_1 a0_2 l0_3 a2).bind fun bt267 => ((customsref21_Total.f kj18 a0_0 a0_1 a0_2 t263).bind fun t269 => (if (wrap64 (t269 + bt267.1)) > a0_1 then (some (0, 0, 0, ([] : List (S39)), 16)) else ((customsref21_Insert.f kj18 t263 a1 bt267.1).bind fun t270 => (some (a0_0, a0_1, a0_2, t270, 0)))))) = some (r1, r2, r3, r4, r5) := by rw [if_neg (show ¬ (false = true) by decide)] at H; exact H
        clear H
        have H := H1
        clear H1
        replace H := Option.bind_eq_some_iff.mp H
        obtain ⟨⟨t267, t268⟩, A290, H⟩ := H
        replace H : ((customsref21_Total.f kj18 a0_0 a0_1 a0_2 t263).bind fun t269 => (if (wrap64 (t269 + t267)) > a0_1 then (some (0, 0, 0, ([] : List (S39)), 16)) else ((customsref21_Insert.f kj18 t263 a1 t267).bind fun t270 => (some (a0_0, a0_1, a0_2, t270, 0))))) = some (r1, r2, r3, r4, r5) := H
        have A29 := Aside0.mk A290
        clear A290
        replace H := Option.bind_eq_some_iff.mp H
        obtain ⟨t269, A300, H⟩ := H
        replace H : (if (wrap64 (t269 + t267)) > a0_1 then (some (0, 0, 0, ([] : List (S39)), 16)) else ((customsref21_Insert.f kj18 t263 a1 t267).bind fun t270 => (some (a0_0, a0_1, a0_2, t270, 0)))) = some (r1, r2, r3, r4, r5) := H
        have A30 := Aside0.mk A300
        clear A300
        by_cases c31 : (wrap64 (t269 + t267)) > a0_1
        ·rw [if_pos c31] at H
         have c31b0 : decide (a0_1 < (wrap64 (t269 + t267))) = true := decide_eq_true c31
         clear c31
         simp only [Option.some.injEq, Prod.mk.injEq] at H
         obtain ⟨rfl, rfl, rfl, rfl, rfl⟩ := H
         have hnb32 := NB260_261.out
         have hnc32 := NB261_260.out
         have hcz33_0 : wc.cell? ⟨gb260, 0, none⟩ = some (.int .i64 a0_0) := (blk_cell BK260.out 0).trans rfl
         have hcz33_1 : wc.cell? ⟨gb260, 1, none⟩ = some (.int .i64 a0_1) := (blk_cell BK260.out 1).trans rfl
         have hcz33_2 : wc.cell? ⟨gb260, 2, none⟩ = some (.int .i64 a0_2) := (blk_cell BK260.out 2).trans rfl
         have hcz33_3 : wc.cell? ⟨gb260, 3, none⟩ = some (.slice A0_3 l0_3.length c0_3) := (blk_cell BK260.out 3).trans rfl
         have hfz33_0 := blk_frozen BK260.out 0
         have hfz33_1 := blk_frozen BK260.out 1
         have hfz33_2 := blk_frozen BK260.out 2
         have hfz33_3 := blk_frozen BK260.out 3
         try go_wp2_with (first | ((with_reducible refine gate_callee (f := 18) rfl ?_); refine goesL_ (some 53) rfl rfl Try.func18 (by kernel_rfl) rfl #[.agg #[.int .i64 a0_0, .int .i64 a0_1, .int .i64 a0_2, .slice A0_3 l0_3.length c0_3], .int .i64 a2] rfl (by (try simp only [List.map_toArray, List.map_cons, List.map_nil]); first | done | rfl | (simp only [List.length_drop, List.length_take]; rfl)) ?_; (with_reducible refine (customsref21_Required.calls a0_0 a0_1 a0_2 _ _ l0_3 a2 t267 t268 _ ?side1 ?side2 A29.out).mono ?_); (case side1 => repeat (first | exact (Kd.C_below HR0_3.out HB.out) | (with_reducible refine Kd.C_alloc ?_ _) | (with_reducible refine Kd.C_drewN ?_ _) | (with_reducible refine Kd.C_drew ?_))); (case side2 => exact HC0_3.out); rintro e w34 ⟨rfl, hb⟩; refine ⟨_, rfl, ?_⟩; have n0_ := Aside0.mk (Kd.R_below (by (with_reducible repeat (first | apply Kd.R_alloc | apply Kd.R_drewN | apply Kd.R_drew)); exact HO_9.out) hb); have n1_ := Aside0.mk (blk_below (g := gb260) (o := .cells #[.int .i64 a0_0, .int .i64 a0_1, .int .i64 a0_2, .slice A0_3 l0_3.length c0_3] 25 (0, 0)) (by (with_reducible repeat (first | refine blk_drewN ?_ _ | refine blk_drew ?_ | refine blk_alloc ?_ _)); exact BK260.out) hb); have n2_ := Aside0.mk (blk_below (g := gb261) (o := .cells #[.int .i64 0, .int .i64 0, .int .i64 0, .slice none 0 0] 25 (0, 0)) (by (with_reducible repeat (first | refine blk_drewN ?_ _ | refine blk_drew ?_ | refine blk_alloc ?_ _)); exact BK261.out) hb); have n3_ := Aside0.mk (below_step (by repeat (first | (with_reducible first | exact HB.out | apply below_alloc | apply pw_below_drewN | apply below_drew1 | refine below_set ?_ GE260.out | refine below_set ?_ GE261.out) | exact HB.out)) hb); clear HO_9; clear BK260; clear BK261; clear HB; have HO_9 := n0_; have BK260 := n1_; have BK261 := n2_; have HB := n3_; clear n0_ n1_ n2_ n3_; (try clear hb); (try clear hb2); (try clear hk); (try clear hi); obtain ⟨Ao35, co35, eo35⟩ := Kd.R_slice HO_9.out; subst eo35; have hcz36_0 : w34.cell? ⟨gb260, 0, none⟩ = some (.int .i64 a0_0) := (blk_cell BK260.out 0).trans rfl; have hcz36_1 : w34.cell? ⟨gb260, 1, none⟩ = some (.int .i64 a0_1) := (blk_cell BK260.out 1).trans rfl; have hcz36_2 : w34.cell? ⟨gb260, 2, none⟩ = some (.int .i64 a0_2) := (blk_cell BK260.out 2).trans rfl; have hcz36_3 : w34.cell? ⟨gb260, 3, none⟩ = some (.slice A0_3 l0_3.length c0_3) := (blk_cell BK260.out 3).trans rfl; have hfz36_0 := blk_frozen BK260.out 0; have hfz36_1 := blk_frozen BK260.out 1; have hfz36_2 := blk_frozen BK260.out 2; have hfz36_3 := blk_frozen BK260.out 3))
         have n0_ : Aside0 (Kd.R k39 39 (w34.setCell ⟨gb260, 3, none⟩ (.slice Ao35 t263.length co35)) w.heap.size (fun _ => True) (.slice Ao35 t263.length co35) t263) := ⟨by (with_reducible repeat (first | apply Kd.R_alloc | apply Kd.R_drewN | apply Kd.R_drew)); exact Kd.R_mono (Kd.R_far (p := ⟨gb260, 3, none⟩) (Kd.R_types HO_9.out BK260.out (by decide)) (fun _ hk => hk.2) (.slice Ao35 t263.length co35)) (fun _ hk => trivial)⟩
         have n1_ : Aside0 ((w34.setCell ⟨gb260, 3, none⟩ (.slice Ao35 t263.length co35)).heap[gb260]? = some (.cells #[.int .i64 a0_0, .int .i64 a0_1, .int .i64 a0_2, .slice Ao35 t263.length co35] 25 (0, 0))) := ⟨by (with_reducible repeat (first | refine blk_drewN ?_ _ | refine blk_drew ?_ | refine blk_alloc ?_ _)); refine blk_put (cs := #[.int .i64 a0_0, .int .i64 a0_1, .int .i64 a0_2, .slice A0_3 l0_3.length c0_3]) ?_ 3 _ rfl; (with_reducible repeat (first | refine blk_drewN ?_ _ | refine blk_drew ?_ | refine blk_alloc ?_ _)); exact BK260.out⟩
         have n2_ : Aside0 ((w34.setCell ⟨gb260, 3, none⟩ (.slice Ao35 t263.length co35)).heap[gb261]? = some (.cells #[.int .i64 0, .int .i64 0, .int .i64 0, .slice none 0 0] 25 (0, 0))) := ⟨by (with_reducible repeat (first | refine blk_drewN ?_ _ | refine blk_drew ?_ | refine blk_alloc ?_ _)); refine blk_far ?_ NB261_260.out _; (with_reducible repeat (first | refine blk_drewN ?_ _ | refine blk_drew ?_ | refine blk_alloc ?_ _)); exact BK261.out⟩
         have n3_ : Aside0 (Below w.heap.size w (w34.setCell ⟨gb260, 3, none⟩ (.slice Ao35 t263.length co35))) := ⟨by repeat (first | (with_reducible first | exact HB.out | apply below_alloc | apply pw_below_drewN | apply below_drew1 | refine below_set ?_ GE260.out | refine below_set ?_ GE261.out) | exact HB.out)⟩
         (try clear HO_9)
         (try clear BK260)
         (try clear BK261)
         (try clear HB)
         generalize (w34.setCell ⟨gb260, 3, none⟩ (.slice Ao35 t263.length co35)) = w37 at n0_ n1_ n2_ n3_ ⊢
         have HO_9 := n0_
         have BK260 := n1_
         have BK261 := n2_
         have HB := n3_
         clear n0_ n1_ n2_ n3_
         have n0_ := Aside0.mk (Kd.R_drew HO_9.out)
         have n1_ := Aside0.mk (blk_drew BK260.out)
         have n2_ := Aside0.mk (blk_drew BK261.out)
         have n3_ := Aside0.mk (below_drew1 HB.out)
         clear HO_9
         clear BK260
         clear BK261
         clear HB
         have HO_9 := n0_
         have BK260 := n1_
         have BK261 := n2_
         have HB := n3_
         clear n0_ n1_ n2_ n3_
         refine start_ (n := 7) (S := fun w' => w'.cell? ⟨gb260, 0, none⟩ = some (.int .i64 a0_0) ∧ w'.cell? ⟨gb260, 1, none⟩ = some (.int .i64 a0_1) ∧ w'.cell? ⟨gb260, 2, none⟩ = some (.int .i64 a0_2) ∧ w'.cell? ⟨gb260, 3, none⟩ = some (.slice Ao35 t263.length co35)) (ds := []) #[false, false, false, false, false, false, false] (by kernel_rfl) rfl rfl ⟨(blk_cell BK260.out 0).trans rfl, (blk_cell BK260.out 1).trans rfl, (blk_cell BK260.out 2).trans rfl, (blk_cell BK260.out 3).trans rfl⟩ (fun hHeld => ?_)
         generalize w37.drew = w38 at HO_9 BK260 BK261 HB hHeld ⊢
         refine pure_ (i := 2) (N := some 60) (v := ?_) (a' := ?_) #[false, false, true, false, false, false, false] rfl rfl (by kernel_rfl) (fun _ _ _ h => h) (Or.inl ⟨by rfl, ?_⟩) ?_ ?_
         rotate_left
         ·intro w'
          go_simp
          with_reducible rfl
         rotate_left
         ·simp only [Act.put, List.setIfInBounds_toArray, List.set_cons_zero, List.set_cons_succ, i64_w, i32_w]
          rfl
         refine pure_ (i := 4) (N := some 62) (v := ?_) (a' := ?_) #[false, false, true, false, true, false, false] rfl rfl (by kernel_rfl) (fun _ _ _ h => h) (Or.inl ⟨by rfl, ?_⟩) ?_ ?_
         rotate_left
         ·intro w'
          go_simp
          with_reducible rfl
         rotate_left
         ·simp only [Act.put, List.setIfInBounds_toArray, List.set_cons_zero, List.set_cons_succ, i64_w, i32_w]
          rfl
         refine take_ (i := 0) (N := some 58) (v := ?_) (a' := ?_) #[true, false, true, false, true, false, false] rfl rfl (by kernel_rfl) (fun _ _ _ h => h) (Or.inl ⟨by rfl, ?_⟩) hHeld ?_ ?_
         rotate_left
         ·rintro w' ⟨s0, s1, s2, s3⟩
          go_simp
          with_reducible rfl
         rotate_left
         ·simp only [Act.put, List.setIfInBounds_toArray, List.set_cons_zero, List.set_cons_succ, i64_w, i32_w]
          rfl
         refine take_ (i := 5) (N := some 63) (v := ?_) (a' := ?_) #[true, false, true, false, true, true, false] rfl rfl (by kernel_rfl) (fun _ _ _ h => h) (Or.inl ⟨by rfl, ?_⟩) hHeld ?_ ?_
         rotate_left
         ·rintro w' ⟨s0, s1, s2, s3⟩
          go_simp
          with_reducible rfl
         rotate_left
         ·simp only [Act.put, List.setIfInBounds_toArray, List.set_cons_zero, List.set_cons_succ, i64_w, i32_w]
          rfl
         refine one_ (i := 1) (N := some 59) #[true, true, true, false, true, true, false] rfl rfl (by kernel_rfl) (by decide) (fun K hK => ?_)
         refine goes_ Try.func14 (by kernel_rfl) rfl #[.agg #[.int .i64 a0_0, .int .i64 a0_1, .int .i64 a0_2, .slice Ao35 t263.length co35]] (by rfl) rfl rfl (by (try simp only [List.map_toArray, List.map_cons, List.map_nil]); first | done | rfl | (simp only [List.length_drop, List.length_take]; rfl)) ?_
         with_reducible refine (customsref21_Total.calls kj18 a0_0 a0_1 a0_2 _ _ t263 t269 _ ?side1 ?side2 A30.out).mono ?_
         (case side1 => repeat (first | exact (Kd.R_reads' HO_9.out).2.2 | (with_reducible refine Kd.C_alloc ?_ _) | (with_reducible refine Kd.C_drewN ?_ _) | (with_reducible refine Kd.C_drew ?_)))
         (case side2 => exact (Kd.R_reads' HO_9.out).2.1)
         rintro e w39 ⟨rfl, hb⟩
         refine ⟨_, rfl, ?_⟩
         have n0_ := Aside0.mk (Kd.R_below (by (with_reducible repeat (first | apply Kd.R_alloc | apply Kd.R_drewN | apply Kd.R_drew)); exact HO_9.out) hb)
         have n1_ := Aside0.mk (blk_below (g := gb260) (o := .cells #[.int .i64 a0_0, .int .i64 a0_1, .int .i64 a0_2, .slice Ao35 t263.length co35] 25 (0, 0)) (by (with_reducible repeat (first | refine blk_drewN ?_ _ | refine blk_drew ?_ | refine blk_alloc ?_ _)); exact BK260.out) hb)
         have n2_ := Aside0.mk (blk_below (g := gb261) (o := .cells #[.int .i64 0, .int .i64 0, .int .i64 0, .slice none 0 0] 25 (0, 0)) (by (with_reducible repeat (first | refine blk_drewN ?_ _ | refine blk_drew ?_ | refine blk_alloc ?_ _)); exact BK261.out) hb)
         have n3_ := Aside0.mk (below_step (by repeat (first | (with_reducible first | exact HB.out | apply below_alloc | apply pw_below_drewN | apply below_drew1 | refine below_set ?_ GE260.out | refine below_set ?_ GE261.out) | exact HB.out)) hb)
         clear HO_9
         clear BK260
         clear BK261
         clear HB
         have HO_9 := n0_
         have BK260 := n1_
         have BK261 := n2_
         have HB := n3_
         clear n0_ n1_ n2_ n3_
         (try clear hb)
         (try clear hb2)
         (try clear hk)
         (try clear hi)
         refine hK.out _ _ ⟨(blk_cell BK260.out 0).trans rfl, (blk_cell BK260.out 1).trans rfl, (blk_cell BK260.out 2).trans rfl, (blk_cell BK260.out 3).trans rfl⟩ (fun hHeld => ?_)
         clear hK K
         refine norm_ (a' := ?_) ?_ ?_
         rotate_left
         ·show Act.put _ (some 59) _ = _
          simp only [Act.put, List.setIfInBounds_toArray, List.set_cons_zero, List.set_cons_succ, i64_w, i32_w]
          rfl
         refine pure_ (i := 3) (N := some 61) (v := ?_) (a' := ?_) #[true, true, true, true, true, true, false] rfl rfl (by kernel_rfl) (fun _ _ _ h => h) (Or.inl ⟨by rfl, ?_⟩) ?_ ?_
         rotate_left
         ·intro w'
          go_simp
          with_reducible rfl
         rotate_left
         ·simp only [Act.put, List.setIfInBounds_toArray, List.set_cons_zero, List.set_cons_succ, i64_w, i32_w]
          rfl
         refine pure_ (i := 6) (N := some 64) (v := ?_) (a' := ?_) #[true, true, true, true, true, true, true] rfl rfl (by kernel_rfl) (fun _ _ _ h => h) (Or.inl ⟨by rfl, ?_⟩) ?_ ?_
         rotate_left
         ·intro w'
          go_simp
          with_reducible rfl
         rotate_left
         ·simp only [Act.put, List.setIfInBounds_toArray, List.set_cons_zero, List.set_cons_succ, i64_w, i32_w]
          rfl
         refine done_ (by kernel_rfl) ?_
         have hcz40_0 : w39.cell? ⟨gb261, 0, none⟩ = some (.int .i64 0) := (blk_cell BK261.out 0).trans rfl
         have hcz40_1 : w39.cell? ⟨gb261, 1, none⟩ = some (.int .i64 0) := (blk_cell BK261.out 1).trans rfl
         have hcz40_2 : w39.cell? ⟨gb261, 2, none⟩ = some (.int .i64 0) := (blk_cell BK261.out 2).trans rfl
         have hcz40_3 : w39.cell? ⟨gb261, 3, none⟩ = some (.slice none 0 0) := (blk_cell BK261.out 3).trans rfl
         have hfz40_0 := blk_frozen BK261.out 0
         have hfz40_1 := blk_frozen BK261.out 1
         have hfz40_2 := blk_frozen BK261.out 2
         have hfz40_3 := blk_frozen BK261.out 3
         try go_wp2
         refine bodyPost_ret (results_ct rfl _ _ gb261 25 #[.int .i64 0, .int .i64 0, .int .i64 0, .slice none 0 0] (0, 0) _ rfl (by (with_reducible repeat (first | refine blk_drewN ?_ _ | refine blk_drew ?_ | refine blk_alloc ?_ _)); refine blk_put (cs := #[.int .i64 0, .int .i64 0, .int .i64 0, .slice none 0 0]) ?_ 3 _ rfl; refine blk_put (cs := #[.int .i64 0, .int .i64 0, .int .i64 0, .slice none 0 0]) ?_ 2 _ rfl; refine blk_put (cs := #[.int .i64 0, .int .i64 0, .int .i64 0, .slice none 0 0]) ?_ 1 _ rfl; refine blk_put (cs := #[.int .i64 0, .int .i64 0, .int .i64 0, .slice none 0 0]) ?_ 0 _ rfl; (with_reducible repeat (first | refine blk_drewN ?_ _ | refine blk_drew ?_ | refine blk_alloc ?_ _)); exact BK261.out) Try.underlying25 rfl (by kernel_rfl)) rfl ?_
         exact ⟨_, by first | rfl | (simp [errW_none, errW_some] <;> rfl) | (simp [*, errW_none, errW_some] <;> rfl), by first | exact Kd.R_nil _ _ _ _ _ | exact Kd.N_nil _ _ _ _ _ | exact Kd.V_nil _ _ _ _ _ | exact Kd.Q_nil _ _ _ _ _ | exact Kd.S_nil _ _ _ _ _, by repeat (first | (with_reducible first | exact HB.out | apply below_alloc | apply pw_below_drewN | apply below_drew1 | refine below_set ?_ GE260.out | refine below_set ?_ GE261.out) | exact HB.out)⟩
        ·rw [if_neg c31] at H
         have c31b0 : decide (a0_1 < (wrap64 (t269 + t267))) = false := decide_eq_false c31
         clear c31
         replace H := Option.bind_eq_some_iff.mp H
         obtain ⟨t270, A410, H⟩ := H
         replace H : (some (a0_0, a0_1, a0_2, t270, 0)) = some (r1, r2, r3, r4, r5) := H
         have A41 := Aside0.mk A410
         clear A410
         simp only [Option.some.injEq, Prod.mk.injEq] at H
         obtain ⟨rfl, rfl, rfl, rfl, rfl⟩ := H
         have hnb42 := NB260_261.out
         have hnc42 := NB261_260.out
         have hcz43_0 : wc.cell? ⟨gb260, 0, none⟩ = some (.int .i64 a0_0) := (blk_cell BK260.out 0).trans rfl
         have hcz43_1 : wc.cell? ⟨gb260, 1, none⟩ = some (.int .i64 a0_1) := (blk_cell BK260.out 1).trans rfl
         have hcz43_2 : wc.cell? ⟨gb260, 2, none⟩ = some (.int .i64 a0_2) := (blk_cell BK260.out 2).trans rfl
         have hcz43_3 : wc.cell? ⟨gb260, 3, none⟩ = some (.slice A0_3 l0_3.length c0_3) := (blk_cell BK260.out 3).trans rfl
         have hfz43_0 := blk_frozen BK260.out 0
         have hfz43_1 := blk_frozen BK260.out 1
         have hfz43_2 := blk_frozen BK260.out 2
         have hfz43_3 := blk_frozen BK260.out 3
         try go_wp2_with (first | ((with_reducible refine gate_callee (f := 18) rfl ?_); refine goesL_ (some 53) rfl rfl Try.func18 (by kernel_rfl) rfl #[.agg #[.int .i64 a0_0, .int .i64 a0_1, .int .i64 a0_2, .slice A0_3 l0_3.length c0_3], .int .i64 a2] rfl (by (try simp only [List.map_toArray, List.map_cons, List.map_nil]); first | done | rfl | (simp only [List.length_drop, List.length_take]; rfl)) ?_; (with_reducible refine (customsref21_Required.calls a0_0 a0_1 a0_2 _ _ l0_3 a2 t267 t268 _ ?side1 ?side2 A29.out).mono ?_); (case side1 => repeat (first | exact (Kd.C_below HR0_3.out HB.out) | (with_reducible refine Kd.C_alloc ?_ _) | (with_reducible refine Kd.C_drewN ?_ _) | (with_reducible refine Kd.C_drew ?_))); (case side2 => exact HC0_3.out); rintro e w44 ⟨rfl, hb⟩; refine ⟨_, rfl, ?_⟩; have n0_ := Aside0.mk (Kd.R_below (by (with_reducible repeat (first | apply Kd.R_alloc | apply Kd.R_drewN | apply Kd.R_drew)); exact HO_9.out) hb); have n1_ := Aside0.mk (blk_below (g := gb260) (o := .cells #[.int .i64 a0_0, .int .i64 a0_1, .int .i64 a0_2, .slice A0_3 l0_3.length c0_3] 25 (0, 0)) (by (with_reducible repeat (first | refine blk_drewN ?_ _ | refine blk_drew ?_ | refine blk_alloc ?_ _)); exact BK260.out) hb); have n2_ := Aside0.mk (blk_below (g := gb261) (o := .cells #[.int .i64 0, .int .i64 0, .int .i64 0, .slice none 0 0] 25 (0, 0)) (by (with_reducible repeat (first | refine blk_drewN ?_ _ | refine blk_drew ?_ | refine blk_alloc ?_ _)); exact BK261.out) hb); have n3_ := Aside0.mk (below_step (by repeat (first | (with_reducible first | exact HB.out | apply below_alloc | apply pw_below_drewN | apply below_drew1 | refine below_set ?_ GE260.out | refine below_set ?_ GE261.out) | exact HB.out)) hb); clear HO_9; clear BK260; clear BK261; clear HB; have HO_9 := n0_; have BK260 := n1_; have BK261 := n2_; have HB := n3_; clear n0_ n1_ n2_ n3_; (try clear hb); (try clear hb2); (try clear hk); (try clear hi); obtain ⟨Ao45, co45, eo45⟩ := Kd.R_slice HO_9.out; subst eo45; have hcz46_0 : w44.cell? ⟨gb260, 0, none⟩ = some (.int .i64 a0_0) := (blk_cell BK260.out 0).trans rfl; have hcz46_1 : w44.cell? ⟨gb260, 1, none⟩ = some (.int .i64 a0_1) := (blk_cell BK260.out 1).trans rfl; have hcz46_2 : w44.cell? ⟨gb260, 2, none⟩ = some (.int .i64 a0_2) := (blk_cell BK260.out 2).trans rfl; have hcz46_3 : w44.cell? ⟨gb260, 3, none⟩ = some (.slice A0_3 l0_3.length c0_3) := (blk_cell BK260.out 3).trans rfl; have hfz46_0 := blk_frozen BK260.out 0; have hfz46_1 := blk_frozen BK260.out 1; have hfz46_2 := blk_frozen BK260.out 2; have hfz46_3 := blk_frozen BK260.out 3))
         have n0_ : Aside0 (Kd.R k39 39 (w44.setCell ⟨gb260, 3, none⟩ (.slice Ao45 t263.length co45)) w.heap.size (fun _ => True) (.slice Ao45 t263.length co45) t263) := ⟨by (with_reducible repeat (first | apply Kd.R_alloc | apply Kd.R_drewN | apply Kd.R_drew)); exact Kd.R_mono (Kd.R_far (p := ⟨gb260, 3, none⟩) (Kd.R_types HO_9.out BK260.out (by decide)) (fun _ hk => hk.2) (.slice Ao45 t263.length co45)) (fun _ hk => trivial)⟩
         have n1_ : Aside0 ((w44.setCell ⟨gb260, 3, none⟩ (.slice Ao45 t263.length co45)).heap[gb260]? = some (.cells #[.int .i64 a0_0, .int .i64 a0_1, .int .i64 a0_2, .slice Ao45 t263.length co45] 25 (0, 0))) := ⟨by (with_reducible repeat (first | refine blk_drewN ?_ _ | refine blk_drew ?_ | refine blk_alloc ?_ _)); refine blk_put (cs := #[.int .i64 a0_0, .int .i64 a0_1, .int .i64 a0_2, .slice A0_3 l0_3.length c0_3]) ?_ 3 _ rfl; (with_reducible repeat (first | refine blk_drewN ?_ _ | refine blk_drew ?_ | refine blk_alloc ?_ _)); exact BK260.out⟩
         have n2_ : Aside0 ((w44.setCell ⟨gb260, 3, none⟩ (.slice Ao45 t263.length co45)).heap[gb261]? = some (.cells #[.int .i64 0, .int .i64 0, .int .i64 0, .slice none 0 0] 25 (0, 0))) := ⟨by (with_reducible repeat (first | refine blk_drewN ?_ _ | refine blk_drew ?_ | refine blk_alloc ?_ _)); refine blk_far ?_ NB261_260.out _; (with_reducible repeat (first | refine blk_drewN ?_ _ | refine blk_drew ?_ | refine blk_alloc ?_ _)); exact BK261.out⟩
         have n3_ : Aside0 (Below w.heap.size w (w44.setCell ⟨gb260, 3, none⟩ (.slice Ao45 t263.length co45))) := ⟨by repeat (first | (with_reducible first | exact HB.out | apply below_alloc | apply pw_below_drewN | apply below_drew1 | refine below_set ?_ GE260.out | refine below_set ?_ GE261.out) | exact HB.out)⟩
         (try clear HO_9)
         (try clear BK260)
         (try clear BK261)
         (try clear HB)
         generalize (w44.setCell ⟨gb260, 3, none⟩ (.slice Ao45 t263.length co45)) = w47 at n0_ n1_ n2_ n3_ ⊢
         have HO_9 := n0_
         have BK260 := n1_
         have BK261 := n2_
         have HB := n3_
         clear n0_ n1_ n2_ n3_
         have n0_ := Aside0.mk (Kd.R_drew HO_9.out)
         have n1_ := Aside0.mk (blk_drew BK260.out)
         have n2_ := Aside0.mk (blk_drew BK261.out)
         have n3_ := Aside0.mk (below_drew1 HB.out)
         clear HO_9
         clear BK260
         clear BK261
         clear HB
         have HO_9 := n0_
         have BK260 := n1_
         have BK261 := n2_
         have HB := n3_
         clear n0_ n1_ n2_ n3_
         refine start_ (n := 7) (S := fun w' => w'.cell? ⟨gb260, 0, none⟩ = some (.int .i64 a0_0) ∧ w'.cell? ⟨gb260, 1, none⟩ = some (.int .i64 a0_1) ∧ w'.cell? ⟨gb260, 2, none⟩ = some (.int .i64 a0_2) ∧ w'.cell? ⟨gb260, 3, none⟩ = some (.slice Ao45 t263.length co45)) (ds := []) #[false, false, false, false, false, false, false] (by kernel_rfl) rfl rfl ⟨(blk_cell BK260.out 0).trans rfl, (blk_cell BK260.out 1).trans rfl, (blk_cell BK260.out 2).trans rfl, (blk_cell BK260.out 3).trans rfl⟩ (fun hHeld => ?_)
         generalize w47.drew = w48 at HO_9 BK260 BK261 HB hHeld ⊢
         refine pure_ (i := 2) (N := some 60) (v := ?_) (a' := ?_) #[false, false, true, false, false, false, false] rfl rfl (by kernel_rfl) (fun _ _ _ h => h) (Or.inl ⟨by rfl, ?_⟩) ?_ ?_
         rotate_left
         ·intro w'
          go_simp
          with_reducible rfl
         rotate_left
         ·simp only [Act.put, List.setIfInBounds_toArray, List.set_cons_zero, List.set_cons_succ, i64_w, i32_w]
          rfl
         refine pure_ (i := 4) (N := some 62) (v := ?_) (a' := ?_) #[false, false, true, false, true, false, false] rfl rfl (by kernel_rfl) (fun _ _ _ h => h) (Or.inl ⟨by rfl, ?_⟩) ?_ ?_
         rotate_left
         ·intro w'
          go_simp
          with_reducible rfl
         rotate_left
         ·simp only [Act.put, List.setIfInBounds_toArray, List.set_cons_zero, List.set_cons_succ, i64_w, i32_w]
          rfl
         refine take_ (i := 0) (N := some 58) (v := ?_) (a' := ?_) #[true, false, true, false, true, false, false] rfl rfl (by kernel_rfl) (fun _ _ _ h => h) (Or.inl ⟨by rfl, ?_⟩) hHeld ?_ ?_
         rotate_left
         ·rintro w' ⟨s0, s1, s2, s3⟩
          go_simp
          with_reducible rfl
         rotate_left
         ·simp only [Act.put, List.setIfInBounds_toArray, List.set_cons_zero, List.set_cons_succ, i64_w, i32_w]
          rfl
         refine take_ (i := 5) (N := some 63) (v := ?_) (a' := ?_) #[true, false, true, false, true, true, false] rfl rfl (by kernel_rfl) (fun _ _ _ h => h) (Or.inl ⟨by rfl, ?_⟩) hHeld ?_ ?_
         rotate_left
         ·rintro w' ⟨s0, s1, s2, s3⟩
          go_simp
          with_reducible rfl
         rotate_left
         ·simp only [Act.put, List.setIfInBounds_toArray, List.set_cons_zero, List.set_cons_succ, i64_w, i32_w]
          rfl
         refine one_ (i := 1) (N := some 59) #[true, true, true, false, true, true, false] rfl rfl (by kernel_rfl) (by decide) (fun K hK => ?_)
         refine goes_ Try.func14 (by kernel_rfl) rfl #[.agg #[.int .i64 a0_0, .int .i64 a0_1, .int .i64 a0_2, .slice Ao45 t263.length co45]] (by rfl) rfl rfl (by (try simp only [List.map_toArray, List.map_cons, List.map_nil]); first | done | rfl | (simp only [List.length_drop, List.length_take]; rfl)) ?_
         with_reducible refine (customsref21_Total.calls kj18 a0_0 a0_1 a0_2 _ _ t263 t269 _ ?side1 ?side2 A30.out).mono ?_
         (case side1 => repeat (first | exact (Kd.R_reads' HO_9.out).2.2 | (with_reducible refine Kd.C_alloc ?_ _) | (with_reducible refine Kd.C_drewN ?_ _) | (with_reducible refine Kd.C_drew ?_)))
         (case side2 => exact (Kd.R_reads' HO_9.out).2.1)
         rintro e w49 ⟨rfl, hb⟩
         refine ⟨_, rfl, ?_⟩
         have n0_ := Aside0.mk (Kd.R_below (by (with_reducible repeat (first | apply Kd.R_alloc | apply Kd.R_drewN | apply Kd.R_drew)); exact HO_9.out) hb)
         have n1_ := Aside0.mk (blk_below (g := gb260) (o := .cells #[.int .i64 a0_0, .int .i64 a0_1, .int .i64 a0_2, .slice Ao45 t263.length co45] 25 (0, 0)) (by (with_reducible repeat (first | refine blk_drewN ?_ _ | refine blk_drew ?_ | refine blk_alloc ?_ _)); exact BK260.out) hb)
         have n2_ := Aside0.mk (blk_below (g := gb261) (o := .cells #[.int .i64 0, .int .i64 0, .int .i64 0, .slice none 0 0] 25 (0, 0)) (by (with_reducible repeat (first | refine blk_drewN ?_ _ | refine blk_drew ?_ | refine blk_alloc ?_ _)); exact BK261.out) hb)
         have n3_ := Aside0.mk (below_step (by repeat (first | (with_reducible first | exact HB.out | apply below_alloc | apply pw_below_drewN | apply below_drew1 | refine below_set ?_ GE260.out | refine below_set ?_ GE261.out) | exact HB.out)) hb)
         clear HO_9
         clear BK260
         clear BK261
         clear HB
         have HO_9 := n0_
         have BK260 := n1_
         have BK261 := n2_
         have HB := n3_
         clear n0_ n1_ n2_ n3_
         (try clear hb)
         (try clear hb2)
         (try clear hk)
         (try clear hi)
         refine hK.out _ _ ⟨(blk_cell BK260.out 0).trans rfl, (blk_cell BK260.out 1).trans rfl, (blk_cell BK260.out 2).trans rfl, (blk_cell BK260.out 3).trans rfl⟩ (fun hHeld => ?_)
         clear hK K
         refine norm_ (a' := ?_) ?_ ?_
         rotate_left
         ·show Act.put _ (some 59) _ = _
          simp only [Act.put, List.setIfInBounds_toArray, List.set_cons_zero, List.set_cons_succ, i64_w, i32_w]
          rfl
         refine pure_ (i := 3) (N := some 61) (v := ?_) (a' := ?_) #[true, true, true, true, true, true, false] rfl rfl (by kernel_rfl) (fun _ _ _ h => h) (Or.inl ⟨by rfl, ?_⟩) ?_ ?_
         rotate_left
         ·intro w'
          go_simp
          with_reducible rfl
         rotate_left
         ·simp only [Act.put, List.setIfInBounds_toArray, List.set_cons_zero, List.set_cons_succ, i64_w, i32_w]
          rfl
         refine pure_ (i := 6) (N := some 64) (v := ?_) (a' := ?_) #[true, true, true, true, true, true, true] rfl rfl (by kernel_rfl) (fun _ _ _ h => h) (Or.inl ⟨by rfl, ?_⟩) ?_ ?_
         rotate_left
         ·intro w'
          go_simp
          with_reducible rfl
         rotate_left
         ·simp only [Act.put, List.setIfInBounds_toArray, List.set_cons_zero, List.set_cons_succ, i64_w, i32_w]
          rfl
         refine done_ (by kernel_rfl) ?_
         try go_wp2_with (first | ((with_reducible refine gate_callee (f := 43) rfl ?_); refine goesL_ (some 70) rfl rfl Try.func43 (by kernel_rfl) rfl #[.slice Ao45 t263.length co45, .agg #[.int .i64 a1, .int .i64 t267]] rfl (by (try simp only [List.map_toArray, List.map_cons, List.map_nil]); first | done | rfl | (simp only [List.length_drop, List.length_take]; rfl)) ?_; (with_reducible refine (customsref21_Insert.calls kj18 _ _ t263 a1 t267 t270 _ ?side1 ?side2 A41.out).mono ?_); (case side1 => repeat (first | exact (Kd.R_reads' HO_9.out).2.2 | (with_reducible refine Kd.C_alloc ?_ _) | (with_reducible refine Kd.C_drewN ?_ _) | (with_reducible refine Kd.C_drew ?_))); (case side2 => exact (Kd.R_reads' HO_9.out).2.1); rintro e w50 ⟨v271, rfl, ho0, hb⟩; refine ⟨_, rfl, ?_⟩; have n1_ := Aside0.mk (Kd.R_lower (Kd.R_new' ho0 (Kd.R_lt (by (with_reducible repeat (first | apply Kd.R_alloc | apply Kd.R_drewN | apply Kd.R_drew)); exact HO_9.out))) (below_size (by repeat (first | (with_reducible first | exact HB.out | apply below_alloc | apply pw_below_drewN | apply below_drew1 | refine below_set ?_ GE260.out | refine below_set ?_ GE261.out) | exact HB.out)))); have n2_ := Aside0.mk (blk_below (g := gb260) (o := .cells #[.int .i64 a0_0, .int .i64 a0_1, .int .i64 a0_2, .slice Ao45 t263.length co45] 25 (0, 0)) (by (with_reducible repeat (first | refine blk_drewN ?_ _ | refine blk_drew ?_ | refine blk_alloc ?_ _)); exact BK260.out) hb); have n3_ := Aside0.mk (blk_below (g := gb261) (o := .cells #[.int .i64 0, .int .i64 0, .int .i64 0, .slice none 0 0] 25 (0, 0)) (by (with_reducible repeat (first | refine blk_drewN ?_ _ | refine blk_drew ?_ | refine blk_alloc ?_ _)); exact BK261.out) hb); have n4_ := Aside0.mk (below_step (by repeat (first | (with_reducible first | exact HB.out | apply below_alloc | apply pw_below_drewN | apply below_drew1 | refine below_set ?_ GE260.out | refine below_set ?_ GE261.out) | exact HB.out)) hb); (try clear HO_9); clear BK260; clear BK261; clear HB; have HO272 := n1_; have BK260 := n2_; have BK261 := n3_; have HB := n4_; clear n1_ n2_ n3_ n4_; (try clear hb); (try clear hb2); (try clear hk); (try clear hi); (try clear ho0); obtain ⟨Ao51, co51, eo51⟩ := Kd.R_slice HO272.out; subst eo51; have hcz52_0 : w50.cell? ⟨gb260, 0, none⟩ = some (.int .i64 a0_0) := (blk_cell BK260.out 0).trans rfl; have hcz52_1 : w50.cell? ⟨gb260, 1, none⟩ = some (.int .i64 a0_1) := (blk_cell BK260.out 1).trans rfl; have hcz52_2 : w50.cell? ⟨gb260, 2, none⟩ = some (.int .i64 a0_2) := (blk_cell BK260.out 2).trans rfl; have hcz52_3 : w50.cell? ⟨gb260, 3, none⟩ = some (.slice Ao45 t263.length co45) := (blk_cell BK260.out 3).trans rfl; have hfz52_0 := blk_frozen BK260.out 0; have hfz52_1 := blk_frozen BK260.out 1; have hfz52_2 := blk_frozen BK260.out 2; have hfz52_3 := blk_frozen BK260.out 3; have hcz53_0 : w50.cell? ⟨gb261, 0, none⟩ = some (.int .i64 0) := (blk_cell BK261.out 0).trans rfl; have hcz53_1 : w50.cell? ⟨gb261, 1, none⟩ = some (.int .i64 0) := (blk_cell BK261.out 1).trans rfl; have hcz53_2 : w50.cell? ⟨gb261, 2, none⟩ = some (.int .i64 0) := (blk_cell BK261.out 2).trans rfl; have hcz53_3 : w50.cell? ⟨gb261, 3, none⟩ = some (.slice none 0 0) := (blk_cell BK261.out 3).trans rfl; have hfz53_0 := blk_frozen BK261.out 0; have hfz53_1 := blk_frozen BK261.out 1; have hfz53_2 := blk_frozen BK261.out 2; have hfz53_3 := blk_frozen BK261.out 3))
         refine bodyPost_ret (results_ct rfl _ _ gb261 25 #[.int .i64 a0_0, .int .i64 a0_1, .int .i64 a0_2, .slice Ao51 t270.length co51] (0, 0) _ rfl (by (with_reducible repeat (first | refine blk_drewN ?_ _ | refine blk_drew ?_ | refine blk_alloc ?_ _)); refine blk_put (cs := #[.int .i64 a0_0, .int .i64 a0_1, .int .i64 a0_2, .slice none 0 0]) ?_ 3 _ rfl; refine blk_put (cs := #[.int .i64 a0_0, .int .i64 a0_1, .int .i64 0, .slice none 0 0]) ?_ 2 _ rfl; refine blk_put (cs := #[.int .i64 a0_0, .int .i64 0, .int .i64 0, .slice none 0 0]) ?_ 1 _ rfl; refine blk_put (cs := #[.int .i64 0, .int .i64 0, .int .i64 0, .slice none 0 0]) ?_ 0 _ rfl; refine blk_far ?_ NB261_260.out _; (with_reducible repeat (first | refine blk_drewN ?_ _ | refine blk_drew ?_ | refine blk_alloc ?_ _)); exact BK261.out) Try.underlying25 rfl (by kernel_rfl)) rfl ?_
         exact ⟨_, by first | rfl | (simp [errW_none, errW_some] <;> rfl) | (simp [*, errW_none, errW_some] <;> rfl), by (with_reducible repeat (first | apply Kd.R_alloc | apply Kd.R_drewN | apply Kd.R_drew)); exact Kd.R_mono (Kd.R_far (p := ⟨gb261, 3, none⟩) (Kd.R_far (p := ⟨gb261, 2, none⟩) (Kd.R_far (p := ⟨gb261, 1, none⟩) (Kd.R_far (p := ⟨gb261, 0, none⟩) (Kd.R_far (p := ⟨gb260, 3, none⟩) (Kd.R_types (Kd.R_types HO272.out BK260.out (by decide)) BK261.out (by decide)) (fun _ hk => hk.1.2) (.slice Ao51 t270.length co51)) (fun _ hk => hk.2) (.int .i64 a0_0)) (fun _ hk => hk.2) (.int .i64 a0_1)) (fun _ hk => hk.2) (.int .i64 a0_2)) (fun _ hk => hk.2) (.slice Ao51 t270.length co51)) (fun _ hk => trivial), by repeat (first | (with_reducible first | exact HB.out | apply below_alloc | apply pw_below_drewN | apply below_drew1 | refine below_set ?_ GE260.out | refine below_set ?_ GE261.out) | exact HB.out)⟩
 ·rw [if_neg c5] at H
  have c5b0 : (t262 == 0) = false := beq_eq_false_iff_ne.mpr c5
  have c5b1 : (t262 != 0) = true := bne_iff_ne.mpr c5
  simp only [Option.some.injEq, Prod.mk.injEq] at H
  obtain ⟨rfl, rfl, rfl, rfl, rfl⟩ := H
  go_enter Try.func22, Try.ntmps22
  go_wp2_with (first | ((with_reducible refine gate_dst (N := 3) rfl ?_); refine box_event ?hg (N := 3) ?hd (cs := #[.int .i64 a0_0, .int .i64 a0_1, .int .i64 a0_2, .slice A0_3 l0_3.length c0_3]) (t := 25) ?hr ?_; (case hd => rfl); (case hg => rfl); (case hr => first | (go_simp; done) | (go_simp; rfl)); intro gb260 hg w54 hbox hb; have qb_ := below_both (by repeat (first | (with_reducible first | exact HB.out | apply below_alloc | apply pw_below_drewN | apply below_drew1) | exact HB.out)) hb; have n0_ := Aside0.mk (qb_.1); have n1_ := Aside0.mk (hbox); have n3_ := Aside0.mk ((by rw [hg]; exact qb_.2 : w.heap.size ≤ gb260)); clear HB; have HB := n0_; have BK260 := n1_; have GE260 := n3_; clear qb_; clear n0_ n1_ n3_; clear hb hbox hg) | ((with_reducible refine gate_dst (N := 6) rfl ?_); refine box_event ?hg (N := 6) ?hd (cs := #[.int .i64 0, .int .i64 0, .int .i64 0, .slice none 0 0]) (t := 25) ?hr ?_; (case hd => rfl); (case hg => rfl); (case hr => first | (go_simp; done) | (go_simp; rfl)); intro gb261 hg w55 hbox hb; have qb_ := below_both (by repeat (first | (with_reducible first | exact HB.out | apply below_alloc | apply pw_below_drewN | apply below_drew1 | refine below_set ?_ GE260.out) | exact HB.out)) hb; have q1_ := blk_below2 (g := gb260) (o := .cells #[.int .i64 a0_0, .int .i64 a0_1, .int .i64 a0_2, .slice A0_3 l0_3.length c0_3] 25 (0, 0)) (by (with_reducible repeat (first | refine blk_drewN ?_ _ | refine blk_drew ?_ | refine blk_alloc ?_ _)); exact BK260.out) hb; have n0_ := Aside0.mk (q1_.1); have n1_ := Aside0.mk (qb_.1); have n2_ := Aside0.mk (hbox); have n4_ := Aside0.mk ((by rw [hg]; exact qb_.2 : w.heap.size ≤ gb261)); have n5_ := Aside0.mk ((by rw [hg]; exact Nat.ne_of_lt q1_.2 : gb260 ≠ gb261)); have n6_ := Aside0.mk (Ne.symm n5_.out); clear BK260; clear HB; have BK260 := n0_; have HB := n1_; have BK261 := n2_; have GE261 := n4_; have NB260_261 := n5_; have NB261_260 := n6_; clear q1_; clear qb_; clear n0_ n1_ n2_ n4_ n5_ n6_; clear hb hbox hg; have hnb56 := NB260_261.out; have hnc56 := NB261_260.out; have hcz57_0 : w55.cell? ⟨gb260, 0, none⟩ = some (.int .i64 a0_0) := (blk_cell BK260.out 0).trans rfl; have hcz57_1 : w55.cell? ⟨gb260, 1, none⟩ = some (.int .i64 a0_1) := (blk_cell BK260.out 1).trans rfl; have hcz57_2 : w55.cell? ⟨gb260, 2, none⟩ = some (.int .i64 a0_2) := (blk_cell BK260.out 2).trans rfl; have hcz57_3 : w55.cell? ⟨gb260, 3, none⟩ = some (.slice A0_3 l0_3.length c0_3) := (blk_cell BK260.out 3).trans rfl; have hfz57_0 := blk_frozen BK260.out 0; have hfz57_1 := blk_frozen BK260.out 1; have hfz57_2 := blk_frozen BK260.out 2; have hfz57_3 := blk_frozen BK260.out 3) | ((with_reducible refine gate_callee (f := 12) rfl ?_); refine goesL_ (some 14) rfl rfl Try.func12 (by kernel_rfl) rfl #[.agg #[.int .i64 a0_0, .int .i64 a0_1, .int .i64 a0_2, .slice A0_3 l0_3.length c0_3]] rfl (by (try simp only [List.map_toArray, List.map_cons, List.map_nil]); first | done | rfl | (simp only [List.length_drop, List.length_take]; rfl)) ?_; (with_reducible refine (customsref21_ValidGuarantee.calls k a0_0 a0_1 a0_2 _ _ l0_3 t262 _ ?side1 ?side2 A4.out).mono ?_); (case side1 => repeat (first | exact (Kd.C_below HR0_3.out HB.out) | (with_reducible refine Kd.C_alloc ?_ _) | (with_reducible refine Kd.C_drewN ?_ _) | (with_reducible refine Kd.C_drew ?_))); (case side2 => exact HC0_3.out); rintro e w58 ⟨rfl, hb⟩; refine ⟨_, rfl, ?_⟩; have n1_ := Aside0.mk (blk_below (g := gb261) (o := .cells #[.int .i64 0, .int .i64 0, .int .i64 0, .slice none 0 0] 25 (0, 0)) (by (with_reducible repeat (first | refine blk_drewN ?_ _ | refine blk_drew ?_ | refine blk_alloc ?_ _)); exact BK261.out) hb); have n2_ := Aside0.mk (below_step (by repeat (first | (with_reducible first | exact HB.out | apply below_alloc | apply pw_below_drewN | apply below_drew1 | refine below_set ?_ GE260.out | refine below_set ?_ GE261.out) | exact HB.out)) hb); (try clear BK260); clear BK261; clear HB; have BK261 := n1_; have HB := n2_; clear n1_ n2_; (try clear hb); (try clear hb2); (try clear hk); (try clear hi); have hcz59_0 : w58.cell? ⟨gb261, 0, none⟩ = some (.int .i64 0) := (blk_cell BK261.out 0).trans rfl; have hcz59_1 : w58.cell? ⟨gb261, 1, none⟩ = some (.int .i64 0) := (blk_cell BK261.out 1).trans rfl; have hcz59_2 : w58.cell? ⟨gb261, 2, none⟩ = some (.int .i64 0) := (blk_cell BK261.out 2).trans rfl; have hcz59_3 : w58.cell? ⟨gb261, 3, none⟩ = some (.slice none 0 0) := (blk_cell BK261.out 3).trans rfl; have hfz59_0 := blk_frozen BK261.out 0; have hfz59_1 := blk_frozen BK261.out 1; have hfz59_2 := blk_frozen BK261.out 2; have hfz59_3 := blk_frozen BK261.out 3))
  refine bodyPost_ret (results_ct rfl _ _ gb261 25 #[.int .i64 0, .int .i64 0, .int .i64 0, .slice none 0 0] (0, 0) _ rfl (by (with_reducible repeat (first | refine blk_drewN ?_ _ | refine blk_drew ?_ | refine blk_alloc ?_ _)); refine blk_put (cs := #[.int .i64 0, .int .i64 0, .int .i64 0, .slice none 0 0]) ?_ 3 _ rfl; refine blk_put (cs := #[.int .i64 0, .int .i64 0, .int .i64 0, .slice none 0 0]) ?_ 2 _ rfl; refine blk_put (cs := #[.int .i64 0, .int .i64 0, .int .i64 0, .slice none 0 0]) ?_ 1 _ rfl; refine blk_put (cs := #[.int .i64 0, .int .i64 0, .int .i64 0, .slice none 0 0]) ?_ 0 _ rfl; (with_reducible repeat (first | refine blk_drewN ?_ _ | refine blk_drew ?_ | refine blk_alloc ?_ _)); exact BK261.out) Try.underlying25 rfl (by kernel_rfl)) rfl ?_
  exact ⟨_, by first | rfl | (simp [errW_none, errW_some] <;> rfl) | (simp [*, errW_none, errW_some] <;> rfl), by first | exact Kd.R_nil _ _ _ _ _ | exact Kd.N_nil _ _ _ _ _ | exact Kd.V_nil _ _ _ _ _ | exact Kd.Q_nil _ _ _ _ _ | exact Kd.S_nil _ _ _ _ _, by repeat (first | (with_reducible first | exact HB.out | apply below_alloc | apply pw_below_drewN | apply below_drew1 | refine below_set ?_ GE260.out | refine below_set ?_ GE261.out) | exact HB.out)⟩
def customsref21_Release.f (k : Nat) (a0_0 : Int) (a0_1 : Int) (a0_2 : Int) (l0_3 : List (S39)) (a1 : Int) : Option (Int × Int × Int × (List (S39)) × Int) := (customsref21_ValidGuarantee.f k a0_0 a0_1 a0_2 l0_3).bind fun t275 => (if t275 = 0 then ((customsref21_without.f k l0_3 a1).bind fun bt276 => (if bt276.2 < 0 then (some (0, 0, 0, ([] : List (S39)), 6)) else (some (a0_0, a0_1, a0_2, bt276.1, 0)))) else (some (0, 0, 0, ([] : List (S39)), t275)))
set_option maxHeartbeats 8000000 in
set_option maxRecDepth 100000 in
theorem customsref21_Release.calls (k : Nat) (a0_0 : Int) (a0_1 : Int) (a0_2 : Int) (A0_3 : Option Addr) (c0_3 : Nat) (l0_3 : List (S39)) (a1 : Int) (r1 : Int) (r2 : Int) (r3 : Int) (r4 : List (S39)) (r5 : Int) (w : World) (hr0_3 : Kd.C k39 w A0_3 l0_3.length l0_3) (hc0_3 : l0_3.length ≤ c0_3) (h : customsref21_Release.f k a0_0 a0_1 a0_2 l0_3 a1 = some (r1, r2, r3, r4, r5)) :
  Calls Try.prog 23 #[.agg #[.int .i64 a0_0, .int .i64 a0_1, .int .i64 a0_2, .slice A0_3 l0_3.length c0_3], .int .i64 a1] w fun e w' => ∃ v3_ : Value, e = .returned (.tuple #[.agg #[.int .i64 r1, .int .i64 r2, .int .i64 r3, v3_], .int .i64 r5]) ∧ Kd.R k39 39 w' w.heap.size (fun _ => True) v3_ r4 ∧ Below w.heap.size w w' := by
 have hu25 := Try.underlying25
 have HR0_3 := Aside0.mk hr0_3
 have HC0_3 := Aside0.mk hc0_3
 clear hr0_3 hc0_3
 have HB := Aside0.mk (Below.refl w.heap.size w)
 have H : ((customsref21_ValidGuarantee.f k a0_0 a0_1 a0_2 l0_3).bind fun t275 => (if t275 = 0 then ((customsref21_without.f k l0_3 a1).bind fun bt276 => (if bt276.2 < 0 then (some (0, 0, 0, ([] : List (S39)), 6)) else (some (a0_0, a0_1, a0_2, bt276.1, 0)))) else (some (0, 0, 0, ([] : List (S39)), t275)))) = some (r1, r2, r3, r4, r5) := h
 clear h
 replace H := Option.bind_eq_some_iff.mp H
 obtain ⟨t275, A30, H⟩ := H
 replace H : (if t275 = 0 then ((customsref21_without.f k l0_3 a1).bind fun bt276 => (if bt276.2 < 0 then (some (0, 0, 0, ([] : List (S39)), 6)) else (some (a0_0, a0_1, a0_2, bt276.1, 0)))) else (some (0, 0, 0, ([] : List (S39)), t275))) = some (r1, r2, r3, r4, r5) := H
 have A3 := Aside0.mk A30
 clear A30
 by_cases c4 : t275 = 0
 ·rw [if_pos c4] at H
  have c4b0 : (t275 == 0) = true := beq_iff_eq.mpr c4
  have c4b1 : (t275 != 0) = false := bne_eq_false_iff_eq.mpr c4
  clear c4
  replace H := Option.bind_eq_some_iff.mp H
  obtain ⟨⟨t276, t277⟩, A50, H⟩ := H
  replace H : (if t277 < 0 then (some (0, 0, 0, ([] : List (S39)), 6)) else (some (a0_0, a0_1, a0_2, t276, 0))) = some (r1, r2, r3, r4, r5) := H
  have A5 := Aside0.mk A50
  clear A50
  by_cases c6 : t277 < 0
  ·rw [if_pos c6] at H
   have c6b0 : decide (t277 < 0) = true := decide_eq_true c6
   clear c6
   simp only [Option.some.injEq, Prod.mk.injEq] at H
   obtain ⟨rfl, rfl, rfl, rfl, rfl⟩ := H
   go_enter Try.func23, Try.ntmps23
   go_wp2_with (first | ((with_reducible refine gate_dst (N := 2) rfl ?_); refine box_event ?hg (N := 2) ?hd (cs := #[.int .i64 a0_0, .int .i64 a0_1, .int .i64 a0_2, .slice A0_3 l0_3.length c0_3]) (t := 25) ?hr ?_; (case hd => rfl); (case hg => rfl); (case hr => first | (go_simp; done) | (go_simp; rfl)); intro gb273 hg w7 hbox hb; have qb_ := below_both (by repeat (first | (with_reducible first | exact HB.out | apply below_alloc | apply pw_below_drewN | apply below_drew1) | exact HB.out)) hb; have n0_ := Aside0.mk (qb_.1); have n1_ := Aside0.mk (hbox); have n3_ := Aside0.mk ((by rw [hg]; exact qb_.2 : w.heap.size ≤ gb273)); clear HB; have HB := n0_; have BK273 := n1_; have GE273 := n3_; clear qb_; clear n0_ n1_ n3_; clear hb hbox hg) | ((with_reducible refine gate_dst (N := 4) rfl ?_); refine box_event ?hg (N := 4) ?hd (cs := #[.int .i64 0, .int .i64 0, .int .i64 0, .slice none 0 0]) (t := 25) ?hr ?_; (case hd => rfl); (case hg => rfl); (case hr => first | (go_simp; done) | (go_simp; rfl)); intro gb274 hg w8 hbox hb; have qb_ := below_both (by repeat (first | (with_reducible first | exact HB.out | apply below_alloc | apply pw_below_drewN | apply below_drew1 | refine below_set ?_ GE273.out) | exact HB.out)) hb; have q1_ := blk_below2 (g := gb273) (o := .cells #[.int .i64 a0_0, .int .i64 a0_1, .int .i64 a0_2, .slice A0_3 l0_3.length c0_3] 25 (0, 0)) (by (with_reducible repeat (first | refine blk_drewN ?_ _ | refine blk_drew ?_ | refine blk_alloc ?_ _)); exact BK273.out) hb; have n0_ := Aside0.mk (q1_.1); have n1_ := Aside0.mk (qb_.1); have n2_ := Aside0.mk (hbox); have n4_ := Aside0.mk ((by rw [hg]; exact qb_.2 : w.heap.size ≤ gb274)); have n5_ := Aside0.mk ((by rw [hg]; exact Nat.ne_of_lt q1_.2 : gb273 ≠ gb274)); have n6_ := Aside0.mk (Ne.symm n5_.out); clear BK273; clear HB; have BK273 := n0_; have HB := n1_; have BK274 := n2_; have GE274 := n4_; have NB273_274 := n5_; have NB274_273 := n6_; clear q1_; clear qb_; clear n0_ n1_ n2_ n4_ n5_ n6_; clear hb hbox hg; have hnb9 := NB273_274.out; have hnc9 := NB274_273.out; have hcz10_0 : w8.cell? ⟨gb273, 0, none⟩ = some (.int .i64 a0_0) := (blk_cell BK273.out 0).trans rfl; have hcz10_1 : w8.cell? ⟨gb273, 1, none⟩ = some (.int .i64 a0_1) := (blk_cell BK273.out 1).trans rfl; have hcz10_2 : w8.cell? ⟨gb273, 2, none⟩ = some (.int .i64 a0_2) := (blk_cell BK273.out 2).trans rfl; have hcz10_3 : w8.cell? ⟨gb273, 3, none⟩ = some (.slice A0_3 l0_3.length c0_3) := (blk_cell BK273.out 3).trans rfl; have hfz10_0 := blk_frozen BK273.out 0; have hfz10_1 := blk_frozen BK273.out 1; have hfz10_2 := blk_frozen BK273.out 2; have hfz10_3 := blk_frozen BK273.out 3) | ((with_reducible refine gate_callee (f := 12) rfl ?_); refine goesL_ (some 10) rfl rfl Try.func12 (by kernel_rfl) rfl #[.agg #[.int .i64 a0_0, .int .i64 a0_1, .int .i64 a0_2, .slice A0_3 l0_3.length c0_3]] rfl (by (try simp only [List.map_toArray, List.map_cons, List.map_nil]); first | done | rfl | (simp only [List.length_drop, List.length_take]; rfl)) ?_; (with_reducible refine (customsref21_ValidGuarantee.calls k a0_0 a0_1 a0_2 _ _ l0_3 t275 _ ?side1 ?side2 A3.out).mono ?_); (case side1 => repeat (first | exact (Kd.C_below HR0_3.out HB.out) | (with_reducible refine Kd.C_alloc ?_ _) | (with_reducible refine Kd.C_drewN ?_ _) | (with_reducible refine Kd.C_drew ?_))); (case side2 => exact HC0_3.out); rintro e w11 ⟨rfl, hb⟩; refine ⟨_, rfl, ?_⟩; have n0_ := Aside0.mk (blk_below (g := gb273) (o := .cells #[.int .i64 a0_0, .int .i64 a0_1, .int .i64 a0_2, .slice A0_3 l0_3.length c0_3] 25 (0, 0)) (by (with_reducible repeat (first | refine blk_drewN ?_ _ | refine blk_drew ?_ | refine blk_alloc ?_ _)); exact BK273.out) hb); have n1_ := Aside0.mk (blk_below (g := gb274) (o := .cells #[.int .i64 0, .int .i64 0, .int .i64 0, .slice none 0 0] 25 (0, 0)) (by (with_reducible repeat (first | refine blk_drewN ?_ _ | refine blk_drew ?_ | refine blk_alloc ?_ _)); exact BK274.out) hb); have n2_ := Aside0.mk (below_step (by repeat (first | (with_reducible first | exact HB.out | apply below_alloc | apply pw_below_drewN | apply below_drew1 | refine below_set ?_ GE273.out | refine below_set ?_ GE274.out) | exact HB.out)) hb); clear BK273; clear BK274; clear HB; have BK273 := n0_; have BK274 := n1_; have HB := n2_; clear n0_ n1_ n2_; (try clear hb); (try clear hb2); (try clear hk); (try clear hi); have hcz12_0 : w11.cell? ⟨gb273, 0, none⟩ = some (.int .i64 a0_0) := (blk_cell BK273.out 0).trans rfl; have hcz12_1 : w11.cell? ⟨gb273, 1, none⟩ = some (.int .i64 a0_1) := (blk_cell BK273.out 1).trans rfl; have hcz12_2 : w11.cell? ⟨gb273, 2, none⟩ = some (.int .i64 a0_2) := (blk_cell BK273.out 2).trans rfl; have hcz12_3 : w11.cell? ⟨gb273, 3, none⟩ = some (.slice A0_3 l0_3.length c0_3) := (blk_cell BK273.out 3).trans rfl; have hfz12_0 := blk_frozen BK273.out 0; have hfz12_1 := blk_frozen BK273.out 1; have hfz12_2 := blk_frozen BK273.out 2; have hfz12_3 := blk_frozen BK273.out 3) | ((with_reducible refine gate_callee (f := 42) rfl ?_); refine goesL_ (some 19) rfl rfl Try.func42 (by kernel_rfl) rfl #[.slice A0_3 l0_3.length c0_3, .int .i64 a1] rfl (by (try simp only [List.map_toArray, List.map_cons, List.map_nil]); first | done | rfl | (simp only [List.length_drop, List.length_take]; rfl)) ?_; (with_reducible refine (customsref21_without.calls k _ _ l0_3 a1 t276 t277 _ ?side1 ?side2 A5.out).mono ?_); (case side1 => repeat (first | exact (Kd.C_below HR0_3.out HB.out) | (with_reducible refine Kd.C_alloc ?_ _) | (with_reducible refine Kd.C_drewN ?_ _) | (with_reducible refine Kd.C_drew ?_))); (case side2 => exact HC0_3.out); rintro e w13 ⟨v278, rfl, ho0, hb⟩; refine ⟨_, rfl, ?_⟩; have n2_ := Aside0.mk (blk_below (g := gb274) (o := .cells #[.int .i64 0, .int .i64 0, .int .i64 0, .slice none 0 0] 25 (0, 0)) (by (with_reducible repeat (first | refine blk_drewN ?_ _ | refine blk_drew ?_ | refine blk_alloc ?_ _)); exact BK274.out) hb); have n3_ := Aside0.mk (below_step (by repeat (first | (with_reducible first | exact HB.out | apply below_alloc | apply pw_below_drewN | apply below_drew1 | refine below_set ?_ GE273.out | refine below_set ?_ GE274.out) | exact HB.out)) hb); (try clear BK273); clear BK274; clear HB; have BK274 := n2_; have HB := n3_; clear n2_ n3_; (try clear hb); (try clear hb2); (try clear hk); (try clear hi); (try clear ho0); have hcz14_0 : w13.cell? ⟨gb274, 0, none⟩ = some (.int .i64 0) := (blk_cell BK274.out 0).trans rfl; have hcz14_1 : w13.cell? ⟨gb274, 1, none⟩ = some (.int .i64 0) := (blk_cell BK274.out 1).trans rfl; have hcz14_2 : w13.cell? ⟨gb274, 2, none⟩ = some (.int .i64 0) := (blk_cell BK274.out 2).trans rfl; have hcz14_3 : w13.cell? ⟨gb274, 3, none⟩ = some (.slice none 0 0) := (blk_cell BK274.out 3).trans rfl; have hfz14_0 := blk_frozen BK274.out 0; have hfz14_1 := blk_frozen BK274.out 1; have hfz14_2 := blk_frozen BK274.out 2; have hfz14_3 := blk_frozen BK274.out 3))
   refine bodyPost_ret (results_ct rfl _ _ gb274 25 #[.int .i64 0, .int .i64 0, .int .i64 0, .slice none 0 0] (0, 0) _ rfl (by (with_reducible repeat (first | refine blk_drewN ?_ _ | refine blk_drew ?_ | refine blk_alloc ?_ _)); refine blk_put (cs := #[.int .i64 0, .int .i64 0, .int .i64 0, .slice none 0 0]) ?_ 3 _ rfl; refine blk_put (cs := #[.int .i64 0, .int .i64 0, .int .i64 0, .slice none 0 0]) ?_ 2 _ rfl; refine blk_put (cs := #[.int .i64 0, .int .i64 0, .int .i64 0, .slice none 0 0]) ?_ 1 _ rfl; refine blk_put (cs := #[.int .i64 0, .int .i64 0, .int .i64 0, .slice none 0 0]) ?_ 0 _ rfl; (with_reducible repeat (first | refine blk_drewN ?_ _ | refine blk_drew ?_ | refine blk_alloc ?_ _)); exact BK274.out) Try.underlying25 rfl (by kernel_rfl)) rfl ?_
   exact ⟨_, by first | rfl | (simp [errW_none, errW_some] <;> rfl) | (simp [*, errW_none, errW_some] <;> rfl), by first | exact Kd.R_nil _ _ _ _ _ | exact Kd.N_nil _ _ _ _ _ | exact Kd.V_nil _ _ _ _ _ | exact Kd.Q_nil _ _ _ _ _ | exact Kd.S_nil _ _ _ _ _, by repeat (first | (with_reducible first | exact HB.out | apply below_alloc | apply pw_below_drewN | apply below_drew1 | refine below_set ?_ GE273.out | refine below_set ?_ GE274.out) | exact HB.out)⟩
  ·rw [if_neg c6] at H
   have c6b0 : decide (t277 < 0) = false := decide_eq_false c6
   clear c6
   simp only [Option.some.injEq, Prod.mk.injEq] at H
   obtain ⟨rfl, rfl, rfl, rfl, rfl⟩ := H
   go_enter Try.func23, Try.ntmps23
   go_wp2_with (first | ((with_reducible refine gate_dst (N := 2) rfl ?_); refine box_event ?hg (N := 2) ?hd (cs := #[.int .i64 a0_0, .int .i64 a0_1, .int .i64 a0_2, .slice A0_3 l0_3.length c0_3]) (t := 25) ?hr ?_; (case hd => rfl); (case hg => rfl); (case hr => first | (go_simp; done) | (go_simp; rfl)); intro gb273 hg w15 hbox hb; have qb_ := below_both (by repeat (first | (with_reducible first | exact HB.out | apply below_alloc | apply pw_below_drewN | apply below_drew1) | exact HB.out)) hb; have n0_ := Aside0.mk (qb_.1); have n1_ := Aside0.mk (hbox); have n3_ := Aside0.mk ((by rw [hg]; exact qb_.2 : w.heap.size ≤ gb273)); clear HB; have HB := n0_; have BK273 := n1_; have GE273 := n3_; clear qb_; clear n0_ n1_ n3_; clear hb hbox hg) | ((with_reducible refine gate_dst (N := 4) rfl ?_); refine box_event ?hg (N := 4) ?hd (cs := #[.int .i64 0, .int .i64 0, .int .i64 0, .slice none 0 0]) (t := 25) ?hr ?_; (case hd => rfl); (case hg => rfl); (case hr => first | (go_simp; done) | (go_simp; rfl)); intro gb274 hg w16 hbox hb; have qb_ := below_both (by repeat (first | (with_reducible first | exact HB.out | apply below_alloc | apply pw_below_drewN | apply below_drew1 | refine below_set ?_ GE273.out) | exact HB.out)) hb; have q1_ := blk_below2 (g := gb273) (o := .cells #[.int .i64 a0_0, .int .i64 a0_1, .int .i64 a0_2, .slice A0_3 l0_3.length c0_3] 25 (0, 0)) (by (with_reducible repeat (first | refine blk_drewN ?_ _ | refine blk_drew ?_ | refine blk_alloc ?_ _)); exact BK273.out) hb; have n0_ := Aside0.mk (q1_.1); have n1_ := Aside0.mk (qb_.1); have n2_ := Aside0.mk (hbox); have n4_ := Aside0.mk ((by rw [hg]; exact qb_.2 : w.heap.size ≤ gb274)); have n5_ := Aside0.mk ((by rw [hg]; exact Nat.ne_of_lt q1_.2 : gb273 ≠ gb274)); have n6_ := Aside0.mk (Ne.symm n5_.out); clear BK273; clear HB; have BK273 := n0_; have HB := n1_; have BK274 := n2_; have GE274 := n4_; have NB273_274 := n5_; have NB274_273 := n6_; clear q1_; clear qb_; clear n0_ n1_ n2_ n4_ n5_ n6_; clear hb hbox hg; have hnb17 := NB273_274.out; have hnc17 := NB274_273.out; have hcz18_0 : w16.cell? ⟨gb273, 0, none⟩ = some (.int .i64 a0_0) := (blk_cell BK273.out 0).trans rfl; have hcz18_1 : w16.cell? ⟨gb273, 1, none⟩ = some (.int .i64 a0_1) := (blk_cell BK273.out 1).trans rfl; have hcz18_2 : w16.cell? ⟨gb273, 2, none⟩ = some (.int .i64 a0_2) := (blk_cell BK273.out 2).trans rfl; have hcz18_3 : w16.cell? ⟨gb273, 3, none⟩ = some (.slice A0_3 l0_3.length c0_3) := (blk_cell BK273.out 3).trans rfl; have hfz18_0 := blk_frozen BK273.out 0; have hfz18_1 := blk_frozen BK273.out 1; have hfz18_2 := blk_frozen BK273.out 2; have hfz18_3 := blk_frozen BK273.out 3) | ((with_reducible refine gate_callee (f := 12) rfl ?_); refine goesL_ (some 10) rfl rfl Try.func12 (by kernel_rfl) rfl #[.agg #[.int .i64 a0_0, .int .i64 a0_1, .int .i64 a0_2, .slice A0_3 l0_3.length c0_3]] rfl (by (try simp only [List.map_toArray, List.map_cons, List.map_nil]); first | done | rfl | (simp only [List.length_drop, List.length_take]; rfl)) ?_; (with_reducible refine (customsref21_ValidGuarantee.calls k a0_0 a0_1 a0_2 _ _ l0_3 t275 _ ?side1 ?side2 A3.out).mono ?_); (case side1 => repeat (first | exact (Kd.C_below HR0_3.out HB.out) | (with_reducible refine Kd.C_alloc ?_ _) | (with_reducible refine Kd.C_drewN ?_ _) | (with_reducible refine Kd.C_drew ?_))); (case side2 => exact HC0_3.out); rintro e w19 ⟨rfl, hb⟩; refine ⟨_, rfl, ?_⟩; have n0_ := Aside0.mk (blk_below (g := gb273) (o := .cells #[.int .i64 a0_0, .int .i64 a0_1, .int .i64 a0_2, .slice A0_3 l0_3.length c0_3] 25 (0, 0)) (by (with_reducible repeat (first | refine blk_drewN ?_ _ | refine blk_drew ?_ | refine blk_alloc ?_ _)); exact BK273.out) hb); have n1_ := Aside0.mk (blk_below (g := gb274) (o := .cells #[.int .i64 0, .int .i64 0, .int .i64 0, .slice none 0 0] 25 (0, 0)) (by (with_reducible repeat (first | refine blk_drewN ?_ _ | refine blk_drew ?_ | refine blk_alloc ?_ _)); exact BK274.out) hb); have n2_ := Aside0.mk (below_step (by repeat (first | (with_reducible first | exact HB.out | apply below_alloc | apply pw_below_drewN | apply below_drew1 | refine below_set ?_ GE273.out | refine below_set ?_ GE274.out) | exact HB.out)) hb); clear BK273; clear BK274; clear HB; have BK273 := n0_; have BK274 := n1_; have HB := n2_; clear n0_ n1_ n2_; (try clear hb); (try clear hb2); (try clear hk); (try clear hi); have hcz20_0 : w19.cell? ⟨gb273, 0, none⟩ = some (.int .i64 a0_0) := (blk_cell BK273.out 0).trans rfl; have hcz20_1 : w19.cell? ⟨gb273, 1, none⟩ = some (.int .i64 a0_1) := (blk_cell BK273.out 1).trans rfl; have hcz20_2 : w19.cell? ⟨gb273, 2, none⟩ = some (.int .i64 a0_2) := (blk_cell BK273.out 2).trans rfl; have hcz20_3 : w19.cell? ⟨gb273, 3, none⟩ = some (.slice A0_3 l0_3.length c0_3) := (blk_cell BK273.out 3).trans rfl; have hfz20_0 := blk_frozen BK273.out 0; have hfz20_1 := blk_frozen BK273.out 1; have hfz20_2 := blk_frozen BK273.out 2; have hfz20_3 := blk_frozen BK273.out 3) | ((with_reducible refine gate_callee (f := 42) rfl ?_); refine goesL_ (some 19) rfl rfl Try.func42 (by kernel_rfl) rfl #[.slice A0_3 l0_3.length c0_3, .int .i64 a1] rfl (by (try simp only [List.map_toArray, List.map_cons, List.map_nil]); first | done | rfl | (simp only [List.length_drop, List.length_take]; rfl)) ?_; (with_reducible refine (customsref21_without.calls k _ _ l0_3 a1 t276 t277 _ ?side1 ?side2 A5.out).mono ?_); (case side1 => repeat (first | exact (Kd.C_below HR0_3.out HB.out) | (with_reducible refine Kd.C_alloc ?_ _) | (with_reducible refine Kd.C_drewN ?_ _) | (with_reducible refine Kd.C_drew ?_))); (case side2 => exact HC0_3.out); rintro e w21 ⟨v278, rfl, ho0, hb⟩; refine ⟨_, rfl, ?_⟩; have qb_ := below_both (by repeat (first | (with_reducible first | exact HB.out | apply below_alloc | apply pw_below_drewN | apply below_drew1 | refine below_set ?_ GE273.out | refine below_set ?_ GE274.out) | exact HB.out)) hb; have n0_ := Aside0.mk (Kd.R_lower ho0 qb_.2); have n1_ := Aside0.mk (blk_below (g := gb273) (o := .cells #[.int .i64 a0_0, .int .i64 a0_1, .int .i64 a0_2, .slice A0_3 l0_3.length c0_3] 25 (0, 0)) (by (with_reducible repeat (first | refine blk_drewN ?_ _ | refine blk_drew ?_ | refine blk_alloc ?_ _)); exact BK273.out) hb); have n2_ := Aside0.mk (blk_below (g := gb274) (o := .cells #[.int .i64 0, .int .i64 0, .int .i64 0, .slice none 0 0] 25 (0, 0)) (by (with_reducible repeat (first | refine blk_drewN ?_ _ | refine blk_drew ?_ | refine blk_alloc ?_ _)); exact BK274.out) hb); have n3_ := Aside0.mk (qb_.1); clear BK273; clear BK274; clear HB; have HO279 := n0_; have BK273 := n1_; have BK274 := n2_; have HB := n3_; clear qb_; clear n0_ n1_ n2_ n3_; (try clear hb); (try clear hb2); (try clear hk); (try clear hi); (try clear ho0); obtain ⟨Ao22, co22, eo22⟩ := Kd.R_slice HO279.out; subst eo22; have hcz23_0 : w21.cell? ⟨gb273, 0, none⟩ = some (.int .i64 a0_0) := (blk_cell BK273.out 0).trans rfl; have hcz23_1 : w21.cell? ⟨gb273, 1, none⟩ = some (.int .i64 a0_1) := (blk_cell BK273.out 1).trans rfl; have hcz23_2 : w21.cell? ⟨gb273, 2, none⟩ = some (.int .i64 a0_2) := (blk_cell BK273.out 2).trans rfl; have hcz23_3 : w21.cell? ⟨gb273, 3, none⟩ = some (.slice A0_3 l0_3.length c0_3) := (blk_cell BK273.out 3).trans rfl; have hfz23_0 := blk_frozen BK273.out 0; have hfz23_1 := blk_frozen BK273.out 1; have hfz23_2 := blk_frozen BK273.out 2; have hfz23_3 := blk_frozen BK273.out 3; have hcz24_0 : w21.cell? ⟨gb274, 0, none⟩ = some (.int .i64 0) := (blk_cell BK274.out 0).trans rfl; have hcz24_1 : w21.cell? ⟨gb274, 1, none⟩ = some (.int .i64 0) := (blk_cell BK274.out 1).trans rfl; have hcz24_2 : w21.cell? ⟨gb274, 2, none⟩ = some (.int .i64 0) := (blk_cell BK274.out 2).trans rfl; have hcz24_3 : w21.cell? ⟨gb274, 3, none⟩ = some (.slice none 0 0) := (blk_cell BK274.out 3).trans rfl; have hfz24_0 := blk_frozen BK274.out 0; have hfz24_1 := blk_frozen BK274.out 1; have hfz24_2 := blk_frozen BK274.out 2; have hfz24_3 := blk_frozen BK274.out 3))
   refine bodyPost_ret (results_ct rfl _ _ gb274 25 #[.int .i64 a0_0, .int .i64 a0_1, .int .i64 a0_2, .slice Ao22 t276.length co22] (0, 0) _ rfl (by (with_reducible repeat (first | refine blk_drewN ?_ _ | refine blk_drew ?_ | refine blk_alloc ?_ _)); refine blk_put (cs := #[.int .i64 a0_0, .int .i64 a0_1, .int .i64 a0_2, .slice none 0 0]) ?_ 3 _ rfl; refine blk_put (cs := #[.int .i64 a0_0, .int .i64 a0_1, .int .i64 0, .slice none 0 0]) ?_ 2 _ rfl; refine blk_put (cs := #[.int .i64 a0_0, .int .i64 0, .int .i64 0, .slice none 0 0]) ?_ 1 _ rfl; refine blk_put (cs := #[.int .i64 0, .int .i64 0, .int .i64 0, .slice none 0 0]) ?_ 0 _ rfl; refine blk_far ?_ NB274_273.out _; (with_reducible repeat (first | refine blk_drewN ?_ _ | refine blk_drew ?_ | refine blk_alloc ?_ _)); exact BK274.out) Try.underlying25 rfl (by kernel_rfl)) rfl ?_
   exact ⟨_, by first | rfl | (simp [errW_none, errW_some] <;> rfl) | (simp [*, errW_none, errW_some] <;> rfl), by (with_reducible repeat (first | apply Kd.R_alloc | apply Kd.R_drewN | apply Kd.R_drew)); exact Kd.R_mono (Kd.R_far (p := ⟨gb274, 3, none⟩) (Kd.R_far (p := ⟨gb274, 2, none⟩) (Kd.R_far (p := ⟨gb274, 1, none⟩) (Kd.R_far (p := ⟨gb274, 0, none⟩) (Kd.R_far (p := ⟨gb273, 3, none⟩) (Kd.R_types (Kd.R_types HO279.out BK273.out (by decide)) BK274.out (by decide)) (fun _ hk => hk.1.2) (.slice Ao22 t276.length co22)) (fun _ hk => hk.2) (.int .i64 a0_0)) (fun _ hk => hk.2) (.int .i64 a0_1)) (fun _ hk => hk.2) (.int .i64 a0_2)) (fun _ hk => hk.2) (.slice Ao22 t276.length co22)) (fun _ hk => trivial), by repeat (first | (with_reducible first | exact HB.out | apply below_alloc | apply pw_below_drewN | apply below_drew1 | refine below_set ?_ GE273.out | refine below_set ?_ GE274.out) | exact HB.out)⟩
 ·rw [if_neg c4] at H
  have c4b0 : (t275 == 0) = false := beq_eq_false_iff_ne.mpr c4
  have c4b1 : (t275 != 0) = true := bne_iff_ne.mpr c4
  simp only [Option.some.injEq, Prod.mk.injEq] at H
  obtain ⟨rfl, rfl, rfl, rfl, rfl⟩ := H
  go_enter Try.func23, Try.ntmps23
  go_wp2_with (first | ((with_reducible refine gate_dst (N := 2) rfl ?_); refine box_event ?hg (N := 2) ?hd (cs := #[.int .i64 a0_0, .int .i64 a0_1, .int .i64 a0_2, .slice A0_3 l0_3.length c0_3]) (t := 25) ?hr ?_; (case hd => rfl); (case hg => rfl); (case hr => first | (go_simp; done) | (go_simp; rfl)); intro gb273 hg w25 hbox hb; have qb_ := below_both (by repeat (first | (with_reducible first | exact HB.out | apply below_alloc | apply pw_below_drewN | apply below_drew1) | exact HB.out)) hb; have n0_ := Aside0.mk (qb_.1); have n1_ := Aside0.mk (hbox); have n3_ := Aside0.mk ((by rw [hg]; exact qb_.2 : w.heap.size ≤ gb273)); clear HB; have HB := n0_; have BK273 := n1_; have GE273 := n3_; clear qb_; clear n0_ n1_ n3_; clear hb hbox hg) | ((with_reducible refine gate_dst (N := 4) rfl ?_); refine box_event ?hg (N := 4) ?hd (cs := #[.int .i64 0, .int .i64 0, .int .i64 0, .slice none 0 0]) (t := 25) ?hr ?_; (case hd => rfl); (case hg => rfl); (case hr => first | (go_simp; done) | (go_simp; rfl)); intro gb274 hg w26 hbox hb; have qb_ := below_both (by repeat (first | (with_reducible first | exact HB.out | apply below_alloc | apply pw_below_drewN | apply below_drew1 | refine below_set ?_ GE273.out) | exact HB.out)) hb; have q1_ := blk_below2 (g := gb273) (o := .cells #[.int .i64 a0_0, .int .i64 a0_1, .int .i64 a0_2, .slice A0_3 l0_3.length c0_3] 25 (0, 0)) (by (with_reducible repeat (first | refine blk_drewN ?_ _ | refine blk_drew ?_ | refine blk_alloc ?_ _)); exact BK273.out) hb; have n0_ := Aside0.mk (q1_.1); have n1_ := Aside0.mk (qb_.1); have n2_ := Aside0.mk (hbox); have n4_ := Aside0.mk ((by rw [hg]; exact qb_.2 : w.heap.size ≤ gb274)); have n5_ := Aside0.mk ((by rw [hg]; exact Nat.ne_of_lt q1_.2 : gb273 ≠ gb274)); have n6_ := Aside0.mk (Ne.symm n5_.out); clear BK273; clear HB; have BK273 := n0_; have HB := n1_; have BK274 := n2_; have GE274 := n4_; have NB273_274 := n5_; have NB274_273 := n6_; clear q1_; clear qb_; clear n0_ n1_ n2_ n4_ n5_ n6_; clear hb hbox hg; have hnb27 := NB273_274.out; have hnc27 := NB274_273.out; have hcz28_0 : w26.cell? ⟨gb273, 0, none⟩ = some (.int .i64 a0_0) := (blk_cell BK273.out 0).trans rfl; have hcz28_1 : w26.cell? ⟨gb273, 1, none⟩ = some (.int .i64 a0_1) := (blk_cell BK273.out 1).trans rfl; have hcz28_2 : w26.cell? ⟨gb273, 2, none⟩ = some (.int .i64 a0_2) := (blk_cell BK273.out 2).trans rfl; have hcz28_3 : w26.cell? ⟨gb273, 3, none⟩ = some (.slice A0_3 l0_3.length c0_3) := (blk_cell BK273.out 3).trans rfl; have hfz28_0 := blk_frozen BK273.out 0; have hfz28_1 := blk_frozen BK273.out 1; have hfz28_2 := blk_frozen BK273.out 2; have hfz28_3 := blk_frozen BK273.out 3) | ((with_reducible refine gate_callee (f := 12) rfl ?_); refine goesL_ (some 10) rfl rfl Try.func12 (by kernel_rfl) rfl #[.agg #[.int .i64 a0_0, .int .i64 a0_1, .int .i64 a0_2, .slice A0_3 l0_3.length c0_3]] rfl (by (try simp only [List.map_toArray, List.map_cons, List.map_nil]); first | done | rfl | (simp only [List.length_drop, List.length_take]; rfl)) ?_; (with_reducible refine (customsref21_ValidGuarantee.calls k a0_0 a0_1 a0_2 _ _ l0_3 t275 _ ?side1 ?side2 A3.out).mono ?_); (case side1 => repeat (first | exact (Kd.C_below HR0_3.out HB.out) | (with_reducible refine Kd.C_alloc ?_ _) | (with_reducible refine Kd.C_drewN ?_ _) | (with_reducible refine Kd.C_drew ?_))); (case side2 => exact HC0_3.out); rintro e w29 ⟨rfl, hb⟩; refine ⟨_, rfl, ?_⟩; have n1_ := Aside0.mk (blk_below (g := gb274) (o := .cells #[.int .i64 0, .int .i64 0, .int .i64 0, .slice none 0 0] 25 (0, 0)) (by (with_reducible repeat (first | refine blk_drewN ?_ _ | refine blk_drew ?_ | refine blk_alloc ?_ _)); exact BK274.out) hb); have n2_ := Aside0.mk (below_step (by repeat (first | (with_reducible first | exact HB.out | apply below_alloc | apply pw_below_drewN | apply below_drew1 | refine below_set ?_ GE273.out | refine below_set ?_ GE274.out) | exact HB.out)) hb); (try clear BK273); clear BK274; clear HB; have BK274 := n1_; have HB := n2_; clear n1_ n2_; (try clear hb); (try clear hb2); (try clear hk); (try clear hi); have hcz30_0 : w29.cell? ⟨gb274, 0, none⟩ = some (.int .i64 0) := (blk_cell BK274.out 0).trans rfl; have hcz30_1 : w29.cell? ⟨gb274, 1, none⟩ = some (.int .i64 0) := (blk_cell BK274.out 1).trans rfl; have hcz30_2 : w29.cell? ⟨gb274, 2, none⟩ = some (.int .i64 0) := (blk_cell BK274.out 2).trans rfl; have hcz30_3 : w29.cell? ⟨gb274, 3, none⟩ = some (.slice none 0 0) := (blk_cell BK274.out 3).trans rfl; have hfz30_0 := blk_frozen BK274.out 0; have hfz30_1 := blk_frozen BK274.out 1; have hfz30_2 := blk_frozen BK274.out 2; have hfz30_3 := blk_frozen BK274.out 3))
  refine bodyPost_ret (results_ct rfl _ _ gb274 25 #[.int .i64 0, .int .i64 0, .int .i64 0, .slice none 0 0] (0, 0) _ rfl (by (with_reducible repeat (first | refine blk_drewN ?_ _ | refine blk_drew ?_ | refine blk_alloc ?_ _)); refine blk_put (cs := #[.int .i64 0, .int .i64 0, .int .i64 0, .slice none 0 0]) ?_ 3 _ rfl; refine blk_put (cs := #[.int .i64 0, .int .i64 0, .int .i64 0, .slice none 0 0]) ?_ 2 _ rfl; refine blk_put (cs := #[.int .i64 0, .int .i64 0, .int .i64 0, .slice none 0 0]) ?_ 1 _ rfl; refine blk_put (cs := #[.int .i64 0, .int .i64 0, .int .i64 0, .slice none 0 0]) ?_ 0 _ rfl; (with_reducible repeat (first | refine blk_drewN ?_ _ | refine blk_drew ?_ | refine blk_alloc ?_ _)); exact BK274.out) Try.underlying25 rfl (by kernel_rfl)) rfl ?_
  exact ⟨_, by first | rfl | (simp [errW_none, errW_some] <;> rfl) | (simp [*, errW_none, errW_some] <;> rfl), by first | exact Kd.R_nil _ _ _ _ _ | exact Kd.N_nil _ _ _ _ _ | exact Kd.V_nil _ _ _ _ _ | exact Kd.Q_nil _ _ _ _ _ | exact Kd.S_nil _ _ _ _ _, by repeat (first | (with_reducible first | exact HB.out | apply below_alloc | apply pw_below_drewN | apply below_drew1 | refine below_set ?_ GE273.out | refine below_set ?_ GE274.out) | exact HB.out)⟩
end Go.Proofs.Ytakhjhiofmgpnaa.PA
-- Written by a program of this claim (wip/tools: mkprint.py, pr.sh) out of the translation: plain functions and their contracts. Lean checks every line.
namespace Go.Proofs.Ytakhjhiofmgpnaa.PA
open Go.RowKit Go.Proofs.YtakhjhiofmgpnaaW.PrintWords Go.Proofs.YtakhjhiofmgpnaaW.PrintLast Go.Proofs.YtakhjhiofmgpnaaW.PrintMore Go.Proofs.Ytakhjhiofmgpnaa.G
attribute [local go_sem] max2_int min2_int max_two min_two max_three min_three max_four min_four   -- for this text's walks alone
set_option linter.unusedVariables false
set_option linter.unusedSimpArgs false
def customsref21_Resize.j0 : Nat → Int → Bool → Int → Int → Int → List (S39) → Option (Int × Int × Int × (List (S39)) × Int)
 | 0, _, _, _, _, _, _ => none
 | k + 1, x1, x18, x281000, x281001, x281002, x281003 => if x18 = true then (some (0, 0, 0, ([] : List (S39)), 2)) else ((customsref21_Total.f k x281000 x281001 x281002 x281003).bind fun t283 => (if t283 > x1 then (some (0, 0, 0, ([] : List (S39)), 16)) else ((some (([] : List (S39)) : List (S39))).bind fun y284 => (if y284.length + x281003.length < 8796093022208 then (some (x281000, x1, x281002, (y284 ++ x281003), 0)) else (none)))))
def customsref21_Resize.f (k : Nat) (a0_0 : Int) (a0_1 : Int) (a0_2 : Int) (l0_3 : List (S39)) (a1 : Int) : Option (Int × Int × Int × (List (S39)) × Int) := (customsref21_ValidGuarantee.f k a0_0 a0_1 a0_2 l0_3).bind fun t282 => (if t282 = 0 then (if a1 < 0 then (customsref21_Resize.j0 k a1 true a0_0 a0_1 a0_2 l0_3) else (customsref21_Resize.j0 k a1 (decide (a1 > 1000000000000)) a0_0 a0_1 a0_2 l0_3)) else (some (0, 0, 0, ([] : List (S39)), t282)))
set_option maxHeartbeats 8000000 in
set_option maxRecDepth 100000 in
theorem customsref21_Resize.calls (k : Nat) (a0_0 : Int) (a0_1 : Int) (a0_2 : Int) (A0_3 : Option Addr) (c0_3 : Nat) (l0_3 : List (S39)) (a1 : Int) (r1 : Int) (r2 : Int) (r3 : Int) (r4 : List (S39)) (r5 : Int) (w : World) (hr0_3 : Kd.C k39 w A0_3 l0_3.length l0_3) (hc0_3 : l0_3.length ≤ c0_3) (h : customsref21_Resize.f k a0_0 a0_1 a0_2 l0_3 a1 = some (r1, r2, r3, r4, r5)) :
  Calls Try.prog 25 #[.agg #[.int .i64 a0_0, .int .i64 a0_1, .int .i64 a0_2, .slice A0_3 l0_3.length c0_3], .int .i64 a1] w fun e w' => ∃ v3_ : Value, e = .returned (.tuple #[.agg #[.int .i64 r1, .int .i64 r2, .int .i64 r3, v3_], .int .i64 r5]) ∧ Kd.R k39 39 w' w.heap.size (fun _ => True) v3_ r4 ∧ Below w.heap.size w w' := by
 have hu25 := Try.underlying25
 have HR0_3 := Aside0.mk hr0_3
 have HC0_3 := Aside0.mk hc0_3
 clear hr0_3 hc0_3
 have HB := Aside0.mk (Below.refl w.heap.size w)
 have H : ((customsref21_ValidGuarantee.f k a0_0 a0_1 a0_2 l0_3).bind fun t282 => (if t282 = 0 then (if a1 < 0 then (customsref21_Resize.j0 k a1 true a0_0 a0_1 a0_2 l0_3) else (customsref21_Resize.j0 k a1 (decide (a1 > 1000000000000)) a0_0 a0_1 a0_2 l0_3)) else (some (0, 0, 0, ([] : List (S39)), t282)))) = some (r1, r2, r3, r4, r5) := h
 clear h
 replace H := Option.bind_eq_some_iff.mp H
 obtain ⟨t282, A30, H⟩ := H
 replace H : (if t282 = 0 then (if a1 < 0 then (customsref21_Resize.j0 k a1 true a0_0 a0_1 a0_2 l0_3) else (customsref21_Resize.j0 k a1 (decide (a1 > 1000000000000)) a0_0 a0_1 a0_2 l0_3)) else (some (0, 0, 0, ([] : List (S39)), t282))) = some (r1, r2, r3, r4, r5) := H
 have A3 := Aside0.mk A30
 clear A30
 by_cases c4 : t282 = 0
 ·rw [if_pos c4] at H
  have c4b0 : (t282 == 0) = true := beq_iff_eq.mpr c4
  have c4b1 : (t282 != 0) = false := bne_eq_false_iff_eq.mpr c4
  clear c4
  have HC5 := Aside0.mk H
  clear H
  go_enter Try.func25, Try.ntmps25
  go_upto_region 4 with (first | ((with_reducible refine gate_dst (N := 2) rfl ?_); refine box_event ?hg (N := 2) ?hd (cs := #[.int .i64 a0_0, .int .i64 a0_1, .int .i64 a0_2, .slice A0_3 l0_3.length c0_3]) (t := 25) ?hr ?_; (case hd => rfl); (case hg => rfl); (case hr => first | (go_simp; done) | (go_simp; rfl)); intro gb280 hg w6 hbox hb; have qb_ := below_both (by repeat (first | (with_reducible first | exact HB.out | apply below_alloc | apply pw_below_drewN | apply below_drew1) | exact HB.out)) hb; have n0_ := Aside0.mk (qb_.1); have n1_ := Aside0.mk (hbox); have n2_ := Aside0.mk ((by rw [hg]; exact qb_.2 : w.heap.size ≤ gb280)); have n3_ := n2_; clear HB; have HB := n0_; have BK280 := n1_; have GW280 := n2_; have GE280 := n3_; clear qb_; clear n0_ n1_ n2_ n3_; clear hb hbox hg) | ((with_reducible refine gate_dst (N := 4) rfl ?_); refine box_event ?hg (N := 4) ?hd (cs := #[.int .i64 0, .int .i64 0, .int .i64 0, .slice none 0 0]) (t := 25) ?hr ?_; (case hd => rfl); (case hg => rfl); (case hr => first | (go_simp; done) | (go_simp; rfl)); intro gb281 hg w7 hbox hb; have qb_ := below_both (by repeat (first | (with_reducible first | exact HB.out | apply below_alloc | apply pw_below_drewN | apply below_drew1 | refine below_set ?_ GE280.out) | exact HB.out)) hb; have q1_ := blk_below2 (g := gb280) (o := .cells #[.int .i64 a0_0, .int .i64 a0_1, .int .i64 a0_2, .slice A0_3 l0_3.length c0_3] 25 (0, 0)) (by (with_reducible repeat (first | refine blk_drewN ?_ _ | refine blk_drew ?_ | refine blk_alloc ?_ _)); exact BK280.out) hb; have n0_ := Aside0.mk (q1_.1); have n1_ := Aside0.mk (qb_.1); have n2_ := Aside0.mk (hbox); have n3_ := Aside0.mk ((by rw [hg]; exact qb_.2 : w.heap.size ≤ gb281)); have n4_ := n3_; have n5_ := Aside0.mk ((by rw [hg]; exact Nat.ne_of_lt q1_.2 : gb280 ≠ gb281)); have n6_ := Aside0.mk (Ne.symm n5_.out); clear BK280; clear HB; have BK280 := n0_; have HB := n1_; have BK281 := n2_; have GW281 := n3_; have GE281 := n4_; have NB280_281 := n5_; have NB281_280 := n6_; clear q1_; clear qb_; clear n0_ n1_ n2_ n3_ n4_ n5_ n6_; clear hb hbox hg; have hnb8 := NB280_281.out; have hnc8 := NB281_280.out; have hcz9_0 : w7.cell? ⟨gb280, 0, none⟩ = some (.int .i64 a0_0) := (blk_cell BK280.out 0).trans rfl; have hcz9_1 : w7.cell? ⟨gb280, 1, none⟩ = some (.int .i64 a0_1) := (blk_cell BK280.out 1).trans rfl; have hcz9_2 : w7.cell? ⟨gb280, 2, none⟩ = some (.int .i64 a0_2) := (blk_cell BK280.out 2).trans rfl; have hcz9_3 : w7.cell? ⟨gb280, 3, none⟩ = some (.slice A0_3 l0_3.length c0_3) := (blk_cell BK280.out 3).trans rfl; have hfz9_0 := blk_frozen BK280.out 0; have hfz9_1 := blk_frozen BK280.out 1; have hfz9_2 := blk_frozen BK280.out 2; have hfz9_3 := blk_frozen BK280.out 3) | ((with_reducible refine gate_callee (f := 12) rfl ?_); refine goesL_ (some 8) rfl rfl Try.func12 (by kernel_rfl) rfl #[.agg #[.int .i64 a0_0, .int .i64 a0_1, .int .i64 a0_2, .slice A0_3 l0_3.length c0_3]] rfl (by (try simp only [List.map_toArray, List.map_cons, List.map_nil]); first | done | rfl | (simp only [List.length_drop, List.length_take]; rfl)) ?_; (with_reducible refine (customsref21_ValidGuarantee.calls k a0_0 a0_1 a0_2 _ _ l0_3 t282 _ ?side1 ?side2 A3.out).mono ?_); (case side1 => repeat (first | exact (Kd.C_below HR0_3.out HB.out) | (with_reducible refine Kd.C_alloc ?_ _) | (with_reducible refine Kd.C_drewN ?_ _) | (with_reducible refine Kd.C_drew ?_))); (case side2 => exact HC0_3.out); rintro e w10 ⟨rfl, hb⟩; refine ⟨_, rfl, ?_⟩; have n0_ := Aside0.mk (blk_below (g := gb280) (o := .cells #[.int .i64 a0_0, .int .i64 a0_1, .int .i64 a0_2, .slice A0_3 l0_3.length c0_3] 25 (0, 0)) (by (with_reducible repeat (first | refine blk_drewN ?_ _ | refine blk_drew ?_ | refine blk_alloc ?_ _)); exact BK280.out) hb); have n1_ := Aside0.mk (blk_below (g := gb281) (o := .cells #[.int .i64 0, .int .i64 0, .int .i64 0, .slice none 0 0] 25 (0, 0)) (by (with_reducible repeat (first | refine blk_drewN ?_ _ | refine blk_drew ?_ | refine blk_alloc ?_ _)); exact BK281.out) hb); have n2_ := Aside0.mk (below_step (by repeat (first | (with_reducible first | exact HB.out | apply below_alloc | apply pw_below_drewN | apply below_drew1 | refine below_set ?_ GE280.out | refine below_set ?_ GE281.out) | exact HB.out)) hb); clear BK280; clear BK281; clear HB; have BK280 := n0_; have BK281 := n1_; have HB := n2_; clear n0_ n1_ n2_; (try clear hb); (try clear hb2); (try clear hk); (try clear hi)))
  (try simp only [Act.put, List.setIfInBounds_toArray, List.set_cons_zero, List.set_cons_succ])
  go_cut [18] (fun v18 wc => ∃ (kq : Nat) (x18_4 : Bool), v18 = .bool x18_4 ∧ Aside0 (customsref21_Resize.j0 kq a1 x18_4 a0_0 a0_1 a0_2 l0_3 = some (r1, r2, r3, r4, r5)) ∧ Aside0 (kq ≤ k) ∧ Aside0 (wc.heap[gb280]? = some (.cells #[.int .i64 a0_0, .int .i64 a0_1, .int .i64 a0_2, (.slice A0_3 l0_3.length c0_3)] 25 (0, 0))) ∧ Aside0 (wc.heap[gb281]? = some (.cells #[.int .i64 0, .int .i64 0, .int .i64 0, (.slice none 0 0)] 25 (0, 0))) ∧ Aside0 (Below w.heap.size w wc))
  case first =>
   have H := HC5.out
   clear HC5
   by_cases c11 : a1 < 0
   ·rw [if_pos c11] at H
    have c11b0 : decide (a1 < 0) = true := decide_eq_true c11
    clear c11
    (first | rw [c11b0] | (simp only [i64_w, i32_w]; rw [c11b0]) | skip)
    have H' := Aside0.mk H
    clear H
    go_wp2
    go_meet
    case rel => exact ⟨_, (true), (by first | rfl | (simp; done) | (simp [*]; done)), H', ⟨by first | omega | exact Nat.le_refl _⟩, ⟨by (with_reducible repeat (first | refine blk_drewN ?_ _ | refine blk_drew ?_ | refine blk_alloc ?_ _)); exact BK280.out⟩, ⟨by (with_reducible repeat (first | refine blk_drewN ?_ _ | refine blk_drew ?_ | refine blk_alloc ?_ _)); exact BK281.out⟩, ⟨by repeat (first | (with_reducible first | exact HB.out | apply below_alloc | apply pw_below_drewN | apply below_drew1 | refine below_set ?_ GE280.out | refine below_set ?_ GE281.out) | exact HB.out)⟩⟩
   ·rw [if_neg c11] at H
    have c11b0 : decide (a1 < 0) = false := decide_eq_false c11
    clear c11
    (first | rw [c11b0] | (simp only [i64_w, i32_w]; rw [c11b0]) | skip)
    have H' := Aside0.mk H
    clear H
    go_wp2
    go_meet
    case rel => exact ⟨_, (decide (a1 > 1000000000000)), (by first | rfl | (simp; done) | (simp [*]; done)), H', ⟨by first | omega | exact Nat.le_refl _⟩, ⟨by (with_reducible repeat (first | refine blk_drewN ?_ _ | refine blk_drew ?_ | refine blk_alloc ?_ _)); exact BK280.out⟩, ⟨by (with_reducible repeat (first | refine blk_drewN ?_ _ | refine blk_drew ?_ | refine blk_alloc ?_ _)); exact BK281.out⟩, ⟨by repeat (first | (with_reducible first | exact HB.out | apply below_alloc | apply pw_below_drewN | apply below_drew1 | refine below_set ?_ GE280.out | refine below_set ?_ GE281.out) | exact HB.out)⟩⟩
  case rest =>
   clear HC5
   try clear c1
   try clear c2
   try clear p2
   try clear c4
   try clear c4b0
   try clear c4b1
   try clear c8
   try clear c11
   try clear c11b0
   try clear hcz9_0
   try clear hcz9_1
   try clear hcz9_2
   try clear hcz9_3
   try clear hfz9_0
   try clear hfz9_1
   try clear hfz9_2
   try clear hfz9_3
   obtain ⟨kq, x18_4, rfl, HA, HJ4, BK280, BK281, HB⟩ := hcut
   cases kq with
   | zero => exact absurd HA.out (by simp [customsref21_Resize.j0])
   | succ kj4 =>
    have H := HA.out
    clear HA
    simp only [customsref21_Resize.j0] at H
    by_cases c12 : x18_4 = true
    ·subst c12
     have H1 : (some (0, 0, 0, ([] : List (S39)), 2)) = some (r1, r2, r3, r4, r5) := by rw [if_pos rfl] at H; exact H
     clear H
     have H := H1
     clear H1
     simp only [Option.some.injEq, Prod.mk.injEq] at H
     obtain ⟨rfl, rfl, rfl, rfl, rfl⟩ := H
     have hnb13 := NB281_280.out
     have hnc13 := NB280_281.out
     have hcz14_0 : wc.cell? ⟨gb281, 0, none⟩ = some (.int .i64 0) := (blk_cell BK281.out 0).trans rfl
     have hcz14_1 : wc.cell? ⟨gb281, 1, none⟩ = some (.int .i64 0) := (blk_cell BK281.out 1).trans rfl
     have hcz14_2 : wc.cell? ⟨gb281, 2, none⟩ = some (.int .i64 0) := (blk_cell BK281.out 2).trans rfl
     have hcz14_3 : wc.cell? ⟨gb281, 3, none⟩ = some (.slice none 0 0) := (blk_cell BK281.out 3).trans rfl
     have hfz14_0 := blk_frozen BK281.out 0
     have hfz14_1 := blk_frozen BK281.out 1
     have hfz14_2 := blk_frozen BK281.out 2
     have hfz14_3 := blk_frozen BK281.out 3
     go_wp2
     refine bodyPost_ret (results_ct rfl _ _ gb281 25 #[.int .i64 0, .int .i64 0, .int .i64 0, .slice none 0 0] (0, 0) _ rfl (by (with_reducible repeat (first | refine blk_drewN ?_ _ | refine blk_drew ?_ | refine blk_alloc ?_ _)); refine blk_put (cs := #[.int .i64 0, .int .i64 0, .int .i64 0, .slice none 0 0]) ?_ 3 _ rfl; refine blk_put (cs := #[.int .i64 0, .int .i64 0, .int .i64 0, .slice none 0 0]) ?_ 2 _ rfl; refine blk_put (cs := #[.int .i64 0, .int .i64 0, .int .i64 0, .slice none 0 0]) ?_ 1 _ rfl; refine blk_put (cs := #[.int .i64 0, .int .i64 0, .int .i64 0, .slice none 0 0]) ?_ 0 _ rfl; (with_reducible repeat (first | refine blk_drewN ?_ _ | refine blk_drew ?_ | refine blk_alloc ?_ _)); exact BK281.out) Try.underlying25 rfl (by kernel_rfl)) rfl ?_
     exact ⟨_, by first | rfl | (simp [errW_none, errW_some] <;> rfl) | (simp [*, errW_none, errW_some] <;> rfl), by first | exact Kd.R_nil _ _ _ _ _ | exact Kd.N_nil _ _ _ _ _ | exact Kd.V_nil _ _ _ _ _ | exact Kd.Q_nil _ _ _ _ _ | exact Kd.S_nil _ _ _ _ _, by repeat (first | (with_reducible first | exact HB.out | apply below_alloc | apply pw_below_drewN | apply below_drew1 | refine below_set ?_ GE280.out | refine below_set ?_ GE281.out) | exact HB.out)⟩
    ·replace c12 := Bool.eq_false_iff.mpr c12
     subst c12
     have H1 : ((customsref21_Total.f kj4 a0_0 a0_1 a0_2 l0_3).bind fun t283 => (if t283 > a1 then (some (0, 0, 0, ([] : List (S39)), 16)) else ((some (([] : List (S39)) : List (S39))).bind fun y284 => (if y284.length + l0_3.length < 8796093022208 then (some (a0_0, a1, a0_2, (y284 ++ l0_3), 0)) else (none))))) = some (r1, r2, r3, r4, r5) := by rw [if_neg (show ¬ (false = true) by decide)] at H; exact H
     clear H
     have H := H1
     clear H1
     replace H := Option.bind_eq_some_iff.mp H
     obtain ⟨t283, A150, H⟩ := H
     replace H : (if t283 > a1 then (some (0, 0, 0, ([] : List (S39)), 16)) else ((some (([] : List (S39)) : List (S39))).bind fun y284 => (if y284.length + l0_3.length < 8796093022208 then (some (a0_0, a1, a0_2, (y284 ++ l0_3), 0)) else (none)))) = some (r1, r2, r3, r4, r5) := H
     have A15 := Aside0.mk A150
     clear A150
     by_cases c16 : t283 > a1
     ·rw [if_pos c16] at H
      have c16b0 : decide (a1 < t283) = true := decide_eq_true c16
      clear c16
      simp only [Option.some.injEq, Prod.mk.injEq] at H
      obtain ⟨rfl, rfl, rfl, rfl, rfl⟩ := H
      have hnb17 := NB280_281.out
      have hnc17 := NB281_280.out
      have hcz18_0 : wc.cell? ⟨gb280, 0, none⟩ = some (.int .i64 a0_0) := (blk_cell BK280.out 0).trans rfl
      have hcz18_1 : wc.cell? ⟨gb280, 1, none⟩ = some (.int .i64 a0_1) := (blk_cell BK280.out 1).trans rfl
      have hcz18_2 : wc.cell? ⟨gb280, 2, none⟩ = some (.int .i64 a0_2) := (blk_cell BK280.out 2).trans rfl
      have hcz18_3 : wc.cell? ⟨gb280, 3, none⟩ = some (.slice A0_3 l0_3.length c0_3) := (blk_cell BK280.out 3).trans rfl
      have hfz18_0 := blk_frozen BK280.out 0
      have hfz18_1 := blk_frozen BK280.out 1
      have hfz18_2 := blk_frozen BK280.out 2
      have hfz18_3 := blk_frozen BK280.out 3
      go_wp2_with (first | ((with_reducible refine gate_callee (f := 14) rfl ?_); refine goesL_ (some 21) rfl rfl Try.func14 (by kernel_rfl) rfl #[.agg #[.int .i64 a0_0, .int .i64 a0_1, .int .i64 a0_2, .slice A0_3 l0_3.length c0_3]] rfl (by (try simp only [List.map_toArray, List.map_cons, List.map_nil]); first | done | rfl | (simp only [List.length_drop, List.length_take]; rfl)) ?_; (with_reducible refine (customsref21_Total.calls kj4 a0_0 a0_1 a0_2 _ _ l0_3 t283 _ ?side1 ?side2 A15.out).mono ?_); (case side1 => repeat (first | exact (Kd.C_below HR0_3.out HB.out) | (with_reducible refine Kd.C_alloc ?_ _) | (with_reducible refine Kd.C_drewN ?_ _) | (with_reducible refine Kd.C_drew ?_))); (case side2 => exact HC0_3.out); rintro e w19 ⟨rfl, hb⟩; refine ⟨_, rfl, ?_⟩; have n1_ := Aside0.mk (blk_below (g := gb281) (o := .cells #[.int .i64 0, .int .i64 0, .int .i64 0, .slice none 0 0] 25 (0, 0)) (by (with_reducible repeat (first | refine blk_drewN ?_ _ | refine blk_drew ?_ | refine blk_alloc ?_ _)); exact BK281.out) hb); have n2_ := Aside0.mk (below_step (by repeat (first | (with_reducible first | exact HB.out | apply below_alloc | apply pw_below_drewN | apply below_drew1 | refine below_set ?_ GE280.out | refine below_set ?_ GE281.out) | exact HB.out)) hb); (try clear BK280); clear BK281; clear HB; have BK281 := n1_; have HB := n2_; clear n1_ n2_; (try clear hb); (try clear hb2); (try clear hk); (try clear hi); have hcz20_0 : w19.cell? ⟨gb281, 0, none⟩ = some (.int .i64 0) := (blk_cell BK281.out 0).trans rfl; have hcz20_1 : w19.cell? ⟨gb281, 1, none⟩ = some (.int .i64 0) := (blk_cell BK281.out 1).trans rfl; have hcz20_2 : w19.cell? ⟨gb281, 2, none⟩ = some (.int .i64 0) := (blk_cell BK281.out 2).trans rfl; have hcz20_3 : w19.cell? ⟨gb281, 3, none⟩ = some (.slice none 0 0) := (blk_cell BK281.out 3).trans rfl; have hfz20_0 := blk_frozen BK281.out 0; have hfz20_1 := blk_frozen BK281.out 1; have hfz20_2 := blk_frozen BK281.out 2; have hfz20_3 := blk_frozen BK281.out 3))
      refine bodyPost_ret (results_ct rfl _ _ gb281 25 #[.int .i64 0, .int .i64 0, .int .i64 0, .slice none 0 0] (0, 0) _ rfl (by (with_reducible repeat (first | refine blk_drewN ?_ _ | refine blk_drew ?_ | refine blk_alloc ?_ _)); refine blk_put (cs := #[.int .i64 0, .int .i64 0, .int .i64 0, .slice none 0 0]) ?_ 3 _ rfl; refine blk_put (cs := #[.int .i64 0, .int .i64 0, .int .i64 0, .slice none 0 0]) ?_ 2 _ rfl; refine blk_put (cs := #[.int .i64 0, .int .i64 0, .int .i64 0, .slice none 0 0]) ?_ 1 _ rfl; refine blk_put (cs := #[.int .i64 0, .int .i64 0, .int .i64 0, .slice none 0 0]) ?_ 0 _ rfl; (with_reducible repeat (first | refine blk_drewN ?_ _ | refine blk_drew ?_ | refine blk_alloc ?_ _)); exact BK281.out) Try.underlying25 rfl (by kernel_rfl)) rfl ?_
      exact ⟨_, by first | rfl | (simp [errW_none, errW_some] <;> rfl) | (simp [*, errW_none, errW_some] <;> rfl), by first | exact Kd.R_nil _ _ _ _ _ | exact Kd.N_nil _ _ _ _ _ | exact Kd.V_nil _ _ _ _ _ | exact Kd.Q_nil _ _ _ _ _ | exact Kd.S_nil _ _ _ _ _, by repeat (first | (with_reducible first | exact HB.out | apply below_alloc | apply pw_below_drewN | apply below_drew1 | refine below_set ?_ GE280.out | refine below_set ?_ GE281.out) | exact HB.out)⟩
     ·rw [if_neg c16] at H
      have c16b0 : decide (a1 < t283) = false := decide_eq_false c16
      clear c16
      obtain ⟨y284, hy284⟩ : ∃ y_ : List (S39), y_ = (([] : List (S39))) := ⟨_, rfl⟩
      replace H : (if y284.length + l0_3.length < 8796093022208 then (some (a0_0, a1, a0_2, (y284 ++ l0_3), 0)) else (none)) = some (r1, r2, r3, r4, r5) := by first | (rw [hy284]; with_reducible exact H) | (have H2_ := (Option.bind_some _ _).symm.trans H; rw [hy284]; with_reducible exact H2_) | (have H2_ := (Option.bind_some _ _).symm.trans H; with_reducible exact H2_) | with_reducible exact H | (rw [hy284]; exact H) | exact H
      have Ny284 := Aside0.mk hy284
      clear hy284
      by_cases c21 : y284.length + l0_3.length < 8796093022208
      ·rw [if_pos c21] at H
       have LMc21 := Aside0.mk c21
       clear c21
       obtain ⟨y287, hy287⟩ : ∃ y_ : List (S39), y_ = (y284 ++ l0_3) := ⟨_, rfl⟩
       replace H : (some (a0_0, a1, a0_2, y287, 0)) = some (r1, r2, r3, r4, r5) := by first | (rw [hy287]; with_reducible exact H) | (have H2_ := (Option.bind_some _ _).symm.trans H; rw [hy287]; with_reducible exact H2_) | (have H2_ := (Option.bind_some _ _).symm.trans H; with_reducible exact H2_) | with_reducible exact H | (rw [hy287]; exact H) | exact H
       have Ny287 := Aside0.mk hy287
       clear hy287
       simp only [Option.some.injEq, Prod.mk.injEq] at H
       obtain ⟨rfl, rfl, rfl, rfl, rfl⟩ := H
       have hnb22 := NB280_281.out
       have hnc22 := NB281_280.out
       have hcz23_0 : wc.cell? ⟨gb280, 0, none⟩ = some (.int .i64 a0_0) := (blk_cell BK280.out 0).trans rfl
       have hcz23_1 : wc.cell? ⟨gb280, 1, none⟩ = some (.int .i64 a0_1) := (blk_cell BK280.out 1).trans rfl
       have hcz23_2 : wc.cell? ⟨gb280, 2, none⟩ = some (.int .i64 a0_2) := (blk_cell BK280.out 2).trans rfl
       have hcz23_3 : wc.cell? ⟨gb280, 3, none⟩ = some (.slice A0_3 l0_3.length c0_3) := (blk_cell BK280.out 3).trans rfl
       have hfz23_0 := blk_frozen BK280.out 0
       have hfz23_1 := blk_frozen BK280.out 1
       have hfz23_2 := blk_frozen BK280.out 2
       have hfz23_3 := blk_frozen BK280.out 3
       go_wp2_with (first | ((with_reducible refine gate_callee (f := 14) rfl ?_); refine goesL_ (some 21) rfl rfl Try.func14 (by kernel_rfl) rfl #[.agg #[.int .i64 a0_0, .int .i64 a0_1, .int .i64 a0_2, .slice A0_3 l0_3.length c0_3]] rfl (by (try simp only [List.map_toArray, List.map_cons, List.map_nil]); first | done | rfl | (simp only [List.length_drop, List.length_take]; rfl)) ?_; (with_reducible refine (customsref21_Total.calls kj4 a0_0 a0_1 a0_2 _ _ l0_3 t283 _ ?side1 ?side2 A15.out).mono ?_); (case side1 => repeat (first | exact (Kd.C_below HR0_3.out HB.out) | (with_reducible refine Kd.C_alloc ?_ _) | (with_reducible refine Kd.C_drewN ?_ _) | (with_reducible refine Kd.C_drew ?_))); (case side2 => exact HC0_3.out); rintro e w24 ⟨rfl, hb⟩; refine ⟨_, rfl, ?_⟩; have n0_ := Aside0.mk (blk_below (g := gb280) (o := .cells #[.int .i64 a0_0, .int .i64 a0_1, .int .i64 a0_2, .slice A0_3 l0_3.length c0_3] 25 (0, 0)) (by (with_reducible repeat (first | refine blk_drewN ?_ _ | refine blk_drew ?_ | refine blk_alloc ?_ _)); exact BK280.out) hb); have n1_ := Aside0.mk (blk_below (g := gb281) (o := .cells #[.int .i64 0, .int .i64 0, .int .i64 0, .slice none 0 0] 25 (0, 0)) (by (with_reducible repeat (first | refine blk_drewN ?_ _ | refine blk_drew ?_ | refine blk_alloc ?_ _)); exact BK281.out) hb); have n2_ := Aside0.mk (below_step (by repeat (first | (with_reducible first | exact HB.out | apply below_alloc | apply pw_below_drewN | apply below_drew1 | refine below_set ?_ GE280.out | refine below_set ?_ GE281.out) | exact HB.out)) hb); clear BK280; clear BK281; clear HB; have BK280 := n0_; have BK281 := n1_; have HB := n2_; clear n0_ n1_ n2_; (try clear hb); (try clear hb2); (try clear hk); (try clear hi); have hcz25_0 : w24.cell? ⟨gb280, 0, none⟩ = some (.int .i64 a0_0) := (blk_cell BK280.out 0).trans rfl; have hcz25_1 : w24.cell? ⟨gb280, 1, none⟩ = some (.int .i64 a0_1) := (blk_cell BK280.out 1).trans rfl; have hcz25_2 : w24.cell? ⟨gb280, 2, none⟩ = some (.int .i64 a0_2) := (blk_cell BK280.out 2).trans rfl; have hcz25_3 : w24.cell? ⟨gb280, 3, none⟩ = some (.slice A0_3 l0_3.length c0_3) := (blk_cell BK280.out 3).trans rfl; have hfz25_0 := blk_frozen BK280.out 0; have hfz25_1 := blk_frozen BK280.out 1; have hfz25_2 := blk_frozen BK280.out 2; have hfz25_3 := blk_frozen BK280.out 3) | ((with_reducible refine gate_dst (N := 27) rfl ?_); refine Kd.R_lit k39 _ 39 ?hg (N := 27) ?hd (xs := ([] : List (S39))) (inner := []) (ok := fun _ => True) (okp := fun _ => True) ?hr ?hp (fun _ hk => hk) trivial (Below.refl _ _) (Nat.le_refl _) (by simp) ?_; (case hd => rfl); (case hg => rfl); (case hr => first | (go_simp; done) | (go_simp; rfl)); (case hp => exact (Reps.none _ _)); intro v285 w26 ho27 hb hg_ hnew_; clear hg_ hnew_; (first | rw [← Ny284.out] at ho27 | (simp only [Int.reduceToNat] at ho27; rw [← Ny284.out] at ho27)); have qb_ := below_both (by repeat (first | (with_reducible first | exact HB.out | apply below_alloc | apply pw_below_drewN | apply below_drew1 | refine below_set ?_ GE280.out | refine below_set ?_ GE281.out) | exact HB.out)) hb; have n0_ := Aside0.mk (Kd.R_lower ho27 qb_.2); have n1_ := Aside0.mk (blk_below (g := gb280) (o := .cells #[.int .i64 a0_0, .int .i64 a1, .int .i64 a0_2, .slice A0_3 l0_3.length c0_3] 25 (0, 0)) (by (with_reducible repeat (first | refine blk_drewN ?_ _ | refine blk_drew ?_ | refine blk_alloc ?_ _)); refine blk_put (cs := #[.int .i64 a0_0, .int .i64 a0_1, .int .i64 a0_2, .slice A0_3 l0_3.length c0_3]) ?_ 1 _ rfl; (with_reducible repeat (first | refine blk_drewN ?_ _ | refine blk_drew ?_ | refine blk_alloc ?_ _)); exact BK280.out) hb); have n2_ := Aside0.mk (blk_below (g := gb281) (o := .cells #[.int .i64 0, .int .i64 0, .int .i64 0, .slice none 0 0] 25 (0, 0)) (by (with_reducible repeat (first | refine blk_drewN ?_ _ | refine blk_drew ?_ | refine blk_alloc ?_ _)); refine blk_far ?_ NB281_280.out _; (with_reducible repeat (first | refine blk_drewN ?_ _ | refine blk_drew ?_ | refine blk_alloc ?_ _)); exact BK281.out) hb); have n3_ := Aside0.mk (qb_.1); clear BK280; clear BK281; clear HB; have HO286 := n0_; have BK280 := n1_; have BK281 := n2_; have HB := n3_; clear qb_; clear n0_ n1_ n2_ n3_; clear hb ho27; have hcz28_0 : w26.cell? ⟨gb280, 0, none⟩ = some (.int .i64 a0_0) := (blk_cell BK280.out 0).trans rfl; have hcz28_1 : w26.cell? ⟨gb280, 1, none⟩ = some (.int .i64 a1) := (blk_cell BK280.out 1).trans rfl; have hcz28_2 : w26.cell? ⟨gb280, 2, none⟩ = some (.int .i64 a0_2) := (blk_cell BK280.out 2).trans rfl; have hcz28_3 : w26.cell? ⟨gb280, 3, none⟩ = some (.slice A0_3 l0_3.length c0_3) := (blk_cell BK280.out 3).trans rfl; have hfz28_0 := blk_frozen BK280.out 0; have hfz28_1 := blk_frozen BK280.out 1; have hfz28_2 := blk_frozen BK280.out 2; have hfz28_3 := blk_frozen BK280.out 3) | ((with_reducible refine gate_builtin (b := .append) (xs := #[.tmp 27, .tmp 29]) rfl ?_); at_builtin; refine Kd.R_append_rows k39 (w0 := w) w.heap.size rfl (.tmp 27) (.tmp 29) 23 39 (.agg #[(.int .i64 0), (.int .i64 0)]) 16 rfl Try.underlying23 info39 rfl (by decide) (by omega) v285 y284 l0_3 _ _ _ (fun _ => True) (fun _ => False) rfl rfl ?aO ?aR (fun _ _ h => h) (fun _ h => h.elim) ?aF ?aB ?aS ?aL ?_; (case aR => repeat (first | exact (Kd.C_below HR0_3.out HB.out) | (with_reducible refine Kd.C_alloc ?_ _) | (with_reducible refine Kd.C_drewN ?_ _) | (with_reducible refine Kd.C_drew ?_))); (case aB => exact (by repeat (first | (with_reducible first | exact HB.out | apply below_alloc | apply pw_below_drewN | apply below_drew1 | refine below_set ?_ GE280.out | refine below_set ?_ GE281.out) | exact HB.out))); (case aF => exact (fun _ _ => trivial)); (case aO => exact (by (with_reducible repeat (first | apply Kd.R_alloc | apply Kd.R_drewN | apply Kd.R_drew)); exact HO286.out)); (case aS => exact (below_size (by repeat (first | (with_reducible first | exact HB.out | apply below_alloc | apply pw_below_drewN | apply below_drew1 | refine below_set ?_ GE280.out | refine below_set ?_ GE281.out) | exact HB.out)))); (case aL => have := LMc21.out; omega); intro v288 w29 ho hb hg hat; rw [← Ny287.out] at ho; have n0_ := Aside0.mk (blk_grown (g := gb280) (o := .cells #[.int .i64 a0_0, .int .i64 a1, .int .i64 a0_2, .slice A0_3 l0_3.length c0_3] 25 (0, 0)) (by (with_reducible repeat (first | refine blk_drewN ?_ _ | refine blk_drew ?_ | refine blk_alloc ?_ _)); exact BK280.out) hg (Kd.R_ne HO286.out BK280.out (by decide))); have n1_ := Aside0.mk (blk_grown (g := gb281) (o := .cells #[.int .i64 0, .int .i64 0, .int .i64 0, .slice none 0 0] 25 (0, 0)) (by (with_reducible repeat (first | refine blk_drewN ?_ _ | refine blk_drew ?_ | refine blk_alloc ?_ _)); exact BK281.out) hg (Kd.R_ne HO286.out BK281.out (by decide))); have n2_ := Aside0.mk (hb); have n3_ := Aside0.mk (ho); clear BK280; clear BK281; clear HB; clear HO286; have BK280 := n0_; have BK281 := n1_; have HB := n2_; have HO289 := n3_; clear n0_ n1_ n2_ n3_; clear ho hb hg hat; obtain ⟨Ao30, co30, eo30⟩ := Kd.R_slice HO289.out; subst eo30; have hcz31_0 : w29.cell? ⟨gb280, 0, none⟩ = some (.int .i64 a0_0) := (blk_cell BK280.out 0).trans rfl; have hcz31_1 : w29.cell? ⟨gb280, 1, none⟩ = some (.int .i64 a1) := (blk_cell BK280.out 1).trans rfl; have hcz31_2 : w29.cell? ⟨gb280, 2, none⟩ = some (.int .i64 a0_2) := (blk_cell BK280.out 2).trans rfl; have hcz31_3 : w29.cell? ⟨gb280, 3, none⟩ = some (.slice A0_3 l0_3.length c0_3) := (blk_cell BK280.out 3).trans rfl; have hfz31_0 := blk_frozen BK280.out 0; have hfz31_1 := blk_frozen BK280.out 1; have hfz31_2 := blk_frozen BK280.out 2; have hfz31_3 := blk_frozen BK280.out 3; have hcz32_0 : w29.cell? ⟨gb281, 0, none⟩ = some (.int .i64 0) := (blk_cell BK281.out 0).trans rfl; have hcz32_1 : w29.cell? ⟨gb281, 1, none⟩ = some (.int .i64 0) := (blk_cell BK281.out 1).trans rfl; have hcz32_2 : w29.cell? ⟨gb281, 2, none⟩ = some (.int .i64 0) := (blk_cell BK281.out 2).trans rfl; have hcz32_3 : w29.cell? ⟨gb281, 3, none⟩ = some (.slice none 0 0) := (blk_cell BK281.out 3).trans rfl; have hfz32_0 := blk_frozen BK281.out 0; have hfz32_1 := blk_frozen BK281.out 1; have hfz32_2 := blk_frozen BK281.out 2; have hfz32_3 := blk_frozen BK281.out 3))
       refine bodyPost_ret (results_ct rfl _ _ gb281 25 #[.int .i64 a0_0, .int .i64 a1, .int .i64 a0_2, .slice Ao30 y287.length co30] (0, 0) _ rfl (by (with_reducible repeat (first | refine blk_drewN ?_ _ | refine blk_drew ?_ | refine blk_alloc ?_ _)); refine blk_put (cs := #[.int .i64 a0_0, .int .i64 a1, .int .i64 a0_2, .slice none 0 0]) ?_ 3 _ rfl; refine blk_put (cs := #[.int .i64 a0_0, .int .i64 a1, .int .i64 0, .slice none 0 0]) ?_ 2 _ rfl; refine blk_put (cs := #[.int .i64 a0_0, .int .i64 0, .int .i64 0, .slice none 0 0]) ?_ 1 _ rfl; refine blk_put (cs := #[.int .i64 0, .int .i64 0, .int .i64 0, .slice none 0 0]) ?_ 0 _ rfl; refine blk_far ?_ NB281_280.out _; (with_reducible repeat (first | refine blk_drewN ?_ _ | refine blk_drew ?_ | refine blk_alloc ?_ _)); exact BK281.out) Try.underlying25 rfl (by kernel_rfl)) rfl ?_
       exact ⟨_, by first | rfl | (simp [errW_none, errW_some] <;> rfl) | (simp [*, errW_none, errW_some] <;> rfl), by (with_reducible repeat (first | apply Kd.R_alloc | apply Kd.R_drewN | apply Kd.R_drew)); exact Kd.R_mono (Kd.R_far (p := ⟨gb281, 3, none⟩) (Kd.R_far (p := ⟨gb281, 2, none⟩) (Kd.R_far (p := ⟨gb281, 1, none⟩) (Kd.R_far (p := ⟨gb281, 0, none⟩) (Kd.R_far (p := ⟨gb280, 3, none⟩) (Kd.R_types (Kd.R_types HO289.out BK280.out (by decide)) BK281.out (by decide)) (fun _ hk => hk.1.2) (.slice Ao30 y287.length co30)) (fun _ hk => hk.2) (.int .i64 a0_0)) (fun _ hk => hk.2) (.int .i64 a1)) (fun _ hk => hk.2) (.int .i64 a0_2)) (fun _ hk => hk.2) (.slice Ao30 y287.length co30)) (fun _ hk => trivial), by repeat (first | (with_reducible first | exact HB.out | apply below_alloc | apply pw_below_drewN | apply below_drew1 | refine below_set ?_ GE280.out | refine below_set ?_ GE281.out) | exact HB.out)⟩
      ·rw [if_neg c21] at H
       exact absurd H (by simp)
 ·rw [if_neg c4] at H
  have c4b0 : (t282 == 0) = false := beq_eq_false_iff_ne.mpr c4
  have c4b1 : (t282 != 0) = true := bne_iff_ne.mpr c4
  simp only [Option.some.injEq, Prod.mk.injEq] at H
  obtain ⟨rfl, rfl, rfl, rfl, rfl⟩ := H
  go_enter Try.func25, Try.ntmps25
  go_wp2_with (first | ((with_reducible refine gate_dst (N := 2) rfl ?_); refine box_event ?hg (N := 2) ?hd (cs := #[.int .i64 a0_0, .int .i64 a0_1, .int .i64 a0_2, .slice A0_3 l0_3.length c0_3]) (t := 25) ?hr ?_; (case hd => rfl); (case hg => rfl); (case hr => first | (go_simp; done) | (go_simp; rfl)); intro gb280 hg w33 hbox hb; have qb_ := below_both (by repeat (first | (with_reducible first | exact HB.out | apply below_alloc | apply pw_below_drewN | apply below_drew1) | exact HB.out)) hb; have n0_ := Aside0.mk (qb_.1); have n1_ := Aside0.mk (hbox); have n3_ := Aside0.mk ((by rw [hg]; exact qb_.2 : w.heap.size ≤ gb280)); clear HB; have HB := n0_; have BK280 := n1_; have GE280 := n3_; clear qb_; clear n0_ n1_ n3_; clear hb hbox hg) | ((with_reducible refine gate_dst (N := 4) rfl ?_); refine box_event ?hg (N := 4) ?hd (cs := #[.int .i64 0, .int .i64 0, .int .i64 0, .slice none 0 0]) (t := 25) ?hr ?_; (case hd => rfl); (case hg => rfl); (case hr => first | (go_simp; done) | (go_simp; rfl)); intro gb281 hg w34 hbox hb; have qb_ := below_both (by repeat (first | (with_reducible first | exact HB.out | apply below_alloc | apply pw_below_drewN | apply below_drew1 | refine below_set ?_ GE280.out) | exact HB.out)) hb; have q1_ := blk_below2 (g := gb280) (o := .cells #[.int .i64 a0_0, .int .i64 a0_1, .int .i64 a0_2, .slice A0_3 l0_3.length c0_3] 25 (0, 0)) (by (with_reducible repeat (first | refine blk_drewN ?_ _ | refine blk_drew ?_ | refine blk_alloc ?_ _)); exact BK280.out) hb; have n0_ := Aside0.mk (q1_.1); have n1_ := Aside0.mk (qb_.1); have n2_ := Aside0.mk (hbox); have n4_ := Aside0.mk ((by rw [hg]; exact qb_.2 : w.heap.size ≤ gb281)); have n5_ := Aside0.mk ((by rw [hg]; exact Nat.ne_of_lt q1_.2 : gb280 ≠ gb281)); have n6_ := Aside0.mk (Ne.symm n5_.out); clear BK280; clear HB; have BK280 := n0_; have HB := n1_; have BK281 := n2_; have GE281 := n4_; have NB280_281 := n5_; have NB281_280 := n6_; clear q1_; clear qb_; clear n0_ n1_ n2_ n4_ n5_ n6_; clear hb hbox hg; have hnb35 := NB280_281.out; have hnc35 := NB281_280.out; have hcz36_0 : w34.cell? ⟨gb280, 0, none⟩ = some (.int .i64 a0_0) := (blk_cell BK280.out 0).trans rfl; have hcz36_1 : w34.cell? ⟨gb280, 1, none⟩ = some (.int .i64 a0_1) := (blk_cell BK280.out 1).trans rfl; have hcz36_2 : w34.cell? ⟨gb280, 2, none⟩ = some (.int .i64 a0_2) := (blk_cell BK280.out 2).trans rfl; have hcz36_3 : w34.cell? ⟨gb280, 3, none⟩ = some (.slice A0_3 l0_3.length c0_3) := (blk_cell BK280.out 3).trans rfl; have hfz36_0 := blk_frozen BK280.out 0; have hfz36_1 := blk_frozen BK280.out 1; have hfz36_2 := blk_frozen BK280.out 2; have hfz36_3 := blk_frozen BK280.out 3) | ((with_reducible refine gate_callee (f := 12) rfl ?_); refine goesL_ (some 8) rfl rfl Try.func12 (by kernel_rfl) rfl #[.agg #[.int .i64 a0_0, .int .i64 a0_1, .int .i64 a0_2, .slice A0_3 l0_3.length c0_3]] rfl (by (try simp only [List.map_toArray, List.map_cons, List.map_nil]); first | done | rfl | (simp only [List.length_drop, List.length_take]; rfl)) ?_; (with_reducible refine (customsref21_ValidGuarantee.calls k a0_0 a0_1 a0_2 _ _ l0_3 t282 _ ?side1 ?side2 A3.out).mono ?_); (case side1 => repeat (first | exact (Kd.C_below HR0_3.out HB.out) | (with_reducible refine Kd.C_alloc ?_ _) | (with_reducible refine Kd.C_drewN ?_ _) | (with_reducible refine Kd.C_drew ?_))); (case side2 => exact HC0_3.out); rintro e w37 ⟨rfl, hb⟩; refine ⟨_, rfl, ?_⟩; have n1_ := Aside0.mk (blk_below (g := gb281) (o := .cells #[.int .i64 0, .int .i64 0, .int .i64 0, .slice none 0 0] 25 (0, 0)) (by (with_reducible repeat (first | refine blk_drewN ?_ _ | refine blk_drew ?_ | refine blk_alloc ?_ _)); exact BK281.out) hb); have n2_ := Aside0.mk (below_step (by repeat (first | (with_reducible first | exact HB.out | apply below_alloc | apply pw_below_drewN | apply below_drew1 | refine below_set ?_ GE280.out | refine below_set ?_ GE281.out) | exact HB.out)) hb); (try clear BK280); clear BK281; clear HB; have BK281 := n1_; have HB := n2_; clear n1_ n2_; (try clear hb); (try clear hb2); (try clear hk); (try clear hi); have hcz38_0 : w37.cell? ⟨gb281, 0, none⟩ = some (.int .i64 0) := (blk_cell BK281.out 0).trans rfl; have hcz38_1 : w37.cell? ⟨gb281, 1, none⟩ = some (.int .i64 0) := (blk_cell BK281.out 1).trans rfl; have hcz38_2 : w37.cell? ⟨gb281, 2, none⟩ = some (.int .i64 0) := (blk_cell BK281.out 2).trans rfl; have hcz38_3 : w37.cell? ⟨gb281, 3, none⟩ = some (.slice none 0 0) := (blk_cell BK281.out 3).trans rfl; have hfz38_0 := blk_frozen BK281.out 0; have hfz38_1 := blk_frozen BK281.out 1; have hfz38_2 := blk_frozen BK281.out 2; have hfz38_3 := blk_frozen BK281.out 3))
  refine bodyPost_ret (results_ct rfl _ _ gb281 25 #[.int .i64 0, .int .i64 0, .int .i64 0, .slice none 0 0] (0, 0) _ rfl (by (with_reducible repeat (first | refine blk_drewN ?_ _ | refine blk_drew ?_ | refine blk_alloc ?_ _)); refine blk_put (cs := #[.int .i64 0, .int .i64 0, .int .i64 0, .slice none 0 0]) ?_ 3 _ rfl; refine blk_put (cs := #[.int .i64 0, .int .i64 0, .int .i64 0, .slice none 0 0]) ?_ 2 _ rfl; refine blk_put (cs := #[.int .i64 0, .int .i64 0, .int .i64 0, .slice none 0 0]) ?_ 1 _ rfl; refine blk_put (cs := #[.int .i64 0, .int .i64 0, .int .i64 0, .slice none 0 0]) ?_ 0 _ rfl; (with_reducible repeat (first | refine blk_drewN ?_ _ | refine blk_drew ?_ | refine blk_alloc ?_ _)); exact BK281.out) Try.underlying25 rfl (by kernel_rfl)) rfl ?_
  exact ⟨_, by first | rfl | (simp [errW_none, errW_some] <;> rfl) | (simp [*, errW_none, errW_some] <;> rfl), by first | exact Kd.R_nil _ _ _ _ _ | exact Kd.N_nil _ _ _ _ _ | exact Kd.V_nil _ _ _ _ _ | exact Kd.Q_nil _ _ _ _ _ | exact Kd.S_nil _ _ _ _ _, by repeat (first | (with_reducible first | exact HB.out | apply below_alloc | apply pw_below_drewN | apply below_drew1 | refine below_set ?_ GE280.out | refine below_set ?_ GE281.out) | exact HB.out)⟩
def customslaw23_sameErrors.l0 : Nat → List Int → List Int → Int → Option (Bool)
 | 0, _, _, _ => none
 | k + 1, x0, x1, x5 => if x5 < (x0.length : Int) then (if 0 ≤ x5 then (if x5 < (x1.length : Int) then (if (rd x0 x5) = (rd x1 x5) then (customslaw23_sameErrors.l0 k x0 x1 (wrap64 (x5 + 1))) else (some false)) else (none)) else (none)) else (some true)
def customslaw23_sameErrors.f (k : Nat) (l0 : List Int) (l1 : List Int) : Option (Bool) := if (l0.length : Int) = (l1.length : Int) then (customslaw23_sameErrors.l0 k l0 l1 0) else (some false)
end Go.Proofs.Ytakhjhiofmgpnaa.PA
/- The reference's Set, Release and Resize in plain Lean. -/
namespace Go.Proofs.Ytakhjhiofmgpnaa.E
set_option linter.unusedVariables false
set_option linter.unusedSimpArgs false
open Go.RowKit Go.Proofs.YtakhjhiofmgpnaaW.PrintWords Go.Proofs.YtakhjhiofmgpnaaW.PrintLast Go.Proofs.YtakhjhiofmgpnaaW.PrintMore Go.Proofs.Ytakhjhiofmgpnaa.G Go.Proofs.Ytakhjhiofmgpnaa.PA Go.Proofs.Ytakhjhiofmgpnaa.PB
/-- The list without what stands from p up to q. -/
def cut (u : List S39) (p q : Nat) : List S39 := u.take p ++ u.drop q
theorem cut_len {u : List S39} {p q : Nat} (hp : p ≤ u.length) (hq : q ≤ u.length) : (cut u p q).length = p + (u.length - q) := by
  simp [cut]; omega
theorem cut_lo {u : List S39} {p q : Nat} (hp : p ≤ u.length) {j : Nat} (h : j < p) : at_ (cut u p q) j = at_ u j := by
  have hl : j < (u.take p ++ u.drop q).length := by simp; omega
  show at_ (u.take p ++ u.drop q) j = at_ u j
  rw [at_get hl, at_get (show j < u.length by omega)]
  rw [List.getElem_append_left (by simp; omega), List.getElem_take]
theorem cut_hi {u : List S39} {p q : Nat} (hp : p ≤ u.length) {d : Nat} (hd : q + d < u.length) : at_ (cut u p q) (p + d) = at_ u (q + d) := by
  have hl : p + d < (u.take p ++ u.drop q).length := by simp; omega
  show at_ (u.take p ++ u.drop q) (p + d) = at_ u (q + d)
  rw [at_get hl, at_get hd]
  rw [List.getElem_append_right (by simp; omega), List.getElem_drop]
  congr 1
  simp; omega
theorem cut_psum {u : List S39} {m : Int} {p q : Nat} (h : Place u m p q) : ∀ d, q + d ≤ u.length → psum (cut u p q) (p + d) = oth u m (q + d)
  | 0, hd => by
    have h1 : ∀ i, i ≤ p → psum (cut u p q) i = psum u i := by
      intro i
      induction i with
      | zero => intro _; rfl
      | succ i ih => intro hi; rw [psum, psum, ih (by omega), cut_lo h.le (by omega)]
    show psum (cut u p q) p = oth u m q
    rw [h1 p (Nat.le_refl _)]
    have h2 : oth u m p = psum u p := oth_all p (fun j hj => by have := h.lo j hj; omega)
    rcases h.pq with ⟨rfl, _⟩ | ⟨rfl, hm⟩
    · rw [h2]
    · rw [oth, if_pos hm, h2]
  | d + 1, hd => by
    show psum (cut u p q) (p + d + 1) = oth u m (q + d + 1)
    rw [psum, cut_psum h d (by omega), cut_hi h.le (by omega), oth, if_neg (by have := h.hi (q + d) (by omega) (by omega); omega)]
theorem cut_tot {u : List S39} {m : Int} {p q : Nat} (h : Place u m p q) : tot (cut u p q) = oth u m u.length := by
  have := cut_psum h (u.length - q) (by have := h.qle; omega)
  rw [show q + (u.length - q) = u.length by have := h.qle; omega] at this
  rw [tot, cut_len h.le h.qle]
  exact this
theorem cut_ok {u : List S39} {m : Int} {p q : Nat} (h : Place u m p q) (ho : allOk u) : allOk (cut u p q) := fun j hj => by
  rw [cut_len h.le h.qle] at hj
  by_cases h1 : j < p
  · rw [cut_lo h.le h1]; exact ho j (by have := h.le; omega)
  · obtain ⟨d, rfl⟩ : ∃ d, j = p + d := ⟨j - p, by omega⟩
    rw [cut_hi h.le (by omega)]; exact ho _ (by omega)
theorem cut_asc {u : List S39} {m : Int} {p q : Nat} (h : Place u m p q) (ha : asc u) : asc (cut u p q) := fun j hj => by
  rw [cut_len h.le h.qle] at hj
  by_cases h1 : j + 1 < p
  · rw [cut_lo h.le (by omega), cut_lo h.le h1]; exact ha j (by have := h.le; omega)
  · by_cases h2 : j < p
    · have e : at_ (cut u p q) (j + 1) = at_ u q := by
        have := cut_hi (u := u) (p := p) (q := q) h.le (d := 0) (by omega)
        rwa [show p + 0 = j + 1 by omega] at this
      rw [cut_lo h.le h2, e]
      have := h.lo j h2
      have := h.hi q (Nat.le_refl _) (by omega)
      omega
    · obtain ⟨d, rfl⟩ : ∃ d, j = p + d := ⟨j - p, by omega⟩
      rw [cut_hi h.le (by omega), show p + d + 1 = p + (d + 1) by omega, cut_hi h.le (by omega)]
      exact ha (q + d) (by omega)
theorem oth_le {u : List S39} (h : allOk u) (m : Int) : ∀ i, i ≤ u.length → oth u m i ≤ psum u i
  | 0, _ => by simp [oth, psum]
  | i + 1, hi => by
    have := oth_le h m i (by omega)
    have h1 := (h i (by omega)).2
    simp only [oth, psum]
    split <;> omega
theorem cut_vf {a b c : Int} {u : List S39} {m : Int} {p q : Nat} (h : Place u m p q) (hv : vf a b c u = 0) : vf a b c (cut u p q) = 0 := by
  obtain ⟨hh, hlen, ho, ha, htot⟩ := vf_zero.1 hv
  have := oth_le ho m u.length (Nat.le_refl _)
  refine vf_zero.2 ⟨hh, ?_, cut_ok h ho, cut_asc h ha, by rw [cut_tot h]; exact Int.le_trans this htot⟩
  rw [cut_len h.le h.qle]
  have := h.le
  have : p ≤ q := by rcases h.pq with ⟨h, _⟩ | ⟨h, _⟩ <;> omega
  have := h.qle
  omega
/-- What the reference's 'without' keeps, and the amount it finds, up to i. -/
def flt (u : List S39) (m : Int) : Nat → List S39
  | 0 => []
  | i + 1 => if (at_ u i).f0 = m then flt u m i else flt u m i ++ [at_ u i]
def amt (u : List S39) (m : Int) : Nat → Int
  | 0 => -1
  | i + 1 => if (at_ u i).f0 = m then (at_ u i).f1 else amt u m i
theorem flt_len (u : List S39) (m : Int) : ∀ i, (flt u m i).length ≤ i
  | 0 => by simp [flt]
  | i + 1 => by
    have := flt_len u m i
    simp only [flt]
    split
    · omega
    · simp; omega
theorem without_ev {u : List S39} (m : Int) (hl : u.length ≤ 100) : Ev (fun k => customsref21_without.f k u m) (flt u m u.length, amt u m u.length) := by
  unfold customsref21_without.f
  have key : ∀ (r i : Nat), i + r = u.length → Ev (fun k => customsref21_without.l0 k u m (flt u m i) (amt u m i) (i : Int)) (flt u m u.length, amt u m u.length) := by
    intro r
    induction r with
    | zero =>
      intro i hi
      obtain rfl : i = u.length := by omega
      refine evShift ?_
      simp only [customsref21_without.l0]
      exact evNeg (by omega) (evNow rfl)
    | succ r ih =>
      intro i hi
      refine evShift ?_
      simp only [customsref21_without.l0]
      have e2 : wrap64 ((i : Int) + 1) = ((i + 1 : Nat) : Int) := by rw [wrap64_id (by omega) (by omega)]; omega
      rw [e2]
      clear e2
      have := ih (i + 1) (by omega)
      rw [flt, amt] at this
      have hfl := flt_len u m i
      refine evPos (by omega) (evPos (by omega) (evIf (fun hx => ?_) (fun hx => evPos (by omega) ?_)))
      · rw [if_pos (show (at_ u i).f0 = m from hx), if_pos (show (at_ u i).f0 = m from hx)] at this
        exact this
      · rw [if_neg (show ¬ (at_ u i).f0 = m from hx), if_neg (show ¬ (at_ u i).f0 = m from hx)] at this
        exact this
  exact key u.length 0 (by omega)
theorem flt_place {u : List S39} {m : Int} {p q : Nat} (h : Place u m p q) : flt u m u.length = cut u p q ∧ amt u m u.length = (if q = p then -1 else (at_ u p).f1) := by
  have h1 : ∀ i, i ≤ p → flt u m i = u.take i ∧ amt u m i = -1 := by
    intro i
    induction i with
    | zero => intro _; exact ⟨by simp [flt], rfl⟩
    | succ i ih =>
      intro hi
      obtain ⟨e1, e2⟩ := ih (by omega)
      have hne : (at_ u i).f0 ≠ m := by have := h.lo i (by omega); omega
      have hil : i < u.length := by have := h.le; omega
      rw [flt, amt, if_neg hne, if_neg hne, e1, e2, at_get hil, List.take_append_getElem hil]
      exact ⟨rfl, rfl⟩
  have h2 : ∀ d, q + d ≤ u.length → flt u m (q + d) = u.take p ++ (u.drop q).take d ∧ amt u m (q + d) = (if q = p then -1 else (at_ u p).f1) := by
    intro d
    induction d with
    | zero =>
      intro _
      obtain ⟨e1, e2⟩ := h1 p (Nat.le_refl _)
      rcases h.pq with ⟨rfl, _⟩ | ⟨rfl, hm⟩
      · simp [e1, e2]
      · show flt u m (p + 1) = _ ∧ amt u m (p + 1) = _
        rw [flt, amt, if_pos hm, if_pos hm, e1, if_neg (by omega)]
        simp
    | succ d ih =>
      intro hd
      obtain ⟨e1, e2⟩ := ih (by omega)
      have hne : (at_ u (q + d)).f0 ≠ m := by have := h.hi (q + d) (by omega) (by omega); omega
      show flt u m (q + d + 1) = _ ∧ amt u m (q + d + 1) = _
      rw [flt, amt, if_neg hne, if_neg hne, e1, e2, at_get (show q + d < u.length by omega), List.append_assoc]
      refine ⟨?_, rfl⟩
      congr 1
      have hdl : d < (u.drop q).length := by simp; omega
      rw [← List.take_append_getElem hdl, List.getElem_drop]
  have hq := h.qle
  obtain ⟨e1, e2⟩ := h2 (u.length - q) (by omega)
  rw [show q + (u.length - q) = u.length by omega] at e1 e2
  refine ⟨?_, e2⟩
  rw [e1, cut, List.take_of_length_le (l := u.drop q) (by simp)]
theorem insert_ev {u : List S39} {m n : Int} {p q : Nat} (h : Place u m p q) (hl : u.length ≤ 100) : Ev (fun k => customsref21_Insert.f k (cut u p q) m n) (put u p q ⟨m, n⟩) := by
  unfold customsref21_Insert.f
  have hcl := cut_len h.le h.qle
  have hp := h.le
  have hq := h.qle
  have e1 : (cut u p q).take p = u.take p := by unfold cut; rw [List.take_append_of_le_length (by simp; omega), List.take_take, Nat.min_self]
  have e2 : (cut u p q).drop p = u.drop q := by unfold cut; rw [List.drop_append_of_le_length (by simp; omega)]; simp [List.drop_take]
  have fin : (([] : List S39) ++ (cut u p q).take p) ++ [(⟨m, n⟩ : S39)] ++ (cut u p q).drop p = put u p q ⟨m, n⟩ := by rw [e1, e2]; simp [put]
  have key : ∀ (r i : Nat), i + r = p → Ev (fun k => customsref21_Insert.l0 k (cut u p q) (i : Int) m n) (put u p q ⟨m, n⟩) := by
    intro r
    induction r with
    | zero =>
      intro i hi
      obtain rfl : i = p := by omega
      refine evShift ?_
      simp only [customsref21_Insert.l0]
      refine evIf (fun hx => evPos (by omega) (evNeg ?_ ?_)) (fun hx => ?_)
      · have e : at_ (cut u i q) i = at_ u q := cut_hi (u := u) (p := i) (q := q) h.le (d := 0) (by omega)
        show ¬ (at_ (cut u i q) i).f0 < m
        rw [e]
        have := h.hi q (Nat.le_refl _) (by omega)
        omega
      · refine evBind0 rfl (evPos (by omega) (evBind0 rfl (evPos ?_ (evBind0 rfl (evBind0 rfl (evPos ?_ (evBind0 rfl (evBind0 rfl (evPos ?_ (evNow ?_))))))))))
        · simp; omega
        · simp; omega
        · simp; omega
        · rw [Int.toNat_natCast]; exact congrArg some fin
      · refine evBind0 rfl (evPos (by omega) (evPos (by omega) (evBind0 rfl (evPos ?_ (evBind0 rfl (evBind0 rfl (evPos ?_ (evBind0 rfl (evBind0 rfl (evPos ?_ (evNow ?_)))))))))))
        · simp; omega
        · simp; omega
        · simp; omega
        · rw [Int.toNat_natCast]; exact congrArg some fin
    | succ r ih =>
      intro i hi
      refine evShift ?_
      simp only [customsref21_Insert.l0]
      have e2 : wrap64 ((i : Int) + 1) = ((i + 1 : Nat) : Int) := by rw [wrap64_id (by omega) (by omega)]; omega
      rw [e2]
      clear e2
      refine evPos (by omega) (evPos (by omega) (evPos ?_ (ih (i + 1) (by omega))))
      show (at_ (cut u p q) i).f0 < m
      rw [cut_lo h.le (by omega)]
      exact h.lo i (by omega)
  exact key p 0 (by omega)
end Go.Proofs.Ytakhjhiofmgpnaa.E
