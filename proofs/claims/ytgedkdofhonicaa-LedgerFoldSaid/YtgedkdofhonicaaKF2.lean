/- Part 2 of the proof of ledgerFold_holds: texts of this claim, printed and by hand, cut to what it needs (wip/tools/link.py). Lean checks every line. -/
import Derived.Test.YtgedkdofhonicaaKF1
-- Written by a program of this claim (wip/tools: mkprint.py, pr.sh) out of the translation: plain functions and their contracts. Lean checks every line.
namespace Go.Proofs.Ytgedkdofhonicaa.PA
open Go.RowKit Go.Proofs.YtgedkdofhonicaaW.PrintWords Go.Proofs.YtgedkdofhonicaaW.PrintLast Go.Proofs.YtgedkdofhonicaaW.PrintMore Go.Proofs.Ytgedkdofhonicaa.G
attribute [local go_sem] max2_int min2_int max_two min_two max_three min_three max_four min_four   -- for this text's walks alone
set_option linter.unusedVariables false
set_option linter.unusedSimpArgs false
def customsmade_Entry.f (s0_0 : List Int) (s0_1 : Int) (a1 : Int) : Option (Int × Int × Int × Int × Int × Int × Int) := (customsmade_Source_Next.f s0_0 s0_1 50).bind fun bt110 => ((some (([1, 1, 1, 2, 3, 3, 4, 5, 5, 6, 7, 8, 9] : List Int) : List Int)).bind fun y112 => ((customsmade_Source_Next.f s0_0 bt110.2 13).bind fun bt115 => (if 0 ≤ bt115.1 then (if bt115.1 < (y112.length : Int) then ((customsmade_Source_Next.f s0_0 bt115.2 4).bind fun bt118 => ((customsmade_Small.f s0_0 bt118.2 50 1000000000000).bind fun bt120 => ((customsmade_Source_Next.f s0_0 bt120.2 9).bind fun bt122 => (if (rd y112 bt115.1) = 9 then ((customsmade_Source_Next.f s0_0 bt122.2 (wrap64 (a1 + 1))).bind fun bt125 => (some (wrap64 (a1 + 1), bt110.1, rd y112 bt115.1, wrap64 (1 + bt118.1), wrap64 (1 + bt125.1), bt122.1, bt125.2))) else (some (wrap64 (a1 + 1), bt110.1, rd y112 bt115.1, wrap64 (1 + bt118.1), wrap64 (1 + bt120.1), bt122.1, bt122.2)))))) else (none)) else (none))))
def customsmade_Entry.T1 : Bool × List (List Nat × List Nat) := (true, [([], []), ([0], [0]), ([], []), ([2], [2]), ([], []), ([], []), ([5, 3], [5]), ([4, 6], [4, 6]), ([7], [7]), ([], []), ([9, 6], [9]), ([10], [10]), ([], []), ([12, 10], [12]), ([13], [13]), ([], []), ([15, 13], [15]), ([1, 3, 8, 11, 14, 16], [1, 3, 8, 11, 14, 16]), ([], []), ([18, 17, 16, 0, 1, 2, 3, 4, 5, 6, 7, 8, 9, 10, 11, 12, 13, 14, 15, 16, 17, 18], [17, 18])])
def customsmade_Entry.B1 : List Nat := [0, 1, 0, 4, 0, 0, 44, 124, 252, 0, 620, 1644, 0, 5740, 13932, 0, 46700, 131071, 0, 524287]
theorem customsmade_Entry.tab1 : rtab .any (opsOf Try.f10 1) = customsmade_Entry.T1 := by kernel_rfl
theorem customsmade_Entry.bits1 : waitsOk customsmade_Entry.T1.2 customsmade_Entry.B1 = true := by kernel_rfl
set_option maxHeartbeats 8000000 in
set_option maxRecDepth 100000 in
theorem customsmade_Entry.calls (g : Nat) (s0_0 : List Int) (s0_1 : Int) (a1 : Int) (r1 : Int) (r2 : Int) (r3 : Int) (r4 : Int) (r5 : Int) (r6 : Int) (r7 : Int) (w0 w : World) (hI : IsS30 w0 w g s0_0 s0_1) (hB : Below w0.heap.size w0 w) (h : customsmade_Entry.f s0_0 s0_1 a1 = some (r1, r2, r3, r4, r5, r6, r7)) :
  Calls Try.prog 10 #[.pointer (some ⟨g, 0, none⟩), .int .i64 a1] w fun e w' => e = .returned (.agg #[.int .i64 r1, .int .i64 r2, .int .i64 r3, .int .i64 r4, .int .i64 r5, .int .i64 r6]) ∧ IsS30 w0 w' g s0_0 r7 ∧ Below w0.heap.size w0 w' ∧ KeepBut w w' g none := by
 have hu26 := Try.underlying26; have HI0 := Aside0.mk hI; have HK := Aside0.mk (KeepBut.refl w g none); have HL := Aside0.mk hB.size; clear hI; have HW0 := Aside0.mk hB.size; have HB := Aside0.mk hB; clear hB; have H : ((customsmade_Source_Next.f s0_0 s0_1 50).bind fun bt110 => ((some (([1, 1, 1, 2, 3, 3, 4, 5, 5, 6, 7, 8, 9] : List Int) : List Int)).bind fun y112 => ((customsmade_Source_Next.f s0_0 bt110.2 13).bind fun bt115 => (if 0 ≤ bt115.1 then (if bt115.1 < (y112.length : Int) then ((customsmade_Source_Next.f s0_0 bt115.2 4).bind fun bt118 => ((customsmade_Small.f s0_0 bt118.2 50 1000000000000).bind fun bt120 => ((customsmade_Source_Next.f s0_0 bt120.2 9).bind fun bt122 => (if (rd y112 bt115.1) = 9 then ((customsmade_Source_Next.f s0_0 bt122.2 (wrap64 (a1 + 1))).bind fun bt125 => (some (wrap64 (a1 + 1), bt110.1, rd y112 bt115.1, wrap64 (1 + bt118.1), wrap64 (1 + bt125.1), bt122.1, bt125.2))) else (some (wrap64 (a1 + 1), bt110.1, rd y112 bt115.1, wrap64 (1 + bt118.1), wrap64 (1 + bt120.1), bt122.1, bt122.2)))))) else (none)) else (none))))) = some (r1, r2, r3, r4, r5, r6, r7) := h; clear h; replace H := Option.bind_eq_some_iff.mp H; obtain ⟨⟨t110, t111⟩, A30, H⟩ := H; replace H : ((some (([1, 1, 1, 2, 3, 3, 4, 5, 5, 6, 7, 8, 9] : List Int) : List Int)).bind fun y112 => ((customsmade_Source_Next.f s0_0 t111 13).bind fun bt115 => (if 0 ≤ bt115.1 then (if bt115.1 < (y112.length : Int) then ((customsmade_Source_Next.f s0_0 bt115.2 4).bind fun bt118 => ((customsmade_Small.f s0_0 bt118.2 50 1000000000000).bind fun bt120 => ((customsmade_Source_Next.f s0_0 bt120.2 9).bind fun bt122 => (if (rd y112 bt115.1) = 9 then ((customsmade_Source_Next.f s0_0 bt122.2 (wrap64 (a1 + 1))).bind fun bt125 => (some (wrap64 (a1 + 1), t110, rd y112 bt115.1, wrap64 (1 + bt118.1), wrap64 (1 + bt125.1), bt122.1, bt125.2))) else (some (wrap64 (a1 + 1), t110, rd y112 bt115.1, wrap64 (1 + bt118.1), wrap64 (1 + bt120.1), bt122.1, bt122.2)))))) else (none)) else (none)))) = some (r1, r2, r3, r4, r5, r6, r7) := H; have A3 := Aside0.mk A30; clear A30; obtain ⟨y112, hy112⟩ : ∃ y_ : List Int, y_ = (([1, 1, 1, 2, 3, 3, 4, 5, 5, 6, 7, 8, 9] : List Int)) := ⟨_, rfl⟩
 replace H : ((customsmade_Source_Next.f s0_0 t111 13).bind fun bt115 => (if 0 ≤ bt115.1 then (if bt115.1 < (y112.length : Int) then ((customsmade_Source_Next.f s0_0 bt115.2 4).bind fun bt118 => ((customsmade_Small.f s0_0 bt118.2 50 1000000000000).bind fun bt120 => ((customsmade_Source_Next.f s0_0 bt120.2 9).bind fun bt122 => (if (rd y112 bt115.1) = 9 then ((customsmade_Source_Next.f s0_0 bt122.2 (wrap64 (a1 + 1))).bind fun bt125 => (some (wrap64 (a1 + 1), t110, rd y112 bt115.1, wrap64 (1 + bt118.1), wrap64 (1 + bt125.1), bt122.1, bt125.2))) else (some (wrap64 (a1 + 1), t110, rd y112 bt115.1, wrap64 (1 + bt118.1), wrap64 (1 + bt120.1), bt122.1, bt122.2)))))) else (none)) else (none))) = some (r1, r2, r3, r4, r5, r6, r7) := by first | (rw [hy112]; with_reducible exact H) | (have H2_ := (Option.bind_some _ _).symm.trans H; rw [hy112]; with_reducible exact H2_) | (have H2_ := (Option.bind_some _ _).symm.trans H; with_reducible exact H2_) | with_reducible exact H | (rw [hy112]; exact H) | exact H
 have Ny112 := Aside0.mk hy112; clear hy112; replace H := Option.bind_eq_some_iff.mp H; obtain ⟨⟨t115, t116⟩, A40, H⟩ := H; replace H : (if 0 ≤ t115 then (if t115 < (y112.length : Int) then ((customsmade_Source_Next.f s0_0 t116 4).bind fun bt118 => ((customsmade_Small.f s0_0 bt118.2 50 1000000000000).bind fun bt120 => ((customsmade_Source_Next.f s0_0 bt120.2 9).bind fun bt122 => (if (rd y112 t115) = 9 then ((customsmade_Source_Next.f s0_0 bt122.2 (wrap64 (a1 + 1))).bind fun bt125 => (some (wrap64 (a1 + 1), t110, rd y112 t115, wrap64 (1 + bt118.1), wrap64 (1 + bt125.1), bt122.1, bt125.2))) else (some (wrap64 (a1 + 1), t110, rd y112 t115, wrap64 (1 + bt118.1), wrap64 (1 + bt120.1), bt122.1, bt122.2)))))) else (none)) else (none)) = some (r1, r2, r3, r4, r5, r6, r7) := H; have A4 := Aside0.mk A40; clear A40
 by_cases c5 : 0 ≤ t115
 ·rw [if_pos c5] at H
  have c5b0 : decide (0 ≤ t115) = true := decide_eq_true c5; clear c5
  by_cases c6 : t115 < (y112.length : Int)
  ·rw [if_pos c6] at H
   have c6b0 : decide (t115 < (y112.length : Int)) = true := decide_eq_true c6; clear c6; replace H := Option.bind_eq_some_iff.mp H; obtain ⟨⟨t118, t119⟩, A70, H⟩ := H; replace H : ((customsmade_Small.f s0_0 t119 50 1000000000000).bind fun bt120 => ((customsmade_Source_Next.f s0_0 bt120.2 9).bind fun bt122 => (if (rd y112 t115) = 9 then ((customsmade_Source_Next.f s0_0 bt122.2 (wrap64 (a1 + 1))).bind fun bt125 => (some (wrap64 (a1 + 1), t110, rd y112 t115, wrap64 (1 + t118), wrap64 (1 + bt125.1), bt122.1, bt125.2))) else (some (wrap64 (a1 + 1), t110, rd y112 t115, wrap64 (1 + t118), wrap64 (1 + bt120.1), bt122.1, bt122.2))))) = some (r1, r2, r3, r4, r5, r6, r7) := H; have A7 := Aside0.mk A70; clear A70; replace H := Option.bind_eq_some_iff.mp H; obtain ⟨⟨t120, t121⟩, A80, H⟩ := H; replace H : ((customsmade_Source_Next.f s0_0 t121 9).bind fun bt122 => (if (rd y112 t115) = 9 then ((customsmade_Source_Next.f s0_0 bt122.2 (wrap64 (a1 + 1))).bind fun bt125 => (some (wrap64 (a1 + 1), t110, rd y112 t115, wrap64 (1 + t118), wrap64 (1 + bt125.1), bt122.1, bt125.2))) else (some (wrap64 (a1 + 1), t110, rd y112 t115, wrap64 (1 + t118), wrap64 (1 + t120), bt122.1, bt122.2)))) = some (r1, r2, r3, r4, r5, r6, r7) := H; have A8 := Aside0.mk A80; clear A80; replace H := Option.bind_eq_some_iff.mp H; obtain ⟨⟨t122, t123⟩, A90, H⟩ := H; replace H : (if (rd y112 t115) = 9 then ((customsmade_Source_Next.f s0_0 t123 (wrap64 (a1 + 1))).bind fun bt125 => (some (wrap64 (a1 + 1), t110, rd y112 t115, wrap64 (1 + t118), wrap64 (1 + bt125.1), t122, bt125.2))) else (some (wrap64 (a1 + 1), t110, rd y112 t115, wrap64 (1 + t118), wrap64 (1 + t120), t122, t123))) = some (r1, r2, r3, r4, r5, r6, r7) := H; have A9 := Aside0.mk A90; clear A90; have NH_ := Aside0.mk H; clear H
   go_enter Try.func10, Try.ntmps10
   try go_wp2_with (first | ((with_reducible refine gate_dst (N := 4) rfl ?_); refine box_event ?hg (N := 4) ?hd (cs := #[.int .i64 0, .int .i64 0, .int .i64 0, .int .i64 0, .int .i64 0, .int .i64 0]) (t := 26) ?hr ?_; (case hd => rfl); (case hg => rfl); (case hr => first | (go_simp; done) | (go_simp; rfl)); intro gb109 hg w12 hbox hb; have n0_ := Aside0.mk (IsS30.below (by repeat (first | (with_reducible first | exact HI0.out | apply IsS30.alloc | apply IsS30.drewN | apply IsS30.drew | apply IsS30.set_1) | exact HI0.out)) hb); have n1_ := Aside0.mk (KeepBut.trans zPA13 (KeepBut.of_below hb g none) (.inl rfl)); have n2_ := Aside0.mk (below_step (by repeat (first | (with_reducible first | exact HB.out | apply below_alloc | apply pw_below_drewN | apply below_drew1 | refine below_set ?_ (IsS30.ge HI0.out)) | exact HB.out)) hb); have n3_ := Aside0.mk (hbox); have n4_ := Aside0.mk ((by rw [hg]; exact (keep_size (w := w) (g := g) (row := none) zPA13) : w.heap.size ≤ gb109)); have n5_ := Aside0.mk ((Nat.le_trans HW0.out (by rw [hg]; exact (keep_size (w := w) (g := g) (row := none) zPA13) : w.heap.size ≤ gb109) : w0.heap.size ≤ gb109)); have n6_ := Aside0.mk ((by rw [hg]; exact Nat.ne_of_lt (IsS30.lt (show IsS30 w0 _ g s0_0 s0_1 from by repeat (first | (with_reducible first | exact HI0.out | apply IsS30.alloc | apply IsS30.drewN | apply IsS30.drew | apply IsS30.set_1) | exact HI0.out))) : g ≠ gb109)); have n7_ := Aside0.mk (Ne.symm n6_.out); clear HI0; clear HK; clear HB; have HI0 := n0_; have HK := n1_; have HB := n2_; have BK109 := n3_; have GW109 := n4_; have GE109 := n5_; have NB0_109 := n6_; have NB109_0 := n7_; clear n0_ n1_ n2_ n3_ n4_ n5_ n6_ n7_; clear hb hbox hg))
   have pi117 : (0 ≤ (t115 : Int)) = True := eq_true (of_decide_eq_true zPA7); have qi117 : (t115 < (y112.length : Int)) = True := eq_true (of_decide_eq_true zPA7); have n0_ := Aside0.mk (blk_drew BK109.out); have n1_ := Aside0.mk (IsS30.drew HI0.out); have n2_ := Aside0.mk (keep_drew HK.out); have n3_ := Aside0.mk (below_drew1 HB.out); clear BK109; clear HI0; clear HK; clear HB; have BK109 := n0_; have HI0 := n1_; have HK := n2_; have HB := n3_; clear n0_ n1_ n2_ n3_
   refine start_ (n := 20) (S := fun w' => True) (ds := []) #[false, false, false, false, false, false, false, false, false, false, false, false, false, false, false, false, false, false, false, false] (by kernel_rfl) rfl rfl trivial (fun hHeld => ?_); refine with_tabW customsmade_Entry.tab1 customsmade_Entry.bits1 (fun HT_ HW_ => ?_)
   generalize w12.drew = w13 at BK109 HI0 HK HB hHeld ⊢
   refine pure_ (i := 0) (N := some 6) (v := ?_) (a' := ?_) #[true, false, false, false, false, false, false, false, false, false, false, false, false, false, false, false, false, false, false, false] rfl rfl (any_of HT_.out (by kernel_rfl)) (fun _ _ _ h => h) (Or.inl ⟨by rfl, ?_⟩) ?_ ?_
   rotate_left
   ·intro w'
    go_simp
    with_reducible rfl
   rotate_left
   ·simp only [Act.put, List.setIfInBounds_toArray, List.set_cons_zero, List.set_cons_succ, i64_w, i32_w]
    rfl
   refine pure_ (i := 1) (N := some 7) (v := ?_) (a' := ?_) #[true, true, false, false, false, false, false, false, false, false, false, false, false, false, false, false, false, false, false, false] rfl rfl (any_of HT_.out (by kernel_rfl)) (fun _ _ _ h => h) (Or.inl ⟨by rfl, ?_⟩) ?_ ?_
   rotate_left
   ·intro w'
    go_simp
    with_reducible rfl
   rotate_left
   ·simp only [Act.put, List.setIfInBounds_toArray, List.set_cons_zero, List.set_cons_succ, i64_w, i32_w]
    rfl
   refine pure_ (i := 2) (N := some 8) (v := ?_) (a' := ?_) #[true, true, true, false, false, false, false, false, false, false, false, false, false, false, false, false, false, false, false, false] rfl rfl (any_of HT_.out (by kernel_rfl)) (fun _ _ _ h => h) (Or.inl ⟨by rfl, ?_⟩) ?_ ?_
   rotate_left
   ·intro w'
    go_simp
    with_reducible rfl
   rotate_left
   ·simp only [Act.put, List.setIfInBounds_toArray, List.set_cons_zero, List.set_cons_succ, i64_w, i32_w]
    rfl
   refine pure_ (i := 5) (N := some 11) (v := ?_) (a' := ?_) #[true, true, true, false, false, true, false, false, false, false, false, false, false, false, false, false, false, false, false, false] rfl rfl (any_of HT_.out (by kernel_rfl)) (fun _ _ _ h => h) (Or.inl ⟨by rfl, ?_⟩) ?_ ?_
   rotate_left
   ·intro w'
    go_simp
    with_reducible rfl
   rotate_left
   ·simp only [Act.put, List.setIfInBounds_toArray, List.set_cons_zero, List.set_cons_succ, i64_w, i32_w]
    rfl
   refine pure_ (i := 9) (N := some 15) (v := ?_) (a' := ?_) #[true, true, true, false, false, true, false, false, false, true, false, false, false, false, false, false, false, false, false, false] rfl rfl (any_of HT_.out (by kernel_rfl)) (fun _ _ _ h => h) (Or.inl ⟨by rfl, ?_⟩) ?_ ?_
   rotate_left
   ·intro w'
    go_simp
    with_reducible rfl
   rotate_left
   ·simp only [Act.put, List.setIfInBounds_toArray, List.set_cons_zero, List.set_cons_succ, i64_w, i32_w]
    rfl
   refine pure_ (i := 12) (N := some 18) (v := ?_) (a' := ?_) #[true, true, true, false, false, true, false, false, false, true, false, false, true, false, false, false, false, false, false, false] rfl rfl (any_of HT_.out (by kernel_rfl)) (fun _ _ _ h => h) (Or.inl ⟨by rfl, ?_⟩) ?_ ?_
   rotate_left
   ·intro w'
    go_simp
    with_reducible rfl
   rotate_left
   ·simp only [Act.put, List.setIfInBounds_toArray, List.set_cons_zero, List.set_cons_succ, i64_w, i32_w]
    rfl
   refine pure_ (i := 15) (N := some 21) (v := ?_) (a' := ?_) #[true, true, true, false, false, true, false, false, false, true, false, false, true, false, false, true, false, false, false, false] rfl rfl (any_of HT_.out (by kernel_rfl)) (fun _ _ _ h => h) (Or.inl ⟨by rfl, ?_⟩) ?_ ?_
   rotate_left
   ·intro w'
    go_simp
    with_reducible rfl
   rotate_left
   ·simp only [Act.put, List.setIfInBounds_toArray, List.set_cons_zero, List.set_cons_succ, i64_w, i32_w]
    rfl
   refine join_ (σ := Value × Addr × Nat) 1 #[true, true, true, true, true, true, true, true, true, true, true, true, true, true, true, true, true, true, true, false] (fun s_ => [(9, .int .i64 t110), (10, s_.1), (12, .int .i64 t115), (14, .int .i64 (rd y112 t115)), (16, .int .i64 t118), (19, .int .i64 t120), (22, .int .i64 t122), (5, .pointer (some ⟨s_.2.2, 0, none⟩)), (13, .pointer (some (s_.2.1.add (t115).toNat))), (17, .int .i64 (wrap64 (1 + t118))), (20, .int .i64 (wrap64 (1 + t120))), (23, .agg #[.int .i64 (wrap64 (a1 + 1)), .int .i64 t110, .int .i64 (rd y112 t115), .int .i64 (wrap64 (1 + t118)), .int .i64 (wrap64 (1 + t120)), .int .i64 t122])]) (fun s_ w' => (Kd.R (Kd.int .i64) 3 w' w.heap.size (fun _ => True) s_.1 y112) ∧ (∃ c_, (s_.1 : Value) = .slice (some s_.2.1) y112.length c_) ∧ (w'.heap[gb109]? = some (.cells #[.int .i64 0, .int .i64 0, .int .i64 0, .int .i64 0, .int .i64 0, .int .i64 0] 26 (0, 0))) ∧ (w'.heap[s_.2.2]? = some (.cells #[.int .i64 0, .int .i64 0, .int .i64 0, .int .i64 0, .int .i64 0, .int .i64 0] 26 (0, 0))) ∧ (w.heap.size ≤ s_.2.2) ∧ (w0.heap.size ≤ s_.2.2) ∧ (g ≠ s_.2.2) ∧ (s_.2.2 ≠ g) ∧ (gb109 ≠ s_.2.2) ∧ (s_.2.2 ≠ gb109) ∧ (IsS30 w0 w' g s0_0 t123) ∧ (KeepBut w w' g none) ∧ (Below w0.heap.size w0 w')) ?_ ?_
   rotate_left
   ·intro hJ3_4_6_8_10_13_16_18
    refine join_ (σ := Value × Addr) 2 #[true, true, true, true, true, true, true, true, true, true, true, true, true, true, true, true, true, true, false, false] (fun s_ => [(9, .int .i64 t110), (10, s_.1), (12, .int .i64 t115), (14, .int .i64 (rd y112 t115)), (16, .int .i64 t118), (19, .int .i64 t120), (22, .int .i64 t122), (13, .pointer (some (s_.2.add (t115).toNat))), (17, .int .i64 (wrap64 (1 + t118))), (20, .int .i64 (wrap64 (1 + t120))), (23, .agg #[.int .i64 (wrap64 (a1 + 1)), .int .i64 t110, .int .i64 (rd y112 t115), .int .i64 (wrap64 (1 + t118)), .int .i64 (wrap64 (1 + t120)), .int .i64 t122])]) (fun s_ w' => (Kd.R (Kd.int .i64) 3 w' w.heap.size (fun _ => True) s_.1 y112) ∧ (∃ c_, (s_.1 : Value) = .slice (some s_.2) y112.length c_) ∧ (w'.heap[gb109]? = some (.cells #[.int .i64 0, .int .i64 0, .int .i64 0, .int .i64 0, .int .i64 0, .int .i64 0] 26 (0, 0))) ∧ (IsS30 w0 w' g s0_0 t123) ∧ (KeepBut w w' g none) ∧ (Below w0.heap.size w0 w')) ?_ ?_
    rotate_left
    ·intro hJ3_4_6_8_10_13_16
     refine join_ (σ := Value × Addr × Nat) 3 #[true, true, true, true, true, true, true, true, true, true, true, true, true, true, true, true, false, false, true, false] (fun s_ => [(9, .int .i64 t110), (10, s_.1), (12, .int .i64 t115), (14, .int .i64 (rd y112 t115)), (16, .int .i64 t118), (19, .int .i64 t120), (5, .pointer (some ⟨s_.2.2, 0, none⟩)), (13, .pointer (some (s_.2.1.add (t115).toNat))), (17, .int .i64 (wrap64 (1 + t118))), (20, .int .i64 (wrap64 (1 + t120)))]) (fun s_ w' => (Kd.R (Kd.int .i64) 3 w' w.heap.size (fun _ => True) s_.1 y112) ∧ (∃ c_, (s_.1 : Value) = .slice (some s_.2.1) y112.length c_) ∧ (w'.heap[gb109]? = some (.cells #[.int .i64 0, .int .i64 0, .int .i64 0, .int .i64 0, .int .i64 0, .int .i64 0] 26 (0, 0))) ∧ (w'.heap[s_.2.2]? = some (.cells #[.int .i64 0, .int .i64 0, .int .i64 0, .int .i64 0, .int .i64 0, .int .i64 0] 26 (0, 0))) ∧ (w.heap.size ≤ s_.2.2) ∧ (w0.heap.size ≤ s_.2.2) ∧ (g ≠ s_.2.2) ∧ (s_.2.2 ≠ g) ∧ (gb109 ≠ s_.2.2) ∧ (s_.2.2 ≠ gb109) ∧ (IsS30 w0 w' g s0_0 t121) ∧ (KeepBut w w' g none) ∧ (Below w0.heap.size w0 w')) ?_ ?_
     rotate_left
     ·intro hJ3_4_6_8_10_13_18
      refine join_ (σ := Value × Addr × Nat) 3 #[true, true, true, true, true, true, true, true, false, true, true, true, true, true, true, true, true, false, true, false] (fun s_ => [(9, .int .i64 t110), (10, s_.1), (12, .int .i64 t115), (16, .int .i64 t118), (19, .int .i64 t120), (22, .int .i64 t122), (5, .pointer (some ⟨s_.2.2, 0, none⟩)), (13, .pointer (some (s_.2.1.add (t115).toNat))), (17, .int .i64 (wrap64 (1 + t118))), (20, .int .i64 (wrap64 (1 + t120)))]) (fun s_ w' => (Kd.R (Kd.int .i64) 3 w' w.heap.size (fun _ => True) s_.1 y112) ∧ (∃ c_, (s_.1 : Value) = .slice (some s_.2.1) y112.length c_) ∧ (w'.heap[gb109]? = some (.cells #[.int .i64 0, .int .i64 0, .int .i64 0, .int .i64 0, .int .i64 0, .int .i64 0] 26 (0, 0))) ∧ (w'.heap[s_.2.2]? = some (.cells #[.int .i64 0, .int .i64 0, .int .i64 0, .int .i64 0, .int .i64 0, .int .i64 0] 26 (0, 0))) ∧ (w.heap.size ≤ s_.2.2) ∧ (w0.heap.size ≤ s_.2.2) ∧ (g ≠ s_.2.2) ∧ (s_.2.2 ≠ g) ∧ (gb109 ≠ s_.2.2) ∧ (s_.2.2 ≠ gb109) ∧ (IsS30 w0 w' g s0_0 t123) ∧ (KeepBut w w' g none) ∧ (Below w0.heap.size w0 w')) ?_ ?_
      rotate_left
      ·intro hJ3_4_6_10_13_16_18
       refine join_ (σ := Value × Addr) 4 #[true, true, true, true, true, true, true, true, true, true, true, true, true, true, true, true, false, false, false, false] (fun s_ => [(9, .int .i64 t110), (10, s_.1), (12, .int .i64 t115), (14, .int .i64 (rd y112 t115)), (16, .int .i64 t118), (19, .int .i64 t120), (13, .pointer (some (s_.2.add (t115).toNat))), (17, .int .i64 (wrap64 (1 + t118))), (20, .int .i64 (wrap64 (1 + t120)))]) (fun s_ w' => (Kd.R (Kd.int .i64) 3 w' w.heap.size (fun _ => True) s_.1 y112) ∧ (∃ c_, (s_.1 : Value) = .slice (some s_.2) y112.length c_) ∧ (w'.heap[gb109]? = some (.cells #[.int .i64 0, .int .i64 0, .int .i64 0, .int .i64 0, .int .i64 0, .int .i64 0] 26 (0, 0))) ∧ (IsS30 w0 w' g s0_0 t121) ∧ (KeepBut w w' g none) ∧ (Below w0.heap.size w0 w')) ?_ ?_
       rotate_left
       ·intro hJ3_4_6_8_10_13
        refine join_ (σ := Value × Addr × Nat) 5 #[true, true, true, true, true, true, true, true, true, true, true, true, true, false, false, true, false, false, true, false] (fun s_ => [(9, .int .i64 t110), (10, s_.1), (12, .int .i64 t115), (14, .int .i64 (rd y112 t115)), (16, .int .i64 t118), (5, .pointer (some ⟨s_.2.2, 0, none⟩)), (13, .pointer (some (s_.2.1.add (t115).toNat))), (17, .int .i64 (wrap64 (1 + t118)))]) (fun s_ w' => (Kd.R (Kd.int .i64) 3 w' w.heap.size (fun _ => True) s_.1 y112) ∧ (∃ c_, (s_.1 : Value) = .slice (some s_.2.1) y112.length c_) ∧ (w'.heap[gb109]? = some (.cells #[.int .i64 0, .int .i64 0, .int .i64 0, .int .i64 0, .int .i64 0, .int .i64 0] 26 (0, 0))) ∧ (w'.heap[s_.2.2]? = some (.cells #[.int .i64 0, .int .i64 0, .int .i64 0, .int .i64 0, .int .i64 0, .int .i64 0] 26 (0, 0))) ∧ (w.heap.size ≤ s_.2.2) ∧ (w0.heap.size ≤ s_.2.2) ∧ (g ≠ s_.2.2) ∧ (s_.2.2 ≠ g) ∧ (gb109 ≠ s_.2.2) ∧ (s_.2.2 ≠ gb109) ∧ (IsS30 w0 w' g s0_0 t119) ∧ (KeepBut w w' g none) ∧ (Below w0.heap.size w0 w')) ?_ ?_
        rotate_left
        ·intro hJ3_4_6_8_10_18
         refine join_ (σ := Value × Addr) 4 #[true, true, true, true, true, true, true, true, false, true, true, true, true, true, true, true, true, false, false, false] (fun s_ => [(9, .int .i64 t110), (10, s_.1), (12, .int .i64 t115), (16, .int .i64 t118), (19, .int .i64 t120), (22, .int .i64 t122), (13, .pointer (some (s_.2.add (t115).toNat))), (17, .int .i64 (wrap64 (1 + t118))), (20, .int .i64 (wrap64 (1 + t120)))]) (fun s_ w' => (Kd.R (Kd.int .i64) 3 w' w.heap.size (fun _ => True) s_.1 y112) ∧ (∃ c_, (s_.1 : Value) = .slice (some s_.2) y112.length c_) ∧ (w'.heap[gb109]? = some (.cells #[.int .i64 0, .int .i64 0, .int .i64 0, .int .i64 0, .int .i64 0, .int .i64 0] 26 (0, 0))) ∧ (IsS30 w0 w' g s0_0 t123) ∧ (KeepBut w w' g none) ∧ (Below w0.heap.size w0 w')) ?_ ?_
         rotate_left
         ·intro hJ3_4_6_10_13_16
          refine join_ (σ := Value × Addr × Nat) 4 #[true, true, true, true, true, true, true, true, false, true, true, true, true, true, true, true, false, false, true, false] (fun s_ => [(9, .int .i64 t110), (10, s_.1), (12, .int .i64 t115), (16, .int .i64 t118), (19, .int .i64 t120), (5, .pointer (some ⟨s_.2.2, 0, none⟩)), (13, .pointer (some (s_.2.1.add (t115).toNat))), (17, .int .i64 (wrap64 (1 + t118))), (20, .int .i64 (wrap64 (1 + t120)))]) (fun s_ w' => (Kd.R (Kd.int .i64) 3 w' w.heap.size (fun _ => True) s_.1 y112) ∧ (∃ c_, (s_.1 : Value) = .slice (some s_.2.1) y112.length c_) ∧ (w'.heap[gb109]? = some (.cells #[.int .i64 0, .int .i64 0, .int .i64 0, .int .i64 0, .int .i64 0, .int .i64 0] 26 (0, 0))) ∧ (w'.heap[s_.2.2]? = some (.cells #[.int .i64 0, .int .i64 0, .int .i64 0, .int .i64 0, .int .i64 0, .int .i64 0] 26 (0, 0))) ∧ (w.heap.size ≤ s_.2.2) ∧ (w0.heap.size ≤ s_.2.2) ∧ (g ≠ s_.2.2) ∧ (s_.2.2 ≠ g) ∧ (gb109 ≠ s_.2.2) ∧ (s_.2.2 ≠ gb109) ∧ (IsS30 w0 w' g s0_0 t121) ∧ (KeepBut w w' g none) ∧ (Below w0.heap.size w0 w')) ?_ ?_
          rotate_left
          ·intro hJ3_4_6_10_13_18
           refine join_ (σ := Nat) 5 #[true, true, true, true, false, true, true, false, false, true, true, true, true, true, true, true, true, false, true, false] (fun s_ => [(9, .int .i64 t110), (12, .int .i64 t115), (16, .int .i64 t118), (19, .int .i64 t120), (22, .int .i64 t122), (5, .pointer (some ⟨s_, 0, none⟩)), (17, .int .i64 (wrap64 (1 + t118))), (20, .int .i64 (wrap64 (1 + t120)))]) (fun s_ w' => (w'.heap[gb109]? = some (.cells #[.int .i64 0, .int .i64 0, .int .i64 0, .int .i64 0, .int .i64 0, .int .i64 0] 26 (0, 0))) ∧ (w'.heap[s_]? = some (.cells #[.int .i64 0, .int .i64 0, .int .i64 0, .int .i64 0, .int .i64 0, .int .i64 0] 26 (0, 0))) ∧ (w.heap.size ≤ s_) ∧ (w0.heap.size ≤ s_) ∧ (g ≠ s_) ∧ (s_ ≠ g) ∧ (gb109 ≠ s_) ∧ (s_ ≠ gb109) ∧ (IsS30 w0 w' g s0_0 t123) ∧ (KeepBut w w' g none) ∧ (Below w0.heap.size w0 w')) ?_ ?_
           rotate_left
           ·intro hJ3_6_10_13_16_18
            refine join_ (σ := Value × Addr) 6 #[true, true, true, true, true, true, true, true, true, true, true, true, true, false, false, true, false, false, false, false] (fun s_ => [(9, .int .i64 t110), (10, s_.1), (12, .int .i64 t115), (14, .int .i64 (rd y112 t115)), (16, .int .i64 t118), (13, .pointer (some (s_.2.add (t115).toNat))), (17, .int .i64 (wrap64 (1 + t118)))]) (fun s_ w' => (Kd.R (Kd.int .i64) 3 w' w.heap.size (fun _ => True) s_.1 y112) ∧ (∃ c_, (s_.1 : Value) = .slice (some s_.2) y112.length c_) ∧ (w'.heap[gb109]? = some (.cells #[.int .i64 0, .int .i64 0, .int .i64 0, .int .i64 0, .int .i64 0, .int .i64 0] 26 (0, 0))) ∧ (IsS30 w0 w' g s0_0 t119) ∧ (KeepBut w w' g none) ∧ (Below w0.heap.size w0 w')) ?_ ?_
            rotate_left
            ·intro hJ3_4_6_8_10
             refine join_ (σ := Value × Addr × Nat) 7 #[true, true, true, true, true, true, true, true, true, true, false, false, true, false, false, true, false, false, true, false] (fun s_ => [(9, .int .i64 t110), (10, s_.1), (12, .int .i64 t115), (14, .int .i64 (rd y112 t115)), (5, .pointer (some ⟨s_.2.2, 0, none⟩)), (13, .pointer (some (s_.2.1.add (t115).toNat)))]) (fun s_ w' => (Kd.R (Kd.int .i64) 3 w' w.heap.size (fun _ => True) s_.1 y112) ∧ (∃ c_, (s_.1 : Value) = .slice (some s_.2.1) y112.length c_) ∧ (w'.heap[gb109]? = some (.cells #[.int .i64 0, .int .i64 0, .int .i64 0, .int .i64 0, .int .i64 0, .int .i64 0] 26 (0, 0))) ∧ (w'.heap[s_.2.2]? = some (.cells #[.int .i64 0, .int .i64 0, .int .i64 0, .int .i64 0, .int .i64 0, .int .i64 0] 26 (0, 0))) ∧ (w.heap.size ≤ s_.2.2) ∧ (w0.heap.size ≤ s_.2.2) ∧ (g ≠ s_.2.2) ∧ (s_.2.2 ≠ g) ∧ (gb109 ≠ s_.2.2) ∧ (s_.2.2 ≠ gb109) ∧ (IsS30 w0 w' g s0_0 t116) ∧ (KeepBut w w' g none) ∧ (Below w0.heap.size w0 w')) ?_ ?_
             rotate_left
             ·intro hJ3_4_6_8_18
              refine join_ (σ := Value × Addr) 5 #[true, true, true, true, true, true, true, true, false, true, true, true, true, true, true, true, false, false, false, false] (fun s_ => [(9, .int .i64 t110), (10, s_.1), (12, .int .i64 t115), (16, .int .i64 t118), (19, .int .i64 t120), (13, .pointer (some (s_.2.add (t115).toNat))), (17, .int .i64 (wrap64 (1 + t118))), (20, .int .i64 (wrap64 (1 + t120)))]) (fun s_ w' => (Kd.R (Kd.int .i64) 3 w' w.heap.size (fun _ => True) s_.1 y112) ∧ (∃ c_, (s_.1 : Value) = .slice (some s_.2) y112.length c_) ∧ (w'.heap[gb109]? = some (.cells #[.int .i64 0, .int .i64 0, .int .i64 0, .int .i64 0, .int .i64 0, .int .i64 0] 26 (0, 0))) ∧ (IsS30 w0 w' g s0_0 t121) ∧ (KeepBut w w' g none) ∧ (Below w0.heap.size w0 w')) ?_ ?_
              rotate_left
              ·intro hJ3_4_6_10_13
               refine join_ (σ := Value × Addr × Nat) 6 #[true, true, true, true, true, true, true, true, false, true, true, true, true, false, false, true, false, false, true, false] (fun s_ => [(9, .int .i64 t110), (10, s_.1), (12, .int .i64 t115), (16, .int .i64 t118), (5, .pointer (some ⟨s_.2.2, 0, none⟩)), (13, .pointer (some (s_.2.1.add (t115).toNat))), (17, .int .i64 (wrap64 (1 + t118)))]) (fun s_ w' => (Kd.R (Kd.int .i64) 3 w' w.heap.size (fun _ => True) s_.1 y112) ∧ (∃ c_, (s_.1 : Value) = .slice (some s_.2.1) y112.length c_) ∧ (w'.heap[gb109]? = some (.cells #[.int .i64 0, .int .i64 0, .int .i64 0, .int .i64 0, .int .i64 0, .int .i64 0] 26 (0, 0))) ∧ (w'.heap[s_.2.2]? = some (.cells #[.int .i64 0, .int .i64 0, .int .i64 0, .int .i64 0, .int .i64 0, .int .i64 0] 26 (0, 0))) ∧ (w.heap.size ≤ s_.2.2) ∧ (w0.heap.size ≤ s_.2.2) ∧ (g ≠ s_.2.2) ∧ (s_.2.2 ≠ g) ∧ (gb109 ≠ s_.2.2) ∧ (s_.2.2 ≠ gb109) ∧ (IsS30 w0 w' g s0_0 t119) ∧ (KeepBut w w' g none) ∧ (Below w0.heap.size w0 w')) ?_ ?_
               rotate_left
               ·intro hJ3_4_6_10_18
                refine join_ (σ := Unit) 6 #[true, true, true, true, false, true, true, false, false, true, true, true, true, true, true, true, true, false, false, false] (fun s_ => [(9, .int .i64 t110), (12, .int .i64 t115), (16, .int .i64 t118), (19, .int .i64 t120), (22, .int .i64 t122), (17, .int .i64 (wrap64 (1 + t118))), (20, .int .i64 (wrap64 (1 + t120)))]) (fun s_ w' => (w'.heap[gb109]? = some (.cells #[.int .i64 0, .int .i64 0, .int .i64 0, .int .i64 0, .int .i64 0, .int .i64 0] 26 (0, 0))) ∧ (IsS30 w0 w' g s0_0 t123) ∧ (KeepBut w w' g none) ∧ (Below w0.heap.size w0 w')) ?_ ?_
                rotate_left
                ·intro hJ3_6_10_13_16
                 refine join_ (σ := Nat) 6 #[true, true, true, true, false, true, true, false, false, true, true, true, true, true, true, true, false, false, true, false] (fun s_ => [(9, .int .i64 t110), (12, .int .i64 t115), (16, .int .i64 t118), (19, .int .i64 t120), (5, .pointer (some ⟨s_, 0, none⟩)), (17, .int .i64 (wrap64 (1 + t118))), (20, .int .i64 (wrap64 (1 + t120)))]) (fun s_ w' => (w'.heap[gb109]? = some (.cells #[.int .i64 0, .int .i64 0, .int .i64 0, .int .i64 0, .int .i64 0, .int .i64 0] 26 (0, 0))) ∧ (w'.heap[s_]? = some (.cells #[.int .i64 0, .int .i64 0, .int .i64 0, .int .i64 0, .int .i64 0, .int .i64 0] 26 (0, 0))) ∧ (w.heap.size ≤ s_) ∧ (w0.heap.size ≤ s_) ∧ (g ≠ s_) ∧ (s_ ≠ g) ∧ (gb109 ≠ s_) ∧ (s_ ≠ gb109) ∧ (IsS30 w0 w' g s0_0 t121) ∧ (KeepBut w w' g none) ∧ (Below w0.heap.size w0 w')) ?_ ?_
                 rotate_left
                 ·intro hJ3_6_10_13_18
                  refine join_ (σ := Value × Addr) 8 #[true, true, true, true, true, true, true, true, true, true, false, false, true, false, false, true, false, false, false, false] (fun s_ => [(9, .int .i64 t110), (10, s_.1), (12, .int .i64 t115), (14, .int .i64 (rd y112 t115)), (13, .pointer (some (s_.2.add (t115).toNat)))]) (fun s_ w' => (Kd.R (Kd.int .i64) 3 w' w.heap.size (fun _ => True) s_.1 y112) ∧ (∃ c_, (s_.1 : Value) = .slice (some s_.2) y112.length c_) ∧ (w'.heap[gb109]? = some (.cells #[.int .i64 0, .int .i64 0, .int .i64 0, .int .i64 0, .int .i64 0, .int .i64 0] 26 (0, 0))) ∧ (IsS30 w0 w' g s0_0 t116) ∧ (KeepBut w w' g none) ∧ (Below w0.heap.size w0 w')) ?_ ?_
                  rotate_left
                  ·intro hJ3_4_6_8
                   refine join_ (σ := Value × Addr) 7 #[true, true, true, true, true, true, true, true, false, true, true, true, true, false, false, true, false, false, false, false] (fun s_ => [(9, .int .i64 t110), (10, s_.1), (12, .int .i64 t115), (16, .int .i64 t118), (13, .pointer (some (s_.2.add (t115).toNat))), (17, .int .i64 (wrap64 (1 + t118)))]) (fun s_ w' => (Kd.R (Kd.int .i64) 3 w' w.heap.size (fun _ => True) s_.1 y112) ∧ (∃ c_, (s_.1 : Value) = .slice (some s_.2) y112.length c_) ∧ (w'.heap[gb109]? = some (.cells #[.int .i64 0, .int .i64 0, .int .i64 0, .int .i64 0, .int .i64 0, .int .i64 0] 26 (0, 0))) ∧ (IsS30 w0 w' g s0_0 t119) ∧ (KeepBut w w' g none) ∧ (Below w0.heap.size w0 w')) ?_ ?_
                   rotate_left
                   ·intro hJ3_4_6_10
                    refine join_ (σ := Value × Addr × Nat) 8 #[true, true, true, true, true, true, true, true, false, true, false, false, true, false, false, true, false, false, true, false] (fun s_ => [(9, .int .i64 t110), (10, s_.1), (12, .int .i64 t115), (5, .pointer (some ⟨s_.2.2, 0, none⟩)), (13, .pointer (some (s_.2.1.add (t115).toNat)))]) (fun s_ w' => (Kd.R (Kd.int .i64) 3 w' w.heap.size (fun _ => True) s_.1 y112) ∧ (∃ c_, (s_.1 : Value) = .slice (some s_.2.1) y112.length c_) ∧ (w'.heap[gb109]? = some (.cells #[.int .i64 0, .int .i64 0, .int .i64 0, .int .i64 0, .int .i64 0, .int .i64 0] 26 (0, 0))) ∧ (w'.heap[s_.2.2]? = some (.cells #[.int .i64 0, .int .i64 0, .int .i64 0, .int .i64 0, .int .i64 0, .int .i64 0] 26 (0, 0))) ∧ (w.heap.size ≤ s_.2.2) ∧ (w0.heap.size ≤ s_.2.2) ∧ (g ≠ s_.2.2) ∧ (s_.2.2 ≠ g) ∧ (gb109 ≠ s_.2.2) ∧ (s_.2.2 ≠ gb109) ∧ (IsS30 w0 w' g s0_0 t116) ∧ (KeepBut w w' g none) ∧ (Below w0.heap.size w0 w')) ?_ ?_
                    rotate_left
                    ·intro hJ3_4_6_18
                     refine join_ (σ := Unit) 7 #[true, true, true, true, false, true, true, false, false, true, true, true, true, true, true, true, false, false, false, false] (fun s_ => [(9, .int .i64 t110), (12, .int .i64 t115), (16, .int .i64 t118), (19, .int .i64 t120), (17, .int .i64 (wrap64 (1 + t118))), (20, .int .i64 (wrap64 (1 + t120)))]) (fun s_ w' => (w'.heap[gb109]? = some (.cells #[.int .i64 0, .int .i64 0, .int .i64 0, .int .i64 0, .int .i64 0, .int .i64 0] 26 (0, 0))) ∧ (IsS30 w0 w' g s0_0 t121) ∧ (KeepBut w w' g none) ∧ (Below w0.heap.size w0 w')) ?_ ?_
                     rotate_left
                     ·intro hJ3_6_10_13
                      refine join_ (σ := Nat) 8 #[true, true, true, true, false, true, true, false, false, true, true, true, true, false, false, true, false, false, true, false] (fun s_ => [(9, .int .i64 t110), (12, .int .i64 t115), (16, .int .i64 t118), (5, .pointer (some ⟨s_, 0, none⟩)), (17, .int .i64 (wrap64 (1 + t118)))]) (fun s_ w' => (w'.heap[gb109]? = some (.cells #[.int .i64 0, .int .i64 0, .int .i64 0, .int .i64 0, .int .i64 0, .int .i64 0] 26 (0, 0))) ∧ (w'.heap[s_]? = some (.cells #[.int .i64 0, .int .i64 0, .int .i64 0, .int .i64 0, .int .i64 0, .int .i64 0] 26 (0, 0))) ∧ (w.heap.size ≤ s_) ∧ (w0.heap.size ≤ s_) ∧ (g ≠ s_) ∧ (s_ ≠ g) ∧ (gb109 ≠ s_) ∧ (s_ ≠ gb109) ∧ (IsS30 w0 w' g s0_0 t119) ∧ (KeepBut w w' g none) ∧ (Below w0.heap.size w0 w')) ?_ ?_
                      rotate_left
                      ·intro hJ3_6_10_18
                       refine join_ (σ := Value × Addr) 9 #[true, true, true, true, true, true, true, true, false, true, false, false, true, false, false, true, false, false, false, false] (fun s_ => [(9, .int .i64 t110), (10, s_.1), (12, .int .i64 t115), (13, .pointer (some (s_.2.add (t115).toNat)))]) (fun s_ w' => (Kd.R (Kd.int .i64) 3 w' w.heap.size (fun _ => True) s_.1 y112) ∧ (∃ c_, (s_.1 : Value) = .slice (some s_.2) y112.length c_) ∧ (w'.heap[gb109]? = some (.cells #[.int .i64 0, .int .i64 0, .int .i64 0, .int .i64 0, .int .i64 0, .int .i64 0] 26 (0, 0))) ∧ (IsS30 w0 w' g s0_0 t116) ∧ (KeepBut w w' g none) ∧ (Below w0.heap.size w0 w')) ?_ ?_
                       rotate_left
                       ·intro hJ3_4_6
                        refine join_ (σ := Value × Addr × Nat) 10 #[true, true, true, true, true, true, false, false, false, true, false, false, true, false, false, true, false, false, true, false] (fun s_ => [(9, .int .i64 t110), (10, s_.1), (5, .pointer (some ⟨s_.2.2, 0, none⟩))]) (fun s_ w' => (Kd.R (Kd.int .i64) 3 w' w.heap.size (fun _ => True) s_.1 y112) ∧ (∃ c_, (s_.1 : Value) = .slice (some s_.2.1) y112.length c_) ∧ (w'.heap[gb109]? = some (.cells #[.int .i64 0, .int .i64 0, .int .i64 0, .int .i64 0, .int .i64 0, .int .i64 0] 26 (0, 0))) ∧ (w'.heap[s_.2.2]? = some (.cells #[.int .i64 0, .int .i64 0, .int .i64 0, .int .i64 0, .int .i64 0, .int .i64 0] 26 (0, 0))) ∧ (w.heap.size ≤ s_.2.2) ∧ (w0.heap.size ≤ s_.2.2) ∧ (g ≠ s_.2.2) ∧ (s_.2.2 ≠ g) ∧ (gb109 ≠ s_.2.2) ∧ (s_.2.2 ≠ gb109) ∧ (IsS30 w0 w' g s0_0 t111) ∧ (KeepBut w w' g none) ∧ (Below w0.heap.size w0 w')) ?_ ?_
                        rotate_left
                        ·intro hJ3_4_18
                         refine join_ (σ := Unit) 9 #[true, true, true, true, false, true, true, false, false, true, true, true, true, false, false, true, false, false, false, false] (fun s_ => [(9, .int .i64 t110), (12, .int .i64 t115), (16, .int .i64 t118), (17, .int .i64 (wrap64 (1 + t118)))]) (fun s_ w' => (w'.heap[gb109]? = some (.cells #[.int .i64 0, .int .i64 0, .int .i64 0, .int .i64 0, .int .i64 0, .int .i64 0] 26 (0, 0))) ∧ (IsS30 w0 w' g s0_0 t119) ∧ (KeepBut w w' g none) ∧ (Below w0.heap.size w0 w')) ?_ ?_
                         rotate_left
                         ·intro hJ3_6_10
                          refine join_ (σ := Nat) 10 #[true, true, true, true, false, true, true, false, false, true, false, false, true, false, false, true, false, false, true, false] (fun s_ => [(9, .int .i64 t110), (12, .int .i64 t115), (5, .pointer (some ⟨s_, 0, none⟩))]) (fun s_ w' => (w'.heap[gb109]? = some (.cells #[.int .i64 0, .int .i64 0, .int .i64 0, .int .i64 0, .int .i64 0, .int .i64 0] 26 (0, 0))) ∧ (w'.heap[s_]? = some (.cells #[.int .i64 0, .int .i64 0, .int .i64 0, .int .i64 0, .int .i64 0, .int .i64 0] 26 (0, 0))) ∧ (w.heap.size ≤ s_) ∧ (w0.heap.size ≤ s_) ∧ (g ≠ s_) ∧ (s_ ≠ g) ∧ (gb109 ≠ s_) ∧ (s_ ≠ gb109) ∧ (IsS30 w0 w' g s0_0 t116) ∧ (KeepBut w w' g none) ∧ (Below w0.heap.size w0 w')) ?_ ?_
                          rotate_left
                          ·intro hJ3_6_18
                           refine join_ (σ := Value × Addr) 11 #[true, true, true, true, true, true, false, false, false, true, false, false, true, false, false, true, false, false, false, false] (fun s_ => [(9, .int .i64 t110), (10, s_.1)]) (fun s_ w' => (Kd.R (Kd.int .i64) 3 w' w.heap.size (fun _ => True) s_.1 y112) ∧ (∃ c_, (s_.1 : Value) = .slice (some s_.2) y112.length c_) ∧ (w'.heap[gb109]? = some (.cells #[.int .i64 0, .int .i64 0, .int .i64 0, .int .i64 0, .int .i64 0, .int .i64 0] 26 (0, 0))) ∧ (IsS30 w0 w' g s0_0 t111) ∧ (KeepBut w w' g none) ∧ (Below w0.heap.size w0 w')) ?_ ?_
                           rotate_left
                           ·intro hJ3_4
                            refine join_ (σ := Unit) 11 #[true, true, true, true, false, true, true, false, false, true, false, false, true, false, false, true, false, false, false, false] (fun s_ => [(9, .int .i64 t110), (12, .int .i64 t115)]) (fun s_ w' => (w'.heap[gb109]? = some (.cells #[.int .i64 0, .int .i64 0, .int .i64 0, .int .i64 0, .int .i64 0, .int .i64 0] 26 (0, 0))) ∧ (IsS30 w0 w' g s0_0 t116) ∧ (KeepBut w w' g none) ∧ (Below w0.heap.size w0 w')) ?_ ?_
                            rotate_left
                            ·intro hJ3_6
                             refine join_ (σ := Nat) 11 #[true, true, true, true, false, true, false, false, false, true, false, false, true, false, false, true, false, false, true, false] (fun s_ => [(9, .int .i64 t110), (5, .pointer (some ⟨s_, 0, none⟩))]) (fun s_ w' => (w'.heap[gb109]? = some (.cells #[.int .i64 0, .int .i64 0, .int .i64 0, .int .i64 0, .int .i64 0, .int .i64 0] 26 (0, 0))) ∧ (w'.heap[s_]? = some (.cells #[.int .i64 0, .int .i64 0, .int .i64 0, .int .i64 0, .int .i64 0, .int .i64 0] 26 (0, 0))) ∧ (w.heap.size ≤ s_) ∧ (w0.heap.size ≤ s_) ∧ (g ≠ s_) ∧ (s_ ≠ g) ∧ (gb109 ≠ s_) ∧ (s_ ≠ gb109) ∧ (IsS30 w0 w' g s0_0 t111) ∧ (KeepBut w w' g none) ∧ (Below w0.heap.size w0 w')) ?_ ?_
                             rotate_left
                             ·intro hJ3_18
                              refine join_ (σ := Value × Addr × Nat) 11 #[true, true, true, false, true, true, false, false, false, true, false, false, true, false, false, true, false, false, true, false] (fun s_ => [(10, s_.1), (5, .pointer (some ⟨s_.2.2, 0, none⟩))]) (fun s_ w' => (Kd.R (Kd.int .i64) 3 w' w.heap.size (fun _ => True) s_.1 y112) ∧ (∃ c_, (s_.1 : Value) = .slice (some s_.2.1) y112.length c_) ∧ (w'.heap[gb109]? = some (.cells #[.int .i64 0, .int .i64 0, .int .i64 0, .int .i64 0, .int .i64 0, .int .i64 0] 26 (0, 0))) ∧ (w'.heap[s_.2.2]? = some (.cells #[.int .i64 0, .int .i64 0, .int .i64 0, .int .i64 0, .int .i64 0, .int .i64 0] 26 (0, 0))) ∧ (w.heap.size ≤ s_.2.2) ∧ (w0.heap.size ≤ s_.2.2) ∧ (g ≠ s_.2.2) ∧ (s_.2.2 ≠ g) ∧ (gb109 ≠ s_.2.2) ∧ (s_.2.2 ≠ gb109) ∧ (IsS30 w0 w' g s0_0 s0_1) ∧ (KeepBut w w' g none) ∧ (Below w0.heap.size w0 w')) ?_ ?_
                              rotate_left
                              ·intro hJ4_18
                               refine join_ (σ := Unit) 12 #[true, true, true, true, false, true, false, false, false, true, false, false, true, false, false, true, false, false, false, false] (fun s_ => [(9, .int .i64 t110)]) (fun s_ w' => (w'.heap[gb109]? = some (.cells #[.int .i64 0, .int .i64 0, .int .i64 0, .int .i64 0, .int .i64 0, .int .i64 0] 26 (0, 0))) ∧ (IsS30 w0 w' g s0_0 t111) ∧ (KeepBut w w' g none) ∧ (Below w0.heap.size w0 w')) ?_ ?_
                               rotate_left
                               ·intro hJ3
                                refine join_ (σ := Value × Addr) 12 #[true, true, true, false, true, true, false, false, false, true, false, false, true, false, false, true, false, false, false, false] (fun s_ => [(10, s_.1)]) (fun s_ w' => (Kd.R (Kd.int .i64) 3 w' w.heap.size (fun _ => True) s_.1 y112) ∧ (∃ c_, (s_.1 : Value) = .slice (some s_.2) y112.length c_) ∧ (w'.heap[gb109]? = some (.cells #[.int .i64 0, .int .i64 0, .int .i64 0, .int .i64 0, .int .i64 0, .int .i64 0] 26 (0, 0))) ∧ (IsS30 w0 w' g s0_0 s0_1) ∧ (KeepBut w w' g none) ∧ (Below w0.heap.size w0 w')) ?_ ?_
                                rotate_left
                                ·intro hJ4
                                 refine join_ (σ := Nat) 12 #[true, true, true, false, false, true, false, false, false, true, false, false, true, false, false, true, false, false, true, false] (fun s_ => [(5, .pointer (some ⟨s_, 0, none⟩))]) (fun s_ w' => (w'.heap[gb109]? = some (.cells #[.int .i64 0, .int .i64 0, .int .i64 0, .int .i64 0, .int .i64 0, .int .i64 0] 26 (0, 0))) ∧ (w'.heap[s_]? = some (.cells #[.int .i64 0, .int .i64 0, .int .i64 0, .int .i64 0, .int .i64 0, .int .i64 0] 26 (0, 0))) ∧ (w.heap.size ≤ s_) ∧ (w0.heap.size ≤ s_) ∧ (g ≠ s_) ∧ (s_ ≠ g) ∧ (gb109 ≠ s_) ∧ (s_ ≠ gb109) ∧ (IsS30 w0 w' g s0_0 s0_1) ∧ (KeepBut w w' g none) ∧ (Below w0.heap.size w0 w')) ?_ ?_
                                 rotate_left
                                 ·intro hJ18
                                  refine three_ (i := 3) (j := 4) (k := 18) (Ni := some 9) (Nj := some 10) (Nk := some 5) #[true, true, true, true, false, true, false, false, false, true, false, false, true, false, false, true, false, false, false, false] #[true, true, true, false, true, true, false, false, false, true, false, false, true, false, false, true, false, false, false, false] #[true, true, true, false, false, true, false, false, false, true, false, false, true, false, false, true, false, false, true, false] rfl rfl rfl rfl rfl rfl (three_of HT_.out (by kernel_rfl)) (by decide) (by decide) (by decide) (fun K hK => ?_) (fun K hK => ?_) (fun K hK => ?_)
                                  ·skip
                                   refine goes_ Try.func27 (by kernel_rfl) rfl #[.pointer (some ⟨g, 0, none⟩), .int .i64 50] (by rfl) rfl rfl argx ?_
                                   with_reducible refine (customsmade_Source_Next.calls g s0_0 s0_1 50 t110 t111 w0 _ ?side1 ?side2 A3.out).mono ?_
                                   (case side1 => repeat (first | (with_reducible first | exact HI0.out | apply IsS30.alloc | apply IsS30.drewN | apply IsS30.drew | apply IsS30.set_1 | refine IsS30.far ?_ NB0_109.out _) | exact HI0.out))
                                   (case side2 => repeat (first | (with_reducible first | exact HB.out | apply below_alloc | apply pw_below_drewN | apply below_drew1 | refine below_set ?_ (IsS30.ge HI0.out) | refine below_set ?_ GE109.out) | exact HB.out))
                                   rintro e w14 ⟨rfl, hi, hb, hk⟩
                                   refine ⟨_, rfl, ?_⟩
                                   have n0_ := Aside0.mk (KeepBut.blk hk (g' := gb109) (o := .cells #[.int .i64 0, .int .i64 0, .int .i64 0, .int .i64 0, .int .i64 0, .int .i64 0] 26 (0, 0)) blkx NB109_0.out (by simp)); have n1_ := Aside0.mk (KeepBut.trans zPA1 hk (.inl rfl)); have n2_ := Aside0.mk (hb); have n3_ := Aside0.mk (hi); clear BK109; clear HK; clear HB; clear HI0; have BK109 := n0_; have HK := n1_; have HB := n2_; have HI0 := n3_; clear n0_ n1_ n2_ n3_
                                   (try clear hb)
                                   (try clear hb2)
                                   (try clear hk)
                                   (try clear hi)
                                   refine hK.out _ _ trivial (fun hHeld => ?_)
                                   clear hK K
                                   refine norm_ (a' := ?_) ?_ ?_
                                   rotate_left
                                   ·show Act.put _ (some 9) _ = _
                                    simp only [Act.put, List.setIfInBounds_toArray, List.set_cons_zero, List.set_cons_succ, i64_w, i32_w]
                                    rfl
                                   exact norm_ zPA0 (hJ3 () _ ⟨blkx, zPA6, zPA1, zPA5⟩)
                                  ·skip
                                   refine Kd.R_lit_step (Kd.int .i64) _ 3 ?hg (N := 10) ?hd (xs := ([1, 1, 1, 2, 3, 3, 4, 5, 5, 6, 7, 8, 9] : List Int)) (inner := [.int .i64 1, .int .i64 1, .int .i64 1, .int .i64 2, .int .i64 3, .int .i64 3, .int .i64 4, .int .i64 5, .int .i64 5, .int .i64 6, .int .i64 7, .int .i64 8, .int .i64 9]) (ok := fun _ => True) (okp := fun _ => True) ?hr ?hp (fun _ hk => hk) trivial (Below.refl _ _) (Nat.le_refl _) (by simp) ?_; (case hd => rfl); (case hg => rfl); (case hr => first | (go_simp; done) | (go_simp; rfl)); (case hp => exact (Reps.one (show Kd.M (Kd.int .i64) _ _ _ 1 [.int .i64 1] from rfl) (Reps.one (show Kd.M (Kd.int .i64) _ _ _ 1 [.int .i64 1] from rfl) (Reps.one (show Kd.M (Kd.int .i64) _ _ _ 1 [.int .i64 1] from rfl) (Reps.one (show Kd.M (Kd.int .i64) _ _ _ 2 [.int .i64 2] from rfl) (Reps.one (show Kd.M (Kd.int .i64) _ _ _ 3 [.int .i64 3] from rfl) (Reps.one (show Kd.M (Kd.int .i64) _ _ _ 3 [.int .i64 3] from rfl) (Reps.one (show Kd.M (Kd.int .i64) _ _ _ 4 [.int .i64 4] from rfl) (Reps.one (show Kd.M (Kd.int .i64) _ _ _ 5 [.int .i64 5] from rfl) (Reps.one (show Kd.M (Kd.int .i64) _ _ _ 5 [.int .i64 5] from rfl) (Reps.one (show Kd.M (Kd.int .i64) _ _ _ 6 [.int .i64 6] from rfl) (Reps.one (show Kd.M (Kd.int .i64) _ _ _ 7 [.int .i64 7] from rfl) (Reps.one (show Kd.M (Kd.int .i64) _ _ _ 8 [.int .i64 8] from rfl) (Reps.one (show Kd.M (Kd.int .i64) _ _ _ 9 [.int .i64 9] from rfl) (Reps.none _ _)))))))))))))))
                                   intro v113 w14 ho15 hb hg_ hnew_
                                   clear hg_ hnew_
                                   (first | rw [← Ny112.out] at ho15 | (simp only [Int.reduceToNat] at ho15; rw [← Ny112.out] at ho15))
                                   have n0_ := Aside0.mk (Kd.R_lower ho15 (keep_size (w := w) (g := g) (row := none) zPA1)); have n1_ := Aside0.mk (IsS30.below zPA6 hb); have n2_ := Aside0.mk (blk_below (g := gb109) (o := .cells #[.int .i64 0, .int .i64 0, .int .i64 0, .int .i64 0, .int .i64 0, .int .i64 0] 26 (0, 0)) blkx hb); have n3_ := Aside0.mk (KeepBut.trans zPA1 (KeepBut.of_below hb g none) (.inl rfl)); have n4_ := Aside0.mk (below_step zPA5 hb); clear HI0; clear BK109; clear HK; clear HB; have HO114 := n0_; have HI0 := n1_; have BK109 := n2_; have HK := n3_; have HB := n4_; clear n0_ n1_ n2_ n3_ n4_; clear hb ho15; obtain ⟨Ao16, co16, eo16⟩ := Kd.R_slice HO114.out; subst eo16; obtain ⟨ado16, fo16, _⟩ := Kd.at_int (Kd.R_reads' HO114.out).2.2 0 (by decide) (by rw [Ny112.out]; simp)
                                   cases fo16
                                   refine hK.out _ _ trivial (fun hHeld => ?_)
                                   clear hK K
                                   refine norm_ (a' := ?_) ?_ ?_
                                   rotate_left
                                   ·show Act.put _ (some 10) _ = _
                                    simp only [Act.put, List.setIfInBounds_toArray, List.set_cons_zero, List.set_cons_succ, i64_w, i32_w]
                                    rfl
                                   exact norm_ zPA0 (hJ4 (.slice (some ado16) y112.length co16, ado16) _ ⟨(rowx HO114.out), ⟨_, rfl⟩, blkx, zPA6, zPA1, zPA5⟩)
                                  ·skip
                                   refine box_step ?hg (N := 5) ?hd (cs := #[.int .i64 0, .int .i64 0, .int .i64 0, .int .i64 0, .int .i64 0, .int .i64 0]) (t := 26) ?hr ?_; (case hd => rfl); (case hg => rfl); (case hr => first | (go_simp; done) | (go_simp; rfl))
                                   intro gb124 hg w14 hbox hb
                                   have n0_ := Aside0.mk (IsS30.below zPA6 hb); have n1_ := Aside0.mk (blk_below (g := gb109) (o := .cells #[.int .i64 0, .int .i64 0, .int .i64 0, .int .i64 0, .int .i64 0, .int .i64 0] 26 (0, 0)) blkx hb); have n2_ := Aside0.mk (KeepBut.trans zPA1 (KeepBut.of_below hb g none) (.inl rfl)); have n3_ := Aside0.mk (below_step zPA5 hb); have n4_ := Aside0.mk (hbox); have n5_ := Aside0.mk ((by rw [hg]; exact (keep_size (w := w) (g := g) (row := none) zPA1) : w.heap.size ≤ gb124)); have n6_ := Aside0.mk ((Nat.le_trans HW0.out (by rw [hg]; exact (keep_size (w := w) (g := g) (row := none) zPA1) : w.heap.size ≤ gb124) : w0.heap.size ≤ gb124)); have n7_ := Aside0.mk ((by rw [hg]; exact Nat.ne_of_lt (blk_lt (g := gb109) (o := .cells #[.int .i64 0, .int .i64 0, .int .i64 0, .int .i64 0, .int .i64 0, .int .i64 0] 26 (0, 0)) blkx) : gb109 ≠ gb124)); have n8_ := Aside0.mk ((by rw [hg]; exact Nat.ne_of_gt (blk_lt (g := gb109) (o := .cells #[.int .i64 0, .int .i64 0, .int .i64 0, .int .i64 0, .int .i64 0, .int .i64 0] 26 (0, 0)) blkx) : gb124 ≠ gb109))
                                   have n9_ := Aside0.mk ((by rw [hg]; exact Nat.ne_of_lt (IsS30.lt (show IsS30 w0 _ g s0_0 s0_1 from by repeat (first | (with_reducible first | exact HI0.out | apply IsS30.alloc | apply IsS30.drewN | apply IsS30.drew | apply IsS30.set_1 | refine IsS30.far ?_ NB0_109.out _) | exact HI0.out))) : g ≠ gb124))
                                   have n10_ := Aside0.mk ((by rw [hg]; exact Nat.ne_of_gt (IsS30.lt (show IsS30 w0 _ g s0_0 s0_1 from by repeat (first | (with_reducible first | exact HI0.out | apply IsS30.alloc | apply IsS30.drewN | apply IsS30.drew | apply IsS30.set_1 | refine IsS30.far ?_ NB0_109.out _) | exact HI0.out))) : gb124 ≠ g))
                                   clear HI0; clear BK109; clear HK; clear HB; have HI0 := n0_; have BK109 := n1_; have HK := n2_; have HB := n3_; have BK124 := n4_; have GW124 := n5_; have GE124 := n6_; have NB109_124 := n7_; have NB124_109 := n8_; have NB0_124 := n9_; have NB124_0 := n10_; clear n0_ n1_ n2_ n3_ n4_ n5_ n6_ n7_ n8_ n9_ n10_; clear hb hbox hg
                                   refine hK.out _ _ trivial (fun hHeld => ?_)
                                   clear hK K
                                   refine norm_ (a' := ?_) ?_ ?_
                                   rotate_left
                                   ·show Act.put _ (some 5) _ = _
                                    simp only [Act.put, List.setIfInBounds_toArray, List.set_cons_zero, List.set_cons_succ, i64_w, i32_w]
                                    rfl
                                   exact norm_ zPA0 (hJ18 (gb124) _ ⟨blkx, blkx, GW124.out, GE124.out, NB0_124.out, NB124_0.out, NB109_124.out, NB124_109.out, zPA4, zPA2, zPA3⟩)
                                 ·skip
                                  rintro gb124 w15 ⟨h0_, h1_, h2_, h3_, h4_, h5_, h6_, h7_, h8_, h9_, h10_⟩
                                  have n0_ : Aside0 (w15.heap[gb109]? = some (.cells #[.int .i64 0, .int .i64 0, .int .i64 0, .int .i64 0, .int .i64 0, .int .i64 0] 26 (0, 0))) := ⟨h0_⟩; have n1_ : Aside0 (w15.heap[gb124]? = some (.cells #[.int .i64 0, .int .i64 0, .int .i64 0, .int .i64 0, .int .i64 0, .int .i64 0] 26 (0, 0))) := ⟨h1_⟩; have n2_ : Aside0 (w.heap.size ≤ gb124) := ⟨h2_⟩; have n3_ : Aside0 (w0.heap.size ≤ gb124) := ⟨h3_⟩; have n4_ : Aside0 (g ≠ gb124) := ⟨h4_⟩; have n5_ : Aside0 (gb124 ≠ g) := ⟨h5_⟩; have n6_ : Aside0 (gb109 ≠ gb124) := ⟨h6_⟩; have n7_ : Aside0 (gb124 ≠ gb109) := ⟨h7_⟩; have n8_ : Aside0 (IsS30 w0 w15 g s0_0 s0_1) := ⟨h8_⟩; have n9_ : Aside0 (KeepBut w w15 g none) := ⟨h9_⟩; have n10_ : Aside0 (Below w0.heap.size w0 w15) := ⟨h10_⟩; clear BK109; clear HI0; clear HK; clear HB; clear h0_ h1_ h2_ h3_ h4_ h5_ h6_ h7_ h8_ h9_ h10_; have BK109 := n0_; have BK124 := n1_; have GW124 := n2_; have GE124 := n3_; have NB0_124 := n4_; have NB124_0 := n5_; have NB109_124 := n6_; have NB124_109 := n7_; have HI0 := n8_; have HK := n9_; have HB := n10_; clear n0_ n1_ n2_ n3_ n4_ n5_ n6_ n7_ n8_ n9_ n10_; have hHeld := trivial
                                  refine norm_ (a' := ?_) ?_ ?_
                                  rotate_left
                                  ·simp only [putAll, Act.put, List.setIfInBounds_toArray, List.set_cons_zero, List.set_cons_succ]
                                   rfl
                                  refine two_ (i := 3) (j := 4) (Ni := some 9) (Nj := some 10) #[true, true, true, true, false, true, false, false, false, true, false, false, true, false, false, true, false, false, true, false] #[true, true, true, false, true, true, false, false, false, true, false, false, true, false, false, true, false, false, true, false] rfl rfl rfl rfl (two_of HT_.out (by kernel_rfl)) (by decide) (by decide) (fun K hK => ?_) (fun K hK => ?_)
                                  ·skip
                                   refine goes_ Try.func27 (by kernel_rfl) rfl #[.pointer (some ⟨g, 0, none⟩), .int .i64 50] (by rfl) rfl rfl argx ?_
                                   with_reducible refine (customsmade_Source_Next.calls g s0_0 s0_1 50 t110 t111 w0 _ ?side1 ?side2 A3.out).mono ?_
                                   (case side1 => repeat (first | (with_reducible first | exact HI0.out | apply IsS30.alloc | apply IsS30.drewN | apply IsS30.drew | apply IsS30.set_1 | refine IsS30.far ?_ NB0_109.out _ | refine IsS30.far ?_ NB0_124.out _) | exact HI0.out))
                                   (case side2 => repeat (first | (with_reducible first | exact HB.out | apply below_alloc | apply pw_below_drewN | apply below_drew1 | refine below_set ?_ (IsS30.ge HI0.out) | refine below_set ?_ GE109.out | refine below_set ?_ GE124.out) | exact HB.out))
                                   rintro e w16 ⟨rfl, hi, hb, hk⟩
                                   refine ⟨_, rfl, ?_⟩
                                   have n0_ := Aside0.mk (KeepBut.blk hk (g' := gb109) (o := .cells #[.int .i64 0, .int .i64 0, .int .i64 0, .int .i64 0, .int .i64 0, .int .i64 0] 26 (0, 0)) blkx NB109_0.out (by simp)); have n1_ := Aside0.mk (KeepBut.blk hk (g' := gb124) (o := .cells #[.int .i64 0, .int .i64 0, .int .i64 0, .int .i64 0, .int .i64 0, .int .i64 0] 26 (0, 0)) blkx NB124_0.out (by simp)); have n2_ := Aside0.mk (KeepBut.trans zPA2 hk (.inl rfl)); have n3_ := Aside0.mk (hb); have n4_ := Aside0.mk (hi); clear BK109; clear BK124; clear HK; clear HB; clear HI0; have BK109 := n0_; have BK124 := n1_; have HK := n2_; have HB := n3_; have HI0 := n4_; clear n0_ n1_ n2_ n3_ n4_
                                   (try clear hb)
                                   (try clear hb2)
                                   (try clear hk)
                                   (try clear hi)
                                   refine hK.out _ _ trivial (fun hHeld => ?_)
                                   clear hK K
                                   refine norm_ (a' := ?_) ?_ ?_
                                   rotate_left
                                   ·show Act.put _ (some 9) _ = _
                                    simp only [Act.put, List.setIfInBounds_toArray, List.set_cons_zero, List.set_cons_succ, i64_w, i32_w]
                                    rfl
                                   exact norm_ zPA0 (hJ3_18 (gb124) _ ⟨blkx, blkx, GW124.out, GE124.out, NB0_124.out, NB124_0.out, NB109_124.out, NB124_109.out, zPA4, zPA2, zPA3⟩)
                                  ·skip
                                   refine Kd.R_lit_step (Kd.int .i64) _ 3 ?hg (N := 10) ?hd (xs := ([1, 1, 1, 2, 3, 3, 4, 5, 5, 6, 7, 8, 9] : List Int)) (inner := [.int .i64 1, .int .i64 1, .int .i64 1, .int .i64 2, .int .i64 3, .int .i64 3, .int .i64 4, .int .i64 5, .int .i64 5, .int .i64 6, .int .i64 7, .int .i64 8, .int .i64 9]) (ok := fun _ => True) (okp := fun _ => True) ?hr ?hp (fun _ hk => hk) trivial (Below.refl _ _) (Nat.le_refl _) (by simp) ?_; (case hd => rfl); (case hg => rfl); (case hr => first | (go_simp; done) | (go_simp; rfl)); (case hp => exact (Reps.one (show Kd.M (Kd.int .i64) _ _ _ 1 [.int .i64 1] from rfl) (Reps.one (show Kd.M (Kd.int .i64) _ _ _ 1 [.int .i64 1] from rfl) (Reps.one (show Kd.M (Kd.int .i64) _ _ _ 1 [.int .i64 1] from rfl) (Reps.one (show Kd.M (Kd.int .i64) _ _ _ 2 [.int .i64 2] from rfl) (Reps.one (show Kd.M (Kd.int .i64) _ _ _ 3 [.int .i64 3] from rfl) (Reps.one (show Kd.M (Kd.int .i64) _ _ _ 3 [.int .i64 3] from rfl) (Reps.one (show Kd.M (Kd.int .i64) _ _ _ 4 [.int .i64 4] from rfl) (Reps.one (show Kd.M (Kd.int .i64) _ _ _ 5 [.int .i64 5] from rfl) (Reps.one (show Kd.M (Kd.int .i64) _ _ _ 5 [.int .i64 5] from rfl) (Reps.one (show Kd.M (Kd.int .i64) _ _ _ 6 [.int .i64 6] from rfl) (Reps.one (show Kd.M (Kd.int .i64) _ _ _ 7 [.int .i64 7] from rfl) (Reps.one (show Kd.M (Kd.int .i64) _ _ _ 8 [.int .i64 8] from rfl) (Reps.one (show Kd.M (Kd.int .i64) _ _ _ 9 [.int .i64 9] from rfl) (Reps.none _ _)))))))))))))))
                                   intro v113 w16 ho17 hb hg_ hnew_
                                   clear hg_ hnew_
                                   (first | rw [← Ny112.out] at ho17 | (simp only [Int.reduceToNat] at ho17; rw [← Ny112.out] at ho17))
                                   have n0_ := Aside0.mk (Kd.R_lower ho17 (keep_size (w := w) (g := g) (row := none) zPA2)); have n1_ := Aside0.mk (IsS30.below zPA4 hb); have n2_ := Aside0.mk (blk_below (g := gb109) (o := .cells #[.int .i64 0, .int .i64 0, .int .i64 0, .int .i64 0, .int .i64 0, .int .i64 0] 26 (0, 0)) blkx hb); have n3_ := Aside0.mk (blk_below (g := gb124) (o := .cells #[.int .i64 0, .int .i64 0, .int .i64 0, .int .i64 0, .int .i64 0, .int .i64 0] 26 (0, 0)) blkx hb); have n4_ := Aside0.mk (KeepBut.trans zPA2 (KeepBut.of_below hb g none) (.inl rfl)); have n5_ := Aside0.mk (below_step zPA3 hb); clear HI0; clear BK109; clear BK124; clear HK; clear HB; have HO114 := n0_; have HI0 := n1_; have BK109 := n2_; have BK124 := n3_; have HK := n4_; have HB := n5_; clear n0_ n1_ n2_ n3_ n4_ n5_; clear hb ho17; obtain ⟨Ao18, co18, eo18⟩ := Kd.R_slice HO114.out; subst eo18; obtain ⟨ado18, fo18, _⟩ := Kd.at_int (Kd.R_reads' HO114.out).2.2 0 (by decide) (by rw [Ny112.out]; simp)
                                   cases fo18
                                   refine hK.out _ _ trivial (fun hHeld => ?_)
                                   clear hK K
                                   refine norm_ (a' := ?_) ?_ ?_
                                   rotate_left
                                   ·show Act.put _ (some 10) _ = _
                                    simp only [Act.put, List.setIfInBounds_toArray, List.set_cons_zero, List.set_cons_succ, i64_w, i32_w]
                                    rfl
                                   exact norm_ zPA0 (hJ4_18 (.slice (some ado18) y112.length co18, ado18, gb124) _ ⟨(rowx HO114.out), ⟨_, rfl⟩, blkx, blkx, GW124.out, GE124.out, NB0_124.out, NB124_0.out, NB109_124.out, NB124_109.out, zPA4, zPA2, zPA3⟩)
                                ·skip
                                 rintro ⟨v113, adz_v113⟩ w17 ⟨h0_, h1_, h2_, h3_, h4_, h5_⟩
                                 have n0_ : Aside0 (Kd.R (Kd.int .i64) 3 w17 w.heap.size (fun _ => True) v113 y112) := ⟨h0_⟩; have n1_ : Aside0 (∃ c_, (v113 : Value) = .slice (some adz_v113) y112.length c_) := ⟨h1_⟩; have n2_ : Aside0 (w17.heap[gb109]? = some (.cells #[.int .i64 0, .int .i64 0, .int .i64 0, .int .i64 0, .int .i64 0, .int .i64 0] 26 (0, 0))) := ⟨h2_⟩; have n3_ : Aside0 (IsS30 w0 w17 g s0_0 s0_1) := ⟨h3_⟩; have n4_ : Aside0 (KeepBut w w17 g none) := ⟨h4_⟩; have n5_ : Aside0 (Below w0.heap.size w0 w17) := ⟨h5_⟩; clear BK109; clear HI0; clear HK; clear HB; clear h0_ h1_ h2_ h3_ h4_ h5_; have HO114 := n0_; have HA_HO114 := n1_; have BK109 := n2_; have HI0 := n3_; have HK := n4_; have HB := n5_; clear n0_ n1_ n2_ n3_ n4_ n5_; have hHeld := trivial; obtain ⟨co18, eo18⟩ := HA_HO114.out; clear HA_HO114; subst eo18
                                 refine norm_ (a' := ?_) ?_ ?_
                                 rotate_left
                                 ·simp only [putAll, Act.put, List.setIfInBounds_toArray, List.set_cons_zero, List.set_cons_succ]
                                  rfl
                                 refine two_ (i := 3) (j := 18) (Ni := some 9) (Nj := some 5) #[true, true, true, true, true, true, false, false, false, true, false, false, true, false, false, true, false, false, false, false] #[true, true, true, false, true, true, false, false, false, true, false, false, true, false, false, true, false, false, true, false] rfl rfl rfl rfl (two_of HT_.out (by kernel_rfl)) (by decide) (by decide) (fun K hK => ?_) (fun K hK => ?_)
                                 ·skip
                                  refine goes_ Try.func27 (by kernel_rfl) rfl #[.pointer (some ⟨g, 0, none⟩), .int .i64 50] (by rfl) rfl rfl argx ?_
                                  with_reducible refine (customsmade_Source_Next.calls g s0_0 s0_1 50 t110 t111 w0 _ ?side1 ?side2 A3.out).mono ?_
                                  (case side1 => repeat (first | (with_reducible first | exact HI0.out | apply IsS30.alloc | apply IsS30.drewN | apply IsS30.drew | apply IsS30.set_1 | refine IsS30.far ?_ NB0_109.out _) | exact HI0.out))
                                  (case side2 => repeat (first | (with_reducible first | exact HB.out | apply below_alloc | apply pw_below_drewN | apply below_drew1 | refine below_set ?_ (IsS30.ge HI0.out) | refine below_set ?_ GE109.out) | exact HB.out))
                                  rintro e w19 ⟨rfl, hi, hb, hk⟩
                                  refine ⟨_, rfl, ?_⟩
                                  have n0_ := Aside0.mk (KeepBut.blk hk (g' := gb109) (o := .cells #[.int .i64 0, .int .i64 0, .int .i64 0, .int .i64 0, .int .i64 0, .int .i64 0] 26 (0, 0)) blkx NB109_0.out (by simp))
                                  have n1_ := Aside0.mk (Kd.R_mono (Kd.R_keep (IsS30.apart (show IsS30 w0 _ g s0_0 s0_1 from by repeat (first | (with_reducible first | exact HI0.out | apply IsS30.alloc | apply IsS30.drewN | apply IsS30.drew | apply IsS30.set_1 | refine IsS30.far ?_ NB0_109.out _) | exact HI0.out)) (rowx HO114.out) (by decide)) hk (fun _ h => h.2)) (fun _ h => h.1))
                                  have n2_ := Aside0.mk (KeepBut.trans zPA1 hk (.inl rfl)); have n3_ := Aside0.mk (hb); have n4_ := Aside0.mk (hi); clear BK109; clear HO114; clear HK; clear HB; clear HI0; have BK109 := n0_; have HO114 := n1_; have HK := n2_; have HB := n3_; have HI0 := n4_; clear n0_ n1_ n2_ n3_ n4_
                                  (try clear hb)
                                  (try clear hb2)
                                  (try clear hk)
                                  (try clear hi)
                                  refine hK.out _ _ trivial (fun hHeld => ?_)
                                  clear hK K
                                  refine norm_ (a' := ?_) ?_ ?_
                                  rotate_left
                                  ·show Act.put _ (some 9) _ = _
                                   simp only [Act.put, List.setIfInBounds_toArray, List.set_cons_zero, List.set_cons_succ, i64_w, i32_w]
                                   rfl
                                  exact norm_ zPA0 (hJ3_4 (.slice (some adz_v113) y112.length co18, adz_v113) _ ⟨(rowx HO114.out), ⟨_, rfl⟩, blkx, zPA6, zPA1, zPA5⟩)
                                 ·skip
                                  refine box_step ?hg (N := 5) ?hd (cs := #[.int .i64 0, .int .i64 0, .int .i64 0, .int .i64 0, .int .i64 0, .int .i64 0]) (t := 26) ?hr ?_; (case hd => rfl); (case hg => rfl); (case hr => first | (go_simp; done) | (go_simp; rfl))
                                  intro gb124 hg w19 hbox hb
                                  have n0_ := Aside0.mk (Kd.R_below (rowx HO114.out) hb); have n1_ := Aside0.mk (IsS30.below zPA6 hb); have n2_ := Aside0.mk (blk_below (g := gb109) (o := .cells #[.int .i64 0, .int .i64 0, .int .i64 0, .int .i64 0, .int .i64 0, .int .i64 0] 26 (0, 0)) blkx hb); have n3_ := Aside0.mk (KeepBut.trans zPA1 (KeepBut.of_below hb g none) (.inl rfl)); have n4_ := Aside0.mk (below_step zPA5 hb); have n5_ := Aside0.mk (hbox); have n6_ := Aside0.mk ((by rw [hg]; exact (keep_size (w := w) (g := g) (row := none) zPA1) : w.heap.size ≤ gb124)); have n7_ := Aside0.mk ((Nat.le_trans HW0.out (by rw [hg]; exact (keep_size (w := w) (g := g) (row := none) zPA1) : w.heap.size ≤ gb124) : w0.heap.size ≤ gb124)); have n8_ := Aside0.mk ((by rw [hg]; exact Nat.ne_of_lt (blk_lt (g := gb109) (o := .cells #[.int .i64 0, .int .i64 0, .int .i64 0, .int .i64 0, .int .i64 0, .int .i64 0] 26 (0, 0)) blkx) : gb109 ≠ gb124)); have n9_ := Aside0.mk ((by rw [hg]; exact Nat.ne_of_gt (blk_lt (g := gb109) (o := .cells #[.int .i64 0, .int .i64 0, .int .i64 0, .int .i64 0, .int .i64 0, .int .i64 0] 26 (0, 0)) blkx) : gb124 ≠ gb109))
                                  have n10_ := Aside0.mk ((by rw [hg]; exact Nat.ne_of_lt (IsS30.lt (show IsS30 w0 _ g s0_0 s0_1 from by repeat (first | (with_reducible first | exact HI0.out | apply IsS30.alloc | apply IsS30.drewN | apply IsS30.drew | apply IsS30.set_1 | refine IsS30.far ?_ NB0_109.out _) | exact HI0.out))) : g ≠ gb124))
                                  have n11_ := Aside0.mk ((by rw [hg]; exact Nat.ne_of_gt (IsS30.lt (show IsS30 w0 _ g s0_0 s0_1 from by repeat (first | (with_reducible first | exact HI0.out | apply IsS30.alloc | apply IsS30.drewN | apply IsS30.drew | apply IsS30.set_1 | refine IsS30.far ?_ NB0_109.out _) | exact HI0.out))) : gb124 ≠ g))
                                  clear HO114; clear HI0; clear BK109; clear HK; clear HB; have HO114 := n0_; have HI0 := n1_; have BK109 := n2_; have HK := n3_; have HB := n4_; have BK124 := n5_; have GW124 := n6_; have GE124 := n7_; have NB109_124 := n8_; have NB124_109 := n9_; have NB0_124 := n10_; have NB124_0 := n11_; clear n0_ n1_ n2_ n3_ n4_ n5_ n6_ n7_ n8_ n9_ n10_ n11_; clear hb hbox hg
                                  refine hK.out _ _ trivial (fun hHeld => ?_)
                                  clear hK K
                                  refine norm_ (a' := ?_) ?_ ?_
                                  rotate_left
                                  ·show Act.put _ (some 5) _ = _
                                   simp only [Act.put, List.setIfInBounds_toArray, List.set_cons_zero, List.set_cons_succ, i64_w, i32_w]
                                   rfl
                                  exact norm_ zPA0 (hJ4_18 (.slice (some adz_v113) y112.length co18, adz_v113, gb124) _ ⟨(rowx HO114.out), ⟨_, rfl⟩, blkx, blkx, GW124.out, GE124.out, NB0_124.out, NB124_0.out, NB109_124.out, NB124_109.out, zPA4, zPA2, zPA3⟩)
                               ·skip
                                rintro _ w15 ⟨h0_, h1_, h2_, h3_⟩
                                have n0_ : Aside0 (w15.heap[gb109]? = some (.cells #[.int .i64 0, .int .i64 0, .int .i64 0, .int .i64 0, .int .i64 0, .int .i64 0] 26 (0, 0))) := ⟨h0_⟩; have n1_ : Aside0 (IsS30 w0 w15 g s0_0 t111) := ⟨h1_⟩; have n2_ : Aside0 (KeepBut w w15 g none) := ⟨h2_⟩; have n3_ : Aside0 (Below w0.heap.size w0 w15) := ⟨h3_⟩; clear BK109; clear HI0; clear HK; clear HB; clear h0_ h1_ h2_ h3_; have BK109 := n0_; have HI0 := n1_; have HK := n2_; have HB := n3_; clear n0_ n1_ n2_ n3_; have hHeld := trivial
                                refine norm_ (a' := ?_) ?_ ?_
                                rotate_left
                                ·simp only [putAll, Act.put, List.setIfInBounds_toArray, List.set_cons_zero, List.set_cons_succ]
                                 rfl
                                refine three_ (i := 4) (j := 6) (k := 18) (Ni := some 10) (Nj := some 12) (Nk := some 5) #[true, true, true, true, true, true, false, false, false, true, false, false, true, false, false, true, false, false, false, false] #[true, true, true, true, false, true, true, false, false, true, false, false, true, false, false, true, false, false, false, false] #[true, true, true, true, false, true, false, false, false, true, false, false, true, false, false, true, false, false, true, false] rfl rfl rfl rfl rfl rfl (three_of HT_.out (by kernel_rfl)) (by decide) (by decide) (by decide) (fun K hK => ?_) (fun K hK => ?_) (fun K hK => ?_)
                                ·skip
                                 refine Kd.R_lit_step (Kd.int .i64) _ 3 ?hg (N := 10) ?hd (xs := ([1, 1, 1, 2, 3, 3, 4, 5, 5, 6, 7, 8, 9] : List Int)) (inner := [.int .i64 1, .int .i64 1, .int .i64 1, .int .i64 2, .int .i64 3, .int .i64 3, .int .i64 4, .int .i64 5, .int .i64 5, .int .i64 6, .int .i64 7, .int .i64 8, .int .i64 9]) (ok := fun _ => True) (okp := fun _ => True) ?hr ?hp (fun _ hk => hk) trivial (Below.refl _ _) (Nat.le_refl _) (by simp) ?_; (case hd => rfl); (case hg => rfl); (case hr => first | (go_simp; done) | (go_simp; rfl)); (case hp => exact (Reps.one (show Kd.M (Kd.int .i64) _ _ _ 1 [.int .i64 1] from rfl) (Reps.one (show Kd.M (Kd.int .i64) _ _ _ 1 [.int .i64 1] from rfl) (Reps.one (show Kd.M (Kd.int .i64) _ _ _ 1 [.int .i64 1] from rfl) (Reps.one (show Kd.M (Kd.int .i64) _ _ _ 2 [.int .i64 2] from rfl) (Reps.one (show Kd.M (Kd.int .i64) _ _ _ 3 [.int .i64 3] from rfl) (Reps.one (show Kd.M (Kd.int .i64) _ _ _ 3 [.int .i64 3] from rfl) (Reps.one (show Kd.M (Kd.int .i64) _ _ _ 4 [.int .i64 4] from rfl) (Reps.one (show Kd.M (Kd.int .i64) _ _ _ 5 [.int .i64 5] from rfl) (Reps.one (show Kd.M (Kd.int .i64) _ _ _ 5 [.int .i64 5] from rfl) (Reps.one (show Kd.M (Kd.int .i64) _ _ _ 6 [.int .i64 6] from rfl) (Reps.one (show Kd.M (Kd.int .i64) _ _ _ 7 [.int .i64 7] from rfl) (Reps.one (show Kd.M (Kd.int .i64) _ _ _ 8 [.int .i64 8] from rfl) (Reps.one (show Kd.M (Kd.int .i64) _ _ _ 9 [.int .i64 9] from rfl) (Reps.none _ _)))))))))))))))
                                 intro v113 w16 ho17 hb hg_ hnew_
                                 clear hg_ hnew_
                                 (first | rw [← Ny112.out] at ho17 | (simp only [Int.reduceToNat] at ho17; rw [← Ny112.out] at ho17))
                                 have n0_ := Aside0.mk (Kd.R_lower ho17 (keep_size (w := w) (g := g) (row := none) zPA1)); have n1_ := Aside0.mk (IsS30.below zPA6 hb); have n2_ := Aside0.mk (blk_below (g := gb109) (o := .cells #[.int .i64 0, .int .i64 0, .int .i64 0, .int .i64 0, .int .i64 0, .int .i64 0] 26 (0, 0)) blkx hb); have n3_ := Aside0.mk (KeepBut.trans zPA1 (KeepBut.of_below hb g none) (.inl rfl)); have n4_ := Aside0.mk (below_step zPA5 hb); clear HI0; clear BK109; clear HK; clear HB; have HO114 := n0_; have HI0 := n1_; have BK109 := n2_; have HK := n3_; have HB := n4_; clear n0_ n1_ n2_ n3_ n4_; clear hb ho17; obtain ⟨Ao18, co18, eo18⟩ := Kd.R_slice HO114.out; subst eo18; obtain ⟨ado18, fo18, _⟩ := Kd.at_int (Kd.R_reads' HO114.out).2.2 0 (by decide) (by rw [Ny112.out]; simp)
                                 cases fo18
                                 refine hK.out _ _ trivial (fun hHeld => ?_)
                                 clear hK K
                                 refine norm_ (a' := ?_) ?_ ?_
                                 rotate_left
                                 ·show Act.put _ (some 10) _ = _
                                  simp only [Act.put, List.setIfInBounds_toArray, List.set_cons_zero, List.set_cons_succ, i64_w, i32_w]
                                  rfl
                                 exact norm_ zPA0 (hJ3_4 (.slice (some ado18) y112.length co18, ado18) _ ⟨(rowx HO114.out), ⟨_, rfl⟩, blkx, zPA6, zPA1, zPA5⟩)
                                ·skip
                                 refine goes_ Try.func27 (by kernel_rfl) rfl #[.pointer (some ⟨g, 0, none⟩), .int .i64 13] (by rfl) rfl rfl argx ?_
                                 with_reducible refine (customsmade_Source_Next.calls g s0_0 t111 13 t115 t116 w0 _ ?side1 ?side2 A4.out).mono ?_
                                 (case side1 => repeat (first | (with_reducible first | exact HI0.out | apply IsS30.alloc | apply IsS30.drewN | apply IsS30.drew | apply IsS30.set_1 | refine IsS30.far ?_ NB0_109.out _) | exact HI0.out))
                                 (case side2 => repeat (first | (with_reducible first | exact HB.out | apply below_alloc | apply pw_below_drewN | apply below_drew1 | refine below_set ?_ (IsS30.ge HI0.out) | refine below_set ?_ GE109.out) | exact HB.out))
                                 rintro e w16 ⟨rfl, hi, hb, hk⟩
                                 refine ⟨_, rfl, ?_⟩
                                 have n0_ := Aside0.mk (KeepBut.blk hk (g' := gb109) (o := .cells #[.int .i64 0, .int .i64 0, .int .i64 0, .int .i64 0, .int .i64 0, .int .i64 0] 26 (0, 0)) blkx NB109_0.out (by simp)); have n1_ := Aside0.mk (KeepBut.trans zPA1 hk (.inl rfl)); have n2_ := Aside0.mk (hb); have n3_ := Aside0.mk (hi); clear BK109; clear HK; clear HB; clear HI0; have BK109 := n0_; have HK := n1_; have HB := n2_; have HI0 := n3_; clear n0_ n1_ n2_ n3_
                                 (try clear hb)
                                 (try clear hb2)
                                 (try clear hk)
                                 (try clear hi)
                                 refine hK.out _ _ trivial (fun hHeld => ?_)
                                 clear hK K
                                 refine norm_ (a' := ?_) ?_ ?_
                                 rotate_left
                                 ·show Act.put _ (some 12) _ = _
                                  simp only [Act.put, List.setIfInBounds_toArray, List.set_cons_zero, List.set_cons_succ, i64_w, i32_w]
                                  rfl
                                 exact norm_ zPA0 (hJ3_6 () _ ⟨blkx, zPA6, zPA1, zPA5⟩)
                                ·skip
                                 refine box_step ?hg (N := 5) ?hd (cs := #[.int .i64 0, .int .i64 0, .int .i64 0, .int .i64 0, .int .i64 0, .int .i64 0]) (t := 26) ?hr ?_; (case hd => rfl); (case hg => rfl); (case hr => first | (go_simp; done) | (go_simp; rfl))
                                 intro gb124 hg w16 hbox hb
                                 have n0_ := Aside0.mk (IsS30.below zPA6 hb); have n1_ := Aside0.mk (blk_below (g := gb109) (o := .cells #[.int .i64 0, .int .i64 0, .int .i64 0, .int .i64 0, .int .i64 0, .int .i64 0] 26 (0, 0)) blkx hb); have n2_ := Aside0.mk (KeepBut.trans zPA1 (KeepBut.of_below hb g none) (.inl rfl)); have n3_ := Aside0.mk (below_step zPA5 hb); have n4_ := Aside0.mk (hbox); have n5_ := Aside0.mk ((by rw [hg]; exact (keep_size (w := w) (g := g) (row := none) zPA1) : w.heap.size ≤ gb124)); have n6_ := Aside0.mk ((Nat.le_trans HW0.out (by rw [hg]; exact (keep_size (w := w) (g := g) (row := none) zPA1) : w.heap.size ≤ gb124) : w0.heap.size ≤ gb124)); have n7_ := Aside0.mk ((by rw [hg]; exact Nat.ne_of_lt (blk_lt (g := gb109) (o := .cells #[.int .i64 0, .int .i64 0, .int .i64 0, .int .i64 0, .int .i64 0, .int .i64 0] 26 (0, 0)) blkx) : gb109 ≠ gb124)); have n8_ := Aside0.mk ((by rw [hg]; exact Nat.ne_of_gt (blk_lt (g := gb109) (o := .cells #[.int .i64 0, .int .i64 0, .int .i64 0, .int .i64 0, .int .i64 0, .int .i64 0] 26 (0, 0)) blkx) : gb124 ≠ gb109))
                                 have n9_ := Aside0.mk ((by rw [hg]; exact Nat.ne_of_lt (IsS30.lt (show IsS30 w0 _ g s0_0 t111 from by repeat (first | (with_reducible first | exact HI0.out | apply IsS30.alloc | apply IsS30.drewN | apply IsS30.drew | apply IsS30.set_1 | refine IsS30.far ?_ NB0_109.out _) | exact HI0.out))) : g ≠ gb124))
                                 have n10_ := Aside0.mk ((by rw [hg]; exact Nat.ne_of_gt (IsS30.lt (show IsS30 w0 _ g s0_0 t111 from by repeat (first | (with_reducible first | exact HI0.out | apply IsS30.alloc | apply IsS30.drewN | apply IsS30.drew | apply IsS30.set_1 | refine IsS30.far ?_ NB0_109.out _) | exact HI0.out))) : gb124 ≠ g))
                                 clear HI0; clear BK109; clear HK; clear HB; have HI0 := n0_; have BK109 := n1_; have HK := n2_; have HB := n3_; have BK124 := n4_; have GW124 := n5_; have GE124 := n6_; have NB109_124 := n7_; have NB124_109 := n8_; have NB0_124 := n9_; have NB124_0 := n10_; clear n0_ n1_ n2_ n3_ n4_ n5_ n6_ n7_ n8_ n9_ n10_; clear hb hbox hg
                                 refine hK.out _ _ trivial (fun hHeld => ?_)
                                 clear hK K
                                 refine norm_ (a' := ?_) ?_ ?_
                                 rotate_left
                                 ·show Act.put _ (some 5) _ = _
                                  simp only [Act.put, List.setIfInBounds_toArray, List.set_cons_zero, List.set_cons_succ, i64_w, i32_w]
                                  rfl
                                 exact norm_ zPA0 (hJ3_18 (gb124) _ ⟨blkx, blkx, GW124.out, GE124.out, NB0_124.out, NB124_0.out, NB109_124.out, NB124_109.out, zPA4, zPA2, zPA3⟩)
                              ·skip
                               rintro ⟨v113, adz_v113, gb124⟩ w18 ⟨h0_, h1_, h2_, h3_, h4_, h5_, h6_, h7_, h8_, h9_, h10_, h11_, h12_⟩
                               have n0_ : Aside0 (Kd.R (Kd.int .i64) 3 w18 w.heap.size (fun _ => True) v113 y112) := ⟨h0_⟩; have n1_ : Aside0 (∃ c_, (v113 : Value) = .slice (some adz_v113) y112.length c_) := ⟨h1_⟩; have n2_ : Aside0 (w18.heap[gb109]? = some (.cells #[.int .i64 0, .int .i64 0, .int .i64 0, .int .i64 0, .int .i64 0, .int .i64 0] 26 (0, 0))) := ⟨h2_⟩; have n3_ : Aside0 (w18.heap[gb124]? = some (.cells #[.int .i64 0, .int .i64 0, .int .i64 0, .int .i64 0, .int .i64 0, .int .i64 0] 26 (0, 0))) := ⟨h3_⟩; have n4_ : Aside0 (w.heap.size ≤ gb124) := ⟨h4_⟩; have n5_ : Aside0 (w0.heap.size ≤ gb124) := ⟨h5_⟩; have n6_ : Aside0 (g ≠ gb124) := ⟨h6_⟩; have n7_ : Aside0 (gb124 ≠ g) := ⟨h7_⟩; have n8_ : Aside0 (gb109 ≠ gb124) := ⟨h8_⟩; have n9_ : Aside0 (gb124 ≠ gb109) := ⟨h9_⟩; have n10_ : Aside0 (IsS30 w0 w18 g s0_0 s0_1) := ⟨h10_⟩; have n11_ : Aside0 (KeepBut w w18 g none) := ⟨h11_⟩; have n12_ : Aside0 (Below w0.heap.size w0 w18) := ⟨h12_⟩; clear BK109; clear HI0; clear HK; clear HB; clear h0_ h1_ h2_ h3_ h4_ h5_ h6_ h7_ h8_ h9_ h10_ h11_ h12_; have HO114 := n0_; have HA_HO114 := n1_; have BK109 := n2_; have BK124 := n3_; have GW124 := n4_; have GE124 := n5_; have NB0_124 := n6_; have NB124_0 := n7_; have NB109_124 := n8_; have NB124_109 := n9_; have HI0 := n10_; have HK := n11_; have HB := n12_; clear n0_ n1_ n2_ n3_ n4_ n5_ n6_ n7_ n8_ n9_ n10_ n11_ n12_; have hHeld := trivial; obtain ⟨co19, eo19⟩ := HA_HO114.out; clear HA_HO114; subst eo19
                               refine norm_ (a' := ?_) ?_ ?_
                               rotate_left
                               ·simp only [putAll, Act.put, List.setIfInBounds_toArray, List.set_cons_zero, List.set_cons_succ]
                                rfl
                               refine one_ (i := 3) (N := some 9) #[true, true, true, true, true, true, false, false, false, true, false, false, true, false, false, true, false, false, true, false] rfl rfl (one_of HT_.out (by kernel_rfl)) (by decide) (fun K hK => ?_)
                               refine goes_ Try.func27 (by kernel_rfl) rfl #[.pointer (some ⟨g, 0, none⟩), .int .i64 50] (by rfl) rfl rfl argx ?_
                               with_reducible refine (customsmade_Source_Next.calls g s0_0 s0_1 50 t110 t111 w0 _ ?side1 ?side2 A3.out).mono ?_
                               (case side1 => repeat (first | (with_reducible first | exact HI0.out | apply IsS30.alloc | apply IsS30.drewN | apply IsS30.drew | apply IsS30.set_1 | refine IsS30.far ?_ NB0_109.out _ | refine IsS30.far ?_ NB0_124.out _) | exact HI0.out))
                               (case side2 => repeat (first | (with_reducible first | exact HB.out | apply below_alloc | apply pw_below_drewN | apply below_drew1 | refine below_set ?_ (IsS30.ge HI0.out) | refine below_set ?_ GE109.out | refine below_set ?_ GE124.out) | exact HB.out))
                               rintro e w20 ⟨rfl, hi, hb, hk⟩
                               refine ⟨_, rfl, ?_⟩
                               have n0_ := Aside0.mk (KeepBut.blk hk (g' := gb109) (o := .cells #[.int .i64 0, .int .i64 0, .int .i64 0, .int .i64 0, .int .i64 0, .int .i64 0] 26 (0, 0)) blkx NB109_0.out (by simp))
                               have n1_ := Aside0.mk (Kd.R_mono (Kd.R_keep (IsS30.apart (show IsS30 w0 _ g s0_0 s0_1 from by repeat (first | (with_reducible first | exact HI0.out | apply IsS30.alloc | apply IsS30.drewN | apply IsS30.drew | apply IsS30.set_1 | refine IsS30.far ?_ NB0_109.out _ | refine IsS30.far ?_ NB0_124.out _) | exact HI0.out)) (rowx HO114.out) (by decide)) hk (fun _ h => h.2)) (fun _ h => h.1))
                               have n2_ := Aside0.mk (KeepBut.blk hk (g' := gb124) (o := .cells #[.int .i64 0, .int .i64 0, .int .i64 0, .int .i64 0, .int .i64 0, .int .i64 0] 26 (0, 0)) blkx NB124_0.out (by simp)); have n3_ := Aside0.mk (KeepBut.trans zPA2 hk (.inl rfl)); have n4_ := Aside0.mk (hb); have n5_ := Aside0.mk (hi); clear BK109; clear HO114; clear BK124; clear HK; clear HB; clear HI0; have BK109 := n0_; have HO114 := n1_; have BK124 := n2_; have HK := n3_; have HB := n4_; have HI0 := n5_; clear n0_ n1_ n2_ n3_ n4_ n5_
                               (try clear hb)
                               (try clear hb2)
                               (try clear hk)
                               (try clear hi)
                               refine hK.out _ _ trivial (fun hHeld => ?_)
                               clear hK K
                               refine norm_ (a' := ?_) ?_ ?_
                               rotate_left
                               ·show Act.put _ (some 9) _ = _
                                simp only [Act.put, List.setIfInBounds_toArray, List.set_cons_zero, List.set_cons_succ, i64_w, i32_w]
                                rfl
                               exact norm_ zPA0 (hJ3_4_18 (.slice (some adz_v113) y112.length co19, adz_v113, gb124) _ ⟨(rowx HO114.out), ⟨_, rfl⟩, blkx, blkx, GW124.out, GE124.out, NB0_124.out, NB124_0.out, NB109_124.out, NB124_109.out, zPA4, zPA2, zPA3⟩)
                             ·skip
                              rintro gb124 w16 ⟨h0_, h1_, h2_, h3_, h4_, h5_, h6_, h7_, h8_, h9_, h10_⟩
                              have n0_ : Aside0 (w16.heap[gb109]? = some (.cells #[.int .i64 0, .int .i64 0, .int .i64 0, .int .i64 0, .int .i64 0, .int .i64 0] 26 (0, 0))) := ⟨h0_⟩; have n1_ : Aside0 (w16.heap[gb124]? = some (.cells #[.int .i64 0, .int .i64 0, .int .i64 0, .int .i64 0, .int .i64 0, .int .i64 0] 26 (0, 0))) := ⟨h1_⟩; have n2_ : Aside0 (w.heap.size ≤ gb124) := ⟨h2_⟩; have n3_ : Aside0 (w0.heap.size ≤ gb124) := ⟨h3_⟩; have n4_ : Aside0 (g ≠ gb124) := ⟨h4_⟩; have n5_ : Aside0 (gb124 ≠ g) := ⟨h5_⟩; have n6_ : Aside0 (gb109 ≠ gb124) := ⟨h6_⟩; have n7_ : Aside0 (gb124 ≠ gb109) := ⟨h7_⟩; have n8_ : Aside0 (IsS30 w0 w16 g s0_0 t111) := ⟨h8_⟩; have n9_ : Aside0 (KeepBut w w16 g none) := ⟨h9_⟩; have n10_ : Aside0 (Below w0.heap.size w0 w16) := ⟨h10_⟩; clear BK109; clear HI0; clear HK; clear HB; clear h0_ h1_ h2_ h3_ h4_ h5_ h6_ h7_ h8_ h9_ h10_; have BK109 := n0_; have BK124 := n1_; have GW124 := n2_; have GE124 := n3_; have NB0_124 := n4_; have NB124_0 := n5_; have NB109_124 := n6_; have NB124_109 := n7_; have HI0 := n8_; have HK := n9_; have HB := n10_; clear n0_ n1_ n2_ n3_ n4_ n5_ n6_ n7_ n8_ n9_ n10_; have hHeld := trivial
                              refine norm_ (a' := ?_) ?_ ?_
                              rotate_left
                              ·simp only [putAll, Act.put, List.setIfInBounds_toArray, List.set_cons_zero, List.set_cons_succ]
                               rfl
                              refine two_ (i := 4) (j := 6) (Ni := some 10) (Nj := some 12) #[true, true, true, true, true, true, false, false, false, true, false, false, true, false, false, true, false, false, true, false] #[true, true, true, true, false, true, true, false, false, true, false, false, true, false, false, true, false, false, true, false] rfl rfl rfl rfl (two_of HT_.out (by kernel_rfl)) (by decide) (by decide) (fun K hK => ?_) (fun K hK => ?_)
                              ·skip
                               refine Kd.R_lit_step (Kd.int .i64) _ 3 ?hg (N := 10) ?hd (xs := ([1, 1, 1, 2, 3, 3, 4, 5, 5, 6, 7, 8, 9] : List Int)) (inner := [.int .i64 1, .int .i64 1, .int .i64 1, .int .i64 2, .int .i64 3, .int .i64 3, .int .i64 4, .int .i64 5, .int .i64 5, .int .i64 6, .int .i64 7, .int .i64 8, .int .i64 9]) (ok := fun _ => True) (okp := fun _ => True) ?hr ?hp (fun _ hk => hk) trivial (Below.refl _ _) (Nat.le_refl _) (by simp) ?_; (case hd => rfl); (case hg => rfl); (case hr => first | (go_simp; done) | (go_simp; rfl)); (case hp => exact (Reps.one (show Kd.M (Kd.int .i64) _ _ _ 1 [.int .i64 1] from rfl) (Reps.one (show Kd.M (Kd.int .i64) _ _ _ 1 [.int .i64 1] from rfl) (Reps.one (show Kd.M (Kd.int .i64) _ _ _ 1 [.int .i64 1] from rfl) (Reps.one (show Kd.M (Kd.int .i64) _ _ _ 2 [.int .i64 2] from rfl) (Reps.one (show Kd.M (Kd.int .i64) _ _ _ 3 [.int .i64 3] from rfl) (Reps.one (show Kd.M (Kd.int .i64) _ _ _ 3 [.int .i64 3] from rfl) (Reps.one (show Kd.M (Kd.int .i64) _ _ _ 4 [.int .i64 4] from rfl) (Reps.one (show Kd.M (Kd.int .i64) _ _ _ 5 [.int .i64 5] from rfl) (Reps.one (show Kd.M (Kd.int .i64) _ _ _ 5 [.int .i64 5] from rfl) (Reps.one (show Kd.M (Kd.int .i64) _ _ _ 6 [.int .i64 6] from rfl) (Reps.one (show Kd.M (Kd.int .i64) _ _ _ 7 [.int .i64 7] from rfl) (Reps.one (show Kd.M (Kd.int .i64) _ _ _ 8 [.int .i64 8] from rfl) (Reps.one (show Kd.M (Kd.int .i64) _ _ _ 9 [.int .i64 9] from rfl) (Reps.none _ _)))))))))))))))
                               intro v113 w17 ho18 hb hg_ hnew_
                               clear hg_ hnew_
                               (first | rw [← Ny112.out] at ho18 | (simp only [Int.reduceToNat] at ho18; rw [← Ny112.out] at ho18))
                               have n0_ := Aside0.mk (Kd.R_lower ho18 (keep_size (w := w) (g := g) (row := none) zPA2)); have n1_ := Aside0.mk (IsS30.below zPA4 hb); have n2_ := Aside0.mk (blk_below (g := gb109) (o := .cells #[.int .i64 0, .int .i64 0, .int .i64 0, .int .i64 0, .int .i64 0, .int .i64 0] 26 (0, 0)) blkx hb); have n3_ := Aside0.mk (blk_below (g := gb124) (o := .cells #[.int .i64 0, .int .i64 0, .int .i64 0, .int .i64 0, .int .i64 0, .int .i64 0] 26 (0, 0)) blkx hb); have n4_ := Aside0.mk (KeepBut.trans zPA2 (KeepBut.of_below hb g none) (.inl rfl)); have n5_ := Aside0.mk (below_step zPA3 hb); clear HI0; clear BK109; clear BK124; clear HK; clear HB; have HO114 := n0_; have HI0 := n1_; have BK109 := n2_; have BK124 := n3_; have HK := n4_; have HB := n5_; clear n0_ n1_ n2_ n3_ n4_ n5_; clear hb ho18; obtain ⟨Ao19, co19, eo19⟩ := Kd.R_slice HO114.out; subst eo19; obtain ⟨ado19, fo19, _⟩ := Kd.at_int (Kd.R_reads' HO114.out).2.2 0 (by decide) (by rw [Ny112.out]; simp)
                               cases fo19
                               refine hK.out _ _ trivial (fun hHeld => ?_)
                               clear hK K
                               refine norm_ (a' := ?_) ?_ ?_
                               rotate_left
                               ·show Act.put _ (some 10) _ = _
                                simp only [Act.put, List.setIfInBounds_toArray, List.set_cons_zero, List.set_cons_succ, i64_w, i32_w]
                                rfl
                               exact norm_ zPA0 (hJ3_4_18 (.slice (some ado19) y112.length co19, ado19, gb124) _ ⟨(rowx HO114.out), ⟨_, rfl⟩, blkx, blkx, GW124.out, GE124.out, NB0_124.out, NB124_0.out, NB109_124.out, NB124_109.out, zPA4, zPA2, zPA3⟩)
                              ·skip
                               refine goes_ Try.func27 (by kernel_rfl) rfl #[.pointer (some ⟨g, 0, none⟩), .int .i64 13] (by rfl) rfl rfl argx ?_
                               with_reducible refine (customsmade_Source_Next.calls g s0_0 t111 13 t115 t116 w0 _ ?side1 ?side2 A4.out).mono ?_
                               (case side1 => repeat (first | (with_reducible first | exact HI0.out | apply IsS30.alloc | apply IsS30.drewN | apply IsS30.drew | apply IsS30.set_1 | refine IsS30.far ?_ NB0_109.out _ | refine IsS30.far ?_ NB0_124.out _) | exact HI0.out))
                               (case side2 => repeat (first | (with_reducible first | exact HB.out | apply below_alloc | apply pw_below_drewN | apply below_drew1 | refine below_set ?_ (IsS30.ge HI0.out) | refine below_set ?_ GE109.out | refine below_set ?_ GE124.out) | exact HB.out))
                               rintro e w17 ⟨rfl, hi, hb, hk⟩
                               refine ⟨_, rfl, ?_⟩
                               have n0_ := Aside0.mk (KeepBut.blk hk (g' := gb109) (o := .cells #[.int .i64 0, .int .i64 0, .int .i64 0, .int .i64 0, .int .i64 0, .int .i64 0] 26 (0, 0)) blkx NB109_0.out (by simp)); have n1_ := Aside0.mk (KeepBut.blk hk (g' := gb124) (o := .cells #[.int .i64 0, .int .i64 0, .int .i64 0, .int .i64 0, .int .i64 0, .int .i64 0] 26 (0, 0)) blkx NB124_0.out (by simp)); have n2_ := Aside0.mk (KeepBut.trans zPA2 hk (.inl rfl)); have n3_ := Aside0.mk (hb); have n4_ := Aside0.mk (hi); clear BK109; clear BK124; clear HK; clear HB; clear HI0; have BK109 := n0_; have BK124 := n1_; have HK := n2_; have HB := n3_; have HI0 := n4_; clear n0_ n1_ n2_ n3_ n4_
                               (try clear hb)
                               (try clear hb2)
                               (try clear hk)
                               (try clear hi)
                               refine hK.out _ _ trivial (fun hHeld => ?_)
                               clear hK K
                               refine norm_ (a' := ?_) ?_ ?_
                               rotate_left
                               ·show Act.put _ (some 12) _ = _
                                simp only [Act.put, List.setIfInBounds_toArray, List.set_cons_zero, List.set_cons_succ, i64_w, i32_w]
                                rfl
                               exact norm_ zPA0 (hJ3_6_18 (gb124) _ ⟨blkx, blkx, GW124.out, GE124.out, NB0_124.out, NB124_0.out, NB109_124.out, NB124_109.out, zPA4, zPA2, zPA3⟩)
                            ·skip
                             rintro _ w16 ⟨h0_, h1_, h2_, h3_⟩
                             have n0_ : Aside0 (w16.heap[gb109]? = some (.cells #[.int .i64 0, .int .i64 0, .int .i64 0, .int .i64 0, .int .i64 0, .int .i64 0] 26 (0, 0))) := ⟨h0_⟩; have n1_ : Aside0 (IsS30 w0 w16 g s0_0 t116) := ⟨h1_⟩; have n2_ : Aside0 (KeepBut w w16 g none) := ⟨h2_⟩; have n3_ : Aside0 (Below w0.heap.size w0 w16) := ⟨h3_⟩; clear BK109; clear HI0; clear HK; clear HB; clear h0_ h1_ h2_ h3_; have BK109 := n0_; have HI0 := n1_; have HK := n2_; have HB := n3_; clear n0_ n1_ n2_ n3_; have hHeld := trivial
                             refine norm_ (a' := ?_) ?_ ?_
                             rotate_left
                             ·simp only [putAll, Act.put, List.setIfInBounds_toArray, List.set_cons_zero, List.set_cons_succ]
                              rfl
                             refine three_ (i := 4) (j := 10) (k := 18) (Ni := some 10) (Nj := some 16) (Nk := some 5) #[true, true, true, true, true, true, true, false, false, true, false, false, true, false, false, true, false, false, false, false] #[true, true, true, true, false, true, true, false, false, true, true, false, true, false, false, true, false, false, false, false] #[true, true, true, true, false, true, true, false, false, true, false, false, true, false, false, true, false, false, true, false] rfl rfl rfl rfl rfl rfl (three_of HT_.out (by kernel_rfl)) (by decide) (by decide) (by decide) (fun K hK => ?_) (fun K hK => ?_) (fun K hK => ?_)
                             ·skip
                              refine Kd.R_lit_step (Kd.int .i64) _ 3 ?hg (N := 10) ?hd (xs := ([1, 1, 1, 2, 3, 3, 4, 5, 5, 6, 7, 8, 9] : List Int)) (inner := [.int .i64 1, .int .i64 1, .int .i64 1, .int .i64 2, .int .i64 3, .int .i64 3, .int .i64 4, .int .i64 5, .int .i64 5, .int .i64 6, .int .i64 7, .int .i64 8, .int .i64 9]) (ok := fun _ => True) (okp := fun _ => True) ?hr ?hp (fun _ hk => hk) trivial (Below.refl _ _) (Nat.le_refl _) (by simp) ?_; (case hd => rfl); (case hg => rfl); (case hr => first | (go_simp; done) | (go_simp; rfl)); (case hp => exact (Reps.one (show Kd.M (Kd.int .i64) _ _ _ 1 [.int .i64 1] from rfl) (Reps.one (show Kd.M (Kd.int .i64) _ _ _ 1 [.int .i64 1] from rfl) (Reps.one (show Kd.M (Kd.int .i64) _ _ _ 1 [.int .i64 1] from rfl) (Reps.one (show Kd.M (Kd.int .i64) _ _ _ 2 [.int .i64 2] from rfl) (Reps.one (show Kd.M (Kd.int .i64) _ _ _ 3 [.int .i64 3] from rfl) (Reps.one (show Kd.M (Kd.int .i64) _ _ _ 3 [.int .i64 3] from rfl) (Reps.one (show Kd.M (Kd.int .i64) _ _ _ 4 [.int .i64 4] from rfl) (Reps.one (show Kd.M (Kd.int .i64) _ _ _ 5 [.int .i64 5] from rfl) (Reps.one (show Kd.M (Kd.int .i64) _ _ _ 5 [.int .i64 5] from rfl) (Reps.one (show Kd.M (Kd.int .i64) _ _ _ 6 [.int .i64 6] from rfl) (Reps.one (show Kd.M (Kd.int .i64) _ _ _ 7 [.int .i64 7] from rfl) (Reps.one (show Kd.M (Kd.int .i64) _ _ _ 8 [.int .i64 8] from rfl) (Reps.one (show Kd.M (Kd.int .i64) _ _ _ 9 [.int .i64 9] from rfl) (Reps.none _ _)))))))))))))))
                              intro v113 w17 ho18 hb hg_ hnew_
                              clear hg_ hnew_
                              (first | rw [← Ny112.out] at ho18 | (simp only [Int.reduceToNat] at ho18; rw [← Ny112.out] at ho18))
                              have n0_ := Aside0.mk (Kd.R_lower ho18 (keep_size (w := w) (g := g) (row := none) zPA1)); have n1_ := Aside0.mk (IsS30.below zPA6 hb); have n2_ := Aside0.mk (blk_below (g := gb109) (o := .cells #[.int .i64 0, .int .i64 0, .int .i64 0, .int .i64 0, .int .i64 0, .int .i64 0] 26 (0, 0)) blkx hb); have n3_ := Aside0.mk (KeepBut.trans zPA1 (KeepBut.of_below hb g none) (.inl rfl)); have n4_ := Aside0.mk (below_step zPA5 hb); clear HI0; clear BK109; clear HK; clear HB; have HO114 := n0_; have HI0 := n1_; have BK109 := n2_; have HK := n3_; have HB := n4_; clear n0_ n1_ n2_ n3_ n4_; clear hb ho18; obtain ⟨Ao19, co19, eo19⟩ := Kd.R_slice HO114.out; subst eo19; obtain ⟨ado19, fo19, _⟩ := Kd.at_int (Kd.R_reads' HO114.out).2.2 0 (by decide) (by rw [Ny112.out]; simp)
                              cases fo19
                              refine hK.out _ _ trivial (fun hHeld => ?_)
                              clear hK K
                              refine norm_ (a' := ?_) ?_ ?_
                              rotate_left
                              ·show Act.put _ (some 10) _ = _
                               simp only [Act.put, List.setIfInBounds_toArray, List.set_cons_zero, List.set_cons_succ, i64_w, i32_w]
                               rfl
                              refine pure_ (i := 7) (N := some 13) (v := ?_) (a' := ?_) #[true, true, true, true, true, true, true, true, false, true, false, false, true, false, false, true, false, false, false, false] rfl rfl (any_of HT_.out (by kernel_rfl)) (fun _ _ _ h => h) (Or.inl ⟨by rfl, ?_⟩) ?_ ?_
                              rotate_left
                              ·intro w'
                               go_simp
                               with_reducible rfl
                              rotate_left
                              ·simp only [Act.put, List.setIfInBounds_toArray, List.set_cons_zero, List.set_cons_succ, i64_w, i32_w]
                               rfl
                              exact norm_ zPA0 (hJ3_4_6 (.slice (some ado19) y112.length co19, ado19) _ ⟨(rowx HO114.out), ⟨_, rfl⟩, blkx, zPA6, zPA1, zPA5⟩)
                             ·skip
                              refine goes_ Try.func27 (by kernel_rfl) rfl #[.pointer (some ⟨g, 0, none⟩), .int .i64 4] (by rfl) rfl rfl argx ?_
                              with_reducible refine (customsmade_Source_Next.calls g s0_0 t116 4 t118 t119 w0 _ ?side1 ?side2 A7.out).mono ?_
                              (case side1 => repeat (first | (with_reducible first | exact HI0.out | apply IsS30.alloc | apply IsS30.drewN | apply IsS30.drew | apply IsS30.set_1 | refine IsS30.far ?_ NB0_109.out _) | exact HI0.out))
                              (case side2 => repeat (first | (with_reducible first | exact HB.out | apply below_alloc | apply pw_below_drewN | apply below_drew1 | refine below_set ?_ (IsS30.ge HI0.out) | refine below_set ?_ GE109.out) | exact HB.out))
                              rintro e w17 ⟨rfl, hi, hb, hk⟩
                              refine ⟨_, rfl, ?_⟩
                              have n0_ := Aside0.mk (KeepBut.blk hk (g' := gb109) (o := .cells #[.int .i64 0, .int .i64 0, .int .i64 0, .int .i64 0, .int .i64 0, .int .i64 0] 26 (0, 0)) blkx NB109_0.out (by simp)); have n1_ := Aside0.mk (KeepBut.trans zPA1 hk (.inl rfl)); have n2_ := Aside0.mk (hb); have n3_ := Aside0.mk (hi); clear BK109; clear HK; clear HB; clear HI0; have BK109 := n0_; have HK := n1_; have HB := n2_; have HI0 := n3_; clear n0_ n1_ n2_ n3_
                              (try clear hb)
                              (try clear hb2)
                              (try clear hk)
                              (try clear hi)
                              refine hK.out _ _ trivial (fun hHeld => ?_)
                              clear hK K
                              refine norm_ (a' := ?_) ?_ ?_
                              rotate_left
                              ·show Act.put _ (some 16) _ = _
                               simp only [Act.put, List.setIfInBounds_toArray, List.set_cons_zero, List.set_cons_succ, i64_w, i32_w]
                               rfl
                              refine pure_ (i := 11) (N := some 17) (v := ?_) (a' := ?_) #[true, true, true, true, false, true, true, false, false, true, true, true, true, false, false, true, false, false, false, false] rfl rfl (any_of HT_.out (by kernel_rfl)) (fun _ _ _ h => h) (Or.inl ⟨by rfl, ?_⟩) ?_ ?_
                              rotate_left
                              ·intro w'
                               go_simp
                               with_reducible rfl
                              rotate_left
                              ·simp only [Act.put, List.setIfInBounds_toArray, List.set_cons_zero, List.set_cons_succ, i64_w, i32_w]
                               rfl
                              exact norm_ zPA0 (hJ3_6_10 () _ ⟨blkx, zPA6, zPA1, zPA5⟩)
                             ·skip
                              refine box_step ?hg (N := 5) ?hd (cs := #[.int .i64 0, .int .i64 0, .int .i64 0, .int .i64 0, .int .i64 0, .int .i64 0]) (t := 26) ?hr ?_; (case hd => rfl); (case hg => rfl); (case hr => first | (go_simp; done) | (go_simp; rfl))
                              intro gb124 hg w17 hbox hb
                              have n0_ := Aside0.mk (IsS30.below zPA6 hb); have n1_ := Aside0.mk (blk_below (g := gb109) (o := .cells #[.int .i64 0, .int .i64 0, .int .i64 0, .int .i64 0, .int .i64 0, .int .i64 0] 26 (0, 0)) blkx hb); have n2_ := Aside0.mk (KeepBut.trans zPA1 (KeepBut.of_below hb g none) (.inl rfl)); have n3_ := Aside0.mk (below_step zPA5 hb); have n4_ := Aside0.mk (hbox); have n5_ := Aside0.mk ((by rw [hg]; exact (keep_size (w := w) (g := g) (row := none) zPA1) : w.heap.size ≤ gb124)); have n6_ := Aside0.mk ((Nat.le_trans HW0.out (by rw [hg]; exact (keep_size (w := w) (g := g) (row := none) zPA1) : w.heap.size ≤ gb124) : w0.heap.size ≤ gb124)); have n7_ := Aside0.mk ((by rw [hg]; exact Nat.ne_of_lt (blk_lt (g := gb109) (o := .cells #[.int .i64 0, .int .i64 0, .int .i64 0, .int .i64 0, .int .i64 0, .int .i64 0] 26 (0, 0)) blkx) : gb109 ≠ gb124)); have n8_ := Aside0.mk ((by rw [hg]; exact Nat.ne_of_gt (blk_lt (g := gb109) (o := .cells #[.int .i64 0, .int .i64 0, .int .i64 0, .int .i64 0, .int .i64 0, .int .i64 0] 26 (0, 0)) blkx) : gb124 ≠ gb109))
                              have n9_ := Aside0.mk ((by rw [hg]; exact Nat.ne_of_lt (IsS30.lt (show IsS30 w0 _ g s0_0 t116 from by repeat (first | (with_reducible first | exact HI0.out | apply IsS30.alloc | apply IsS30.drewN | apply IsS30.drew | apply IsS30.set_1 | refine IsS30.far ?_ NB0_109.out _) | exact HI0.out))) : g ≠ gb124))
                              have n10_ := Aside0.mk ((by rw [hg]; exact Nat.ne_of_gt (IsS30.lt (show IsS30 w0 _ g s0_0 t116 from by repeat (first | (with_reducible first | exact HI0.out | apply IsS30.alloc | apply IsS30.drewN | apply IsS30.drew | apply IsS30.set_1 | refine IsS30.far ?_ NB0_109.out _) | exact HI0.out))) : gb124 ≠ g))
                              clear HI0; clear BK109; clear HK; clear HB; have HI0 := n0_; have BK109 := n1_; have HK := n2_; have HB := n3_; have BK124 := n4_; have GW124 := n5_; have GE124 := n6_; have NB109_124 := n7_; have NB124_109 := n8_; have NB0_124 := n9_; have NB124_0 := n10_; clear n0_ n1_ n2_ n3_ n4_ n5_ n6_ n7_ n8_ n9_ n10_; clear hb hbox hg
                              refine hK.out _ _ trivial (fun hHeld => ?_)
                              clear hK K
                              refine norm_ (a' := ?_) ?_ ?_
                              rotate_left
                              ·show Act.put _ (some 5) _ = _
                               simp only [Act.put, List.setIfInBounds_toArray, List.set_cons_zero, List.set_cons_succ, i64_w, i32_w]
                               rfl
                              exact norm_ zPA0 (hJ3_6_18 (gb124) _ ⟨blkx, blkx, GW124.out, GE124.out, NB0_124.out, NB124_0.out, NB109_124.out, NB124_109.out, zPA4, zPA2, zPA3⟩)
                           ·skip
                            rintro ⟨v113, adz_v113⟩ w18 ⟨h0_, h1_, h2_, h3_, h4_, h5_⟩
                            have n0_ : Aside0 (Kd.R (Kd.int .i64) 3 w18 w.heap.size (fun _ => True) v113 y112) := ⟨h0_⟩; have n1_ : Aside0 (∃ c_, (v113 : Value) = .slice (some adz_v113) y112.length c_) := ⟨h1_⟩; have n2_ : Aside0 (w18.heap[gb109]? = some (.cells #[.int .i64 0, .int .i64 0, .int .i64 0, .int .i64 0, .int .i64 0, .int .i64 0] 26 (0, 0))) := ⟨h2_⟩; have n3_ : Aside0 (IsS30 w0 w18 g s0_0 t111) := ⟨h3_⟩; have n4_ : Aside0 (KeepBut w w18 g none) := ⟨h4_⟩; have n5_ : Aside0 (Below w0.heap.size w0 w18) := ⟨h5_⟩; clear BK109; clear HI0; clear HK; clear HB; clear h0_ h1_ h2_ h3_ h4_ h5_; have HO114 := n0_; have HA_HO114 := n1_; have BK109 := n2_; have HI0 := n3_; have HK := n4_; have HB := n5_; clear n0_ n1_ n2_ n3_ n4_ n5_; have hHeld := trivial; obtain ⟨co19, eo19⟩ := HA_HO114.out; clear HA_HO114; subst eo19
                            refine norm_ (a' := ?_) ?_ ?_
                            rotate_left
                            ·simp only [putAll, Act.put, List.setIfInBounds_toArray, List.set_cons_zero, List.set_cons_succ]
                             rfl
                            refine two_ (i := 6) (j := 18) (Ni := some 12) (Nj := some 5) #[true, true, true, true, true, true, true, false, false, true, false, false, true, false, false, true, false, false, false, false] #[true, true, true, true, true, true, false, false, false, true, false, false, true, false, false, true, false, false, true, false] rfl rfl rfl rfl (two_of HT_.out (by kernel_rfl)) (by decide) (by decide) (fun K hK => ?_) (fun K hK => ?_)
                            ·skip
                             refine goes_ Try.func27 (by kernel_rfl) rfl #[.pointer (some ⟨g, 0, none⟩), .int .i64 13] (by rfl) rfl rfl argx ?_
                             with_reducible refine (customsmade_Source_Next.calls g s0_0 t111 13 t115 t116 w0 _ ?side1 ?side2 A4.out).mono ?_
                             (case side1 => repeat (first | (with_reducible first | exact HI0.out | apply IsS30.alloc | apply IsS30.drewN | apply IsS30.drew | apply IsS30.set_1 | refine IsS30.far ?_ NB0_109.out _) | exact HI0.out))
                             (case side2 => repeat (first | (with_reducible first | exact HB.out | apply below_alloc | apply pw_below_drewN | apply below_drew1 | refine below_set ?_ (IsS30.ge HI0.out) | refine below_set ?_ GE109.out) | exact HB.out))
                             rintro e w20 ⟨rfl, hi, hb, hk⟩
                             refine ⟨_, rfl, ?_⟩
                             have n0_ := Aside0.mk (KeepBut.blk hk (g' := gb109) (o := .cells #[.int .i64 0, .int .i64 0, .int .i64 0, .int .i64 0, .int .i64 0, .int .i64 0] 26 (0, 0)) blkx NB109_0.out (by simp))
                             have n1_ := Aside0.mk (Kd.R_mono (Kd.R_keep (IsS30.apart (show IsS30 w0 _ g s0_0 t111 from by repeat (first | (with_reducible first | exact HI0.out | apply IsS30.alloc | apply IsS30.drewN | apply IsS30.drew | apply IsS30.set_1 | refine IsS30.far ?_ NB0_109.out _) | exact HI0.out)) (rowx HO114.out) (by decide)) hk (fun _ h => h.2)) (fun _ h => h.1))
                             have n2_ := Aside0.mk (KeepBut.trans zPA1 hk (.inl rfl)); have n3_ := Aside0.mk (hb); have n4_ := Aside0.mk (hi); clear BK109; clear HO114; clear HK; clear HB; clear HI0; have BK109 := n0_; have HO114 := n1_; have HK := n2_; have HB := n3_; have HI0 := n4_; clear n0_ n1_ n2_ n3_ n4_
                             (try clear hb)
                             (try clear hb2)
                             (try clear hk)
                             (try clear hi)
                             refine hK.out _ _ trivial (fun hHeld => ?_)
                             clear hK K
                             refine norm_ (a' := ?_) ?_ ?_
                             rotate_left
                             ·show Act.put _ (some 12) _ = _
                              simp only [Act.put, List.setIfInBounds_toArray, List.set_cons_zero, List.set_cons_succ, i64_w, i32_w]
                              rfl
                             refine pure_ (i := 7) (N := some 13) (v := ?_) (a' := ?_) #[true, true, true, true, true, true, true, true, false, true, false, false, true, false, false, true, false, false, false, false] rfl rfl (any_of HT_.out (by kernel_rfl)) (fun _ _ _ h => h) (Or.inl ⟨by rfl, ?_⟩) ?_ ?_
                             rotate_left
                             ·intro w'
                              go_simp
                              with_reducible rfl
                             rotate_left
                             ·simp only [Act.put, List.setIfInBounds_toArray, List.set_cons_zero, List.set_cons_succ, i64_w, i32_w]
                              rfl
                             exact norm_ zPA0 (hJ3_4_6 (.slice (some adz_v113) y112.length co19, adz_v113) _ ⟨(rowx HO114.out), ⟨_, rfl⟩, blkx, zPA6, zPA1, zPA5⟩)
                            ·skip
                             refine box_step ?hg (N := 5) ?hd (cs := #[.int .i64 0, .int .i64 0, .int .i64 0, .int .i64 0, .int .i64 0, .int .i64 0]) (t := 26) ?hr ?_; (case hd => rfl); (case hg => rfl); (case hr => first | (go_simp; done) | (go_simp; rfl))
                             intro gb124 hg w20 hbox hb
                             have n0_ := Aside0.mk (Kd.R_below (rowx HO114.out) hb); have n1_ := Aside0.mk (IsS30.below zPA6 hb); have n2_ := Aside0.mk (blk_below (g := gb109) (o := .cells #[.int .i64 0, .int .i64 0, .int .i64 0, .int .i64 0, .int .i64 0, .int .i64 0] 26 (0, 0)) blkx hb); have n3_ := Aside0.mk (KeepBut.trans zPA1 (KeepBut.of_below hb g none) (.inl rfl)); have n4_ := Aside0.mk (below_step zPA5 hb); have n5_ := Aside0.mk (hbox); have n6_ := Aside0.mk ((by rw [hg]; exact (keep_size (w := w) (g := g) (row := none) zPA1) : w.heap.size ≤ gb124)); have n7_ := Aside0.mk ((Nat.le_trans HW0.out (by rw [hg]; exact (keep_size (w := w) (g := g) (row := none) zPA1) : w.heap.size ≤ gb124) : w0.heap.size ≤ gb124)); have n8_ := Aside0.mk ((by rw [hg]; exact Nat.ne_of_lt (blk_lt (g := gb109) (o := .cells #[.int .i64 0, .int .i64 0, .int .i64 0, .int .i64 0, .int .i64 0, .int .i64 0] 26 (0, 0)) blkx) : gb109 ≠ gb124)); have n9_ := Aside0.mk ((by rw [hg]; exact Nat.ne_of_gt (blk_lt (g := gb109) (o := .cells #[.int .i64 0, .int .i64 0, .int .i64 0, .int .i64 0, .int .i64 0, .int .i64 0] 26 (0, 0)) blkx) : gb124 ≠ gb109))
                             have n10_ := Aside0.mk ((by rw [hg]; exact Nat.ne_of_lt (IsS30.lt (show IsS30 w0 _ g s0_0 t111 from by repeat (first | (with_reducible first | exact HI0.out | apply IsS30.alloc | apply IsS30.drewN | apply IsS30.drew | apply IsS30.set_1 | refine IsS30.far ?_ NB0_109.out _) | exact HI0.out))) : g ≠ gb124))
                             have n11_ := Aside0.mk ((by rw [hg]; exact Nat.ne_of_gt (IsS30.lt (show IsS30 w0 _ g s0_0 t111 from by repeat (first | (with_reducible first | exact HI0.out | apply IsS30.alloc | apply IsS30.drewN | apply IsS30.drew | apply IsS30.set_1 | refine IsS30.far ?_ NB0_109.out _) | exact HI0.out))) : gb124 ≠ g))
                             clear HO114; clear HI0; clear BK109; clear HK; clear HB; have HO114 := n0_; have HI0 := n1_; have BK109 := n2_; have HK := n3_; have HB := n4_; have BK124 := n5_; have GW124 := n6_; have GE124 := n7_; have NB109_124 := n8_; have NB124_109 := n9_; have NB0_124 := n10_; have NB124_0 := n11_; clear n0_ n1_ n2_ n3_ n4_ n5_ n6_ n7_ n8_ n9_ n10_ n11_; clear hb hbox hg
                             refine hK.out _ _ trivial (fun hHeld => ?_)
                             clear hK K
                             refine norm_ (a' := ?_) ?_ ?_
                             rotate_left
                             ·show Act.put _ (some 5) _ = _
                              simp only [Act.put, List.setIfInBounds_toArray, List.set_cons_zero, List.set_cons_succ, i64_w, i32_w]
                              rfl
                             exact norm_ zPA0 (hJ3_4_18 (.slice (some adz_v113) y112.length co19, adz_v113, gb124) _ ⟨(rowx HO114.out), ⟨_, rfl⟩, blkx, blkx, GW124.out, GE124.out, NB0_124.out, NB124_0.out, NB109_124.out, NB124_109.out, zPA4, zPA2, zPA3⟩)
                          ·skip
                           rintro gb124 w17 ⟨h0_, h1_, h2_, h3_, h4_, h5_, h6_, h7_, h8_, h9_, h10_⟩
                           have n0_ : Aside0 (w17.heap[gb109]? = some (.cells #[.int .i64 0, .int .i64 0, .int .i64 0, .int .i64 0, .int .i64 0, .int .i64 0] 26 (0, 0))) := ⟨h0_⟩; have n1_ : Aside0 (w17.heap[gb124]? = some (.cells #[.int .i64 0, .int .i64 0, .int .i64 0, .int .i64 0, .int .i64 0, .int .i64 0] 26 (0, 0))) := ⟨h1_⟩; have n2_ : Aside0 (w.heap.size ≤ gb124) := ⟨h2_⟩; have n3_ : Aside0 (w0.heap.size ≤ gb124) := ⟨h3_⟩; have n4_ : Aside0 (g ≠ gb124) := ⟨h4_⟩; have n5_ : Aside0 (gb124 ≠ g) := ⟨h5_⟩; have n6_ : Aside0 (gb109 ≠ gb124) := ⟨h6_⟩; have n7_ : Aside0 (gb124 ≠ gb109) := ⟨h7_⟩; have n8_ : Aside0 (IsS30 w0 w17 g s0_0 t116) := ⟨h8_⟩; have n9_ : Aside0 (KeepBut w w17 g none) := ⟨h9_⟩; have n10_ : Aside0 (Below w0.heap.size w0 w17) := ⟨h10_⟩; clear BK109; clear HI0; clear HK; clear HB; clear h0_ h1_ h2_ h3_ h4_ h5_ h6_ h7_ h8_ h9_ h10_; have BK109 := n0_; have BK124 := n1_; have GW124 := n2_; have GE124 := n3_; have NB0_124 := n4_; have NB124_0 := n5_; have NB109_124 := n6_; have NB124_109 := n7_; have HI0 := n8_; have HK := n9_; have HB := n10_; clear n0_ n1_ n2_ n3_ n4_ n5_ n6_ n7_ n8_ n9_ n10_; have hHeld := trivial
                           refine norm_ (a' := ?_) ?_ ?_
                           rotate_left
                           ·simp only [putAll, Act.put, List.setIfInBounds_toArray, List.set_cons_zero, List.set_cons_succ]
                            rfl
                           refine two_ (i := 4) (j := 10) (Ni := some 10) (Nj := some 16) #[true, true, true, true, true, true, true, false, false, true, false, false, true, false, false, true, false, false, true, false] #[true, true, true, true, false, true, true, false, false, true, true, false, true, false, false, true, false, false, true, false] rfl rfl rfl rfl (two_of HT_.out (by kernel_rfl)) (by decide) (by decide) (fun K hK => ?_) (fun K hK => ?_)
                           ·skip
                            refine Kd.R_lit_step (Kd.int .i64) _ 3 ?hg (N := 10) ?hd (xs := ([1, 1, 1, 2, 3, 3, 4, 5, 5, 6, 7, 8, 9] : List Int)) (inner := [.int .i64 1, .int .i64 1, .int .i64 1, .int .i64 2, .int .i64 3, .int .i64 3, .int .i64 4, .int .i64 5, .int .i64 5, .int .i64 6, .int .i64 7, .int .i64 8, .int .i64 9]) (ok := fun _ => True) (okp := fun _ => True) ?hr ?hp (fun _ hk => hk) trivial (Below.refl _ _) (Nat.le_refl _) (by simp) ?_; (case hd => rfl); (case hg => rfl); (case hr => first | (go_simp; done) | (go_simp; rfl)); (case hp => exact (Reps.one (show Kd.M (Kd.int .i64) _ _ _ 1 [.int .i64 1] from rfl) (Reps.one (show Kd.M (Kd.int .i64) _ _ _ 1 [.int .i64 1] from rfl) (Reps.one (show Kd.M (Kd.int .i64) _ _ _ 1 [.int .i64 1] from rfl) (Reps.one (show Kd.M (Kd.int .i64) _ _ _ 2 [.int .i64 2] from rfl) (Reps.one (show Kd.M (Kd.int .i64) _ _ _ 3 [.int .i64 3] from rfl) (Reps.one (show Kd.M (Kd.int .i64) _ _ _ 3 [.int .i64 3] from rfl) (Reps.one (show Kd.M (Kd.int .i64) _ _ _ 4 [.int .i64 4] from rfl) (Reps.one (show Kd.M (Kd.int .i64) _ _ _ 5 [.int .i64 5] from rfl) (Reps.one (show Kd.M (Kd.int .i64) _ _ _ 5 [.int .i64 5] from rfl) (Reps.one (show Kd.M (Kd.int .i64) _ _ _ 6 [.int .i64 6] from rfl) (Reps.one (show Kd.M (Kd.int .i64) _ _ _ 7 [.int .i64 7] from rfl) (Reps.one (show Kd.M (Kd.int .i64) _ _ _ 8 [.int .i64 8] from rfl) (Reps.one (show Kd.M (Kd.int .i64) _ _ _ 9 [.int .i64 9] from rfl) (Reps.none _ _)))))))))))))))
                            intro v113 w18 ho19 hb hg_ hnew_
                            clear hg_ hnew_
                            (first | rw [← Ny112.out] at ho19 | (simp only [Int.reduceToNat] at ho19; rw [← Ny112.out] at ho19))
                            have n0_ := Aside0.mk (Kd.R_lower ho19 (keep_size (w := w) (g := g) (row := none) zPA2)); have n1_ := Aside0.mk (IsS30.below zPA4 hb); have n2_ := Aside0.mk (blk_below (g := gb109) (o := .cells #[.int .i64 0, .int .i64 0, .int .i64 0, .int .i64 0, .int .i64 0, .int .i64 0] 26 (0, 0)) blkx hb); have n3_ := Aside0.mk (blk_below (g := gb124) (o := .cells #[.int .i64 0, .int .i64 0, .int .i64 0, .int .i64 0, .int .i64 0, .int .i64 0] 26 (0, 0)) blkx hb); have n4_ := Aside0.mk (KeepBut.trans zPA2 (KeepBut.of_below hb g none) (.inl rfl)); have n5_ := Aside0.mk (below_step zPA3 hb); clear HI0; clear BK109; clear BK124; clear HK; clear HB; have HO114 := n0_; have HI0 := n1_; have BK109 := n2_; have BK124 := n3_; have HK := n4_; have HB := n5_; clear n0_ n1_ n2_ n3_ n4_ n5_; clear hb ho19; obtain ⟨Ao20, co20, eo20⟩ := Kd.R_slice HO114.out; subst eo20; obtain ⟨ado20, fo20, _⟩ := Kd.at_int (Kd.R_reads' HO114.out).2.2 0 (by decide) (by rw [Ny112.out]; simp)
                            cases fo20
                            refine hK.out _ _ trivial (fun hHeld => ?_)
                            clear hK K
                            refine norm_ (a' := ?_) ?_ ?_
                            rotate_left
                            ·show Act.put _ (some 10) _ = _
                             simp only [Act.put, List.setIfInBounds_toArray, List.set_cons_zero, List.set_cons_succ, i64_w, i32_w]
                             rfl
                            refine pure_ (i := 7) (N := some 13) (v := ?_) (a' := ?_) #[true, true, true, true, true, true, true, true, false, true, false, false, true, false, false, true, false, false, true, false] rfl rfl (any_of HT_.out (by kernel_rfl)) (fun _ _ _ h => h) (Or.inl ⟨by rfl, ?_⟩) ?_ ?_
                            rotate_left
                            ·intro w'
                             go_simp
                             with_reducible rfl
                            rotate_left
                            ·simp only [Act.put, List.setIfInBounds_toArray, List.set_cons_zero, List.set_cons_succ, i64_w, i32_w]
                             rfl
                            exact norm_ zPA0 (hJ3_4_6_18 (.slice (some ado20) y112.length co20, ado20, gb124) _ ⟨(rowx HO114.out), ⟨_, rfl⟩, blkx, blkx, GW124.out, GE124.out, NB0_124.out, NB124_0.out, NB109_124.out, NB124_109.out, zPA4, zPA2, zPA3⟩)
                           ·skip
                            refine goes_ Try.func27 (by kernel_rfl) rfl #[.pointer (some ⟨g, 0, none⟩), .int .i64 4] (by rfl) rfl rfl argx ?_
                            with_reducible refine (customsmade_Source_Next.calls g s0_0 t116 4 t118 t119 w0 _ ?side1 ?side2 A7.out).mono ?_
                            (case side1 => repeat (first | (with_reducible first | exact HI0.out | apply IsS30.alloc | apply IsS30.drewN | apply IsS30.drew | apply IsS30.set_1 | refine IsS30.far ?_ NB0_109.out _ | refine IsS30.far ?_ NB0_124.out _) | exact HI0.out))
                            (case side2 => repeat (first | (with_reducible first | exact HB.out | apply below_alloc | apply pw_below_drewN | apply below_drew1 | refine below_set ?_ (IsS30.ge HI0.out) | refine below_set ?_ GE109.out | refine below_set ?_ GE124.out) | exact HB.out))
                            rintro e w18 ⟨rfl, hi, hb, hk⟩
                            refine ⟨_, rfl, ?_⟩
                            have n0_ := Aside0.mk (KeepBut.blk hk (g' := gb109) (o := .cells #[.int .i64 0, .int .i64 0, .int .i64 0, .int .i64 0, .int .i64 0, .int .i64 0] 26 (0, 0)) blkx NB109_0.out (by simp)); have n1_ := Aside0.mk (KeepBut.blk hk (g' := gb124) (o := .cells #[.int .i64 0, .int .i64 0, .int .i64 0, .int .i64 0, .int .i64 0, .int .i64 0] 26 (0, 0)) blkx NB124_0.out (by simp)); have n2_ := Aside0.mk (KeepBut.trans zPA2 hk (.inl rfl)); have n3_ := Aside0.mk (hb); have n4_ := Aside0.mk (hi); clear BK109; clear BK124; clear HK; clear HB; clear HI0; have BK109 := n0_; have BK124 := n1_; have HK := n2_; have HB := n3_; have HI0 := n4_; clear n0_ n1_ n2_ n3_ n4_
                            (try clear hb)
                            (try clear hb2)
                            (try clear hk)
                            (try clear hi)
                            refine hK.out _ _ trivial (fun hHeld => ?_)
                            clear hK K
                            refine norm_ (a' := ?_) ?_ ?_
                            rotate_left
                            ·show Act.put _ (some 16) _ = _
                             simp only [Act.put, List.setIfInBounds_toArray, List.set_cons_zero, List.set_cons_succ, i64_w, i32_w]
                             rfl
                            refine pure_ (i := 11) (N := some 17) (v := ?_) (a' := ?_) #[true, true, true, true, false, true, true, false, false, true, true, true, true, false, false, true, false, false, true, false] rfl rfl (any_of HT_.out (by kernel_rfl)) (fun _ _ _ h => h) (Or.inl ⟨by rfl, ?_⟩) ?_ ?_
                            rotate_left
                            ·intro w'
                             go_simp
                             with_reducible rfl
                            rotate_left
                            ·simp only [Act.put, List.setIfInBounds_toArray, List.set_cons_zero, List.set_cons_succ, i64_w, i32_w]
                             rfl
                            exact norm_ zPA0 (hJ3_6_10_18 (gb124) _ ⟨blkx, blkx, GW124.out, GE124.out, NB0_124.out, NB124_0.out, NB109_124.out, NB124_109.out, zPA4, zPA2, zPA3⟩)
                         ·skip
                          rintro _ w17 ⟨h0_, h1_, h2_, h3_⟩
                          have n0_ : Aside0 (w17.heap[gb109]? = some (.cells #[.int .i64 0, .int .i64 0, .int .i64 0, .int .i64 0, .int .i64 0, .int .i64 0] 26 (0, 0))) := ⟨h0_⟩; have n1_ : Aside0 (IsS30 w0 w17 g s0_0 t119) := ⟨h1_⟩; have n2_ : Aside0 (KeepBut w w17 g none) := ⟨h2_⟩; have n3_ : Aside0 (Below w0.heap.size w0 w17) := ⟨h3_⟩; clear BK109; clear HI0; clear HK; clear HB; clear h0_ h1_ h2_ h3_; have BK109 := n0_; have HI0 := n1_; have HK := n2_; have HB := n3_; clear n0_ n1_ n2_ n3_; have hHeld := trivial
                          refine norm_ (a' := ?_) ?_ ?_
                          rotate_left
                          ·simp only [putAll, Act.put, List.setIfInBounds_toArray, List.set_cons_zero, List.set_cons_succ]
                           rfl
                          refine three_ (i := 4) (j := 13) (k := 18) (Ni := some 10) (Nj := some 19) (Nk := some 5) #[true, true, true, true, true, true, true, false, false, true, true, true, true, false, false, true, false, false, false, false] #[true, true, true, true, false, true, true, false, false, true, true, true, true, true, false, true, false, false, false, false] #[true, true, true, true, false, true, true, false, false, true, true, true, true, false, false, true, false, false, true, false] rfl rfl rfl rfl rfl rfl (three_of HT_.out (by kernel_rfl)) (by decide) (by decide) (by decide) (fun K hK => ?_) (fun K hK => ?_) (fun K hK => ?_)
                          ·skip
                           refine Kd.R_lit_step (Kd.int .i64) _ 3 ?hg (N := 10) ?hd (xs := ([1, 1, 1, 2, 3, 3, 4, 5, 5, 6, 7, 8, 9] : List Int)) (inner := [.int .i64 1, .int .i64 1, .int .i64 1, .int .i64 2, .int .i64 3, .int .i64 3, .int .i64 4, .int .i64 5, .int .i64 5, .int .i64 6, .int .i64 7, .int .i64 8, .int .i64 9]) (ok := fun _ => True) (okp := fun _ => True) ?hr ?hp (fun _ hk => hk) trivial (Below.refl _ _) (Nat.le_refl _) (by simp) ?_; (case hd => rfl); (case hg => rfl); (case hr => first | (go_simp; done) | (go_simp; rfl)); (case hp => exact (Reps.one (show Kd.M (Kd.int .i64) _ _ _ 1 [.int .i64 1] from rfl) (Reps.one (show Kd.M (Kd.int .i64) _ _ _ 1 [.int .i64 1] from rfl) (Reps.one (show Kd.M (Kd.int .i64) _ _ _ 1 [.int .i64 1] from rfl) (Reps.one (show Kd.M (Kd.int .i64) _ _ _ 2 [.int .i64 2] from rfl) (Reps.one (show Kd.M (Kd.int .i64) _ _ _ 3 [.int .i64 3] from rfl) (Reps.one (show Kd.M (Kd.int .i64) _ _ _ 3 [.int .i64 3] from rfl) (Reps.one (show Kd.M (Kd.int .i64) _ _ _ 4 [.int .i64 4] from rfl) (Reps.one (show Kd.M (Kd.int .i64) _ _ _ 5 [.int .i64 5] from rfl) (Reps.one (show Kd.M (Kd.int .i64) _ _ _ 5 [.int .i64 5] from rfl) (Reps.one (show Kd.M (Kd.int .i64) _ _ _ 6 [.int .i64 6] from rfl) (Reps.one (show Kd.M (Kd.int .i64) _ _ _ 7 [.int .i64 7] from rfl) (Reps.one (show Kd.M (Kd.int .i64) _ _ _ 8 [.int .i64 8] from rfl) (Reps.one (show Kd.M (Kd.int .i64) _ _ _ 9 [.int .i64 9] from rfl) (Reps.none _ _)))))))))))))))
                           intro v113 w18 ho19 hb hg_ hnew_
                           clear hg_ hnew_
                           (first | rw [← Ny112.out] at ho19 | (simp only [Int.reduceToNat] at ho19; rw [← Ny112.out] at ho19))
                           have n0_ := Aside0.mk (Kd.R_lower ho19 (keep_size (w := w) (g := g) (row := none) zPA1)); have n1_ := Aside0.mk (IsS30.below zPA6 hb); have n2_ := Aside0.mk (blk_below (g := gb109) (o := .cells #[.int .i64 0, .int .i64 0, .int .i64 0, .int .i64 0, .int .i64 0, .int .i64 0] 26 (0, 0)) blkx hb); have n3_ := Aside0.mk (KeepBut.trans zPA1 (KeepBut.of_below hb g none) (.inl rfl)); have n4_ := Aside0.mk (below_step zPA5 hb); clear HI0; clear BK109; clear HK; clear HB; have HO114 := n0_; have HI0 := n1_; have BK109 := n2_; have HK := n3_; have HB := n4_; clear n0_ n1_ n2_ n3_ n4_; clear hb ho19; obtain ⟨Ao20, co20, eo20⟩ := Kd.R_slice HO114.out; subst eo20; obtain ⟨ado20, fo20, _⟩ := Kd.at_int (Kd.R_reads' HO114.out).2.2 0 (by decide) (by rw [Ny112.out]; simp)
                           cases fo20
                           refine hK.out _ _ trivial (fun hHeld => ?_)
                           clear hK K
                           refine norm_ (a' := ?_) ?_ ?_
                           rotate_left
                           ·show Act.put _ (some 10) _ = _
                            simp only [Act.put, List.setIfInBounds_toArray, List.set_cons_zero, List.set_cons_succ, i64_w, i32_w]
                            rfl
                           refine pure_ (i := 7) (N := some 13) (v := ?_) (a' := ?_) #[true, true, true, true, true, true, true, true, false, true, true, true, true, false, false, true, false, false, false, false] rfl rfl (any_of HT_.out (by kernel_rfl)) (fun _ _ _ h => h) (Or.inl ⟨by rfl, ?_⟩) ?_ ?_
                           rotate_left
                           ·intro w'
                            go_simp
                            with_reducible rfl
                           rotate_left
                           ·simp only [Act.put, List.setIfInBounds_toArray, List.set_cons_zero, List.set_cons_succ, i64_w, i32_w]
                            rfl
                           exact norm_ zPA0 (hJ3_4_6_10 (.slice (some ado20) y112.length co20, ado20) _ ⟨(rowx HO114.out), ⟨_, rfl⟩, blkx, zPA6, zPA1, zPA5⟩)
                          ·skip
                           refine goes_ Try.func28 (by kernel_rfl) rfl #[.pointer (some ⟨g, 0, none⟩), .int .i64 50, .int .i64 1000000000000] (by rfl) rfl rfl argx ?_
                           with_reducible refine (customsmade_Small.calls g s0_0 t119 50 1000000000000 t120 t121 w0 _ ?side1 ?side2 A8.out).mono ?_
                           (case side1 => repeat (first | (with_reducible first | exact HI0.out | apply IsS30.alloc | apply IsS30.drewN | apply IsS30.drew | apply IsS30.set_1 | refine IsS30.far ?_ NB0_109.out _) | exact HI0.out))
                           (case side2 => repeat (first | (with_reducible first | exact HB.out | apply below_alloc | apply pw_below_drewN | apply below_drew1 | refine below_set ?_ (IsS30.ge HI0.out) | refine below_set ?_ GE109.out) | exact HB.out))
                           rintro e w18 ⟨rfl, hi, hb, hk⟩
                           refine ⟨_, rfl, ?_⟩
                           have n0_ := Aside0.mk (KeepBut.blk hk (g' := gb109) (o := .cells #[.int .i64 0, .int .i64 0, .int .i64 0, .int .i64 0, .int .i64 0, .int .i64 0] 26 (0, 0)) blkx NB109_0.out (by simp)); have n1_ := Aside0.mk (KeepBut.trans zPA1 hk (.inl rfl)); have n2_ := Aside0.mk (hb); have n3_ := Aside0.mk (hi); clear BK109; clear HK; clear HB; clear HI0; have BK109 := n0_; have HK := n1_; have HB := n2_; have HI0 := n3_; clear n0_ n1_ n2_ n3_
                           (try clear hb)
                           (try clear hb2)
                           (try clear hk)
                           (try clear hi)
                           refine hK.out _ _ trivial (fun hHeld => ?_)
                           clear hK K
                           refine norm_ (a' := ?_) ?_ ?_
                           rotate_left
                           ·show Act.put _ (some 19) _ = _
                            simp only [Act.put, List.setIfInBounds_toArray, List.set_cons_zero, List.set_cons_succ, i64_w, i32_w]
                            rfl
                           refine pure_ (i := 14) (N := some 20) (v := ?_) (a' := ?_) #[true, true, true, true, false, true, true, false, false, true, true, true, true, true, true, true, false, false, false, false] rfl rfl (any_of HT_.out (by kernel_rfl)) (fun _ _ _ h => h) (Or.inl ⟨by rfl, ?_⟩) ?_ ?_
                           rotate_left
                           ·intro w'
                            go_simp
                            with_reducible rfl
                           rotate_left
                           ·simp only [Act.put, List.setIfInBounds_toArray, List.set_cons_zero, List.set_cons_succ, i64_w, i32_w]
                            rfl
                           exact norm_ zPA0 (hJ3_6_10_13 () _ ⟨blkx, zPA6, zPA1, zPA5⟩)
                          ·skip
                           refine box_step ?hg (N := 5) ?hd (cs := #[.int .i64 0, .int .i64 0, .int .i64 0, .int .i64 0, .int .i64 0, .int .i64 0]) (t := 26) ?hr ?_; (case hd => rfl); (case hg => rfl); (case hr => first | (go_simp; done) | (go_simp; rfl))
                           intro gb124 hg w18 hbox hb
                           have n0_ := Aside0.mk (IsS30.below zPA6 hb); have n1_ := Aside0.mk (blk_below (g := gb109) (o := .cells #[.int .i64 0, .int .i64 0, .int .i64 0, .int .i64 0, .int .i64 0, .int .i64 0] 26 (0, 0)) blkx hb); have n2_ := Aside0.mk (KeepBut.trans zPA1 (KeepBut.of_below hb g none) (.inl rfl)); have n3_ := Aside0.mk (below_step zPA5 hb); have n4_ := Aside0.mk (hbox); have n5_ := Aside0.mk ((by rw [hg]; exact (keep_size (w := w) (g := g) (row := none) zPA1) : w.heap.size ≤ gb124)); have n6_ := Aside0.mk ((Nat.le_trans HW0.out (by rw [hg]; exact (keep_size (w := w) (g := g) (row := none) zPA1) : w.heap.size ≤ gb124) : w0.heap.size ≤ gb124)); have n7_ := Aside0.mk ((by rw [hg]; exact Nat.ne_of_lt (blk_lt (g := gb109) (o := .cells #[.int .i64 0, .int .i64 0, .int .i64 0, .int .i64 0, .int .i64 0, .int .i64 0] 26 (0, 0)) blkx) : gb109 ≠ gb124)); have n8_ := Aside0.mk ((by rw [hg]; exact Nat.ne_of_gt (blk_lt (g := gb109) (o := .cells #[.int .i64 0, .int .i64 0, .int .i64 0, .int .i64 0, .int .i64 0, .int .i64 0] 26 (0, 0)) blkx) : gb124 ≠ gb109))
                           have n9_ := Aside0.mk ((by rw [hg]; exact Nat.ne_of_lt (IsS30.lt (show IsS30 w0 _ g s0_0 t119 from by repeat (first | (with_reducible first | exact HI0.out | apply IsS30.alloc | apply IsS30.drewN | apply IsS30.drew | apply IsS30.set_1 | refine IsS30.far ?_ NB0_109.out _) | exact HI0.out))) : g ≠ gb124))
                           have n10_ := Aside0.mk ((by rw [hg]; exact Nat.ne_of_gt (IsS30.lt (show IsS30 w0 _ g s0_0 t119 from by repeat (first | (with_reducible first | exact HI0.out | apply IsS30.alloc | apply IsS30.drewN | apply IsS30.drew | apply IsS30.set_1 | refine IsS30.far ?_ NB0_109.out _) | exact HI0.out))) : gb124 ≠ g))
                           clear HI0; clear BK109; clear HK; clear HB; have HI0 := n0_; have BK109 := n1_; have HK := n2_; have HB := n3_; have BK124 := n4_; have GW124 := n5_; have GE124 := n6_; have NB109_124 := n7_; have NB124_109 := n8_; have NB0_124 := n9_; have NB124_0 := n10_; clear n0_ n1_ n2_ n3_ n4_ n5_ n6_ n7_ n8_ n9_ n10_; clear hb hbox hg
                           refine hK.out _ _ trivial (fun hHeld => ?_)
                           clear hK K
                           refine norm_ (a' := ?_) ?_ ?_
                           rotate_left
                           ·show Act.put _ (some 5) _ = _
                            simp only [Act.put, List.setIfInBounds_toArray, List.set_cons_zero, List.set_cons_succ, i64_w, i32_w]
                            rfl
                           exact norm_ zPA0 (hJ3_6_10_18 (gb124) _ ⟨blkx, blkx, GW124.out, GE124.out, NB0_124.out, NB124_0.out, NB109_124.out, NB124_109.out, zPA4, zPA2, zPA3⟩)
                        ·skip
                         rintro ⟨v113, adz_v113, gb124⟩ w19 ⟨h0_, h1_, h2_, h3_, h4_, h5_, h6_, h7_, h8_, h9_, h10_, h11_, h12_⟩
                         have n0_ : Aside0 (Kd.R (Kd.int .i64) 3 w19 w.heap.size (fun _ => True) v113 y112) := ⟨h0_⟩; have n1_ : Aside0 (∃ c_, (v113 : Value) = .slice (some adz_v113) y112.length c_) := ⟨h1_⟩; have n2_ : Aside0 (w19.heap[gb109]? = some (.cells #[.int .i64 0, .int .i64 0, .int .i64 0, .int .i64 0, .int .i64 0, .int .i64 0] 26 (0, 0))) := ⟨h2_⟩; have n3_ : Aside0 (w19.heap[gb124]? = some (.cells #[.int .i64 0, .int .i64 0, .int .i64 0, .int .i64 0, .int .i64 0, .int .i64 0] 26 (0, 0))) := ⟨h3_⟩; have n4_ : Aside0 (w.heap.size ≤ gb124) := ⟨h4_⟩; have n5_ : Aside0 (w0.heap.size ≤ gb124) := ⟨h5_⟩; have n6_ : Aside0 (g ≠ gb124) := ⟨h6_⟩; have n7_ : Aside0 (gb124 ≠ g) := ⟨h7_⟩; have n8_ : Aside0 (gb109 ≠ gb124) := ⟨h8_⟩; have n9_ : Aside0 (gb124 ≠ gb109) := ⟨h9_⟩; have n10_ : Aside0 (IsS30 w0 w19 g s0_0 t111) := ⟨h10_⟩; have n11_ : Aside0 (KeepBut w w19 g none) := ⟨h11_⟩; have n12_ : Aside0 (Below w0.heap.size w0 w19) := ⟨h12_⟩; clear BK109; clear HI0; clear HK; clear HB; clear h0_ h1_ h2_ h3_ h4_ h5_ h6_ h7_ h8_ h9_ h10_ h11_ h12_; have HO114 := n0_; have HA_HO114 := n1_; have BK109 := n2_; have BK124 := n3_; have GW124 := n4_; have GE124 := n5_; have NB0_124 := n6_; have NB124_0 := n7_; have NB109_124 := n8_; have NB124_109 := n9_; have HI0 := n10_; have HK := n11_; have HB := n12_; clear n0_ n1_ n2_ n3_ n4_ n5_ n6_ n7_ n8_ n9_ n10_ n11_ n12_; have hHeld := trivial; obtain ⟨co20, eo20⟩ := HA_HO114.out; clear HA_HO114; subst eo20
                         refine norm_ (a' := ?_) ?_ ?_
                         rotate_left
                         ·simp only [putAll, Act.put, List.setIfInBounds_toArray, List.set_cons_zero, List.set_cons_succ]
                          rfl
                         refine one_ (i := 6) (N := some 12) #[true, true, true, true, true, true, true, false, false, true, false, false, true, false, false, true, false, false, true, false] rfl rfl (one_of HT_.out (by kernel_rfl)) (by decide) (fun K hK => ?_)
                         refine goes_ Try.func27 (by kernel_rfl) rfl #[.pointer (some ⟨g, 0, none⟩), .int .i64 13] (by rfl) rfl rfl argx ?_
                         with_reducible refine (customsmade_Source_Next.calls g s0_0 t111 13 t115 t116 w0 _ ?side1 ?side2 A4.out).mono ?_
                         (case side1 => repeat (first | (with_reducible first | exact HI0.out | apply IsS30.alloc | apply IsS30.drewN | apply IsS30.drew | apply IsS30.set_1 | refine IsS30.far ?_ NB0_109.out _ | refine IsS30.far ?_ NB0_124.out _) | exact HI0.out))
                         (case side2 => repeat (first | (with_reducible first | exact HB.out | apply below_alloc | apply pw_below_drewN | apply below_drew1 | refine below_set ?_ (IsS30.ge HI0.out) | refine below_set ?_ GE109.out | refine below_set ?_ GE124.out) | exact HB.out))
                         rintro e w21 ⟨rfl, hi, hb, hk⟩
                         refine ⟨_, rfl, ?_⟩
                         have n0_ := Aside0.mk (KeepBut.blk hk (g' := gb109) (o := .cells #[.int .i64 0, .int .i64 0, .int .i64 0, .int .i64 0, .int .i64 0, .int .i64 0] 26 (0, 0)) blkx NB109_0.out (by simp))
                         have n1_ := Aside0.mk (Kd.R_mono (Kd.R_keep (IsS30.apart (show IsS30 w0 _ g s0_0 t111 from by repeat (first | (with_reducible first | exact HI0.out | apply IsS30.alloc | apply IsS30.drewN | apply IsS30.drew | apply IsS30.set_1 | refine IsS30.far ?_ NB0_109.out _ | refine IsS30.far ?_ NB0_124.out _) | exact HI0.out)) (rowx HO114.out) (by decide)) hk (fun _ h => h.2)) (fun _ h => h.1))
                         have n2_ := Aside0.mk (KeepBut.blk hk (g' := gb124) (o := .cells #[.int .i64 0, .int .i64 0, .int .i64 0, .int .i64 0, .int .i64 0, .int .i64 0] 26 (0, 0)) blkx NB124_0.out (by simp)); have n3_ := Aside0.mk (KeepBut.trans zPA2 hk (.inl rfl)); have n4_ := Aside0.mk (hb); have n5_ := Aside0.mk (hi); clear BK109; clear HO114; clear BK124; clear HK; clear HB; clear HI0; have BK109 := n0_; have HO114 := n1_; have BK124 := n2_; have HK := n3_; have HB := n4_; have HI0 := n5_; clear n0_ n1_ n2_ n3_ n4_ n5_
                         (try clear hb)
                         (try clear hb2)
                         (try clear hk)
                         (try clear hi)
                         refine hK.out _ _ trivial (fun hHeld => ?_)
                         clear hK K
                         refine norm_ (a' := ?_) ?_ ?_
                         rotate_left
                         ·show Act.put _ (some 12) _ = _
                          simp only [Act.put, List.setIfInBounds_toArray, List.set_cons_zero, List.set_cons_succ, i64_w, i32_w]
                          rfl
                         refine pure_ (i := 7) (N := some 13) (v := ?_) (a' := ?_) #[true, true, true, true, true, true, true, true, false, true, false, false, true, false, false, true, false, false, true, false] rfl rfl (any_of HT_.out (by kernel_rfl)) (fun _ _ _ h => h) (Or.inl ⟨by rfl, ?_⟩) ?_ ?_
                         rotate_left
                         ·intro w'
                          go_simp
                          with_reducible rfl
                         rotate_left
                         ·simp only [Act.put, List.setIfInBounds_toArray, List.set_cons_zero, List.set_cons_succ, i64_w, i32_w]
                          rfl
                         exact norm_ zPA0 (hJ3_4_6_18 (.slice (some adz_v113) y112.length co20, adz_v113, gb124) _ ⟨(rowx HO114.out), ⟨_, rfl⟩, blkx, blkx, GW124.out, GE124.out, NB0_124.out, NB124_0.out, NB109_124.out, NB124_109.out, zPA4, zPA2, zPA3⟩)
                       ·skip
                        rintro ⟨v113, adz_v113⟩ w19 ⟨h0_, h1_, h2_, h3_, h4_, h5_⟩
                        have n0_ : Aside0 (Kd.R (Kd.int .i64) 3 w19 w.heap.size (fun _ => True) v113 y112) := ⟨h0_⟩; have n1_ : Aside0 (∃ c_, (v113 : Value) = .slice (some adz_v113) y112.length c_) := ⟨h1_⟩; have n2_ : Aside0 (w19.heap[gb109]? = some (.cells #[.int .i64 0, .int .i64 0, .int .i64 0, .int .i64 0, .int .i64 0, .int .i64 0] 26 (0, 0))) := ⟨h2_⟩; have n3_ : Aside0 (IsS30 w0 w19 g s0_0 t116) := ⟨h3_⟩; have n4_ : Aside0 (KeepBut w w19 g none) := ⟨h4_⟩; have n5_ : Aside0 (Below w0.heap.size w0 w19) := ⟨h5_⟩; clear BK109; clear HI0; clear HK; clear HB; clear h0_ h1_ h2_ h3_ h4_ h5_; have HO114 := n0_; have HA_HO114 := n1_; have BK109 := n2_; have HI0 := n3_; have HK := n4_; have HB := n5_; clear n0_ n1_ n2_ n3_ n4_ n5_; have hHeld := trivial; obtain ⟨co20, eo20⟩ := HA_HO114.out; clear HA_HO114; subst eo20
                        refine norm_ (a' := ?_) ?_ ?_
                        rotate_left
                        ·simp only [putAll, Act.put, List.setIfInBounds_toArray, List.set_cons_zero, List.set_cons_succ]
                         rfl
                        refine three_ (i := 8) (j := 10) (k := 18) (Ni := some 14) (Nj := some 16) (Nk := some 5) #[true, true, true, true, true, true, true, true, true, true, false, false, true, false, false, true, false, false, false, false] #[true, true, true, true, true, true, true, true, false, true, true, false, true, false, false, true, false, false, false, false] #[true, true, true, true, true, true, true, true, false, true, false, false, true, false, false, true, false, false, true, false] rfl rfl rfl rfl rfl rfl (three_of HT_.out (by kernel_rfl)) (by decide) (by decide) (by decide) (fun K hK => ?_) (fun K hK => ?_) (fun K hK => ?_)
                        ·skip
                         (have p117 : 0 ≤ (t115 : Int) := of_decide_eq_true zPA7; have q117 : t115 < (y112.length : Int) := of_decide_eq_true zPA7; obtain ⟨ad117, e117, hx117_0⟩ := Kd.at_int (Kd.R_reads' HO114.out).2.2 t115 p117 q117; obtain rfl : adz_v113 = ad117 := (by injection e117))
                         refine value_ (w1 := ?_) (v := ?_) (by rfl) rfl ?_ ?_
                         rotate_left 2
                         ·go_simp
                          constructor
                          ·rfl
                          ·rfl
                         clear hx117_0
                         refine hK.out _ _ trivial (fun hHeld => ?_)
                         clear hK K
                         refine norm_ (a' := ?_) ?_ ?_
                         rotate_left
                         ·show Act.put _ (some 14) _ = _
                          simp only [Act.put, List.setIfInBounds_toArray, List.set_cons_zero, List.set_cons_succ, i64_w, i32_w]
                          rfl
                         exact norm_ zPA0 (hJ3_4_6_8 (.slice (some adz_v113) y112.length co20, adz_v113) _ ⟨(rowx HO114.out), ⟨_, rfl⟩, blkx, zPA6, zPA1, zPA5⟩)
                        ·skip
                         refine goes_ Try.func27 (by kernel_rfl) rfl #[.pointer (some ⟨g, 0, none⟩), .int .i64 4] (by rfl) rfl rfl argx ?_
                         with_reducible refine (customsmade_Source_Next.calls g s0_0 t116 4 t118 t119 w0 _ ?side1 ?side2 A7.out).mono ?_
                         (case side1 => repeat (first | (with_reducible first | exact HI0.out | apply IsS30.alloc | apply IsS30.drewN | apply IsS30.drew | apply IsS30.set_1 | refine IsS30.far ?_ NB0_109.out _) | exact HI0.out))
                         (case side2 => repeat (first | (with_reducible first | exact HB.out | apply below_alloc | apply pw_below_drewN | apply below_drew1 | refine below_set ?_ (IsS30.ge HI0.out) | refine below_set ?_ GE109.out) | exact HB.out))
                         rintro e w21 ⟨rfl, hi, hb, hk⟩
                         refine ⟨_, rfl, ?_⟩
                         have n0_ := Aside0.mk (KeepBut.blk hk (g' := gb109) (o := .cells #[.int .i64 0, .int .i64 0, .int .i64 0, .int .i64 0, .int .i64 0, .int .i64 0] 26 (0, 0)) blkx NB109_0.out (by simp))
                         have n1_ := Aside0.mk (Kd.R_mono (Kd.R_keep (IsS30.apart (show IsS30 w0 _ g s0_0 t116 from by repeat (first | (with_reducible first | exact HI0.out | apply IsS30.alloc | apply IsS30.drewN | apply IsS30.drew | apply IsS30.set_1 | refine IsS30.far ?_ NB0_109.out _) | exact HI0.out)) (rowx HO114.out) (by decide)) hk (fun _ h => h.2)) (fun _ h => h.1))
                         have n2_ := Aside0.mk (KeepBut.trans zPA1 hk (.inl rfl)); have n3_ := Aside0.mk (hb); have n4_ := Aside0.mk (hi); clear BK109; clear HO114; clear HK; clear HB; clear HI0; have BK109 := n0_; have HO114 := n1_; have HK := n2_; have HB := n3_; have HI0 := n4_; clear n0_ n1_ n2_ n3_ n4_
                         (try clear hb)
                         (try clear hb2)
                         (try clear hk)
                         (try clear hi)
                         refine hK.out _ _ trivial (fun hHeld => ?_)
                         clear hK K
                         refine norm_ (a' := ?_) ?_ ?_
                         rotate_left
                         ·show Act.put _ (some 16) _ = _
                          simp only [Act.put, List.setIfInBounds_toArray, List.set_cons_zero, List.set_cons_succ, i64_w, i32_w]
                          rfl
                         refine pure_ (i := 11) (N := some 17) (v := ?_) (a' := ?_) #[true, true, true, true, true, true, true, true, false, true, true, true, true, false, false, true, false, false, false, false] rfl rfl (any_of HT_.out (by kernel_rfl)) (fun _ _ _ h => h) (Or.inl ⟨by rfl, ?_⟩) ?_ ?_
                         rotate_left
                         ·intro w'
                          go_simp
                          with_reducible rfl
                         rotate_left
                         ·simp only [Act.put, List.setIfInBounds_toArray, List.set_cons_zero, List.set_cons_succ, i64_w, i32_w]
                          rfl
                         exact norm_ zPA0 (hJ3_4_6_10 (.slice (some adz_v113) y112.length co20, adz_v113) _ ⟨(rowx HO114.out), ⟨_, rfl⟩, blkx, zPA6, zPA1, zPA5⟩)
                        ·skip
                         refine box_step ?hg (N := 5) ?hd (cs := #[.int .i64 0, .int .i64 0, .int .i64 0, .int .i64 0, .int .i64 0, .int .i64 0]) (t := 26) ?hr ?_; (case hd => rfl); (case hg => rfl); (case hr => first | (go_simp; done) | (go_simp; rfl))
                         intro gb124 hg w21 hbox hb
                         have n0_ := Aside0.mk (Kd.R_below (rowx HO114.out) hb); have n1_ := Aside0.mk (IsS30.below zPA6 hb); have n2_ := Aside0.mk (blk_below (g := gb109) (o := .cells #[.int .i64 0, .int .i64 0, .int .i64 0, .int .i64 0, .int .i64 0, .int .i64 0] 26 (0, 0)) blkx hb); have n3_ := Aside0.mk (KeepBut.trans zPA1 (KeepBut.of_below hb g none) (.inl rfl)); have n4_ := Aside0.mk (below_step zPA5 hb); have n5_ := Aside0.mk (hbox); have n6_ := Aside0.mk ((by rw [hg]; exact (keep_size (w := w) (g := g) (row := none) zPA1) : w.heap.size ≤ gb124)); have n7_ := Aside0.mk ((Nat.le_trans HW0.out (by rw [hg]; exact (keep_size (w := w) (g := g) (row := none) zPA1) : w.heap.size ≤ gb124) : w0.heap.size ≤ gb124)); have n8_ := Aside0.mk ((by rw [hg]; exact Nat.ne_of_lt (blk_lt (g := gb109) (o := .cells #[.int .i64 0, .int .i64 0, .int .i64 0, .int .i64 0, .int .i64 0, .int .i64 0] 26 (0, 0)) blkx) : gb109 ≠ gb124)); have n9_ := Aside0.mk ((by rw [hg]; exact Nat.ne_of_gt (blk_lt (g := gb109) (o := .cells #[.int .i64 0, .int .i64 0, .int .i64 0, .int .i64 0, .int .i64 0, .int .i64 0] 26 (0, 0)) blkx) : gb124 ≠ gb109))
                         have n10_ := Aside0.mk ((by rw [hg]; exact Nat.ne_of_lt (IsS30.lt (show IsS30 w0 _ g s0_0 t116 from by repeat (first | (with_reducible first | exact HI0.out | apply IsS30.alloc | apply IsS30.drewN | apply IsS30.drew | apply IsS30.set_1 | refine IsS30.far ?_ NB0_109.out _) | exact HI0.out))) : g ≠ gb124))
                         have n11_ := Aside0.mk ((by rw [hg]; exact Nat.ne_of_gt (IsS30.lt (show IsS30 w0 _ g s0_0 t116 from by repeat (first | (with_reducible first | exact HI0.out | apply IsS30.alloc | apply IsS30.drewN | apply IsS30.drew | apply IsS30.set_1 | refine IsS30.far ?_ NB0_109.out _) | exact HI0.out))) : gb124 ≠ g))
                         clear HO114; clear HI0; clear BK109; clear HK; clear HB; have HO114 := n0_; have HI0 := n1_; have BK109 := n2_; have HK := n3_; have HB := n4_; have BK124 := n5_; have GW124 := n6_; have GE124 := n7_; have NB109_124 := n8_; have NB124_109 := n9_; have NB0_124 := n10_; have NB124_0 := n11_; clear n0_ n1_ n2_ n3_ n4_ n5_ n6_ n7_ n8_ n9_ n10_ n11_; clear hb hbox hg
                         refine hK.out _ _ trivial (fun hHeld => ?_)
                         clear hK K
                         refine norm_ (a' := ?_) ?_ ?_
                         rotate_left
                         ·show Act.put _ (some 5) _ = _
                          simp only [Act.put, List.setIfInBounds_toArray, List.set_cons_zero, List.set_cons_succ, i64_w, i32_w]
                          rfl
                         exact norm_ zPA0 (hJ3_4_6_18 (.slice (some adz_v113) y112.length co20, adz_v113, gb124) _ ⟨(rowx HO114.out), ⟨_, rfl⟩, blkx, blkx, GW124.out, GE124.out, NB0_124.out, NB124_0.out, NB109_124.out, NB124_109.out, zPA4, zPA2, zPA3⟩)
                      ·skip
                       rintro gb124 w18 ⟨h0_, h1_, h2_, h3_, h4_, h5_, h6_, h7_, h8_, h9_, h10_⟩
                       have n0_ : Aside0 (w18.heap[gb109]? = some (.cells #[.int .i64 0, .int .i64 0, .int .i64 0, .int .i64 0, .int .i64 0, .int .i64 0] 26 (0, 0))) := ⟨h0_⟩; have n1_ : Aside0 (w18.heap[gb124]? = some (.cells #[.int .i64 0, .int .i64 0, .int .i64 0, .int .i64 0, .int .i64 0, .int .i64 0] 26 (0, 0))) := ⟨h1_⟩; have n2_ : Aside0 (w.heap.size ≤ gb124) := ⟨h2_⟩; have n3_ : Aside0 (w0.heap.size ≤ gb124) := ⟨h3_⟩; have n4_ : Aside0 (g ≠ gb124) := ⟨h4_⟩; have n5_ : Aside0 (gb124 ≠ g) := ⟨h5_⟩; have n6_ : Aside0 (gb109 ≠ gb124) := ⟨h6_⟩; have n7_ : Aside0 (gb124 ≠ gb109) := ⟨h7_⟩; have n8_ : Aside0 (IsS30 w0 w18 g s0_0 t119) := ⟨h8_⟩; have n9_ : Aside0 (KeepBut w w18 g none) := ⟨h9_⟩; have n10_ : Aside0 (Below w0.heap.size w0 w18) := ⟨h10_⟩; clear BK109; clear HI0; clear HK; clear HB; clear h0_ h1_ h2_ h3_ h4_ h5_ h6_ h7_ h8_ h9_ h10_; have BK109 := n0_; have BK124 := n1_; have GW124 := n2_; have GE124 := n3_; have NB0_124 := n4_; have NB124_0 := n5_; have NB109_124 := n6_; have NB124_109 := n7_; have HI0 := n8_; have HK := n9_; have HB := n10_; clear n0_ n1_ n2_ n3_ n4_ n5_ n6_ n7_ n8_ n9_ n10_; have hHeld := trivial
                       refine norm_ (a' := ?_) ?_ ?_
                       rotate_left
                       ·simp only [putAll, Act.put, List.setIfInBounds_toArray, List.set_cons_zero, List.set_cons_succ]
                        rfl
                       refine two_ (i := 4) (j := 13) (Ni := some 10) (Nj := some 19) #[true, true, true, true, true, true, true, false, false, true, true, true, true, false, false, true, false, false, true, false] #[true, true, true, true, false, true, true, false, false, true, true, true, true, true, false, true, false, false, true, false] rfl rfl rfl rfl (two_of HT_.out (by kernel_rfl)) (by decide) (by decide) (fun K hK => ?_) (fun K hK => ?_)
                       ·skip
                        refine Kd.R_lit_step (Kd.int .i64) _ 3 ?hg (N := 10) ?hd (xs := ([1, 1, 1, 2, 3, 3, 4, 5, 5, 6, 7, 8, 9] : List Int)) (inner := [.int .i64 1, .int .i64 1, .int .i64 1, .int .i64 2, .int .i64 3, .int .i64 3, .int .i64 4, .int .i64 5, .int .i64 5, .int .i64 6, .int .i64 7, .int .i64 8, .int .i64 9]) (ok := fun _ => True) (okp := fun _ => True) ?hr ?hp (fun _ hk => hk) trivial (Below.refl _ _) (Nat.le_refl _) (by simp) ?_; (case hd => rfl); (case hg => rfl); (case hr => first | (go_simp; done) | (go_simp; rfl)); (case hp => exact (Reps.one (show Kd.M (Kd.int .i64) _ _ _ 1 [.int .i64 1] from rfl) (Reps.one (show Kd.M (Kd.int .i64) _ _ _ 1 [.int .i64 1] from rfl) (Reps.one (show Kd.M (Kd.int .i64) _ _ _ 1 [.int .i64 1] from rfl) (Reps.one (show Kd.M (Kd.int .i64) _ _ _ 2 [.int .i64 2] from rfl) (Reps.one (show Kd.M (Kd.int .i64) _ _ _ 3 [.int .i64 3] from rfl) (Reps.one (show Kd.M (Kd.int .i64) _ _ _ 3 [.int .i64 3] from rfl) (Reps.one (show Kd.M (Kd.int .i64) _ _ _ 4 [.int .i64 4] from rfl) (Reps.one (show Kd.M (Kd.int .i64) _ _ _ 5 [.int .i64 5] from rfl) (Reps.one (show Kd.M (Kd.int .i64) _ _ _ 5 [.int .i64 5] from rfl) (Reps.one (show Kd.M (Kd.int .i64) _ _ _ 6 [.int .i64 6] from rfl) (Reps.one (show Kd.M (Kd.int .i64) _ _ _ 7 [.int .i64 7] from rfl) (Reps.one (show Kd.M (Kd.int .i64) _ _ _ 8 [.int .i64 8] from rfl) (Reps.one (show Kd.M (Kd.int .i64) _ _ _ 9 [.int .i64 9] from rfl) (Reps.none _ _)))))))))))))))
                        intro v113 w19 ho20 hb hg_ hnew_
                        clear hg_ hnew_
                        (first | rw [← Ny112.out] at ho20 | (simp only [Int.reduceToNat] at ho20; rw [← Ny112.out] at ho20))
                        have n0_ := Aside0.mk (Kd.R_lower ho20 (keep_size (w := w) (g := g) (row := none) zPA2)); have n1_ := Aside0.mk (IsS30.below zPA4 hb); have n2_ := Aside0.mk (blk_below (g := gb109) (o := .cells #[.int .i64 0, .int .i64 0, .int .i64 0, .int .i64 0, .int .i64 0, .int .i64 0] 26 (0, 0)) blkx hb); have n3_ := Aside0.mk (blk_below (g := gb124) (o := .cells #[.int .i64 0, .int .i64 0, .int .i64 0, .int .i64 0, .int .i64 0, .int .i64 0] 26 (0, 0)) blkx hb); have n4_ := Aside0.mk (KeepBut.trans zPA2 (KeepBut.of_below hb g none) (.inl rfl)); have n5_ := Aside0.mk (below_step zPA3 hb); clear HI0; clear BK109; clear BK124; clear HK; clear HB; have HO114 := n0_; have HI0 := n1_; have BK109 := n2_; have BK124 := n3_; have HK := n4_; have HB := n5_; clear n0_ n1_ n2_ n3_ n4_ n5_; clear hb ho20; obtain ⟨Ao21, co21, eo21⟩ := Kd.R_slice HO114.out; subst eo21; obtain ⟨ado21, fo21, _⟩ := Kd.at_int (Kd.R_reads' HO114.out).2.2 0 (by decide) (by rw [Ny112.out]; simp)
                        cases fo21
                        refine hK.out _ _ trivial (fun hHeld => ?_)
                        clear hK K
                        refine norm_ (a' := ?_) ?_ ?_
                        rotate_left
                        ·show Act.put _ (some 10) _ = _
                         simp only [Act.put, List.setIfInBounds_toArray, List.set_cons_zero, List.set_cons_succ, i64_w, i32_w]
                         rfl
                        refine pure_ (i := 7) (N := some 13) (v := ?_) (a' := ?_) #[true, true, true, true, true, true, true, true, false, true, true, true, true, false, false, true, false, false, true, false] rfl rfl (any_of HT_.out (by kernel_rfl)) (fun _ _ _ h => h) (Or.inl ⟨by rfl, ?_⟩) ?_ ?_
                        rotate_left
                        ·intro w'
                         go_simp
                         with_reducible rfl
                        rotate_left
                        ·simp only [Act.put, List.setIfInBounds_toArray, List.set_cons_zero, List.set_cons_succ, i64_w, i32_w]
                         rfl
                        exact norm_ zPA0 (hJ3_4_6_10_18 (.slice (some ado21) y112.length co21, ado21, gb124) _ ⟨(rowx HO114.out), ⟨_, rfl⟩, blkx, blkx, GW124.out, GE124.out, NB0_124.out, NB124_0.out, NB109_124.out, NB124_109.out, zPA4, zPA2, zPA3⟩)
                       ·skip
                        refine goes_ Try.func28 (by kernel_rfl) rfl #[.pointer (some ⟨g, 0, none⟩), .int .i64 50, .int .i64 1000000000000] (by rfl) rfl rfl argx ?_
                        with_reducible refine (customsmade_Small.calls g s0_0 t119 50 1000000000000 t120 t121 w0 _ ?side1 ?side2 A8.out).mono ?_
                        (case side1 => repeat (first | (with_reducible first | exact HI0.out | apply IsS30.alloc | apply IsS30.drewN | apply IsS30.drew | apply IsS30.set_1 | refine IsS30.far ?_ NB0_109.out _ | refine IsS30.far ?_ NB0_124.out _) | exact HI0.out))
                        (case side2 => repeat (first | (with_reducible first | exact HB.out | apply below_alloc | apply pw_below_drewN | apply below_drew1 | refine below_set ?_ (IsS30.ge HI0.out) | refine below_set ?_ GE109.out | refine below_set ?_ GE124.out) | exact HB.out))
                        rintro e w19 ⟨rfl, hi, hb, hk⟩
                        refine ⟨_, rfl, ?_⟩
                        have n0_ := Aside0.mk (KeepBut.blk hk (g' := gb109) (o := .cells #[.int .i64 0, .int .i64 0, .int .i64 0, .int .i64 0, .int .i64 0, .int .i64 0] 26 (0, 0)) blkx NB109_0.out (by simp)); have n1_ := Aside0.mk (KeepBut.blk hk (g' := gb124) (o := .cells #[.int .i64 0, .int .i64 0, .int .i64 0, .int .i64 0, .int .i64 0, .int .i64 0] 26 (0, 0)) blkx NB124_0.out (by simp)); have n2_ := Aside0.mk (KeepBut.trans zPA2 hk (.inl rfl)); have n3_ := Aside0.mk (hb); have n4_ := Aside0.mk (hi); clear BK109; clear BK124; clear HK; clear HB; clear HI0; have BK109 := n0_; have BK124 := n1_; have HK := n2_; have HB := n3_; have HI0 := n4_; clear n0_ n1_ n2_ n3_ n4_
                        (try clear hb)
                        (try clear hb2)
                        (try clear hk)
                        (try clear hi)
                        refine hK.out _ _ trivial (fun hHeld => ?_)
                        clear hK K
                        refine norm_ (a' := ?_) ?_ ?_
                        rotate_left
                        ·show Act.put _ (some 19) _ = _
                         simp only [Act.put, List.setIfInBounds_toArray, List.set_cons_zero, List.set_cons_succ, i64_w, i32_w]
                         rfl
                        refine pure_ (i := 14) (N := some 20) (v := ?_) (a' := ?_) #[true, true, true, true, false, true, true, false, false, true, true, true, true, true, true, true, false, false, true, false] rfl rfl (any_of HT_.out (by kernel_rfl)) (fun _ _ _ h => h) (Or.inl ⟨by rfl, ?_⟩) ?_ ?_
                        rotate_left
                        ·intro w'
                         go_simp
                         with_reducible rfl
                        rotate_left
                        ·simp only [Act.put, List.setIfInBounds_toArray, List.set_cons_zero, List.set_cons_succ, i64_w, i32_w]
                         rfl
                        exact norm_ zPA0 (hJ3_6_10_13_18 (gb124) _ ⟨blkx, blkx, GW124.out, GE124.out, NB0_124.out, NB124_0.out, NB109_124.out, NB124_109.out, zPA4, zPA2, zPA3⟩)
                     ·skip
                      rintro _ w18 ⟨h0_, h1_, h2_, h3_⟩
                      have n0_ : Aside0 (w18.heap[gb109]? = some (.cells #[.int .i64 0, .int .i64 0, .int .i64 0, .int .i64 0, .int .i64 0, .int .i64 0] 26 (0, 0))) := ⟨h0_⟩; have n1_ : Aside0 (IsS30 w0 w18 g s0_0 t121) := ⟨h1_⟩; have n2_ : Aside0 (KeepBut w w18 g none) := ⟨h2_⟩; have n3_ : Aside0 (Below w0.heap.size w0 w18) := ⟨h3_⟩; clear BK109; clear HI0; clear HK; clear HB; clear h0_ h1_ h2_ h3_; have BK109 := n0_; have HI0 := n1_; have HK := n2_; have HB := n3_; clear n0_ n1_ n2_ n3_; have hHeld := trivial
                      refine norm_ (a' := ?_) ?_ ?_
                      rotate_left
                      ·simp only [putAll, Act.put, List.setIfInBounds_toArray, List.set_cons_zero, List.set_cons_succ]
                       rfl
                      refine three_ (i := 4) (j := 16) (k := 18) (Ni := some 10) (Nj := some 22) (Nk := some 5) #[true, true, true, true, true, true, true, false, false, true, true, true, true, true, true, true, false, false, false, false] #[true, true, true, true, false, true, true, false, false, true, true, true, true, true, true, true, true, false, false, false] #[true, true, true, true, false, true, true, false, false, true, true, true, true, true, true, true, false, false, true, false] rfl rfl rfl rfl rfl rfl (three_of HT_.out (by kernel_rfl)) (by decide) (by decide) (by decide) (fun K hK => ?_) (fun K hK => ?_) (fun K hK => ?_)
                      ·skip
                       refine Kd.R_lit_step (Kd.int .i64) _ 3 ?hg (N := 10) ?hd (xs := ([1, 1, 1, 2, 3, 3, 4, 5, 5, 6, 7, 8, 9] : List Int)) (inner := [.int .i64 1, .int .i64 1, .int .i64 1, .int .i64 2, .int .i64 3, .int .i64 3, .int .i64 4, .int .i64 5, .int .i64 5, .int .i64 6, .int .i64 7, .int .i64 8, .int .i64 9]) (ok := fun _ => True) (okp := fun _ => True) ?hr ?hp (fun _ hk => hk) trivial (Below.refl _ _) (Nat.le_refl _) (by simp) ?_; (case hd => rfl); (case hg => rfl); (case hr => first | (go_simp; done) | (go_simp; rfl)); (case hp => exact (Reps.one (show Kd.M (Kd.int .i64) _ _ _ 1 [.int .i64 1] from rfl) (Reps.one (show Kd.M (Kd.int .i64) _ _ _ 1 [.int .i64 1] from rfl) (Reps.one (show Kd.M (Kd.int .i64) _ _ _ 1 [.int .i64 1] from rfl) (Reps.one (show Kd.M (Kd.int .i64) _ _ _ 2 [.int .i64 2] from rfl) (Reps.one (show Kd.M (Kd.int .i64) _ _ _ 3 [.int .i64 3] from rfl) (Reps.one (show Kd.M (Kd.int .i64) _ _ _ 3 [.int .i64 3] from rfl) (Reps.one (show Kd.M (Kd.int .i64) _ _ _ 4 [.int .i64 4] from rfl) (Reps.one (show Kd.M (Kd.int .i64) _ _ _ 5 [.int .i64 5] from rfl) (Reps.one (show Kd.M (Kd.int .i64) _ _ _ 5 [.int .i64 5] from rfl) (Reps.one (show Kd.M (Kd.int .i64) _ _ _ 6 [.int .i64 6] from rfl) (Reps.one (show Kd.M (Kd.int .i64) _ _ _ 7 [.int .i64 7] from rfl) (Reps.one (show Kd.M (Kd.int .i64) _ _ _ 8 [.int .i64 8] from rfl) (Reps.one (show Kd.M (Kd.int .i64) _ _ _ 9 [.int .i64 9] from rfl) (Reps.none _ _)))))))))))))))
                       intro v113 w19 ho20 hb hg_ hnew_
                       clear hg_ hnew_
                       (first | rw [← Ny112.out] at ho20 | (simp only [Int.reduceToNat] at ho20; rw [← Ny112.out] at ho20))
                       have n0_ := Aside0.mk (Kd.R_lower ho20 (keep_size (w := w) (g := g) (row := none) zPA1)); have n1_ := Aside0.mk (IsS30.below zPA6 hb); have n2_ := Aside0.mk (blk_below (g := gb109) (o := .cells #[.int .i64 0, .int .i64 0, .int .i64 0, .int .i64 0, .int .i64 0, .int .i64 0] 26 (0, 0)) blkx hb); have n3_ := Aside0.mk (KeepBut.trans zPA1 (KeepBut.of_below hb g none) (.inl rfl)); have n4_ := Aside0.mk (below_step zPA5 hb); clear HI0; clear BK109; clear HK; clear HB; have HO114 := n0_; have HI0 := n1_; have BK109 := n2_; have HK := n3_; have HB := n4_; clear n0_ n1_ n2_ n3_ n4_; clear hb ho20; obtain ⟨Ao21, co21, eo21⟩ := Kd.R_slice HO114.out; subst eo21; obtain ⟨ado21, fo21, _⟩ := Kd.at_int (Kd.R_reads' HO114.out).2.2 0 (by decide) (by rw [Ny112.out]; simp)
                       cases fo21
                       refine hK.out _ _ trivial (fun hHeld => ?_)
                       clear hK K
                       refine norm_ (a' := ?_) ?_ ?_
                       rotate_left
                       ·show Act.put _ (some 10) _ = _
                        simp only [Act.put, List.setIfInBounds_toArray, List.set_cons_zero, List.set_cons_succ, i64_w, i32_w]
                        rfl
                       refine pure_ (i := 7) (N := some 13) (v := ?_) (a' := ?_) #[true, true, true, true, true, true, true, true, false, true, true, true, true, true, true, true, false, false, false, false] rfl rfl (any_of HT_.out (by kernel_rfl)) (fun _ _ _ h => h) (Or.inl ⟨by rfl, ?_⟩) ?_ ?_
                       rotate_left
                       ·intro w'
                        go_simp
                        with_reducible rfl
                       rotate_left
                       ·simp only [Act.put, List.setIfInBounds_toArray, List.set_cons_zero, List.set_cons_succ, i64_w, i32_w]
                        rfl
                       exact norm_ zPA0 (hJ3_4_6_10_13 (.slice (some ado21) y112.length co21, ado21) _ ⟨(rowx HO114.out), ⟨_, rfl⟩, blkx, zPA6, zPA1, zPA5⟩)
                      ·skip
                       refine goes_ Try.func27 (by kernel_rfl) rfl #[.pointer (some ⟨g, 0, none⟩), .int .i64 9] (by rfl) rfl rfl argx ?_
                       with_reducible refine (customsmade_Source_Next.calls g s0_0 t121 9 t122 t123 w0 _ ?side1 ?side2 A9.out).mono ?_
                       (case side1 => repeat (first | (with_reducible first | exact HI0.out | apply IsS30.alloc | apply IsS30.drewN | apply IsS30.drew | apply IsS30.set_1 | refine IsS30.far ?_ NB0_109.out _) | exact HI0.out))
                       (case side2 => repeat (first | (with_reducible first | exact HB.out | apply below_alloc | apply pw_below_drewN | apply below_drew1 | refine below_set ?_ (IsS30.ge HI0.out) | refine below_set ?_ GE109.out) | exact HB.out))
                       rintro e w19 ⟨rfl, hi, hb, hk⟩
                       refine ⟨_, rfl, ?_⟩
                       have n0_ := Aside0.mk (KeepBut.blk hk (g' := gb109) (o := .cells #[.int .i64 0, .int .i64 0, .int .i64 0, .int .i64 0, .int .i64 0, .int .i64 0] 26 (0, 0)) blkx NB109_0.out (by simp)); have n1_ := Aside0.mk (KeepBut.trans zPA1 hk (.inl rfl)); have n2_ := Aside0.mk (hb); have n3_ := Aside0.mk (hi); clear BK109; clear HK; clear HB; clear HI0; have BK109 := n0_; have HK := n1_; have HB := n2_; have HI0 := n3_; clear n0_ n1_ n2_ n3_
                       (try clear hb)
                       (try clear hb2)
                       (try clear hk)
                       (try clear hi)
                       refine hK.out _ _ trivial (fun hHeld => ?_)
                       clear hK K
                       refine norm_ (a' := ?_) ?_ ?_
                       rotate_left
                       ·show Act.put _ (some 22) _ = _
                        simp only [Act.put, List.setIfInBounds_toArray, List.set_cons_zero, List.set_cons_succ, i64_w, i32_w]
                        rfl
                       exact norm_ zPA0 (hJ3_6_10_13_16 () _ ⟨blkx, zPA6, zPA1, zPA5⟩)
                      ·skip
                       refine box_step ?hg (N := 5) ?hd (cs := #[.int .i64 0, .int .i64 0, .int .i64 0, .int .i64 0, .int .i64 0, .int .i64 0]) (t := 26) ?hr ?_; (case hd => rfl); (case hg => rfl); (case hr => first | (go_simp; done) | (go_simp; rfl))
                       intro gb124 hg w19 hbox hb
                       have n0_ := Aside0.mk (IsS30.below zPA6 hb); have n1_ := Aside0.mk (blk_below (g := gb109) (o := .cells #[.int .i64 0, .int .i64 0, .int .i64 0, .int .i64 0, .int .i64 0, .int .i64 0] 26 (0, 0)) blkx hb); have n2_ := Aside0.mk (KeepBut.trans zPA1 (KeepBut.of_below hb g none) (.inl rfl)); have n3_ := Aside0.mk (below_step zPA5 hb); have n4_ := Aside0.mk (hbox); have n5_ := Aside0.mk ((by rw [hg]; exact (keep_size (w := w) (g := g) (row := none) zPA1) : w.heap.size ≤ gb124)); have n6_ := Aside0.mk ((Nat.le_trans HW0.out (by rw [hg]; exact (keep_size (w := w) (g := g) (row := none) zPA1) : w.heap.size ≤ gb124) : w0.heap.size ≤ gb124)); have n7_ := Aside0.mk ((by rw [hg]; exact Nat.ne_of_lt (blk_lt (g := gb109) (o := .cells #[.int .i64 0, .int .i64 0, .int .i64 0, .int .i64 0, .int .i64 0, .int .i64 0] 26 (0, 0)) blkx) : gb109 ≠ gb124)); have n8_ := Aside0.mk ((by rw [hg]; exact Nat.ne_of_gt (blk_lt (g := gb109) (o := .cells #[.int .i64 0, .int .i64 0, .int .i64 0, .int .i64 0, .int .i64 0, .int .i64 0] 26 (0, 0)) blkx) : gb124 ≠ gb109))
                       have n9_ := Aside0.mk ((by rw [hg]; exact Nat.ne_of_lt (IsS30.lt (show IsS30 w0 _ g s0_0 t121 from by repeat (first | (with_reducible first | exact HI0.out | apply IsS30.alloc | apply IsS30.drewN | apply IsS30.drew | apply IsS30.set_1 | refine IsS30.far ?_ NB0_109.out _) | exact HI0.out))) : g ≠ gb124))
                       have n10_ := Aside0.mk ((by rw [hg]; exact Nat.ne_of_gt (IsS30.lt (show IsS30 w0 _ g s0_0 t121 from by repeat (first | (with_reducible first | exact HI0.out | apply IsS30.alloc | apply IsS30.drewN | apply IsS30.drew | apply IsS30.set_1 | refine IsS30.far ?_ NB0_109.out _) | exact HI0.out))) : gb124 ≠ g))
                       clear HI0; clear BK109; clear HK; clear HB; have HI0 := n0_; have BK109 := n1_; have HK := n2_; have HB := n3_; have BK124 := n4_; have GW124 := n5_; have GE124 := n6_; have NB109_124 := n7_; have NB124_109 := n8_; have NB0_124 := n9_; have NB124_0 := n10_; clear n0_ n1_ n2_ n3_ n4_ n5_ n6_ n7_ n8_ n9_ n10_; clear hb hbox hg
                       refine hK.out _ _ trivial (fun hHeld => ?_)
                       clear hK K
                       refine norm_ (a' := ?_) ?_ ?_
                       rotate_left
                       ·show Act.put _ (some 5) _ = _
                        simp only [Act.put, List.setIfInBounds_toArray, List.set_cons_zero, List.set_cons_succ, i64_w, i32_w]
                        rfl
                       exact norm_ zPA0 (hJ3_6_10_13_18 (gb124) _ ⟨blkx, blkx, GW124.out, GE124.out, NB0_124.out, NB124_0.out, NB109_124.out, NB124_109.out, zPA4, zPA2, zPA3⟩)
                    ·skip
                     rintro ⟨v113, adz_v113, gb124⟩ w20 ⟨h0_, h1_, h2_, h3_, h4_, h5_, h6_, h7_, h8_, h9_, h10_, h11_, h12_⟩
                     have n0_ : Aside0 (Kd.R (Kd.int .i64) 3 w20 w.heap.size (fun _ => True) v113 y112) := ⟨h0_⟩; have n1_ : Aside0 (∃ c_, (v113 : Value) = .slice (some adz_v113) y112.length c_) := ⟨h1_⟩; have n2_ : Aside0 (w20.heap[gb109]? = some (.cells #[.int .i64 0, .int .i64 0, .int .i64 0, .int .i64 0, .int .i64 0, .int .i64 0] 26 (0, 0))) := ⟨h2_⟩; have n3_ : Aside0 (w20.heap[gb124]? = some (.cells #[.int .i64 0, .int .i64 0, .int .i64 0, .int .i64 0, .int .i64 0, .int .i64 0] 26 (0, 0))) := ⟨h3_⟩; have n4_ : Aside0 (w.heap.size ≤ gb124) := ⟨h4_⟩; have n5_ : Aside0 (w0.heap.size ≤ gb124) := ⟨h5_⟩; have n6_ : Aside0 (g ≠ gb124) := ⟨h6_⟩; have n7_ : Aside0 (gb124 ≠ g) := ⟨h7_⟩; have n8_ : Aside0 (gb109 ≠ gb124) := ⟨h8_⟩; have n9_ : Aside0 (gb124 ≠ gb109) := ⟨h9_⟩; have n10_ : Aside0 (IsS30 w0 w20 g s0_0 t116) := ⟨h10_⟩; have n11_ : Aside0 (KeepBut w w20 g none) := ⟨h11_⟩; have n12_ : Aside0 (Below w0.heap.size w0 w20) := ⟨h12_⟩; clear BK109; clear HI0; clear HK; clear HB; clear h0_ h1_ h2_ h3_ h4_ h5_ h6_ h7_ h8_ h9_ h10_ h11_ h12_; have HO114 := n0_; have HA_HO114 := n1_; have BK109 := n2_; have BK124 := n3_; have GW124 := n4_; have GE124 := n5_; have NB0_124 := n6_; have NB124_0 := n7_; have NB109_124 := n8_; have NB124_109 := n9_; have HI0 := n10_; have HK := n11_; have HB := n12_; clear n0_ n1_ n2_ n3_ n4_ n5_ n6_ n7_ n8_ n9_ n10_ n11_ n12_; have hHeld := trivial; obtain ⟨co21, eo21⟩ := HA_HO114.out; clear HA_HO114; subst eo21
                     refine norm_ (a' := ?_) ?_ ?_
                     rotate_left
                     ·simp only [putAll, Act.put, List.setIfInBounds_toArray, List.set_cons_zero, List.set_cons_succ]
                      rfl
                     refine two_ (i := 8) (j := 10) (Ni := some 14) (Nj := some 16) #[true, true, true, true, true, true, true, true, true, true, false, false, true, false, false, true, false, false, true, false] #[true, true, true, true, true, true, true, true, false, true, true, false, true, false, false, true, false, false, true, false] rfl rfl rfl rfl (two_of HT_.out (by kernel_rfl)) (by decide) (by decide) (fun K hK => ?_) (fun K hK => ?_)
                     ·skip
                      (have p117 : 0 ≤ (t115 : Int) := of_decide_eq_true zPA7; have q117 : t115 < (y112.length : Int) := of_decide_eq_true zPA7; obtain ⟨ad117, e117, hx117_0⟩ := Kd.at_int (Kd.R_reads' HO114.out).2.2 t115 p117 q117; obtain rfl : adz_v113 = ad117 := (by injection e117))
                      refine value_ (w1 := ?_) (v := ?_) (by rfl) rfl ?_ ?_
                      rotate_left 2
                      ·go_simp
                       constructor
                       ·rfl
                       ·rfl
                      clear hx117_0
                      refine hK.out _ _ trivial (fun hHeld => ?_)
                      clear hK K
                      refine norm_ (a' := ?_) ?_ ?_
                      rotate_left
                      ·show Act.put _ (some 14) _ = _
                       simp only [Act.put, List.setIfInBounds_toArray, List.set_cons_zero, List.set_cons_succ, i64_w, i32_w]
                       rfl
                      exact norm_ zPA0 (hJ3_4_6_8_18 (.slice (some adz_v113) y112.length co21, adz_v113, gb124) _ ⟨(rowx HO114.out), ⟨_, rfl⟩, blkx, blkx, GW124.out, GE124.out, NB0_124.out, NB124_0.out, NB109_124.out, NB124_109.out, zPA4, zPA2, zPA3⟩)
                     ·skip
                      refine goes_ Try.func27 (by kernel_rfl) rfl #[.pointer (some ⟨g, 0, none⟩), .int .i64 4] (by rfl) rfl rfl argx ?_
                      with_reducible refine (customsmade_Source_Next.calls g s0_0 t116 4 t118 t119 w0 _ ?side1 ?side2 A7.out).mono ?_
                      (case side1 => repeat (first | (with_reducible first | exact HI0.out | apply IsS30.alloc | apply IsS30.drewN | apply IsS30.drew | apply IsS30.set_1 | refine IsS30.far ?_ NB0_109.out _ | refine IsS30.far ?_ NB0_124.out _) | exact HI0.out))
                      (case side2 => repeat (first | (with_reducible first | exact HB.out | apply below_alloc | apply pw_below_drewN | apply below_drew1 | refine below_set ?_ (IsS30.ge HI0.out) | refine below_set ?_ GE109.out | refine below_set ?_ GE124.out) | exact HB.out))
                      rintro e w22 ⟨rfl, hi, hb, hk⟩
                      refine ⟨_, rfl, ?_⟩
                      have n0_ := Aside0.mk (KeepBut.blk hk (g' := gb109) (o := .cells #[.int .i64 0, .int .i64 0, .int .i64 0, .int .i64 0, .int .i64 0, .int .i64 0] 26 (0, 0)) blkx NB109_0.out (by simp))
                      have n1_ := Aside0.mk (Kd.R_mono (Kd.R_keep (IsS30.apart (show IsS30 w0 _ g s0_0 t116 from by repeat (first | (with_reducible first | exact HI0.out | apply IsS30.alloc | apply IsS30.drewN | apply IsS30.drew | apply IsS30.set_1 | refine IsS30.far ?_ NB0_109.out _ | refine IsS30.far ?_ NB0_124.out _) | exact HI0.out)) (rowx HO114.out) (by decide)) hk (fun _ h => h.2)) (fun _ h => h.1))
                      have n2_ := Aside0.mk (KeepBut.blk hk (g' := gb124) (o := .cells #[.int .i64 0, .int .i64 0, .int .i64 0, .int .i64 0, .int .i64 0, .int .i64 0] 26 (0, 0)) blkx NB124_0.out (by simp)); have n3_ := Aside0.mk (KeepBut.trans zPA2 hk (.inl rfl)); have n4_ := Aside0.mk (hb); have n5_ := Aside0.mk (hi); clear BK109; clear HO114; clear BK124; clear HK; clear HB; clear HI0; have BK109 := n0_; have HO114 := n1_; have BK124 := n2_; have HK := n3_; have HB := n4_; have HI0 := n5_; clear n0_ n1_ n2_ n3_ n4_ n5_
                      (try clear hb)
                      (try clear hb2)
                      (try clear hk)
                      (try clear hi)
                      refine hK.out _ _ trivial (fun hHeld => ?_)
                      clear hK K
                      refine norm_ (a' := ?_) ?_ ?_
                      rotate_left
                      ·show Act.put _ (some 16) _ = _
                       simp only [Act.put, List.setIfInBounds_toArray, List.set_cons_zero, List.set_cons_succ, i64_w, i32_w]
                       rfl
                      refine pure_ (i := 11) (N := some 17) (v := ?_) (a' := ?_) #[true, true, true, true, true, true, true, true, false, true, true, true, true, false, false, true, false, false, true, false] rfl rfl (any_of HT_.out (by kernel_rfl)) (fun _ _ _ h => h) (Or.inl ⟨by rfl, ?_⟩) ?_ ?_
                      rotate_left
                      ·intro w'
                       go_simp
                       with_reducible rfl
                      rotate_left
                      ·simp only [Act.put, List.setIfInBounds_toArray, List.set_cons_zero, List.set_cons_succ, i64_w, i32_w]
                       rfl
                      exact norm_ zPA0 (hJ3_4_6_10_18 (.slice (some adz_v113) y112.length co21, adz_v113, gb124) _ ⟨(rowx HO114.out), ⟨_, rfl⟩, blkx, blkx, GW124.out, GE124.out, NB0_124.out, NB124_0.out, NB109_124.out, NB124_109.out, zPA4, zPA2, zPA3⟩)
                   ·skip
                    rintro ⟨v113, adz_v113⟩ w20 ⟨h0_, h1_, h2_, h3_, h4_, h5_⟩
                    have n0_ : Aside0 (Kd.R (Kd.int .i64) 3 w20 w.heap.size (fun _ => True) v113 y112) := ⟨h0_⟩; have n1_ : Aside0 (∃ c_, (v113 : Value) = .slice (some adz_v113) y112.length c_) := ⟨h1_⟩; have n2_ : Aside0 (w20.heap[gb109]? = some (.cells #[.int .i64 0, .int .i64 0, .int .i64 0, .int .i64 0, .int .i64 0, .int .i64 0] 26 (0, 0))) := ⟨h2_⟩; have n3_ : Aside0 (IsS30 w0 w20 g s0_0 t119) := ⟨h3_⟩; have n4_ : Aside0 (KeepBut w w20 g none) := ⟨h4_⟩; have n5_ : Aside0 (Below w0.heap.size w0 w20) := ⟨h5_⟩; clear BK109; clear HI0; clear HK; clear HB; clear h0_ h1_ h2_ h3_ h4_ h5_; have HO114 := n0_; have HA_HO114 := n1_; have BK109 := n2_; have HI0 := n3_; have HK := n4_; have HB := n5_; clear n0_ n1_ n2_ n3_ n4_ n5_; have hHeld := trivial; obtain ⟨co21, eo21⟩ := HA_HO114.out; clear HA_HO114; subst eo21
                    refine norm_ (a' := ?_) ?_ ?_
                    rotate_left
                    ·simp only [putAll, Act.put, List.setIfInBounds_toArray, List.set_cons_zero, List.set_cons_succ]
                     rfl
                    refine three_ (i := 8) (j := 13) (k := 18) (Ni := some 14) (Nj := some 19) (Nk := some 5) #[true, true, true, true, true, true, true, true, true, true, true, true, true, false, false, true, false, false, false, false] #[true, true, true, true, true, true, true, true, false, true, true, true, true, true, false, true, false, false, false, false] #[true, true, true, true, true, true, true, true, false, true, true, true, true, false, false, true, false, false, true, false] rfl rfl rfl rfl rfl rfl (three_of HT_.out (by kernel_rfl)) (by decide) (by decide) (by decide) (fun K hK => ?_) (fun K hK => ?_) (fun K hK => ?_)
                    ·skip
                     (have p117 : 0 ≤ (t115 : Int) := of_decide_eq_true zPA7; have q117 : t115 < (y112.length : Int) := of_decide_eq_true zPA7; obtain ⟨ad117, e117, hx117_0⟩ := Kd.at_int (Kd.R_reads' HO114.out).2.2 t115 p117 q117; obtain rfl : adz_v113 = ad117 := (by injection e117))
                     refine value_ (w1 := ?_) (v := ?_) (by rfl) rfl ?_ ?_
                     rotate_left 2
                     ·go_simp
                      constructor
                      ·rfl
                      ·rfl
                     clear hx117_0
                     refine hK.out _ _ trivial (fun hHeld => ?_)
                     clear hK K
                     refine norm_ (a' := ?_) ?_ ?_
                     rotate_left
                     ·show Act.put _ (some 14) _ = _
                      simp only [Act.put, List.setIfInBounds_toArray, List.set_cons_zero, List.set_cons_succ, i64_w, i32_w]
                      rfl
                     exact norm_ zPA0 (hJ3_4_6_8_10 (.slice (some adz_v113) y112.length co21, adz_v113) _ ⟨(rowx HO114.out), ⟨_, rfl⟩, blkx, zPA6, zPA1, zPA5⟩)
                    ·skip
                     refine goes_ Try.func28 (by kernel_rfl) rfl #[.pointer (some ⟨g, 0, none⟩), .int .i64 50, .int .i64 1000000000000] (by rfl) rfl rfl argx ?_
                     with_reducible refine (customsmade_Small.calls g s0_0 t119 50 1000000000000 t120 t121 w0 _ ?side1 ?side2 A8.out).mono ?_
                     (case side1 => repeat (first | (with_reducible first | exact HI0.out | apply IsS30.alloc | apply IsS30.drewN | apply IsS30.drew | apply IsS30.set_1 | refine IsS30.far ?_ NB0_109.out _) | exact HI0.out))
                     (case side2 => repeat (first | (with_reducible first | exact HB.out | apply below_alloc | apply pw_below_drewN | apply below_drew1 | refine below_set ?_ (IsS30.ge HI0.out) | refine below_set ?_ GE109.out) | exact HB.out))
                     rintro e w22 ⟨rfl, hi, hb, hk⟩
                     refine ⟨_, rfl, ?_⟩
                     have n0_ := Aside0.mk (KeepBut.blk hk (g' := gb109) (o := .cells #[.int .i64 0, .int .i64 0, .int .i64 0, .int .i64 0, .int .i64 0, .int .i64 0] 26 (0, 0)) blkx NB109_0.out (by simp))
                     have n1_ := Aside0.mk (Kd.R_mono (Kd.R_keep (IsS30.apart (show IsS30 w0 _ g s0_0 t119 from by repeat (first | (with_reducible first | exact HI0.out | apply IsS30.alloc | apply IsS30.drewN | apply IsS30.drew | apply IsS30.set_1 | refine IsS30.far ?_ NB0_109.out _) | exact HI0.out)) (rowx HO114.out) (by decide)) hk (fun _ h => h.2)) (fun _ h => h.1))
                     have n2_ := Aside0.mk (KeepBut.trans zPA1 hk (.inl rfl)); have n3_ := Aside0.mk (hb); have n4_ := Aside0.mk (hi); clear BK109; clear HO114; clear HK; clear HB; clear HI0; have BK109 := n0_; have HO114 := n1_; have HK := n2_; have HB := n3_; have HI0 := n4_; clear n0_ n1_ n2_ n3_ n4_
                     (try clear hb)
                     (try clear hb2)
                     (try clear hk)
                     (try clear hi)
                     refine hK.out _ _ trivial (fun hHeld => ?_)
                     clear hK K
                     refine norm_ (a' := ?_) ?_ ?_
                     rotate_left
                     ·show Act.put _ (some 19) _ = _
                      simp only [Act.put, List.setIfInBounds_toArray, List.set_cons_zero, List.set_cons_succ, i64_w, i32_w]
                      rfl
                     refine pure_ (i := 14) (N := some 20) (v := ?_) (a' := ?_) #[true, true, true, true, true, true, true, true, false, true, true, true, true, true, true, true, false, false, false, false] rfl rfl (any_of HT_.out (by kernel_rfl)) (fun _ _ _ h => h) (Or.inl ⟨by rfl, ?_⟩) ?_ ?_
                     rotate_left
                     ·intro w'
                      go_simp
                      with_reducible rfl
                     rotate_left
                     ·simp only [Act.put, List.setIfInBounds_toArray, List.set_cons_zero, List.set_cons_succ, i64_w, i32_w]
                      rfl
                     exact norm_ zPA0 (hJ3_4_6_10_13 (.slice (some adz_v113) y112.length co21, adz_v113) _ ⟨(rowx HO114.out), ⟨_, rfl⟩, blkx, zPA6, zPA1, zPA5⟩)
                    ·skip
                     refine box_step ?hg (N := 5) ?hd (cs := #[.int .i64 0, .int .i64 0, .int .i64 0, .int .i64 0, .int .i64 0, .int .i64 0]) (t := 26) ?hr ?_; (case hd => rfl); (case hg => rfl); (case hr => first | (go_simp; done) | (go_simp; rfl))
                     intro gb124 hg w22 hbox hb
                     have n0_ := Aside0.mk (Kd.R_below (rowx HO114.out) hb); have n1_ := Aside0.mk (IsS30.below zPA6 hb); have n2_ := Aside0.mk (blk_below (g := gb109) (o := .cells #[.int .i64 0, .int .i64 0, .int .i64 0, .int .i64 0, .int .i64 0, .int .i64 0] 26 (0, 0)) blkx hb); have n3_ := Aside0.mk (KeepBut.trans zPA1 (KeepBut.of_below hb g none) (.inl rfl)); have n4_ := Aside0.mk (below_step zPA5 hb); have n5_ := Aside0.mk (hbox); have n6_ := Aside0.mk ((by rw [hg]; exact (keep_size (w := w) (g := g) (row := none) zPA1) : w.heap.size ≤ gb124)); have n7_ := Aside0.mk ((Nat.le_trans HW0.out (by rw [hg]; exact (keep_size (w := w) (g := g) (row := none) zPA1) : w.heap.size ≤ gb124) : w0.heap.size ≤ gb124)); have n8_ := Aside0.mk ((by rw [hg]; exact Nat.ne_of_lt (blk_lt (g := gb109) (o := .cells #[.int .i64 0, .int .i64 0, .int .i64 0, .int .i64 0, .int .i64 0, .int .i64 0] 26 (0, 0)) blkx) : gb109 ≠ gb124)); have n9_ := Aside0.mk ((by rw [hg]; exact Nat.ne_of_gt (blk_lt (g := gb109) (o := .cells #[.int .i64 0, .int .i64 0, .int .i64 0, .int .i64 0, .int .i64 0, .int .i64 0] 26 (0, 0)) blkx) : gb124 ≠ gb109))
                     have n10_ := Aside0.mk ((by rw [hg]; exact Nat.ne_of_lt (IsS30.lt (show IsS30 w0 _ g s0_0 t119 from by repeat (first | (with_reducible first | exact HI0.out | apply IsS30.alloc | apply IsS30.drewN | apply IsS30.drew | apply IsS30.set_1 | refine IsS30.far ?_ NB0_109.out _) | exact HI0.out))) : g ≠ gb124))
                     have n11_ := Aside0.mk ((by rw [hg]; exact Nat.ne_of_gt (IsS30.lt (show IsS30 w0 _ g s0_0 t119 from by repeat (first | (with_reducible first | exact HI0.out | apply IsS30.alloc | apply IsS30.drewN | apply IsS30.drew | apply IsS30.set_1 | refine IsS30.far ?_ NB0_109.out _) | exact HI0.out))) : gb124 ≠ g))
                     clear HO114; clear HI0; clear BK109; clear HK; clear HB; have HO114 := n0_; have HI0 := n1_; have BK109 := n2_; have HK := n3_; have HB := n4_; have BK124 := n5_; have GW124 := n6_; have GE124 := n7_; have NB109_124 := n8_; have NB124_109 := n9_; have NB0_124 := n10_; have NB124_0 := n11_; clear n0_ n1_ n2_ n3_ n4_ n5_ n6_ n7_ n8_ n9_ n10_ n11_; clear hb hbox hg
                     refine hK.out _ _ trivial (fun hHeld => ?_)
                     clear hK K
                     refine norm_ (a' := ?_) ?_ ?_
                     rotate_left
                     ·show Act.put _ (some 5) _ = _
                      simp only [Act.put, List.setIfInBounds_toArray, List.set_cons_zero, List.set_cons_succ, i64_w, i32_w]
                      rfl
                     exact norm_ zPA0 (hJ3_4_6_10_18 (.slice (some adz_v113) y112.length co21, adz_v113, gb124) _ ⟨(rowx HO114.out), ⟨_, rfl⟩, blkx, blkx, GW124.out, GE124.out, NB0_124.out, NB124_0.out, NB109_124.out, NB124_109.out, zPA4, zPA2, zPA3⟩)
                  ·skip
                   rintro ⟨v113, adz_v113⟩ w19 ⟨h0_, h1_, h2_, h3_, h4_, h5_⟩
                   have n0_ : Aside0 (Kd.R (Kd.int .i64) 3 w19 w.heap.size (fun _ => True) v113 y112) := ⟨h0_⟩; have n1_ : Aside0 (∃ c_, (v113 : Value) = .slice (some adz_v113) y112.length c_) := ⟨h1_⟩; have n2_ : Aside0 (w19.heap[gb109]? = some (.cells #[.int .i64 0, .int .i64 0, .int .i64 0, .int .i64 0, .int .i64 0, .int .i64 0] 26 (0, 0))) := ⟨h2_⟩; have n3_ : Aside0 (IsS30 w0 w19 g s0_0 t116) := ⟨h3_⟩; have n4_ : Aside0 (KeepBut w w19 g none) := ⟨h4_⟩; have n5_ : Aside0 (Below w0.heap.size w0 w19) := ⟨h5_⟩; clear BK109; clear HI0; clear HK; clear HB; clear h0_ h1_ h2_ h3_ h4_ h5_; have HO114 := n0_; have HA_HO114 := n1_; have BK109 := n2_; have HI0 := n3_; have HK := n4_; have HB := n5_; clear n0_ n1_ n2_ n3_ n4_ n5_; have hHeld := trivial; obtain ⟨co20, eo20⟩ := HA_HO114.out; clear HA_HO114; subst eo20
                   refine norm_ (a' := ?_) ?_ ?_
                   rotate_left
                   ·simp only [putAll, Act.put, List.setIfInBounds_toArray, List.set_cons_zero, List.set_cons_succ]
                    rfl
                   refine two_ (i := 10) (j := 18) (Ni := some 16) (Nj := some 5) #[true, true, true, true, true, true, true, true, true, true, true, false, true, false, false, true, false, false, false, false] #[true, true, true, true, true, true, true, true, true, true, false, false, true, false, false, true, false, false, true, false] rfl rfl rfl rfl (two_of HT_.out (by kernel_rfl)) (by decide) (by decide) (fun K hK => ?_) (fun K hK => ?_)
                   ·skip
                    refine goes_ Try.func27 (by kernel_rfl) rfl #[.pointer (some ⟨g, 0, none⟩), .int .i64 4] (by rfl) rfl rfl argx ?_
                    with_reducible refine (customsmade_Source_Next.calls g s0_0 t116 4 t118 t119 w0 _ ?side1 ?side2 A7.out).mono ?_
                    (case side1 => repeat (first | (with_reducible first | exact HI0.out | apply IsS30.alloc | apply IsS30.drewN | apply IsS30.drew | apply IsS30.set_1 | refine IsS30.far ?_ NB0_109.out _) | exact HI0.out))
                    (case side2 => repeat (first | (with_reducible first | exact HB.out | apply below_alloc | apply pw_below_drewN | apply below_drew1 | refine below_set ?_ (IsS30.ge HI0.out) | refine below_set ?_ GE109.out) | exact HB.out))
                    rintro e w21 ⟨rfl, hi, hb, hk⟩
                    refine ⟨_, rfl, ?_⟩
                    have n0_ := Aside0.mk (KeepBut.blk hk (g' := gb109) (o := .cells #[.int .i64 0, .int .i64 0, .int .i64 0, .int .i64 0, .int .i64 0, .int .i64 0] 26 (0, 0)) blkx NB109_0.out (by simp))
                    have n1_ := Aside0.mk (Kd.R_mono (Kd.R_keep (IsS30.apart (show IsS30 w0 _ g s0_0 t116 from by repeat (first | (with_reducible first | exact HI0.out | apply IsS30.alloc | apply IsS30.drewN | apply IsS30.drew | apply IsS30.set_1 | refine IsS30.far ?_ NB0_109.out _) | exact HI0.out)) (rowx HO114.out) (by decide)) hk (fun _ h => h.2)) (fun _ h => h.1))
                    have n2_ := Aside0.mk (KeepBut.trans zPA1 hk (.inl rfl)); have n3_ := Aside0.mk (hb); have n4_ := Aside0.mk (hi); clear BK109; clear HO114; clear HK; clear HB; clear HI0; have BK109 := n0_; have HO114 := n1_; have HK := n2_; have HB := n3_; have HI0 := n4_; clear n0_ n1_ n2_ n3_ n4_
                    (try clear hb)
                    (try clear hb2)
                    (try clear hk)
                    (try clear hi)
                    refine hK.out _ _ trivial (fun hHeld => ?_)
                    clear hK K
                    refine norm_ (a' := ?_) ?_ ?_
                    rotate_left
                    ·show Act.put _ (some 16) _ = _
                     simp only [Act.put, List.setIfInBounds_toArray, List.set_cons_zero, List.set_cons_succ, i64_w, i32_w]
                     rfl
                    refine pure_ (i := 11) (N := some 17) (v := ?_) (a' := ?_) #[true, true, true, true, true, true, true, true, true, true, true, true, true, false, false, true, false, false, false, false] rfl rfl (any_of HT_.out (by kernel_rfl)) (fun _ _ _ h => h) (Or.inl ⟨by rfl, ?_⟩) ?_ ?_
                    rotate_left
                    ·intro w'
                     go_simp
                     with_reducible rfl
                    rotate_left
                    ·simp only [Act.put, List.setIfInBounds_toArray, List.set_cons_zero, List.set_cons_succ, i64_w, i32_w]
                     rfl
                    exact norm_ zPA0 (hJ3_4_6_8_10 (.slice (some adz_v113) y112.length co20, adz_v113) _ ⟨(rowx HO114.out), ⟨_, rfl⟩, blkx, zPA6, zPA1, zPA5⟩)
                   ·skip
                    refine box_step ?hg (N := 5) ?hd (cs := #[.int .i64 0, .int .i64 0, .int .i64 0, .int .i64 0, .int .i64 0, .int .i64 0]) (t := 26) ?hr ?_; (case hd => rfl); (case hg => rfl); (case hr => first | (go_simp; done) | (go_simp; rfl))
                    intro gb124 hg w21 hbox hb
                    have n0_ := Aside0.mk (Kd.R_below (rowx HO114.out) hb); have n1_ := Aside0.mk (IsS30.below zPA6 hb); have n2_ := Aside0.mk (blk_below (g := gb109) (o := .cells #[.int .i64 0, .int .i64 0, .int .i64 0, .int .i64 0, .int .i64 0, .int .i64 0] 26 (0, 0)) blkx hb); have n3_ := Aside0.mk (KeepBut.trans zPA1 (KeepBut.of_below hb g none) (.inl rfl)); have n4_ := Aside0.mk (below_step zPA5 hb); have n5_ := Aside0.mk (hbox); have n6_ := Aside0.mk ((by rw [hg]; exact (keep_size (w := w) (g := g) (row := none) zPA1) : w.heap.size ≤ gb124)); have n7_ := Aside0.mk ((Nat.le_trans HW0.out (by rw [hg]; exact (keep_size (w := w) (g := g) (row := none) zPA1) : w.heap.size ≤ gb124) : w0.heap.size ≤ gb124)); have n8_ := Aside0.mk ((by rw [hg]; exact Nat.ne_of_lt (blk_lt (g := gb109) (o := .cells #[.int .i64 0, .int .i64 0, .int .i64 0, .int .i64 0, .int .i64 0, .int .i64 0] 26 (0, 0)) blkx) : gb109 ≠ gb124)); have n9_ := Aside0.mk ((by rw [hg]; exact Nat.ne_of_gt (blk_lt (g := gb109) (o := .cells #[.int .i64 0, .int .i64 0, .int .i64 0, .int .i64 0, .int .i64 0, .int .i64 0] 26 (0, 0)) blkx) : gb124 ≠ gb109))
                    have n10_ := Aside0.mk ((by rw [hg]; exact Nat.ne_of_lt (IsS30.lt (show IsS30 w0 _ g s0_0 t116 from by repeat (first | (with_reducible first | exact HI0.out | apply IsS30.alloc | apply IsS30.drewN | apply IsS30.drew | apply IsS30.set_1 | refine IsS30.far ?_ NB0_109.out _) | exact HI0.out))) : g ≠ gb124))
                    have n11_ := Aside0.mk ((by rw [hg]; exact Nat.ne_of_gt (IsS30.lt (show IsS30 w0 _ g s0_0 t116 from by repeat (first | (with_reducible first | exact HI0.out | apply IsS30.alloc | apply IsS30.drewN | apply IsS30.drew | apply IsS30.set_1 | refine IsS30.far ?_ NB0_109.out _) | exact HI0.out))) : gb124 ≠ g))
                    clear HO114; clear HI0; clear BK109; clear HK; clear HB; have HO114 := n0_; have HI0 := n1_; have BK109 := n2_; have HK := n3_; have HB := n4_; have BK124 := n5_; have GW124 := n6_; have GE124 := n7_; have NB109_124 := n8_; have NB124_109 := n9_; have NB0_124 := n10_; have NB124_0 := n11_; clear n0_ n1_ n2_ n3_ n4_ n5_ n6_ n7_ n8_ n9_ n10_ n11_; clear hb hbox hg
                    refine hK.out _ _ trivial (fun hHeld => ?_)
                    clear hK K
                    refine norm_ (a' := ?_) ?_ ?_
                    rotate_left
                    ·show Act.put _ (some 5) _ = _
                     simp only [Act.put, List.setIfInBounds_toArray, List.set_cons_zero, List.set_cons_succ, i64_w, i32_w]
                     rfl
                    exact norm_ zPA0 (hJ3_4_6_8_18 (.slice (some adz_v113) y112.length co20, adz_v113, gb124) _ ⟨(rowx HO114.out), ⟨_, rfl⟩, blkx, blkx, GW124.out, GE124.out, NB0_124.out, NB124_0.out, NB109_124.out, NB124_109.out, zPA4, zPA2, zPA3⟩)
                 ·skip
                  rintro gb124 w19 ⟨h0_, h1_, h2_, h3_, h4_, h5_, h6_, h7_, h8_, h9_, h10_⟩
                  have n0_ : Aside0 (w19.heap[gb109]? = some (.cells #[.int .i64 0, .int .i64 0, .int .i64 0, .int .i64 0, .int .i64 0, .int .i64 0] 26 (0, 0))) := ⟨h0_⟩; have n1_ : Aside0 (w19.heap[gb124]? = some (.cells #[.int .i64 0, .int .i64 0, .int .i64 0, .int .i64 0, .int .i64 0, .int .i64 0] 26 (0, 0))) := ⟨h1_⟩; have n2_ : Aside0 (w.heap.size ≤ gb124) := ⟨h2_⟩; have n3_ : Aside0 (w0.heap.size ≤ gb124) := ⟨h3_⟩; have n4_ : Aside0 (g ≠ gb124) := ⟨h4_⟩; have n5_ : Aside0 (gb124 ≠ g) := ⟨h5_⟩; have n6_ : Aside0 (gb109 ≠ gb124) := ⟨h6_⟩; have n7_ : Aside0 (gb124 ≠ gb109) := ⟨h7_⟩; have n8_ : Aside0 (IsS30 w0 w19 g s0_0 t121) := ⟨h8_⟩; have n9_ : Aside0 (KeepBut w w19 g none) := ⟨h9_⟩; have n10_ : Aside0 (Below w0.heap.size w0 w19) := ⟨h10_⟩; clear BK109; clear HI0; clear HK; clear HB; clear h0_ h1_ h2_ h3_ h4_ h5_ h6_ h7_ h8_ h9_ h10_; have BK109 := n0_; have BK124 := n1_; have GW124 := n2_; have GE124 := n3_; have NB0_124 := n4_; have NB124_0 := n5_; have NB109_124 := n6_; have NB124_109 := n7_; have HI0 := n8_; have HK := n9_; have HB := n10_; clear n0_ n1_ n2_ n3_ n4_ n5_ n6_ n7_ n8_ n9_ n10_; have hHeld := trivial
                  refine norm_ (a' := ?_) ?_ ?_
                  rotate_left
                  ·simp only [putAll, Act.put, List.setIfInBounds_toArray, List.set_cons_zero, List.set_cons_succ]
                   rfl
                  refine two_ (i := 4) (j := 16) (Ni := some 10) (Nj := some 22) #[true, true, true, true, true, true, true, false, false, true, true, true, true, true, true, true, false, false, true, false] #[true, true, true, true, false, true, true, false, false, true, true, true, true, true, true, true, true, false, true, false] rfl rfl rfl rfl (two_of HT_.out (by kernel_rfl)) (by decide) (by decide) (fun K hK => ?_) (fun K hK => ?_)
                  ·skip
                   refine Kd.R_lit_step (Kd.int .i64) _ 3 ?hg (N := 10) ?hd (xs := ([1, 1, 1, 2, 3, 3, 4, 5, 5, 6, 7, 8, 9] : List Int)) (inner := [.int .i64 1, .int .i64 1, .int .i64 1, .int .i64 2, .int .i64 3, .int .i64 3, .int .i64 4, .int .i64 5, .int .i64 5, .int .i64 6, .int .i64 7, .int .i64 8, .int .i64 9]) (ok := fun _ => True) (okp := fun _ => True) ?hr ?hp (fun _ hk => hk) trivial (Below.refl _ _) (Nat.le_refl _) (by simp) ?_; (case hd => rfl); (case hg => rfl); (case hr => first | (go_simp; done) | (go_simp; rfl)); (case hp => exact (Reps.one (show Kd.M (Kd.int .i64) _ _ _ 1 [.int .i64 1] from rfl) (Reps.one (show Kd.M (Kd.int .i64) _ _ _ 1 [.int .i64 1] from rfl) (Reps.one (show Kd.M (Kd.int .i64) _ _ _ 1 [.int .i64 1] from rfl) (Reps.one (show Kd.M (Kd.int .i64) _ _ _ 2 [.int .i64 2] from rfl) (Reps.one (show Kd.M (Kd.int .i64) _ _ _ 3 [.int .i64 3] from rfl) (Reps.one (show Kd.M (Kd.int .i64) _ _ _ 3 [.int .i64 3] from rfl) (Reps.one (show Kd.M (Kd.int .i64) _ _ _ 4 [.int .i64 4] from rfl) (Reps.one (show Kd.M (Kd.int .i64) _ _ _ 5 [.int .i64 5] from rfl) (Reps.one (show Kd.M (Kd.int .i64) _ _ _ 5 [.int .i64 5] from rfl) (Reps.one (show Kd.M (Kd.int .i64) _ _ _ 6 [.int .i64 6] from rfl) (Reps.one (show Kd.M (Kd.int .i64) _ _ _ 7 [.int .i64 7] from rfl) (Reps.one (show Kd.M (Kd.int .i64) _ _ _ 8 [.int .i64 8] from rfl) (Reps.one (show Kd.M (Kd.int .i64) _ _ _ 9 [.int .i64 9] from rfl) (Reps.none _ _)))))))))))))))
                   intro v113 w20 ho21 hb hg_ hnew_
                   clear hg_ hnew_
                   (first | rw [← Ny112.out] at ho21 | (simp only [Int.reduceToNat] at ho21; rw [← Ny112.out] at ho21))
                   have n0_ := Aside0.mk (Kd.R_lower ho21 (keep_size (w := w) (g := g) (row := none) zPA2)); have n1_ := Aside0.mk (IsS30.below zPA4 hb); have n2_ := Aside0.mk (blk_below (g := gb109) (o := .cells #[.int .i64 0, .int .i64 0, .int .i64 0, .int .i64 0, .int .i64 0, .int .i64 0] 26 (0, 0)) blkx hb); have n3_ := Aside0.mk (blk_below (g := gb124) (o := .cells #[.int .i64 0, .int .i64 0, .int .i64 0, .int .i64 0, .int .i64 0, .int .i64 0] 26 (0, 0)) blkx hb); have n4_ := Aside0.mk (KeepBut.trans zPA2 (KeepBut.of_below hb g none) (.inl rfl)); have n5_ := Aside0.mk (below_step zPA3 hb); clear HI0; clear BK109; clear BK124; clear HK; clear HB; have HO114 := n0_; have HI0 := n1_; have BK109 := n2_; have BK124 := n3_; have HK := n4_; have HB := n5_; clear n0_ n1_ n2_ n3_ n4_ n5_; clear hb ho21; obtain ⟨Ao22, co22, eo22⟩ := Kd.R_slice HO114.out; subst eo22; obtain ⟨ado22, fo22, _⟩ := Kd.at_int (Kd.R_reads' HO114.out).2.2 0 (by decide) (by rw [Ny112.out]; simp)
                   cases fo22
                   refine hK.out _ _ trivial (fun hHeld => ?_)
                   clear hK K
                   refine norm_ (a' := ?_) ?_ ?_
                   rotate_left
                   ·show Act.put _ (some 10) _ = _
                    simp only [Act.put, List.setIfInBounds_toArray, List.set_cons_zero, List.set_cons_succ, i64_w, i32_w]
                    rfl
                   refine pure_ (i := 7) (N := some 13) (v := ?_) (a' := ?_) #[true, true, true, true, true, true, true, true, false, true, true, true, true, true, true, true, false, false, true, false] rfl rfl (any_of HT_.out (by kernel_rfl)) (fun _ _ _ h => h) (Or.inl ⟨by rfl, ?_⟩) ?_ ?_
                   rotate_left
                   ·intro w'
                    go_simp
                    with_reducible rfl
                   rotate_left
                   ·simp only [Act.put, List.setIfInBounds_toArray, List.set_cons_zero, List.set_cons_succ, i64_w, i32_w]
                    rfl
                   exact norm_ zPA0 (hJ3_4_6_10_13_18 (.slice (some ado22) y112.length co22, ado22, gb124) _ ⟨(rowx HO114.out), ⟨_, rfl⟩, blkx, blkx, GW124.out, GE124.out, NB0_124.out, NB124_0.out, NB109_124.out, NB124_109.out, zPA4, zPA2, zPA3⟩)
                  ·skip
                   refine goes_ Try.func27 (by kernel_rfl) rfl #[.pointer (some ⟨g, 0, none⟩), .int .i64 9] (by rfl) rfl rfl argx ?_
                   with_reducible refine (customsmade_Source_Next.calls g s0_0 t121 9 t122 t123 w0 _ ?side1 ?side2 A9.out).mono ?_
                   (case side1 => repeat (first | (with_reducible first | exact HI0.out | apply IsS30.alloc | apply IsS30.drewN | apply IsS30.drew | apply IsS30.set_1 | refine IsS30.far ?_ NB0_109.out _ | refine IsS30.far ?_ NB0_124.out _) | exact HI0.out))
                   (case side2 => repeat (first | (with_reducible first | exact HB.out | apply below_alloc | apply pw_below_drewN | apply below_drew1 | refine below_set ?_ (IsS30.ge HI0.out) | refine below_set ?_ GE109.out | refine below_set ?_ GE124.out) | exact HB.out))
                   rintro e w20 ⟨rfl, hi, hb, hk⟩
                   refine ⟨_, rfl, ?_⟩
                   have n0_ := Aside0.mk (KeepBut.blk hk (g' := gb109) (o := .cells #[.int .i64 0, .int .i64 0, .int .i64 0, .int .i64 0, .int .i64 0, .int .i64 0] 26 (0, 0)) blkx NB109_0.out (by simp)); have n1_ := Aside0.mk (KeepBut.blk hk (g' := gb124) (o := .cells #[.int .i64 0, .int .i64 0, .int .i64 0, .int .i64 0, .int .i64 0, .int .i64 0] 26 (0, 0)) blkx NB124_0.out (by simp)); have n2_ := Aside0.mk (KeepBut.trans zPA2 hk (.inl rfl)); have n3_ := Aside0.mk (hb); have n4_ := Aside0.mk (hi); clear BK109; clear BK124; clear HK; clear HB; clear HI0; have BK109 := n0_; have BK124 := n1_; have HK := n2_; have HB := n3_; have HI0 := n4_; clear n0_ n1_ n2_ n3_ n4_
                   (try clear hb)
                   (try clear hb2)
                   (try clear hk)
                   (try clear hi)
                   refine hK.out _ _ trivial (fun hHeld => ?_)
                   clear hK K
                   refine norm_ (a' := ?_) ?_ ?_
                   rotate_left
                   ·show Act.put _ (some 22) _ = _
                    simp only [Act.put, List.setIfInBounds_toArray, List.set_cons_zero, List.set_cons_succ, i64_w, i32_w]
                    rfl
                   exact norm_ zPA0 (hJ3_6_10_13_16_18 (gb124) _ ⟨blkx, blkx, GW124.out, GE124.out, NB0_124.out, NB124_0.out, NB109_124.out, NB124_109.out, zPA4, zPA2, zPA3⟩)
                ·skip
                 rintro _ w19 ⟨h0_, h1_, h2_, h3_⟩
                 have n0_ : Aside0 (w19.heap[gb109]? = some (.cells #[.int .i64 0, .int .i64 0, .int .i64 0, .int .i64 0, .int .i64 0, .int .i64 0] 26 (0, 0))) := ⟨h0_⟩; have n1_ : Aside0 (IsS30 w0 w19 g s0_0 t123) := ⟨h1_⟩; have n2_ : Aside0 (KeepBut w w19 g none) := ⟨h2_⟩; have n3_ : Aside0 (Below w0.heap.size w0 w19) := ⟨h3_⟩; clear BK109; clear HI0; clear HK; clear HB; clear h0_ h1_ h2_ h3_; have BK109 := n0_; have HI0 := n1_; have HK := n2_; have HB := n3_; clear n0_ n1_ n2_ n3_; have hHeld := trivial
                 refine norm_ (a' := ?_) ?_ ?_
                 rotate_left
                 ·simp only [putAll, Act.put, List.setIfInBounds_toArray, List.set_cons_zero, List.set_cons_succ]
                  rfl
                 refine two_ (i := 4) (j := 18) (Ni := some 10) (Nj := some 5) #[true, true, true, true, true, true, true, false, false, true, true, true, true, true, true, true, true, false, false, false] #[true, true, true, true, false, true, true, false, false, true, true, true, true, true, true, true, true, false, true, false] rfl rfl rfl rfl (two_of HT_.out (by kernel_rfl)) (by decide) (by decide) (fun K hK => ?_) (fun K hK => ?_)
                 ·skip
                  refine Kd.R_lit_step (Kd.int .i64) _ 3 ?hg (N := 10) ?hd (xs := ([1, 1, 1, 2, 3, 3, 4, 5, 5, 6, 7, 8, 9] : List Int)) (inner := [.int .i64 1, .int .i64 1, .int .i64 1, .int .i64 2, .int .i64 3, .int .i64 3, .int .i64 4, .int .i64 5, .int .i64 5, .int .i64 6, .int .i64 7, .int .i64 8, .int .i64 9]) (ok := fun _ => True) (okp := fun _ => True) ?hr ?hp (fun _ hk => hk) trivial (Below.refl _ _) (Nat.le_refl _) (by simp) ?_; (case hd => rfl); (case hg => rfl); (case hr => first | (go_simp; done) | (go_simp; rfl)); (case hp => exact (Reps.one (show Kd.M (Kd.int .i64) _ _ _ 1 [.int .i64 1] from rfl) (Reps.one (show Kd.M (Kd.int .i64) _ _ _ 1 [.int .i64 1] from rfl) (Reps.one (show Kd.M (Kd.int .i64) _ _ _ 1 [.int .i64 1] from rfl) (Reps.one (show Kd.M (Kd.int .i64) _ _ _ 2 [.int .i64 2] from rfl) (Reps.one (show Kd.M (Kd.int .i64) _ _ _ 3 [.int .i64 3] from rfl) (Reps.one (show Kd.M (Kd.int .i64) _ _ _ 3 [.int .i64 3] from rfl) (Reps.one (show Kd.M (Kd.int .i64) _ _ _ 4 [.int .i64 4] from rfl) (Reps.one (show Kd.M (Kd.int .i64) _ _ _ 5 [.int .i64 5] from rfl) (Reps.one (show Kd.M (Kd.int .i64) _ _ _ 5 [.int .i64 5] from rfl) (Reps.one (show Kd.M (Kd.int .i64) _ _ _ 6 [.int .i64 6] from rfl) (Reps.one (show Kd.M (Kd.int .i64) _ _ _ 7 [.int .i64 7] from rfl) (Reps.one (show Kd.M (Kd.int .i64) _ _ _ 8 [.int .i64 8] from rfl) (Reps.one (show Kd.M (Kd.int .i64) _ _ _ 9 [.int .i64 9] from rfl) (Reps.none _ _)))))))))))))))
                  intro v113 w20 ho21 hb hg_ hnew_
                  clear hg_ hnew_
                  (first | rw [← Ny112.out] at ho21 | (simp only [Int.reduceToNat] at ho21; rw [← Ny112.out] at ho21))
                  have n0_ := Aside0.mk (Kd.R_lower ho21 (keep_size (w := w) (g := g) (row := none) zPA1)); have n1_ := Aside0.mk (IsS30.below zPA6 hb); have n2_ := Aside0.mk (blk_below (g := gb109) (o := .cells #[.int .i64 0, .int .i64 0, .int .i64 0, .int .i64 0, .int .i64 0, .int .i64 0] 26 (0, 0)) blkx hb); have n3_ := Aside0.mk (KeepBut.trans zPA1 (KeepBut.of_below hb g none) (.inl rfl)); have n4_ := Aside0.mk (below_step zPA5 hb); clear HI0; clear BK109; clear HK; clear HB; have HO114 := n0_; have HI0 := n1_; have BK109 := n2_; have HK := n3_; have HB := n4_; clear n0_ n1_ n2_ n3_ n4_; clear hb ho21; obtain ⟨Ao22, co22, eo22⟩ := Kd.R_slice HO114.out; subst eo22; obtain ⟨ado22, fo22, _⟩ := Kd.at_int (Kd.R_reads' HO114.out).2.2 0 (by decide) (by rw [Ny112.out]; simp)
                  cases fo22
                  refine hK.out _ _ trivial (fun hHeld => ?_)
                  clear hK K
                  refine norm_ (a' := ?_) ?_ ?_
                  rotate_left
                  ·show Act.put _ (some 10) _ = _
                   simp only [Act.put, List.setIfInBounds_toArray, List.set_cons_zero, List.set_cons_succ, i64_w, i32_w]
                   rfl
                  refine pure_ (i := 7) (N := some 13) (v := ?_) (a' := ?_) #[true, true, true, true, true, true, true, true, false, true, true, true, true, true, true, true, true, false, false, false] rfl rfl (any_of HT_.out (by kernel_rfl)) (fun _ _ _ h => h) (Or.inl ⟨by rfl, ?_⟩) ?_ ?_
                  rotate_left
                  ·intro w'
                   go_simp
                   with_reducible rfl
                  rotate_left
                  ·simp only [Act.put, List.setIfInBounds_toArray, List.set_cons_zero, List.set_cons_succ, i64_w, i32_w]
                   rfl
                  exact norm_ zPA0 (hJ3_4_6_10_13_16 (.slice (some ado22) y112.length co22, ado22) _ ⟨(rowx HO114.out), ⟨_, rfl⟩, blkx, zPA6, zPA1, zPA5⟩)
                 ·skip
                  refine box_step ?hg (N := 5) ?hd (cs := #[.int .i64 0, .int .i64 0, .int .i64 0, .int .i64 0, .int .i64 0, .int .i64 0]) (t := 26) ?hr ?_; (case hd => rfl); (case hg => rfl); (case hr => first | (go_simp; done) | (go_simp; rfl))
                  intro gb124 hg w20 hbox hb
                  have n0_ := Aside0.mk (IsS30.below zPA6 hb); have n1_ := Aside0.mk (blk_below (g := gb109) (o := .cells #[.int .i64 0, .int .i64 0, .int .i64 0, .int .i64 0, .int .i64 0, .int .i64 0] 26 (0, 0)) blkx hb); have n2_ := Aside0.mk (KeepBut.trans zPA1 (KeepBut.of_below hb g none) (.inl rfl)); have n3_ := Aside0.mk (below_step zPA5 hb); have n4_ := Aside0.mk (hbox); have n5_ := Aside0.mk ((by rw [hg]; exact (keep_size (w := w) (g := g) (row := none) zPA1) : w.heap.size ≤ gb124)); have n6_ := Aside0.mk ((Nat.le_trans HW0.out (by rw [hg]; exact (keep_size (w := w) (g := g) (row := none) zPA1) : w.heap.size ≤ gb124) : w0.heap.size ≤ gb124)); have n7_ := Aside0.mk ((by rw [hg]; exact Nat.ne_of_lt (blk_lt (g := gb109) (o := .cells #[.int .i64 0, .int .i64 0, .int .i64 0, .int .i64 0, .int .i64 0, .int .i64 0] 26 (0, 0)) blkx) : gb109 ≠ gb124)); have n8_ := Aside0.mk ((by rw [hg]; exact Nat.ne_of_gt (blk_lt (g := gb109) (o := .cells #[.int .i64 0, .int .i64 0, .int .i64 0, .int .i64 0, .int .i64 0, .int .i64 0] 26 (0, 0)) blkx) : gb124 ≠ gb109))
                  have n9_ := Aside0.mk ((by rw [hg]; exact Nat.ne_of_lt (IsS30.lt (show IsS30 w0 _ g s0_0 t123 from by repeat (first | (with_reducible first | exact HI0.out | apply IsS30.alloc | apply IsS30.drewN | apply IsS30.drew | apply IsS30.set_1 | refine IsS30.far ?_ NB0_109.out _) | exact HI0.out))) : g ≠ gb124))
                  have n10_ := Aside0.mk ((by rw [hg]; exact Nat.ne_of_gt (IsS30.lt (show IsS30 w0 _ g s0_0 t123 from by repeat (first | (with_reducible first | exact HI0.out | apply IsS30.alloc | apply IsS30.drewN | apply IsS30.drew | apply IsS30.set_1 | refine IsS30.far ?_ NB0_109.out _) | exact HI0.out))) : gb124 ≠ g))
                  clear HI0; clear BK109; clear HK; clear HB; have HI0 := n0_; have BK109 := n1_; have HK := n2_; have HB := n3_; have BK124 := n4_; have GW124 := n5_; have GE124 := n6_; have NB109_124 := n7_; have NB124_109 := n8_; have NB0_124 := n9_; have NB124_0 := n10_; clear n0_ n1_ n2_ n3_ n4_ n5_ n6_ n7_ n8_ n9_ n10_; clear hb hbox hg
                  refine hK.out _ _ trivial (fun hHeld => ?_)
                  clear hK K
                  refine norm_ (a' := ?_) ?_ ?_
                  rotate_left
                  ·show Act.put _ (some 5) _ = _
                   simp only [Act.put, List.setIfInBounds_toArray, List.set_cons_zero, List.set_cons_succ, i64_w, i32_w]
                   rfl
                  exact norm_ zPA0 (hJ3_6_10_13_16_18 (gb124) _ ⟨blkx, blkx, GW124.out, GE124.out, NB0_124.out, NB124_0.out, NB109_124.out, NB124_109.out, zPA4, zPA2, zPA3⟩)
               ·skip
                rintro ⟨v113, adz_v113, gb124⟩ w21 ⟨h0_, h1_, h2_, h3_, h4_, h5_, h6_, h7_, h8_, h9_, h10_, h11_, h12_⟩
                have n0_ : Aside0 (Kd.R (Kd.int .i64) 3 w21 w.heap.size (fun _ => True) v113 y112) := ⟨h0_⟩; have n1_ : Aside0 (∃ c_, (v113 : Value) = .slice (some adz_v113) y112.length c_) := ⟨h1_⟩; have n2_ : Aside0 (w21.heap[gb109]? = some (.cells #[.int .i64 0, .int .i64 0, .int .i64 0, .int .i64 0, .int .i64 0, .int .i64 0] 26 (0, 0))) := ⟨h2_⟩; have n3_ : Aside0 (w21.heap[gb124]? = some (.cells #[.int .i64 0, .int .i64 0, .int .i64 0, .int .i64 0, .int .i64 0, .int .i64 0] 26 (0, 0))) := ⟨h3_⟩; have n4_ : Aside0 (w.heap.size ≤ gb124) := ⟨h4_⟩; have n5_ : Aside0 (w0.heap.size ≤ gb124) := ⟨h5_⟩; have n6_ : Aside0 (g ≠ gb124) := ⟨h6_⟩; have n7_ : Aside0 (gb124 ≠ g) := ⟨h7_⟩; have n8_ : Aside0 (gb109 ≠ gb124) := ⟨h8_⟩; have n9_ : Aside0 (gb124 ≠ gb109) := ⟨h9_⟩; have n10_ : Aside0 (IsS30 w0 w21 g s0_0 t119) := ⟨h10_⟩; have n11_ : Aside0 (KeepBut w w21 g none) := ⟨h11_⟩; have n12_ : Aside0 (Below w0.heap.size w0 w21) := ⟨h12_⟩; clear BK109; clear HI0; clear HK; clear HB; clear h0_ h1_ h2_ h3_ h4_ h5_ h6_ h7_ h8_ h9_ h10_ h11_ h12_; have HO114 := n0_; have HA_HO114 := n1_; have BK109 := n2_; have BK124 := n3_; have GW124 := n4_; have GE124 := n5_; have NB0_124 := n6_; have NB124_0 := n7_; have NB109_124 := n8_; have NB124_109 := n9_; have HI0 := n10_; have HK := n11_; have HB := n12_; clear n0_ n1_ n2_ n3_ n4_ n5_ n6_ n7_ n8_ n9_ n10_ n11_ n12_; have hHeld := trivial; obtain ⟨co22, eo22⟩ := HA_HO114.out; clear HA_HO114; subst eo22
                refine norm_ (a' := ?_) ?_ ?_
                rotate_left
                ·simp only [putAll, Act.put, List.setIfInBounds_toArray, List.set_cons_zero, List.set_cons_succ]
                 rfl
                refine two_ (i := 8) (j := 13) (Ni := some 14) (Nj := some 19) #[true, true, true, true, true, true, true, true, true, true, true, true, true, false, false, true, false, false, true, false] #[true, true, true, true, true, true, true, true, false, true, true, true, true, true, false, true, false, false, true, false] rfl rfl rfl rfl (two_of HT_.out (by kernel_rfl)) (by decide) (by decide) (fun K hK => ?_) (fun K hK => ?_)
                ·skip
                 (have p117 : 0 ≤ (t115 : Int) := of_decide_eq_true zPA7; have q117 : t115 < (y112.length : Int) := of_decide_eq_true zPA7; obtain ⟨ad117, e117, hx117_0⟩ := Kd.at_int (Kd.R_reads' HO114.out).2.2 t115 p117 q117; obtain rfl : adz_v113 = ad117 := (by injection e117))
                 refine value_ (w1 := ?_) (v := ?_) (by rfl) rfl ?_ ?_
                 rotate_left 2
                 ·go_simp
                  constructor
                  ·rfl
                  ·rfl
                 clear hx117_0
                 refine hK.out _ _ trivial (fun hHeld => ?_)
                 clear hK K
                 refine norm_ (a' := ?_) ?_ ?_
                 rotate_left
                 ·show Act.put _ (some 14) _ = _
                  simp only [Act.put, List.setIfInBounds_toArray, List.set_cons_zero, List.set_cons_succ, i64_w, i32_w]
                  rfl
                 exact norm_ zPA0 (hJ3_4_6_8_10_18 (.slice (some adz_v113) y112.length co22, adz_v113, gb124) _ ⟨(rowx HO114.out), ⟨_, rfl⟩, blkx, blkx, GW124.out, GE124.out, NB0_124.out, NB124_0.out, NB109_124.out, NB124_109.out, zPA4, zPA2, zPA3⟩)
                ·skip
                 refine goes_ Try.func28 (by kernel_rfl) rfl #[.pointer (some ⟨g, 0, none⟩), .int .i64 50, .int .i64 1000000000000] (by rfl) rfl rfl argx ?_
                 with_reducible refine (customsmade_Small.calls g s0_0 t119 50 1000000000000 t120 t121 w0 _ ?side1 ?side2 A8.out).mono ?_
                 (case side1 => repeat (first | (with_reducible first | exact HI0.out | apply IsS30.alloc | apply IsS30.drewN | apply IsS30.drew | apply IsS30.set_1 | refine IsS30.far ?_ NB0_109.out _ | refine IsS30.far ?_ NB0_124.out _) | exact HI0.out))
                 (case side2 => repeat (first | (with_reducible first | exact HB.out | apply below_alloc | apply pw_below_drewN | apply below_drew1 | refine below_set ?_ (IsS30.ge HI0.out) | refine below_set ?_ GE109.out | refine below_set ?_ GE124.out) | exact HB.out))
                 rintro e w23 ⟨rfl, hi, hb, hk⟩
                 refine ⟨_, rfl, ?_⟩
                 have n0_ := Aside0.mk (KeepBut.blk hk (g' := gb109) (o := .cells #[.int .i64 0, .int .i64 0, .int .i64 0, .int .i64 0, .int .i64 0, .int .i64 0] 26 (0, 0)) blkx NB109_0.out (by simp))
                 have n1_ := Aside0.mk (Kd.R_mono (Kd.R_keep (IsS30.apart (show IsS30 w0 _ g s0_0 t119 from by repeat (first | (with_reducible first | exact HI0.out | apply IsS30.alloc | apply IsS30.drewN | apply IsS30.drew | apply IsS30.set_1 | refine IsS30.far ?_ NB0_109.out _ | refine IsS30.far ?_ NB0_124.out _) | exact HI0.out)) (rowx HO114.out) (by decide)) hk (fun _ h => h.2)) (fun _ h => h.1))
                 have n2_ := Aside0.mk (KeepBut.blk hk (g' := gb124) (o := .cells #[.int .i64 0, .int .i64 0, .int .i64 0, .int .i64 0, .int .i64 0, .int .i64 0] 26 (0, 0)) blkx NB124_0.out (by simp)); have n3_ := Aside0.mk (KeepBut.trans zPA2 hk (.inl rfl)); have n4_ := Aside0.mk (hb); have n5_ := Aside0.mk (hi); clear BK109; clear HO114; clear BK124; clear HK; clear HB; clear HI0; have BK109 := n0_; have HO114 := n1_; have BK124 := n2_; have HK := n3_; have HB := n4_; have HI0 := n5_; clear n0_ n1_ n2_ n3_ n4_ n5_
                 (try clear hb)
                 (try clear hb2)
                 (try clear hk)
                 (try clear hi)
                 refine hK.out _ _ trivial (fun hHeld => ?_)
                 clear hK K
                 refine norm_ (a' := ?_) ?_ ?_
                 rotate_left
                 ·show Act.put _ (some 19) _ = _
                  simp only [Act.put, List.setIfInBounds_toArray, List.set_cons_zero, List.set_cons_succ, i64_w, i32_w]
                  rfl
                 refine pure_ (i := 14) (N := some 20) (v := ?_) (a' := ?_) #[true, true, true, true, true, true, true, true, false, true, true, true, true, true, true, true, false, false, true, false] rfl rfl (any_of HT_.out (by kernel_rfl)) (fun _ _ _ h => h) (Or.inl ⟨by rfl, ?_⟩) ?_ ?_
                 rotate_left
                 ·intro w'
                  go_simp
                  with_reducible rfl
                 rotate_left
                 ·simp only [Act.put, List.setIfInBounds_toArray, List.set_cons_zero, List.set_cons_succ, i64_w, i32_w]
                  rfl
                 exact norm_ zPA0 (hJ3_4_6_10_13_18 (.slice (some adz_v113) y112.length co22, adz_v113, gb124) _ ⟨(rowx HO114.out), ⟨_, rfl⟩, blkx, blkx, GW124.out, GE124.out, NB0_124.out, NB124_0.out, NB109_124.out, NB124_109.out, zPA4, zPA2, zPA3⟩)
              ·skip
               rintro ⟨v113, adz_v113⟩ w21 ⟨h0_, h1_, h2_, h3_, h4_, h5_⟩
               have n0_ : Aside0 (Kd.R (Kd.int .i64) 3 w21 w.heap.size (fun _ => True) v113 y112) := ⟨h0_⟩; have n1_ : Aside0 (∃ c_, (v113 : Value) = .slice (some adz_v113) y112.length c_) := ⟨h1_⟩; have n2_ : Aside0 (w21.heap[gb109]? = some (.cells #[.int .i64 0, .int .i64 0, .int .i64 0, .int .i64 0, .int .i64 0, .int .i64 0] 26 (0, 0))) := ⟨h2_⟩; have n3_ : Aside0 (IsS30 w0 w21 g s0_0 t121) := ⟨h3_⟩; have n4_ : Aside0 (KeepBut w w21 g none) := ⟨h4_⟩; have n5_ : Aside0 (Below w0.heap.size w0 w21) := ⟨h5_⟩; clear BK109; clear HI0; clear HK; clear HB; clear h0_ h1_ h2_ h3_ h4_ h5_; have HO114 := n0_; have HA_HO114 := n1_; have BK109 := n2_; have HI0 := n3_; have HK := n4_; have HB := n5_; clear n0_ n1_ n2_ n3_ n4_ n5_; have hHeld := trivial; obtain ⟨co22, eo22⟩ := HA_HO114.out; clear HA_HO114; subst eo22
               refine norm_ (a' := ?_) ?_ ?_
               rotate_left
               ·simp only [putAll, Act.put, List.setIfInBounds_toArray, List.set_cons_zero, List.set_cons_succ]
                rfl
               refine three_ (i := 8) (j := 16) (k := 18) (Ni := some 14) (Nj := some 22) (Nk := some 5) #[true, true, true, true, true, true, true, true, true, true, true, true, true, true, true, true, false, false, false, false] #[true, true, true, true, true, true, true, true, false, true, true, true, true, true, true, true, true, false, false, false] #[true, true, true, true, true, true, true, true, false, true, true, true, true, true, true, true, false, false, true, false] rfl rfl rfl rfl rfl rfl (three_of HT_.out (by kernel_rfl)) (by decide) (by decide) (by decide) (fun K hK => ?_) (fun K hK => ?_) (fun K hK => ?_)
               ·skip
                (have p117 : 0 ≤ (t115 : Int) := of_decide_eq_true zPA7; have q117 : t115 < (y112.length : Int) := of_decide_eq_true zPA7; obtain ⟨ad117, e117, hx117_0⟩ := Kd.at_int (Kd.R_reads' HO114.out).2.2 t115 p117 q117; obtain rfl : adz_v113 = ad117 := (by injection e117))
                refine value_ (w1 := ?_) (v := ?_) (by rfl) rfl ?_ ?_
                rotate_left 2
                ·go_simp
                 constructor
                 ·rfl
                 ·rfl
                clear hx117_0
                refine hK.out _ _ trivial (fun hHeld => ?_)
                clear hK K
                refine norm_ (a' := ?_) ?_ ?_
                rotate_left
                ·show Act.put _ (some 14) _ = _
                 simp only [Act.put, List.setIfInBounds_toArray, List.set_cons_zero, List.set_cons_succ, i64_w, i32_w]
                 rfl
                exact norm_ zPA0 (hJ3_4_6_8_10_13 (.slice (some adz_v113) y112.length co22, adz_v113) _ ⟨(rowx HO114.out), ⟨_, rfl⟩, blkx, zPA6, zPA1, zPA5⟩)
               ·skip
                refine goes_ Try.func27 (by kernel_rfl) rfl #[.pointer (some ⟨g, 0, none⟩), .int .i64 9] (by rfl) rfl rfl argx ?_
                with_reducible refine (customsmade_Source_Next.calls g s0_0 t121 9 t122 t123 w0 _ ?side1 ?side2 A9.out).mono ?_
                (case side1 => repeat (first | (with_reducible first | exact HI0.out | apply IsS30.alloc | apply IsS30.drewN | apply IsS30.drew | apply IsS30.set_1 | refine IsS30.far ?_ NB0_109.out _) | exact HI0.out))
                (case side2 => repeat (first | (with_reducible first | exact HB.out | apply below_alloc | apply pw_below_drewN | apply below_drew1 | refine below_set ?_ (IsS30.ge HI0.out) | refine below_set ?_ GE109.out) | exact HB.out))
                rintro e w23 ⟨rfl, hi, hb, hk⟩
                refine ⟨_, rfl, ?_⟩
                have n0_ := Aside0.mk (KeepBut.blk hk (g' := gb109) (o := .cells #[.int .i64 0, .int .i64 0, .int .i64 0, .int .i64 0, .int .i64 0, .int .i64 0] 26 (0, 0)) blkx NB109_0.out (by simp))
                have n1_ := Aside0.mk (Kd.R_mono (Kd.R_keep (IsS30.apart (show IsS30 w0 _ g s0_0 t121 from by repeat (first | (with_reducible first | exact HI0.out | apply IsS30.alloc | apply IsS30.drewN | apply IsS30.drew | apply IsS30.set_1 | refine IsS30.far ?_ NB0_109.out _) | exact HI0.out)) (rowx HO114.out) (by decide)) hk (fun _ h => h.2)) (fun _ h => h.1))
                have n2_ := Aside0.mk (KeepBut.trans zPA1 hk (.inl rfl)); have n3_ := Aside0.mk (hb); have n4_ := Aside0.mk (hi); clear BK109; clear HO114; clear HK; clear HB; clear HI0; have BK109 := n0_; have HO114 := n1_; have HK := n2_; have HB := n3_; have HI0 := n4_; clear n0_ n1_ n2_ n3_ n4_
                (try clear hb)
                (try clear hb2)
                (try clear hk)
                (try clear hi)
                refine hK.out _ _ trivial (fun hHeld => ?_)
                clear hK K
                refine norm_ (a' := ?_) ?_ ?_
                rotate_left
                ·show Act.put _ (some 22) _ = _
                 simp only [Act.put, List.setIfInBounds_toArray, List.set_cons_zero, List.set_cons_succ, i64_w, i32_w]
                 rfl
                exact norm_ zPA0 (hJ3_4_6_10_13_16 (.slice (some adz_v113) y112.length co22, adz_v113) _ ⟨(rowx HO114.out), ⟨_, rfl⟩, blkx, zPA6, zPA1, zPA5⟩)
               ·skip
                refine box_step ?hg (N := 5) ?hd (cs := #[.int .i64 0, .int .i64 0, .int .i64 0, .int .i64 0, .int .i64 0, .int .i64 0]) (t := 26) ?hr ?_; (case hd => rfl); (case hg => rfl); (case hr => first | (go_simp; done) | (go_simp; rfl))
                intro gb124 hg w23 hbox hb
                have n0_ := Aside0.mk (Kd.R_below (rowx HO114.out) hb); have n1_ := Aside0.mk (IsS30.below zPA6 hb); have n2_ := Aside0.mk (blk_below (g := gb109) (o := .cells #[.int .i64 0, .int .i64 0, .int .i64 0, .int .i64 0, .int .i64 0, .int .i64 0] 26 (0, 0)) blkx hb); have n3_ := Aside0.mk (KeepBut.trans zPA1 (KeepBut.of_below hb g none) (.inl rfl)); have n4_ := Aside0.mk (below_step zPA5 hb); have n5_ := Aside0.mk (hbox); have n6_ := Aside0.mk ((by rw [hg]; exact (keep_size (w := w) (g := g) (row := none) zPA1) : w.heap.size ≤ gb124)); have n7_ := Aside0.mk ((Nat.le_trans HW0.out (by rw [hg]; exact (keep_size (w := w) (g := g) (row := none) zPA1) : w.heap.size ≤ gb124) : w0.heap.size ≤ gb124)); have n8_ := Aside0.mk ((by rw [hg]; exact Nat.ne_of_lt (blk_lt (g := gb109) (o := .cells #[.int .i64 0, .int .i64 0, .int .i64 0, .int .i64 0, .int .i64 0, .int .i64 0] 26 (0, 0)) blkx) : gb109 ≠ gb124)); have n9_ := Aside0.mk ((by rw [hg]; exact Nat.ne_of_gt (blk_lt (g := gb109) (o := .cells #[.int .i64 0, .int .i64 0, .int .i64 0, .int .i64 0, .int .i64 0, .int .i64 0] 26 (0, 0)) blkx) : gb124 ≠ gb109))
                have n10_ := Aside0.mk ((by rw [hg]; exact Nat.ne_of_lt (IsS30.lt (show IsS30 w0 _ g s0_0 t121 from by repeat (first | (with_reducible first | exact HI0.out | apply IsS30.alloc | apply IsS30.drewN | apply IsS30.drew | apply IsS30.set_1 | refine IsS30.far ?_ NB0_109.out _) | exact HI0.out))) : g ≠ gb124))
                have n11_ := Aside0.mk ((by rw [hg]; exact Nat.ne_of_gt (IsS30.lt (show IsS30 w0 _ g s0_0 t121 from by repeat (first | (with_reducible first | exact HI0.out | apply IsS30.alloc | apply IsS30.drewN | apply IsS30.drew | apply IsS30.set_1 | refine IsS30.far ?_ NB0_109.out _) | exact HI0.out))) : gb124 ≠ g))
                clear HO114; clear HI0; clear BK109; clear HK; clear HB; have HO114 := n0_; have HI0 := n1_; have BK109 := n2_; have HK := n3_; have HB := n4_; have BK124 := n5_; have GW124 := n6_; have GE124 := n7_; have NB109_124 := n8_; have NB124_109 := n9_; have NB0_124 := n10_; have NB124_0 := n11_; clear n0_ n1_ n2_ n3_ n4_ n5_ n6_ n7_ n8_ n9_ n10_ n11_; clear hb hbox hg
                refine hK.out _ _ trivial (fun hHeld => ?_)
                clear hK K
                refine norm_ (a' := ?_) ?_ ?_
                rotate_left
                ·show Act.put _ (some 5) _ = _
                 simp only [Act.put, List.setIfInBounds_toArray, List.set_cons_zero, List.set_cons_succ, i64_w, i32_w]
                 rfl
                exact norm_ zPA0 (hJ3_4_6_10_13_18 (.slice (some adz_v113) y112.length co22, adz_v113, gb124) _ ⟨(rowx HO114.out), ⟨_, rfl⟩, blkx, blkx, GW124.out, GE124.out, NB0_124.out, NB124_0.out, NB109_124.out, NB124_109.out, zPA4, zPA2, zPA3⟩)
             ·skip
              rintro ⟨v113, adz_v113, gb124⟩ w20 ⟨h0_, h1_, h2_, h3_, h4_, h5_, h6_, h7_, h8_, h9_, h10_, h11_, h12_⟩
              have n0_ : Aside0 (Kd.R (Kd.int .i64) 3 w20 w.heap.size (fun _ => True) v113 y112) := ⟨h0_⟩; have n1_ : Aside0 (∃ c_, (v113 : Value) = .slice (some adz_v113) y112.length c_) := ⟨h1_⟩; have n2_ : Aside0 (w20.heap[gb109]? = some (.cells #[.int .i64 0, .int .i64 0, .int .i64 0, .int .i64 0, .int .i64 0, .int .i64 0] 26 (0, 0))) := ⟨h2_⟩; have n3_ : Aside0 (w20.heap[gb124]? = some (.cells #[.int .i64 0, .int .i64 0, .int .i64 0, .int .i64 0, .int .i64 0, .int .i64 0] 26 (0, 0))) := ⟨h3_⟩; have n4_ : Aside0 (w.heap.size ≤ gb124) := ⟨h4_⟩; have n5_ : Aside0 (w0.heap.size ≤ gb124) := ⟨h5_⟩; have n6_ : Aside0 (g ≠ gb124) := ⟨h6_⟩; have n7_ : Aside0 (gb124 ≠ g) := ⟨h7_⟩; have n8_ : Aside0 (gb109 ≠ gb124) := ⟨h8_⟩; have n9_ : Aside0 (gb124 ≠ gb109) := ⟨h9_⟩; have n10_ : Aside0 (IsS30 w0 w20 g s0_0 t116) := ⟨h10_⟩; have n11_ : Aside0 (KeepBut w w20 g none) := ⟨h11_⟩; have n12_ : Aside0 (Below w0.heap.size w0 w20) := ⟨h12_⟩; clear BK109; clear HI0; clear HK; clear HB; clear h0_ h1_ h2_ h3_ h4_ h5_ h6_ h7_ h8_ h9_ h10_ h11_ h12_; have HO114 := n0_; have HA_HO114 := n1_; have BK109 := n2_; have BK124 := n3_; have GW124 := n4_; have GE124 := n5_; have NB0_124 := n6_; have NB124_0 := n7_; have NB109_124 := n8_; have NB124_109 := n9_; have HI0 := n10_; have HK := n11_; have HB := n12_; clear n0_ n1_ n2_ n3_ n4_ n5_ n6_ n7_ n8_ n9_ n10_ n11_ n12_; have hHeld := trivial; obtain ⟨co21, eo21⟩ := HA_HO114.out; clear HA_HO114; subst eo21
              refine norm_ (a' := ?_) ?_ ?_
              rotate_left
              ·simp only [putAll, Act.put, List.setIfInBounds_toArray, List.set_cons_zero, List.set_cons_succ]
               rfl
              refine one_ (i := 10) (N := some 16) #[true, true, true, true, true, true, true, true, true, true, true, false, true, false, false, true, false, false, true, false] rfl rfl (one_of HT_.out (by kernel_rfl)) (by decide) (fun K hK => ?_)
              refine goes_ Try.func27 (by kernel_rfl) rfl #[.pointer (some ⟨g, 0, none⟩), .int .i64 4] (by rfl) rfl rfl argx ?_
              with_reducible refine (customsmade_Source_Next.calls g s0_0 t116 4 t118 t119 w0 _ ?side1 ?side2 A7.out).mono ?_
              (case side1 => repeat (first | (with_reducible first | exact HI0.out | apply IsS30.alloc | apply IsS30.drewN | apply IsS30.drew | apply IsS30.set_1 | refine IsS30.far ?_ NB0_109.out _ | refine IsS30.far ?_ NB0_124.out _) | exact HI0.out))
              (case side2 => repeat (first | (with_reducible first | exact HB.out | apply below_alloc | apply pw_below_drewN | apply below_drew1 | refine below_set ?_ (IsS30.ge HI0.out) | refine below_set ?_ GE109.out | refine below_set ?_ GE124.out) | exact HB.out))
              rintro e w22 ⟨rfl, hi, hb, hk⟩
              refine ⟨_, rfl, ?_⟩
              have n0_ := Aside0.mk (KeepBut.blk hk (g' := gb109) (o := .cells #[.int .i64 0, .int .i64 0, .int .i64 0, .int .i64 0, .int .i64 0, .int .i64 0] 26 (0, 0)) blkx NB109_0.out (by simp))
              have n1_ := Aside0.mk (Kd.R_mono (Kd.R_keep (IsS30.apart (show IsS30 w0 _ g s0_0 t116 from by repeat (first | (with_reducible first | exact HI0.out | apply IsS30.alloc | apply IsS30.drewN | apply IsS30.drew | apply IsS30.set_1 | refine IsS30.far ?_ NB0_109.out _ | refine IsS30.far ?_ NB0_124.out _) | exact HI0.out)) (rowx HO114.out) (by decide)) hk (fun _ h => h.2)) (fun _ h => h.1))
              have n2_ := Aside0.mk (KeepBut.blk hk (g' := gb124) (o := .cells #[.int .i64 0, .int .i64 0, .int .i64 0, .int .i64 0, .int .i64 0, .int .i64 0] 26 (0, 0)) blkx NB124_0.out (by simp)); have n3_ := Aside0.mk (KeepBut.trans zPA2 hk (.inl rfl)); have n4_ := Aside0.mk (hb); have n5_ := Aside0.mk (hi); clear BK109; clear HO114; clear BK124; clear HK; clear HB; clear HI0; have BK109 := n0_; have HO114 := n1_; have BK124 := n2_; have HK := n3_; have HB := n4_; have HI0 := n5_; clear n0_ n1_ n2_ n3_ n4_ n5_
              (try clear hb)
              (try clear hb2)
              (try clear hk)
              (try clear hi)
              refine hK.out _ _ trivial (fun hHeld => ?_)
              clear hK K
              refine norm_ (a' := ?_) ?_ ?_
              rotate_left
              ·show Act.put _ (some 16) _ = _
               simp only [Act.put, List.setIfInBounds_toArray, List.set_cons_zero, List.set_cons_succ, i64_w, i32_w]
               rfl
              refine pure_ (i := 11) (N := some 17) (v := ?_) (a' := ?_) #[true, true, true, true, true, true, true, true, true, true, true, true, true, false, false, true, false, false, true, false] rfl rfl (any_of HT_.out (by kernel_rfl)) (fun _ _ _ h => h) (Or.inl ⟨by rfl, ?_⟩) ?_ ?_
              rotate_left
              ·intro w'
               go_simp
               with_reducible rfl
              rotate_left
              ·simp only [Act.put, List.setIfInBounds_toArray, List.set_cons_zero, List.set_cons_succ, i64_w, i32_w]
               rfl
              exact norm_ zPA0 (hJ3_4_6_8_10_18 (.slice (some adz_v113) y112.length co21, adz_v113, gb124) _ ⟨(rowx HO114.out), ⟨_, rfl⟩, blkx, blkx, GW124.out, GE124.out, NB0_124.out, NB124_0.out, NB109_124.out, NB124_109.out, zPA4, zPA2, zPA3⟩)
            ·skip
             rintro ⟨v113, adz_v113⟩ w20 ⟨h0_, h1_, h2_, h3_, h4_, h5_⟩
             have n0_ : Aside0 (Kd.R (Kd.int .i64) 3 w20 w.heap.size (fun _ => True) v113 y112) := ⟨h0_⟩; have n1_ : Aside0 (∃ c_, (v113 : Value) = .slice (some adz_v113) y112.length c_) := ⟨h1_⟩; have n2_ : Aside0 (w20.heap[gb109]? = some (.cells #[.int .i64 0, .int .i64 0, .int .i64 0, .int .i64 0, .int .i64 0, .int .i64 0] 26 (0, 0))) := ⟨h2_⟩; have n3_ : Aside0 (IsS30 w0 w20 g s0_0 t119) := ⟨h3_⟩; have n4_ : Aside0 (KeepBut w w20 g none) := ⟨h4_⟩; have n5_ : Aside0 (Below w0.heap.size w0 w20) := ⟨h5_⟩; clear BK109; clear HI0; clear HK; clear HB; clear h0_ h1_ h2_ h3_ h4_ h5_; have HO114 := n0_; have HA_HO114 := n1_; have BK109 := n2_; have HI0 := n3_; have HK := n4_; have HB := n5_; clear n0_ n1_ n2_ n3_ n4_ n5_; have hHeld := trivial; obtain ⟨co21, eo21⟩ := HA_HO114.out; clear HA_HO114; subst eo21
             refine norm_ (a' := ?_) ?_ ?_
             rotate_left
             ·simp only [putAll, Act.put, List.setIfInBounds_toArray, List.set_cons_zero, List.set_cons_succ]
              rfl
             refine two_ (i := 13) (j := 18) (Ni := some 19) (Nj := some 5) #[true, true, true, true, true, true, true, true, true, true, true, true, true, true, false, true, false, false, false, false] #[true, true, true, true, true, true, true, true, true, true, true, true, true, false, false, true, false, false, true, false] rfl rfl rfl rfl (two_of HT_.out (by kernel_rfl)) (by decide) (by decide) (fun K hK => ?_) (fun K hK => ?_)
             ·skip
              refine goes_ Try.func28 (by kernel_rfl) rfl #[.pointer (some ⟨g, 0, none⟩), .int .i64 50, .int .i64 1000000000000] (by rfl) rfl rfl argx ?_
              with_reducible refine (customsmade_Small.calls g s0_0 t119 50 1000000000000 t120 t121 w0 _ ?side1 ?side2 A8.out).mono ?_
              (case side1 => repeat (first | (with_reducible first | exact HI0.out | apply IsS30.alloc | apply IsS30.drewN | apply IsS30.drew | apply IsS30.set_1 | refine IsS30.far ?_ NB0_109.out _) | exact HI0.out))
              (case side2 => repeat (first | (with_reducible first | exact HB.out | apply below_alloc | apply pw_below_drewN | apply below_drew1 | refine below_set ?_ (IsS30.ge HI0.out) | refine below_set ?_ GE109.out) | exact HB.out))
              rintro e w22 ⟨rfl, hi, hb, hk⟩
              refine ⟨_, rfl, ?_⟩
              have n0_ := Aside0.mk (KeepBut.blk hk (g' := gb109) (o := .cells #[.int .i64 0, .int .i64 0, .int .i64 0, .int .i64 0, .int .i64 0, .int .i64 0] 26 (0, 0)) blkx NB109_0.out (by simp))
              have n1_ := Aside0.mk (Kd.R_mono (Kd.R_keep (IsS30.apart (show IsS30 w0 _ g s0_0 t119 from by repeat (first | (with_reducible first | exact HI0.out | apply IsS30.alloc | apply IsS30.drewN | apply IsS30.drew | apply IsS30.set_1 | refine IsS30.far ?_ NB0_109.out _) | exact HI0.out)) (rowx HO114.out) (by decide)) hk (fun _ h => h.2)) (fun _ h => h.1))
              have n2_ := Aside0.mk (KeepBut.trans zPA1 hk (.inl rfl)); have n3_ := Aside0.mk (hb); have n4_ := Aside0.mk (hi); clear BK109; clear HO114; clear HK; clear HB; clear HI0; have BK109 := n0_; have HO114 := n1_; have HK := n2_; have HB := n3_; have HI0 := n4_; clear n0_ n1_ n2_ n3_ n4_
              (try clear hb)
              (try clear hb2)
              (try clear hk)
              (try clear hi)
              refine hK.out _ _ trivial (fun hHeld => ?_)
              clear hK K
              refine norm_ (a' := ?_) ?_ ?_
              rotate_left
              ·show Act.put _ (some 19) _ = _
               simp only [Act.put, List.setIfInBounds_toArray, List.set_cons_zero, List.set_cons_succ, i64_w, i32_w]
               rfl
              refine pure_ (i := 14) (N := some 20) (v := ?_) (a' := ?_) #[true, true, true, true, true, true, true, true, true, true, true, true, true, true, true, true, false, false, false, false] rfl rfl (any_of HT_.out (by kernel_rfl)) (fun _ _ _ h => h) (Or.inl ⟨by rfl, ?_⟩) ?_ ?_
              rotate_left
              ·intro w'
               go_simp
               with_reducible rfl
              rotate_left
              ·simp only [Act.put, List.setIfInBounds_toArray, List.set_cons_zero, List.set_cons_succ, i64_w, i32_w]
               rfl
              exact norm_ zPA0 (hJ3_4_6_8_10_13 (.slice (some adz_v113) y112.length co21, adz_v113) _ ⟨(rowx HO114.out), ⟨_, rfl⟩, blkx, zPA6, zPA1, zPA5⟩)
             ·skip
              refine box_step ?hg (N := 5) ?hd (cs := #[.int .i64 0, .int .i64 0, .int .i64 0, .int .i64 0, .int .i64 0, .int .i64 0]) (t := 26) ?hr ?_; (case hd => rfl); (case hg => rfl); (case hr => first | (go_simp; done) | (go_simp; rfl))
              intro gb124 hg w22 hbox hb
              have n0_ := Aside0.mk (Kd.R_below (rowx HO114.out) hb); have n1_ := Aside0.mk (IsS30.below zPA6 hb); have n2_ := Aside0.mk (blk_below (g := gb109) (o := .cells #[.int .i64 0, .int .i64 0, .int .i64 0, .int .i64 0, .int .i64 0, .int .i64 0] 26 (0, 0)) blkx hb); have n3_ := Aside0.mk (KeepBut.trans zPA1 (KeepBut.of_below hb g none) (.inl rfl)); have n4_ := Aside0.mk (below_step zPA5 hb); have n5_ := Aside0.mk (hbox); have n6_ := Aside0.mk ((by rw [hg]; exact (keep_size (w := w) (g := g) (row := none) zPA1) : w.heap.size ≤ gb124)); have n7_ := Aside0.mk ((Nat.le_trans HW0.out (by rw [hg]; exact (keep_size (w := w) (g := g) (row := none) zPA1) : w.heap.size ≤ gb124) : w0.heap.size ≤ gb124)); have n8_ := Aside0.mk ((by rw [hg]; exact Nat.ne_of_lt (blk_lt (g := gb109) (o := .cells #[.int .i64 0, .int .i64 0, .int .i64 0, .int .i64 0, .int .i64 0, .int .i64 0] 26 (0, 0)) blkx) : gb109 ≠ gb124)); have n9_ := Aside0.mk ((by rw [hg]; exact Nat.ne_of_gt (blk_lt (g := gb109) (o := .cells #[.int .i64 0, .int .i64 0, .int .i64 0, .int .i64 0, .int .i64 0, .int .i64 0] 26 (0, 0)) blkx) : gb124 ≠ gb109))
              have n10_ := Aside0.mk ((by rw [hg]; exact Nat.ne_of_lt (IsS30.lt (show IsS30 w0 _ g s0_0 t119 from by repeat (first | (with_reducible first | exact HI0.out | apply IsS30.alloc | apply IsS30.drewN | apply IsS30.drew | apply IsS30.set_1 | refine IsS30.far ?_ NB0_109.out _) | exact HI0.out))) : g ≠ gb124))
              have n11_ := Aside0.mk ((by rw [hg]; exact Nat.ne_of_gt (IsS30.lt (show IsS30 w0 _ g s0_0 t119 from by repeat (first | (with_reducible first | exact HI0.out | apply IsS30.alloc | apply IsS30.drewN | apply IsS30.drew | apply IsS30.set_1 | refine IsS30.far ?_ NB0_109.out _) | exact HI0.out))) : gb124 ≠ g))
              clear HO114; clear HI0; clear BK109; clear HK; clear HB; have HO114 := n0_; have HI0 := n1_; have BK109 := n2_; have HK := n3_; have HB := n4_; have BK124 := n5_; have GW124 := n6_; have GE124 := n7_; have NB109_124 := n8_; have NB124_109 := n9_; have NB0_124 := n10_; have NB124_0 := n11_; clear n0_ n1_ n2_ n3_ n4_ n5_ n6_ n7_ n8_ n9_ n10_ n11_; clear hb hbox hg
              refine hK.out _ _ trivial (fun hHeld => ?_)
              clear hK K
              refine norm_ (a' := ?_) ?_ ?_
              rotate_left
              ·show Act.put _ (some 5) _ = _
               simp only [Act.put, List.setIfInBounds_toArray, List.set_cons_zero, List.set_cons_succ, i64_w, i32_w]
               rfl
              exact norm_ zPA0 (hJ3_4_6_8_10_18 (.slice (some adz_v113) y112.length co21, adz_v113, gb124) _ ⟨(rowx HO114.out), ⟨_, rfl⟩, blkx, blkx, GW124.out, GE124.out, NB0_124.out, NB124_0.out, NB109_124.out, NB124_109.out, zPA4, zPA2, zPA3⟩)
           ·skip
            rintro gb124 w20 ⟨h0_, h1_, h2_, h3_, h4_, h5_, h6_, h7_, h8_, h9_, h10_⟩
            have n0_ : Aside0 (w20.heap[gb109]? = some (.cells #[.int .i64 0, .int .i64 0, .int .i64 0, .int .i64 0, .int .i64 0, .int .i64 0] 26 (0, 0))) := ⟨h0_⟩; have n1_ : Aside0 (w20.heap[gb124]? = some (.cells #[.int .i64 0, .int .i64 0, .int .i64 0, .int .i64 0, .int .i64 0, .int .i64 0] 26 (0, 0))) := ⟨h1_⟩; have n2_ : Aside0 (w.heap.size ≤ gb124) := ⟨h2_⟩; have n3_ : Aside0 (w0.heap.size ≤ gb124) := ⟨h3_⟩; have n4_ : Aside0 (g ≠ gb124) := ⟨h4_⟩; have n5_ : Aside0 (gb124 ≠ g) := ⟨h5_⟩; have n6_ : Aside0 (gb109 ≠ gb124) := ⟨h6_⟩; have n7_ : Aside0 (gb124 ≠ gb109) := ⟨h7_⟩; have n8_ : Aside0 (IsS30 w0 w20 g s0_0 t123) := ⟨h8_⟩; have n9_ : Aside0 (KeepBut w w20 g none) := ⟨h9_⟩; have n10_ : Aside0 (Below w0.heap.size w0 w20) := ⟨h10_⟩; clear BK109; clear HI0; clear HK; clear HB; clear h0_ h1_ h2_ h3_ h4_ h5_ h6_ h7_ h8_ h9_ h10_; have BK109 := n0_; have BK124 := n1_; have GW124 := n2_; have GE124 := n3_; have NB0_124 := n4_; have NB124_0 := n5_; have NB109_124 := n6_; have NB124_109 := n7_; have HI0 := n8_; have HK := n9_; have HB := n10_; clear n0_ n1_ n2_ n3_ n4_ n5_ n6_ n7_ n8_ n9_ n10_; have hHeld := trivial
            refine norm_ (a' := ?_) ?_ ?_
            rotate_left
            ·simp only [putAll, Act.put, List.setIfInBounds_toArray, List.set_cons_zero, List.set_cons_succ]
             rfl
            refine one_ (i := 4) (N := some 10) #[true, true, true, true, true, true, true, false, false, true, true, true, true, true, true, true, true, false, true, false] rfl rfl (one_of HT_.out (by kernel_rfl)) (by decide) (fun K hK => ?_)
            refine Kd.R_lit_step (Kd.int .i64) _ 3 ?hg (N := 10) ?hd (xs := ([1, 1, 1, 2, 3, 3, 4, 5, 5, 6, 7, 8, 9] : List Int)) (inner := [.int .i64 1, .int .i64 1, .int .i64 1, .int .i64 2, .int .i64 3, .int .i64 3, .int .i64 4, .int .i64 5, .int .i64 5, .int .i64 6, .int .i64 7, .int .i64 8, .int .i64 9]) (ok := fun _ => True) (okp := fun _ => True) ?hr ?hp (fun _ hk => hk) trivial (Below.refl _ _) (Nat.le_refl _) (by simp) ?_; (case hd => rfl); (case hg => rfl); (case hr => first | (go_simp; done) | (go_simp; rfl)); (case hp => exact (Reps.one (show Kd.M (Kd.int .i64) _ _ _ 1 [.int .i64 1] from rfl) (Reps.one (show Kd.M (Kd.int .i64) _ _ _ 1 [.int .i64 1] from rfl) (Reps.one (show Kd.M (Kd.int .i64) _ _ _ 1 [.int .i64 1] from rfl) (Reps.one (show Kd.M (Kd.int .i64) _ _ _ 2 [.int .i64 2] from rfl) (Reps.one (show Kd.M (Kd.int .i64) _ _ _ 3 [.int .i64 3] from rfl) (Reps.one (show Kd.M (Kd.int .i64) _ _ _ 3 [.int .i64 3] from rfl) (Reps.one (show Kd.M (Kd.int .i64) _ _ _ 4 [.int .i64 4] from rfl) (Reps.one (show Kd.M (Kd.int .i64) _ _ _ 5 [.int .i64 5] from rfl) (Reps.one (show Kd.M (Kd.int .i64) _ _ _ 5 [.int .i64 5] from rfl) (Reps.one (show Kd.M (Kd.int .i64) _ _ _ 6 [.int .i64 6] from rfl) (Reps.one (show Kd.M (Kd.int .i64) _ _ _ 7 [.int .i64 7] from rfl) (Reps.one (show Kd.M (Kd.int .i64) _ _ _ 8 [.int .i64 8] from rfl) (Reps.one (show Kd.M (Kd.int .i64) _ _ _ 9 [.int .i64 9] from rfl) (Reps.none _ _)))))))))))))))
            intro v113 w21 ho22 hb hg_ hnew_
            clear hg_ hnew_
            (first | rw [← Ny112.out] at ho22 | (simp only [Int.reduceToNat] at ho22; rw [← Ny112.out] at ho22))
            have n0_ := Aside0.mk (Kd.R_lower ho22 (keep_size (w := w) (g := g) (row := none) zPA2)); have n1_ := Aside0.mk (IsS30.below zPA4 hb); have n2_ := Aside0.mk (blk_below (g := gb109) (o := .cells #[.int .i64 0, .int .i64 0, .int .i64 0, .int .i64 0, .int .i64 0, .int .i64 0] 26 (0, 0)) blkx hb); have n3_ := Aside0.mk (blk_below (g := gb124) (o := .cells #[.int .i64 0, .int .i64 0, .int .i64 0, .int .i64 0, .int .i64 0, .int .i64 0] 26 (0, 0)) blkx hb); have n4_ := Aside0.mk (KeepBut.trans zPA2 (KeepBut.of_below hb g none) (.inl rfl)); have n5_ := Aside0.mk (below_step zPA3 hb); clear HI0; clear BK109; clear BK124; clear HK; clear HB; have HO114 := n0_; have HI0 := n1_; have BK109 := n2_; have BK124 := n3_; have HK := n4_; have HB := n5_; clear n0_ n1_ n2_ n3_ n4_ n5_; clear hb ho22; obtain ⟨Ao23, co23, eo23⟩ := Kd.R_slice HO114.out; subst eo23; obtain ⟨ado23, fo23, _⟩ := Kd.at_int (Kd.R_reads' HO114.out).2.2 0 (by decide) (by rw [Ny112.out]; simp)
            cases fo23
            refine hK.out _ _ trivial (fun hHeld => ?_)
            clear hK K
            refine norm_ (a' := ?_) ?_ ?_
            rotate_left
            ·show Act.put _ (some 10) _ = _
             simp only [Act.put, List.setIfInBounds_toArray, List.set_cons_zero, List.set_cons_succ, i64_w, i32_w]
             rfl
            refine pure_ (i := 7) (N := some 13) (v := ?_) (a' := ?_) #[true, true, true, true, true, true, true, true, false, true, true, true, true, true, true, true, true, false, true, false] rfl rfl (any_of HT_.out (by kernel_rfl)) (fun _ _ _ h => h) (Or.inl ⟨by rfl, ?_⟩) ?_ ?_
            rotate_left
            ·intro w'
             go_simp
             with_reducible rfl
            rotate_left
            ·simp only [Act.put, List.setIfInBounds_toArray, List.set_cons_zero, List.set_cons_succ, i64_w, i32_w]
             rfl
            exact norm_ zPA0 (hJ3_4_6_10_13_16_18 (.slice (some ado23) y112.length co23, ado23, gb124) _ ⟨(rowx HO114.out), ⟨_, rfl⟩, blkx, blkx, GW124.out, GE124.out, NB0_124.out, NB124_0.out, NB109_124.out, NB124_109.out, zPA4, zPA2, zPA3⟩)
          ·skip
           rintro ⟨v113, adz_v113, gb124⟩ w22 ⟨h0_, h1_, h2_, h3_, h4_, h5_, h6_, h7_, h8_, h9_, h10_, h11_, h12_⟩
           have n0_ : Aside0 (Kd.R (Kd.int .i64) 3 w22 w.heap.size (fun _ => True) v113 y112) := ⟨h0_⟩; have n1_ : Aside0 (∃ c_, (v113 : Value) = .slice (some adz_v113) y112.length c_) := ⟨h1_⟩; have n2_ : Aside0 (w22.heap[gb109]? = some (.cells #[.int .i64 0, .int .i64 0, .int .i64 0, .int .i64 0, .int .i64 0, .int .i64 0] 26 (0, 0))) := ⟨h2_⟩; have n3_ : Aside0 (w22.heap[gb124]? = some (.cells #[.int .i64 0, .int .i64 0, .int .i64 0, .int .i64 0, .int .i64 0, .int .i64 0] 26 (0, 0))) := ⟨h3_⟩; have n4_ : Aside0 (w.heap.size ≤ gb124) := ⟨h4_⟩; have n5_ : Aside0 (w0.heap.size ≤ gb124) := ⟨h5_⟩; have n6_ : Aside0 (g ≠ gb124) := ⟨h6_⟩; have n7_ : Aside0 (gb124 ≠ g) := ⟨h7_⟩; have n8_ : Aside0 (gb109 ≠ gb124) := ⟨h8_⟩; have n9_ : Aside0 (gb124 ≠ gb109) := ⟨h9_⟩; have n10_ : Aside0 (IsS30 w0 w22 g s0_0 t121) := ⟨h10_⟩; have n11_ : Aside0 (KeepBut w w22 g none) := ⟨h11_⟩; have n12_ : Aside0 (Below w0.heap.size w0 w22) := ⟨h12_⟩; clear BK109; clear HI0; clear HK; clear HB; clear h0_ h1_ h2_ h3_ h4_ h5_ h6_ h7_ h8_ h9_ h10_ h11_ h12_; have HO114 := n0_; have HA_HO114 := n1_; have BK109 := n2_; have BK124 := n3_; have GW124 := n4_; have GE124 := n5_; have NB0_124 := n6_; have NB124_0 := n7_; have NB109_124 := n8_; have NB124_109 := n9_; have HI0 := n10_; have HK := n11_; have HB := n12_; clear n0_ n1_ n2_ n3_ n4_ n5_ n6_ n7_ n8_ n9_ n10_ n11_ n12_; have hHeld := trivial; obtain ⟨co23, eo23⟩ := HA_HO114.out; clear HA_HO114; subst eo23
           refine norm_ (a' := ?_) ?_ ?_
           rotate_left
           ·simp only [putAll, Act.put, List.setIfInBounds_toArray, List.set_cons_zero, List.set_cons_succ]
            rfl
           refine two_ (i := 8) (j := 16) (Ni := some 14) (Nj := some 22) #[true, true, true, true, true, true, true, true, true, true, true, true, true, true, true, true, false, false, true, false] #[true, true, true, true, true, true, true, true, false, true, true, true, true, true, true, true, true, false, true, false] rfl rfl rfl rfl (two_of HT_.out (by kernel_rfl)) (by decide) (by decide) (fun K hK => ?_) (fun K hK => ?_)
           ·skip
            (have p117 : 0 ≤ (t115 : Int) := of_decide_eq_true zPA7; have q117 : t115 < (y112.length : Int) := of_decide_eq_true zPA7; obtain ⟨ad117, e117, hx117_0⟩ := Kd.at_int (Kd.R_reads' HO114.out).2.2 t115 p117 q117; obtain rfl : adz_v113 = ad117 := (by injection e117))
            refine value_ (w1 := ?_) (v := ?_) (by rfl) rfl ?_ ?_
            rotate_left 2
            ·go_simp
             constructor
             ·rfl
             ·rfl
            clear hx117_0
            refine hK.out _ _ trivial (fun hHeld => ?_)
            clear hK K
            refine norm_ (a' := ?_) ?_ ?_
            rotate_left
            ·show Act.put _ (some 14) _ = _
             simp only [Act.put, List.setIfInBounds_toArray, List.set_cons_zero, List.set_cons_succ, i64_w, i32_w]
             rfl
            exact norm_ zPA0 (hJ3_4_6_8_10_13_18 (.slice (some adz_v113) y112.length co23, adz_v113, gb124) _ ⟨(rowx HO114.out), ⟨_, rfl⟩, blkx, blkx, GW124.out, GE124.out, NB0_124.out, NB124_0.out, NB109_124.out, NB124_109.out, zPA4, zPA2, zPA3⟩)
           ·skip
            refine goes_ Try.func27 (by kernel_rfl) rfl #[.pointer (some ⟨g, 0, none⟩), .int .i64 9] (by rfl) rfl rfl argx ?_
            with_reducible refine (customsmade_Source_Next.calls g s0_0 t121 9 t122 t123 w0 _ ?side1 ?side2 A9.out).mono ?_
            (case side1 => repeat (first | (with_reducible first | exact HI0.out | apply IsS30.alloc | apply IsS30.drewN | apply IsS30.drew | apply IsS30.set_1 | refine IsS30.far ?_ NB0_109.out _ | refine IsS30.far ?_ NB0_124.out _) | exact HI0.out))
            (case side2 => repeat (first | (with_reducible first | exact HB.out | apply below_alloc | apply pw_below_drewN | apply below_drew1 | refine below_set ?_ (IsS30.ge HI0.out) | refine below_set ?_ GE109.out | refine below_set ?_ GE124.out) | exact HB.out))
            rintro e w24 ⟨rfl, hi, hb, hk⟩
            refine ⟨_, rfl, ?_⟩
            have n0_ := Aside0.mk (KeepBut.blk hk (g' := gb109) (o := .cells #[.int .i64 0, .int .i64 0, .int .i64 0, .int .i64 0, .int .i64 0, .int .i64 0] 26 (0, 0)) blkx NB109_0.out (by simp))
            have n1_ := Aside0.mk (Kd.R_mono (Kd.R_keep (IsS30.apart (show IsS30 w0 _ g s0_0 t121 from by repeat (first | (with_reducible first | exact HI0.out | apply IsS30.alloc | apply IsS30.drewN | apply IsS30.drew | apply IsS30.set_1 | refine IsS30.far ?_ NB0_109.out _ | refine IsS30.far ?_ NB0_124.out _) | exact HI0.out)) (rowx HO114.out) (by decide)) hk (fun _ h => h.2)) (fun _ h => h.1))
            have n2_ := Aside0.mk (KeepBut.blk hk (g' := gb124) (o := .cells #[.int .i64 0, .int .i64 0, .int .i64 0, .int .i64 0, .int .i64 0, .int .i64 0] 26 (0, 0)) blkx NB124_0.out (by simp)); have n3_ := Aside0.mk (KeepBut.trans zPA2 hk (.inl rfl)); have n4_ := Aside0.mk (hb); have n5_ := Aside0.mk (hi); clear BK109; clear HO114; clear BK124; clear HK; clear HB; clear HI0; have BK109 := n0_; have HO114 := n1_; have BK124 := n2_; have HK := n3_; have HB := n4_; have HI0 := n5_; clear n0_ n1_ n2_ n3_ n4_ n5_
            (try clear hb)
            (try clear hb2)
            (try clear hk)
            (try clear hi)
            refine hK.out _ _ trivial (fun hHeld => ?_)
            clear hK K
            refine norm_ (a' := ?_) ?_ ?_
            rotate_left
            ·show Act.put _ (some 22) _ = _
             simp only [Act.put, List.setIfInBounds_toArray, List.set_cons_zero, List.set_cons_succ, i64_w, i32_w]
             rfl
            exact norm_ zPA0 (hJ3_4_6_10_13_16_18 (.slice (some adz_v113) y112.length co23, adz_v113, gb124) _ ⟨(rowx HO114.out), ⟨_, rfl⟩, blkx, blkx, GW124.out, GE124.out, NB0_124.out, NB124_0.out, NB109_124.out, NB124_109.out, zPA4, zPA2, zPA3⟩)
         ·skip
          rintro ⟨v113, adz_v113⟩ w22 ⟨h0_, h1_, h2_, h3_, h4_, h5_⟩
          have n0_ : Aside0 (Kd.R (Kd.int .i64) 3 w22 w.heap.size (fun _ => True) v113 y112) := ⟨h0_⟩; have n1_ : Aside0 (∃ c_, (v113 : Value) = .slice (some adz_v113) y112.length c_) := ⟨h1_⟩; have n2_ : Aside0 (w22.heap[gb109]? = some (.cells #[.int .i64 0, .int .i64 0, .int .i64 0, .int .i64 0, .int .i64 0, .int .i64 0] 26 (0, 0))) := ⟨h2_⟩; have n3_ : Aside0 (IsS30 w0 w22 g s0_0 t123) := ⟨h3_⟩; have n4_ : Aside0 (KeepBut w w22 g none) := ⟨h4_⟩; have n5_ : Aside0 (Below w0.heap.size w0 w22) := ⟨h5_⟩; clear BK109; clear HI0; clear HK; clear HB; clear h0_ h1_ h2_ h3_ h4_ h5_; have HO114 := n0_; have HA_HO114 := n1_; have BK109 := n2_; have HI0 := n3_; have HK := n4_; have HB := n5_; clear n0_ n1_ n2_ n3_ n4_ n5_; have hHeld := trivial; obtain ⟨co23, eo23⟩ := HA_HO114.out; clear HA_HO114; subst eo23
          refine norm_ (a' := ?_) ?_ ?_
          rotate_left
          ·simp only [putAll, Act.put, List.setIfInBounds_toArray, List.set_cons_zero, List.set_cons_succ]
           rfl
          refine two_ (i := 8) (j := 18) (Ni := some 14) (Nj := some 5) #[true, true, true, true, true, true, true, true, true, true, true, true, true, true, true, true, true, false, false, false] #[true, true, true, true, true, true, true, true, false, true, true, true, true, true, true, true, true, false, true, false] rfl rfl rfl rfl (two_of HT_.out (by kernel_rfl)) (by decide) (by decide) (fun K hK => ?_) (fun K hK => ?_)
          ·skip
           (have p117 : 0 ≤ (t115 : Int) := of_decide_eq_true zPA7; have q117 : t115 < (y112.length : Int) := of_decide_eq_true zPA7; obtain ⟨ad117, e117, hx117_0⟩ := Kd.at_int (Kd.R_reads' HO114.out).2.2 t115 p117 q117; obtain rfl : adz_v113 = ad117 := (by injection e117))
           refine value_ (w1 := ?_) (v := ?_) (by rfl) rfl ?_ ?_
           rotate_left 2
           ·go_simp
            constructor
            ·rfl
            ·rfl
           clear hx117_0
           refine hK.out _ _ trivial (fun hHeld => ?_)
           clear hK K
           refine norm_ (a' := ?_) ?_ ?_
           rotate_left
           ·show Act.put _ (some 14) _ = _
            simp only [Act.put, List.setIfInBounds_toArray, List.set_cons_zero, List.set_cons_succ, i64_w, i32_w]
            rfl
           refine pure_ (i := 17) (N := some 23) (v := ?_) (a' := ?_) #[true, true, true, true, true, true, true, true, true, true, true, true, true, true, true, true, true, true, false, false] rfl rfl (any_of HT_.out (by kernel_rfl)) (fun _ _ _ h => h) (Or.inl ⟨by rfl, ?_⟩) ?_ ?_
           rotate_left
           ·intro w'
            go_simp
            with_reducible rfl
           rotate_left
           ·simp only [Act.put, List.setIfInBounds_toArray, List.set_cons_zero, List.set_cons_succ, i64_w, i32_w]
            rfl
           exact norm_ zPA0 (hJ3_4_6_8_10_13_16 (.slice (some adz_v113) y112.length co23, adz_v113) _ ⟨(rowx HO114.out), ⟨_, rfl⟩, blkx, zPA6, zPA1, zPA5⟩)
          ·skip
           refine box_step ?hg (N := 5) ?hd (cs := #[.int .i64 0, .int .i64 0, .int .i64 0, .int .i64 0, .int .i64 0, .int .i64 0]) (t := 26) ?hr ?_; (case hd => rfl); (case hg => rfl); (case hr => first | (go_simp; done) | (go_simp; rfl))
           intro gb124 hg w24 hbox hb
           have n0_ := Aside0.mk (Kd.R_below (rowx HO114.out) hb); have n1_ := Aside0.mk (IsS30.below zPA6 hb); have n2_ := Aside0.mk (blk_below (g := gb109) (o := .cells #[.int .i64 0, .int .i64 0, .int .i64 0, .int .i64 0, .int .i64 0, .int .i64 0] 26 (0, 0)) blkx hb); have n3_ := Aside0.mk (KeepBut.trans zPA1 (KeepBut.of_below hb g none) (.inl rfl)); have n4_ := Aside0.mk (below_step zPA5 hb); have n5_ := Aside0.mk (hbox); have n6_ := Aside0.mk ((by rw [hg]; exact (keep_size (w := w) (g := g) (row := none) zPA1) : w.heap.size ≤ gb124)); have n7_ := Aside0.mk ((Nat.le_trans HW0.out (by rw [hg]; exact (keep_size (w := w) (g := g) (row := none) zPA1) : w.heap.size ≤ gb124) : w0.heap.size ≤ gb124)); have n8_ := Aside0.mk ((by rw [hg]; exact Nat.ne_of_lt (blk_lt (g := gb109) (o := .cells #[.int .i64 0, .int .i64 0, .int .i64 0, .int .i64 0, .int .i64 0, .int .i64 0] 26 (0, 0)) blkx) : gb109 ≠ gb124)); have n9_ := Aside0.mk ((by rw [hg]; exact Nat.ne_of_gt (blk_lt (g := gb109) (o := .cells #[.int .i64 0, .int .i64 0, .int .i64 0, .int .i64 0, .int .i64 0, .int .i64 0] 26 (0, 0)) blkx) : gb124 ≠ gb109))
           have n10_ := Aside0.mk ((by rw [hg]; exact Nat.ne_of_lt (IsS30.lt (show IsS30 w0 _ g s0_0 t123 from by repeat (first | (with_reducible first | exact HI0.out | apply IsS30.alloc | apply IsS30.drewN | apply IsS30.drew | apply IsS30.set_1 | refine IsS30.far ?_ NB0_109.out _) | exact HI0.out))) : g ≠ gb124))
           have n11_ := Aside0.mk ((by rw [hg]; exact Nat.ne_of_gt (IsS30.lt (show IsS30 w0 _ g s0_0 t123 from by repeat (first | (with_reducible first | exact HI0.out | apply IsS30.alloc | apply IsS30.drewN | apply IsS30.drew | apply IsS30.set_1 | refine IsS30.far ?_ NB0_109.out _) | exact HI0.out))) : gb124 ≠ g))
           clear HO114; clear HI0; clear BK109; clear HK; clear HB; have HO114 := n0_; have HI0 := n1_; have BK109 := n2_; have HK := n3_; have HB := n4_; have BK124 := n5_; have GW124 := n6_; have GE124 := n7_; have NB109_124 := n8_; have NB124_109 := n9_; have NB0_124 := n10_; have NB124_0 := n11_; clear n0_ n1_ n2_ n3_ n4_ n5_ n6_ n7_ n8_ n9_ n10_ n11_; clear hb hbox hg
           refine hK.out _ _ trivial (fun hHeld => ?_)
           clear hK K
           refine norm_ (a' := ?_) ?_ ?_
           rotate_left
           ·show Act.put _ (some 5) _ = _
            simp only [Act.put, List.setIfInBounds_toArray, List.set_cons_zero, List.set_cons_succ, i64_w, i32_w]
            rfl
           exact norm_ zPA0 (hJ3_4_6_10_13_16_18 (.slice (some adz_v113) y112.length co23, adz_v113, gb124) _ ⟨(rowx HO114.out), ⟨_, rfl⟩, blkx, blkx, GW124.out, GE124.out, NB0_124.out, NB124_0.out, NB109_124.out, NB124_109.out, zPA4, zPA2, zPA3⟩)
        ·skip
         rintro ⟨v113, adz_v113, gb124⟩ w21 ⟨h0_, h1_, h2_, h3_, h4_, h5_, h6_, h7_, h8_, h9_, h10_, h11_, h12_⟩
         have n0_ : Aside0 (Kd.R (Kd.int .i64) 3 w21 w.heap.size (fun _ => True) v113 y112) := ⟨h0_⟩; have n1_ : Aside0 (∃ c_, (v113 : Value) = .slice (some adz_v113) y112.length c_) := ⟨h1_⟩; have n2_ : Aside0 (w21.heap[gb109]? = some (.cells #[.int .i64 0, .int .i64 0, .int .i64 0, .int .i64 0, .int .i64 0, .int .i64 0] 26 (0, 0))) := ⟨h2_⟩; have n3_ : Aside0 (w21.heap[gb124]? = some (.cells #[.int .i64 0, .int .i64 0, .int .i64 0, .int .i64 0, .int .i64 0, .int .i64 0] 26 (0, 0))) := ⟨h3_⟩; have n4_ : Aside0 (w.heap.size ≤ gb124) := ⟨h4_⟩; have n5_ : Aside0 (w0.heap.size ≤ gb124) := ⟨h5_⟩; have n6_ : Aside0 (g ≠ gb124) := ⟨h6_⟩; have n7_ : Aside0 (gb124 ≠ g) := ⟨h7_⟩; have n8_ : Aside0 (gb109 ≠ gb124) := ⟨h8_⟩; have n9_ : Aside0 (gb124 ≠ gb109) := ⟨h9_⟩; have n10_ : Aside0 (IsS30 w0 w21 g s0_0 t119) := ⟨h10_⟩; have n11_ : Aside0 (KeepBut w w21 g none) := ⟨h11_⟩; have n12_ : Aside0 (Below w0.heap.size w0 w21) := ⟨h12_⟩; clear BK109; clear HI0; clear HK; clear HB; clear h0_ h1_ h2_ h3_ h4_ h5_ h6_ h7_ h8_ h9_ h10_ h11_ h12_; have HO114 := n0_; have HA_HO114 := n1_; have BK109 := n2_; have BK124 := n3_; have GW124 := n4_; have GE124 := n5_; have NB0_124 := n6_; have NB124_0 := n7_; have NB109_124 := n8_; have NB124_109 := n9_; have HI0 := n10_; have HK := n11_; have HB := n12_; clear n0_ n1_ n2_ n3_ n4_ n5_ n6_ n7_ n8_ n9_ n10_ n11_ n12_; have hHeld := trivial; obtain ⟨co22, eo22⟩ := HA_HO114.out; clear HA_HO114; subst eo22
         refine norm_ (a' := ?_) ?_ ?_
         rotate_left
         ·simp only [putAll, Act.put, List.setIfInBounds_toArray, List.set_cons_zero, List.set_cons_succ]
          rfl
         refine one_ (i := 13) (N := some 19) #[true, true, true, true, true, true, true, true, true, true, true, true, true, true, false, true, false, false, true, false] rfl rfl (one_of HT_.out (by kernel_rfl)) (by decide) (fun K hK => ?_)
         refine goes_ Try.func28 (by kernel_rfl) rfl #[.pointer (some ⟨g, 0, none⟩), .int .i64 50, .int .i64 1000000000000] (by rfl) rfl rfl argx ?_
         with_reducible refine (customsmade_Small.calls g s0_0 t119 50 1000000000000 t120 t121 w0 _ ?side1 ?side2 A8.out).mono ?_
         (case side1 => repeat (first | (with_reducible first | exact HI0.out | apply IsS30.alloc | apply IsS30.drewN | apply IsS30.drew | apply IsS30.set_1 | refine IsS30.far ?_ NB0_109.out _ | refine IsS30.far ?_ NB0_124.out _) | exact HI0.out))
         (case side2 => repeat (first | (with_reducible first | exact HB.out | apply below_alloc | apply pw_below_drewN | apply below_drew1 | refine below_set ?_ (IsS30.ge HI0.out) | refine below_set ?_ GE109.out | refine below_set ?_ GE124.out) | exact HB.out))
         rintro e w23 ⟨rfl, hi, hb, hk⟩
         refine ⟨_, rfl, ?_⟩
         have n0_ := Aside0.mk (KeepBut.blk hk (g' := gb109) (o := .cells #[.int .i64 0, .int .i64 0, .int .i64 0, .int .i64 0, .int .i64 0, .int .i64 0] 26 (0, 0)) blkx NB109_0.out (by simp))
         have n1_ := Aside0.mk (Kd.R_mono (Kd.R_keep (IsS30.apart (show IsS30 w0 _ g s0_0 t119 from by repeat (first | (with_reducible first | exact HI0.out | apply IsS30.alloc | apply IsS30.drewN | apply IsS30.drew | apply IsS30.set_1 | refine IsS30.far ?_ NB0_109.out _ | refine IsS30.far ?_ NB0_124.out _) | exact HI0.out)) (rowx HO114.out) (by decide)) hk (fun _ h => h.2)) (fun _ h => h.1))
         have n2_ := Aside0.mk (KeepBut.blk hk (g' := gb124) (o := .cells #[.int .i64 0, .int .i64 0, .int .i64 0, .int .i64 0, .int .i64 0, .int .i64 0] 26 (0, 0)) blkx NB124_0.out (by simp)); have n3_ := Aside0.mk (KeepBut.trans zPA2 hk (.inl rfl)); have n4_ := Aside0.mk (hb); have n5_ := Aside0.mk (hi); clear BK109; clear HO114; clear BK124; clear HK; clear HB; clear HI0; have BK109 := n0_; have HO114 := n1_; have BK124 := n2_; have HK := n3_; have HB := n4_; have HI0 := n5_; clear n0_ n1_ n2_ n3_ n4_ n5_
         (try clear hb)
         (try clear hb2)
         (try clear hk)
         (try clear hi)
         refine hK.out _ _ trivial (fun hHeld => ?_)
         clear hK K
         refine norm_ (a' := ?_) ?_ ?_
         rotate_left
         ·show Act.put _ (some 19) _ = _
          simp only [Act.put, List.setIfInBounds_toArray, List.set_cons_zero, List.set_cons_succ, i64_w, i32_w]
          rfl
         refine pure_ (i := 14) (N := some 20) (v := ?_) (a' := ?_) #[true, true, true, true, true, true, true, true, true, true, true, true, true, true, true, true, false, false, true, false] rfl rfl (any_of HT_.out (by kernel_rfl)) (fun _ _ _ h => h) (Or.inl ⟨by rfl, ?_⟩) ?_ ?_
         rotate_left
         ·intro w'
          go_simp
          with_reducible rfl
         rotate_left
         ·simp only [Act.put, List.setIfInBounds_toArray, List.set_cons_zero, List.set_cons_succ, i64_w, i32_w]
          rfl
         exact norm_ zPA0 (hJ3_4_6_8_10_13_18 (.slice (some adz_v113) y112.length co22, adz_v113, gb124) _ ⟨(rowx HO114.out), ⟨_, rfl⟩, blkx, blkx, GW124.out, GE124.out, NB0_124.out, NB124_0.out, NB109_124.out, NB124_109.out, zPA4, zPA2, zPA3⟩)
       ·skip
        rintro ⟨v113, adz_v113⟩ w21 ⟨h0_, h1_, h2_, h3_, h4_, h5_⟩
        have n0_ : Aside0 (Kd.R (Kd.int .i64) 3 w21 w.heap.size (fun _ => True) v113 y112) := ⟨h0_⟩; have n1_ : Aside0 (∃ c_, (v113 : Value) = .slice (some adz_v113) y112.length c_) := ⟨h1_⟩; have n2_ : Aside0 (w21.heap[gb109]? = some (.cells #[.int .i64 0, .int .i64 0, .int .i64 0, .int .i64 0, .int .i64 0, .int .i64 0] 26 (0, 0))) := ⟨h2_⟩; have n3_ : Aside0 (IsS30 w0 w21 g s0_0 t121) := ⟨h3_⟩; have n4_ : Aside0 (KeepBut w w21 g none) := ⟨h4_⟩; have n5_ : Aside0 (Below w0.heap.size w0 w21) := ⟨h5_⟩; clear BK109; clear HI0; clear HK; clear HB; clear h0_ h1_ h2_ h3_ h4_ h5_; have HO114 := n0_; have HA_HO114 := n1_; have BK109 := n2_; have HI0 := n3_; have HK := n4_; have HB := n5_; clear n0_ n1_ n2_ n3_ n4_ n5_; have hHeld := trivial; obtain ⟨co22, eo22⟩ := HA_HO114.out; clear HA_HO114; subst eo22
        refine norm_ (a' := ?_) ?_ ?_
        rotate_left
        ·simp only [putAll, Act.put, List.setIfInBounds_toArray, List.set_cons_zero, List.set_cons_succ]
         rfl
        refine two_ (i := 16) (j := 18) (Ni := some 22) (Nj := some 5) #[true, true, true, true, true, true, true, true, true, true, true, true, true, true, true, true, true, false, false, false] #[true, true, true, true, true, true, true, true, true, true, true, true, true, true, true, true, false, false, true, false] rfl rfl rfl rfl (two_of HT_.out (by kernel_rfl)) (by decide) (by decide) (fun K hK => ?_) (fun K hK => ?_)
        ·skip
         refine goes_ Try.func27 (by kernel_rfl) rfl #[.pointer (some ⟨g, 0, none⟩), .int .i64 9] (by rfl) rfl rfl argx ?_
         with_reducible refine (customsmade_Source_Next.calls g s0_0 t121 9 t122 t123 w0 _ ?side1 ?side2 A9.out).mono ?_
         (case side1 => repeat (first | (with_reducible first | exact HI0.out | apply IsS30.alloc | apply IsS30.drewN | apply IsS30.drew | apply IsS30.set_1 | refine IsS30.far ?_ NB0_109.out _) | exact HI0.out))
         (case side2 => repeat (first | (with_reducible first | exact HB.out | apply below_alloc | apply pw_below_drewN | apply below_drew1 | refine below_set ?_ (IsS30.ge HI0.out) | refine below_set ?_ GE109.out) | exact HB.out))
         rintro e w23 ⟨rfl, hi, hb, hk⟩
         refine ⟨_, rfl, ?_⟩
         have n0_ := Aside0.mk (KeepBut.blk hk (g' := gb109) (o := .cells #[.int .i64 0, .int .i64 0, .int .i64 0, .int .i64 0, .int .i64 0, .int .i64 0] 26 (0, 0)) blkx NB109_0.out (by simp))
         have n1_ := Aside0.mk (Kd.R_mono (Kd.R_keep (IsS30.apart (show IsS30 w0 _ g s0_0 t121 from by repeat (first | (with_reducible first | exact HI0.out | apply IsS30.alloc | apply IsS30.drewN | apply IsS30.drew | apply IsS30.set_1 | refine IsS30.far ?_ NB0_109.out _) | exact HI0.out)) (rowx HO114.out) (by decide)) hk (fun _ h => h.2)) (fun _ h => h.1))
         have n2_ := Aside0.mk (KeepBut.trans zPA1 hk (.inl rfl)); have n3_ := Aside0.mk (hb); have n4_ := Aside0.mk (hi); clear BK109; clear HO114; clear HK; clear HB; clear HI0; have BK109 := n0_; have HO114 := n1_; have HK := n2_; have HB := n3_; have HI0 := n4_; clear n0_ n1_ n2_ n3_ n4_
         (try clear hb)
         (try clear hb2)
         (try clear hk)
         (try clear hi)
         refine hK.out _ _ trivial (fun hHeld => ?_)
         clear hK K
         refine norm_ (a' := ?_) ?_ ?_
         rotate_left
         ·show Act.put _ (some 22) _ = _
          simp only [Act.put, List.setIfInBounds_toArray, List.set_cons_zero, List.set_cons_succ, i64_w, i32_w]
          rfl
         refine pure_ (i := 17) (N := some 23) (v := ?_) (a' := ?_) #[true, true, true, true, true, true, true, true, true, true, true, true, true, true, true, true, true, true, false, false] rfl rfl (any_of HT_.out (by kernel_rfl)) (fun _ _ _ h => h) (Or.inl ⟨by rfl, ?_⟩) ?_ ?_
         rotate_left
         ·intro w'
          go_simp
          with_reducible rfl
         rotate_left
         ·simp only [Act.put, List.setIfInBounds_toArray, List.set_cons_zero, List.set_cons_succ, i64_w, i32_w]
          rfl
         exact norm_ zPA0 (hJ3_4_6_8_10_13_16 (.slice (some adz_v113) y112.length co22, adz_v113) _ ⟨(rowx HO114.out), ⟨_, rfl⟩, blkx, zPA6, zPA1, zPA5⟩)
        ·skip
         refine box_step ?hg (N := 5) ?hd (cs := #[.int .i64 0, .int .i64 0, .int .i64 0, .int .i64 0, .int .i64 0, .int .i64 0]) (t := 26) ?hr ?_; (case hd => rfl); (case hg => rfl); (case hr => first | (go_simp; done) | (go_simp; rfl))
         intro gb124 hg w23 hbox hb
         have n0_ := Aside0.mk (Kd.R_below (rowx HO114.out) hb); have n1_ := Aside0.mk (IsS30.below zPA6 hb); have n2_ := Aside0.mk (blk_below (g := gb109) (o := .cells #[.int .i64 0, .int .i64 0, .int .i64 0, .int .i64 0, .int .i64 0, .int .i64 0] 26 (0, 0)) blkx hb); have n3_ := Aside0.mk (KeepBut.trans zPA1 (KeepBut.of_below hb g none) (.inl rfl)); have n4_ := Aside0.mk (below_step zPA5 hb); have n5_ := Aside0.mk (hbox); have n6_ := Aside0.mk ((by rw [hg]; exact (keep_size (w := w) (g := g) (row := none) zPA1) : w.heap.size ≤ gb124)); have n7_ := Aside0.mk ((Nat.le_trans HW0.out (by rw [hg]; exact (keep_size (w := w) (g := g) (row := none) zPA1) : w.heap.size ≤ gb124) : w0.heap.size ≤ gb124)); have n8_ := Aside0.mk ((by rw [hg]; exact Nat.ne_of_lt (blk_lt (g := gb109) (o := .cells #[.int .i64 0, .int .i64 0, .int .i64 0, .int .i64 0, .int .i64 0, .int .i64 0] 26 (0, 0)) blkx) : gb109 ≠ gb124)); have n9_ := Aside0.mk ((by rw [hg]; exact Nat.ne_of_gt (blk_lt (g := gb109) (o := .cells #[.int .i64 0, .int .i64 0, .int .i64 0, .int .i64 0, .int .i64 0, .int .i64 0] 26 (0, 0)) blkx) : gb124 ≠ gb109))
         have n10_ := Aside0.mk ((by rw [hg]; exact Nat.ne_of_lt (IsS30.lt (show IsS30 w0 _ g s0_0 t121 from by repeat (first | (with_reducible first | exact HI0.out | apply IsS30.alloc | apply IsS30.drewN | apply IsS30.drew | apply IsS30.set_1 | refine IsS30.far ?_ NB0_109.out _) | exact HI0.out))) : g ≠ gb124))
         have n11_ := Aside0.mk ((by rw [hg]; exact Nat.ne_of_gt (IsS30.lt (show IsS30 w0 _ g s0_0 t121 from by repeat (first | (with_reducible first | exact HI0.out | apply IsS30.alloc | apply IsS30.drewN | apply IsS30.drew | apply IsS30.set_1 | refine IsS30.far ?_ NB0_109.out _) | exact HI0.out))) : gb124 ≠ g))
         clear HO114; clear HI0; clear BK109; clear HK; clear HB; have HO114 := n0_; have HI0 := n1_; have BK109 := n2_; have HK := n3_; have HB := n4_; have BK124 := n5_; have GW124 := n6_; have GE124 := n7_; have NB109_124 := n8_; have NB124_109 := n9_; have NB0_124 := n10_; have NB124_0 := n11_; clear n0_ n1_ n2_ n3_ n4_ n5_ n6_ n7_ n8_ n9_ n10_ n11_; clear hb hbox hg
         refine hK.out _ _ trivial (fun hHeld => ?_)
         clear hK K
         refine norm_ (a' := ?_) ?_ ?_
         rotate_left
         ·show Act.put _ (some 5) _ = _
          simp only [Act.put, List.setIfInBounds_toArray, List.set_cons_zero, List.set_cons_succ, i64_w, i32_w]
          rfl
         exact norm_ zPA0 (hJ3_4_6_8_10_13_18 (.slice (some adz_v113) y112.length co22, adz_v113, gb124) _ ⟨(rowx HO114.out), ⟨_, rfl⟩, blkx, blkx, GW124.out, GE124.out, NB0_124.out, NB124_0.out, NB109_124.out, NB124_109.out, zPA4, zPA2, zPA3⟩)
      ·skip
       rintro ⟨v113, adz_v113, gb124⟩ w23 ⟨h0_, h1_, h2_, h3_, h4_, h5_, h6_, h7_, h8_, h9_, h10_, h11_, h12_⟩
       have n0_ : Aside0 (Kd.R (Kd.int .i64) 3 w23 w.heap.size (fun _ => True) v113 y112) := ⟨h0_⟩; have n1_ : Aside0 (∃ c_, (v113 : Value) = .slice (some adz_v113) y112.length c_) := ⟨h1_⟩; have n2_ : Aside0 (w23.heap[gb109]? = some (.cells #[.int .i64 0, .int .i64 0, .int .i64 0, .int .i64 0, .int .i64 0, .int .i64 0] 26 (0, 0))) := ⟨h2_⟩; have n3_ : Aside0 (w23.heap[gb124]? = some (.cells #[.int .i64 0, .int .i64 0, .int .i64 0, .int .i64 0, .int .i64 0, .int .i64 0] 26 (0, 0))) := ⟨h3_⟩; have n4_ : Aside0 (w.heap.size ≤ gb124) := ⟨h4_⟩; have n5_ : Aside0 (w0.heap.size ≤ gb124) := ⟨h5_⟩; have n6_ : Aside0 (g ≠ gb124) := ⟨h6_⟩; have n7_ : Aside0 (gb124 ≠ g) := ⟨h7_⟩; have n8_ : Aside0 (gb109 ≠ gb124) := ⟨h8_⟩; have n9_ : Aside0 (gb124 ≠ gb109) := ⟨h9_⟩; have n10_ : Aside0 (IsS30 w0 w23 g s0_0 t123) := ⟨h10_⟩; have n11_ : Aside0 (KeepBut w w23 g none) := ⟨h11_⟩; have n12_ : Aside0 (Below w0.heap.size w0 w23) := ⟨h12_⟩; clear BK109; clear HI0; clear HK; clear HB; clear h0_ h1_ h2_ h3_ h4_ h5_ h6_ h7_ h8_ h9_ h10_ h11_ h12_; have HO114 := n0_; have HA_HO114 := n1_; have BK109 := n2_; have BK124 := n3_; have GW124 := n4_; have GE124 := n5_; have NB0_124 := n6_; have NB124_0 := n7_; have NB109_124 := n8_; have NB124_109 := n9_; have HI0 := n10_; have HK := n11_; have HB := n12_; clear n0_ n1_ n2_ n3_ n4_ n5_ n6_ n7_ n8_ n9_ n10_ n11_ n12_; have hHeld := trivial; obtain ⟨co24, eo24⟩ := HA_HO114.out; clear HA_HO114; subst eo24
       refine norm_ (a' := ?_) ?_ ?_
       rotate_left
       ·simp only [putAll, Act.put, List.setIfInBounds_toArray, List.set_cons_zero, List.set_cons_succ]
        rfl
       refine one_ (i := 8) (N := some 14) #[true, true, true, true, true, true, true, true, true, true, true, true, true, true, true, true, true, false, true, false] rfl rfl (one_of HT_.out (by kernel_rfl)) (by decide) (fun K hK => ?_)
       (have p117 : 0 ≤ (t115 : Int) := of_decide_eq_true zPA7; have q117 : t115 < (y112.length : Int) := of_decide_eq_true zPA7; obtain ⟨ad117, e117, hx117_0⟩ := Kd.at_int (Kd.R_reads' HO114.out).2.2 t115 p117 q117; obtain rfl : adz_v113 = ad117 := (by injection e117))
       refine value_ (w1 := ?_) (v := ?_) (by rfl) rfl ?_ ?_
       rotate_left 2
       ·go_simp
        constructor
        ·rfl
        ·rfl
       clear hx117_0
       refine hK.out _ _ trivial (fun hHeld => ?_)
       clear hK K
       refine norm_ (a' := ?_) ?_ ?_
       rotate_left
       ·show Act.put _ (some 14) _ = _
        simp only [Act.put, List.setIfInBounds_toArray, List.set_cons_zero, List.set_cons_succ, i64_w, i32_w]
        rfl
       refine pure_ (i := 17) (N := some 23) (v := ?_) (a' := ?_) #[true, true, true, true, true, true, true, true, true, true, true, true, true, true, true, true, true, true, true, false] rfl rfl (any_of HT_.out (by kernel_rfl)) (fun _ _ _ h => h) (Or.inl ⟨by rfl, ?_⟩) ?_ ?_
       rotate_left
       ·intro w'
        go_simp
        with_reducible rfl
       rotate_left
       ·simp only [Act.put, List.setIfInBounds_toArray, List.set_cons_zero, List.set_cons_succ, i64_w, i32_w]
        rfl
       exact norm_ zPA0 (hJ3_4_6_8_10_13_16_18 (.slice (some adz_v113) y112.length co24, adz_v113, gb124) _ ⟨(rowx HO114.out), ⟨_, rfl⟩, blkx, blkx, GW124.out, GE124.out, NB0_124.out, NB124_0.out, NB109_124.out, NB124_109.out, zPA4, zPA2, zPA3⟩)
     ·skip
      rintro ⟨v113, adz_v113, gb124⟩ w22 ⟨h0_, h1_, h2_, h3_, h4_, h5_, h6_, h7_, h8_, h9_, h10_, h11_, h12_⟩
      have n0_ : Aside0 (Kd.R (Kd.int .i64) 3 w22 w.heap.size (fun _ => True) v113 y112) := ⟨h0_⟩; have n1_ : Aside0 (∃ c_, (v113 : Value) = .slice (some adz_v113) y112.length c_) := ⟨h1_⟩; have n2_ : Aside0 (w22.heap[gb109]? = some (.cells #[.int .i64 0, .int .i64 0, .int .i64 0, .int .i64 0, .int .i64 0, .int .i64 0] 26 (0, 0))) := ⟨h2_⟩; have n3_ : Aside0 (w22.heap[gb124]? = some (.cells #[.int .i64 0, .int .i64 0, .int .i64 0, .int .i64 0, .int .i64 0, .int .i64 0] 26 (0, 0))) := ⟨h3_⟩; have n4_ : Aside0 (w.heap.size ≤ gb124) := ⟨h4_⟩; have n5_ : Aside0 (w0.heap.size ≤ gb124) := ⟨h5_⟩; have n6_ : Aside0 (g ≠ gb124) := ⟨h6_⟩; have n7_ : Aside0 (gb124 ≠ g) := ⟨h7_⟩; have n8_ : Aside0 (gb109 ≠ gb124) := ⟨h8_⟩; have n9_ : Aside0 (gb124 ≠ gb109) := ⟨h9_⟩; have n10_ : Aside0 (IsS30 w0 w22 g s0_0 t121) := ⟨h10_⟩; have n11_ : Aside0 (KeepBut w w22 g none) := ⟨h11_⟩; have n12_ : Aside0 (Below w0.heap.size w0 w22) := ⟨h12_⟩; clear BK109; clear HI0; clear HK; clear HB; clear h0_ h1_ h2_ h3_ h4_ h5_ h6_ h7_ h8_ h9_ h10_ h11_ h12_; have HO114 := n0_; have HA_HO114 := n1_; have BK109 := n2_; have BK124 := n3_; have GW124 := n4_; have GE124 := n5_; have NB0_124 := n6_; have NB124_0 := n7_; have NB109_124 := n8_; have NB124_109 := n9_; have HI0 := n10_; have HK := n11_; have HB := n12_; clear n0_ n1_ n2_ n3_ n4_ n5_ n6_ n7_ n8_ n9_ n10_ n11_ n12_; have hHeld := trivial; obtain ⟨co23, eo23⟩ := HA_HO114.out; clear HA_HO114; subst eo23
      refine norm_ (a' := ?_) ?_ ?_
      rotate_left
      ·simp only [putAll, Act.put, List.setIfInBounds_toArray, List.set_cons_zero, List.set_cons_succ]
       rfl
      refine one_ (i := 16) (N := some 22) #[true, true, true, true, true, true, true, true, true, true, true, true, true, true, true, true, true, false, true, false] rfl rfl (one_of HT_.out (by kernel_rfl)) (by decide) (fun K hK => ?_)
      refine goes_ Try.func27 (by kernel_rfl) rfl #[.pointer (some ⟨g, 0, none⟩), .int .i64 9] (by rfl) rfl rfl argx ?_
      with_reducible refine (customsmade_Source_Next.calls g s0_0 t121 9 t122 t123 w0 _ ?side1 ?side2 A9.out).mono ?_
      (case side1 => repeat (first | (with_reducible first | exact HI0.out | apply IsS30.alloc | apply IsS30.drewN | apply IsS30.drew | apply IsS30.set_1 | refine IsS30.far ?_ NB0_109.out _ | refine IsS30.far ?_ NB0_124.out _) | exact HI0.out))
      (case side2 => repeat (first | (with_reducible first | exact HB.out | apply below_alloc | apply pw_below_drewN | apply below_drew1 | refine below_set ?_ (IsS30.ge HI0.out) | refine below_set ?_ GE109.out | refine below_set ?_ GE124.out) | exact HB.out))
      rintro e w24 ⟨rfl, hi, hb, hk⟩
      refine ⟨_, rfl, ?_⟩
      have n0_ := Aside0.mk (KeepBut.blk hk (g' := gb109) (o := .cells #[.int .i64 0, .int .i64 0, .int .i64 0, .int .i64 0, .int .i64 0, .int .i64 0] 26 (0, 0)) blkx NB109_0.out (by simp))
      have n1_ := Aside0.mk (Kd.R_mono (Kd.R_keep (IsS30.apart (show IsS30 w0 _ g s0_0 t121 from by repeat (first | (with_reducible first | exact HI0.out | apply IsS30.alloc | apply IsS30.drewN | apply IsS30.drew | apply IsS30.set_1 | refine IsS30.far ?_ NB0_109.out _ | refine IsS30.far ?_ NB0_124.out _) | exact HI0.out)) (rowx HO114.out) (by decide)) hk (fun _ h => h.2)) (fun _ h => h.1))
      have n2_ := Aside0.mk (KeepBut.blk hk (g' := gb124) (o := .cells #[.int .i64 0, .int .i64 0, .int .i64 0, .int .i64 0, .int .i64 0, .int .i64 0] 26 (0, 0)) blkx NB124_0.out (by simp)); have n3_ := Aside0.mk (KeepBut.trans zPA2 hk (.inl rfl)); have n4_ := Aside0.mk (hb); have n5_ := Aside0.mk (hi); clear BK109; clear HO114; clear BK124; clear HK; clear HB; clear HI0; have BK109 := n0_; have HO114 := n1_; have BK124 := n2_; have HK := n3_; have HB := n4_; have HI0 := n5_; clear n0_ n1_ n2_ n3_ n4_ n5_
      (try clear hb)
      (try clear hb2)
      (try clear hk)
      (try clear hi)
      refine hK.out _ _ trivial (fun hHeld => ?_)
      clear hK K
      refine norm_ (a' := ?_) ?_ ?_
      rotate_left
      ·show Act.put _ (some 22) _ = _
       simp only [Act.put, List.setIfInBounds_toArray, List.set_cons_zero, List.set_cons_succ, i64_w, i32_w]
       rfl
      refine pure_ (i := 17) (N := some 23) (v := ?_) (a' := ?_) #[true, true, true, true, true, true, true, true, true, true, true, true, true, true, true, true, true, true, true, false] rfl rfl (any_of HT_.out (by kernel_rfl)) (fun _ _ _ h => h) (Or.inl ⟨by rfl, ?_⟩) ?_ ?_
      rotate_left
      ·intro w'
       go_simp
       with_reducible rfl
      rotate_left
      ·simp only [Act.put, List.setIfInBounds_toArray, List.set_cons_zero, List.set_cons_succ, i64_w, i32_w]
       rfl
      exact norm_ zPA0 (hJ3_4_6_8_10_13_16_18 (.slice (some adz_v113) y112.length co23, adz_v113, gb124) _ ⟨(rowx HO114.out), ⟨_, rfl⟩, blkx, blkx, GW124.out, GE124.out, NB0_124.out, NB124_0.out, NB109_124.out, NB124_109.out, zPA4, zPA2, zPA3⟩)
    ·skip
     rintro ⟨v113, adz_v113⟩ w22 ⟨h0_, h1_, h2_, h3_, h4_, h5_⟩
     have n0_ : Aside0 (Kd.R (Kd.int .i64) 3 w22 w.heap.size (fun _ => True) v113 y112) := ⟨h0_⟩; have n1_ : Aside0 (∃ c_, (v113 : Value) = .slice (some adz_v113) y112.length c_) := ⟨h1_⟩; have n2_ : Aside0 (w22.heap[gb109]? = some (.cells #[.int .i64 0, .int .i64 0, .int .i64 0, .int .i64 0, .int .i64 0, .int .i64 0] 26 (0, 0))) := ⟨h2_⟩; have n3_ : Aside0 (IsS30 w0 w22 g s0_0 t123) := ⟨h3_⟩; have n4_ : Aside0 (KeepBut w w22 g none) := ⟨h4_⟩; have n5_ : Aside0 (Below w0.heap.size w0 w22) := ⟨h5_⟩; clear BK109; clear HI0; clear HK; clear HB; clear h0_ h1_ h2_ h3_ h4_ h5_; have HO114 := n0_; have HA_HO114 := n1_; have BK109 := n2_; have HI0 := n3_; have HK := n4_; have HB := n5_; clear n0_ n1_ n2_ n3_ n4_ n5_; have hHeld := trivial; obtain ⟨co23, eo23⟩ := HA_HO114.out; clear HA_HO114; subst eo23
     refine norm_ (a' := ?_) ?_ ?_
     rotate_left
     ·simp only [putAll, Act.put, List.setIfInBounds_toArray, List.set_cons_zero, List.set_cons_succ]
      rfl
     refine one_ (i := 18) (N := some 5) #[true, true, true, true, true, true, true, true, true, true, true, true, true, true, true, true, true, true, true, false] rfl rfl (one_of HT_.out (by kernel_rfl)) (by decide) (fun K hK => ?_)
     refine box_step ?hg (N := 5) ?hd (cs := #[.int .i64 0, .int .i64 0, .int .i64 0, .int .i64 0, .int .i64 0, .int .i64 0]) (t := 26) ?hr ?_; (case hd => rfl); (case hg => rfl); (case hr => first | (go_simp; done) | (go_simp; rfl))
     intro gb124 hg w24 hbox hb
     have n0_ := Aside0.mk (Kd.R_below (rowx HO114.out) hb); have n1_ := Aside0.mk (IsS30.below zPA6 hb); have n2_ := Aside0.mk (blk_below (g := gb109) (o := .cells #[.int .i64 0, .int .i64 0, .int .i64 0, .int .i64 0, .int .i64 0, .int .i64 0] 26 (0, 0)) blkx hb); have n3_ := Aside0.mk (KeepBut.trans zPA1 (KeepBut.of_below hb g none) (.inl rfl)); have n4_ := Aside0.mk (below_step zPA5 hb); have n5_ := Aside0.mk (hbox); have n6_ := Aside0.mk ((by rw [hg]; exact (keep_size (w := w) (g := g) (row := none) zPA1) : w.heap.size ≤ gb124)); have n7_ := Aside0.mk ((Nat.le_trans HW0.out (by rw [hg]; exact (keep_size (w := w) (g := g) (row := none) zPA1) : w.heap.size ≤ gb124) : w0.heap.size ≤ gb124)); have n8_ := Aside0.mk ((by rw [hg]; exact Nat.ne_of_lt (blk_lt (g := gb109) (o := .cells #[.int .i64 0, .int .i64 0, .int .i64 0, .int .i64 0, .int .i64 0, .int .i64 0] 26 (0, 0)) blkx) : gb109 ≠ gb124)); have n9_ := Aside0.mk ((by rw [hg]; exact Nat.ne_of_gt (blk_lt (g := gb109) (o := .cells #[.int .i64 0, .int .i64 0, .int .i64 0, .int .i64 0, .int .i64 0, .int .i64 0] 26 (0, 0)) blkx) : gb124 ≠ gb109))
     have n10_ := Aside0.mk ((by rw [hg]; exact Nat.ne_of_lt (IsS30.lt (show IsS30 w0 _ g s0_0 t123 from by repeat (first | (with_reducible first | exact HI0.out | apply IsS30.alloc | apply IsS30.drewN | apply IsS30.drew | apply IsS30.set_1 | refine IsS30.far ?_ NB0_109.out _) | exact HI0.out))) : g ≠ gb124))
     have n11_ := Aside0.mk ((by rw [hg]; exact Nat.ne_of_gt (IsS30.lt (show IsS30 w0 _ g s0_0 t123 from by repeat (first | (with_reducible first | exact HI0.out | apply IsS30.alloc | apply IsS30.drewN | apply IsS30.drew | apply IsS30.set_1 | refine IsS30.far ?_ NB0_109.out _) | exact HI0.out))) : gb124 ≠ g))
     clear HO114; clear HI0; clear BK109; clear HK; clear HB; have HO114 := n0_; have HI0 := n1_; have BK109 := n2_; have HK := n3_; have HB := n4_; have BK124 := n5_; have GW124 := n6_; have GE124 := n7_; have NB109_124 := n8_; have NB124_109 := n9_; have NB0_124 := n10_; have NB124_0 := n11_; clear n0_ n1_ n2_ n3_ n4_ n5_ n6_ n7_ n8_ n9_ n10_ n11_; clear hb hbox hg
     refine hK.out _ _ trivial (fun hHeld => ?_)
     clear hK K
     refine norm_ (a' := ?_) ?_ ?_
     rotate_left
     ·show Act.put _ (some 5) _ = _
      simp only [Act.put, List.setIfInBounds_toArray, List.set_cons_zero, List.set_cons_succ, i64_w, i32_w]
      rfl
     exact norm_ zPA0 (hJ3_4_6_8_10_13_16_18 (.slice (some adz_v113) y112.length co23, adz_v113, gb124) _ ⟨(rowx HO114.out), ⟨_, rfl⟩, blkx, blkx, GW124.out, GE124.out, NB0_124.out, NB124_0.out, NB109_124.out, NB124_109.out, zPA4, zPA2, zPA3⟩)
   rintro ⟨v113, adz_v113, gb124⟩ w23 ⟨h0_, h1_, h2_, h3_, h4_, h5_, h6_, h7_, h8_, h9_, h10_, h11_, h12_⟩
   have n0_ : Aside0 (Kd.R (Kd.int .i64) 3 w23 w.heap.size (fun _ => True) v113 y112) := ⟨h0_⟩; have n1_ : Aside0 (∃ c_, (v113 : Value) = .slice (some adz_v113) y112.length c_) := ⟨h1_⟩; have n2_ : Aside0 (w23.heap[gb109]? = some (.cells #[.int .i64 0, .int .i64 0, .int .i64 0, .int .i64 0, .int .i64 0, .int .i64 0] 26 (0, 0))) := ⟨h2_⟩; have n3_ : Aside0 (w23.heap[gb124]? = some (.cells #[.int .i64 0, .int .i64 0, .int .i64 0, .int .i64 0, .int .i64 0, .int .i64 0] 26 (0, 0))) := ⟨h3_⟩; have n4_ : Aside0 (w.heap.size ≤ gb124) := ⟨h4_⟩; have n5_ : Aside0 (w0.heap.size ≤ gb124) := ⟨h5_⟩; have n6_ : Aside0 (g ≠ gb124) := ⟨h6_⟩; have n7_ : Aside0 (gb124 ≠ g) := ⟨h7_⟩; have n8_ : Aside0 (gb109 ≠ gb124) := ⟨h8_⟩; have n9_ : Aside0 (gb124 ≠ gb109) := ⟨h9_⟩; have n10_ : Aside0 (IsS30 w0 w23 g s0_0 t123) := ⟨h10_⟩; have n11_ : Aside0 (KeepBut w w23 g none) := ⟨h11_⟩; have n12_ : Aside0 (Below w0.heap.size w0 w23) := ⟨h12_⟩; clear BK109; clear HI0; clear HK; clear HB; clear h0_ h1_ h2_ h3_ h4_ h5_ h6_ h7_ h8_ h9_ h10_ h11_ h12_; have HO114 := n0_; have HA_HO114 := n1_; have BK109 := n2_; have BK124 := n3_; have GW124 := n4_; have GE124 := n5_; have NB0_124 := n6_; have NB124_0 := n7_; have NB109_124 := n8_; have NB124_109 := n9_; have HI0 := n10_; have HK := n11_; have HB := n12_; clear n0_ n1_ n2_ n3_ n4_ n5_ n6_ n7_ n8_ n9_ n10_ n11_ n12_; have hHeld := trivial; obtain ⟨co24, eo24⟩ := HA_HO114.out; clear HA_HO114; subst eo24
   refine norm_ (a' := ?_) ?_ ?_
   rotate_left
   ·simp only [putAll, Act.put, List.setIfInBounds_toArray, List.set_cons_zero, List.set_cons_succ]
    rfl
   refine one_ (i := 19) (N := none) #[true, true, true, true, true, true, true, true, true, true, true, true, true, true, true, true, true, true, true, true] rfl rfl (one_of HT_.out (by kernel_rfl)) (by decide) (fun K hK => ?_)
   have hs25 : w23.cell? ⟨gb124, 0, none⟩ = some (.int .i64 0) := (blk_cell BK124.out 0).trans rfl; have hfs25 := blk_frozen BK124.out 0; have hns25_0 := NB109_124.out; have hms25_0 := NB124_109.out; have hs26 : w23.cell? ⟨gb124, 1, none⟩ = some (.int .i64 0) := (blk_cell BK124.out 1).trans rfl; have hfs26 := blk_frozen BK124.out 1; have hns26_0 := NB109_124.out; have hms26_0 := NB124_109.out; have hs27 : w23.cell? ⟨gb124, 2, none⟩ = some (.int .i64 0) := (blk_cell BK124.out 2).trans rfl; have hfs27 := blk_frozen BK124.out 2; have hns27_0 := NB109_124.out; have hms27_0 := NB124_109.out; have hs28 : w23.cell? ⟨gb124, 3, none⟩ = some (.int .i64 0) := (blk_cell BK124.out 3).trans rfl; have hfs28 := blk_frozen BK124.out 3; have hns28_0 := NB109_124.out; have hms28_0 := NB124_109.out; have hs29 : w23.cell? ⟨gb124, 4, none⟩ = some (.int .i64 0) := (blk_cell BK124.out 4).trans rfl; have hfs29 := blk_frozen BK124.out 4; have hns29_0 := NB109_124.out; have hms29_0 := NB124_109.out; have hs30 : w23.cell? ⟨gb124, 5, none⟩ = some (.int .i64 0) := (blk_cell BK124.out 5).trans rfl; have hfs30 := blk_frozen BK124.out 5; have hns30_0 := NB109_124.out; have hms30_0 := NB124_109.out
   refine skip_ (w1 := ?_) (by rfl) rfl ?_ ?_
   rotate_left
   ·go_simp
    rfl
   refine hK.out _ _ trivial (fun hHeld => ?_)
   clear hK K
   refine done_ (done_of HT_.out (by kernel_rfl)) ?_
   have H := NH_.out; clear NH_
   by_cases c10 : (rd y112 t115) = 9
   ·rw [if_pos c10] at H
    have c10b0 : ((rd y112 t115) == 9) = true := beq_iff_eq.mpr c10; have c10b1 : ((rd y112 t115) != 9) = false := bne_eq_false_iff_eq.mpr c10; clear c10; replace H := Option.bind_eq_some_iff.mp H; obtain ⟨⟨t125, t126⟩, A110, H⟩ := H; replace H : (some (wrap64 (a1 + 1), t110, rd y112 t115, wrap64 (1 + t118), wrap64 (1 + t125), t122, t126)) = some (r1, r2, r3, r4, r5, r6, r7) := H; have A11 := Aside0.mk A110; clear A110
    simp only [Option.some.injEq, Prod.mk.injEq] at H
    obtain ⟨rfl, rfl, rfl, rfl, rfl, rfl, rfl⟩ := H; have hnb31 := NB124_109.out; have hnc31 := NB109_124.out; have hnb32 := NB124_0.out; have hnc32 := NB0_124.out; obtain ⟨hcz33_0, hcz33_1, hcz33_2, hcz33_3, hcz33_4, hcz33_5, hfz33_0, hfz33_1, hfz33_2, hfz33_3, hfz33_4, hfz33_5⟩ := cells6 BK124.out
    try go_wp2_with (first | ((with_reducible refine gate_callee (f := 27) rfl ?_); refine goesL_ (some 30) rfl rfl Try.func27 (by kernel_rfl) rfl #[.pointer (some ⟨g, 0, none⟩), .int .i64 (wrap64 (a1 + 1))] rfl argx ?_; (with_reducible refine (customsmade_Source_Next.calls g s0_0 t123 (wrap64 (a1 + 1)) t125 t126 w0 _ ?side1 ?side2 A11.out).mono ?_); (case side1 => repeat (first | (with_reducible first | exact HI0.out | apply IsS30.alloc | apply IsS30.drewN | apply IsS30.drew | apply IsS30.set_1 | refine IsS30.far ?_ NB0_109.out _ | refine IsS30.far ?_ NB0_124.out _) | exact HI0.out)); (case side2 => repeat (first | (with_reducible first | exact HB.out | apply below_alloc | apply pw_below_drewN | apply below_drew1 | refine below_set ?_ (IsS30.ge HI0.out) | refine below_set ?_ GE109.out | refine below_set ?_ GE124.out) | exact HB.out)); rintro e w34 ⟨rfl, hi, hb, hk⟩; refine ⟨_, rfl, ?_⟩; have n0_ := Aside0.mk (KeepBut.blk hk (g' := gb109) (o := .cells #[.int .i64 0, .int .i64 0, .int .i64 0, .int .i64 0, .int .i64 0, .int .i64 0] 26 (0, 0)) blkx NB109_0.out (by simp)); have n2_ := Aside0.mk (KeepBut.blk hk (g' := gb124) (o := .cells #[.int .i64 (wrap64 (a1 + 1)), .int .i64 t110, .int .i64 (rd y112 t115), .int .i64 (wrap64 (1 + t118)), .int .i64 (wrap64 (1 + t120)), .int .i64 t122] 26 (0, 0)) (by (with_reducible repeat (first | refine blk_drewN ?_ _ | refine blk_drew ?_ | refine blk_alloc ?_ _)); refine blk_put (cs := #[.int .i64 (wrap64 (a1 + 1)), .int .i64 t110, .int .i64 (rd y112 t115), .int .i64 (wrap64 (1 + t118)), .int .i64 (wrap64 (1 + t120)), .int .i64 0]) ?_ 5 _ rfl; refine blk_put (cs := #[.int .i64 (wrap64 (a1 + 1)), .int .i64 t110, .int .i64 (rd y112 t115), .int .i64 (wrap64 (1 + t118)), .int .i64 0, .int .i64 0]) ?_ 4 _ rfl; refine blk_put (cs := #[.int .i64 (wrap64 (a1 + 1)), .int .i64 t110, .int .i64 (rd y112 t115), .int .i64 0, .int .i64 0, .int .i64 0]) ?_ 3 _ rfl; refine blk_put (cs := #[.int .i64 (wrap64 (a1 + 1)), .int .i64 t110, .int .i64 0, .int .i64 0, .int .i64 0, .int .i64 0]) ?_ 2 _ rfl; refine blk_put (cs := #[.int .i64 (wrap64 (a1 + 1)), .int .i64 0, .int .i64 0, .int .i64 0, .int .i64 0, .int .i64 0]) ?_ 1 _ rfl; refine blk_put (cs := #[.int .i64 0, .int .i64 0, .int .i64 0, .int .i64 0, .int .i64 0, .int .i64 0]) ?_ 0 _ rfl; (with_reducible repeat (first | refine blk_drewN ?_ _ | refine blk_drew ?_ | refine blk_alloc ?_ _)); exact BK124.out) NB124_0.out (by simp)); have n3_ := Aside0.mk (KeepBut.trans zPA2 hk (.inl rfl)); have n4_ := Aside0.mk (hb); have n5_ := Aside0.mk (hi); clear BK109; (try clear HO114); clear BK124; clear HK; clear HB; clear HI0; have BK109 := n0_; have BK124 := n2_; have HK := n3_; have HB := n4_; have HI0 := n5_; clear n0_ n2_ n3_ n4_ n5_; (try clear hb); (try clear hb2); (try clear hk); (try clear hi); obtain ⟨hcz35_0, hcz35_1, hcz35_2, hcz35_3, hcz35_4, hcz35_5, hfz35_0, hfz35_1, hfz35_2, hfz35_3, hfz35_4, hfz35_5⟩ := cells6 BK124.out; have hnb36 := NB109_0.out; have hnc36 := NB0_109.out; obtain ⟨hcz37_0, hcz37_1, hcz37_2, hcz37_3, hcz37_4, hcz37_5, hfz37_0, hfz37_1, hfz37_2, hfz37_3, hfz37_4, hfz37_5⟩ := cells6 BK109.out))
    refine bodyPost_ret (results_cell_row rfl _ _ gb109 26 #[.int .i64 (wrap64 (a1 + 1)), .int .i64 t110, .int .i64 (rd y112 t115), .int .i64 (wrap64 (1 + t118)), .int .i64 (wrap64 (1 + t125)), .int .i64 t122] (0, 0) _ rfl (by (with_reducible repeat (first | refine blk_drewN ?_ _ | refine blk_drew ?_ | refine blk_alloc ?_ _)); refine blk_put (cs := #[.int .i64 (wrap64 (a1 + 1)), .int .i64 t110, .int .i64 (rd y112 t115), .int .i64 (wrap64 (1 + t118)), .int .i64 (wrap64 (1 + t125)), .int .i64 0]) ?_ 5 _ rfl; refine blk_put (cs := #[.int .i64 (wrap64 (a1 + 1)), .int .i64 t110, .int .i64 (rd y112 t115), .int .i64 (wrap64 (1 + t118)), .int .i64 0, .int .i64 0]) ?_ 4 _ rfl; refine blk_put (cs := #[.int .i64 (wrap64 (a1 + 1)), .int .i64 t110, .int .i64 (rd y112 t115), .int .i64 0, .int .i64 0, .int .i64 0]) ?_ 3 _ rfl; refine blk_put (cs := #[.int .i64 (wrap64 (a1 + 1)), .int .i64 t110, .int .i64 0, .int .i64 0, .int .i64 0, .int .i64 0]) ?_ 2 _ rfl; refine blk_put (cs := #[.int .i64 (wrap64 (a1 + 1)), .int .i64 0, .int .i64 0, .int .i64 0, .int .i64 0, .int .i64 0]) ?_ 1 _ rfl; refine blk_put (cs := #[.int .i64 0, .int .i64 0, .int .i64 0, .int .i64 0, .int .i64 0, .int .i64 0]) ?_ 0 _ rfl; refine blk_far ?_ NB109_124.out _; (with_reducible repeat (first | refine blk_drewN ?_ _ | refine blk_drew ?_ | refine blk_alloc ?_ _)); exact BK109.out) Try.underlying26 rfl (by kernel_rfl)) rfl ?_
    exact ⟨by first | rfl | (simp [errW_none, errW_some] <;> rfl) | (simp [*, errW_none, errW_some] <;> rfl), by repeat (first | (with_reducible first | exact HI0.out | apply IsS30.alloc | apply IsS30.drewN | apply IsS30.drew | apply IsS30.set_1 | refine IsS30.far ?_ NB0_109.out _ | refine IsS30.far ?_ NB0_124.out _) | exact HI0.out), by repeat (first | (with_reducible first | exact HB.out | apply below_alloc | apply pw_below_drewN | apply below_drew1 | refine below_set ?_ (IsS30.ge HI0.out) | refine below_set ?_ GE109.out | refine below_set ?_ GE124.out) | exact HB.out), by repeat (first | (with_reducible first | exact HK.out | apply KeepBut.set_ | apply keep_drewN | apply keep_drew | apply keep_alloc | refine keep_far ?_ GW109.out _ | refine keep_far ?_ GW124.out _) | exact HK.out)⟩
   ·rw [if_neg c10] at H
    have c10b0 : ((rd y112 t115) == 9) = false := beq_eq_false_iff_ne.mpr c10; have c10b1 : ((rd y112 t115) != 9) = true := bne_iff_ne.mpr c10
    simp only [Option.some.injEq, Prod.mk.injEq] at H
    obtain ⟨rfl, rfl, rfl, rfl, rfl, rfl, rfl⟩ := H; have hnb57 := NB124_109.out; have hnc57 := NB109_124.out; have hnb58 := NB124_0.out; have hnc58 := NB0_124.out; obtain ⟨hcz59_0, hcz59_1, hcz59_2, hcz59_3, hcz59_4, hcz59_5, hfz59_0, hfz59_1, hfz59_2, hfz59_3, hfz59_4, hfz59_5⟩ := cells6 BK124.out; have hnb60 := NB109_0.out; have hnc60 := NB0_109.out; obtain ⟨hcz61_0, hcz61_1, hcz61_2, hcz61_3, hcz61_4, hcz61_5, hfz61_0, hfz61_1, hfz61_2, hfz61_3, hfz61_4, hfz61_5⟩ := cells6 BK109.out
    try go_wp2
    refine bodyPost_ret (results_cell_row rfl _ _ gb109 26 #[.int .i64 (wrap64 (a1 + 1)), .int .i64 t110, .int .i64 (rd y112 t115), .int .i64 (wrap64 (1 + t118)), .int .i64 (wrap64 (1 + t120)), .int .i64 t122] (0, 0) _ rfl (by (with_reducible repeat (first | refine blk_drewN ?_ _ | refine blk_drew ?_ | refine blk_alloc ?_ _)); refine blk_put (cs := #[.int .i64 (wrap64 (a1 + 1)), .int .i64 t110, .int .i64 (rd y112 t115), .int .i64 (wrap64 (1 + t118)), .int .i64 (wrap64 (1 + t120)), .int .i64 0]) ?_ 5 _ rfl; refine blk_put (cs := #[.int .i64 (wrap64 (a1 + 1)), .int .i64 t110, .int .i64 (rd y112 t115), .int .i64 (wrap64 (1 + t118)), .int .i64 0, .int .i64 0]) ?_ 4 _ rfl; refine blk_put (cs := #[.int .i64 (wrap64 (a1 + 1)), .int .i64 t110, .int .i64 (rd y112 t115), .int .i64 0, .int .i64 0, .int .i64 0]) ?_ 3 _ rfl; refine blk_put (cs := #[.int .i64 (wrap64 (a1 + 1)), .int .i64 t110, .int .i64 0, .int .i64 0, .int .i64 0, .int .i64 0]) ?_ 2 _ rfl; refine blk_put (cs := #[.int .i64 (wrap64 (a1 + 1)), .int .i64 0, .int .i64 0, .int .i64 0, .int .i64 0, .int .i64 0]) ?_ 1 _ rfl; refine blk_put (cs := #[.int .i64 0, .int .i64 0, .int .i64 0, .int .i64 0, .int .i64 0, .int .i64 0]) ?_ 0 _ rfl; refine blk_far ?_ NB109_124.out _; refine blk_far ?_ NB109_124.out _; refine blk_far ?_ NB109_124.out _; refine blk_far ?_ NB109_124.out _; refine blk_far ?_ NB109_124.out _; refine blk_far ?_ NB109_124.out _; (with_reducible repeat (first | refine blk_drewN ?_ _ | refine blk_drew ?_ | refine blk_alloc ?_ _)); exact BK109.out) Try.underlying26 rfl (by kernel_rfl)) rfl ?_
    exact ⟨by first | rfl | (simp [errW_none, errW_some] <;> rfl) | (simp [*, errW_none, errW_some] <;> rfl), by repeat (first | (with_reducible first | exact HI0.out | apply IsS30.alloc | apply IsS30.drewN | apply IsS30.drew | apply IsS30.set_1 | refine IsS30.far ?_ NB0_109.out _ | refine IsS30.far ?_ NB0_124.out _) | exact HI0.out), by repeat (first | (with_reducible first | exact HB.out | apply below_alloc | apply pw_below_drewN | apply below_drew1 | refine below_set ?_ (IsS30.ge HI0.out) | refine below_set ?_ GE109.out | refine below_set ?_ GE124.out) | exact HB.out), by repeat (first | (with_reducible first | exact HK.out | apply KeepBut.set_ | apply keep_drewN | apply keep_drew | apply keep_alloc | refine keep_far ?_ GW109.out _ | refine keep_far ?_ GW124.out _) | exact HK.out)⟩
  ·rw [if_neg c6] at H
   exact absurd H (by simp)
 ·rw [if_neg c5] at H
  exact absurd H (by simp)
end Go.Proofs.Ytgedkdofhonicaa.PA
