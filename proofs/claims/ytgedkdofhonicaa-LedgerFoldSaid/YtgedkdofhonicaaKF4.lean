/- Part 4 of the proof of ledgerFold_holds: texts of this claim, printed and by hand, cut to what it needs (wip/tools/link.py). Lean checks every line. -/
import Derived.Test.YtgedkdofhonicaaKF3
import Derived.Shelf.SortM.SortNone
import Derived.Sort.OwnSortedInts
/- The contracts by hand of slices.Clone at entries and slices.Sort at whole numbers. -/
namespace Go.Proofs.Ytgedkdofhonicaa.G
open Go.RowKit Go.Proofs.YtgedkdofhonicaaW.PrintWords Go.Proofs.YtgedkdofhonicaaW.PrintLast Go.Proofs.YtgedkdofhonicaaW.PrintMore Go.Proofs.Ytgedkdofhonicaa.PA
set_option linter.unusedVariables false
set_option linter.unusedSimpArgs false
set_option maxHeartbeats 400000 in
theorem clone_calls (A0 : Option Addr) (c0 : Nat) (l0 : List S26) (w : World) (hr0 : Kd.C k26 w A0 l0.length l0) (hc0 : l0.length ≤ c0) (hn : l0.length < 2000000000000) :
    Calls Try.prog 34 #[.slice A0 l0.length c0] w fun e w' => ∃ v0_ : Value, e = .returned (v0_) ∧ Kd.R k26 26 w' w.heap.size (fun _ => True) v0_ l0 ∧ Below w.heap.size w w' := by
  have HR0_ := Aside0.mk hr0; have HC0 := Aside0.mk hc0; clear hr0 hc0; have hu26 := Try.underlying26
  rcases A0 with _ | ad
  · have h0 : l0.length = 0 := by
      rcases Nat.eq_zero_or_pos l0.length with h0 | h0
      · exact h0
      · obtain ⟨ad, h, _⟩ := HR0_.out.2.2 h0
        cases h
    have hl : l0 = [] := List.eq_nil_of_length_eq_zero h0; subst hl; clear h0
    have heq : ∀ w, (binOp .eql 23 (.slice none 0 c0) (.slice none 0 0)).run Try.prog w = .ok (.bool true) w := fun w => Lib.run_eql_slice_nil (P := Try.prog) w 23 26 none 0 c0 0 0 Try.underlying23
    go_enter Try.func34, Try.ntmps34
    go_wp2
    go_ret
    exact ⟨_, rfl, Kd.R_nil _ _ _ _ _, Below.refl _ _⟩
  · have heq : ∀ w, (binOp .eql 23 (.slice (some ad) l0.length c0) (.slice none 0 0)).run Try.prog w = .ok (.bool false) w := fun w => Lib.run_eql_slice_nil (P := Try.prog) w 23 26 (some ad) l0.length c0 0 0 Try.underlying23
    go_enter Try.func34, Try.ntmps34
    go_wp2_with (first
      | ((with_reducible refine gate_dst (N := 5) rfl ?_); refine Kd.R_lit k26 _ 26 ?hg (N := 5) ?hd (xs := ([] : List (S26))) (inner := []) (ok := fun _ => True) (okp := fun _ => True) ?hr ?hp (fun _ hk => hk) trivial (Below.refl _ _) (Nat.le_refl _) (by simp) ?_; (case hd => rfl); (case hg => rfl); (case hr => first | (go_simp; done) | (go_simp; rfl)); (case hp => exact (Reps.none _ _)); intro v1 w1 ho1 hb hg_ hnew_; clear hg_ hnew_; have HO1 := Aside0.mk ho1; have HB := Aside0.mk hb; clear ho1 hb)
      | ((with_reducible refine gate_builtin (b := .append) (xs := #[.tmp 5, .tmp 6]) rfl ?_); at_builtin; refine Kd.R_append_rows k26 (w0 := w) w.heap.size rfl (.tmp 5) (.tmp 6) 23 26 (.agg #[(.int .i64 0), (.int .i64 0), (.int .i64 0), (.int .i64 0), (.int .i64 0), (.int .i64 0)]) 48 rfl Try.underlying23 info26 rfl (by decide) (by omega) v1 ([] : List S26) l0 _ _ _ (fun _ => True) (fun _ => False) rfl rfl HO1.out (Kd.C_below HR0_.out HB.out) (fun _ _ h => h) (fun _ h => h.elim) (fun _ _ => trivial) HB.out (below_size HB.out) (by simp; omega) ?_; intro v2 w2 ho hb hg hat; have HO2 := Aside0.mk ho; have HB2 := Aside0.mk hb; clear ho hb hg hat))
    go_ret
    exact ⟨_, rfl, HO2.out, HB2.out⟩
theorem sort33_none (w : World) : Calls Try.prog 33 #[.slice none 0 0] w fun e w' => e = .returned (.tuple #[]) ∧ w' = w :=
  AnyM.slices_Sort_int_none Ytgedkdofhonicaa.S.sortM none 0 w
/-- The row of whole numbers of the call's own holds them sorted. -/
theorem sort33 {w : World} {base g c : Nat} {ok : Nat → Prop} {xs : List Int} (hd : xs.length < 4611686018427387904) (h : Kd.R (Kd.int .i64) 3 w base ok (.slice (some ⟨g, 0, none⟩) xs.length c) xs) :
    Calls Try.prog 33 #[.slice (some ⟨g, 0, none⟩) xs.length c] w fun e w' => e = .returned (.tuple #[]) ∧ Kd.R (Kd.int .i64) 3 w' base ok (.slice (some ⟨g, 0, none⟩) xs.length c) (xs.mergeSort fun x y => decide (x ≤ y)) ∧ w.grownBy w' (some g) := by
  have hok := h.1; have ho := Kd.own_of_R h
  rcases ho.2 with ⟨h0, _⟩ | ⟨g', cap, cur, hv, hg, hb, h1, h2, h3, h4⟩
  · cases h0
  injection hv with hv1 hv2 hv3
  injection hv1 with hv1
  injection hv1 with hv1
  subst hv1; subst hv3
  have h4' : cur.toList.take xs.length = xs.map (Value.int .i64) := by rw [Nat.mul_one] at h4; exact h4
  have hgl : g < w.heap.size := (Array.getElem?_eq_some_iff.1 hb).1; have hl : (xs.mergeSort fun x y => decide (x ≤ y)).length = xs.length := List.length_mergeSort xs
  refine (AnyM.slices_Sort_int Ytgedkdofhonicaa.S.sortM g 0 c xs w (holds_of_blockI hb h4') hgl hd).mono ?_
  rintro e w' ⟨he, n, os, rfl⟩
  refine ⟨he, Kd.R_of_own ?_ hok, grownBy_sortedI _⟩
  rw [hl]
  exact ownsRow_sortedI hl hg hb h1 h2 h3
end Go.Proofs.Ytgedkdofhonicaa.G
/- The contract by hand of ledger.steps (its rounds are written by mksteps30.py). -/
namespace Go.Proofs.Ytgedkdofhonicaa.G
open Go.RowKit Go.Proofs.YtgedkdofhonicaaW.PrintWords Go.Proofs.YtgedkdofhonicaaW.PrintLast Go.Proofs.YtgedkdofhonicaaW.PrintMore Go.Proofs.Ytgedkdofhonicaa.PA
set_option linter.unusedVariables false
set_option linter.unusedSimpArgs false
/-- Field j of a balance. -/
def fldB (b : Bal) : Nat → Int
  | 0 => b.o
  | 1 => b.s
  | 2 => b.p
  | _ => b.r
def dif (a b : Bal) (j : Nat) : Int := wrap64 (fldB b j - fldB a j)
def fallsTo (x : Int) (a b : Bal) : Nat → List S26
  | 0 => []
  | j + 1 => if dif a b j < 0 then fallsTo x a b j ++ [⟨0, 0, 2 * (j : Int) + 2, x, wrap64 (-dif a b j), 0⟩] else fallsTo x a b j
def risesTo (x : Int) (a b : Bal) : Nat → List S26
  | 0 => []
  | j + 1 => if 0 < dif a b j then risesTo x a b j ++ [⟨0, 0, 2 * (j : Int) + 1, x, dif a b j, 0⟩] else risesTo x a b j
/-- What steps answers. -/
def stepsB (x : Int) (a b : Bal) : List S26 := fallsTo x a b 4 ++ risesTo x a b 4
theorem fallsTo_len (x : Int) (a b : Bal) : ∀ j, (fallsTo x a b j).length ≤ j
  | 0 => Nat.le_refl _
  | j + 1 => by
    have := fallsTo_len x a b j
    rw [fallsTo]
    split
    · rw [List.length_append, List.length_singleton]; omega
    · omega
theorem risesTo_len (x : Int) (a b : Bal) : ∀ j, (risesTo x a b j).length ≤ j
  | 0 => Nat.le_refl _
  | j + 1 => by
    have := risesTo_len x a b j
    rw [risesTo]
    split
    · rw [List.length_append, List.length_singleton]; omega
    · omega
theorem k26_any {w : World} {b1 : Nat} {ok1 ok2 : Nat → Prop} {x : S26} {cs : List Value} (h : k26.M w b1 ok1 x cs) : k26.M w b1 ok2 x cs := by
  obtain rfl := k26_openM h
  exact k26_mkM _ _ _ x
theorem flat26 {w : World} {base : Nat} {ok ok' : Nat → Prop} {v : Value} {xs : List S26} (h : Kd.R k26 26 w base ok v xs) (hok : ∀ k, v.ownBlock = some k → ok k → ok' k) : Kd.R k26 26 w base ok' v xs := by
  obtain ⟨h0, inner, hown, hr⟩ := h
  exact ⟨fun k hk => hok k hk (h0 k hk), inner, hown, hr.imp_ (fun _ _ hm => k26_any hm)⟩
/-- Two rows of entries of the call's own, apart. -/
structure Two (w : World) (base : Nat) (u v : Value) (xs ys : List S26) : Prop where
  l : Kd.R k26 26 w base (fun _ => True) u xs
  r : Kd.R k26 26 w base (fun _ => True) v ys
  ne : ∀ k, u.ownBlock = some k → v.ownBlock ≠ some k
section
variable {w w1 : World} {base : Nat} {u v u1 : Value} {xs ys xs1 : List S26}
theorem Two.below (h : Two w base u v xs ys) (hb : Below w.heap.size w w1) : Two w1 base u v xs ys := ⟨Kd.R_below h.l hb, Kd.R_below h.r hb, h.ne⟩
theorem Two.left (h : Two w base u v xs ys) (hg : w.grownBy w1 u.ownBlock) (hat : u1.ownBlock = u.ownBlock ∨ ∃ b, u1.ownBlock = some b ∧ w.heap.size ≤ b) (hR : Kd.R k26 26 w1 base (fun _ => True) u1 xs1) : Two w1 base u1 v xs1 ys :=
  ⟨hR, Kd.R_mono (Kd.R_grown (flat26 (ok' := fun k => v.ownBlock = some k) h.r (fun k hk _ => hk)) hg (fun k hk e => h.ne k e.symm hk)) (fun _ _ => trivial), fun k hk hv => by
    rcases hat with e | ⟨b, e, hlt⟩
    · rw [e] at hk; exact h.ne k hk hv
    · rw [e] at hk
      injection hk with hk
      obtain ⟨inner, ho⟩ := Kd.R_own h.r; have := own_lt ho k hv
      omega⟩
theorem Two.swap (h : Two w base u v xs ys) : Two w base v u ys xs := ⟨h.r, h.l, fun k hv hu => h.ne k hu hv⟩
theorem Two.right {v1 : Value} {ys1 : List S26} (h : Two w base u v xs ys) (hg : w.grownBy w1 v.ownBlock) (hat : v1.ownBlock = v.ownBlock ∨ ∃ b, v1.ownBlock = some b ∧ w.heap.size ≤ b) (hR : Kd.R k26 26 w1 base (fun _ => True) v1 ys1) : Two w1 base u v1 xs ys1 := (h.swap.left hg hat hR).swap
end
theorem closq0 (b : Nat) (w : World) : Calls Try.prog 50 #[.pointer (some ⟨b, 0, none⟩)] w fun e w' => e = .returned (.pointer (some ⟨b, 1, none⟩)) ∧ ∃ n, w' = w.drewN n := by
  have hu37 := Try.underlying37; have hu63 := Try.underlying63
  go_enter Try.func50, Try.ntmps50
  go_wp2
  go_ret
  exact ⟨rfl, 0, rfl⟩
theorem closq1 (b : Nat) (w : World) : Calls Try.prog 51 #[.pointer (some ⟨b, 0, none⟩)] w fun e w' => e = .returned (.pointer (some ⟨b, 2, none⟩)) ∧ ∃ n, w' = w.drewN n := by
  have hu37 := Try.underlying37; have hu63 := Try.underlying63
  go_enter Try.func51, Try.ntmps51
  go_wp2
  go_ret
  exact ⟨rfl, 0, rfl⟩
theorem closq2 (b : Nat) (w : World) : Calls Try.prog 52 #[.pointer (some ⟨b, 0, none⟩)] w fun e w' => e = .returned (.pointer (some ⟨b, 3, none⟩)) ∧ ∃ n, w' = w.drewN n := by
  have hu37 := Try.underlying37; have hu63 := Try.underlying63
  go_enter Try.func52, Try.ntmps52
  go_wp2
  go_ret
  exact ⟨rfl, 0, rfl⟩
theorem closq3 (b : Nat) (w : World) : Calls Try.prog 53 #[.pointer (some ⟨b, 0, none⟩)] w fun e w' => e = .returned (.pointer (some ⟨b, 4, none⟩)) ∧ ∃ n, w' = w.drewN n := by
  have hu37 := Try.underlying37; have hu63 := Try.underlying63
  go_enter Try.func53, Try.ntmps53
  go_wp2
  go_ret
  exact ⟨rfl, 0, rfl⟩
section
variable {w w1 : World} {base j : Nat} {u v u1 : Value} {x : Int} {a b : Bal}
theorem two_none (h1 : ¬ dif a b j < 0) (h2 : ¬ 0 < dif a b j) (h : Two w base u v (fallsTo x a b j) (risesTo x a b j)) : Two w base u v (fallsTo x a b (j + 1)) (risesTo x a b (j + 1)) := by
  rw [fallsTo, if_neg h1, risesTo, if_neg h2]; exact h
theorem two_fall (h1 : dif a b j < 0) (h : Two w base u v (fallsTo x a b j) (risesTo x a b j)) (hg : w.grownBy w1 u.ownBlock) (hat : u1.ownBlock = u.ownBlock ∨ ∃ b, u1.ownBlock = some b ∧ w.heap.size ≤ b) (hR : Kd.R k26 26 w1 base (fun _ => True) u1 (fallsTo x a b j ++ [⟨0, 0, 2 * (j : Int) + 2, x, wrap64 (-dif a b j), 0⟩])) :
    Two w1 base u1 v (fallsTo x a b (j + 1)) (risesTo x a b (j + 1)) := by
  rw [fallsTo, if_pos h1, risesTo, if_neg (by omega)]; exact h.left hg hat hR
theorem two_rise (h1 : ¬ dif a b j < 0) (h2 : 0 < dif a b j) (h : Two w base u v (fallsTo x a b j) (risesTo x a b j)) (hg : w.grownBy w1 v.ownBlock) (hat : u1.ownBlock = v.ownBlock ∨ ∃ b, u1.ownBlock = some b ∧ w.heap.size ≤ b) (hR : Kd.R k26 26 w1 base (fun _ => True) u1 (risesTo x a b j ++ [⟨0, 0, 2 * (j : Int) + 1, x, dif a b j, 0⟩])) :
    Two w1 base u u1 (fallsTo x a b (j + 1)) (risesTo x a b (j + 1)) := by
  rw [fallsTo, if_neg h1, risesTo, if_pos h2]; exact h.right hg hat hR
end
set_option maxHeartbeats 4000000 in
set_option maxRecDepth 100000 in
theorem steps_calls (x0 x : Int) (a b : Bal) (W : World) :
    Calls Try.prog 35 #[.agg #[.int .i64 x0, .int .i64 a.o, .int .i64 a.s, .int .i64 a.p, .int .i64 a.r], .agg #[.int .i64 x, .int .i64 b.o, .int .i64 b.s, .int .i64 b.p, .int .i64 b.r]] W fun e w' => ∃ v, e = .returned v ∧ Kd.R k26 26 w' W.heap.size (fun _ => True) v (stepsB x a b) ∧ Below W.heap.size W w' := by
  have hu26 := Try.underlying26; have hu37 := Try.underlying37; have hu79 := Try.underlying79; have hu80 := Try.underlying80
  have mixed : Try.prog.follows Departure.mixedOrders = true := by kernel_rfl
  go_enter Try.func35, Try.ntmps35
  go_wp2_with (first
    | ((with_reducible refine gate_callee (f := 44) rfl ?_); refine goesL_ (some 10) rfl rfl Try.func44 (by kernel_rfl) rfl #[] rfl (by (try simp only [List.map_toArray, List.map_cons, List.map_nil]); first | done | rfl) ?_; refine (fields_calls _).mono ?_; rintro _ w3 ⟨rfl, hb⟩; refine ⟨_, rfl, ?_⟩; have HB3 := Aside0.mk hb; clear hb))
  have hi0 := idx0; have hi1 := idx1; have hi2 := idx2; have hi3 := idx3; have hsf := @run_store_func Try.prog; have s1 : (W.alloc (.cells #[.int .i64 x0, .int .i64 a.o, .int .i64 a.s, .int .i64 a.p, .int .i64 a.r] 37)).heap.size = W.heap.size + 1 := Array.size_push _; have FA : w3.heap[W.heap.size]? = some (.cells #[.int .i64 x0, .int .i64 a.o, .int .i64 a.s, .int .i64 a.p, .int .i64 a.r] 37 (0, 0)) := blk_below (blk_below (blk_new W (.cells #[.int .i64 x0, .int .i64 a.o, .int .i64 a.s, .int .i64 a.p, .int .i64 a.r] 37)) (below_alloc (Below.refl _ _) (.cells #[.int .i64 x, .int .i64 b.o, .int .i64 b.s, .int .i64 b.p, .int .i64 b.r] 37))) HB3.out
  have FB : w3.heap[W.heap.size + 1]? = some (.cells #[.int .i64 x, .int .i64 b.o, .int .i64 b.s, .int .i64 b.p, .int .i64 b.r] 37 (0, 0)) := by
    have h := blk_below (blk_new (W.alloc (.cells #[.int .i64 x0, .int .i64 a.o, .int .i64 a.s, .int .i64 a.p, .int .i64 a.r] 37)) (.cells #[.int .i64 x, .int .i64 b.o, .int .i64 b.s, .int .i64 b.p, .int .i64 b.r] 37)) HB3.out
    rwa [s1] at h
  have hb2 := (below_alloc (below_alloc (Below.refl W.heap.size W) (.cells #[.int .i64 x0, .int .i64 a.o, .int .i64 a.s, .int .i64 a.p, .int .i64 a.r] 37)) (.cells #[.int .i64 x, .int .i64 b.o, .int .i64 b.s, .int .i64 b.p, .int .i64 b.r] 37)); have HBW : Below W.heap.size W w3 := hb2.trans (HB3.out.mono hb2.size); clear hb2; have HFA := Aside0.mk FA; have HFB := Aside0.mk FB; have HW3 := Aside0.mk HBW; clear FA FB HBW s1
  go_loopg [5, 6, 11] 4 (fun kx v5 v6 v11 wr => ∃ j : Nat, v11 = .int .i64 j ∧ j + kx = 4 ∧ Aside0 (Two wr W.heap.size v5 v6 (fallsTo x a b j) (risesTo x a b j)) ∧ Aside0 (wr.heap[W.heap.size]? = some (.cells #[.int .i64 x0, .int .i64 a.o, .int .i64 a.s, .int .i64 a.p, .int .i64 a.r] 37 (0, 0))) ∧ Aside0 (wr.heap[W.heap.size + 1]? = some (.cells #[.int .i64 x, .int .i64 b.o, .int .i64 b.s, .int .i64 b.p, .int .i64 b.r] 37 (0, 0))) ∧ Aside0 (Below W.heap.size W wr))
  case atStart => exact ⟨0, rfl, rfl, ⟨⟨Kd.R_nil _ _ _ _ _, Kd.R_nil _ _ _ _ _, fun k hk => by simp [Value.ownBlock] at hk⟩⟩, HFA, HFB, HW3⟩
  case round =>
    clear HFA HFB HW3 HB3; obtain ⟨j, rfl, hjk, HT, HA, HB, HW⟩ := hrel
    by_cases hj : j < 4
    · obtain ⟨k1, rfl⟩ : ∃ k1, gk = k1 + 1 := ⟨gk - 1, by omega⟩
      have hj4 : j = 0 ∨ j = 1 ∨ j = 2 ∨ j = 3 := by omega
      rcases hj4 with rfl | rfl | rfl | rfl
      · by_cases hs : wrap64 (b.o - a.o) < 0
        · have b1 : decide (wrap64 (b.o - a.o) < 0) = true := decide_eq_true hs
          have b2 : decide (0 < wrap64 (b.o - a.o)) = false := decide_eq_false (by omega); have NS := Aside0.mk hs; clear hs; have HO : Below wr.heap.size wr (wr.alloc (Obj.cells #[.int .i64 1, .int .i64 2, .func (.func 50) #[] #[]] 79)) := below_alloc (Below.refl wr.heap.size wr) _; have HT5 := Aside0.mk (HT.out.below HO); have HA5 := Aside0.mk (blk_below HA.out HO); have HB5 := Aside0.mk (blk_below HB.out HO); have HW5 := Aside0.mk (HW.out.trans (HO.mono HW.out.size)); have y1 : (wr.alloc (Obj.cells #[.int .i64 1, .int .i64 2, .func (.func 50) #[] #[]] 79)).cell? ⟨W.heap.size, 1, none⟩ = some (.int .i64 a.o) := (blk_cell HA5.out 1).trans rfl; have y2 : (wr.alloc (Obj.cells #[.int .i64 1, .int .i64 2, .func (.func 50) #[] #[]] 79)).cell? ⟨W.heap.size + 1, 1, none⟩ = some (.int .i64 b.o) := (blk_cell HB5.out 1).trans rfl; have y3 : (wr.alloc (Obj.cells #[.int .i64 1, .int .i64 2, .func (.func 50) #[] #[]] 79)).cell? ⟨W.heap.size + 1, 0, none⟩ = some (.int .i64 x) := (blk_cell HB5.out 0).trans rfl; clear HO
          go_wp2
          go_quiet (first | (go_at_call 50; exact Calls.quiet_of (closq0 _ _)))
          have hq : Below (wr.alloc (Obj.cells #[.int .i64 1, .int .i64 2, .func (.func 50) #[] #[]] 79)).heap.size (wr.alloc (Obj.cells #[.int .i64 1, .int .i64 2, .func (.func 50) #[] #[]] 79)) ((wr.alloc (Obj.cells #[.int .i64 1, .int .i64 2, .func (.func 50) #[] #[]] 79)).drewN nq) := pw_below_drewN (Below.refl _ _) nq; have HTq := Aside0.mk (HT5.out.below hq); have HAq := Aside0.mk (blk_below HA5.out hq); have HBq := Aside0.mk (blk_below HB5.out hq); have HWq := Aside0.mk (HW5.out.trans (hq.mono HW5.out.size)); have z1 : ((wr.alloc (Obj.cells #[.int .i64 1, .int .i64 2, .func (.func 50) #[] #[]] 79)).drewN nq).cell? ⟨wr.heap.size, 1, none⟩ = some (.int .i64 2) := (blk_cell (blk_below (blk_new wr (Obj.cells #[.int .i64 1, .int .i64 2, .func (.func 50) #[] #[]] 79)) hq) 1).trans rfl; have z3 : ((wr.alloc (Obj.cells #[.int .i64 1, .int .i64 2, .func (.func 50) #[] #[]] 79)).drewN nq).cell? ⟨W.heap.size + 1, 0, none⟩ = some (.int .i64 x) := (blk_cell HBq.out 0).trans rfl; clear hq y1 y2 y3 HT5 HA5 HB5 HW5
          generalize ((wr.alloc (Obj.cells #[.int .i64 1, .int .i64 2, .func (.func 50) #[] #[]] 79)).drewN nq) = wq at HTq HAq HBq HWq z1 z3 ⊢
          go_wp2_with (first
            | (at_builtin; refine Kd.R_append k26 (w0 := W) W.heap.size rfl (.tmp 27) (.tmp 35) 23 26 (.agg #[.int .i64 0, .int .i64 0, .int .i64 0, .int .i64 0, .int .i64 0, .int .i64 0]) 48 rfl Try.underlying23 info26 rfl (by decide) (by omega) u5 (fallsTo x a b 0) (⟨0, 0, 2, x, wrap64 (-wrap64 (b.o - a.o)), 0⟩ : S26) [.int .i64 0, .int .i64 0, .int .i64 2, .int .i64 x, .int .i64 (wrap64 (-wrap64 (b.o - a.o))), .int .i64 0] (fun _ => True) (fun _ => False) rfl rfl ?aP (fun _ hk => hk.elim) (fun _ _ => trivial) ?aO ?aB ?aS ?aL ?_; (case aP => exact k26_mkM _ _ _ (⟨0, 0, 2, x, wrap64 (-wrap64 (b.o - a.o)), 0⟩ : S26)); (case aO => exact HTq.out.l); (case aB => exact HWq.out); (case aS => exact HWq.out.size); (case aL => have := fallsTo_len x a b 0; omega); intro v1 w6 hR hB hg hat; have HR6 := Aside0.mk hR; have HB6 := Aside0.mk hB; have HG6 := Aside0.mk hg; have HAT6 := Aside0.mk hat; clear hR hB hg hat)
            | go_in)
          go_roundg k1
          case measure => omega
          case rel =>
            have ne1 := Kd.R_ne HTq.out.l HAq.out (by decide); have ne2 := Kd.R_ne HTq.out.l HBq.out (by decide)
            exact ⟨1, rfl, by omega, ⟨two_fall (show wrap64 (b.o - a.o) < 0 by have := NS.out; omega) HTq.out HG6.out HAT6.out HR6.out⟩, ⟨(HG6.out.block _ (blk_lt HAq.out) ne1).trans HAq.out⟩, ⟨(HG6.out.block _ (blk_lt HBq.out) ne2).trans HBq.out⟩, HB6⟩
        · by_cases ht : 0 < wrap64 (b.o - a.o)
          · have b1 : decide (wrap64 (b.o - a.o) < 0) = false := decide_eq_false hs
            have b2 : decide (0 < wrap64 (b.o - a.o)) = true := decide_eq_true ht; have NS := Aside0.mk hs; have NT := Aside0.mk ht; clear hs ht; have HO : Below wr.heap.size wr (wr.alloc (Obj.cells #[.int .i64 1, .int .i64 2, .func (.func 50) #[] #[]] 79)) := below_alloc (Below.refl wr.heap.size wr) _; have HT5 := Aside0.mk (HT.out.below HO); have HA5 := Aside0.mk (blk_below HA.out HO); have HB5 := Aside0.mk (blk_below HB.out HO); have HW5 := Aside0.mk (HW.out.trans (HO.mono HW.out.size)); have y1 : (wr.alloc (Obj.cells #[.int .i64 1, .int .i64 2, .func (.func 50) #[] #[]] 79)).cell? ⟨W.heap.size, 1, none⟩ = some (.int .i64 a.o) := (blk_cell HA5.out 1).trans rfl; have y2 : (wr.alloc (Obj.cells #[.int .i64 1, .int .i64 2, .func (.func 50) #[] #[]] 79)).cell? ⟨W.heap.size + 1, 1, none⟩ = some (.int .i64 b.o) := (blk_cell HB5.out 1).trans rfl; have y3 : (wr.alloc (Obj.cells #[.int .i64 1, .int .i64 2, .func (.func 50) #[] #[]] 79)).cell? ⟨W.heap.size + 1, 0, none⟩ = some (.int .i64 x) := (blk_cell HB5.out 0).trans rfl; clear HO
            go_wp2
            go_quiet (first | (go_at_call 50; exact Calls.quiet_of (closq0 _ _)))
            have hq : Below (wr.alloc (Obj.cells #[.int .i64 1, .int .i64 2, .func (.func 50) #[] #[]] 79)).heap.size (wr.alloc (Obj.cells #[.int .i64 1, .int .i64 2, .func (.func 50) #[] #[]] 79)) ((wr.alloc (Obj.cells #[.int .i64 1, .int .i64 2, .func (.func 50) #[] #[]] 79)).drewN nq) := pw_below_drewN (Below.refl _ _) nq; have HTq := Aside0.mk (HT5.out.below hq); have HAq := Aside0.mk (blk_below HA5.out hq); have HBq := Aside0.mk (blk_below HB5.out hq); have HWq := Aside0.mk (HW5.out.trans (hq.mono HW5.out.size)); have z1 : ((wr.alloc (Obj.cells #[.int .i64 1, .int .i64 2, .func (.func 50) #[] #[]] 79)).drewN nq).cell? ⟨wr.heap.size, 0, none⟩ = some (.int .i64 1) := (blk_cell (blk_below (blk_new wr (Obj.cells #[.int .i64 1, .int .i64 2, .func (.func 50) #[] #[]] 79)) hq) 0).trans rfl; have z3 : ((wr.alloc (Obj.cells #[.int .i64 1, .int .i64 2, .func (.func 50) #[] #[]] 79)).drewN nq).cell? ⟨W.heap.size + 1, 0, none⟩ = some (.int .i64 x) := (blk_cell HBq.out 0).trans rfl; clear hq y1 y2 y3 HT5 HA5 HB5 HW5
            generalize ((wr.alloc (Obj.cells #[.int .i64 1, .int .i64 2, .func (.func 50) #[] #[]] 79)).drewN nq) = wq at HTq HAq HBq HWq z1 z3 ⊢
            go_wp2_with (first
              | (at_builtin; refine Kd.R_append k26 (w0 := W) W.heap.size rfl (.tmp 39) (.tmp 46) 23 26 (.agg #[.int .i64 0, .int .i64 0, .int .i64 0, .int .i64 0, .int .i64 0, .int .i64 0]) 48 rfl Try.underlying23 info26 rfl (by decide) (by omega) u6 (risesTo x a b 0) (⟨0, 0, 1, x, wrap64 (b.o - a.o), 0⟩ : S26) [.int .i64 0, .int .i64 0, .int .i64 1, .int .i64 x, .int .i64 (wrap64 (b.o - a.o)), .int .i64 0] (fun _ => True) (fun _ => False) rfl rfl ?aP (fun _ hk => hk.elim) (fun _ _ => trivial) ?aO ?aB ?aS ?aL ?_; (case aP => exact k26_mkM _ _ _ (⟨0, 0, 1, x, wrap64 (b.o - a.o), 0⟩ : S26)); (case aO => exact HTq.out.r); (case aB => exact HWq.out); (case aS => exact HWq.out.size); (case aL => have := risesTo_len x a b 0; omega); intro v1 w6 hR hB hg hat; have HR6 := Aside0.mk hR; have HB6 := Aside0.mk hB; have HG6 := Aside0.mk hg; have HAT6 := Aside0.mk hat; clear hR hB hg hat)
              | go_in)
            go_roundg k1
            case measure => omega
            case rel =>
              have ne1 := Kd.R_ne HTq.out.r HAq.out (by decide); have ne2 := Kd.R_ne HTq.out.r HBq.out (by decide)
              exact ⟨1, rfl, by omega, ⟨two_rise (show ¬ wrap64 (b.o - a.o) < 0 by have := NS.out; omega) (show 0 < wrap64 (b.o - a.o) by have := NT.out; omega) HTq.out HG6.out HAT6.out HR6.out⟩, ⟨(HG6.out.block _ (blk_lt HAq.out) ne1).trans HAq.out⟩, ⟨(HG6.out.block _ (blk_lt HBq.out) ne2).trans HBq.out⟩, HB6⟩
          · have b1 : decide (wrap64 (b.o - a.o) < 0) = false := decide_eq_false hs
            have b2 : decide (0 < wrap64 (b.o - a.o)) = false := decide_eq_false ht; have NS := Aside0.mk hs; have NT := Aside0.mk ht; clear hs ht; have HO : Below wr.heap.size wr (wr.alloc (Obj.cells #[.int .i64 1, .int .i64 2, .func (.func 50) #[] #[]] 79)) := below_alloc (Below.refl wr.heap.size wr) _; have HT5 := Aside0.mk (HT.out.below HO); have HA5 := Aside0.mk (blk_below HA.out HO); have HB5 := Aside0.mk (blk_below HB.out HO); have HW5 := Aside0.mk (HW.out.trans (HO.mono HW.out.size)); have y1 : (wr.alloc (Obj.cells #[.int .i64 1, .int .i64 2, .func (.func 50) #[] #[]] 79)).cell? ⟨W.heap.size, 1, none⟩ = some (.int .i64 a.o) := (blk_cell HA5.out 1).trans rfl; have y2 : (wr.alloc (Obj.cells #[.int .i64 1, .int .i64 2, .func (.func 50) #[] #[]] 79)).cell? ⟨W.heap.size + 1, 1, none⟩ = some (.int .i64 b.o) := (blk_cell HB5.out 1).trans rfl; have y3 : (wr.alloc (Obj.cells #[.int .i64 1, .int .i64 2, .func (.func 50) #[] #[]] 79)).cell? ⟨W.heap.size + 1, 0, none⟩ = some (.int .i64 x) := (blk_cell HB5.out 0).trans rfl; clear HO
            go_wp2
            go_quiet (first | (go_at_call 50; exact Calls.quiet_of (closq0 _ _)))
            go_wp2
            go_roundg k1
            case measure => omega
            case rel =>
              have hq : Below (wr.alloc (Obj.cells #[.int .i64 1, .int .i64 2, .func (.func 50) #[] #[]] 79)).heap.size (wr.alloc (Obj.cells #[.int .i64 1, .int .i64 2, .func (.func 50) #[] #[]] 79)) ((wr.alloc (Obj.cells #[.int .i64 1, .int .i64 2, .func (.func 50) #[] #[]] 79)).drewN nq) := pw_below_drewN (Below.refl _ _) nq
              exact ⟨1, rfl, by omega, ⟨two_none (show ¬ wrap64 (b.o - a.o) < 0 by have := NS.out; omega) (show ¬ 0 < wrap64 (b.o - a.o) by have := NT.out; omega) (HT5.out.below hq)⟩, ⟨blk_below HA5.out hq⟩, ⟨blk_below HB5.out hq⟩, ⟨HW5.out.trans (hq.mono HW5.out.size)⟩⟩
      · by_cases hs : wrap64 (b.s - a.s) < 0
        · have b1 : decide (wrap64 (b.s - a.s) < 0) = true := decide_eq_true hs
          have b2 : decide (0 < wrap64 (b.s - a.s)) = false := decide_eq_false (by omega); have NS := Aside0.mk hs; clear hs; have HO : Below wr.heap.size wr (wr.alloc (Obj.cells #[.int .i64 3, .int .i64 4, .func (.func 51) #[] #[]] 79)) := below_alloc (Below.refl wr.heap.size wr) _; have HT5 := Aside0.mk (HT.out.below HO); have HA5 := Aside0.mk (blk_below HA.out HO); have HB5 := Aside0.mk (blk_below HB.out HO); have HW5 := Aside0.mk (HW.out.trans (HO.mono HW.out.size)); have y1 : (wr.alloc (Obj.cells #[.int .i64 3, .int .i64 4, .func (.func 51) #[] #[]] 79)).cell? ⟨W.heap.size, 2, none⟩ = some (.int .i64 a.s) := (blk_cell HA5.out 2).trans rfl; have y2 : (wr.alloc (Obj.cells #[.int .i64 3, .int .i64 4, .func (.func 51) #[] #[]] 79)).cell? ⟨W.heap.size + 1, 2, none⟩ = some (.int .i64 b.s) := (blk_cell HB5.out 2).trans rfl; have y3 : (wr.alloc (Obj.cells #[.int .i64 3, .int .i64 4, .func (.func 51) #[] #[]] 79)).cell? ⟨W.heap.size + 1, 0, none⟩ = some (.int .i64 x) := (blk_cell HB5.out 0).trans rfl; clear HO
          go_wp2
          go_quiet (first | (go_at_call 51; exact Calls.quiet_of (closq1 _ _)))
          have hq : Below (wr.alloc (Obj.cells #[.int .i64 3, .int .i64 4, .func (.func 51) #[] #[]] 79)).heap.size (wr.alloc (Obj.cells #[.int .i64 3, .int .i64 4, .func (.func 51) #[] #[]] 79)) ((wr.alloc (Obj.cells #[.int .i64 3, .int .i64 4, .func (.func 51) #[] #[]] 79)).drewN nq) := pw_below_drewN (Below.refl _ _) nq; have HTq := Aside0.mk (HT5.out.below hq); have HAq := Aside0.mk (blk_below HA5.out hq); have HBq := Aside0.mk (blk_below HB5.out hq); have HWq := Aside0.mk (HW5.out.trans (hq.mono HW5.out.size)); have z1 : ((wr.alloc (Obj.cells #[.int .i64 3, .int .i64 4, .func (.func 51) #[] #[]] 79)).drewN nq).cell? ⟨wr.heap.size, 1, none⟩ = some (.int .i64 4) := (blk_cell (blk_below (blk_new wr (Obj.cells #[.int .i64 3, .int .i64 4, .func (.func 51) #[] #[]] 79)) hq) 1).trans rfl; have z3 : ((wr.alloc (Obj.cells #[.int .i64 3, .int .i64 4, .func (.func 51) #[] #[]] 79)).drewN nq).cell? ⟨W.heap.size + 1, 0, none⟩ = some (.int .i64 x) := (blk_cell HBq.out 0).trans rfl; clear hq y1 y2 y3 HT5 HA5 HB5 HW5
          generalize ((wr.alloc (Obj.cells #[.int .i64 3, .int .i64 4, .func (.func 51) #[] #[]] 79)).drewN nq) = wq at HTq HAq HBq HWq z1 z3 ⊢
          go_wp2_with (first
            | (at_builtin; refine Kd.R_append k26 (w0 := W) W.heap.size rfl (.tmp 27) (.tmp 35) 23 26 (.agg #[.int .i64 0, .int .i64 0, .int .i64 0, .int .i64 0, .int .i64 0, .int .i64 0]) 48 rfl Try.underlying23 info26 rfl (by decide) (by omega) u5 (fallsTo x a b 1) (⟨0, 0, 4, x, wrap64 (-wrap64 (b.s - a.s)), 0⟩ : S26) [.int .i64 0, .int .i64 0, .int .i64 4, .int .i64 x, .int .i64 (wrap64 (-wrap64 (b.s - a.s))), .int .i64 0] (fun _ => True) (fun _ => False) rfl rfl ?aP (fun _ hk => hk.elim) (fun _ _ => trivial) ?aO ?aB ?aS ?aL ?_; (case aP => exact k26_mkM _ _ _ (⟨0, 0, 4, x, wrap64 (-wrap64 (b.s - a.s)), 0⟩ : S26)); (case aO => exact HTq.out.l); (case aB => exact HWq.out); (case aS => exact HWq.out.size); (case aL => have := fallsTo_len x a b 1; omega); intro v1 w6 hR hB hg hat; have HR6 := Aside0.mk hR; have HB6 := Aside0.mk hB; have HG6 := Aside0.mk hg; have HAT6 := Aside0.mk hat; clear hR hB hg hat)
            | go_in)
          go_roundg k1
          case measure => omega
          case rel =>
            have ne1 := Kd.R_ne HTq.out.l HAq.out (by decide); have ne2 := Kd.R_ne HTq.out.l HBq.out (by decide)
            exact ⟨2, rfl, by omega, ⟨two_fall (show wrap64 (b.s - a.s) < 0 by have := NS.out; omega) HTq.out HG6.out HAT6.out HR6.out⟩, ⟨(HG6.out.block _ (blk_lt HAq.out) ne1).trans HAq.out⟩, ⟨(HG6.out.block _ (blk_lt HBq.out) ne2).trans HBq.out⟩, HB6⟩
        · by_cases ht : 0 < wrap64 (b.s - a.s)
          · have b1 : decide (wrap64 (b.s - a.s) < 0) = false := decide_eq_false hs
            have b2 : decide (0 < wrap64 (b.s - a.s)) = true := decide_eq_true ht; have NS := Aside0.mk hs; have NT := Aside0.mk ht; clear hs ht; have HO : Below wr.heap.size wr (wr.alloc (Obj.cells #[.int .i64 3, .int .i64 4, .func (.func 51) #[] #[]] 79)) := below_alloc (Below.refl wr.heap.size wr) _; have HT5 := Aside0.mk (HT.out.below HO); have HA5 := Aside0.mk (blk_below HA.out HO); have HB5 := Aside0.mk (blk_below HB.out HO); have HW5 := Aside0.mk (HW.out.trans (HO.mono HW.out.size)); have y1 : (wr.alloc (Obj.cells #[.int .i64 3, .int .i64 4, .func (.func 51) #[] #[]] 79)).cell? ⟨W.heap.size, 2, none⟩ = some (.int .i64 a.s) := (blk_cell HA5.out 2).trans rfl; have y2 : (wr.alloc (Obj.cells #[.int .i64 3, .int .i64 4, .func (.func 51) #[] #[]] 79)).cell? ⟨W.heap.size + 1, 2, none⟩ = some (.int .i64 b.s) := (blk_cell HB5.out 2).trans rfl; have y3 : (wr.alloc (Obj.cells #[.int .i64 3, .int .i64 4, .func (.func 51) #[] #[]] 79)).cell? ⟨W.heap.size + 1, 0, none⟩ = some (.int .i64 x) := (blk_cell HB5.out 0).trans rfl; clear HO
            go_wp2
            go_quiet (first | (go_at_call 51; exact Calls.quiet_of (closq1 _ _)))
            have hq : Below (wr.alloc (Obj.cells #[.int .i64 3, .int .i64 4, .func (.func 51) #[] #[]] 79)).heap.size (wr.alloc (Obj.cells #[.int .i64 3, .int .i64 4, .func (.func 51) #[] #[]] 79)) ((wr.alloc (Obj.cells #[.int .i64 3, .int .i64 4, .func (.func 51) #[] #[]] 79)).drewN nq) := pw_below_drewN (Below.refl _ _) nq; have HTq := Aside0.mk (HT5.out.below hq); have HAq := Aside0.mk (blk_below HA5.out hq); have HBq := Aside0.mk (blk_below HB5.out hq); have HWq := Aside0.mk (HW5.out.trans (hq.mono HW5.out.size)); have z1 : ((wr.alloc (Obj.cells #[.int .i64 3, .int .i64 4, .func (.func 51) #[] #[]] 79)).drewN nq).cell? ⟨wr.heap.size, 0, none⟩ = some (.int .i64 3) := (blk_cell (blk_below (blk_new wr (Obj.cells #[.int .i64 3, .int .i64 4, .func (.func 51) #[] #[]] 79)) hq) 0).trans rfl; have z3 : ((wr.alloc (Obj.cells #[.int .i64 3, .int .i64 4, .func (.func 51) #[] #[]] 79)).drewN nq).cell? ⟨W.heap.size + 1, 0, none⟩ = some (.int .i64 x) := (blk_cell HBq.out 0).trans rfl; clear hq y1 y2 y3 HT5 HA5 HB5 HW5
            generalize ((wr.alloc (Obj.cells #[.int .i64 3, .int .i64 4, .func (.func 51) #[] #[]] 79)).drewN nq) = wq at HTq HAq HBq HWq z1 z3 ⊢
            go_wp2_with (first
              | (at_builtin; refine Kd.R_append k26 (w0 := W) W.heap.size rfl (.tmp 39) (.tmp 46) 23 26 (.agg #[.int .i64 0, .int .i64 0, .int .i64 0, .int .i64 0, .int .i64 0, .int .i64 0]) 48 rfl Try.underlying23 info26 rfl (by decide) (by omega) u6 (risesTo x a b 1) (⟨0, 0, 3, x, wrap64 (b.s - a.s), 0⟩ : S26) [.int .i64 0, .int .i64 0, .int .i64 3, .int .i64 x, .int .i64 (wrap64 (b.s - a.s)), .int .i64 0] (fun _ => True) (fun _ => False) rfl rfl ?aP (fun _ hk => hk.elim) (fun _ _ => trivial) ?aO ?aB ?aS ?aL ?_; (case aP => exact k26_mkM _ _ _ (⟨0, 0, 3, x, wrap64 (b.s - a.s), 0⟩ : S26)); (case aO => exact HTq.out.r); (case aB => exact HWq.out); (case aS => exact HWq.out.size); (case aL => have := risesTo_len x a b 1; omega); intro v1 w6 hR hB hg hat; have HR6 := Aside0.mk hR; have HB6 := Aside0.mk hB; have HG6 := Aside0.mk hg; have HAT6 := Aside0.mk hat; clear hR hB hg hat)
              | go_in)
            go_roundg k1
            case measure => omega
            case rel =>
              have ne1 := Kd.R_ne HTq.out.r HAq.out (by decide); have ne2 := Kd.R_ne HTq.out.r HBq.out (by decide)
              exact ⟨2, rfl, by omega, ⟨two_rise (show ¬ wrap64 (b.s - a.s) < 0 by have := NS.out; omega) (show 0 < wrap64 (b.s - a.s) by have := NT.out; omega) HTq.out HG6.out HAT6.out HR6.out⟩, ⟨(HG6.out.block _ (blk_lt HAq.out) ne1).trans HAq.out⟩, ⟨(HG6.out.block _ (blk_lt HBq.out) ne2).trans HBq.out⟩, HB6⟩
          · have b1 : decide (wrap64 (b.s - a.s) < 0) = false := decide_eq_false hs
            have b2 : decide (0 < wrap64 (b.s - a.s)) = false := decide_eq_false ht; have NS := Aside0.mk hs; have NT := Aside0.mk ht; clear hs ht; have HO : Below wr.heap.size wr (wr.alloc (Obj.cells #[.int .i64 3, .int .i64 4, .func (.func 51) #[] #[]] 79)) := below_alloc (Below.refl wr.heap.size wr) _; have HT5 := Aside0.mk (HT.out.below HO); have HA5 := Aside0.mk (blk_below HA.out HO); have HB5 := Aside0.mk (blk_below HB.out HO); have HW5 := Aside0.mk (HW.out.trans (HO.mono HW.out.size)); have y1 : (wr.alloc (Obj.cells #[.int .i64 3, .int .i64 4, .func (.func 51) #[] #[]] 79)).cell? ⟨W.heap.size, 2, none⟩ = some (.int .i64 a.s) := (blk_cell HA5.out 2).trans rfl; have y2 : (wr.alloc (Obj.cells #[.int .i64 3, .int .i64 4, .func (.func 51) #[] #[]] 79)).cell? ⟨W.heap.size + 1, 2, none⟩ = some (.int .i64 b.s) := (blk_cell HB5.out 2).trans rfl; have y3 : (wr.alloc (Obj.cells #[.int .i64 3, .int .i64 4, .func (.func 51) #[] #[]] 79)).cell? ⟨W.heap.size + 1, 0, none⟩ = some (.int .i64 x) := (blk_cell HB5.out 0).trans rfl; clear HO
            go_wp2
            go_quiet (first | (go_at_call 51; exact Calls.quiet_of (closq1 _ _)))
            go_wp2
            go_roundg k1
            case measure => omega
            case rel =>
              have hq : Below (wr.alloc (Obj.cells #[.int .i64 3, .int .i64 4, .func (.func 51) #[] #[]] 79)).heap.size (wr.alloc (Obj.cells #[.int .i64 3, .int .i64 4, .func (.func 51) #[] #[]] 79)) ((wr.alloc (Obj.cells #[.int .i64 3, .int .i64 4, .func (.func 51) #[] #[]] 79)).drewN nq) := pw_below_drewN (Below.refl _ _) nq
              exact ⟨2, rfl, by omega, ⟨two_none (show ¬ wrap64 (b.s - a.s) < 0 by have := NS.out; omega) (show ¬ 0 < wrap64 (b.s - a.s) by have := NT.out; omega) (HT5.out.below hq)⟩, ⟨blk_below HA5.out hq⟩, ⟨blk_below HB5.out hq⟩, ⟨HW5.out.trans (hq.mono HW5.out.size)⟩⟩
      · by_cases hs : wrap64 (b.p - a.p) < 0
        · have b1 : decide (wrap64 (b.p - a.p) < 0) = true := decide_eq_true hs
          have b2 : decide (0 < wrap64 (b.p - a.p)) = false := decide_eq_false (by omega); have NS := Aside0.mk hs; clear hs; have HO : Below wr.heap.size wr (wr.alloc (Obj.cells #[.int .i64 5, .int .i64 6, .func (.func 52) #[] #[]] 79)) := below_alloc (Below.refl wr.heap.size wr) _; have HT5 := Aside0.mk (HT.out.below HO); have HA5 := Aside0.mk (blk_below HA.out HO); have HB5 := Aside0.mk (blk_below HB.out HO); have HW5 := Aside0.mk (HW.out.trans (HO.mono HW.out.size)); have y1 : (wr.alloc (Obj.cells #[.int .i64 5, .int .i64 6, .func (.func 52) #[] #[]] 79)).cell? ⟨W.heap.size, 3, none⟩ = some (.int .i64 a.p) := (blk_cell HA5.out 3).trans rfl; have y2 : (wr.alloc (Obj.cells #[.int .i64 5, .int .i64 6, .func (.func 52) #[] #[]] 79)).cell? ⟨W.heap.size + 1, 3, none⟩ = some (.int .i64 b.p) := (blk_cell HB5.out 3).trans rfl; have y3 : (wr.alloc (Obj.cells #[.int .i64 5, .int .i64 6, .func (.func 52) #[] #[]] 79)).cell? ⟨W.heap.size + 1, 0, none⟩ = some (.int .i64 x) := (blk_cell HB5.out 0).trans rfl; clear HO
          go_wp2
          go_quiet (first | (go_at_call 52; exact Calls.quiet_of (closq2 _ _)))
          have hq : Below (wr.alloc (Obj.cells #[.int .i64 5, .int .i64 6, .func (.func 52) #[] #[]] 79)).heap.size (wr.alloc (Obj.cells #[.int .i64 5, .int .i64 6, .func (.func 52) #[] #[]] 79)) ((wr.alloc (Obj.cells #[.int .i64 5, .int .i64 6, .func (.func 52) #[] #[]] 79)).drewN nq) := pw_below_drewN (Below.refl _ _) nq; have HTq := Aside0.mk (HT5.out.below hq); have HAq := Aside0.mk (blk_below HA5.out hq); have HBq := Aside0.mk (blk_below HB5.out hq); have HWq := Aside0.mk (HW5.out.trans (hq.mono HW5.out.size)); have z1 : ((wr.alloc (Obj.cells #[.int .i64 5, .int .i64 6, .func (.func 52) #[] #[]] 79)).drewN nq).cell? ⟨wr.heap.size, 1, none⟩ = some (.int .i64 6) := (blk_cell (blk_below (blk_new wr (Obj.cells #[.int .i64 5, .int .i64 6, .func (.func 52) #[] #[]] 79)) hq) 1).trans rfl; have z3 : ((wr.alloc (Obj.cells #[.int .i64 5, .int .i64 6, .func (.func 52) #[] #[]] 79)).drewN nq).cell? ⟨W.heap.size + 1, 0, none⟩ = some (.int .i64 x) := (blk_cell HBq.out 0).trans rfl; clear hq y1 y2 y3 HT5 HA5 HB5 HW5
          generalize ((wr.alloc (Obj.cells #[.int .i64 5, .int .i64 6, .func (.func 52) #[] #[]] 79)).drewN nq) = wq at HTq HAq HBq HWq z1 z3 ⊢
          go_wp2_with (first
            | (at_builtin; refine Kd.R_append k26 (w0 := W) W.heap.size rfl (.tmp 27) (.tmp 35) 23 26 (.agg #[.int .i64 0, .int .i64 0, .int .i64 0, .int .i64 0, .int .i64 0, .int .i64 0]) 48 rfl Try.underlying23 info26 rfl (by decide) (by omega) u5 (fallsTo x a b 2) (⟨0, 0, 6, x, wrap64 (-wrap64 (b.p - a.p)), 0⟩ : S26) [.int .i64 0, .int .i64 0, .int .i64 6, .int .i64 x, .int .i64 (wrap64 (-wrap64 (b.p - a.p))), .int .i64 0] (fun _ => True) (fun _ => False) rfl rfl ?aP (fun _ hk => hk.elim) (fun _ _ => trivial) ?aO ?aB ?aS ?aL ?_; (case aP => exact k26_mkM _ _ _ (⟨0, 0, 6, x, wrap64 (-wrap64 (b.p - a.p)), 0⟩ : S26)); (case aO => exact HTq.out.l); (case aB => exact HWq.out); (case aS => exact HWq.out.size); (case aL => have := fallsTo_len x a b 2; omega); intro v1 w6 hR hB hg hat; have HR6 := Aside0.mk hR; have HB6 := Aside0.mk hB; have HG6 := Aside0.mk hg; have HAT6 := Aside0.mk hat; clear hR hB hg hat)
            | go_in)
          go_roundg k1
          case measure => omega
          case rel =>
            have ne1 := Kd.R_ne HTq.out.l HAq.out (by decide); have ne2 := Kd.R_ne HTq.out.l HBq.out (by decide)
            exact ⟨3, rfl, by omega, ⟨two_fall (show wrap64 (b.p - a.p) < 0 by have := NS.out; omega) HTq.out HG6.out HAT6.out HR6.out⟩, ⟨(HG6.out.block _ (blk_lt HAq.out) ne1).trans HAq.out⟩, ⟨(HG6.out.block _ (blk_lt HBq.out) ne2).trans HBq.out⟩, HB6⟩
        · by_cases ht : 0 < wrap64 (b.p - a.p)
          · have b1 : decide (wrap64 (b.p - a.p) < 0) = false := decide_eq_false hs
            have b2 : decide (0 < wrap64 (b.p - a.p)) = true := decide_eq_true ht; have NS := Aside0.mk hs; have NT := Aside0.mk ht; clear hs ht; have HO : Below wr.heap.size wr (wr.alloc (Obj.cells #[.int .i64 5, .int .i64 6, .func (.func 52) #[] #[]] 79)) := below_alloc (Below.refl wr.heap.size wr) _; have HT5 := Aside0.mk (HT.out.below HO); have HA5 := Aside0.mk (blk_below HA.out HO); have HB5 := Aside0.mk (blk_below HB.out HO); have HW5 := Aside0.mk (HW.out.trans (HO.mono HW.out.size)); have y1 : (wr.alloc (Obj.cells #[.int .i64 5, .int .i64 6, .func (.func 52) #[] #[]] 79)).cell? ⟨W.heap.size, 3, none⟩ = some (.int .i64 a.p) := (blk_cell HA5.out 3).trans rfl; have y2 : (wr.alloc (Obj.cells #[.int .i64 5, .int .i64 6, .func (.func 52) #[] #[]] 79)).cell? ⟨W.heap.size + 1, 3, none⟩ = some (.int .i64 b.p) := (blk_cell HB5.out 3).trans rfl; have y3 : (wr.alloc (Obj.cells #[.int .i64 5, .int .i64 6, .func (.func 52) #[] #[]] 79)).cell? ⟨W.heap.size + 1, 0, none⟩ = some (.int .i64 x) := (blk_cell HB5.out 0).trans rfl; clear HO
            go_wp2
            go_quiet (first | (go_at_call 52; exact Calls.quiet_of (closq2 _ _)))
            have hq : Below (wr.alloc (Obj.cells #[.int .i64 5, .int .i64 6, .func (.func 52) #[] #[]] 79)).heap.size (wr.alloc (Obj.cells #[.int .i64 5, .int .i64 6, .func (.func 52) #[] #[]] 79)) ((wr.alloc (Obj.cells #[.int .i64 5, .int .i64 6, .func (.func 52) #[] #[]] 79)).drewN nq) := pw_below_drewN (Below.refl _ _) nq; have HTq := Aside0.mk (HT5.out.below hq); have HAq := Aside0.mk (blk_below HA5.out hq); have HBq := Aside0.mk (blk_below HB5.out hq); have HWq := Aside0.mk (HW5.out.trans (hq.mono HW5.out.size)); have z1 : ((wr.alloc (Obj.cells #[.int .i64 5, .int .i64 6, .func (.func 52) #[] #[]] 79)).drewN nq).cell? ⟨wr.heap.size, 0, none⟩ = some (.int .i64 5) := (blk_cell (blk_below (blk_new wr (Obj.cells #[.int .i64 5, .int .i64 6, .func (.func 52) #[] #[]] 79)) hq) 0).trans rfl; have z3 : ((wr.alloc (Obj.cells #[.int .i64 5, .int .i64 6, .func (.func 52) #[] #[]] 79)).drewN nq).cell? ⟨W.heap.size + 1, 0, none⟩ = some (.int .i64 x) := (blk_cell HBq.out 0).trans rfl; clear hq y1 y2 y3 HT5 HA5 HB5 HW5
            generalize ((wr.alloc (Obj.cells #[.int .i64 5, .int .i64 6, .func (.func 52) #[] #[]] 79)).drewN nq) = wq at HTq HAq HBq HWq z1 z3 ⊢
            go_wp2_with (first
              | (at_builtin; refine Kd.R_append k26 (w0 := W) W.heap.size rfl (.tmp 39) (.tmp 46) 23 26 (.agg #[.int .i64 0, .int .i64 0, .int .i64 0, .int .i64 0, .int .i64 0, .int .i64 0]) 48 rfl Try.underlying23 info26 rfl (by decide) (by omega) u6 (risesTo x a b 2) (⟨0, 0, 5, x, wrap64 (b.p - a.p), 0⟩ : S26) [.int .i64 0, .int .i64 0, .int .i64 5, .int .i64 x, .int .i64 (wrap64 (b.p - a.p)), .int .i64 0] (fun _ => True) (fun _ => False) rfl rfl ?aP (fun _ hk => hk.elim) (fun _ _ => trivial) ?aO ?aB ?aS ?aL ?_; (case aP => exact k26_mkM _ _ _ (⟨0, 0, 5, x, wrap64 (b.p - a.p), 0⟩ : S26)); (case aO => exact HTq.out.r); (case aB => exact HWq.out); (case aS => exact HWq.out.size); (case aL => have := risesTo_len x a b 2; omega); intro v1 w6 hR hB hg hat; have HR6 := Aside0.mk hR; have HB6 := Aside0.mk hB; have HG6 := Aside0.mk hg; have HAT6 := Aside0.mk hat; clear hR hB hg hat)
              | go_in)
            go_roundg k1
            case measure => omega
            case rel =>
              have ne1 := Kd.R_ne HTq.out.r HAq.out (by decide); have ne2 := Kd.R_ne HTq.out.r HBq.out (by decide)
              exact ⟨3, rfl, by omega, ⟨two_rise (show ¬ wrap64 (b.p - a.p) < 0 by have := NS.out; omega) (show 0 < wrap64 (b.p - a.p) by have := NT.out; omega) HTq.out HG6.out HAT6.out HR6.out⟩, ⟨(HG6.out.block _ (blk_lt HAq.out) ne1).trans HAq.out⟩, ⟨(HG6.out.block _ (blk_lt HBq.out) ne2).trans HBq.out⟩, HB6⟩
          · have b1 : decide (wrap64 (b.p - a.p) < 0) = false := decide_eq_false hs
            have b2 : decide (0 < wrap64 (b.p - a.p)) = false := decide_eq_false ht; have NS := Aside0.mk hs; have NT := Aside0.mk ht; clear hs ht; have HO : Below wr.heap.size wr (wr.alloc (Obj.cells #[.int .i64 5, .int .i64 6, .func (.func 52) #[] #[]] 79)) := below_alloc (Below.refl wr.heap.size wr) _; have HT5 := Aside0.mk (HT.out.below HO); have HA5 := Aside0.mk (blk_below HA.out HO); have HB5 := Aside0.mk (blk_below HB.out HO); have HW5 := Aside0.mk (HW.out.trans (HO.mono HW.out.size)); have y1 : (wr.alloc (Obj.cells #[.int .i64 5, .int .i64 6, .func (.func 52) #[] #[]] 79)).cell? ⟨W.heap.size, 3, none⟩ = some (.int .i64 a.p) := (blk_cell HA5.out 3).trans rfl; have y2 : (wr.alloc (Obj.cells #[.int .i64 5, .int .i64 6, .func (.func 52) #[] #[]] 79)).cell? ⟨W.heap.size + 1, 3, none⟩ = some (.int .i64 b.p) := (blk_cell HB5.out 3).trans rfl; have y3 : (wr.alloc (Obj.cells #[.int .i64 5, .int .i64 6, .func (.func 52) #[] #[]] 79)).cell? ⟨W.heap.size + 1, 0, none⟩ = some (.int .i64 x) := (blk_cell HB5.out 0).trans rfl; clear HO
            go_wp2
            go_quiet (first | (go_at_call 52; exact Calls.quiet_of (closq2 _ _)))
            go_wp2
            go_roundg k1
            case measure => omega
            case rel =>
              have hq : Below (wr.alloc (Obj.cells #[.int .i64 5, .int .i64 6, .func (.func 52) #[] #[]] 79)).heap.size (wr.alloc (Obj.cells #[.int .i64 5, .int .i64 6, .func (.func 52) #[] #[]] 79)) ((wr.alloc (Obj.cells #[.int .i64 5, .int .i64 6, .func (.func 52) #[] #[]] 79)).drewN nq) := pw_below_drewN (Below.refl _ _) nq
              exact ⟨3, rfl, by omega, ⟨two_none (show ¬ wrap64 (b.p - a.p) < 0 by have := NS.out; omega) (show ¬ 0 < wrap64 (b.p - a.p) by have := NT.out; omega) (HT5.out.below hq)⟩, ⟨blk_below HA5.out hq⟩, ⟨blk_below HB5.out hq⟩, ⟨HW5.out.trans (hq.mono HW5.out.size)⟩⟩
      · by_cases hs : wrap64 (b.r - a.r) < 0
        · have b1 : decide (wrap64 (b.r - a.r) < 0) = true := decide_eq_true hs
          have b2 : decide (0 < wrap64 (b.r - a.r)) = false := decide_eq_false (by omega); have NS := Aside0.mk hs; clear hs; have HO : Below wr.heap.size wr (wr.alloc (Obj.cells #[.int .i64 7, .int .i64 8, .func (.func 53) #[] #[]] 79)) := below_alloc (Below.refl wr.heap.size wr) _; have HT5 := Aside0.mk (HT.out.below HO); have HA5 := Aside0.mk (blk_below HA.out HO); have HB5 := Aside0.mk (blk_below HB.out HO); have HW5 := Aside0.mk (HW.out.trans (HO.mono HW.out.size)); have y1 : (wr.alloc (Obj.cells #[.int .i64 7, .int .i64 8, .func (.func 53) #[] #[]] 79)).cell? ⟨W.heap.size, 4, none⟩ = some (.int .i64 a.r) := (blk_cell HA5.out 4).trans rfl; have y2 : (wr.alloc (Obj.cells #[.int .i64 7, .int .i64 8, .func (.func 53) #[] #[]] 79)).cell? ⟨W.heap.size + 1, 4, none⟩ = some (.int .i64 b.r) := (blk_cell HB5.out 4).trans rfl; have y3 : (wr.alloc (Obj.cells #[.int .i64 7, .int .i64 8, .func (.func 53) #[] #[]] 79)).cell? ⟨W.heap.size + 1, 0, none⟩ = some (.int .i64 x) := (blk_cell HB5.out 0).trans rfl; clear HO
          go_wp2
          go_quiet (first | (go_at_call 53; exact Calls.quiet_of (closq3 _ _)))
          have hq : Below (wr.alloc (Obj.cells #[.int .i64 7, .int .i64 8, .func (.func 53) #[] #[]] 79)).heap.size (wr.alloc (Obj.cells #[.int .i64 7, .int .i64 8, .func (.func 53) #[] #[]] 79)) ((wr.alloc (Obj.cells #[.int .i64 7, .int .i64 8, .func (.func 53) #[] #[]] 79)).drewN nq) := pw_below_drewN (Below.refl _ _) nq; have HTq := Aside0.mk (HT5.out.below hq); have HAq := Aside0.mk (blk_below HA5.out hq); have HBq := Aside0.mk (blk_below HB5.out hq); have HWq := Aside0.mk (HW5.out.trans (hq.mono HW5.out.size)); have z1 : ((wr.alloc (Obj.cells #[.int .i64 7, .int .i64 8, .func (.func 53) #[] #[]] 79)).drewN nq).cell? ⟨wr.heap.size, 1, none⟩ = some (.int .i64 8) := (blk_cell (blk_below (blk_new wr (Obj.cells #[.int .i64 7, .int .i64 8, .func (.func 53) #[] #[]] 79)) hq) 1).trans rfl; have z3 : ((wr.alloc (Obj.cells #[.int .i64 7, .int .i64 8, .func (.func 53) #[] #[]] 79)).drewN nq).cell? ⟨W.heap.size + 1, 0, none⟩ = some (.int .i64 x) := (blk_cell HBq.out 0).trans rfl; clear hq y1 y2 y3 HT5 HA5 HB5 HW5
          generalize ((wr.alloc (Obj.cells #[.int .i64 7, .int .i64 8, .func (.func 53) #[] #[]] 79)).drewN nq) = wq at HTq HAq HBq HWq z1 z3 ⊢
          go_wp2_with (first
            | (at_builtin; refine Kd.R_append k26 (w0 := W) W.heap.size rfl (.tmp 27) (.tmp 35) 23 26 (.agg #[.int .i64 0, .int .i64 0, .int .i64 0, .int .i64 0, .int .i64 0, .int .i64 0]) 48 rfl Try.underlying23 info26 rfl (by decide) (by omega) u5 (fallsTo x a b 3) (⟨0, 0, 8, x, wrap64 (-wrap64 (b.r - a.r)), 0⟩ : S26) [.int .i64 0, .int .i64 0, .int .i64 8, .int .i64 x, .int .i64 (wrap64 (-wrap64 (b.r - a.r))), .int .i64 0] (fun _ => True) (fun _ => False) rfl rfl ?aP (fun _ hk => hk.elim) (fun _ _ => trivial) ?aO ?aB ?aS ?aL ?_; (case aP => exact k26_mkM _ _ _ (⟨0, 0, 8, x, wrap64 (-wrap64 (b.r - a.r)), 0⟩ : S26)); (case aO => exact HTq.out.l); (case aB => exact HWq.out); (case aS => exact HWq.out.size); (case aL => have := fallsTo_len x a b 3; omega); intro v1 w6 hR hB hg hat; have HR6 := Aside0.mk hR; have HB6 := Aside0.mk hB; have HG6 := Aside0.mk hg; have HAT6 := Aside0.mk hat; clear hR hB hg hat)
            | go_in)
          go_roundg k1
          case measure => omega
          case rel =>
            have ne1 := Kd.R_ne HTq.out.l HAq.out (by decide); have ne2 := Kd.R_ne HTq.out.l HBq.out (by decide)
            exact ⟨4, rfl, by omega, ⟨two_fall (show wrap64 (b.r - a.r) < 0 by have := NS.out; omega) HTq.out HG6.out HAT6.out HR6.out⟩, ⟨(HG6.out.block _ (blk_lt HAq.out) ne1).trans HAq.out⟩, ⟨(HG6.out.block _ (blk_lt HBq.out) ne2).trans HBq.out⟩, HB6⟩
        · by_cases ht : 0 < wrap64 (b.r - a.r)
          · have b1 : decide (wrap64 (b.r - a.r) < 0) = false := decide_eq_false hs
            have b2 : decide (0 < wrap64 (b.r - a.r)) = true := decide_eq_true ht; have NS := Aside0.mk hs; have NT := Aside0.mk ht; clear hs ht; have HO : Below wr.heap.size wr (wr.alloc (Obj.cells #[.int .i64 7, .int .i64 8, .func (.func 53) #[] #[]] 79)) := below_alloc (Below.refl wr.heap.size wr) _; have HT5 := Aside0.mk (HT.out.below HO); have HA5 := Aside0.mk (blk_below HA.out HO); have HB5 := Aside0.mk (blk_below HB.out HO); have HW5 := Aside0.mk (HW.out.trans (HO.mono HW.out.size)); have y1 : (wr.alloc (Obj.cells #[.int .i64 7, .int .i64 8, .func (.func 53) #[] #[]] 79)).cell? ⟨W.heap.size, 4, none⟩ = some (.int .i64 a.r) := (blk_cell HA5.out 4).trans rfl; have y2 : (wr.alloc (Obj.cells #[.int .i64 7, .int .i64 8, .func (.func 53) #[] #[]] 79)).cell? ⟨W.heap.size + 1, 4, none⟩ = some (.int .i64 b.r) := (blk_cell HB5.out 4).trans rfl; have y3 : (wr.alloc (Obj.cells #[.int .i64 7, .int .i64 8, .func (.func 53) #[] #[]] 79)).cell? ⟨W.heap.size + 1, 0, none⟩ = some (.int .i64 x) := (blk_cell HB5.out 0).trans rfl; clear HO
            go_wp2
            go_quiet (first | (go_at_call 53; exact Calls.quiet_of (closq3 _ _)))
            have hq : Below (wr.alloc (Obj.cells #[.int .i64 7, .int .i64 8, .func (.func 53) #[] #[]] 79)).heap.size (wr.alloc (Obj.cells #[.int .i64 7, .int .i64 8, .func (.func 53) #[] #[]] 79)) ((wr.alloc (Obj.cells #[.int .i64 7, .int .i64 8, .func (.func 53) #[] #[]] 79)).drewN nq) := pw_below_drewN (Below.refl _ _) nq; have HTq := Aside0.mk (HT5.out.below hq); have HAq := Aside0.mk (blk_below HA5.out hq); have HBq := Aside0.mk (blk_below HB5.out hq); have HWq := Aside0.mk (HW5.out.trans (hq.mono HW5.out.size)); have z1 : ((wr.alloc (Obj.cells #[.int .i64 7, .int .i64 8, .func (.func 53) #[] #[]] 79)).drewN nq).cell? ⟨wr.heap.size, 0, none⟩ = some (.int .i64 7) := (blk_cell (blk_below (blk_new wr (Obj.cells #[.int .i64 7, .int .i64 8, .func (.func 53) #[] #[]] 79)) hq) 0).trans rfl; have z3 : ((wr.alloc (Obj.cells #[.int .i64 7, .int .i64 8, .func (.func 53) #[] #[]] 79)).drewN nq).cell? ⟨W.heap.size + 1, 0, none⟩ = some (.int .i64 x) := (blk_cell HBq.out 0).trans rfl; clear hq y1 y2 y3 HT5 HA5 HB5 HW5
            generalize ((wr.alloc (Obj.cells #[.int .i64 7, .int .i64 8, .func (.func 53) #[] #[]] 79)).drewN nq) = wq at HTq HAq HBq HWq z1 z3 ⊢
            go_wp2_with (first
              | (at_builtin; refine Kd.R_append k26 (w0 := W) W.heap.size rfl (.tmp 39) (.tmp 46) 23 26 (.agg #[.int .i64 0, .int .i64 0, .int .i64 0, .int .i64 0, .int .i64 0, .int .i64 0]) 48 rfl Try.underlying23 info26 rfl (by decide) (by omega) u6 (risesTo x a b 3) (⟨0, 0, 7, x, wrap64 (b.r - a.r), 0⟩ : S26) [.int .i64 0, .int .i64 0, .int .i64 7, .int .i64 x, .int .i64 (wrap64 (b.r - a.r)), .int .i64 0] (fun _ => True) (fun _ => False) rfl rfl ?aP (fun _ hk => hk.elim) (fun _ _ => trivial) ?aO ?aB ?aS ?aL ?_; (case aP => exact k26_mkM _ _ _ (⟨0, 0, 7, x, wrap64 (b.r - a.r), 0⟩ : S26)); (case aO => exact HTq.out.r); (case aB => exact HWq.out); (case aS => exact HWq.out.size); (case aL => have := risesTo_len x a b 3; omega); intro v1 w6 hR hB hg hat; have HR6 := Aside0.mk hR; have HB6 := Aside0.mk hB; have HG6 := Aside0.mk hg; have HAT6 := Aside0.mk hat; clear hR hB hg hat)
              | go_in)
            go_roundg k1
            case measure => omega
            case rel =>
              have ne1 := Kd.R_ne HTq.out.r HAq.out (by decide); have ne2 := Kd.R_ne HTq.out.r HBq.out (by decide)
              exact ⟨4, rfl, by omega, ⟨two_rise (show ¬ wrap64 (b.r - a.r) < 0 by have := NS.out; omega) (show 0 < wrap64 (b.r - a.r) by have := NT.out; omega) HTq.out HG6.out HAT6.out HR6.out⟩, ⟨(HG6.out.block _ (blk_lt HAq.out) ne1).trans HAq.out⟩, ⟨(HG6.out.block _ (blk_lt HBq.out) ne2).trans HBq.out⟩, HB6⟩
          · have b1 : decide (wrap64 (b.r - a.r) < 0) = false := decide_eq_false hs
            have b2 : decide (0 < wrap64 (b.r - a.r)) = false := decide_eq_false ht; have NS := Aside0.mk hs; have NT := Aside0.mk ht; clear hs ht; have HO : Below wr.heap.size wr (wr.alloc (Obj.cells #[.int .i64 7, .int .i64 8, .func (.func 53) #[] #[]] 79)) := below_alloc (Below.refl wr.heap.size wr) _; have HT5 := Aside0.mk (HT.out.below HO); have HA5 := Aside0.mk (blk_below HA.out HO); have HB5 := Aside0.mk (blk_below HB.out HO); have HW5 := Aside0.mk (HW.out.trans (HO.mono HW.out.size)); have y1 : (wr.alloc (Obj.cells #[.int .i64 7, .int .i64 8, .func (.func 53) #[] #[]] 79)).cell? ⟨W.heap.size, 4, none⟩ = some (.int .i64 a.r) := (blk_cell HA5.out 4).trans rfl; have y2 : (wr.alloc (Obj.cells #[.int .i64 7, .int .i64 8, .func (.func 53) #[] #[]] 79)).cell? ⟨W.heap.size + 1, 4, none⟩ = some (.int .i64 b.r) := (blk_cell HB5.out 4).trans rfl; have y3 : (wr.alloc (Obj.cells #[.int .i64 7, .int .i64 8, .func (.func 53) #[] #[]] 79)).cell? ⟨W.heap.size + 1, 0, none⟩ = some (.int .i64 x) := (blk_cell HB5.out 0).trans rfl; clear HO
            go_wp2
            go_quiet (first | (go_at_call 53; exact Calls.quiet_of (closq3 _ _)))
            go_wp2
            go_roundg k1
            case measure => omega
            case rel =>
              have hq : Below (wr.alloc (Obj.cells #[.int .i64 7, .int .i64 8, .func (.func 53) #[] #[]] 79)).heap.size (wr.alloc (Obj.cells #[.int .i64 7, .int .i64 8, .func (.func 53) #[] #[]] 79)) ((wr.alloc (Obj.cells #[.int .i64 7, .int .i64 8, .func (.func 53) #[] #[]] 79)).drewN nq) := pw_below_drewN (Below.refl _ _) nq
              exact ⟨4, rfl, by omega, ⟨two_none (show ¬ wrap64 (b.r - a.r) < 0 by have := NS.out; omega) (show ¬ 0 < wrap64 (b.r - a.r) by have := NT.out; omega) (HT5.out.below hq)⟩, ⟨blk_below HA5.out hq⟩, ⟨blk_below HB5.out hq⟩, ⟨HW5.out.trans (hq.mono HW5.out.size)⟩⟩
    · have hje : j = 4 := by omega
      subst hje; obtain ⟨A6, c6, e6⟩ := Kd.R_slice HT.out.r; subst e6
      go_wp2_with (first
        | (at_builtin; refine Kd.R_append_rows k26 (w0 := W) W.heap.size rfl (.tmp 49) (.tmp 50) 23 26 (.agg #[.int .i64 0, .int .i64 0, .int .i64 0, .int .i64 0, .int .i64 0, .int .i64 0]) 48 rfl Try.underlying23 info26 rfl (by decide) (by omega) u5 (fallsTo x a b 4) (risesTo x a b 4) _ _ _ (fun _ => True) (fun _ => False) rfl rfl HT.out.l (Kd.R_reads' HT.out.r).2.2 (fun _ _ h => h) (fun _ h => h.elim) (fun _ _ => trivial) HW.out HW.out.size ?aL ?_; (case aL => have := fallsTo_len x a b 4; have := risesTo_len x a b 4; omega); intro v1 w6 hR hB hg hat; have HR6 := Aside0.mk hR; have HB6 := Aside0.mk hB; clear hR hB hg hat)
        | go_in)
      go_ret
      exact ⟨_, rfl, HR6.out, HB6.out⟩
end Go.Proofs.Ytgedkdofhonicaa.G
/- The contract by hand of ledger.validTargets (its inner rounds are written by mkvalid30.py). -/
namespace Go.Proofs.Ytgedkdofhonicaa.G
open Go.RowKit Go.Proofs.YtgedkdofhonicaaW.PrintWords Go.Proofs.YtgedkdofhonicaaW.PrintLast Go.Proofs.YtgedkdofhonicaaW.PrintMore Go.Proofs.Ytgedkdofhonicaa.PA
set_option linter.unusedVariables false
set_option linter.unusedSimpArgs false
def okF (n : Int) : Bool := decide (0 ≤ n ∧ n ≤ 64000000000000)
/-- A target that may be. -/
def okT (t : S37) : Bool := decide (1 ≤ t.f0 ∧ t.f0 ≤ 1000000) && (okF t.f1 && (okF t.f2 && (okF t.f3 && okF t.f4)))
def okTo (ts : List S37) : Nat → Bool
  | 0 => true
  | i + 1 => okTo ts i && okT (rd_T37 ts (i : Int))
def incTo (ts : List S37) : Nat → Bool
  | 0 => true
  | i + 1 => incTo ts i && (decide (i = 0) || decide ((rd_T37 ts ((i : Int) - 1)).f0 < (rd_T37 ts (i : Int)).f0))
/-- What validTargets answers. -/
def valT (ts : List S37) : Int := if 256 < ts.length then 8 else if okTo ts ts.length = false then 2 else if incTo ts ts.length = false then 9 else 0
theorem okTo_false {ts : List S37} {i : Nat} (h : okTo ts i = false) : ∀ d, okTo ts (i + d) = false
  | 0 => h
  | d + 1 => by show (okTo ts (i + d) && _) = false; rw [okTo_false h d]; rfl
theorem incTo_false {ts : List S37} {i : Nat} (h : incTo ts i = false) : ∀ d, incTo ts (i + d) = false
  | 0 => h
  | d + 1 => by show (incTo ts (i + d) && _) = false; rw [incTo_false h d]; rfl
theorem valT_bad {ts : List S37} {i : Nat} (h1 : ¬ 256 < ts.length) (hi : i < ts.length) (hb : okT (rd_T37 ts (i : Int)) = false) : valT ts = 2 := by
  have h : okTo ts (i + 1) = false := by show (_ && _) = false; rw [hb, Bool.and_false]
  have := okTo_false h (ts.length - (i + 1))
  rw [show i + 1 + (ts.length - (i + 1)) = ts.length by omega] at this
  rw [valT, if_neg h1, if_pos this]
theorem valT_order {ts : List S37} {i : Nat} (h1 : ¬ 256 < ts.length) (h2 : okTo ts ts.length = true) (hi0 : 1 ≤ i) (hi : i < ts.length) (hb : ¬ (rd_T37 ts ((i : Int) - 1)).f0 < (rd_T37 ts (i : Int)).f0) : valT ts = 9 := by
  have h : incTo ts (i + 1) = false := by show (_ && (_ || _)) = false; rw [decide_eq_false (show ¬ i = 0 by omega), decide_eq_false hb]; simp
  have := incTo_false h (ts.length - (i + 1))
  rw [show i + 1 + (ts.length - (i + 1)) = ts.length by omega] at this
  rw [valT, if_neg h1, if_neg (by rw [h2]; simp), if_pos this]
theorem valT_fine {ts : List S37} {i : Nat} (h1 : ¬ 256 < ts.length) (h2 : okTo ts ts.length = true) (hi : i = ts.length ∨ ts.length = 0) (h3 : incTo ts i = true) : valT ts = 0 := by
  have h : incTo ts ts.length = true := by
    rcases hi with rfl | h0
    · exact h3
    · rw [h0]; rfl
  rw [valT, if_neg h1, if_neg (by rw [h2]; simp), if_neg (by rw [h]; simp)]
/-- The first m fields may be. -/
def fldTo (t : S37) : Nat → Bool
  | 0 => true
  | 1 => okF t.f1
  | 2 => okF t.f1 && okF t.f2
  | 3 => okF t.f1 && okF t.f2 && okF t.f3
  | _ => okF t.f1 && okF t.f2 && okF t.f3 && okF t.f4
theorem okT_of {t : S37} (h0 : 1 ≤ t.f0 ∧ t.f0 ≤ 1000000) (h : fldTo t 4 = true) : okT t = true := by
  simp only [fldTo, Bool.and_eq_true] at h
  simp [okT, h0.1, h0.2, h.1.1.1, h.1.1.2, h.1.2, h.2]
theorem okF_neg {n : Int} (h : n < 0) : okF n = false := decide_eq_false (by omega)
theorem okF_big {n : Int} (h : 64000000000000 < n) : okF n = false := decide_eq_false (by omega)
theorem okF_ok {n : Int} (h1 : ¬ n < 0) (h2 : ¬ 64000000000000 < n) : okF n = true := decide_eq_true (by omega)
set_option maxHeartbeats 4000000 in
set_option maxRecDepth 100000 in
theorem validTargets_calls {W : World} {A0 : Option Addr} {c0 : Nat} {ts : List S37} (hr : Kd.C k37 W A0 ts.length ts) (hc : ts.length ≤ c0) :
    Calls Try.prog 31 #[.slice A0 ts.length c0] W fun e w' => e = .returned (.int .i64 (valT ts)) ∧ Below W.heap.size W w' := by
  have hu37 := Try.underlying37; have hu41 := Try.underlying41; have hu79 := Try.underlying79; have hu80 := Try.underlying80
  have mixed : Try.prog.follows Departure.mixedOrders = true := by kernel_rfl
  have HR := Aside0.mk hr; have HC := Aside0.mk hc; clear hr hc
  by_cases h256 : 256 < ts.length
  · have b1 : decide ((256 : Int) < (ts.length : Int)) = true := decide_eq_true (by omega)
    have b2 : decide (256 < ts.length) = true := decide_eq_true h256
    have hv : valT ts = 8 := by rw [valT, if_pos h256]
    have HV := Aside0.mk hv; clear hv
    go_enter Try.func31, Try.ntmps31
    go_wp2
    go_ret
    rw [HV.out]
    exact ⟨rfl, by repeat (first | exact Below.refl _ _ | apply below_alloc | apply pw_below_drewN | apply below_drew1)⟩
  · have b1 : decide ((256 : Int) < (ts.length : Int)) = false := decide_eq_false (by omega)
    have b2 : decide (256 < ts.length) = false := decide_eq_false h256; have NL := Aside0.mk h256; clear h256; have hi0 := idx0; have hi1 := idx1; have hi2 := idx2; have hi3 := idx3; have hsf := @run_store_func Try.prog
    go_enter Try.func31, Try.ntmps31
    go_wp2
    go_loopg [14] (ts.length + 1) (fun kx v14 wr => ∃ i : Nat, v14 = .int .i64 i ∧ i + kx = ts.length + 1 ∧ i ≤ ts.length ∧ Aside0 (okTo ts i = true) ∧ Aside0 (Below W.heap.size W wr))
    case atStart => exact ⟨0, rfl, by omega, Nat.zero_le _, ⟨rfl⟩, ⟨by repeat (first | exact Below.refl _ _ | apply below_alloc | apply pw_below_drewN | apply below_drew1)⟩⟩
    case round =>
      obtain ⟨i, rfl, hik, hil, HO, HB⟩ := hrel
      by_cases hlt : i < ts.length
      · obtain ⟨k1, rfl⟩ : ∃ k1, gk = k1 + 1 := ⟨gk - 1, by omega⟩
        obtain ⟨ad, eA, z0, z1, z2, z3, z4⟩ := at_T37 HR.out (i : Int) (by omega) (by omega); subst eA; replace z0 := (HB.out.cell (World.block_lt_of_cell? W _ z0)).trans z0; replace z1 := (HB.out.cell (World.block_lt_of_cell? W _ z1)).trans z1; replace z2 := (HB.out.cell (World.block_lt_of_cell? W _ z2)).trans z2; replace z3 := (HB.out.cell (World.block_lt_of_cell? W _ z3)).trans z3; replace z4 := (HB.out.cell (World.block_lt_of_cell? W _ z4)).trans z4
        rw [Int.toNat_natCast] at z0 z1 z2 z3 z4
        have p0 := eq_true (show (0 : Int) ≤ (i : Int) by omega); have q0 := eq_true (show (i : Int) < (ts.length : Int) by omega)
        have hw : wrap64 ((i : Int) + 1) = ((i + 1 : Nat) : Int) := by have := NL.out; unfold wrap64; omega
        have hstep : okTo ts (i + 1) = okT (rd_T37 ts (i : Int)) := by show (okTo ts i && _) = _; rw [HO.out, Bool.true_and]
        have HST := Aside0.mk hstep; have hbad : okT (rd_T37 ts (i : Int)) = false → valT ts = 2 := valT_bad NL.out hlt; have HBAD := Aside0.mk hbad; have HI := Aside0.mk (And.intro hik (And.intro hil hlt)); clear hstep hbad hik hil hlt
        generalize rd_T37 ts (i : Int) = t at z0 z1 z2 z3 z4 HST HBAD
        by_cases hR : t.f0 < 1
        · have d1 : decide (t.f0 < 1) = true := decide_eq_true hR
          have NR := Aside0.mk hR; clear hR
          go_wp2
          go_ret
          rw [HBAD.out (by have := NR.out; simp [okT]; intro h; omega)]
          exact ⟨rfl, HB.out.trans (Below.mono (by repeat (first | exact Below.refl _ _ | apply below_alloc | apply pw_below_drewN | apply below_drew1)) HB.out.size)⟩
        · by_cases hR2 : 1000000 < t.f0
          · have d1 : decide (t.f0 < 1) = false := decide_eq_false hR
            have d2 : decide (1000000 < t.f0) = true := decide_eq_true hR2; have NR := Aside0.mk hR2; clear hR hR2
            go_wp2
            go_ret
            rw [HBAD.out (by have := NR.out; simp [okT]; intro h h'; omega)]
            exact ⟨rfl, HB.out.trans (Below.mono (by repeat (first | exact Below.refl _ _ | apply below_alloc | apply pw_below_drewN | apply below_drew1)) HB.out.size)⟩
          · have d1 : decide (t.f0 < 1) = false := decide_eq_false hR
            have d2 : decide (1000000 < t.f0) = false := decide_eq_false hR2; have NR := Aside0.mk (show 1 ≤ t.f0 ∧ t.f0 ≤ 1000000 by omega); clear hR hR2
            go_wp2_with (first
              | ((with_reducible refine gate_callee (f := 44) rfl ?_); refine goesL_ (some 26) rfl rfl Try.func44 (by kernel_rfl) rfl #[] rfl (by (try simp only [List.map_toArray, List.map_cons, List.map_nil]); first | done | rfl) ?_; refine (fields_calls _).mono ?_; rintro _ w3 ⟨rfl, hb⟩; refine ⟨_, rfl, ?_⟩; have HB3 := Aside0.mk hb; clear hb))
            have FT : w3.heap[wr.heap.size]? = some (.cells #[.int .i64 t.f0, .int .i64 t.f1, .int .i64 t.f2, .int .i64 t.f3, .int .i64 t.f4] 37 (0, 0)) := blk_below (blk_new wr (.cells #[.int .i64 t.f0, .int .i64 t.f1, .int .i64 t.f2, .int .i64 t.f3, .int .i64 t.f4] 37)) HB3.out; have hb2 : Below wr.heap.size wr w3 := (below_alloc (Below.refl wr.heap.size wr) (.cells #[.int .i64 t.f0, .int .i64 t.f1, .int .i64 t.f2, .int .i64 t.f3, .int .i64 t.f4] 37)).trans (HB3.out.mono (by simp)); have HFT := Aside0.mk FT; have HW3 := Aside0.mk (HB.out.trans (hb2.mono HB.out.size)); clear FT hb2 z0 z1 z2 z3 z4 HB3 p0 q0 d1 d2 b1 b2
            generalize wr.heap.size = bx at HFT ⊢
            go_loopg [27] 4 (fun kx v27 wq => ∃ m : Nat, v27 = .int .i64 m ∧ m + kx = 4 ∧ Aside0 (fldTo t m = true) ∧ Aside0 (wq.heap[bx]? = some (.cells #[.int .i64 t.f0, .int .i64 t.f1, .int .i64 t.f2, .int .i64 t.f3, .int .i64 t.f4] 37 (0, 0))) ∧ Aside0 (Below W.heap.size W wq))
            case atStart => exact ⟨0, rfl, rfl, ⟨rfl⟩, HFT, HW3⟩
            case round =>
              clear HFT HW3; obtain ⟨m, rfl, hmk, HM, HFT, HW3⟩ := hrel
              by_cases hm : m < 4
              · obtain ⟨k2, rfl⟩ : ∃ k2, gk = k2 + 1 := ⟨gk - 1, by omega⟩
                have hm4 : m = 0 ∨ m = 1 ∨ m = 2 ∨ m = 3 := by omega
                rcases hm4 with rfl | rfl | rfl | rfl
                · by_cases hs : t.f1 < 0
                  · have d1 : decide (t.f1 < 0) = true := decide_eq_true hs
                    have NF := Aside0.mk (okF_neg hs); clear hs; have HO5 : Below wr.heap.size wr (wr.alloc (Obj.cells #[.int .i64 1, .int .i64 2, .func (.func 50) #[] #[]] 79)) := below_alloc (Below.refl wr.heap.size wr) _; have HF5 := Aside0.mk (blk_below HFT.out HO5); have HW5 := Aside0.mk (HW3.out.trans (HO5.mono HW3.out.size)); have y1 : (wr.alloc (Obj.cells #[.int .i64 1, .int .i64 2, .func (.func 50) #[] #[]] 79)).cell? ⟨bx, 1, none⟩ = some (.int .i64 t.f1) := (blk_cell HF5.out 1).trans rfl; clear HO5
                    go_wp2
                    go_ret
                    rw [HBAD.out (by have := NF.out; simp [okT, this])]
                    exact ⟨rfl, HW5.out⟩
                  · by_cases ht : 64000000000000 < t.f1
                    · have d1 : decide (t.f1 < 0) = false := decide_eq_false hs
                      have d2 : decide (64000000000000 < t.f1) = true := decide_eq_true ht; have NF := Aside0.mk (okF_big ht); clear hs ht; have HO5 : Below wr.heap.size wr (wr.alloc (Obj.cells #[.int .i64 1, .int .i64 2, .func (.func 50) #[] #[]] 79)) := below_alloc (Below.refl wr.heap.size wr) _; have HF5 := Aside0.mk (blk_below HFT.out HO5); have HW5 := Aside0.mk (HW3.out.trans (HO5.mono HW3.out.size)); have y1 : (wr.alloc (Obj.cells #[.int .i64 1, .int .i64 2, .func (.func 50) #[] #[]] 79)).cell? ⟨bx, 1, none⟩ = some (.int .i64 t.f1) := (blk_cell HF5.out 1).trans rfl; clear HO5
                      go_wp2
                      go_ret
                      rw [HBAD.out (by have := NF.out; simp [okT, this])]
                      exact ⟨rfl, HW5.out⟩
                    · have d1 : decide (t.f1 < 0) = false := decide_eq_false hs
                      have d2 : decide (64000000000000 < t.f1) = false := decide_eq_false ht; have NF := Aside0.mk (okF_ok hs ht); clear hs ht; have HO5 : Below wr.heap.size wr (wr.alloc (Obj.cells #[.int .i64 1, .int .i64 2, .func (.func 50) #[] #[]] 79)) := below_alloc (Below.refl wr.heap.size wr) _; have HF5 := Aside0.mk (blk_below HFT.out HO5); have HW5 := Aside0.mk (HW3.out.trans (HO5.mono HW3.out.size)); have y1 : (wr.alloc (Obj.cells #[.int .i64 1, .int .i64 2, .func (.func 50) #[] #[]] 79)).cell? ⟨bx, 1, none⟩ = some (.int .i64 t.f1) := (blk_cell HF5.out 1).trans rfl; clear HO5
                      go_wp2
                      go_roundg k2
                      case measure => omega
                      case rel => exact ⟨1, rfl, by omega, ⟨by have := HM.out; simp only [fldTo] at this ⊢; simp [this, NF.out]⟩, HF5, HW5⟩
                · by_cases hs : t.f2 < 0
                  · have d1 : decide (t.f2 < 0) = true := decide_eq_true hs
                    have NF := Aside0.mk (okF_neg hs); clear hs; have HO5 : Below wr.heap.size wr (wr.alloc (Obj.cells #[.int .i64 3, .int .i64 4, .func (.func 51) #[] #[]] 79)) := below_alloc (Below.refl wr.heap.size wr) _; have HF5 := Aside0.mk (blk_below HFT.out HO5); have HW5 := Aside0.mk (HW3.out.trans (HO5.mono HW3.out.size)); have y1 : (wr.alloc (Obj.cells #[.int .i64 3, .int .i64 4, .func (.func 51) #[] #[]] 79)).cell? ⟨bx, 2, none⟩ = some (.int .i64 t.f2) := (blk_cell HF5.out 2).trans rfl; clear HO5
                    go_wp2
                    go_ret
                    rw [HBAD.out (by have := NF.out; simp [okT, this])]
                    exact ⟨rfl, HW5.out⟩
                  · by_cases ht : 64000000000000 < t.f2
                    · have d1 : decide (t.f2 < 0) = false := decide_eq_false hs
                      have d2 : decide (64000000000000 < t.f2) = true := decide_eq_true ht; have NF := Aside0.mk (okF_big ht); clear hs ht; have HO5 : Below wr.heap.size wr (wr.alloc (Obj.cells #[.int .i64 3, .int .i64 4, .func (.func 51) #[] #[]] 79)) := below_alloc (Below.refl wr.heap.size wr) _; have HF5 := Aside0.mk (blk_below HFT.out HO5); have HW5 := Aside0.mk (HW3.out.trans (HO5.mono HW3.out.size)); have y1 : (wr.alloc (Obj.cells #[.int .i64 3, .int .i64 4, .func (.func 51) #[] #[]] 79)).cell? ⟨bx, 2, none⟩ = some (.int .i64 t.f2) := (blk_cell HF5.out 2).trans rfl; clear HO5
                      go_wp2
                      go_ret
                      rw [HBAD.out (by have := NF.out; simp [okT, this])]
                      exact ⟨rfl, HW5.out⟩
                    · have d1 : decide (t.f2 < 0) = false := decide_eq_false hs
                      have d2 : decide (64000000000000 < t.f2) = false := decide_eq_false ht; have NF := Aside0.mk (okF_ok hs ht); clear hs ht; have HO5 : Below wr.heap.size wr (wr.alloc (Obj.cells #[.int .i64 3, .int .i64 4, .func (.func 51) #[] #[]] 79)) := below_alloc (Below.refl wr.heap.size wr) _; have HF5 := Aside0.mk (blk_below HFT.out HO5); have HW5 := Aside0.mk (HW3.out.trans (HO5.mono HW3.out.size)); have y1 : (wr.alloc (Obj.cells #[.int .i64 3, .int .i64 4, .func (.func 51) #[] #[]] 79)).cell? ⟨bx, 2, none⟩ = some (.int .i64 t.f2) := (blk_cell HF5.out 2).trans rfl; clear HO5
                      go_wp2
                      go_roundg k2
                      case measure => omega
                      case rel => exact ⟨2, rfl, by omega, ⟨by have := HM.out; simp only [fldTo] at this ⊢; simp [this, NF.out]⟩, HF5, HW5⟩
                · by_cases hs : t.f3 < 0
                  · have d1 : decide (t.f3 < 0) = true := decide_eq_true hs
                    have NF := Aside0.mk (okF_neg hs); clear hs; have HO5 : Below wr.heap.size wr (wr.alloc (Obj.cells #[.int .i64 5, .int .i64 6, .func (.func 52) #[] #[]] 79)) := below_alloc (Below.refl wr.heap.size wr) _; have HF5 := Aside0.mk (blk_below HFT.out HO5); have HW5 := Aside0.mk (HW3.out.trans (HO5.mono HW3.out.size)); have y1 : (wr.alloc (Obj.cells #[.int .i64 5, .int .i64 6, .func (.func 52) #[] #[]] 79)).cell? ⟨bx, 3, none⟩ = some (.int .i64 t.f3) := (blk_cell HF5.out 3).trans rfl; clear HO5
                    go_wp2
                    go_ret
                    rw [HBAD.out (by have := NF.out; simp [okT, this])]
                    exact ⟨rfl, HW5.out⟩
                  · by_cases ht : 64000000000000 < t.f3
                    · have d1 : decide (t.f3 < 0) = false := decide_eq_false hs
                      have d2 : decide (64000000000000 < t.f3) = true := decide_eq_true ht; have NF := Aside0.mk (okF_big ht); clear hs ht; have HO5 : Below wr.heap.size wr (wr.alloc (Obj.cells #[.int .i64 5, .int .i64 6, .func (.func 52) #[] #[]] 79)) := below_alloc (Below.refl wr.heap.size wr) _; have HF5 := Aside0.mk (blk_below HFT.out HO5); have HW5 := Aside0.mk (HW3.out.trans (HO5.mono HW3.out.size)); have y1 : (wr.alloc (Obj.cells #[.int .i64 5, .int .i64 6, .func (.func 52) #[] #[]] 79)).cell? ⟨bx, 3, none⟩ = some (.int .i64 t.f3) := (blk_cell HF5.out 3).trans rfl; clear HO5
                      go_wp2
                      go_ret
                      rw [HBAD.out (by have := NF.out; simp [okT, this])]
                      exact ⟨rfl, HW5.out⟩
                    · have d1 : decide (t.f3 < 0) = false := decide_eq_false hs
                      have d2 : decide (64000000000000 < t.f3) = false := decide_eq_false ht; have NF := Aside0.mk (okF_ok hs ht); clear hs ht; have HO5 : Below wr.heap.size wr (wr.alloc (Obj.cells #[.int .i64 5, .int .i64 6, .func (.func 52) #[] #[]] 79)) := below_alloc (Below.refl wr.heap.size wr) _; have HF5 := Aside0.mk (blk_below HFT.out HO5); have HW5 := Aside0.mk (HW3.out.trans (HO5.mono HW3.out.size)); have y1 : (wr.alloc (Obj.cells #[.int .i64 5, .int .i64 6, .func (.func 52) #[] #[]] 79)).cell? ⟨bx, 3, none⟩ = some (.int .i64 t.f3) := (blk_cell HF5.out 3).trans rfl; clear HO5
                      go_wp2
                      go_roundg k2
                      case measure => omega
                      case rel => exact ⟨3, rfl, by omega, ⟨by have := HM.out; simp only [fldTo] at this ⊢; simp [this, NF.out]⟩, HF5, HW5⟩
                · by_cases hs : t.f4 < 0
                  · have d1 : decide (t.f4 < 0) = true := decide_eq_true hs
                    have NF := Aside0.mk (okF_neg hs); clear hs; have HO5 : Below wr.heap.size wr (wr.alloc (Obj.cells #[.int .i64 7, .int .i64 8, .func (.func 53) #[] #[]] 79)) := below_alloc (Below.refl wr.heap.size wr) _; have HF5 := Aside0.mk (blk_below HFT.out HO5); have HW5 := Aside0.mk (HW3.out.trans (HO5.mono HW3.out.size)); have y1 : (wr.alloc (Obj.cells #[.int .i64 7, .int .i64 8, .func (.func 53) #[] #[]] 79)).cell? ⟨bx, 4, none⟩ = some (.int .i64 t.f4) := (blk_cell HF5.out 4).trans rfl; clear HO5
                    go_wp2
                    go_ret
                    rw [HBAD.out (by have := NF.out; simp [okT, this])]
                    exact ⟨rfl, HW5.out⟩
                  · by_cases ht : 64000000000000 < t.f4
                    · have d1 : decide (t.f4 < 0) = false := decide_eq_false hs
                      have d2 : decide (64000000000000 < t.f4) = true := decide_eq_true ht; have NF := Aside0.mk (okF_big ht); clear hs ht; have HO5 : Below wr.heap.size wr (wr.alloc (Obj.cells #[.int .i64 7, .int .i64 8, .func (.func 53) #[] #[]] 79)) := below_alloc (Below.refl wr.heap.size wr) _; have HF5 := Aside0.mk (blk_below HFT.out HO5); have HW5 := Aside0.mk (HW3.out.trans (HO5.mono HW3.out.size)); have y1 : (wr.alloc (Obj.cells #[.int .i64 7, .int .i64 8, .func (.func 53) #[] #[]] 79)).cell? ⟨bx, 4, none⟩ = some (.int .i64 t.f4) := (blk_cell HF5.out 4).trans rfl; clear HO5
                      go_wp2
                      go_ret
                      rw [HBAD.out (by have := NF.out; simp [okT, this])]
                      exact ⟨rfl, HW5.out⟩
                    · have d1 : decide (t.f4 < 0) = false := decide_eq_false hs
                      have d2 : decide (64000000000000 < t.f4) = false := decide_eq_false ht; have NF := Aside0.mk (okF_ok hs ht); clear hs ht; have HO5 : Below wr.heap.size wr (wr.alloc (Obj.cells #[.int .i64 7, .int .i64 8, .func (.func 53) #[] #[]] 79)) := below_alloc (Below.refl wr.heap.size wr) _; have HF5 := Aside0.mk (blk_below HFT.out HO5); have HW5 := Aside0.mk (HW3.out.trans (HO5.mono HW3.out.size)); have y1 : (wr.alloc (Obj.cells #[.int .i64 7, .int .i64 8, .func (.func 53) #[] #[]] 79)).cell? ⟨bx, 4, none⟩ = some (.int .i64 t.f4) := (blk_cell HF5.out 4).trans rfl; clear HO5
                      go_wp2
                      go_roundg k2
                      case measure => omega
                      case rel => exact ⟨4, rfl, by omega, ⟨by have := HM.out; simp only [fldTo] at this ⊢; simp [this, NF.out]⟩, HF5, HW5⟩
              · have hje : m = 4 := by omega
                subst hje; have NT := Aside0.mk (okT_of NR.out HM.out); clear hm hmk
                go_wp2
                go_roundg k1
                case measure => have := HI.out; omega
                case rel =>
                  have hh := HI.out
                  exact ⟨i + 1, by rw [hw], by omega, by omega, ⟨by rw [HST.out]; exact NT.out⟩, HW3⟩
      · have hie : i = ts.length := by omega
        subst hie; have HO2 := HO; clear hlt hil hik
        go_wp2
        go_loopg [8] (ts.length + 1) (fun kx v8 wq => ∃ i : Nat, v8 = .int .i64 i ∧ i + kx = ts.length + 2 ∧ 1 ≤ i ∧ Aside0 (i ≤ ts.length ∨ ts.length = 0) ∧ Aside0 (incTo ts i = true) ∧ Aside0 (Below W.heap.size W wq))
        case atStart => exact ⟨1, rfl, by omega, Nat.le_refl _, ⟨by omega⟩, ⟨rfl⟩, HB⟩
        case round =>
          clear HB; obtain ⟨i, rfl, hik, hi1, HIL, HO, HB⟩ := hrel
          by_cases hlt : i < ts.length
          · obtain ⟨k1, rfl⟩ : ∃ k1, gk = k1 + 1 := ⟨gk - 1, by omega⟩
            have hw1 : wrap64 ((i : Int) - 1) = (i : Int) - 1 := by have := NL.out; unfold wrap64; omega
            obtain ⟨ad, eA, z0, _⟩ := at_T37 HR.out (i : Int) (by omega) (by omega); obtain ⟨ad', eA', y0, _⟩ := at_T37 HR.out (wrap64 ((i : Int) - 1)) (by omega) (by omega); subst eA
            injection eA' with eA'
            subst eA'; replace z0 := (HB.out.cell (World.block_lt_of_cell? W _ z0)).trans z0; replace y0 := (HB.out.cell (World.block_lt_of_cell? W _ y0)).trans y0
            rw [Int.toNat_natCast] at z0
            have p0 := eq_true (show (0 : Int) ≤ (i : Int) by omega); have q0 := eq_true (show (i : Int) < (ts.length : Int) by omega); have p1 := eq_true (show (0 : Int) ≤ wrap64 ((i : Int) - 1) by omega); have q1 := eq_true (show wrap64 ((i : Int) - 1) < (ts.length : Int) by omega)
            have hw : wrap64 ((i : Int) + 1) = ((i + 1 : Nat) : Int) := by have := NL.out; unfold wrap64; omega
            have hr1 : rd_T37 ts (wrap64 ((i : Int) - 1)) = rd_T37 ts ((i : Int) - 1) := by rw [hw1]
            rw [hr1] at y0
            have HSO := Aside0.mk (fun h => valT_order NL.out HO2.out hi1 hlt h)
            have hst : (rd_T37 ts ((i : Int) - 1)).f0 < (rd_T37 ts (i : Int)).f0 → incTo ts (i + 1) = true := fun h => by show (incTo ts i && (_ || _)) = true; rw [HO.out, decide_eq_true h]; simp
            have HST := Aside0.mk hst; have HI := Aside0.mk (And.intro hik (And.intro hi1 hlt)); clear hr1 hw1 hst hik hi1 hlt
            generalize rd_T37 ts (i : Int) = t at z0 HSO HST
            generalize rd_T37 ts ((i : Int) - 1) = t' at y0 HSO HST
            by_cases hd : t.f0 ≤ t'.f0
            · have d1 : decide (t.f0 ≤ t'.f0) = true := decide_eq_true hd
              have ND := Aside0.mk hd; clear hd
              go_wp2
              go_quiet (fail)
              go_wp2
              go_ret
              rw [HSO.out (by have := ND.out; omega)]
              exact ⟨rfl, HB.out.trans (Below.mono (by repeat (first | exact Below.refl _ _ | apply below_alloc | apply pw_below_drewN | apply below_drew1)) HB.out.size)⟩
            · have d1 : decide (t.f0 ≤ t'.f0) = false := decide_eq_false hd
              have ND := Aside0.mk hd; clear hd
              go_wp2
              go_quiet (fail)
              go_wp2
              go_roundg k1
              case measure => have := HI.out; omega
              case rel =>
                have hh := HI.out
                exact ⟨i + 1, by rw [hw], by omega, by omega, ⟨by omega⟩, ⟨HST.out (by have := ND.out; omega)⟩, ⟨HB.out.trans (Below.mono (by repeat (first | exact Below.refl _ _ | apply below_alloc | apply pw_below_drewN | apply below_drew1)) HB.out.size)⟩⟩
          · have HIE := Aside0.mk (show i = ts.length ∨ ts.length = 0 by have := HIL.out; omega)
            clear hik
            go_wp2
            go_ret
            rw [valT_fine NL.out HO2.out HIE.out HO.out]
            exact ⟨rfl, HB.out⟩
end Go.Proofs.Ytgedkdofhonicaa.G
/- A map from lots to balances (values), as a function: make, store, look up, range. -/
namespace Go.Proofs.Ytgedkdofhonicaa.G
open Go.RowKit Go.ChangeMaps Go.MapKept Go.Proofs.YtgedkdofhonicaaW.PrintWords Go.Proofs.YtgedkdofhonicaaW.PrintLast Go.Proofs.YtgedkdofhonicaaW.PrintMore Go.Proofs.Ytgedkdofhonicaa.PA
open Go.Maps (Keyed)
set_option linter.unusedVariables false
set_option linter.unusedSimpArgs false
/-- How a balance reads. -/
def aggR : Value → Option (DataW Unit × List MemPlace)
  | .agg ⟨[.int .i64 a0, .int .i64 a1, .int .i64 a2, .int .i64 a3, .int .i64 a4]⟩ => some (.agg [.lit (.int .i64 a0), .lit (.int .i64 a1), .lit (.int .i64 a2), .lit (.int .i64 a3), .lit (.int .i64 a4)], [])
  | _ => none
def balD (x : Int) (b : Bal) : DataW Unit := .agg [.lit (.int .i64 x), .lit (.int .i64 b.o), .lit (.int .i64 b.s), .lit (.int .i64 b.p), .lit (.int .i64 b.r)]
def balV (x : Int) (b : Bal) : Value := .agg (balCells x b)
theorem aggR_V (x : Int) (b : Bal) : aggR (balV x b) = some (balD x b, []) := rfl
theorem aggR_shape (v : Value) (y : DataW Unit × List MemPlace) (h : aggR v = some y) : ∃ c : Int × Bal, v = balV c.1 c.2 := by
  unfold aggR at h
  split at h
  · rename_i a0 a1 a2 a3 a4
    exact ⟨(a0, ⟨a1, a2, a3, a4⟩), rfl⟩
  · cases h
theorem balD_inj {x y : Int} {b c : Bal} (h : balD x b = balD y c) : x = y ∧ b = c := by
  unfold balD at h
  simp only [DataW.agg.injEq, List.cons.injEq, DataW.lit.injEq, Lit.int.injEq, true_and, and_true] at h
  obtain ⟨h0, h1, h2, h3, h4⟩ := h
  refine ⟨h0, ?_⟩
  cases b; cases c
  simp_all
/-- How an entry reads where z stands for none. -/
def balZ (z : DataW Unit) (x : Int) : Option Bal → DataW Unit
  | none => z
  | some b => balD x b
/-- Block b of w is a map of at most n entries from lots to balances. -/
def MapG (w : World) (b n : Nat) (f : Int → Option Bal) : Prop := ∃ D, w.ownsMap Try.prog 3 aggR b n D ∧ (∀ x z, D.atKey (.int .i64 x) z = balZ z x (f x)) ∧ ∀ x b, f x = some b → lotR x
theorem MapG.made (w : World) : MapG (w.alloc (.map #[] 0)) w.heap.size 0 (fun _ => none) := ⟨_, World.ownsMap_made w _ _ _, fun _ _ => rfl, fun _ _ h => (by cases h)⟩
theorem MapG.kept {w w' : World} {b n : Nat} {f : Int → Option Bal} {row : Option Nat} (h : MapG w b n f) (hg : w.grownBy w' row) (hne : some b ≠ row) : MapG w' b n f := by
  obtain ⟨D, h1, h2⟩ := h
  exact ⟨D, h1.kept hg hne, h2⟩
theorem MapG.below {w w' : World} {b n : Nat} {f : Int → Option Bal} (h : MapG w b n f) (hb : Below w.heap.size w w') : MapG w' b n f := h.kept (grown_of_below hb none) (by simp)
theorem MapG.lt {w : World} {b n : Nat} {f : Int → Option Bal} (h : MapG w b n f) : b < w.heap.size := by
  obtain ⟨D, h1, h2⟩ := h
  exact h1.lt
theorem MapG.inR {w : World} {b n : Nat} {f : Int → Option Bal} (h : MapG w b n f) {x : Int} {c : Bal} (hx : f x = some c) : lotR x := by
  obtain ⟨D, h1, h2⟩ := h
  exact h2.2 x c hx
/-- A map's block is none of cells. -/
theorem MapG.ne {w : World} {b n k : Nat} {f : Int → Option Bal} (h : MapG w b n f) {cs : Array Value} {t : TypeId} {z : Nat × Nat} (hk : w.heap[k]? = some (.cells cs t z)) : b ≠ k := by
  rintro rfl
  obtain ⟨D, ⟨es', cl, h1, _⟩, _⟩ := h
  rw [h1] at hk
  cases hk
theorem MapG.lookup {w : World} {b n : Nat} {f : Int → Option Bal} (h : MapG w b n f) {x : Int} {c : Bal} (hx : f x = some c) : (Instr.lookup 65 (.map (some b)) (.int .i64 x) false).run Try.prog w = .ok (.agg #[.int .i64 x, .int .i64 c.o, .int .i64 c.s, .int .i64 c.p, .int .i64 c.r]) w := by
  have hl := h.inR hx; obtain ⟨D, h1, h2⟩ := h; obtain ⟨v, ps, hr, hv⟩ := h1.lookup keyed3 Try.underlying65 (z := .agg #[.int .i64 0, .int .i64 0, .int .i64 0, .int .i64 0, .int .i64 0]) (by kernel_rfl) (zd := balD 0 noBal) (zp := []) (aggR_V 0 noBal) (Maps.keyOf_int_mk Try.underlying3 hl.i64)
  rw [h2.1, hx] at hv
  obtain ⟨y, rfl⟩ := aggR_shape v _ hv
  rw [aggR_V] at hv
  simp only [Option.some.injEq, Prod.mk.injEq] at hv
  obtain ⟨h3, h4⟩ := balD_inj hv.1
  rw [h3, h4] at hr
  exact hr
theorem MapG.update {w : World} {b n : Nat} {f : Int → Option Bal} (h : MapG w b n f) (hn : n < maxLen) {x : Int} (hx : lotR x) (c : Bal) :
    ∃ w', (Instr.mapUpdate 65 (.map (some b)) (.int .i64 x) (.agg #[.int .i64 x, .int .i64 c.o, .int .i64 c.s, .int .i64 c.p, .int .i64 c.r])).run Try.prog w = .ok () w' ∧ MapG w' b (n + 1) (fun y => if y = x then some c else f y) ∧ w.grownBy w' (some b) := by
  obtain ⟨D, h1, h2⟩ := h; obtain ⟨w', hr, h3, h4⟩ := h1.update keyed3 Try.underlying65 hn (Maps.keyOf_int_mk Try.underlying3 hx.i64) (aggR_V x c)
  refine ⟨w', hr, ⟨_, h3, fun y z => ?_, fun y b' hy => ?_⟩, h4⟩
  rotate_left
  · by_cases hyx : y = x
    · rw [hyx]; exact hx
    · have hy : (if y = x then some c else f y) = some b' := hy
      rw [if_neg hyx] at hy; exact h2.2 y b' hy
  show _ = balZ z y (if y = x then some c else f y)
  by_cases hy : y = x
  · subst hy
    rw [if_pos rfl, Maps.atKey_put_same h1.isMap (by simp [WideAt.IsKeyLit])]
    rfl
  · rw [if_neg hy, Maps.atKey_put_other (by simpa using hy), h2.1]
section
variable {ops : Array Oper} {rest : List Oper} {o : Oper} {a : Act} {Q : Exit → Act → World → Prop}
theorem wp_updateG {w : World} {b n : Nat} {f : Int → Option Bal} (h : MapG w b n f) (hn : n < maxLen) (hg : o.guard = none) (m x v : Operand) (hop : o.op = Op.mapUpdate 65 m x v) (hm : a.eval m = .map (some b)) (y : Int) (hx : a.eval x = .int .i64 y) (hy : lotR y) (c : Bal)
    (hv : a.eval v = .agg #[.int .i64 y, .int .i64 c.o, .int .i64 c.s, .int .i64 c.p, .int .i64 c.r])
    (hK : ∀ w', MapG w' b (n + 1) (fun z => if z = y then some c else f z) → w.grownBy w' (some b) → wpList Try.prog ops Q rest (a.put o.dst undef) w') : wpList Try.prog ops Q (o :: rest) a w := by
  refine wpList_plain hg fun K' hK' => ?_
  obtain ⟨w', hrun, r1, r2⟩ := h.update hn hy c
  unfold Oper.wp
  simp [execOp, hop, hm, hx, hv, hrun, Result.andThen]
  exact hK' _ _ (hK w' r1 r2)
theorem wp_nextG {w : World} {b r n cnt : Nat} {D : DataW Unit} {left : Lit → Bool} {f : Int → Option Bal} (hat : ∀ x z, D.atKey (.int .i64 x) z = balZ z x (f x)) (h : w.ranges Try.prog 3 aggR b r n D left cnt) (hg : o.guard = none) (it : Operand) (hop : o.op = Op.next it false) (hit : a.eval it = .pointer (some ⟨r, 0, none⟩))
    (hDone : (∀ kl, left kl = false) → wpList Try.prog ops Q rest (a.put o.dst (.tuple #[.bool false])) w)
    (hMore : ∀ (x : Int) (c : Int × Bal) (w' : World) (cnt' : Nat), f x ≠ none → left (.int .i64 x) = true → w'.ranges Try.prog 3 aggR b r n D (fun z => left z && !z.sameKey (.int .i64 x)) cnt' → cnt' < cnt → w.grownBy w' (some r) → w'.heap.size = w.heap.size →
      (Instr.entry (.pointer (some ⟨r, 0, none⟩))).run Try.prog w' = .ok (.tuple #[.int .i64 x, balV c.1 c.2]) w' → wpList Try.prog ops Q rest (a.put o.dst (.tuple #[.bool true, .int .i64 x, balV c.1 c.2])) w') :
    wpList Try.prog ops Q (o :: rest) a w := by
  refine wpList_next_ranges (α := Int) (β := Int × Bal) w hg it hop 3 keyed3 aggR (Value.int .i64) (fun c => balV c.1 c.2) ?_ aggR_shape b r n D left cnt hit h (fun _ hl => hDone hl) ?_
  · intro key kl hk
    obtain ⟨x, rfl, _⟩ := Maps.keyOf_int_inv Try.underlying3 hk
    exact ⟨x, rfl⟩
  · intro x c kl y w' cnt' hkey hlk hv hat' hrg hlt hgr hsz hen
    obtain ⟨x', ex, rfl, hwx⟩ := Maps.keyOf_int_inv Try.underlying3 hkey
    cases ex
    refine hMore x c w' cnt' ?_ hlk hrg hlt hgr hsz hen
    intro hfx
    have h1 := hat' (.lit (.bool true)); have h2 := hat' (.lit (.bool false))
    rw [hat, hfx] at h1 h2
    have h3 := h1.trans h2.symm
    simp [balZ] at h3
end
theorem rangesG_cnt {w : World} {b r n cnt : Nat} {D : DataW Unit} {left : Lit → Bool} (h : w.ranges Try.prog 3 aggR b r n D left cnt) : cnt ≤ n := by
  obtain ⟨es, clock, since, seen, c0, _, _, hs, _, _, _, hc, _⟩ := h
  rw [← hc]
  refine Nat.le_trans ?_ hs
  unfold leftOf
  exact Array.size_filter_le
end Go.Proofs.Ytgedkdofhonicaa.G
/- What ledger.Correct answers, in plain words. -/
namespace Go.Proofs.Ytgedkdofhonicaa.G
open Go.RowKit Go.Proofs.YtgedkdofhonicaaW.PrintWords Go.Proofs.YtgedkdofhonicaaW.PrintLast Go.Proofs.YtgedkdofhonicaaW.PrintMore Go.Proofs.Ytgedkdofhonicaa.PA
set_option linter.unusedVariables false
set_option linter.unusedSimpArgs false
def tBal (t : S37) : Bal := ⟨t.f1, t.f2, t.f3, t.f4⟩
/-- The balances that the first i targets ask for. -/
def goalTo (ts : List S37) : Nat → Int → Bal
  | 0 => fun _ => noBal
  | i + 1 => fun y => if y = (rd_T37 ts (i : Int)).f0 then tBal (rd_T37 ts (i : Int)) else goalTo ts i y
def gAll (bs : List S37) : Nat → Int → Option Bal
  | 0 => fun _ => none
  | i + 1 => fun y => if y = (rd_T37 bs (i : Int)).f0 then some noBal else gAll bs i y
def gTs (g : Int → Option Bal) (ts : List S37) : Nat → Int → Option Bal
  | 0 => g
  | i + 1 => fun y => if y = (rd_T37 ts (i : Int)).f0 then some (tBal (rd_T37 ts (i : Int))) else gTs g ts i y
theorem gAll_val {bs : List S37} : ∀ {i : Nat} {x : Int} {c : Bal}, gAll bs i x = some c → c = noBal
  | 0, x, c, h => by cases h
  | i + 1, x, c, h => by
    have h : (if x = (rd_T37 bs (i : Int)).f0 then some noBal else gAll bs i x) = some c := h
    split at h
    · exact (Option.some.inj h).symm
    · exact gAll_val h
theorem gAll_dom {bs : List S37} {x : Int} : ∀ {i : Nat}, gAll bs i x ≠ none ↔ ∃ j : Nat, j < i ∧ (rd_T37 bs (j : Int)).f0 = x
  | 0 => ⟨fun h => absurd rfl h, fun ⟨j, h, _⟩ => absurd h (Nat.not_lt_zero _)⟩
  | i + 1 => by
    show (if x = (rd_T37 bs (i : Int)).f0 then some noBal else gAll bs i x) ≠ none ↔ _
    split
    · rename_i h
      exact ⟨fun _ => ⟨i, Nat.lt_succ_self i, h.symm⟩, fun _ => by simp⟩
    · rename_i h
      rw [gAll_dom]
      exact ⟨fun ⟨j, h1, h2⟩ => ⟨j, by omega, h2⟩, fun ⟨j, h1, h2⟩ => ⟨j, by
        rcases Nat.lt_or_ge j i with h3 | h3
        · exact h3
        · exact absurd (show x = _ by rw [← h2, show j = i by omega]) h, h2⟩⟩
theorem gTs_val {g : Int → Option Bal} {ts : List S37} (hg : ∀ x c, g x = some c → c = noBal) : ∀ {i : Nat} {x : Int} {c : Bal}, gTs g ts i x = some c → c = goalTo ts i x
  | 0, x, c, h => hg x c h
  | i + 1, x, c, h => by
    have h : (if x = (rd_T37 ts (i : Int)).f0 then some (tBal (rd_T37 ts (i : Int))) else gTs g ts i x) = some c := h
    show c = (if x = (rd_T37 ts (i : Int)).f0 then tBal (rd_T37 ts (i : Int)) else goalTo ts i x)
    split at h
    · rename_i hx
      rw [if_pos hx]; exact (Option.some.inj h).symm
    · rename_i hx
      rw [if_neg hx]; exact gTs_val hg h
theorem gTs_dom {g : Int → Option Bal} {ts : List S37} {x : Int} : ∀ {i : Nat}, gTs g ts i x ≠ none ↔ g x ≠ none ∨ ∃ j : Nat, j < i ∧ (rd_T37 ts (j : Int)).f0 = x
  | 0 => ⟨fun h => .inl h, fun h => h.elim id (fun ⟨j, h, _⟩ => absurd h (Nat.not_lt_zero _))⟩
  | i + 1 => by
    show (if x = (rd_T37 ts (i : Int)).f0 then some (tBal (rd_T37 ts (i : Int))) else gTs g ts i x) ≠ none ↔ _
    split
    · rename_i h
      exact ⟨fun _ => .inr ⟨i, Nat.lt_succ_self i, h.symm⟩, fun _ => by simp⟩
    · rename_i h
      rw [gTs_dom]
      refine or_congr Iff.rfl ⟨fun ⟨j, h1, h2⟩ => ⟨j, by omega, h2⟩, fun ⟨j, h1, h2⟩ => ⟨j, ?_, h2⟩⟩
      rcases Nat.lt_or_ge j i with h3 | h3
      · exact h3
      · exact absurd (show x = _ by rw [← h2, show j = i by omega]) h
/-- The first j steps, with their numbers, behind out. -/
def stTo (day cause : Int) (out ss : List S26) : Nat → List S26
  | 0 => out
  | j + 1 => stTo day cause out ss j ++ [⟨((stTo day cause out ss j).length : Int) + 1, day, (rd_T26 ss (j : Int)).f2, (rd_T26 ss (j : Int)).f3, (rd_T26 ss (j : Int)).f4, cause⟩]
def stepsK (bal goal : Int → Bal) (ks : List Int) (i : Nat) : List S26 := stepsB (rd ks (i : Int)) (bal (rd ks (i : Int))) (goal (rd ks (i : Int)))
def corTo (l : List S26) (day cause : Int) (bal goal : Int → Bal) (ks : List Int) : Nat → List S26
  | 0 => l
  | i + 1 => stTo day cause (corTo l day cause bal goal ks i) (stepsK bal goal ks i) (stepsK bal goal ks i).length
def ovrS (ss : List S26) : Nat → Bool
  | 0 => false
  | j + 1 => ovrS ss j || decide (64000000000000 < (rd_T26 ss (j : Int)).f4)
def ovrTo (bal goal : Int → Bal) (ks : List Int) : Nat → Bool
  | 0 => false
  | i + 1 => ovrTo bal goal ks i || ovrS (stepsK bal goal ks i) (stepsK bal goal ks i).length
/-- What Correct answers where ks are the lots in order. -/
def correctK (l : List S26) (day cause : Int) (ts : List S37) (ks : List Int) : List S26 × Int :=
  if (readTo l l.length).1 ≠ 0 then ([], (readTo l l.length).1) else
  if day < 0 ∨ 36524 < day ∨ cause < 0 ∨ 1000000000 < cause then ([], 2) else
  if valT ts ≠ 0 then ([], valT ts) else
  if ovrTo (readTo l l.length).2.1 (goalTo ts ts.length) ks ks.length = true then ([], 16) else
  if 2000 < (corTo l day cause (readTo l l.length).2.1 (goalTo ts ts.length) ks ks.length).length then ([], 8) else
  (corTo l day cause (readTo l l.length).2.1 (goalTo ts ts.length) ks ks.length, 0)
/-- Which lots are looked at: those with a balance, and those of the targets. -/
structure KsOK (bal : Int → Bal) (ts : List S37) (ks : List Int) : Prop where
  up : ks.Pairwise (· < ·)
  has : ∀ x, bal x ≠ noBal → x ∈ ks
  tgt : ∀ j : Nat, j < ts.length → (rd_T37 ts (j : Int)).f0 ∈ ks
theorem stTo_len (day cause : Int) (out ss : List S26) : ∀ j, (stTo day cause out ss j).length = out.length + j
  | 0 => rfl
  | j + 1 => by rw [stTo, List.length_append, List.length_singleton, stTo_len day cause out ss j]; omega
theorem stepsK_len (bal goal : Int → Bal) (ks : List Int) (i : Nat) : (stepsK bal goal ks i).length ≤ 8 := by
  unfold stepsK stepsB
  rw [List.length_append]
  have := fallsTo_len (rd ks (i : Int)) (bal (rd ks (i : Int))) (goal (rd ks (i : Int))) 4; have := risesTo_len (rd ks (i : Int)) (bal (rd ks (i : Int))) (goal (rd ks (i : Int))) 4
  omega
theorem corTo_len (l : List S26) (day cause : Int) (bal goal : Int → Bal) (ks : List Int) : ∀ i, (corTo l day cause bal goal ks i).length ≤ l.length + 8 * i
  | 0 => Nat.le_refl _
  | i + 1 => by
    rw [corTo, stTo_len]
    have := corTo_len l day cause bal goal ks i; have := stepsK_len bal goal ks i
    omega
theorem ovrS_true {ss : List S26} {j : Nat} (h : ovrS ss j = true) : ∀ d, ovrS ss (j + d) = true
  | 0 => h
  | d + 1 => by show (ovrS ss (j + d) || _) = true; rw [ovrS_true h d]; rfl
theorem ovrTo_true {bal goal : Int → Bal} {ks : List Int} {j : Nat} (h : ovrTo bal goal ks j = true) : ∀ d, ovrTo bal goal ks (j + d) = true
  | 0 => h
  | d + 1 => by show (ovrTo bal goal ks (j + d) || _) = true; rw [ovrTo_true h d]; rfl
theorem ovr_found {bal goal : Int → Bal} {ks : List Int} {i j : Nat} (hi : i < ks.length) (hj : j < (stepsK bal goal ks i).length) (h : 64000000000000 < (rd_T26 (stepsK bal goal ks i) (j : Int)).f4) : ovrTo bal goal ks ks.length = true := by
  have h1 : ovrS (stepsK bal goal ks i) (j + 1) = true := by show (_ || _) = true; rw [decide_eq_true h, Bool.or_true]
  have h2 := ovrS_true h1 ((stepsK bal goal ks i).length - (j + 1))
  rw [show j + 1 + ((stepsK bal goal ks i).length - (j + 1)) = (stepsK bal goal ks i).length by omega] at h2
  have h3 : ovrTo bal goal ks (i + 1) = true := by show (_ || _) = true; rw [h2, Bool.or_true]
  have h4 := ovrTo_true h3 (ks.length - (i + 1))
  rwa [show i + 1 + (ks.length - (i + 1)) = ks.length by omega] at h4
theorem okTo_at {ts : List S37} : ∀ {n : Nat}, okTo ts n = true → ∀ {i : Nat}, i < n → okT (rd_T37 ts (i : Int)) = true
  | 0, _, i, h => absurd h (Nat.not_lt_zero _)
  | n + 1, hn, i, h => by
    have hn : (okTo ts n && okT (rd_T37 ts (n : Int))) = true := hn
    rw [Bool.and_eq_true] at hn
    rcases Nat.lt_or_ge i n with h1 | h1
    · exact okTo_at hn.1 h1
    · rw [show i = n by omega]; exact hn.2
structure ValT (ts : List S37) : Prop where
  len : ts.length ≤ 256
  ok : ∀ {i : Nat}, i < ts.length → lotR (rd_T37 ts (i : Int)).f0
theorem valT_zero {ts : List S37} (h : valT ts = 0) : ValT ts := by
  unfold valT at h
  by_cases h1 : 256 < ts.length
  · rw [if_pos h1] at h; exact absurd h (by decide)
  · rw [if_neg h1] at h
    by_cases h2 : okTo ts ts.length = false
    · rw [if_pos h2] at h; exact absurd h (by decide)
    · have h2 : okTo ts ts.length = true := by simpa using h2
      refine ⟨by omega, fun {i} hi => ?_⟩
      have h3 := okTo_at h2 hi
      unfold okT at h3
      rw [Bool.and_eq_true] at h3
      have h4 := of_decide_eq_true h3.1
      exact ⟨h4.1, h4.2⟩
/-- The keys that a range has handed out so far. -/
structure KeysTo (F : Int → Option Bal) (left : Lit → Bool) (xs : List Int) : Prop where
  each : ∀ x, x ∈ xs → F x ≠ none ∧ left (.int .i64 x) = false
  any : ∀ x, F x ≠ none → left (.int .i64 x) = true ∨ x ∈ xs
  nd : xs.Nodup
structure Keys (F : Int → Option Bal) (xs : List Int) : Prop where
  mem : ∀ x, x ∈ xs ↔ F x ≠ none
  up : xs.Pairwise (· < ·)
theorem KeysTo.start {F : Int → Option Bal} {D : DataW Unit} (hat : ∀ x z, D.atKey (.int .i64 x) z = balZ z x (F x)) : KeysTo F (Maps.has D) [] :=
  ⟨fun x hx => (by cases hx), fun x hx => .inl (by
    cases hfx : F x with
    | none => exact absurd hfx hx
    | some c => exact Maps.has_true_of_atKey (y := balD x c) (fun z => by rw [hat, hfx]; rfl)), List.nodup_nil⟩
theorem KeysTo.step {F : Int → Option Bal} {left : Lit → Bool} {xs : List Int} (h : KeysTo F left xs) {x : Int} (hx : F x ≠ none) (hl : left (.int .i64 x) = true) : KeysTo F (fun z => left z && !z.sameKey (.int .i64 x)) (xs ++ [x]) := by
  refine ⟨fun y hy => ?_, fun y hy => ?_, ?_⟩
  · rcases List.mem_append.1 hy with hy | hy
    · exact ⟨(h.each y hy).1, by show (left _ && _) = false; rw [(h.each y hy).2]; rfl⟩
    · rw [List.mem_singleton.1 hy]
      exact ⟨hx, by show (left _ && _) = false; rw [hl]; simp [Lit.sameKey]⟩
  · rcases h.any y hy with h2 | h2
    · by_cases hxy : y = x
      · exact .inr (List.mem_append_right _ (List.mem_singleton.2 hxy))
      · refine .inl ?_
        show (left _ && !_) = true
        rw [h2]
        simp [Lit.sameKey, hxy]
    · exact .inr (List.mem_append_left _ h2)
  · rw [List.nodup_append]
    refine ⟨h.nd, by simp, fun a ha b hb => ?_⟩
    rintro rfl
    rw [List.mem_singleton.1 hb] at ha
    have := (h.each x ha).2
    rw [hl] at this
    cases this
theorem KeysTo.done {F : Int → Option Bal} {left : Lit → Bool} {xs : List Int} (h : KeysTo F left xs) (hl : ∀ kl, left kl = false) : Keys F (xs.mergeSort fun x y => decide (x ≤ y)) := by
  have hp : (xs.mergeSort fun x y => decide (x ≤ y)).Perm xs := List.mergeSort_perm _ _
  have hs : (xs.mergeSort fun x y => decide (x ≤ y)).Pairwise (fun x y => decide (x ≤ y) = true) :=
    List.pairwise_mergeSort (fun a b c h1 h2 => by simp at *; omega) (fun a b => by simp; omega) xs
  have hnd : (xs.mergeSort fun x y => decide (x ≤ y)).Pairwise (· ≠ ·) := hp.nodup_iff.2 h.nd
  refine ⟨fun x => ?_, ?_⟩
  · rw [hp.mem_iff]
    refine ⟨fun hx => (h.each x hx).1, fun hx => ?_⟩
    rcases h.any x hx with h1 | h1
    · rw [hl] at h1; cases h1
    · exact h1
  · exact (hs.and hnd).imp (fun {a b} hab => by have := of_decide_eq_true hab.1; have := hab.2; omega)
theorem Keys.ok {F : Int → Option Bal} {ks : List Int} (h : Keys F ks) {f : Int → Option Nat} {bal : Int → Bal} {bs ts : List S37} (hF : F = gTs (gAll bs bs.length) ts ts.length) (ha : AllOf f bal bs) (hn : ∀ x, f x = none → bal x = noBal) : KsOK bal ts ks := by
  refine ⟨h.up, fun x hx => ?_, fun j hj => ?_⟩
  · rw [h.mem, hF, gTs_dom]
    refine .inl (gAll_dom.2 ?_)
    obtain ⟨b, hb, hbx⟩ := ha.any x (fun hf => hx (hn x hf)); obtain ⟨j, hj, rfl⟩ := List.mem_iff_getElem.1 hb
    exact ⟨j, hj, by rw [← hbx]; unfold rd_T37; simp [hj]⟩
  · rw [h.mem, hF, gTs_dom]
    exact .inr ⟨j, hj, rfl⟩
/-- A row of the call's own whose elements have no rows inside stays while another block is written. -/
theorem R_kept {α : Type} {d : Kd α} (hd : ∀ {w1 w2 : World} {b : Nat} {ok1 ok2 : Nat → Prop} {x : α} {cs : List Value}, d.M w1 b ok1 x cs → d.M w2 b ok2 x cs) {w w1 : World} {e base : Nat} {ok : Nat → Prop} {v : Value} {xs : List α} {row : Option Nat}
    (h : Kd.R d e w base ok v xs) (hg : w.grownBy w1 row) (hne : v.ownBlock = none ∨ v.ownBlock ≠ row) : Kd.R d e w1 base ok v xs := by
  obtain ⟨h0, inner, ho, hr⟩ := h
  exact ⟨h0, inner, ho.kept hg hne, hr.imp_ (fun _ _ hm => hd hm)⟩
theorem M3_any {w1 w2 : World} {b : Nat} {ok1 ok2 : Nat → Prop} {x : Int} {cs : List Value} (h : (Kd.int .i64).M w1 b ok1 x cs) : (Kd.int .i64).M w2 b ok2 x cs := h
theorem MapG.apart {α : Type} {d : Kd α} {w : World} {b n e base : Nat} {f : Int → Option Bal} {ok : Nat → Prop} {v : Value} {xs : List α} (h : MapG w b n f) (hR : Kd.R d e w base ok v xs) : some b ≠ v.ownBlock := fun he => by
  obtain ⟨inner, ho⟩ := Kd.R_own hR; obtain ⟨cells, hc⟩ := own_typed ho b he.symm
  exact h.ne hc rfl
theorem ranges_apart {α : Type} {d : Kd α} {w : World} {b r n cnt e base : Nat} {D : DataW Unit} {left : Lit → Bool} {ok : Nat → Prop} {v : Value} {xs : List α} (h : w.ranges Try.prog 3 aggR b r n D left cnt) (hR : Kd.R d e w base ok v xs) : some b ≠ v.ownBlock ∧ some r ≠ v.ownBlock := by
  obtain ⟨inner, ho⟩ := Kd.R_own hR; obtain ⟨es, clock, since, seen, c0, hb, _, _, _, hr, _⟩ := h
  refine ⟨fun he => ?_, fun he => ?_⟩
  · obtain ⟨cells, hc⟩ := own_typed ho b he.symm
    rw [hb] at hc; cases hc
  · obtain ⟨cells, hc⟩ := own_typed ho r he.symm
    rw [hr] at hc; cases hc
theorem own_or {v : Value} {k : Nat} (h : some k ≠ v.ownBlock) : v.ownBlock = none ∨ v.ownBlock ≠ some k := .inr (fun e => h e.symm)
theorem two_steps {wr w6 : World} {b : Nat} {O : Obj} {u v : Value} {out ss : List S26} (HO : Kd.R k26 26 wr b (fun _ => True) u out) (hb1 : b ≤ wr.heap.size) (hs : Kd.R k26 26 w6 (wr.alloc O).heap.size (fun _ => True) v ss) (hb : Below (wr.alloc O).heap.size (wr.alloc O) w6) :
    Two w6 b u v out ss ∧ Below wr.heap.size wr w6 := by
  have h1 := below_alloc (Below.refl wr.heap.size wr) O; have h2 : Below wr.heap.size wr w6 := h1.trans (hb.mono h1.size)
  refine ⟨⟨Kd.R_below HO h2, Kd.R_lower hs (Nat.le_trans hb1 h1.size), fun k hk hv => ?_⟩, h2⟩
  obtain ⟨i1, o1⟩ := Kd.R_own HO; obtain ⟨i2, o2⟩ := Kd.R_own hs; have a := own_lt o1 k hk; have c := own_base o2 k hv; have d := h1.size
  omega
theorem own_types {α β : Type} {d : Kd α} {d' : Kd β} {w : World} {e e' b b' : Nat} {ok ok' : Nat → Prop} {v u : Value} {xs : List α} {ys : List β} (he : e ≠ e') (h : Kd.R d e w b ok v xs) (h' : Kd.R d' e' w b' ok' u ys) : v.ownBlock = none ∨ v.ownBlock ≠ u.ownBlock := by
  cases hv : v.ownBlock with
  | none => exact .inl rfl
  | some k =>
    refine .inr (fun hu => ?_)
    obtain ⟨i1, o1⟩ := Kd.R_own h; obtain ⟨i2, o2⟩ := Kd.R_own h'; obtain ⟨c1, e1⟩ := own_typed o1 k hv; obtain ⟨c2, e2⟩ := own_typed o2 k hu.symm
    rw [e1] at e2
    injection e2 with e2
    injection e2 with _ e2
    exact he e2
theorem correctK_past {l : List S26} {day cause : Int} {ts : List S37} {ks : List Int} {q2 : Int → Bal} {q3 : Int → Bool} (hq : readTo l l.length = (0, q2, q3)) (hb : ¬ (day < 0 ∨ 36524 < day ∨ cause < 0 ∨ 1000000000 < cause)) (hv : valT ts = 0) :
    correctK l day cause ts ks = if ovrTo q2 (goalTo ts ts.length) ks ks.length = true then ([], 16) else if 2000 < (corTo l day cause q2 (goalTo ts ts.length) ks ks.length).length then ([], 8) else (corTo l day cause q2 (goalTo ts ts.length) ks ks.length, 0) := by
  rw [correctK, hq, if_neg (by simp), if_neg hb, if_neg (by rw [hv]; simp)]
theorem own_below {α : Type} {d : Kd α} {W w w1 : World} {e : Nat} {ok : Nat → Prop} {v : Value} {xs : List α} (hb : Below W.heap.size W w) (h : Kd.R d e w W.heap.size ok v xs) (hg : w.grownBy w1 v.ownBlock) : Below W.heap.size W w1 := by
  obtain ⟨inner, ho⟩ := Kd.R_own h
  exact pw_below_grown hb v.ownBlock hb.size hg (fun k hk => own_base ho k hk)
theorem sort33_any {w : World} {base c : Nat} {A : Option Addr} {ok : Nat → Prop} {xs : List Int} (hd : xs.length < 4611686018427387904) (h : Kd.R (Kd.int .i64) 3 w base ok (.slice A xs.length c) xs) :
    Calls Try.prog 33 #[.slice A xs.length c] w fun e w' => e = .returned (.tuple #[]) ∧ Kd.R (Kd.int .i64) 3 w' base ok (.slice A xs.length c) (xs.mergeSort fun x y => decide (x ≤ y)) ∧ w.grownBy w' (Value.slice A xs.length c).ownBlock := by
  have ho := Kd.own_of_R h
  rcases ho.2 with ⟨h0, h1⟩ | ⟨g, cap, cur, hv, _⟩
  · obtain rfl : xs = [] := List.eq_nil_of_length_eq_zero h1
    injection h0 with e1 e2 e3
    subst e1 e3
    refine (sort33_none w).mono ?_
    rintro e w' ⟨he, rfl⟩
    exact ⟨he, by simpa using h, ⟨rfl, rfl, rfl, Nat.le_refl _, fun _ _ _ => rfl⟩⟩
  · injection hv with e1 e2 e3
    subst e1
    exact sort33 hd h
end Go.Proofs.Ytgedkdofhonicaa.G
/- The contract by hand of ledger.Correct. -/
namespace Go.Proofs.Ytgedkdofhonicaa.G
open Go.RowKit Go.Proofs.YtgedkdofhonicaaW.PrintWords Go.Proofs.YtgedkdofhonicaaW.PrintLast Go.Proofs.YtgedkdofhonicaaW.PrintMore Go.Proofs.Ytgedkdofhonicaa.PA
set_option linter.unusedVariables false
set_option linter.unusedSimpArgs false
def dayBad (day cause : Int) : Prop := day < 0 ∨ 36524 < day ∨ cause < 0 ∨ 1000000000 < cause
/-- Correct comes as far as looking at the lots. -/
structure Reached (l : List S26) (day cause : Int) (ts : List S37) : Prop where
  r : (readTo l l.length).1 = 0
  d : ¬ dayBad day cause
  t : valT ts = 0
set_option maxHeartbeats 8000000 in
set_option maxRecDepth 100000 in
theorem correct_calls {W : World} {A0 : Option Addr} {c0 : Nat} {l : List S26} (hr : Kd.C k26 W A0 l.length l) (hc : l.length ≤ c0) (hw : wfL l) {A3 : Option Addr} {c3 : Nat} {ts : List S37} (hr3 : Kd.C k37 W A3 ts.length ts) (hc3 : ts.length ≤ c3) (day cause : Int) :
    Calls Try.prog 18 #[.slice A0 l.length c0, .int .i64 day, .int .i64 cause, .slice A3 ts.length c3] W fun e w' => ∃ v ks, e = .returned (.tuple #[v, .int .i64 (correctK l day cause ts ks).2]) ∧ Kd.R k26 26 w' W.heap.size (fun _ => True) v (correctK l day cause ts ks).1 ∧ Below W.heap.size W w' ∧ (Reached l day cause ts → KsOK (readTo l l.length).2.1 ts ks) := by
  have hu26 := Try.underlying26; have hu37 := Try.underlying37; have hu62 := Try.underlying62; have hu63 := Try.underlying63; have hu65 := Try.underlying65
  have mixed : Try.prog.follows Departure.mixedOrders = true := by kernel_rfl
  have hmm := @run_makeMap Try.prog; obtain ⟨q1, q2, q3, hq⟩ : ∃ a b c, readTo l l.length = (a, b, c) := ⟨_, _, _, rfl⟩; have HR := Aside0.mk hr; have HC := Aside0.mk hc; have HW := Aside0.mk hw; have HR3 := Aside0.mk hr3; have HC3 := Aside0.mk hc3; have HQ := Aside0.mk hq; clear hr hc hw hr3 hc3 hq
  by_cases h1 : q1 = 0
  case neg =>
    have b1 : (q1 != 0) = true := bne_iff_ne.mpr h1; have N1 := Aside0.mk h1; clear h1
    go_enter Try.func18, Try.ntmps18
    go_wp2_with (first
      | ((with_reducible refine gate_callee (f := 29) rfl ?_); refine goesL_ (some 28) rfl rfl Try.func29 (by kernel_rfl) rfl #[.slice A0 l.length c0] rfl (by (try simp only [List.map_toArray, List.map_cons, List.map_nil]); first | done | rfl) ?_; refine (read_calls HR.out HC.out HW.out.1 HW.out.2 q1 q2 q3 HQ.out).mono ?_; rintro r w2 ⟨hb, hx⟩; have hp : r = .returned (.tuple #[.pointer none, .int .i64 q1]) := (hx.elim (fun ⟨h0, _⟩ => absurd h0 N1.out) (fun ⟨h0, hr⟩ => hr)); subst hp; refine ⟨_, rfl, ?_⟩; have HB2 := Aside0.mk hb; clear hb hx))
    go_ret2
    have e : correctK l day cause ts [] = ([], q1) := by rw [correctK, HQ.out, if_pos N1.out]
    exact ⟨_, [], by rw [e]; rfl, by rw [e]; exact Kd.R_nil _ _ _ _ _, HB2.out, fun h => absurd (by have := h.r; rw [HQ.out] at this; exact this) N1.out⟩
  case pos =>
    subst h1
    by_cases c1 : day < 0
    case pos =>
      have hbad : dayBad day cause := .inl c1; have d1 : decide (day < 0) = true := decide_eq_true c1; have NB := Aside0.mk hbad; clear hbad c1
      go_enter Try.func18, Try.ntmps18
      go_wp2_with (first
        | ((with_reducible refine gate_callee (f := 29) rfl ?_); refine goesL_ (some 28) rfl rfl Try.func29 (by kernel_rfl) rfl #[.slice A0 l.length c0] rfl (by (try simp only [List.map_toArray, List.map_cons, List.map_nil]); first | done | rfl) ?_; refine (read_calls HR.out HC.out HW.out.1 HW.out.2 0 q2 q3 HQ.out).mono ?_; rintro r w1 ⟨hb, hx⟩; obtain ⟨g, m1, m2, n, f, A, c, rfl, hn, hl2, hbk⟩ := hx.resolve_right (fun h => h.1 rfl) |>.2; refine ⟨_, rfl, ?_⟩; have HB1 := Aside0.mk hb; have HK1 := Aside0.mk hbk; have HN1 := Aside0.mk hn; have HL1 := Aside0.mk hl2; clear hb hx hn hl2 hbk))
      go_ret2
      have e : correctK l day cause ts [] = ([], 2) := by rw [correctK, HQ.out, if_neg (by simp)]; exact if_pos NB.out
      exact ⟨_, [], by rw [e]; rfl, by rw [e]; exact Kd.R_nil _ _ _ _ _, HB1.out, fun h => absurd NB.out h.d⟩
    by_cases c2 : 36524 < day
    case pos =>
      have hbad : dayBad day cause := .inr (.inl c2); have d1 : decide (day < 0) = false := decide_eq_false c1; have d2 : decide (36524 < day) = true := decide_eq_true c2; have NB := Aside0.mk hbad; clear hbad c1 c2
      go_enter Try.func18, Try.ntmps18
      go_wp2_with (first
        | ((with_reducible refine gate_callee (f := 29) rfl ?_); refine goesL_ (some 28) rfl rfl Try.func29 (by kernel_rfl) rfl #[.slice A0 l.length c0] rfl (by (try simp only [List.map_toArray, List.map_cons, List.map_nil]); first | done | rfl) ?_; refine (read_calls HR.out HC.out HW.out.1 HW.out.2 0 q2 q3 HQ.out).mono ?_; rintro r w1 ⟨hb, hx⟩; obtain ⟨g, m1, m2, n, f, A, c, rfl, hn, hl2, hbk⟩ := hx.resolve_right (fun h => h.1 rfl) |>.2; refine ⟨_, rfl, ?_⟩; have HB1 := Aside0.mk hb; have HK1 := Aside0.mk hbk; have HN1 := Aside0.mk hn; have HL1 := Aside0.mk hl2; clear hb hx hn hl2 hbk))
      go_ret2
      have e : correctK l day cause ts [] = ([], 2) := by rw [correctK, HQ.out, if_neg (by simp)]; exact if_pos NB.out
      exact ⟨_, [], by rw [e]; rfl, by rw [e]; exact Kd.R_nil _ _ _ _ _, HB1.out, fun h => absurd NB.out h.d⟩
    by_cases c3 : cause < 0
    case pos =>
      have hbad : dayBad day cause := .inr (.inr (.inl c3)); have d1 : decide (day < 0) = false := decide_eq_false c1; have d2 : decide (36524 < day) = false := decide_eq_false c2; have d3 : decide (cause < 0) = true := decide_eq_true c3; have NB := Aside0.mk hbad; clear hbad c1 c2 c3
      go_enter Try.func18, Try.ntmps18
      go_wp2_with (first
        | ((with_reducible refine gate_callee (f := 29) rfl ?_); refine goesL_ (some 28) rfl rfl Try.func29 (by kernel_rfl) rfl #[.slice A0 l.length c0] rfl (by (try simp only [List.map_toArray, List.map_cons, List.map_nil]); first | done | rfl) ?_; refine (read_calls HR.out HC.out HW.out.1 HW.out.2 0 q2 q3 HQ.out).mono ?_; rintro r w1 ⟨hb, hx⟩; obtain ⟨g, m1, m2, n, f, A, c, rfl, hn, hl2, hbk⟩ := hx.resolve_right (fun h => h.1 rfl) |>.2; refine ⟨_, rfl, ?_⟩; have HB1 := Aside0.mk hb; have HK1 := Aside0.mk hbk; have HN1 := Aside0.mk hn; have HL1 := Aside0.mk hl2; clear hb hx hn hl2 hbk))
      go_ret2
      have e : correctK l day cause ts [] = ([], 2) := by rw [correctK, HQ.out, if_neg (by simp)]; exact if_pos NB.out
      exact ⟨_, [], by rw [e]; rfl, by rw [e]; exact Kd.R_nil _ _ _ _ _, HB1.out, fun h => absurd NB.out h.d⟩
    by_cases c4 : 1000000000 < cause
    case pos =>
      have hbad : dayBad day cause := .inr (.inr (.inr (c4))); have d1 : decide (day < 0) = false := decide_eq_false c1; have d2 : decide (36524 < day) = false := decide_eq_false c2; have d3 : decide (cause < 0) = false := decide_eq_false c3; have d4 : decide (1000000000 < cause) = true := decide_eq_true c4; have NB := Aside0.mk hbad; clear hbad c1 c2 c3 c4
      go_enter Try.func18, Try.ntmps18
      go_wp2_with (first
        | ((with_reducible refine gate_callee (f := 29) rfl ?_); refine goesL_ (some 28) rfl rfl Try.func29 (by kernel_rfl) rfl #[.slice A0 l.length c0] rfl (by (try simp only [List.map_toArray, List.map_cons, List.map_nil]); first | done | rfl) ?_; refine (read_calls HR.out HC.out HW.out.1 HW.out.2 0 q2 q3 HQ.out).mono ?_; rintro r w1 ⟨hb, hx⟩; obtain ⟨g, m1, m2, n, f, A, c, rfl, hn, hl2, hbk⟩ := hx.resolve_right (fun h => h.1 rfl) |>.2; refine ⟨_, rfl, ?_⟩; have HB1 := Aside0.mk hb; have HK1 := Aside0.mk hbk; have HN1 := Aside0.mk hn; have HL1 := Aside0.mk hl2; clear hb hx hn hl2 hbk))
      go_ret2
      have e : correctK l day cause ts [] = ([], 2) := by rw [correctK, HQ.out, if_neg (by simp)]; exact if_pos NB.out
      exact ⟨_, [], by rw [e]; rfl, by rw [e]; exact Kd.R_nil _ _ _ _ _, HB1.out, fun h => absurd NB.out h.d⟩
    have hbad : ¬ dayBad day cause := fun h => by rcases h with h | h | h | h; exact c1 h; exact c2 h; exact c3 h; exact c4 h
    have d1 : decide (day < 0) = false := decide_eq_false c1; have d2 : decide (36524 < day) = false := decide_eq_false c2; have d3 : decide (cause < 0) = false := decide_eq_false c3; have d4 : decide (1000000000 < cause) = false := decide_eq_false c4; have NB := Aside0.mk hbad; clear hbad c1 c2 c3 c4; obtain ⟨vt, hvt⟩ : ∃ vt, valT ts = vt := ⟨_, rfl⟩; have HV := Aside0.mk hvt; clear hvt
    by_cases hv : vt = 0
    case neg =>
      have b1 : (vt != 0) = true := bne_iff_ne.mpr hv; have NV := Aside0.mk hv; clear hv
      go_enter Try.func18, Try.ntmps18
      go_wp2_with (first
        | ((with_reducible refine gate_callee (f := 29) rfl ?_); refine goesL_ (some 28) rfl rfl Try.func29 (by kernel_rfl) rfl #[.slice A0 l.length c0] rfl (by (try simp only [List.map_toArray, List.map_cons, List.map_nil]); first | done | rfl) ?_; refine (read_calls HR.out HC.out HW.out.1 HW.out.2 0 q2 q3 HQ.out).mono ?_; rintro r w1 ⟨hb, hx⟩; obtain ⟨g, m1, m2, n, f, A, c, rfl, hn, hl2, hbk⟩ := hx.resolve_right (fun h => h.1 rfl) |>.2; refine ⟨_, rfl, ?_⟩; have HB1 := Aside0.mk hb; have HK1 := Aside0.mk hbk; have HN1 := Aside0.mk hn; have HL1 := Aside0.mk hl2; clear hb hx hn hl2 hbk)
        | ((with_reducible refine gate_callee (f := 31) rfl ?_); refine goesL_ (some 49) rfl rfl Try.func31 (by kernel_rfl) rfl #[.slice A3 ts.length c3] rfl (by (try simp only [List.map_toArray, List.map_cons, List.map_nil]); first | done | rfl) ?_; refine (validTargets_calls (Kd.C_below HR3.out HB1.out) HC3.out).mono ?_; rw [HV.out]; rintro _ w2 ⟨rfl, hb⟩; refine ⟨_, rfl, ?_⟩; have HB2 := Aside0.mk hb; clear hb))
      go_ret2
      have e : correctK l day cause ts [] = ([], vt) := by rw [correctK, HQ.out, if_neg (by simp)]; exact (if_neg (show ¬ (day < 0 ∨ 36524 < day ∨ cause < 0 ∨ 1000000000 < cause) from NB.out)).trans ((if_pos (by rw [HV.out]; exact NV.out)).trans (by rw [HV.out]))
      exact ⟨_, [], by rw [e]; rfl, by rw [e]; exact Kd.R_nil _ _ _ _ _, HB1.out.trans (HB2.out.mono HB1.out.size), fun h => absurd (by have := h.t; rw [HV.out] at this; exact this) NV.out⟩
    case pos =>
      subst hv; have HV0 := Aside0.mk HV.out
      go_enter Try.func18, Try.ntmps18
      go_wp2_with (first
        | ((with_reducible refine gate_callee (f := 29) rfl ?_); refine goesL_ (some 28) rfl rfl Try.func29 (by kernel_rfl) rfl #[.slice A0 l.length c0] rfl (by (try simp only [List.map_toArray, List.map_cons, List.map_nil]); first | done | rfl) ?_; refine (read_calls HR.out HC.out HW.out.1 HW.out.2 0 q2 q3 HQ.out).mono ?_; rintro r w1 ⟨hb, hx⟩; obtain ⟨g, m1, m2, n, f, A, c, rfl, hn, hl2, hbk⟩ := hx.resolve_right (fun h => h.1 rfl) |>.2; refine ⟨_, rfl, ?_⟩; have HB1 := Aside0.mk hb; have HK1 := Aside0.mk hbk; have HN1 := Aside0.mk hn; have HL1 := Aside0.mk hl2; clear hb hx hn hl2 hbk)
        | ((with_reducible refine gate_callee (f := 31) rfl ?_); refine goesL_ (some 49) rfl rfl Try.func31 (by kernel_rfl) rfl #[.slice A3 ts.length c3] rfl (by (try simp only [List.map_toArray, List.map_cons, List.map_nil]); first | done | rfl) ?_; refine (validTargets_calls (Kd.C_below HR3.out HB1.out) HC3.out).mono ?_; rw [HV.out]; rintro _ w2 ⟨rfl, hb⟩; refine ⟨_, rfl, ?_⟩; have HB2 := Aside0.mk hb; clear hb)
        | ((with_reducible refine gate_callee (f := 32) rfl ?_); refine goesL_ (some 55) rfl rfl Try.func32 (by kernel_rfl) rfl #[.pointer (some ⟨g, 0, none⟩)] rfl (by (try simp only [List.map_toArray, List.map_cons, List.map_nil]); first | done | rfl) ?_; refine (all_calls ((HK1.out.below HB2.out).below (below_alloc (Below.refl w2.heap.size w2) (.map #[] 0))) (by have := HN1.out; have := HL1.out; omega)).mono ?_; rintro _ w3 ⟨v55, bs, rfl, hv, hb, ha, hl⟩; obtain ⟨A55, c55, e55⟩ := Kd.R_slice hv; subst e55; refine ⟨_, rfl, ?_⟩; have HV3 := Aside0.mk hv; have HB3 := Aside0.mk hb; have HA3 := Aside0.mk ha; have HL3 := Aside0.mk hl; clear hv hb ha hl))
      have hb12 : Below w1.heap.size w1 (w2.alloc (.map #[] 0)) := HB2.out.trans ((below_alloc (Below.refl w2.heap.size w2) (.map #[] 0)).mono HB2.out.size); have hgm : w1.heap.size ≤ w2.heap.size := HB2.out.size; have HG3 := Aside0.mk ((MapG.made w2).below HB3.out); have hsz : (w2.alloc (.map #[] 0)).heap.size = w2.heap.size + 1 := Array.size_push _; have hv3 : Kd.R k37 37 w3 w1.heap.size (fun k => k ≠ w2.heap.size) (.slice A55 bs.length c55) bs := Kd.R_lower (Kd.R_mono (Kd.R_bound HV3.out) (fun k hk => by have := hk.2.1; omega)) (by omega); have HV4 := Aside0.mk hv3; have HB13 := Aside0.mk (hb12.trans (HB3.out.mono hb12.size)); have HGM := Aside0.mk hgm; clear hb12 hgm hsz hv3 HB2 HB3 HV3 d1 d2 d3 d4
      generalize w2.heap.size = gm at HG3 HV4 HGM ⊢
      go_loopg [57] (bs.length + 1) (fun kx v57 wr => ∃ i n' : Nat, v57 = .int .i64 i ∧ i + kx = bs.length + 1 ∧ i ≤ bs.length ∧ Aside0 (n' ≤ i) ∧ Aside0 (MapG wr gm n' (gAll bs i)) ∧ Aside0 (Kd.R k37 37 wr w1.heap.size (fun k => k ≠ gm) (.slice A55 bs.length c55) bs) ∧ Aside0 (Below w1.heap.size w1 wr))
      case atStart => exact ⟨0, 0, rfl, by omega, Nat.zero_le _, ⟨Nat.le_refl _⟩, HG3, HV4, HB13⟩
      case round =>
        clear HG3 HV4 HB13; obtain ⟨i, n', rfl, hik, hil, HN', HG, HV, HB⟩ := hrel
        by_cases hlt : i < bs.length
        · obtain ⟨k1, rfl⟩ : ∃ k1, gk = k1 + 1 := ⟨gk - 1, by omega⟩
          obtain ⟨ad, eA, z0, z1, z2, z3, z4⟩ := at_T37 (Kd.R_reads' HV.out).2.2 (i : Int) (by omega) (by omega); subst eA
          rw [Int.toNat_natCast] at z0 z1 z2 z3 z4
          have p0 := eq_true (show (0 : Int) ≤ (i : Int) by omega); have q0 := eq_true (show (i : Int) < (bs.length : Int) by omega)
          have hlen : bs.length ≤ 4000 := by have := HN1.out; have := HL1.out; have := HL3.out; omega
          have hw : wrap64 ((i : Int) + 1) = ((i + 1 : Nat) : Int) := by unfold wrap64; omega
          have hmem : rd_T37 bs (i : Int) ∈ bs := by unfold rd_T37; simp [hlt]
          have hlot : lotR (rd_T37 bs (i : Int)).f0 := by
            have h := (HA3.out.each _ hmem).1
            cases hf : f (rd_T37 bs (i : Int)).f0 with
            | none => exact absurd hf h
            | some b => exact HK1.out.lots.lotR hf
          have hn : n' < maxLen := by have := HN'.out; unfold maxLen; omega
          have HI := Aside0.mk (And.intro hik (And.intro hil hlt)); have HLT := Aside0.mk hlot; have HNN := Aside0.mk hn; clear hik hil hlt hlen hmem hlot hn
          go_wp2_with (first
            | (at_mapUpdate; refine wp_updateG (HG.out.below (below_alloc (Below.refl wr.heap.size wr) _)) HNN.out rfl _ _ _ rfl rfl (rd_T37 bs (i : Int)).f0 rfl HLT.out noBal rfl ?_; intro w5 hm hg; have HM5 := Aside0.mk hm; have HG5 := Aside0.mk hg; clear hm hg))
          go_roundg k1
          case measure => have := HI.out; omega
          case rel =>
            have hh := HI.out; have hb5 : Below w1.heap.size w1 (wr.alloc (.cells #[.int .i64 (rd_T37 bs (i : Int)).f0, .int .i64 (rd_T37 bs (i : Int)).f1, .int .i64 (rd_T37 bs (i : Int)).f2, .int .i64 (rd_T37 bs (i : Int)).f3, .int .i64 (rd_T37 bs (i : Int)).f4] 37)) := HB.out.trans ((below_alloc (Below.refl wr.heap.size wr) _).mono HB.out.size)
            refine ⟨i + 1, n' + 1, by rw [hw], by omega, by omega, ⟨by have := HN'.out; omega⟩, HM5, ⟨?_⟩, ⟨pw_below_grown hb5 (some gm) hb5.size HG5.out (fun k hk => by injection hk with hk; rw [← hk]; exact HGM.out)⟩⟩
            exact Kd.R_grown (Kd.R_below HV.out (below_alloc (Below.refl wr.heap.size wr) _)) HG5.out (fun k hk he => hk (by injection he))
        · have hie : i = bs.length := by omega
          subst hie; have hvt := valT_zero HV0.out; have HVT := Aside0.mk hvt; have hNb : n' ≤ bs.length := HN'.out; have HNB := Aside0.mk hNb; have HIT := Aside0.mk (show bs.length ≤ 4000 by have := HN1.out; have := HL1.out; have := HL3.out; omega); clear hvt hlt hil hik hNb HN' HV
          go_wp2
          go_loopg [70] (ts.length + 1) (fun kx v70 wr => ∃ i n' : Nat, v70 = .int .i64 i ∧ i + kx = ts.length + 1 ∧ i ≤ ts.length ∧ Aside0 (n' ≤ bs.length + i) ∧ Aside0 (MapG wr gm n' (gTs (gAll bs bs.length) ts i)) ∧ Aside0 (Below w1.heap.size w1 wr))
          case atStart => exact ⟨0, n', rfl, by omega, Nat.zero_le _, ⟨by have := HNB.out; omega⟩, HG, HB⟩
          case round =>
            clear HG HB HNB; obtain ⟨i, n', rfl, hik, hil, HN', HG, HB⟩ := hrel
            by_cases hlt : i < ts.length
            · obtain ⟨k1, rfl⟩ : ∃ k1, gk = k1 + 1 := ⟨gk - 1, by omega⟩
              obtain ⟨ad, eA, z0, z1, z2, z3, z4⟩ := at_T37 HR3.out (i : Int) (by omega) (by omega); subst eA; have HBW := HB1.out.trans (HB.out.mono HB1.out.size); replace z0 := (HBW.cell (World.block_lt_of_cell? W _ z0)).trans z0; replace z1 := (HBW.cell (World.block_lt_of_cell? W _ z1)).trans z1; replace z2 := (HBW.cell (World.block_lt_of_cell? W _ z2)).trans z2; replace z3 := (HBW.cell (World.block_lt_of_cell? W _ z3)).trans z3; replace z4 := (HBW.cell (World.block_lt_of_cell? W _ z4)).trans z4
              rw [Int.toNat_natCast] at z0 z1 z2 z3 z4
              have p0 := eq_true (show (0 : Int) ≤ (i : Int) by omega); have q0 := eq_true (show (i : Int) < (ts.length : Int) by omega)
              have hw : wrap64 ((i : Int) + 1) = ((i + 1 : Nat) : Int) := by have := HVT.out.len; unfold wrap64; omega
              have hlot : lotR (rd_T37 ts (i : Int)).f0 := HVT.out.ok hlt
              have hn : n' < maxLen := by have := HN'.out; have := HVT.out.len; have := HIT.out; unfold maxLen; omega
              have HI := Aside0.mk (And.intro hik (And.intro hil hlt)); have HLT := Aside0.mk hlot; have HNN := Aside0.mk hn; clear hik hil hlt hlot hn HBW
              go_wp2_with (first
                | (at_mapUpdate; refine wp_updateG (HG.out.below (below_alloc (Below.refl wr.heap.size wr) _)) HNN.out rfl _ _ _ rfl rfl (rd_T37 ts (i : Int)).f0 rfl HLT.out (tBal (rd_T37 ts (i : Int))) rfl ?_; intro w5 hm hg; have HM5 := Aside0.mk hm; have HG5 := Aside0.mk hg; clear hm hg))
              go_roundg k1
              case measure => have := HI.out; omega
              case rel =>
                have hh := HI.out; have hb5 : Below w1.heap.size w1 (wr.alloc (.cells #[.int .i64 (rd_T37 ts (i : Int)).f0, .int .i64 (rd_T37 ts (i : Int)).f1, .int .i64 (rd_T37 ts (i : Int)).f2, .int .i64 (rd_T37 ts (i : Int)).f3, .int .i64 (rd_T37 ts (i : Int)).f4] 37)) := HB.out.trans ((below_alloc (Below.refl wr.heap.size wr) _).mono HB.out.size)
                exact ⟨i + 1, n' + 1, by rw [hw], by omega, by omega, ⟨by have := HN'.out; omega⟩, HM5, ⟨pw_below_grown hb5 (some gm) hb5.size HG5.out (fun k hk => by injection hk with hk; rw [← hk]; exact HGM.out)⟩⟩
            · have hie : i = ts.length := by omega
              subst hie; clear hlt hil hik; obtain ⟨F, hF⟩ : ∃ F, F = gTs (gAll bs bs.length) ts ts.length := ⟨_, rfl⟩
              rw [← hF] at HG
              have HF := Aside0.mk hF; obtain ⟨D, hD, hat, hlotF⟩ := HG.out; have HAT := Aside0.mk hat; have HLF := Aside0.mk hlotF; clear hat hlotF hF
              go_wp2_with (first
                | (at_range; refine wpList_range_own _ rfl _ 65 rfl 3 37 keyed3 Try.underlying65 aggR gm n' D rfl hD ?_; intro w0 hrg0 hg0 hs0)
                | go_in)
              go_frame
              have HCNT := Aside0.mk (rangesG_cnt hrg0); have HB0 := Aside0.mk (pw_below_grown HB.out none HB.out.size hg0 (fun k hk => by cases hk)); have HS0 := Aside0.mk hs0; have HRB := Aside0.mk HB.out.size; have HNF := Aside0.mk (show n' ≤ 5000 by have := HN'.out; have := HVT.out.len; have := HIT.out; omega); clear hD HG HB hg0 hs0
              generalize wr.heap.size = rb at hrg0 HS0 HRB ⊢
              go_loopw [18] (fun v wr => ∃ (left : Lit → Bool) (cnt : Nat) (xs : List Int), wr.ranges Try.prog 3 aggR gm rb n' D left cnt ∧ Aside0 (Kd.R (Kd.int .i64) 3 wr w1.heap.size (fun k => True) v xs) ∧ Aside0 (KeysTo F left xs) ∧ Aside0 (xs.length + cnt ≤ n') ∧ Aside0 (Below w1.heap.size w1 wr))
                (fun _ wr => wr.rangeLeft gm rb)
              case atStart => exact ⟨_, _, [], hrg0, ⟨Kd.R_nil _ _ _ _ _⟩, ⟨KeysTo.start HAT.out⟩, ⟨by have := HCNT.out; simpa using this⟩, HB0⟩
              case round =>
                obtain ⟨left, cnt, xs, hrg, HX, HKT, HXL, HB⟩ := hrel; clear hrg0 HB0 HS0 HCNT
                go_wp2_with (first
                  | (at_next; refine wp_nextG HAT.out hrg rfl _ rfl rfl ?_ ?_)
                  | go_in)
                · intro hl0
                  obtain ⟨A18, c18, e18⟩ := Kd.R_slice HX.out; subst e18; have HKS := Aside0.mk (HKT.out.done hl0); have HAP := Aside0.mk (ranges_apart hrg HX.out); have hG0 : MapG wr gm n' F := ⟨D, hrg.owns, HAT.out, fun x b hx => HLF.out x b hx⟩; have HG := Aside0.mk hG0; have HLX := Aside0.mk (show xs.length ≤ 5000 by have := HXL.out; have := HNF.out; omega); clear hrg hl0 hG0 HKT
                  go_wp2_with (first
                    | ((with_reducible refine gate_callee (f := 33) rfl ?_); refine goesL_ (some 90) rfl rfl Try.func33 (by kernel_rfl) rfl #[.slice A18 xs.length c18] rfl (by (try simp only [List.map_toArray, List.map_cons, List.map_nil]); first | done | rfl) ?_; refine (sort33_any (by have := HLX.out; omega) HX.out).mono ?_; rintro _ w4 ⟨rfl, hx4, hg4⟩; refine ⟨_, rfl, ?_⟩; have HX4 := Aside0.mk hx4; have HG4 := Aside0.mk (HG.out.kept hg4 HAP.out.1); have HB4 := Aside0.mk (own_below HB.out HX.out hg4); clear hx4 hg4)
                    | ((with_reducible refine gate_callee (f := 34) rfl ?_); refine goesL_ (some 92) rfl rfl Try.func34 (by kernel_rfl) rfl #[.slice A0 l.length c0] rfl (by (try simp only [List.map_toArray, List.map_cons, List.map_nil]); first | done | rfl) ?_; refine (clone_calls A0 c0 l w4 (Kd.C_below HR.out (HB1.out.trans (HB4.out.mono HB1.out.size))) HC.out (by have := HL1.out; omega)).mono ?_; rintro _ w5 ⟨v20, rfl, hv5, hb5⟩; refine ⟨_, rfl, ?_⟩; have HO5 := Aside0.mk (Kd.R_lower hv5 HB4.out.size); have HB5 := Aside0.mk (HB4.out.trans (hb5.mono HB4.out.size)); have HX5 := Aside0.mk (Kd.R_below HX4.out hb5); have HG5 := Aside0.mk (HG4.out.below hb5); clear hv5 hb5))
                  generalize hks : (xs.mergeSort fun x y => decide (x ≤ y)) = ks at HX5 HKS
                  have hkl : xs.length = ks.length := by rw [← hks, List.length_mergeSort]
                  rw [hkl] at HX5 HLX ⊢
                  clear hks hkl HX HXL HB HG HX4 HG4 HB4 HAP
                  go_loopg [20, 95] (ks.length + 1) (fun kx v20 v95 wr => ∃ i : Nat, v95 = .int .i64 i ∧ i + kx = ks.length + 1 ∧ i ≤ ks.length ∧ Aside0 (Kd.R k26 26 wr w1.heap.size (fun _ => True) v20 (corTo l day cause q2 (goalTo ts ts.length) ks i)) ∧ Aside0 (Kd.R (Kd.int .i64) 3 wr w1.heap.size (fun _ => True) (.slice A18 ks.length c18) ks) ∧ Aside0 (MapG wr gm n' F) ∧ Aside0 (ovrTo q2 (goalTo ts ts.length) ks i = false) ∧ Aside0 (Below w1.heap.size w1 wr))
                  case atStart => exact ⟨0, rfl, by omega, Nat.zero_le _, HO5, HX5, HG5, ⟨rfl⟩, HB5⟩
                  case round =>
                    clear HO5 HX5 HG5 HB5; obtain ⟨i, rfl, hik, hil, HO, HX, HG, HV, HB⟩ := hrel
                    by_cases hlt : i < ks.length
                    · obtain ⟨k1, rfl⟩ : ∃ k1, gk = k1 + 1 := ⟨gk - 1, by omega⟩
                      obtain ⟨ad, eA, z0⟩ := Kd.at_int (Kd.R_reads' HX.out).2.2 (i : Int) (by omega) (by omega); subst eA
                      rw [Int.toNat_natCast] at z0
                      have p0 := eq_true (show (0 : Int) ≤ (i : Int) by omega); have q0 := eq_true (show (i : Int) < (ks.length : Int) by omega)
                      have hw : wrap64 ((i : Int) + 1) = ((i + 1 : Nat) : Int) := by have := HLX.out; unfold wrap64; omega
                      have hmem : rd ks (i : Int) ∈ ks := by unfold rd; simp [hlt]
                      obtain ⟨gc, hgc⟩ : ∃ gc, F (rd ks (i : Int)) = some gc := Option.ne_none_iff_exists'.1 ((HKS.out.mem _).1 hmem); have hlot : lotR (rd ks (i : Int)) := HLF.out _ _ hgc; have hgv : gc = goalTo ts ts.length (rd ks (i : Int)) := gTs_val (fun x c => gAll_val) (HF.out ▸ hgc)
                      have hok : ∀ o, Below wr.heap.size wr (wr.alloc o) := fun o => below_alloc (Below.refl wr.heap.size wr) o
                      have hbk : ∀ o, Books (wr.alloc o) W.heap.size g m1 m2 n f q2 q3 A c l := fun o => (HK1.out.below HB.out).below (hok o)
                      have hc0 : ∀ o, (wr.alloc o).cell? ⟨g, 0, none⟩ = some (.map (some m1)) := fun o => (blk_cell (hbk o).cell 0).trans rfl
                      have hf0 : ∀ o, (wr.alloc o).frozen? ⟨g, 0, none⟩ = false := fun o => blk_frozen (hbk o).cell 0
                      have hl65 : ∀ o, (Instr.lookup 65 (.map (some gm)) (.int .i64 (rd ks (i : Int))) false).run Try.prog (wr.alloc o) = .ok (.agg #[.int .i64 (rd ks (i : Int)), .int .i64 gc.o, .int .i64 gc.s, .int .i64 gc.p, .int .i64 gc.r]) (wr.alloc o) := fun o => (HG.out.below (hok o)).lookup hgc
                      have hl59 : ∀ o, (Instr.lookup 59 (.map (some m1)) (.int .i64 (rd ks (i : Int))) false).run Try.prog (wr.alloc o) = .ok (ptrV (f (rd ks (i : Int)))) (wr.alloc o) := fun o => (hbk o).lots.lookup hlot.i64
                      have HBK := Aside0.mk hbk
                      have HST := Aside0.mk (show ∀ ss, ss = stepsB (rd ks (i : Int)) (q2 (rd ks (i : Int))) gc → ss = stepsK q2 (goalTo ts ts.length) ks i from fun ss h => by rw [h, hgv]; rfl)
                      have HI := Aside0.mk (And.intro hik (And.intro hil hlt)); clear hok hbk hgv hlot hgc hmem hik hil hlt
                      cases hfx : f (rd ks (i : Int)) with
                      | none =>
                        rw [hfx] at hl59
                        simp only [ptrV] at hl59
                        have hq0 : q2 (rd ks (i : Int)) = noBal := HK1.out.none_ _ hfx
                        rw [hq0] at HST
                        have HFX := Aside0.mk hfx; clear hq0 hfx
                        go_wp2_with (first
                          | ((with_reducible refine gate_callee (f := 35) rfl ?_); refine goesL_ (some 120) rfl rfl Try.func35 (by kernel_rfl) rfl #[.agg #[.int .i64 (rd ks (i : Int)), .int .i64 0, .int .i64 0, .int .i64 0, .int .i64 0], .agg #[.int .i64 (rd ks (i : Int)), .int .i64 gc.o, .int .i64 gc.s, .int .i64 gc.p, .int .i64 gc.r]] rfl (by (try simp only [List.map_toArray, List.map_cons, List.map_nil]); first | done | rfl) ?_; refine (steps_calls (rd ks (i : Int)) (rd ks (i : Int)) (noBal) gc _).mono ?_; rintro _ w6 ⟨v120, rfl, hs, hb⟩; obtain ⟨A6, c6, e6⟩ := Kd.R_slice hs; subst e6; refine ⟨_, rfl, ?_⟩; have HT6 := Aside0.mk (two_steps HO.out HB.out.size hs hb); clear hs hb))
                        have HB6 := Aside0.mk (HB.out.trans (HT6.out.2.mono HB.out.size)); have HX6 := Aside0.mk (Kd.R_below HX.out HT6.out.2); have HG6 := Aside0.mk (HG.out.below HT6.out.2); have HT7 := Aside0.mk HT6.out.1; clear HT6 HO HX HG HB HBK hc0 hf0 hl65 hl59
                        generalize hss : stepsB (rd ks (i : Int)) noBal gc = ss at HT7 ⊢
                        have HSS := Aside0.mk (HST.out ss hss.symm); clear hss HST
                        generalize hout : corTo l day cause q2 (goalTo ts ts.length) ks i = out at HT7
                        have HOUT := Aside0.mk hout; have HSL := Aside0.mk (show ss.length ≤ 8 by rw [HSS.out]; exact stepsK_len _ _ _ _); have HOL := Aside0.mk (show out.length ≤ 50000 by rw [← hout]; have := corTo_len l day cause q2 (goalTo ts ts.length) ks i; have := HI.out; have := HLX.out; have := HL1.out; omega); clear hout
                        go_loopg [20, 122] (ss.length + 1) (fun kx v20 v122 wr => ∃ j : Nat, v122 = .int .i64 j ∧ j + kx = ss.length + 1 ∧ j ≤ ss.length ∧ Aside0 (Two wr w1.heap.size v20 (.slice A6 ss.length c6) (stTo day cause out ss j) ss) ∧ Aside0 (Kd.R (Kd.int .i64) 3 wr w1.heap.size (fun _ => True) (.slice (some ad) ks.length c18) ks) ∧ Aside0 (MapG wr gm n' F) ∧ Aside0 (ovrS ss j = false) ∧ Aside0 (Below w1.heap.size w1 wr))
                        case atStart => exact ⟨0, rfl, by omega, Nat.zero_le _, HT7, HX6, HG6, ⟨rfl⟩, HB6⟩
                        case round =>
                          clear HT7 HX6 HG6 HB6; obtain ⟨j, rfl, hjk, hjl, HT, HX, HG, HV2, HB⟩ := hrel
                          by_cases hlt : j < ss.length
                          · obtain ⟨k2, rfl⟩ : ∃ k2, gk = k2 + 1 := ⟨gk - 1, by omega⟩
                            obtain ⟨ad2, eA2, z0, z1, z2, z3, z4, z5⟩ := at_T26 (Kd.R_reads' HT.out.r).2.2 (j : Int) (by omega) (by omega); subst eA2
                            rw [Int.toNat_natCast] at z0 z1 z2 z3 z4 z5
                            have p0 := eq_true (show (0 : Int) ≤ (j : Int) by omega); have q0 := eq_true (show (j : Int) < (ss.length : Int) by omega)
                            have hw2 : wrap64 ((j : Int) + 1) = ((j + 1 : Nat) : Int) := by have := HSL.out; unfold wrap64; omega
                            have HJ := Aside0.mk (And.intro hjk (And.intro hjl hlt)); clear hjk hjl hlt
                            by_cases hov : 64000000000000 < (rd_T26 ss (j : Int)).f4
                            · have d1 : decide (64000000000000 < (rd_T26 ss (j : Int)).f4) = true := decide_eq_true hov
                              have NO := Aside0.mk hov; clear hov
                              go_wp2
                              go_ret2
                              have hh := HJ.out; have hi := HI.out
                              have e : correctK l day cause ts ks = ([], 16) := by
                                rw [correctK_past HQ.out NB.out HV0.out, if_pos (ovr_found (i := i) (j := j) hi.2.2 (by rw [← HSS.out]; exact hh.2.2) (by rw [← HSS.out]; exact NO.out))]
                              refine ⟨_, ks, by rw [e]; rfl, by rw [e]; exact Kd.R_nil _ _ _ _ _, ?_, fun _ => by rw [HQ.out]; exact HKS.out.ok HF.out HA3.out (fun x hx => HK1.out.none_ x hx)⟩
                              exact HB1.out.trans ((HB.out.trans (Below.mono (by repeat (first | exact Below.refl _ _ | apply below_alloc | apply pw_below_drewN | apply below_drew1)) HB.out.size)).mono HB1.out.size)
                            · have d1 : decide (64000000000000 < (rd_T26 ss (j : Int)).f4) = false := decide_eq_false hov
                              have NO := Aside0.mk hov; clear hov; obtain ⟨A20, c20, e20⟩ := Kd.R_slice HT.out.l; subst e20
                              have hwl : wrap64 (((stTo day cause out ss j).length : Int) + 1) = ((stTo day cause out ss j).length : Int) + 1 := by
                                have := stTo_len day cause out ss j; have := HOL.out; have := HSL.out; have := HJ.out
                                unfold wrap64
                                omega
                              have HWL := Aside0.mk (show ((stTo day cause out ss j).length + 1) * 48 ≤ 140737488355328 by
                                have := stTo_len day cause out ss j; have := HOL.out; have := HSL.out; have := HJ.out
                                omega)
                              go_upto_region 39 with (fail)
                              have hq : Below wr.heap.size wr (wr.alloc (.cells #[.int .i64 (((stTo day cause out ss j).length : Int) + 1), .int .i64 day, .int .i64 (rd_T26 ss (j : Int)).f2, .int .i64 (rd_T26 ss (j : Int)).f3, .int .i64 (rd_T26 ss (j : Int)).f4, .int .i64 cause] 26)) := below_alloc (Below.refl wr.heap.size wr) _; have HTq := Aside0.mk (HT.out.below hq); have HXq := Aside0.mk (Kd.R_below HX.out hq); have HGq := Aside0.mk (HG.out.below hq); have HBq := Aside0.mk (HB.out.trans (hq.mono HB.out.size)); have x0 : (wr.alloc (.cells #[.int .i64 (((stTo day cause out ss j).length : Int) + 1), .int .i64 day, .int .i64 (rd_T26 ss (j : Int)).f2, .int .i64 (rd_T26 ss (j : Int)).f3, .int .i64 (rd_T26 ss (j : Int)).f4, .int .i64 cause] 26)).cell? ⟨wr.heap.size, 0, none⟩ = some (.int .i64 (((stTo day cause out ss j).length : Int) + 1)) := (blk_cell (blk_new wr (.cells #[.int .i64 (((stTo day cause out ss j).length : Int) + 1), .int .i64 day, .int .i64 (rd_T26 ss (j : Int)).f2, .int .i64 (rd_T26 ss (j : Int)).f3, .int .i64 (rd_T26 ss (j : Int)).f4, .int .i64 cause] 26)) 0).trans rfl; have x1 : (wr.alloc (.cells #[.int .i64 (((stTo day cause out ss j).length : Int) + 1), .int .i64 day, .int .i64 (rd_T26 ss (j : Int)).f2, .int .i64 (rd_T26 ss (j : Int)).f3, .int .i64 (rd_T26 ss (j : Int)).f4, .int .i64 cause] 26)).cell? ⟨wr.heap.size, 1, none⟩ = some (.int .i64 day) := (blk_cell (blk_new wr (.cells #[.int .i64 (((stTo day cause out ss j).length : Int) + 1), .int .i64 day, .int .i64 (rd_T26 ss (j : Int)).f2, .int .i64 (rd_T26 ss (j : Int)).f3, .int .i64 (rd_T26 ss (j : Int)).f4, .int .i64 cause] 26)) 1).trans rfl; have x2 : (wr.alloc (.cells #[.int .i64 (((stTo day cause out ss j).length : Int) + 1), .int .i64 day, .int .i64 (rd_T26 ss (j : Int)).f2, .int .i64 (rd_T26 ss (j : Int)).f3, .int .i64 (rd_T26 ss (j : Int)).f4, .int .i64 cause] 26)).cell? ⟨wr.heap.size, 2, none⟩ = some (.int .i64 (rd_T26 ss (j : Int)).f2) := (blk_cell (blk_new wr (.cells #[.int .i64 (((stTo day cause out ss j).length : Int) + 1), .int .i64 day, .int .i64 (rd_T26 ss (j : Int)).f2, .int .i64 (rd_T26 ss (j : Int)).f3, .int .i64 (rd_T26 ss (j : Int)).f4, .int .i64 cause] 26)) 2).trans rfl; have x3 : (wr.alloc (.cells #[.int .i64 (((stTo day cause out ss j).length : Int) + 1), .int .i64 day, .int .i64 (rd_T26 ss (j : Int)).f2, .int .i64 (rd_T26 ss (j : Int)).f3, .int .i64 (rd_T26 ss (j : Int)).f4, .int .i64 cause] 26)).cell? ⟨wr.heap.size, 3, none⟩ = some (.int .i64 (rd_T26 ss (j : Int)).f3) := (blk_cell (blk_new wr (.cells #[.int .i64 (((stTo day cause out ss j).length : Int) + 1), .int .i64 day, .int .i64 (rd_T26 ss (j : Int)).f2, .int .i64 (rd_T26 ss (j : Int)).f3, .int .i64 (rd_T26 ss (j : Int)).f4, .int .i64 cause] 26)) 3).trans rfl; have x4 : (wr.alloc (.cells #[.int .i64 (((stTo day cause out ss j).length : Int) + 1), .int .i64 day, .int .i64 (rd_T26 ss (j : Int)).f2, .int .i64 (rd_T26 ss (j : Int)).f3, .int .i64 (rd_T26 ss (j : Int)).f4, .int .i64 cause] 26)).cell? ⟨wr.heap.size, 4, none⟩ = some (.int .i64 (rd_T26 ss (j : Int)).f4) := (blk_cell (blk_new wr (.cells #[.int .i64 (((stTo day cause out ss j).length : Int) + 1), .int .i64 day, .int .i64 (rd_T26 ss (j : Int)).f2, .int .i64 (rd_T26 ss (j : Int)).f3, .int .i64 (rd_T26 ss (j : Int)).f4, .int .i64 cause] 26)) 4).trans rfl; have x5 : (wr.alloc (.cells #[.int .i64 (((stTo day cause out ss j).length : Int) + 1), .int .i64 day, .int .i64 (rd_T26 ss (j : Int)).f2, .int .i64 (rd_T26 ss (j : Int)).f3, .int .i64 (rd_T26 ss (j : Int)).f4, .int .i64 cause] 26)).cell? ⟨wr.heap.size, 5, none⟩ = some (.int .i64 cause) := (blk_cell (blk_new wr (.cells #[.int .i64 (((stTo day cause out ss j).length : Int) + 1), .int .i64 day, .int .i64 (rd_T26 ss (j : Int)).f2, .int .i64 (rd_T26 ss (j : Int)).f3, .int .i64 (rd_T26 ss (j : Int)).f4, .int .i64 cause] 26)) 5).trans rfl; clear hq HT HX HG HB z0 z1 z2 z3 z4 z5 d1 hwl p0 q0
                              generalize wr.alloc (.cells #[.int .i64 (((stTo day cause out ss j).length : Int) + 1), .int .i64 day, .int .i64 (rd_T26 ss (j : Int)).f2, .int .i64 (rd_T26 ss (j : Int)).f3, .int .i64 (rd_T26 ss (j : Int)).f4, .int .i64 cause] 26) = wq at HTq HXq HGq HBq x0 x1 x2 x3 x4 x5 ⊢
                              go_wp2_with (first
                                | (at_builtin; refine Kd.R_append k26 (w0 := w1) w1.heap.size rfl (.tmp 137) (.tmp 139) 23 26 (.agg #[.int .i64 0, .int .i64 0, .int .i64 0, .int .i64 0, .int .i64 0, .int .i64 0]) 48 rfl Try.underlying23 info26 rfl (by decide) (by omega) (.slice A20 (stTo day cause out ss j).length c20) (stTo day cause out ss j) (⟨((stTo day cause out ss j).length : Int) + 1, day, (rd_T26 ss (j : Int)).f2, (rd_T26 ss (j : Int)).f3, (rd_T26 ss (j : Int)).f4, cause⟩ : S26) [.int .i64 (((stTo day cause out ss j).length : Int) + 1), .int .i64 day, .int .i64 (rd_T26 ss (j : Int)).f2, .int .i64 (rd_T26 ss (j : Int)).f3, .int .i64 (rd_T26 ss (j : Int)).f4, .int .i64 cause] (fun _ => True) (fun _ => False) rfl rfl ?aP (fun _ hk => hk.elim) (fun _ _ => trivial) HTq.out.l HBq.out HBq.out.size HWL.out ?_; (case aP => exact k26_mkM _ _ _ (⟨((stTo day cause out ss j).length : Int) + 1, day, (rd_T26 ss (j : Int)).f2, (rd_T26 ss (j : Int)).f3, (rd_T26 ss (j : Int)).f4, cause⟩ : S26)); intro v1 w7 hR hB hg hat; have HR7 := Aside0.mk hR; have HB7 := Aside0.mk hB; have HG7 := Aside0.mk hg; have HAT7 := Aside0.mk hat; clear hR hB hg hat)
                                | go_in)
                              go_roundg k2
                              case measure => have := HJ.out; omega
                              case rel =>
                                have hh := HJ.out
                                refine ⟨j + 1, by first | rw [hw2] | (simp), by omega, by omega, ⟨HTq.out.left HG7.out HAT7.out HR7.out⟩, ⟨R_kept M3_any HXq.out HG7.out (own_types (by decide) HXq.out HTq.out.l)⟩, ⟨HGq.out.kept HG7.out (HGq.out.apart HTq.out.l)⟩, ⟨?_⟩, HB7⟩
                                show (ovrS ss j || decide (64000000000000 < (rd_T26 ss (j : Int)).f4)) = false
                                rw [HV2.out, decide_eq_false (show ¬ 64000000000000 < (rd_T26 ss (j : Int)).f4 by have := NO.out; omega)]; rfl
                          · have hje : j = ss.length := by omega
                            subst hje; clear hlt hjk hjl
                            go_wp2
                            go_roundg k1
                            case measure => have := HI.out; omega
                            case rel =>
                              have hh := HI.out
                              refine ⟨i + 1, by rw [hw], by omega, by omega, ⟨?_⟩, HX, HG, ⟨?_⟩, HB⟩
                              · rw [corTo, HOUT.out, ← HSS.out]; exact HT.out.l
                              · show (ovrTo q2 (goalTo ts ts.length) ks i || ovrS (stepsK q2 (goalTo ts ts.length) ks i) _) = false
                                rw [HV.out, ← HSS.out, HV2.out]; rfl
                      | some bx =>
                        rw [hfx] at hl59
                        simp only [ptrV] at hl59
                        have hcb : ∀ o, (wr.alloc o).heap[bx]? = some (.cells (balCells (rd ks (i : Int)) (q2 (rd ks (i : Int)))) 37 (0, 0)) := fun o => ((HBK.out o).some_ _ _ hfx).2
                        have y0 : ∀ o, (wr.alloc o).cell? ⟨bx, 0, none⟩ = some (.int .i64 (rd ks (i : Int))) := fun o => (blk_cell (hcb o) 0).trans rfl
                        have y1 : ∀ o, (wr.alloc o).cell? ⟨bx, 1, none⟩ = some (.int .i64 (q2 (rd ks (i : Int))).o) := fun o => (blk_cell (hcb o) 1).trans rfl
                        have y2 : ∀ o, (wr.alloc o).cell? ⟨bx, 2, none⟩ = some (.int .i64 (q2 (rd ks (i : Int))).s) := fun o => (blk_cell (hcb o) 2).trans rfl
                        have y3 : ∀ o, (wr.alloc o).cell? ⟨bx, 3, none⟩ = some (.int .i64 (q2 (rd ks (i : Int))).p) := fun o => (blk_cell (hcb o) 3).trans rfl
                        have y4 : ∀ o, (wr.alloc o).cell? ⟨bx, 4, none⟩ = some (.int .i64 (q2 (rd ks (i : Int))).r) := fun o => (blk_cell (hcb o) 4).trans rfl
                        have HFX := Aside0.mk hfx; clear hfx hcb
                        go_wp2_with (first
                          | ((with_reducible refine gate_callee (f := 35) rfl ?_); refine goesL_ (some 120) rfl rfl Try.func35 (by kernel_rfl) rfl #[.agg #[.int .i64 (rd ks (i : Int)), .int .i64 (q2 (rd ks (i : Int))).o, .int .i64 (q2 (rd ks (i : Int))).s, .int .i64 (q2 (rd ks (i : Int))).p, .int .i64 (q2 (rd ks (i : Int))).r], .agg #[.int .i64 (rd ks (i : Int)), .int .i64 gc.o, .int .i64 gc.s, .int .i64 gc.p, .int .i64 gc.r]] rfl (by (try simp only [List.map_toArray, List.map_cons, List.map_nil]); first | done | rfl) ?_; refine (steps_calls (rd ks (i : Int)) (rd ks (i : Int)) (q2 (rd ks (i : Int))) gc _).mono ?_; rintro _ w6 ⟨v120, rfl, hs, hb⟩; obtain ⟨A6, c6, e6⟩ := Kd.R_slice hs; subst e6; refine ⟨_, rfl, ?_⟩; have HT6 := Aside0.mk (two_steps HO.out HB.out.size hs hb); clear hs hb))
                        have HB6 := Aside0.mk (HB.out.trans (HT6.out.2.mono HB.out.size)); have HX6 := Aside0.mk (Kd.R_below HX.out HT6.out.2); have HG6 := Aside0.mk (HG.out.below HT6.out.2); have HT7 := Aside0.mk HT6.out.1; clear HT6 HO HX HG HB HBK hc0 hf0 hl65 hl59
                        generalize hss : stepsB (rd ks (i : Int)) (q2 (rd ks (i : Int))) gc = ss at HT7 ⊢
                        have HSS := Aside0.mk (HST.out ss hss.symm); clear hss HST
                        generalize hout : corTo l day cause q2 (goalTo ts ts.length) ks i = out at HT7
                        have HOUT := Aside0.mk hout; have HSL := Aside0.mk (show ss.length ≤ 8 by rw [HSS.out]; exact stepsK_len _ _ _ _); have HOL := Aside0.mk (show out.length ≤ 50000 by rw [← hout]; have := corTo_len l day cause q2 (goalTo ts ts.length) ks i; have := HI.out; have := HLX.out; have := HL1.out; omega); clear hout
                        go_loopg [20, 122] (ss.length + 1) (fun kx v20 v122 wr => ∃ j : Nat, v122 = .int .i64 j ∧ j + kx = ss.length + 1 ∧ j ≤ ss.length ∧ Aside0 (Two wr w1.heap.size v20 (.slice A6 ss.length c6) (stTo day cause out ss j) ss) ∧ Aside0 (Kd.R (Kd.int .i64) 3 wr w1.heap.size (fun _ => True) (.slice (some ad) ks.length c18) ks) ∧ Aside0 (MapG wr gm n' F) ∧ Aside0 (ovrS ss j = false) ∧ Aside0 (Below w1.heap.size w1 wr))
                        case atStart => exact ⟨0, rfl, by omega, Nat.zero_le _, HT7, HX6, HG6, ⟨rfl⟩, HB6⟩
                        case round =>
                          clear HT7 HX6 HG6 HB6; obtain ⟨j, rfl, hjk, hjl, HT, HX, HG, HV2, HB⟩ := hrel
                          by_cases hlt : j < ss.length
                          · obtain ⟨k2, rfl⟩ : ∃ k2, gk = k2 + 1 := ⟨gk - 1, by omega⟩
                            obtain ⟨ad2, eA2, z0, z1, z2, z3, z4, z5⟩ := at_T26 (Kd.R_reads' HT.out.r).2.2 (j : Int) (by omega) (by omega); subst eA2
                            rw [Int.toNat_natCast] at z0 z1 z2 z3 z4 z5
                            have p0 := eq_true (show (0 : Int) ≤ (j : Int) by omega); have q0 := eq_true (show (j : Int) < (ss.length : Int) by omega)
                            have hw2 : wrap64 ((j : Int) + 1) = ((j + 1 : Nat) : Int) := by have := HSL.out; unfold wrap64; omega
                            have HJ := Aside0.mk (And.intro hjk (And.intro hjl hlt)); clear hjk hjl hlt
                            by_cases hov : 64000000000000 < (rd_T26 ss (j : Int)).f4
                            · have d1 : decide (64000000000000 < (rd_T26 ss (j : Int)).f4) = true := decide_eq_true hov
                              have NO := Aside0.mk hov; clear hov
                              go_wp2
                              go_ret2
                              have hh := HJ.out; have hi := HI.out
                              have e : correctK l day cause ts ks = ([], 16) := by
                                rw [correctK_past HQ.out NB.out HV0.out, if_pos (ovr_found (i := i) (j := j) hi.2.2 (by rw [← HSS.out]; exact hh.2.2) (by rw [← HSS.out]; exact NO.out))]
                              refine ⟨_, ks, by rw [e]; rfl, by rw [e]; exact Kd.R_nil _ _ _ _ _, ?_, fun _ => by rw [HQ.out]; exact HKS.out.ok HF.out HA3.out (fun x hx => HK1.out.none_ x hx)⟩
                              exact HB1.out.trans ((HB.out.trans (Below.mono (by repeat (first | exact Below.refl _ _ | apply below_alloc | apply pw_below_drewN | apply below_drew1)) HB.out.size)).mono HB1.out.size)
                            · have d1 : decide (64000000000000 < (rd_T26 ss (j : Int)).f4) = false := decide_eq_false hov
                              have NO := Aside0.mk hov; clear hov; obtain ⟨A20, c20, e20⟩ := Kd.R_slice HT.out.l; subst e20
                              have hwl : wrap64 (((stTo day cause out ss j).length : Int) + 1) = ((stTo day cause out ss j).length : Int) + 1 := by
                                have := stTo_len day cause out ss j; have := HOL.out; have := HSL.out; have := HJ.out
                                unfold wrap64
                                omega
                              have HWL := Aside0.mk (show ((stTo day cause out ss j).length + 1) * 48 ≤ 140737488355328 by
                                have := stTo_len day cause out ss j; have := HOL.out; have := HSL.out; have := HJ.out
                                omega)
                              go_upto_region 39 with (fail)
                              have hq : Below wr.heap.size wr (wr.alloc (.cells #[.int .i64 (((stTo day cause out ss j).length : Int) + 1), .int .i64 day, .int .i64 (rd_T26 ss (j : Int)).f2, .int .i64 (rd_T26 ss (j : Int)).f3, .int .i64 (rd_T26 ss (j : Int)).f4, .int .i64 cause] 26)) := below_alloc (Below.refl wr.heap.size wr) _; have HTq := Aside0.mk (HT.out.below hq); have HXq := Aside0.mk (Kd.R_below HX.out hq); have HGq := Aside0.mk (HG.out.below hq); have HBq := Aside0.mk (HB.out.trans (hq.mono HB.out.size)); have x0 : (wr.alloc (.cells #[.int .i64 (((stTo day cause out ss j).length : Int) + 1), .int .i64 day, .int .i64 (rd_T26 ss (j : Int)).f2, .int .i64 (rd_T26 ss (j : Int)).f3, .int .i64 (rd_T26 ss (j : Int)).f4, .int .i64 cause] 26)).cell? ⟨wr.heap.size, 0, none⟩ = some (.int .i64 (((stTo day cause out ss j).length : Int) + 1)) := (blk_cell (blk_new wr (.cells #[.int .i64 (((stTo day cause out ss j).length : Int) + 1), .int .i64 day, .int .i64 (rd_T26 ss (j : Int)).f2, .int .i64 (rd_T26 ss (j : Int)).f3, .int .i64 (rd_T26 ss (j : Int)).f4, .int .i64 cause] 26)) 0).trans rfl; have x1 : (wr.alloc (.cells #[.int .i64 (((stTo day cause out ss j).length : Int) + 1), .int .i64 day, .int .i64 (rd_T26 ss (j : Int)).f2, .int .i64 (rd_T26 ss (j : Int)).f3, .int .i64 (rd_T26 ss (j : Int)).f4, .int .i64 cause] 26)).cell? ⟨wr.heap.size, 1, none⟩ = some (.int .i64 day) := (blk_cell (blk_new wr (.cells #[.int .i64 (((stTo day cause out ss j).length : Int) + 1), .int .i64 day, .int .i64 (rd_T26 ss (j : Int)).f2, .int .i64 (rd_T26 ss (j : Int)).f3, .int .i64 (rd_T26 ss (j : Int)).f4, .int .i64 cause] 26)) 1).trans rfl; have x2 : (wr.alloc (.cells #[.int .i64 (((stTo day cause out ss j).length : Int) + 1), .int .i64 day, .int .i64 (rd_T26 ss (j : Int)).f2, .int .i64 (rd_T26 ss (j : Int)).f3, .int .i64 (rd_T26 ss (j : Int)).f4, .int .i64 cause] 26)).cell? ⟨wr.heap.size, 2, none⟩ = some (.int .i64 (rd_T26 ss (j : Int)).f2) := (blk_cell (blk_new wr (.cells #[.int .i64 (((stTo day cause out ss j).length : Int) + 1), .int .i64 day, .int .i64 (rd_T26 ss (j : Int)).f2, .int .i64 (rd_T26 ss (j : Int)).f3, .int .i64 (rd_T26 ss (j : Int)).f4, .int .i64 cause] 26)) 2).trans rfl; have x3 : (wr.alloc (.cells #[.int .i64 (((stTo day cause out ss j).length : Int) + 1), .int .i64 day, .int .i64 (rd_T26 ss (j : Int)).f2, .int .i64 (rd_T26 ss (j : Int)).f3, .int .i64 (rd_T26 ss (j : Int)).f4, .int .i64 cause] 26)).cell? ⟨wr.heap.size, 3, none⟩ = some (.int .i64 (rd_T26 ss (j : Int)).f3) := (blk_cell (blk_new wr (.cells #[.int .i64 (((stTo day cause out ss j).length : Int) + 1), .int .i64 day, .int .i64 (rd_T26 ss (j : Int)).f2, .int .i64 (rd_T26 ss (j : Int)).f3, .int .i64 (rd_T26 ss (j : Int)).f4, .int .i64 cause] 26)) 3).trans rfl; have x4 : (wr.alloc (.cells #[.int .i64 (((stTo day cause out ss j).length : Int) + 1), .int .i64 day, .int .i64 (rd_T26 ss (j : Int)).f2, .int .i64 (rd_T26 ss (j : Int)).f3, .int .i64 (rd_T26 ss (j : Int)).f4, .int .i64 cause] 26)).cell? ⟨wr.heap.size, 4, none⟩ = some (.int .i64 (rd_T26 ss (j : Int)).f4) := (blk_cell (blk_new wr (.cells #[.int .i64 (((stTo day cause out ss j).length : Int) + 1), .int .i64 day, .int .i64 (rd_T26 ss (j : Int)).f2, .int .i64 (rd_T26 ss (j : Int)).f3, .int .i64 (rd_T26 ss (j : Int)).f4, .int .i64 cause] 26)) 4).trans rfl; have x5 : (wr.alloc (.cells #[.int .i64 (((stTo day cause out ss j).length : Int) + 1), .int .i64 day, .int .i64 (rd_T26 ss (j : Int)).f2, .int .i64 (rd_T26 ss (j : Int)).f3, .int .i64 (rd_T26 ss (j : Int)).f4, .int .i64 cause] 26)).cell? ⟨wr.heap.size, 5, none⟩ = some (.int .i64 cause) := (blk_cell (blk_new wr (.cells #[.int .i64 (((stTo day cause out ss j).length : Int) + 1), .int .i64 day, .int .i64 (rd_T26 ss (j : Int)).f2, .int .i64 (rd_T26 ss (j : Int)).f3, .int .i64 (rd_T26 ss (j : Int)).f4, .int .i64 cause] 26)) 5).trans rfl; clear hq HT HX HG HB z0 z1 z2 z3 z4 z5 d1 hwl p0 q0
                              generalize wr.alloc (.cells #[.int .i64 (((stTo day cause out ss j).length : Int) + 1), .int .i64 day, .int .i64 (rd_T26 ss (j : Int)).f2, .int .i64 (rd_T26 ss (j : Int)).f3, .int .i64 (rd_T26 ss (j : Int)).f4, .int .i64 cause] 26) = wq at HTq HXq HGq HBq x0 x1 x2 x3 x4 x5 ⊢
                              go_wp2_with (first
                                | (at_builtin; refine Kd.R_append k26 (w0 := w1) w1.heap.size rfl (.tmp 137) (.tmp 139) 23 26 (.agg #[.int .i64 0, .int .i64 0, .int .i64 0, .int .i64 0, .int .i64 0, .int .i64 0]) 48 rfl Try.underlying23 info26 rfl (by decide) (by omega) (.slice A20 (stTo day cause out ss j).length c20) (stTo day cause out ss j) (⟨((stTo day cause out ss j).length : Int) + 1, day, (rd_T26 ss (j : Int)).f2, (rd_T26 ss (j : Int)).f3, (rd_T26 ss (j : Int)).f4, cause⟩ : S26) [.int .i64 (((stTo day cause out ss j).length : Int) + 1), .int .i64 day, .int .i64 (rd_T26 ss (j : Int)).f2, .int .i64 (rd_T26 ss (j : Int)).f3, .int .i64 (rd_T26 ss (j : Int)).f4, .int .i64 cause] (fun _ => True) (fun _ => False) rfl rfl ?aP (fun _ hk => hk.elim) (fun _ _ => trivial) HTq.out.l HBq.out HBq.out.size HWL.out ?_; (case aP => exact k26_mkM _ _ _ (⟨((stTo day cause out ss j).length : Int) + 1, day, (rd_T26 ss (j : Int)).f2, (rd_T26 ss (j : Int)).f3, (rd_T26 ss (j : Int)).f4, cause⟩ : S26)); intro v1 w7 hR hB hg hat; have HR7 := Aside0.mk hR; have HB7 := Aside0.mk hB; have HG7 := Aside0.mk hg; have HAT7 := Aside0.mk hat; clear hR hB hg hat)
                                | go_in)
                              go_roundg k2
                              case measure => have := HJ.out; omega
                              case rel =>
                                have hh := HJ.out
                                refine ⟨j + 1, by first | rw [hw2] | (simp), by omega, by omega, ⟨HTq.out.left HG7.out HAT7.out HR7.out⟩, ⟨R_kept M3_any HXq.out HG7.out (own_types (by decide) HXq.out HTq.out.l)⟩, ⟨HGq.out.kept HG7.out (HGq.out.apart HTq.out.l)⟩, ⟨?_⟩, HB7⟩
                                show (ovrS ss j || decide (64000000000000 < (rd_T26 ss (j : Int)).f4)) = false
                                rw [HV2.out, decide_eq_false (show ¬ 64000000000000 < (rd_T26 ss (j : Int)).f4 by have := NO.out; omega)]; rfl
                          · have hje : j = ss.length := by omega
                            subst hje; clear hlt hjk hjl
                            go_wp2
                            go_roundg k1
                            case measure => have := HI.out; omega
                            case rel =>
                              have hh := HI.out
                              refine ⟨i + 1, by rw [hw], by omega, by omega, ⟨?_⟩, HX, HG, ⟨?_⟩, HB⟩
                              · rw [corTo, HOUT.out, ← HSS.out]; exact HT.out.l
                              · show (ovrTo q2 (goalTo ts ts.length) ks i || ovrS (stepsK q2 (goalTo ts ts.length) ks i) _) = false
                                rw [HV.out, ← HSS.out, HV2.out]; rfl
                    · have hie : i = ks.length := by omega
                      subst hie; clear hlt hik hil; have HKO := Aside0.mk (HKS.out.ok HF.out HA3.out (fun x hx => HK1.out.none_ x hx)); obtain ⟨A20, c20, e20⟩ := Kd.R_slice HO.out; subst e20; have hpast := correctK_past (ks := ks) HQ.out NB.out HV0.out
                      rw [if_neg (by rw [HV.out]; simp)] at hpast
                      have HPA := Aside0.mk hpast; clear hpast
                      generalize corTo l day cause q2 (goalTo ts ts.length) ks ks.length = out at HO HPA ⊢
                      by_cases hlim : 2000 < out.length
                      · have b1 : decide ((2000 : Int) < (out.length : Int)) = true := decide_eq_true (by omega)
                        have b2 : decide (2000 < out.length) = true := decide_eq_true hlim; have NL := Aside0.mk hlim; clear hlim
                        go_wp2
                        go_ret2
                        have e : correctK l day cause ts ks = ([], 8) := by rw [HPA.out, if_pos NL.out]
                        exact ⟨_, ks, by rw [e]; rfl, by rw [e]; exact Kd.R_nil _ _ _ _ _, HB1.out.trans (HB.out.mono HB1.out.size), fun _ => by rw [HQ.out]; exact HKO.out⟩
                      · have b1 : decide ((2000 : Int) < (out.length : Int)) = false := decide_eq_false (by omega)
                        have b2 : decide (2000 < out.length) = false := decide_eq_false hlim; have NL := Aside0.mk hlim; clear hlim
                        go_wp2
                        go_ret2
                        have e : correctK l day cause ts ks = (out, 0) := by rw [HPA.out, if_neg NL.out]
                        exact ⟨_, ks, by rw [e]; rfl, by rw [e]; exact Kd.R_lower HO.out HB1.out.size, HB1.out.trans (HB.out.mono HB1.out.size), fun _ => by rw [HQ.out]; exact HKO.out⟩
                · intro x cx cb w5 cnt1 hfx hlx hrg1 hltc hg1 hs1 hen
                  have HAP := Aside0.mk (ranges_apart hrg HX.out); have HM := Aside0.mk (hrg.left_eq); have HX1 := Aside0.mk (R_kept M3_any HX.out hg1 (own_or HAP.out.2)); have HB5 := Aside0.mk (pw_below_grown HB.out (some rb) HB.out.size hg1 (fun k hk => by injection hk with hk; rw [← hk]; exact HRB.out)); have HRG := Aside0.mk hrg1; have HKT1 := Aside0.mk (HKT.out.step hfx hlx); have HLT := Aside0.mk hltc; clear hrg hrg1 hfx hlx hltc hg1 hs1 HX HB HKT
                  go_wp2_with (first
                    | (at_builtin; refine Kd.R_append (Kd.int .i64) (w0 := w1) w1.heap.size rfl (.tmp 85) (.tmp 87) 22 3 (.int .i64 0) 8 rfl Try.underlying22 info3 rfl (by decide) (by omega) u18 xs x [.int .i64 x] (fun _ => True) (fun _ => False) rfl rfl rfl (fun _ hk => hk.elim) (fun _ _ => trivial) HX1.out HB5.out HB5.out.size ?aL ?_; (case aL => have := HXL.out; have := HNF.out; omega); intro v1 w6 hR hB hg hat; have HR6 := Aside0.mk hR; have HB6 := Aside0.mk hB; have HG6 := Aside0.mk hg; clear hR hB hg hat)
                    | go_in)
                  have HRG6 := Aside0.mk (HRG.out.kept HG6.out (ranges_apart HRG.out HX1.out).1 (ranges_apart HRG.out HX1.out).2); clear hen
                  go_roundw
                  case measure => rw [HRG6.out.left_eq, HM.out]; exact HLT.out
                  case rel => exact ⟨_, cnt1, xs ++ [x], HRG6.out, HR6, HKT1, ⟨by rw [List.length_append, List.length_singleton]; have := HXL.out; have := HLT.out; omega⟩, HB6⟩
end Go.Proofs.Ytgedkdofhonicaa.G
/- The contracts of the ledger package's functions in the form of the printed ones. -/
namespace Go.Proofs.Ytgedkdofhonicaa.G
open Go.RowKit Go.Proofs.YtgedkdofhonicaaW.PrintWords Go.Proofs.YtgedkdofhonicaaW.PrintLast Go.Proofs.YtgedkdofhonicaaW.PrintMore Go.Proofs.Ytgedkdofhonicaa.PA
set_option linter.unusedVariables false
set_option linter.unusedSimpArgs false
theorem eq_of_up : ∀ {a b : List Int}, a.Pairwise (· < ·) → b.Pairwise (· < ·) → (∀ x, x ∈ a ↔ x ∈ b) → a = b
  | [], [], _, _, _ => rfl
  | [], y :: b, _, _, h => absurd ((h y).2 (List.mem_cons_self)) (by simp)
  | x :: a, [], _, _, h => absurd ((h x).1 (List.mem_cons_self)) (by simp)
  | x :: a, y :: b, ha, hb, h => by
    rw [List.pairwise_cons] at ha hb
    have hxy : x = y := by
      rcases List.mem_cons.1 ((h x).1 List.mem_cons_self) with e | e
      · exact e
      · rcases List.mem_cons.1 ((h y).2 List.mem_cons_self) with e' | e'
        · exact e'.symm
        · have := hb.1 x e
          have := ha.1 y e'
          omega
    subst hxy
    rw [eq_of_up ha.2 hb.2 (fun z => ?_)]
    constructor
    · intro hz
      rcases List.mem_cons.1 ((h z).1 (List.mem_cons_of_mem _ hz)) with e | e
      · subst e; exact absurd (ha.1 z hz) (by omega)
      · exact e
    · intro hz
      rcases List.mem_cons.1 ((h z).2 (List.mem_cons_of_mem _ hz)) with e | e
      · subst e; exact absurd (hb.1 z hz) (by omega)
      · exact e
theorem rd_take_succ {ks : List Int} {i : Nat} (h : i < ks.length) : ks.take (i + 1) = ks.take i ++ [rd ks (i : Int)] := by
  have e : rd ks (i : Int) = ks[i] := by unfold rd; simp [h]
  rw [e, List.take_append_getElem h]
/-- What one lot adds. -/
def addLot (day cause : Int) (bal goal : Int → Bal) (out : List S26) (x : Int) : List S26 := stTo day cause out (stepsB x (bal x) (goal x)) (stepsB x (bal x) (goal x)).length
def ovrLot (bal goal : Int → Bal) (x : Int) : Bool := ovrS (stepsB x (bal x) (goal x)) (stepsB x (bal x) (goal x)).length
theorem corTo_fold (l : List S26) (day cause : Int) (bal goal : Int → Bal) (ks : List Int) : ∀ i, i ≤ ks.length → corTo l day cause bal goal ks i = (ks.take i).foldl (addLot day cause bal goal) l
  | 0, _ => rfl
  | i + 1, h => by
    rw [rd_take_succ (by omega), List.foldl_append, ← corTo_fold l day cause bal goal ks i (by omega)]
    rfl
theorem ovrTo_any (bal goal : Int → Bal) (ks : List Int) : ∀ i, i ≤ ks.length → ovrTo bal goal ks i = (ks.take i).any (ovrLot bal goal)
  | 0, _ => rfl
  | i + 1, h => by
    rw [rd_take_succ (by omega), List.any_append, ← ovrTo_any bal goal ks i (by omega)]
    simp [ovrTo, ovrLot, stepsK]
def isStep (bal goal : Int → Bal) (x : Int) : Bool := !(stepsB x (bal x) (goal x)).isEmpty
theorem fold_filter (day cause : Int) (bal goal : Int → Bal) : ∀ (ks : List Int) (l : List S26), ks.foldl (addLot day cause bal goal) l = (ks.filter (isStep bal goal)).foldl (addLot day cause bal goal) l
  | [], l => rfl
  | x :: ks, l => by
    rw [List.foldl_cons, fold_filter day cause bal goal ks]
    by_cases h : isStep bal goal x = true
    · rw [List.filter_cons_of_pos h, List.foldl_cons]
    · rw [List.filter_cons_of_neg h]
      have h' : stepsB x (bal x) (goal x) = [] := by simpa [isStep] using h
      congr 1
      unfold addLot
      rw [h']
      rfl
theorem any_filter (bal goal : Int → Bal) : ∀ (ks : List Int), ks.any (ovrLot bal goal) = (ks.filter (isStep bal goal)).any (ovrLot bal goal)
  | [] => rfl
  | x :: ks => by
    rw [List.any_cons, any_filter bal goal ks]
    by_cases h : isStep bal goal x = true
    · rw [List.filter_cons_of_pos h, List.any_cons]
    · rw [List.filter_cons_of_neg h]
      have h' : stepsB x (bal x) (goal x) = [] := by simpa [isStep] using h
      have : ovrLot bal goal x = false := by unfold ovrLot; rw [h']; rfl
      rw [this]; rfl
theorem goalTo_none {ts : List S37} {x : Int} : ∀ {i : Nat}, (∀ j : Nat, j < i → (rd_T37 ts (j : Int)).f0 ≠ x) → goalTo ts i x = noBal
  | 0, _ => rfl
  | i + 1, h => by
    show (if x = (rd_T37 ts (i : Int)).f0 then _ else _) = _
    rw [if_neg (fun e => h i (Nat.lt_succ_self i) e.symm)]
    exact goalTo_none (fun j hj => h j (by omega))
theorem stepsB_none (x : Int) : stepsB x noBal noBal = [] := by
  simp [stepsB, fallsTo, risesTo, dif, fldB, noBal, wrap64]
theorem KsOK.steps {bal : Int → Bal} {ts : List S37} {k1 k2 : List Int} (h1 : KsOK bal ts k1) (h2 : KsOK bal ts k2) : k1.filter (isStep bal (goalTo ts ts.length)) = k2.filter (isStep bal (goalTo ts ts.length)) := by
  have key : ∀ {ks : List Int}, KsOK bal ts ks → ∀ x, isStep bal (goalTo ts ts.length) x = true → x ∈ ks := fun {ks} h x hx => by
    apply Classical.byContradiction
    intro hn
    have hb : bal x = noBal := Classical.byContradiction fun hb => hn (h.has x hb)
    have hg : goalTo ts ts.length x = noBal := goalTo_none (fun j hj e => hn (e ▸ h.tgt j hj))
    unfold isStep at hx
    rw [hb, hg, stepsB_none] at hx
    simp at hx
  refine eq_of_up (h1.up.filter _) (h2.up.filter _) (fun x => ?_)
  rw [List.mem_filter, List.mem_filter]
  exact ⟨fun h => ⟨key h2 x h.2, h.2⟩, fun h => ⟨key h1 x h.2, h.2⟩⟩
theorem correctK_uniq {l : List S26} {day cause : Int} {ts : List S37} {k1 k2 : List Int} (h1 : Reached l day cause ts → KsOK (readTo l l.length).2.1 ts k1) (h2 : Reached l day cause ts → KsOK (readTo l l.length).2.1 ts k2) : correctK l day cause ts k1 = correctK l day cause ts k2 := by
  unfold correctK
  by_cases a1 : (readTo l l.length).1 ≠ 0
  · rw [if_pos a1, if_pos a1]
  · rw [if_neg a1, if_neg a1]
    by_cases a2 : day < 0 ∨ 36524 < day ∨ cause < 0 ∨ 1000000000 < cause
    · rw [if_pos a2, if_pos a2]
    · rw [if_neg a2, if_neg a2]
      by_cases a3 : valT ts ≠ 0
      · rw [if_pos a3, if_pos a3]
      · rw [if_neg a3, if_neg a3]
        have hr : Reached l day cause ts := ⟨by simpa using a1, a2, by simpa using a3⟩; have hs := (h1 hr).steps (h2 hr)
        have c1 : ∀ bal goal, k1.filter (isStep bal goal) = k2.filter (isStep bal goal) → corTo l day cause bal goal k1 k1.length = corTo l day cause bal goal k2 k2.length := fun bal goal h => by
          rw [corTo_fold _ _ _ _ _ _ _ (Nat.le_refl _), corTo_fold _ _ _ _ _ _ _ (Nat.le_refl _), List.take_length, List.take_length, fold_filter, h, ← fold_filter]
        have c2 : ∀ bal goal, k1.filter (isStep bal goal) = k2.filter (isStep bal goal) → ovrTo bal goal k1 k1.length = ovrTo bal goal k2 k2.length := fun bal goal h => by
          rw [ovrTo_any _ _ _ _ (Nat.le_refl _), ovrTo_any _ _ _ _ (Nat.le_refl _), List.take_length, List.take_length, any_filter, h, ← any_filter]
        rw [c1 _ _ hs, c2 _ _ hs]
open Classical in
noncomputable def ksOf (l : List S26) (ts : List S37) : List Int := if h : ∃ ks, KsOK (readTo l l.length).2.1 ts ks then h.choose else []
theorem ksOf_ok {l : List S26} {ts : List S37} {ks : List Int} (h : KsOK (readTo l l.length).2.1 ts ks) : KsOK (readTo l l.length).2.1 ts (ksOf l ts) := by
  have hx : ∃ ks, KsOK (readTo l l.length).2.1 ts ks := ⟨ks, h⟩
  unfold ksOf
  rw [dif_pos hx]
  exact hx.choose_spec
open Classical in
noncomputable def ledger_Validate.f (l : List S26) : Option Int := if wfL l then some (readTo l l.length).1 else none
open Classical in
noncomputable def ledger_Append.f (l : List S26) (a0 a1 a2 a3 a4 a5 : Int) : Option (List S26 × Int) := if wfL l then some (appendR l ⟨a0, a1, a2, a3, a4, a5⟩) else none
theorem ledger_Append.calls (A0 : Option Addr) (c0 : Nat) (l0 : List (S26)) (a1_0 a1_1 a1_2 a1_3 a1_4 a1_5 : Int) (r1 : List (S26)) (r2 : Int) (w : World) (hr0 : Kd.C k26 w A0 l0.length l0) (hc0 : l0.length ≤ c0) (h : ledger_Append.f l0 a1_0 a1_1 a1_2 a1_3 a1_4 a1_5 = some (r1, r2)) :
    Calls Try.prog 11 #[.slice A0 l0.length c0, .agg #[.int .i64 a1_0, .int .i64 a1_1, .int .i64 a1_2, .int .i64 a1_3, .int .i64 a1_4, .int .i64 a1_5]] w fun e w' => ∃ v0_ : Value, e = .returned (.tuple #[v0_, .int .i64 r2]) ∧ Kd.R k26 26 w' w.heap.size (fun _ => True) v0_ r1 ∧ Below w.heap.size w w' := by
  unfold ledger_Append.f at h
  split at h
  · rename_i hw
    have h := Option.some.inj h; have h1 := append_calls hr0 hc0 hw ⟨a1_0, a1_1, a1_2, a1_3, a1_4, a1_5⟩
    rw [h] at h1
    exact h1
  · cases h
open Classical in
noncomputable def ledger_BalanceOf.f (l : List S26) (x : Int) : Option (Int × Int × Int × Int × Int) := if wfL l ∧ i64 x then some (x, (balOf l x).o, (balOf l x).s, (balOf l x).p, (balOf l x).r) else none
theorem ledger_BalanceOf.calls (A0 : Option Addr) (c0 : Nat) (l0 : List (S26)) (a1 : Int) (r1 r2 r3 r4 r5 : Int) (w : World) (hr0 : Kd.C k26 w A0 l0.length l0) (hc0 : l0.length ≤ c0) (h : ledger_BalanceOf.f l0 a1 = some (r1, r2, r3, r4, r5)) :
    Calls Try.prog 14 #[.slice A0 l0.length c0, .int .i64 a1] w fun e w' => e = .returned (.agg #[.int .i64 r1, .int .i64 r2, .int .i64 r3, .int .i64 r4, .int .i64 r5]) ∧ Below w.heap.size w w' := by
  unfold ledger_BalanceOf.f at h
  split at h
  · rename_i hw
    have h := Option.some.inj h
    simp only [Prod.mk.injEq] at h
    obtain ⟨rfl, rfl, rfl, rfl, rfl⟩ := h
    exact balanceOf_calls hr0 hc0 hw.1 _ hw.2
  · cases h
open Classical in
noncomputable def ledger_Correct.f (l : List S26) (day cause : Int) (ts : List S37) : Option (List S26 × Int) := if wfL l then some (correctK l day cause ts (ksOf l ts)) else none
theorem ledger_Correct.calls (A0 : Option Addr) (c0 : Nat) (l0 : List (S26)) (a1 a2 : Int) (A3 : Option Addr) (c3 : Nat) (l3 : List (S37)) (r1 : List (S26)) (r2 : Int) (w : World) (hr0 : Kd.C k26 w A0 l0.length l0) (hc0 : l0.length ≤ c0) (hr3 : Kd.C k37 w A3 l3.length l3) (hc3 : l3.length ≤ c3) (h : ledger_Correct.f l0 a1 a2 l3 = some (r1, r2)) :
    Calls Try.prog 18 #[.slice A0 l0.length c0, .int .i64 a1, .int .i64 a2, .slice A3 l3.length c3] w fun e w' => ∃ v0_ : Value, e = .returned (.tuple #[v0_, .int .i64 r2]) ∧ Kd.R k26 26 w' w.heap.size (fun _ => True) v0_ r1 ∧ Below w.heap.size w w' := by
  unfold ledger_Correct.f at h
  split at h
  · rename_i hw
    have h := Option.some.inj h
    refine (correct_calls hr0 hc0 hw hr3 hc3 a1 a2).mono ?_
    rintro e w' ⟨v, ks, he, hv, hb, hk⟩
    rw [correctK_uniq (k2 := ksOf l0 l3) hk (fun hr => ksOf_ok (hk hr)), h] at he hv
    exact ⟨v, he, hv, hb⟩
  · cases h
end Go.Proofs.Ytgedkdofhonicaa.G
/- Small words on functions with rounds ('Ev'); entries that are made. -/
namespace Go.Proofs.Ytgedkdofhonicaa.E
set_option linter.unusedVariables false
set_option linter.unusedSimpArgs false
open Go.RowKit Go.Proofs.YtgedkdofhonicaaW.PrintWords Go.Proofs.YtgedkdofhonicaaW.PrintLast Go.Proofs.YtgedkdofhonicaaW.PrintMore Go.Proofs.Ytgedkdofhonicaa.PA Go.Proofs.Ytgedkdofhonicaa.G
theorem evShift {α : Type} {g : Nat → Option α} {r : α} (h : Ev (fun k => g (k + 1)) r) : Ev g r := by
  obtain ⟨K, h⟩ := h
  refine ⟨K + 1, fun k hk => ?_⟩
  obtain ⟨k, rfl⟩ : ∃ m, k = m + 1 := ⟨k - 1, by omega⟩
  exact h k (by omega)
theorem evNow {α : Type} {o : Option α} {r : α} (h : o = some r) : Ev (fun _ => o) r := ⟨0, fun _ _ => h⟩
theorem evPos {α : Type} {c : Prop} [Decidable c] {f g : Nat → Option α} {r : α} (hc : c) (h : Ev f r) : Ev (fun k => if c then f k else g k) r := by simpa [hc] using h
theorem evNeg {α : Type} {c : Prop} [Decidable c] {f g : Nat → Option α} {r : α} (hc : ¬ c) (h : Ev g r) : Ev (fun k => if c then f k else g k) r := by simpa [hc] using h
theorem evIf {α : Type} {c : Prop} [Decidable c] {f g : Nat → Option α} {r : α} (h1 : c → Ev f r) (h2 : ¬ c → Ev g r) : Ev (fun k => if c then f k else g k) r := by
  by_cases hc : c
  · exact evPos hc (h1 hc)
  · exact evNeg hc (h2 hc)
theorem evBind {α β : Type} {g : Nat → Option α} {f : Nat → α → Option β} {a : α} {r : β} (h : Ev g a) (k : Ev (fun n => f n a) r) : Ev (fun n => (g n).bind (f n)) r := h.bind k
theorem evBind0 {α β : Type} {g : Option α} {f : Nat → α → Option β} {a : α} {r : β} (h : g = some a) (k : Ev (fun n => f n a) r) : Ev (fun n => g.bind (f n)) r := by subst h; exact k
theorem wrap64_id {x : Int} (h1 : -9223372036854775808 ≤ x) (h2 : x ≤ 9223372036854775807) : wrap64 x = x := by unfold wrap64; omega
theorem within_some (x n : Int) (hn : 0 < n) (hb : n ≤ 4611686018427387904) : ∃ r, customsmade_Within.f x n = some r ∧ 0 ≤ r ∧ r < n := by
  unfold customsmade_Within.f
  rw [if_neg (by omega)]
  have h1 : Int.tmod x n < n := Int.tmod_lt_of_pos x hn
  have h2 : -n < Int.tmod x n := by
    have := Int.lt_tmod_of_pos x hn
    omega
  rw [wrap64_id (by omega) (by omega)]
  refine ⟨_, rfl, ?_, Int.tmod_lt_of_pos _ hn⟩
  exact Int.tmod_nonneg _ (by omega)
theorem next_some (s : List Int) (hs : s.length ≤ 9223372036854775807) (i n : Int) (i0 : 0 ≤ i) (i1 : i ≤ s.length) (hn : 0 < n) (hb : n ≤ 4611686018427387904) :
    ∃ r j, customsmade_Source_Next.f s i n = some (r, j) ∧ 0 ≤ r ∧ r < n ∧ (0 ≤ j ∧ i ≤ j ∧ (i < s.length → i < j)) ∧ j ≤ s.length := by
  unfold customsmade_Source_Next.f
  by_cases h : i ≥ (s.length : Int)
  · exact ⟨0, i, by rw [if_pos h], by omega, by omega, ⟨i0, Int.le_refl _, fun h' => absurd h' (by omega)⟩, i1⟩
  · have e1 : wrap64 (i + 1) = i + 1 := wrap64_id (by omega) (by omega)
    have e2 : wrap64 (i + 1 - 1) = i := by rw [wrap64_id (by omega) (by omega)]; omega
    rw [if_neg h, e1, e2, if_pos i0, if_pos (by omega)]
    obtain ⟨r, h1, h2, h3⟩ := within_some (rd s i) n hn hb
    exact ⟨r, i + 1, by rw [h1]; rfl, h2, h3, ⟨by omega, by omega, fun _ => by omega⟩, by omega⟩
theorem small_some (s : List Int) (hs : s.length ≤ 9223372036854775807) (i a b : Int) (i0 : 0 ≤ i) (i1 : i ≤ s.length) (ha : 0 < a) (hab : a ≤ b) (hb : b ≤ 4611686018427387904) :
    ∃ r j, customsmade_Small.f s i a b = some (r, j) ∧ 0 ≤ r ∧ r < b ∧ (0 ≤ j ∧ i ≤ j) ∧ j ≤ s.length := by
  unfold customsmade_Small.f
  obtain ⟨r, j, h1, h2, h3, h4, h5⟩ := next_some s hs i 5 i0 i1 (by omega) (by omega)
  rw [h1]
  show ∃ r' j', (if r = 4 then _ else _) = _ ∧ _
  by_cases h : r = 4
  · rw [if_pos h]
    obtain ⟨r2, j2, g1, g2, g3, g4, g5⟩ := next_some s hs j b h4.1 h5 (by omega) hb
    exact ⟨r2, j2, by rw [g1]; rfl, g2, g3, ⟨g4.1, by omega⟩, g5⟩
  · rw [if_neg h]
    obtain ⟨r2, j2, g1, g2, g3, g4, g5⟩ := next_some s hs j a h4.1 h5 ha (by omega)
    exact ⟨r2, j2, by rw [g1]; rfl, g2, by omega, ⟨g4.1, by omega⟩, g5⟩
/-- What an entry that is made looks like. -/
structure MadeE (n : Int) (e : S26) : Prop where
  f0 : e.f0 = n + 1
  f1 : 0 ≤ e.f1 ∧ e.f1 < 50
  f2 : 1 ≤ e.f2 ∧ e.f2 ≤ 9
  f3 : 1 ≤ e.f3 ∧ e.f3 ≤ 4
  f4 : 1 ≤ e.f4 ∧ e.f4 ≤ 1000000000000
  f5 : 0 ≤ e.f5 ∧ e.f5 < 9
theorem kinds_range : ∀ i : Fin 13, 1 ≤ rd ([1, 1, 1, 2, 3, 3, 4, 5, 5, 6, 7, 8, 9] : List Int) ((i.val : Nat) : Int) ∧ rd ([1, 1, 1, 2, 3, 3, 4, 5, 5, 6, 7, 8, 9] : List Int) ((i.val : Nat) : Int) ≤ 9 := by decide
theorem entry_some (s : List Int) (hs : s.length ≤ 9223372036854775807) (i n : Int) (i0 : 0 ≤ i) (i1 : i ≤ s.length) (hn : 0 ≤ n) (hb : n ≤ 100000) :
    ∃ e j, customsmade_Entry.f s i n = some (e.f0, e.f1, e.f2, e.f3, e.f4, e.f5, j) ∧ MadeE n e ∧ 0 ≤ j ∧ j ≤ s.length ∧ (i < s.length → i < j) := by
  have hw : wrap64 (n + 1) = n + 1 := wrap64_id (by omega) (by omega)
  unfold customsmade_Entry.f
  obtain ⟨d, j1, e1, d0, d1, a1, b1⟩ := next_some s hs i 50 i0 i1 (by omega) (by omega)
  rw [e1, Option.bind_some, Option.bind_some]
  obtain ⟨ki, j2, e2, k0, k1, a2, b2⟩ := next_some s hs j1 13 a1.1 b1 (by omega) (by omega)
  rw [show (d, j1).2 = j1 from rfl, e2, Option.bind_some]
  simp only []
  rw [if_pos k0, if_pos (show ki < (([1, 1, 1, 2, 3, 3, 4, 5, 5, 6, 7, 8, 9] : List Int).length : Int) from k1)]
  obtain ⟨lt, j3, e3, l0, l1, a3, b3⟩ := next_some s hs j2 4 a2.1 b2 (by omega) (by omega)
  rw [e3, Option.bind_some]
  obtain ⟨am, j4, e4, m0, m1, a4, b4⟩ := small_some s hs j3 50 1000000000000 a3.1 b3 (by omega) (by omega) (by omega)
  rw [show (lt, j3).2 = j3 from rfl, e4, Option.bind_some]
  obtain ⟨ca, j5, e5, c0, c1, a5, b5⟩ := next_some s hs j4 9 a4.1 b4 (by omega) (by omega)
  rw [show (am, j4).2 = j4 from rfl, e5, Option.bind_some]
  simp only []
  have hk : 1 ≤ rd ([1, 1, 1, 2, 3, 3, 4, 5, 5, 6, 7, 8, 9] : List Int) ki ∧ rd ([1, 1, 1, 2, 3, 3, 4, 5, 5, 6, 7, 8, 9] : List Int) ki ≤ 9 := by
    have := kinds_range ⟨ki.toNat, by omega⟩
    simpa [Int.toNat_of_nonneg k0] using this
  generalize rd ([1, 1, 1, 2, 3, 3, 4, 5, 5, 6, 7, 8, 9] : List Int) ki = kd at hk ⊢
  rw [hw, wrap64_id (x := 1 + lt) (by omega) (by omega)]
  by_cases h9 : kd = 9
  · rw [if_pos h9]
    obtain ⟨x, j6, e6, x0, x1, a6, b6⟩ := next_some s hs j5 (n + 1) a5.1 b5 (by omega) (by omega)
    rw [e6, Option.bind_some]
    simp only []
    rw [wrap64_id (x := 1 + x) (by omega) (by omega)]
    exact ⟨⟨n + 1, d, kd, 1 + lt, 1 + x, ca⟩, j6, rfl, ⟨rfl, ⟨d0, d1⟩, hk, ⟨by show 1 ≤ 1 + lt; omega, by show 1 + lt ≤ 4; omega⟩, ⟨by show 1 ≤ 1 + x; omega, by show 1 + x ≤ 1000000000000; omega⟩, ⟨c0, c1⟩⟩, a6.1, b6, fun h => by have := a1.2.2 h; omega⟩
  · rw [if_neg h9, wrap64_id (x := 1 + am) (by omega) (by omega)]
    exact ⟨⟨n + 1, d, kd, 1 + lt, 1 + am, ca⟩, j5, rfl, ⟨rfl, ⟨d0, d1⟩, hk, ⟨by show 1 ≤ 1 + lt; omega, by show 1 + lt ≤ 4; omega⟩, ⟨by show 1 ≤ 1 + am; omega, by show 1 + am ≤ 1000000000000; omega⟩, ⟨c0, c1⟩⟩, a5.1, b5, fun h => by have := a1.2.2 h; omega⟩
end Go.Proofs.Ytgedkdofhonicaa.E
/- Valid ledgers: what their books hold; the reference's balance is that of the books. -/
namespace Go.Proofs.Ytgedkdofhonicaa.E
set_option linter.unusedVariables false
set_option linter.unusedSimpArgs false
open Go.RowKit Go.Proofs.YtgedkdofhonicaaW.PrintWords Go.Proofs.YtgedkdofhonicaaW.PrintLast Go.Proofs.YtgedkdofhonicaaW.PrintMore Go.Proofs.Ytgedkdofhonicaa.PA Go.Proofs.Ytgedkdofhonicaa.G
theorem rd_old {l : List S26} {e : S26} {i : Int} (h0 : 0 ≤ i) (h : i < (l.length : Int)) : rd_T26 (l ++ [e]) i = rd_T26 l i := by
  unfold rd_T26
  simp [List.getD_eq_getElem?_getD, List.getElem?_append_left (show i.toNat < l.length by omega)]
theorem rd_new {l : List S26} {e : S26} : rd_T26 (l ++ [e]) (l.length : Int) = e := by
  unfold rd_T26
  simp [List.getD_eq_getElem?_getD]
/-- Reading a longer ledger begins as reading the shorter one. -/
theorem readTo_old {l : List S26} {e : S26} : ∀ j, j ≤ l.length → readTo (l ++ [e]) j = readTo l j
  | 0, _ => rfl
  | j + 1, h => by
    rw [readTo, readTo, readTo_old j (by omega), List.take_append_of_le_length (by omega), rd_old (by omega) (by omega)]
theorem readTo_snoc {l : List S26} {e : S26} (h : (readTo l l.length).1 = 0) : readTo (l ++ [e]) (l.length + 1) = addC l (readTo l l.length).2.1 (readTo l l.length).2.2 e := by
  rw [readTo, readTo_old _ (Nat.le_refl _), if_pos h, List.take_append_of_le_length (Nat.le_refl _), List.take_length, rd_new]
def nonneg (b : Bal) : Prop := 0 ≤ b.o ∧ 0 ≤ b.s ∧ 0 ≤ b.p ∧ 0 ≤ b.r
/-- What a kind and an amount do to a balance (wrapped). -/
def aft (b : Bal) (k a : Int) : Bal :=
  if k = 1 then { b with o := wrap64 (b.o + a) } else if k = 2 then { b with o := wrap64 (b.o - a) } else
  if k = 3 then { b with s := wrap64 (b.s + a) } else if k = 4 then { b with s := wrap64 (b.s - a) } else
  if k = 5 then { b with p := wrap64 (b.p + a) } else if k = 6 then { b with p := wrap64 (b.p - a) } else
  if k = 7 then { b with r := wrap64 (b.r + a) } else if k = 8 then { b with r := wrap64 (b.r - a) } else b
theorem after_f (x : Int) (b : Bal) (k a : Int) : customsref27_BalanceAfter.f x b.o b.s b.p b.r k a = some (x, (aft b k a).o, (aft b k a).s, (aft b k a).p, (aft b k a).r) := by
  unfold customsref27_BalanceAfter.f aft
  repeat' split
  all_goals rfl
theorem eff_aft {k v : Int} {b : Bal} (h : 1 ≤ k ∧ k ≤ 8) : (eff k v b).1 = aft b k v := by
  have hk : k = 1 ∨ k = 2 ∨ k = 3 ∨ k = 4 ∨ k = 5 ∨ k = 6 ∨ k = 7 ∨ k = 8 := by omega
  rcases hk with rfl | rfl | rfl | rfl | rfl | rfl | rfl | rfl <;> rfl
theorem eff_ok {k v : Int} {b : Bal} (h : 1 ≤ k ∧ k ≤ 8) (hb : nonneg b) : (eff k v b).2 = true ↔ nonneg (aft b k v) := by
  obtain ⟨h1, h2, h3, h4⟩ := hb
  have hk : k = 1 ∨ k = 2 ∨ k = 3 ∨ k = 4 ∨ k = 5 ∨ k = 6 ∨ k = 7 ∨ k = 8 := by omega
  rcases hk with rfl | rfl | rfl | rfl | rfl | rfl | rfl | rfl <;> simp [eff, aft, nonneg, h1, h2, h3, h4]
/-- The fields of a balance fit. -/
def small (b : Bal) : Prop := b.o ≤ 9223372036854775807 ∧ b.s ≤ 9223372036854775807 ∧ b.p ≤ 9223372036854775807 ∧ b.r ≤ 9223372036854775807
theorem wrap_le (x : Int) : wrap64 x ≤ 9223372036854775807 := by unfold wrap64; omega
theorem aft_small {b : Bal} (h : small b) (k a : Int) : small (aft b k a) := by
  obtain ⟨h1, h2, h3, h4⟩ := h
  unfold aft
  repeat' split
  all_goals first | exact ⟨h1, h2, h3, h4⟩ | exact ⟨wrap_le _, h2, h3, h4⟩ | exact ⟨h1, wrap_le _, h3, h4⟩ | exact ⟨h1, h2, wrap_le _, h4⟩ | exact ⟨h1, h2, h3, wrap_le _⟩
/-- The kind and the amount by which entry e of ledger l counts. -/
def kindOf (l : List S26) (e : S26) : Int := if e.f2 = 9 then (rd_T26 l (e.f4 - 1)).f2 else e.f2
def amtOf (l : List S26) (e : S26) : Int := if e.f2 = 9 then wrap64 (-(rd_T26 l (e.f4 - 1)).f4) else e.f4
/-- What holds of a ledger that reads well. -/
structure Inv (l : List S26) (bal : Int → Bal) (rev : Int → Bool) : Prop where
  num : ∀ i : Int, 0 ≤ i → i < (l.length : Int) → (rd_T26 l i).f0 = i + 1
  rng : ∀ i : Int, 0 ≤ i → i < (l.length : Int) → inR (rd_T26 l i) = true
  pos : ∀ x, nonneg (bal x)
  sml : ∀ x, small (bal x)
  rev : ∀ n, rev n = true ↔ ∃ i : Int, 0 ≤ i ∧ i < (l.length : Int) ∧ (rd_T26 l i).f2 = 9 ∧ (rd_T26 l i).f4 = n
  back : ∀ i : Int, 0 ≤ i → i < (l.length : Int) → (rd_T26 l i).f2 = 9 → (rd_T26 l i).f4 ≤ i ∧ (rd_T26 l ((rd_T26 l i).f4 - 1)).f2 ≠ 9 ∧ (rd_T26 l ((rd_T26 l i).f4 - 1)).f3 = (rd_T26 l i).f3
theorem inR_iff {e : S26} : inR e = true ↔ 0 ≤ e.f1 ∧ e.f1 ≤ 36524 ∧ 1 ≤ e.f2 ∧ e.f2 ≤ 9 ∧ 1 ≤ e.f3 ∧ e.f3 ≤ 1000000 ∧ 1 ≤ e.f4 ∧ e.f4 ≤ 64000000000000 ∧ 0 ≤ e.f5 ∧ e.f5 ≤ 1000000000 := by
  unfold inR; exact decide_eq_true_iff
theorem wrap_one {x : Int} (h1 : -9223372036854775808 ≤ x) (h2 : x ≤ 9223372036854775807) : wrap64 (1 * x) = x := by rw [Int.one_mul]; exact wrap64_id h1 h2
/-- addC on a ledger that reads well, told by what the entry counts. -/
theorem addC_zero {l : List S26} {bal : Int → Bal} {rev : Int → Bool} {e : S26} (hI : Inv l bal rev) (h : (addC l bal rev e).1 = 0) :
    l.length < 2000 ∧ inR e = true ∧ e.f0 = (l.length : Int) + 1 ∧ (e.f2 = 9 → e.f4 ≤ (l.length : Int) ∧ (rd_T26 l (e.f4 - 1)).f2 ≠ 9 ∧ rev e.f4 = false ∧ (rd_T26 l (e.f4 - 1)).f3 = e.f3) ∧
      nonneg (aft (bal e.f3) (kindOf l e) (amtOf l e)) ∧ addC l bal rev e = (0, setBal bal e.f3 (aft (bal e.f3) (kindOf l e) (amtOf l e)), if e.f2 = 9 then setRev rev e.f4 else rev) := by
  have h0 := addC_len h
  unfold addC at h ⊢
  rw [if_neg (by omega)] at h ⊢
  by_cases a2 : inR e = false
  · rw [if_pos a2] at h; exact absurd h (by simp)
  rw [if_neg a2] at h ⊢
  have hr : inR e = true := by simpa using a2
  have hr' := inR_iff.1 hr
  by_cases a3 : e.f0 ≠ (l.length : Int) + 1
  · rw [if_pos a3] at h; exact absurd h (by simp)
  rw [if_neg a3] at h ⊢
  have h3 : e.f0 = (l.length : Int) + 1 := by simpa using a3
  by_cases a4 : e.f2 = 9
  · rw [if_pos a4] at h ⊢
    by_cases a5 : e.f4 > (l.length : Int)
    · rw [if_pos a5] at h; exact absurd h (by simp)
    rw [if_neg a5] at h ⊢
    have hnum := hI.num (e.f4 - 1) (by omega) (by omega)
    rw [show e.f4 - 1 + 1 = e.f4 by omega] at hnum
    have hrng := inR_iff.1 (hI.rng (e.f4 - 1) (by omega) (by omega))
    rw [hnum] at h ⊢
    by_cases a6 : (rd_T26 l (e.f4 - 1)).f2 = 9 ∨ rev e.f4 = true
    · rw [if_pos a6] at h; exact absurd h (by simp)
    rw [if_neg a6] at h ⊢
    by_cases a7 : (rd_T26 l (e.f4 - 1)).f3 ≠ e.f3
    · rw [if_pos a7] at h; exact absurd h (by simp)
    rw [if_neg a7] at h ⊢
    have h7 : (rd_T26 l (e.f4 - 1)).f3 = e.f3 := by simpa using a7
    rw [h7, Int.neg_mul, Int.one_mul] at h ⊢
    have hk : 1 ≤ (rd_T26 l (e.f4 - 1)).f2 ∧ (rd_T26 l (e.f4 - 1)).f2 ≤ 8 := by
      have : (rd_T26 l (e.f4 - 1)).f2 ≠ 9 := fun h => a6 (.inl h)
      omega
    by_cases a8 : (eff (rd_T26 l (e.f4 - 1)).f2 (wrap64 (-(rd_T26 l (e.f4 - 1)).f4)) (bal e.f3)).2 = true
    · rw [if_pos a8, eff_aft hk]
      have e1 : kindOf l e = (rd_T26 l (e.f4 - 1)).f2 := if_pos a4; have e2 : amtOf l e = wrap64 (-(rd_T26 l (e.f4 - 1)).f4) := if_pos a4
      rw [e1, e2, if_pos a4]
      exact ⟨h0, hr, h3, fun _ => ⟨by omega, fun h => a6 (.inl h), by
        cases hv : rev e.f4 with
        | false => rfl
        | true => exact absurd (Or.inr hv) a6, rfl⟩, (eff_ok hk (hI.pos _)).1 a8, rfl⟩
    · rw [if_neg a8] at h; exact absurd h (by simp)
  · rw [if_neg a4] at h ⊢
    have hk : 1 ≤ e.f2 ∧ e.f2 ≤ 8 := by omega
    rw [wrap_one (by omega) (by omega)] at h ⊢
    by_cases a8 : (eff e.f2 e.f4 (bal e.f3)).2 = true
    · rw [if_pos a8, eff_aft hk]
      have e1 : kindOf l e = e.f2 := if_neg a4; have e2 : amtOf l e = e.f4 := if_neg a4
      rw [e1, e2, if_neg a4]
      exact ⟨h0, hr, h3, fun h => absurd h a4, (eff_ok hk (hI.pos _)).1 a8, rfl⟩
    · rw [if_neg a8] at h; exact absurd h (by simp)
theorem inv_nil : Inv [] (fun _ => noBal) (fun _ => false) where
  num i h0 h1 := by simp at h1; omega
  rng i h0 h1 := by simp at h1; omega
  pos x := ⟨Int.le_refl _, Int.le_refl _, Int.le_refl _, Int.le_refl _⟩
  sml x := ⟨by decide, by decide, by decide, by decide⟩
  rev n := ⟨fun h => by simp at h, fun ⟨i, h0, h1, _⟩ => by simp at h1; omega⟩
  back i h0 h1 := by simp at h1; omega
theorem Inv.snoc {l : List S26} {bal : Int → Bal} {rev : Int → Bool} {e : S26} (hI : Inv l bal rev) (h : (addC l bal rev e).1 = 0) : Inv (l ++ [e]) (addC l bal rev e).2.1 (addC l bal rev e).2.2 := by
  obtain ⟨h1, h2, h3, h4, h5, h6⟩ := addC_zero hI h; have hr := inR_iff.1 h2
  have hl : ((l ++ [e]).length : Int) = (l.length : Int) + 1 := by simp
  have cs : ∀ i : Int, 0 ≤ i → i < ((l ++ [e]).length : Int) → (i < (l.length : Int) ∧ rd_T26 (l ++ [e]) i = rd_T26 l i) ∨ (i = (l.length : Int) ∧ rd_T26 (l ++ [e]) i = e) := fun i h0 hi => by
    by_cases hc : i < (l.length : Int)
    · exact .inl ⟨hc, rd_old h0 hc⟩
    · have : i = (l.length : Int) := by omega
      exact .inr ⟨this, by rw [this]; exact rd_new⟩
  rw [h6]
  refine ⟨fun i h0 hi => ?_, fun i h0 hi => ?_, fun x => ?_, fun x => ?_, fun n => ?_, fun i h0 hi hk => ?_⟩
  · rcases cs i h0 hi with ⟨a, b⟩ | ⟨a, b⟩ <;> rw [b]
    · exact hI.num i h0 a
    · rw [h3, a]
  · rcases cs i h0 hi with ⟨a, b⟩ | ⟨a, b⟩ <;> rw [b]
    · exact hI.rng i h0 a
    · exact h2
  · show nonneg (if x = e.f3 then _ else bal x)
    split
    · exact h5
    · exact hI.pos x
  · show small (if x = e.f3 then _ else bal x)
    split
    · exact aft_small (hI.sml _) _ _
    · exact hI.sml x
  · show (if e.f2 = 9 then setRev rev e.f4 else rev) n = true ↔ _
    have hrev := hI.rev n
    by_cases a4 : e.f2 = 9
    · rw [if_pos a4]
      show (if n = e.f4 then true else rev n) = true ↔ _
      by_cases hn : n = e.f4
      · rw [if_pos hn]
        exact ⟨fun _ => ⟨(l.length : Int), by omega, by omega, by rw [rd_new]; exact a4, by rw [rd_new]; exact hn.symm⟩, fun _ => rfl⟩
      · rw [if_neg hn, hrev]
        constructor
        · rintro ⟨i, i0, i1, i2, i3⟩
          exact ⟨i, i0, by omega, by rw [rd_old i0 i1]; exact i2, by rw [rd_old i0 i1]; exact i3⟩
        · rintro ⟨i, i0, i1, i2, i3⟩
          rcases cs i i0 i1 with ⟨a, b⟩ | ⟨a, b⟩ <;> rw [b] at i2 i3
          · exact ⟨i, i0, a, i2, i3⟩
          · exact absurd i3.symm hn
    · rw [if_neg a4, hrev]
      constructor
      · rintro ⟨i, i0, i1, i2, i3⟩
        exact ⟨i, i0, by omega, by rw [rd_old i0 i1]; exact i2, by rw [rd_old i0 i1]; exact i3⟩
      · rintro ⟨i, i0, i1, i2, i3⟩
        rcases cs i i0 i1 with ⟨a, b⟩ | ⟨a, b⟩ <;> rw [b] at i2 i3
        · exact ⟨i, i0, a, i2, i3⟩
        · exact absurd i2 a4
  · rcases cs i h0 hi with ⟨a, b⟩ | ⟨a, b⟩ <;> rw [b] at hk ⊢
    · have := hI.back i h0 a hk
      have hq := inR_iff.1 (hI.rng i h0 a)
      rw [rd_old (by omega) (by omega)]
      exact this
    · have := h4 hk
      rw [rd_old (by omega) (by omega)]
      exact ⟨by omega, this.2.1, this.2.2.2⟩
/-- A ledger that reads well keeps the invariant. -/
theorem inv_read {l : List S26} : ∀ {j : Nat}, j ≤ l.length → (readTo l j).1 = 0 → Inv (l.take j) (readTo l j).2.1 (readTo l j).2.2
  | 0, _, _ => by rw [List.take_zero]; exact inv_nil
  | j + 1, hj, h => by
    rw [readTo] at h ⊢
    by_cases h0 : (readTo l j).1 = 0
    · rw [if_pos h0] at h ⊢
      have := (inv_read (by omega) h0).snoc h
      rwa [take_snoc (by omega)] at this
    · rw [if_neg h0] at h; exact absurd h h0
end Go.Proofs.Ytgedkdofhonicaa.E
-- Written by a program of this claim (wip/tools: mkprint.py, pr.sh) out of the translation: plain functions and their contracts. Lean checks every line.
namespace Go.Proofs.Ytgedkdofhonicaa.PM
open Go.RowKit Go.Proofs.YtgedkdofhonicaaW.PrintWords Go.Proofs.YtgedkdofhonicaaW.PrintLast Go.Proofs.YtgedkdofhonicaaW.PrintMore Go.Proofs.Ytgedkdofhonicaa.G Go.Proofs.Ytgedkdofhonicaa.PA
attribute [local go_sem] max2_int min2_int max_two min_two max_three min_three max_four min_four   -- for this text's walks alone
set_option linter.unusedVariables false
set_option linter.unusedSimpArgs false
def errW : Option Int → Value
  | none => .nilIface
  | some c => .iface 0 (.int .i64 c)
theorem errW_none : errW none = .nilIface := rfl
theorem errW_some (c : Int) : errW (some c) = .iface 0 (.int .i64 c) := rfl
theorem info26 : (Try.prog.info? 26).map (fun i => (i.zero, i.size, i.bytes)) = some (some (.agg #[(.int .i64 0), (.int .i64 0), (.int .i64 0), (.int .i64 0), (.int .i64 0), (.int .i64 0)]), 6, 48) := by kernel_rfl
-- the values' own types
end Go.Proofs.Ytgedkdofhonicaa.PM
