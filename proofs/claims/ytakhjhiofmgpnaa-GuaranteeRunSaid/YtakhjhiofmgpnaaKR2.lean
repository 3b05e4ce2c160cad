/- Part 2 of the proof of guaranteeRun_holds: texts of this claim, printed and by hand, cut to what it needs (wip/tools/link.py). Lean checks every line. -/
import Derived.Test.YtakhjhiofmgpnaaKR1
import Derived.Test.YtakhjhiofmgpnaaProg
import Derived.WalkSpells
import Derived.WalkLawsBesides
/- The contract by hand of customsmade.Cut: it hands back what came in, or its head. -/
namespace Go.Proofs.Ytakhjhiofmgpnaa.G
open Go.RowKit Go.Proofs.YtakhjhiofmgpnaaW.PrintWords Go.Proofs.YtakhjhiofmgpnaaW.PrintLast Go.Proofs.YtakhjhiofmgpnaaW.PrintMore
set_option linter.unusedVariables false
set_option linter.unusedSimpArgs false
theorem C_head {α : Type} {d : Kd α} {w : World} {A : Option Addr} {xs : List α} (h : d.C w A xs.length xs) (m : Nat) (hm : m ≤ xs.length) : d.C w A (xs.take m).length (xs.take m) := by
  obtain ⟨h1, h2, h3⟩ := h
  have hl : (xs.take m).length = m := by rw [List.length_take]; omega
  refine ⟨rfl, by omega, fun hn => ?_⟩
  obtain ⟨ad, e, hc⟩ := h3 (by omega)
  refine ⟨ad, e, fun j p hj => ?_⟩
  have hj2 : xs[j]? = some p := by
    have : j < m := by
      have := (List.getElem?_eq_some_iff.1 hj).1
      omega
    rw [List.getElem?_take] at hj
    simpa [this] using hj
  exact hc j p hj2
def customsmade_Cut.f (l : List Int) (n : Int) : Option (List Int) := if (l.length : Int) > n then (if 0 ≤ n then some (l.take n.toNat) else none) else some l
theorem info3 : (Try.prog.info? 3).map (fun i => (i.zero, i.size, i.bytes)) = some (some (.int .i64 0), 1, 8) := by kernel_rfl
set_option maxHeartbeats 400000 in
theorem customsmade_Cut.calls (A : Option Addr) (c : Nat) (l : List Int) (n : Int) (r : List Int) (w w0 : World) (hr : Kd.C (Kd.int .i64) w0 A l.length l) (hc : l.length ≤ c) (h : customsmade_Cut.f l n = some r) :
    Calls Try.prog 30 #[.slice A l.length c, .int .i64 n] w fun e w' => ∃ A' c', e = .returned (.slice A' r.length c') ∧ Kd.C (Kd.int .i64) w0 A' r.length r ∧ r.length ≤ c' ∧ ∃ nd, w' = w.drewN nd := by
  unfold customsmade_Cut.f at h
  have HR := Aside0.mk hr
  clear hr
  have hmax : l.length ≤ 9223372036854775807 := HR.out.2.1
  by_cases c1 : (l.length : Int) > n
  · rw [if_pos c1] at h
    by_cases c2 : 0 ≤ n
    · rw [if_pos c2] at h
      obtain rfl := Option.some.inj h
      clear h
      obtain ⟨i0, hi, hzz⟩ := Option.map_eq_some_iff.1 info3
      simp only [Prod.mk.injEq] at hzz
      obtain ⟨q1, q2, q3⟩ := print_take_int (P := Try.prog) (k := .i64) 22 3 Try.underlying22 hi hzz.2.1 A c l n c2 (by omega) hc
      clear hi hzz i0
      have Q3 := Aside0.mk q3
      clear q2 q3
      go_enter Try.func30, Try.ntmps30
      go_wp2
      go_ret
      exact ⟨A, c, by rw [List.length_take]; rfl, C_head HR.out _ (by omega), Q3.out, 0, rfl⟩
    · rw [if_neg c2] at h
      exact absurd h (by simp)
  · rw [if_neg c1] at h
    obtain rfl := Option.some.inj h
    clear h
    have c2 : ¬ n < (l.length : Int) := by omega
    have HC := Aside0.mk hc
    clear hc
    go_enter Try.func30, Try.ntmps30
    go_wp2
    go_ret
    exact ⟨A, c, rfl, HR.out, HC.out, 0, rfl⟩
end Go.Proofs.Ytakhjhiofmgpnaa.G
-- Written by a program of this claim (wip/tools: mkprint.py, pr.sh) out of the translation: plain functions and their contracts. Lean checks every line.
namespace Go.Proofs.Ytakhjhiofmgpnaa.PA
open Go.RowKit Go.Proofs.YtakhjhiofmgpnaaW.PrintWords Go.Proofs.YtakhjhiofmgpnaaW.PrintLast Go.Proofs.YtakhjhiofmgpnaaW.PrintMore Go.Proofs.Ytakhjhiofmgpnaa.G
attribute [local go_sem] max2_int min2_int max_two min_two max_three min_three max_four min_four   -- for this text's walks alone
set_option linter.unusedVariables false
set_option linter.unusedSimpArgs false
def errW : Option Int → Value
 | none => .nilIface
 | some c => .iface 0 (.int .i64 c)
theorem errW_none : errW none = .nilIface := rfl
theorem errW_some (c : Int) : errW (some c) = .iface 0 (.int .i64 c) := rfl
theorem info39 : (Try.prog.info? 39).map (fun i => (i.zero, i.size, i.bytes)) = some (some (.agg #[(.int .i64 0), (.int .i64 0)]), 2, 16) := by kernel_rfl
theorem info74 : (Try.prog.info? 74).map (fun i => (i.zero, i.size, i.bytes)) = some (some (.agg #[(.int .i64 0), (.int .i64 0), (.int .i64 0)]), 3, 24) := by kernel_rfl
-- the values' own types
structure S39 where
 f0 : Int
 f1 : Int
def z39 : S39 := ⟨(0 : Int), (0 : Int)⟩
def k39 : Kd S39 := Kd.iso (Kd.pair (Kd.int .i64) (Kd.int .i64)) (fun x : S39 => (x.f0, x.f1))
theorem k39_open {w : World} {x : S39} {cs : List Value} (h : k39.K w x cs) : cs = [.int .i64 x.f0, .int .i64 x.f1] := by
 obtain ⟨_, _, rfl, rfl, rfl⟩ := h
 exact rfl
theorem k39_openM {w : World} {base : Nat} {ok : Nat → Prop} {x : S39} {cs : List Value} (h : k39.M w base ok x cs) : cs = [.int .i64 x.f0, .int .i64 x.f1] := by
 obtain ⟨_, _, rfl, rfl, rfl⟩ := h
 exact rfl
theorem k39_mkM (w : World) (base : Nat) (ok : Nat → Prop) (x : S39)  : k39.M w base ok x [.int .i64 x.f0, .int .i64 x.f1] := ⟨[.int .i64 x.f0], [.int .i64 x.f1], rfl, rfl, rfl⟩
def rd_T39 (xs : List S39) (i : Int) : S39 := xs.getD i.toNat z39
theorem at_T39 {w : World} {A : Option Addr} {n : Nat} {xs : List S39} (h : Kd.C k39 w A n xs) (i : Int) (h0 : 0 ≤ i) (h1 : i < n) : ∃ ad , A = some ad ∧ w.cell? (ad.add (i.toNat * 2)) = some (.int .i64 (rd_T39 xs i).f0) ∧ w.cell? ⟨(ad.add (i.toNat * 2)).block, (ad.add (i.toNat * 2)).off + 1, none⟩ = some (.int .i64 (rd_T39 xs i).f1) := by
 obtain ⟨ad, c, e, _, hK, hc0⟩ := Kd.C_get h z39 i h0 h1
 have hc : ∀ j u, c[j]? = some u → w.cell? (ad.add (i.toNat * 2 + j)) = some u := hc0
 obtain rfl := k39_open hK
 exact ⟨ad, e, hc 0 _ rfl, by rw [← add_field _ _ 1 (by omega)]; exact hc 1 _ rfl⟩
structure S74 where
 f0 : Int
 f1 : Int
 f2 : Int
def z74 : S74 := ⟨(0 : Int), (0 : Int), (0 : Int)⟩
def k74 : Kd S74 := Kd.iso (Kd.pair (Kd.int .i64) (Kd.pair (Kd.int .i64) (Kd.int .i64))) (fun x : S74 => (x.f0, x.f1, x.f2))
theorem k74_open {w : World} {x : S74} {cs : List Value} (h : k74.K w x cs) : cs = [.int .i64 x.f0, .int .i64 x.f1, .int .i64 x.f2] := by
 obtain ⟨_, _, rfl, rfl, ⟨_, _, rfl, rfl, rfl⟩⟩ := h
 exact rfl
theorem k74_mk (w : World) (x : S74)  : k74.K w x [.int .i64 x.f0, .int .i64 x.f1, .int .i64 x.f2] := ⟨[.int .i64 x.f0], [.int .i64 x.f1, .int .i64 x.f2], rfl, rfl, ⟨[.int .i64 x.f1], [.int .i64 x.f2], rfl, rfl, rfl⟩⟩
theorem k74_mkM (w : World) (base : Nat) (ok : Nat → Prop) (x : S74)  : k74.M w base ok x [.int .i64 x.f0, .int .i64 x.f1, .int .i64 x.f2] := ⟨[.int .i64 x.f0], [.int .i64 x.f1, .int .i64 x.f2], rfl, rfl, ⟨[.int .i64 x.f1], [.int .i64 x.f2], rfl, rfl, rfl⟩⟩
def rd_T74 (xs : List S74) (i : Int) : S74 := xs.getD i.toNat z74
theorem at_T74 {w : World} {A : Option Addr} {n : Nat} {xs : List S74} (h : Kd.C k74 w A n xs) (i : Int) (h0 : 0 ≤ i) (h1 : i < n) : ∃ ad , A = some ad ∧ w.cell? (ad.add (i.toNat * 3)) = some (.int .i64 (rd_T74 xs i).f0) ∧ w.cell? ⟨(ad.add (i.toNat * 3)).block, (ad.add (i.toNat * 3)).off + 1, none⟩ = some (.int .i64 (rd_T74 xs i).f1) ∧ w.cell? ⟨(ad.add (i.toNat * 3)).block, (ad.add (i.toNat * 3)).off + 2, none⟩ = some (.int .i64 (rd_T74 xs i).f2) := by
 obtain ⟨ad, c, e, _, hK, hc0⟩ := Kd.C_get h z74 i h0 h1
 have hc : ∀ j u, c[j]? = some u → w.cell? (ad.add (i.toNat * 3 + j)) = some u := hc0
 obtain rfl := k74_open hK
 exact ⟨ad, e, hc 0 _ rfl, by rw [← add_field _ _ 1 (by omega)]; exact hc 1 _ rfl, by rw [← add_field _ _ 2 (by omega)]; exact hc 2 _ rfl⟩
end Go.Proofs.Ytakhjhiofmgpnaa.PA
-- Written by a program of this claim (wip/tools: mkprint.py, pr.sh) out of the translation: plain functions and their contracts. Lean checks every line.
namespace Go.Proofs.Ytakhjhiofmgpnaa.PA
open Go.RowKit Go.Proofs.YtakhjhiofmgpnaaW.PrintWords Go.Proofs.YtakhjhiofmgpnaaW.PrintLast Go.Proofs.YtakhjhiofmgpnaaW.PrintMore Go.Proofs.Ytakhjhiofmgpnaa.G
attribute [local go_sem] max2_int min2_int max_two min_two max_three min_three max_four min_four   -- for this text's walks alone
set_option linter.unusedVariables false
set_option linter.unusedSimpArgs false
def customsmade_Within.f (a0 : Int) (a1 : Int) : Option (Int) := if a1 = 0 then (none) else (some (Int.tmod (wrap64 ((Int.tmod a0 a1) + a1)) a1))
set_option maxHeartbeats 8000000 in
set_option maxRecDepth 100000 in
theorem customsmade_Within.calls (a0 : Int) (a1 : Int) (r : Int) (w : World) (h : customsmade_Within.f a0 a1 = some r) :
  Calls Try.prog 16 #[.int .i64 a0, .int .i64 a1] w fun e w' => e = .returned (.int .i64 r) ∧ Drawn0 w w' := by
 have H : (if a1 = 0 then (none) else (some (Int.tmod (wrap64 ((Int.tmod a0 a1) + a1)) a1))) = some r := h
 clear h
 by_cases c3 : a1 = 0
 ·rw [if_pos c3] at H
  exact absurd H (by simp)
 ·rw [if_neg c3] at H
  have c3b0 : (a1 == 0) = false := beq_eq_false_iff_ne.mpr c3
  have c3b1 : (a1 != 0) = true := bne_iff_ne.mpr c3
  obtain rfl := Option.some.inj H
  go_enter Try.func16, Try.ntmps16
  go_wp2
  go_ret
  exact ⟨by first | rfl | (simp; done) | (simp [*]; done), by repeat (first | exact Drawn0.refl _ | apply Drawn0.step)⟩
/-- A state of type 55 at block g of W; what its slices lead to came in by w0. -/
def IsS55 (w0 W : World) (g : Nat) (f0 : List Int) (f1 : Int) : Prop := ∃ A0 c0, W.heap[g]? = some (.cells #[.slice A0 f0.length c0, .int .i64 f1] 55 (0, 0)) ∧ w0.heap.size ≤ g ∧ Kd.C (Kd.int .i64) w0 A0 f0.length f0
theorem IsS55.grown {w0 W : World} {g : Nat} {f0 : List Int} {f1 : Int} {W1 : World} {row : Option Nat} (h : IsS55 w0 W g f0 f1) (hw : W.grownBy W1 row) (hne : some g ≠ row) : IsS55 w0 W1 g f0 f1 := by
 obtain ⟨A0, c0, hb, hg, hr0⟩ := h
 exact ⟨A0, c0, blk_grown hb hw hne, hg, hr0⟩
theorem IsS55.below {w0 W : World} {g : Nat} {f0 : List Int} {f1 : Int} {W1 : World} (h : IsS55 w0 W g f0 f1) (hw : Below W.heap.size W W1) : IsS55 w0 W1 g f0 f1 := h.grown (grown_of_below hw none) (by simp)
theorem IsS55.drewN {w0 W : World} {g : Nat} {f0 : List Int} {f1 : Int} (h : IsS55 w0 W g f0 f1) (m : Nat) : IsS55 w0 (W.drewN m) g f0 f1 := h
theorem IsS55.drew {w0 W : World} {g : Nat} {f0 : List Int} {f1 : Int} (h : IsS55 w0 W g f0 f1) : IsS55 w0 W.drew g f0 f1 := h
theorem IsS55.at_ {w0 W : World} {g : Nat} {f0 : List Int} {f1 : Int} {w' : World} {m : Nat} (hq : W.drewN m = w') (h : IsS55 w0 W g f0 f1) : IsS55 w0 w' g f0 f1 := by subst hq; exact IsS55.drewN h m
theorem IsS55.apart {w0 W : World} {g : Nat} {f0 : List Int} {f1 : Int} {α : Type} {d : Kd α} {e : Nat} {base : Nat} {ok : Nat → Prop} {v : Value} {xs : List α} (h : IsS55 w0 W g f0 f1) (ho : d.R e W base ok v xs) (ht : ∀ q, q ∈ e :: d.E → q ≠ 55) : d.R e W base (fun k => ok k ∧ k ≠ g) v xs := by
 obtain ⟨A0, c0, hb, hg, hr0⟩ := h
 exact Kd.R_types ho hb ht
theorem IsS55.own_ne {w0 W : World} {g : Nat} {f0 : List Int} {f1 : Int} {α : Type} {d : Kd α} {e : Nat} {base : Nat} {ok : Nat → Prop} {v : Value} {xs : List α} (h : IsS55 w0 W g f0 f1) (ho : d.R e W base ok v xs) (ht : e ≠ 55) : some g ≠ v.ownBlock := by
 obtain ⟨A0, c0, hb, hg, hr0⟩ := h
 exact Kd.R_ne ho hb ht
theorem IsS55.lt {w0 W : World} {g : Nat} {f0 : List Int} {f1 : Int} (h : IsS55 w0 W g f0 f1) : g < W.heap.size := by
 obtain ⟨A0, c0, hb, hg, hr0⟩ := h
 exact blk_lt hb
theorem IsS55.ge {w0 W : World} {g : Nat} {f0 : List Int} {f1 : Int} (h : IsS55 w0 W g f0 f1) : w0.heap.size ≤ g := by
 obtain ⟨A0, c0, hb, hg, hr0⟩ := h
 exact hg
theorem IsS55.far {w0 W : World} {g : Nat} {f0 : List Int} {f1 : Int} {p : Addr} (h : IsS55 w0 W g f0 f1) (hne : g ≠ p.block) (u : Value) : IsS55 w0 (W.setCell p u) g f0 f1 := by
 obtain ⟨A0, c0, hb, hg, hr0⟩ := h
 exact ⟨A0, c0, blk_far hb hne u, hg, hr0⟩
theorem cellS55_0 {W : World} {g : Nat} {A0 : Option Addr} {c0 : Nat} {f0 : List Int} {f1 : Int} (h : W.heap[g]? = some (.cells #[.slice A0 f0.length c0, .int .i64 f1] 55 (0, 0))) : W.cell? ⟨g, 0, none⟩ = some (.slice A0 f0.length c0) := (blk_cell h 0).trans rfl
theorem cellS55_1 {W : World} {g : Nat} {A0 : Option Addr} {c0 : Nat} {f0 : List Int} {f1 : Int} (h : W.heap[g]? = some (.cells #[.slice A0 f0.length c0, .int .i64 f1] 55 (0, 0))) : W.cell? ⟨g, 1, none⟩ = some (.int .i64 f1) := (blk_cell h 1).trans rfl
theorem IsS55.set_1 {w0 W : World} {g : Nat} {f0 : List Int} {f1 : Int} (h : IsS55 w0 W g f0 f1) (x : Int) : IsS55 w0 (W.setCell ⟨g, 1, none⟩ (.int .i64 x)) g f0 x := by
 obtain ⟨A0, c0, hb, hg, hr0⟩ := h
 exact ⟨A0, c0, by simpa using blk_set hb 1 (.int .i64 x), hg, hr0⟩
def customsmade_Source_Next.f (s0_0 : List Int) (s0_1 : Int) (a1 : Int) : Option (Int × Int) := if s0_1 ≥ (s0_0.length : Int) then (some (0, s0_1)) else (if 0 ≤ (wrap64 ((wrap64 (s0_1 + 1)) - 1)) then (if (wrap64 ((wrap64 (s0_1 + 1)) - 1)) < (s0_0.length : Int) then ((customsmade_Within.f (rd s0_0 (wrap64 ((wrap64 (s0_1 + 1)) - 1))) a1).bind fun t102 => (some (t102, wrap64 (s0_1 + 1)))) else (none)) else (none))
set_option maxHeartbeats 8000000 in
set_option maxRecDepth 100000 in
theorem customsmade_Source_Next.calls (g : Nat) (s0_0 : List Int) (s0_1 : Int) (a1 : Int) (r1 : Int) (r2 : Int) (w0 w : World) (hI : IsS55 w0 w g s0_0 s0_1) (hB : Below w0.heap.size w0 w) (h : customsmade_Source_Next.f s0_0 s0_1 a1 = some (r1, r2)) :
  Calls Try.prog 31 #[.pointer (some ⟨g, 0, none⟩), .int .i64 a1] w fun e w' => e = .returned (.int .i64 r1) ∧ IsS55 w0 w' g s0_0 r2 ∧ Below w0.heap.size w0 w' ∧ KeepBut w w' g none := by
 have HI0 := Aside0.mk hI
 have HK := Aside0.mk (KeepBut.refl w g none)
 have HL := Aside0.mk hB.size
 clear hI
 have HW0 := Aside0.mk hB.size
 have HB := Aside0.mk hB
 clear hB
 have H : (if s0_1 ≥ (s0_0.length : Int) then (some (0, s0_1)) else (if 0 ≤ (wrap64 ((wrap64 (s0_1 + 1)) - 1)) then (if (wrap64 ((wrap64 (s0_1 + 1)) - 1)) < (s0_0.length : Int) then ((customsmade_Within.f (rd s0_0 (wrap64 ((wrap64 (s0_1 + 1)) - 1))) a1).bind fun t102 => (some (t102, wrap64 (s0_1 + 1)))) else (none)) else (none))) = some (r1, r2) := h
 clear h
 by_cases c3 : s0_1 ≥ (s0_0.length : Int)
 ·rw [if_pos c3] at H
  have c3b0 : decide ((s0_0.length : Int) ≤ s0_1) = true := decide_eq_true c3
  clear c3
  simp only [Option.some.injEq, Prod.mk.injEq] at H
  obtain ⟨rfl, rfl⟩ := H
  obtain ⟨ASz4_0, cSz4_0, HGz4, hgz4, HSz4_0⟩ := HI0.out
  have hcz4_0 := cellS55_0 HGz4
  have hcz4_1 := cellS55_1 HGz4
  have hfz4_1 := blk_frozen HGz4 1
  clear HGz4 hgz4
  go_enter Try.func31, Try.ntmps31
  go_wp2
  repeat (go_quiet (fail); try go_wp2)
  go_ret
  exact ⟨by first | rfl | (simp [errW_none, errW_some] <;> rfl) | (simp [*, errW_none, errW_some] <;> rfl), by repeat (first | (with_reducible first | exact HI0.out | apply IsS55.alloc | apply IsS55.drewN | apply IsS55.drew | apply IsS55.set_1) | exact HI0.out), by repeat (first | (with_reducible first | exact HB.out | apply below_alloc | apply pw_below_drewN | apply below_drew1 | refine below_set ?_ (IsS55.ge HI0.out)) | exact HB.out), by repeat (first | (with_reducible first | exact HK.out | apply KeepBut.set_ | apply keep_drewN | apply keep_drew | apply keep_alloc) | exact HK.out)⟩
 ·rw [if_neg c3] at H
  have c3b0 : decide ((s0_0.length : Int) ≤ s0_1) = false := decide_eq_false c3
  clear c3
  obtain ⟨ji5, hji5⟩ : ∃ j_ : Int, (wrap64 ((wrap64 (s0_1 + 1)) - 1)) = j_ := ⟨_, rfl⟩
  replace H : (if 0 ≤ (ji5) then (if (ji5) < (s0_0.length : Int) then ((customsmade_Within.f (rd s0_0 (ji5)) a1).bind fun t102 => (some (t102, wrap64 (s0_1 + 1)))) else (none)) else (none)) = some (r1, r2) := by first | (rw [hji5] at H; exact H) | (simp only [hji5] at H ⊢; exact H)
  have hji5w : (IntKind.i64.wrap ((wrap64 (s0_1 + 1)) - 1)) = ji5 := (i64_w _).trans hji5
  by_cases c6 : 0 ≤ (ji5)
  ·rw [if_pos c6] at H
   have c6b0 : decide (0 ≤ (ji5)) = true := decide_eq_true c6
   clear c6
   by_cases c7 : (ji5) < (s0_0.length : Int)
   ·rw [if_pos c7] at H
    have c7b0 : decide ((ji5) < (s0_0.length : Int)) = true := decide_eq_true c7
    clear c7
    replace H := Option.bind_eq_some_iff.mp H
    obtain ⟨t102, A80, H⟩ := H
    replace H : (some (t102, wrap64 (s0_1 + 1))) = some (r1, r2) := H
    have A8 := Aside0.mk A80
    clear A80
    simp only [Option.some.injEq, Prod.mk.injEq] at H
    obtain ⟨rfl, rfl⟩ := H
    obtain ⟨ASz9_0, cSz9_0, HGz9, hgz9, HSz9_0⟩ := HI0.out
    have hcz9_0 := cellS55_0 HGz9
    have hcz9_1 := cellS55_1 HGz9
    have hfz9_1 := blk_frozen HGz9 1
    clear HGz9 hgz9
    have p101 : 0 ≤ ((ji5) : Int) := of_decide_eq_true (by first | (with_reducible assumption) | assumption)
    have q101 : (ji5) < (s0_0.length : Int) := of_decide_eq_true (by first | (with_reducible assumption) | assumption)
    obtain ⟨ad101, e101, hx101_0⟩ := Kd.at_int HSz9_0 (ji5) p101 q101
    cases e101
    have hn101_0 : ad101.block ≠ g := Nat.ne_of_lt (Nat.lt_of_lt_of_le (by have := World.block_lt_of_cell? _ _ hx101_0; first | rwa [add_block] at this | exact this) (IsS55.ge HI0.out))
    replace hx101_0 := pw_cell_below HB.out hx101_0
    replace hx101_0 := (cell_far (p := ⟨g, 1, none⟩) (by first | (rw [add_block]; exact hn101_0) | (show (Addr.add _ _).block ≠ _; rw [add_block]; exact hn101_0) | exact hn101_0) (.int .i64 (wrap64 (s0_1 + 1)))).trans hx101_0
    (try have hy101_0 := fun (n_ : Nat) => (show (((w.drewN n_).setCell ⟨g, 1, none⟩ (.int .i64 (wrap64 (s0_1 + 1))))).cell? _ = some _ from hx101_0))
    clear hn101_0
    replace p101 := eq_true p101
    replace q101 := eq_true q101
    go_enter Try.func31, Try.ntmps31
    go_wp2_with (first | (go_at_call 16; (with_reducible refine (customsmade_Within.calls (rd s0_0 (ji5)) a1 t102 _ A8.out).mono ?_); rintro e w' ⟨rfl, ⟨nd, rfl⟩⟩; (try first | exact ⟨rfl, _, World.drewN_drewN _ _ _⟩ | exact ⟨rfl, _, Eq.trans (World.drewN_drewN _ _ _) (congrArg (World.drewN _) (Nat.add_assoc _ _ _))⟩)))
    repeat (go_quiet (first | (go_at_call 16; (with_reducible refine (customsmade_Within.calls (rd s0_0 (ji5)) a1 t102 _ A8.out).mono ?_); rintro e w' ⟨rfl, ⟨nd, rfl⟩⟩; (try first | exact ⟨rfl, _, World.drewN_drewN _ _ _⟩ | exact ⟨rfl, _, Eq.trans (World.drewN_drewN _ _ _) (congrArg (World.drewN _) (Nat.add_assoc _ _ _))⟩))); try go_wp2_with (first | (go_at_call 16; (with_reducible refine (customsmade_Within.calls (rd s0_0 (ji5)) a1 t102 _ A8.out).mono ?_); rintro e w' ⟨rfl, ⟨nd, rfl⟩⟩; (try first | exact ⟨rfl, _, World.drewN_drewN _ _ _⟩ | exact ⟨rfl, _, Eq.trans (World.drewN_drewN _ _ _) (congrArg (World.drewN _) (Nat.add_assoc _ _ _))⟩))))
    go_ret
    exact ⟨by first | rfl | (simp [errW_none, errW_some] <;> rfl) | (simp only [← hji5]; first | rfl | (simp [errW_none, errW_some] <;> rfl)) | (simp [*, errW_none, errW_some] <;> rfl), by repeat (first | (with_reducible first | exact HI0.out | apply IsS55.alloc | apply IsS55.drewN | apply IsS55.drew | apply IsS55.set_1) | exact HI0.out), by repeat (first | (with_reducible first | exact HB.out | apply below_alloc | apply pw_below_drewN | apply below_drew1 | refine below_set ?_ (IsS55.ge HI0.out)) | exact HB.out), by repeat (first | (with_reducible first | exact HK.out | apply KeepBut.set_ | apply keep_drewN | apply keep_drew | apply keep_alloc) | exact HK.out)⟩
   ·rw [if_neg c7] at H
    exact absurd H (by simp)
  ·rw [if_neg c6] at H
   exact absurd H (by simp)
def customsmade_Source_Left.f (s0_0 : List Int) (s0_1 : Int) : Option (Bool × Int) := some (decide (s0_1 < (s0_0.length : Int)), s0_1)
set_option maxHeartbeats 8000000 in
set_option maxRecDepth 100000 in
theorem customsmade_Source_Left.calls (g : Nat) (s0_0 : List Int) (s0_1 : Int) (r1 : Bool) (r2 : Int) (w0 w : World) (hI : IsS55 w0 w g s0_0 s0_1) (hB : Below w0.heap.size w0 w) (h : customsmade_Source_Left.f s0_0 s0_1 = some (r1, r2)) :
  Calls Try.prog 32 #[.pointer (some ⟨g, 0, none⟩)] w fun e w' => e = .returned (.bool r1) ∧ IsS55 w0 w' g s0_0 r2 ∧ Below w0.heap.size w0 w' ∧ KeepBut w w' g none := by
 have HI0 := Aside0.mk hI
 have HK := Aside0.mk (KeepBut.refl w g none)
 have HL := Aside0.mk hB.size
 clear hI
 have HW0 := Aside0.mk hB.size
 have HB := Aside0.mk hB
 clear hB
 have H : (some (decide (s0_1 < (s0_0.length : Int)), s0_1)) = some (r1, r2) := h
 clear h
 simp only [Option.some.injEq, Prod.mk.injEq] at H
 obtain ⟨rfl, rfl⟩ := H
 obtain ⟨ASz2_0, cSz2_0, HGz2, hgz2, HSz2_0⟩ := HI0.out
 have hcz2_0 := cellS55_0 HGz2
 have hcz2_1 := cellS55_1 HGz2
 have hfz2_1 := blk_frozen HGz2 1
 clear HGz2 hgz2
 go_enter Try.func32, Try.ntmps32
 go_wp2
 repeat (go_quiet (fail); try go_wp2)
 go_ret
 exact ⟨by first | rfl | (simp [errW_none, errW_some] <;> rfl) | (simp [*, errW_none, errW_some] <;> rfl), by repeat (first | (with_reducible first | exact HI0.out | apply IsS55.alloc | apply IsS55.drewN | apply IsS55.drew | apply IsS55.set_1) | exact HI0.out), by repeat (first | (with_reducible first | exact HB.out | apply below_alloc | apply pw_below_drewN | apply below_drew1 | refine below_set ?_ (IsS55.ge HI0.out)) | exact HB.out), by repeat (first | (with_reducible first | exact HK.out | apply KeepBut.set_ | apply keep_drewN | apply keep_drew | apply keep_alloc) | exact HK.out)⟩
def customsmade_Small.f (s0_0 : List Int) (s0_1 : Int) (a1 : Int) (a2 : Int) : Option (Int × Int) := (customsmade_Source_Next.f s0_0 s0_1 5).bind fun bt103 => (if bt103.1 = 4 then ((customsmade_Source_Next.f s0_0 bt103.2 a2).bind fun bt105 => (some (bt105.1, bt105.2))) else ((customsmade_Source_Next.f s0_0 bt103.2 a1).bind fun bt107 => (some (bt107.1, bt107.2))))
set_option maxHeartbeats 8000000 in
set_option maxRecDepth 100000 in
theorem customsmade_Small.calls (g : Nat) (s0_0 : List Int) (s0_1 : Int) (a1 : Int) (a2 : Int) (r1 : Int) (r2 : Int) (w0 w : World) (hI : IsS55 w0 w g s0_0 s0_1) (hB : Below w0.heap.size w0 w) (h : customsmade_Small.f s0_0 s0_1 a1 a2 = some (r1, r2)) :
  Calls Try.prog 33 #[.pointer (some ⟨g, 0, none⟩), .int .i64 a1, .int .i64 a2] w fun e w' => e = .returned (.int .i64 r1) ∧ IsS55 w0 w' g s0_0 r2 ∧ Below w0.heap.size w0 w' ∧ KeepBut w w' g none := by
 have HI0 := Aside0.mk hI
 have HK := Aside0.mk (KeepBut.refl w g none)
 have HL := Aside0.mk hB.size
 clear hI
 have HW0 := Aside0.mk hB.size
 have HB := Aside0.mk hB
 clear hB
 have H : ((customsmade_Source_Next.f s0_0 s0_1 5).bind fun bt103 => (if bt103.1 = 4 then ((customsmade_Source_Next.f s0_0 bt103.2 a2).bind fun bt105 => (some (bt105.1, bt105.2))) else ((customsmade_Source_Next.f s0_0 bt103.2 a1).bind fun bt107 => (some (bt107.1, bt107.2))))) = some (r1, r2) := h
 clear h
 replace H := Option.bind_eq_some_iff.mp H
 obtain ⟨⟨t103, t104⟩, A40, H⟩ := H
 replace H : (if t103 = 4 then ((customsmade_Source_Next.f s0_0 t104 a2).bind fun bt105 => (some (bt105.1, bt105.2))) else ((customsmade_Source_Next.f s0_0 t104 a1).bind fun bt107 => (some (bt107.1, bt107.2)))) = some (r1, r2) := H
 have A4 := Aside0.mk A40
 clear A40
 by_cases c5 : t103 = 4
 ·rw [if_pos c5] at H
  have c5b0 : (t103 == 4) = true := beq_iff_eq.mpr c5
  have c5b1 : (t103 != 4) = false := bne_eq_false_iff_eq.mpr c5
  clear c5
  replace H := Option.bind_eq_some_iff.mp H
  obtain ⟨⟨t105, t106⟩, A60, H⟩ := H
  replace H : (some (t105, t106)) = some (r1, r2) := H
  have A6 := Aside0.mk A60
  clear A60
  simp only [Option.some.injEq, Prod.mk.injEq] at H
  obtain ⟨rfl, rfl⟩ := H
  go_enter Try.func33, Try.ntmps33
  go_wp2_with (first | ((with_reducible refine gate_callee (f := 31) rfl ?_); refine goesL_ (some 8) rfl rfl Try.func31 (by kernel_rfl) rfl #[.pointer (some ⟨g, 0, none⟩), .int .i64 5] rfl argx ?_; (with_reducible refine (customsmade_Source_Next.calls g s0_0 s0_1 5 t103 t104 w0 _ ?side1 ?side2 A4.out).mono ?_); (case side1 => repeat (first | (with_reducible first | exact HI0.out | apply IsS55.alloc | apply IsS55.drewN | apply IsS55.drew | apply IsS55.set_1) | exact HI0.out)); (case side2 => repeat (first | (with_reducible first | exact HB.out | apply below_alloc | apply pw_below_drewN | apply below_drew1 | refine below_set ?_ (IsS55.ge HI0.out)) | exact HB.out)); rintro e w7 ⟨rfl, hi, hb, hk⟩; refine ⟨_, rfl, ?_⟩; have n0_ := Aside0.mk (KeepBut.trans (by repeat (first | (with_reducible first | exact HK.out | apply KeepBut.set_ | apply keep_drewN | apply keep_drew | apply keep_alloc) | exact HK.out)) hk (.inl rfl)); have n1_ := Aside0.mk (hb); have n2_ := Aside0.mk (hi); clear HK; clear HB; clear HI0; have HK := n0_; have HB := n1_; have HI0 := n2_; clear n0_ n1_ n2_; (try clear hb); (try clear hb2); (try clear hk); (try clear hi)) | ((with_reducible refine gate_callee (f := 31) rfl ?_); refine goesL_ (some 12) rfl rfl Try.func31 (by kernel_rfl) rfl #[.pointer (some ⟨g, 0, none⟩), .int .i64 a2] rfl argx ?_; (with_reducible refine (customsmade_Source_Next.calls g s0_0 t104 a2 t105 t106 w0 _ ?side1 ?side2 A6.out).mono ?_); (case side1 => repeat (first | (with_reducible first | exact HI0.out | apply IsS55.alloc | apply IsS55.drewN | apply IsS55.drew | apply IsS55.set_1) | exact HI0.out)); (case side2 => repeat (first | (with_reducible first | exact HB.out | apply below_alloc | apply pw_below_drewN | apply below_drew1 | refine below_set ?_ (IsS55.ge HI0.out)) | exact HB.out)); rintro e w8 ⟨rfl, hi, hb, hk⟩; refine ⟨_, rfl, ?_⟩; have n0_ := Aside0.mk (KeepBut.trans (by repeat (first | (with_reducible first | exact HK.out | apply KeepBut.set_ | apply keep_drewN | apply keep_drew | apply keep_alloc) | exact HK.out)) hk (.inl rfl)); have n1_ := Aside0.mk (hb); have n2_ := Aside0.mk (hi); clear HK; clear HB; clear HI0; have HK := n0_; have HB := n1_; have HI0 := n2_; clear n0_ n1_ n2_; (try clear hb); (try clear hb2); (try clear hk); (try clear hi)))
  go_ret
  exact ⟨by first | rfl | (simp [errW_none, errW_some] <;> rfl) | (simp [*, errW_none, errW_some] <;> rfl), by repeat (first | (with_reducible first | exact HI0.out | apply IsS55.alloc | apply IsS55.drewN | apply IsS55.drew | apply IsS55.set_1) | exact HI0.out), by repeat (first | (with_reducible first | exact HB.out | apply below_alloc | apply pw_below_drewN | apply below_drew1 | refine below_set ?_ (IsS55.ge HI0.out)) | exact HB.out), by repeat (first | (with_reducible first | exact HK.out | apply KeepBut.set_ | apply keep_drewN | apply keep_drew | apply keep_alloc) | exact HK.out)⟩
 ·rw [if_neg c5] at H
  have c5b0 : (t103 == 4) = false := beq_eq_false_iff_ne.mpr c5
  have c5b1 : (t103 != 4) = true := bne_iff_ne.mpr c5
  replace H := Option.bind_eq_some_iff.mp H
  obtain ⟨⟨t107, t108⟩, A90, H⟩ := H
  replace H : (some (t107, t108)) = some (r1, r2) := H
  have A9 := Aside0.mk A90
  clear A90
  simp only [Option.some.injEq, Prod.mk.injEq] at H
  obtain ⟨rfl, rfl⟩ := H
  go_enter Try.func33, Try.ntmps33
  go_wp2_with (first | ((with_reducible refine gate_callee (f := 31) rfl ?_); refine goesL_ (some 8) rfl rfl Try.func31 (by kernel_rfl) rfl #[.pointer (some ⟨g, 0, none⟩), .int .i64 5] rfl argx ?_; (with_reducible refine (customsmade_Source_Next.calls g s0_0 s0_1 5 t103 t104 w0 _ ?side1 ?side2 A4.out).mono ?_); (case side1 => repeat (first | (with_reducible first | exact HI0.out | apply IsS55.alloc | apply IsS55.drewN | apply IsS55.drew | apply IsS55.set_1) | exact HI0.out)); (case side2 => repeat (first | (with_reducible first | exact HB.out | apply below_alloc | apply pw_below_drewN | apply below_drew1 | refine below_set ?_ (IsS55.ge HI0.out)) | exact HB.out)); rintro e w10 ⟨rfl, hi, hb, hk⟩; refine ⟨_, rfl, ?_⟩; have n0_ := Aside0.mk (KeepBut.trans (by repeat (first | (with_reducible first | exact HK.out | apply KeepBut.set_ | apply keep_drewN | apply keep_drew | apply keep_alloc) | exact HK.out)) hk (.inl rfl)); have n1_ := Aside0.mk (hb); have n2_ := Aside0.mk (hi); clear HK; clear HB; clear HI0; have HK := n0_; have HB := n1_; have HI0 := n2_; clear n0_ n1_ n2_; (try clear hb); (try clear hb2); (try clear hk); (try clear hi)) | ((with_reducible refine gate_callee (f := 31) rfl ?_); refine goesL_ (some 15) rfl rfl Try.func31 (by kernel_rfl) rfl #[.pointer (some ⟨g, 0, none⟩), .int .i64 a1] rfl argx ?_; (with_reducible refine (customsmade_Source_Next.calls g s0_0 t104 a1 t107 t108 w0 _ ?side1 ?side2 A9.out).mono ?_); (case side1 => repeat (first | (with_reducible first | exact HI0.out | apply IsS55.alloc | apply IsS55.drewN | apply IsS55.drew | apply IsS55.set_1) | exact HI0.out)); (case side2 => repeat (first | (with_reducible first | exact HB.out | apply below_alloc | apply pw_below_drewN | apply below_drew1 | refine below_set ?_ (IsS55.ge HI0.out)) | exact HB.out)); rintro e w11 ⟨rfl, hi, hb, hk⟩; refine ⟨_, rfl, ?_⟩; have n0_ := Aside0.mk (KeepBut.trans (by repeat (first | (with_reducible first | exact HK.out | apply KeepBut.set_ | apply keep_drewN | apply keep_drew | apply keep_alloc) | exact HK.out)) hk (.inl rfl)); have n1_ := Aside0.mk (hb); have n2_ := Aside0.mk (hi); clear HK; clear HB; clear HI0; have HK := n0_; have HB := n1_; have HI0 := n2_; clear n0_ n1_ n2_; (try clear hb); (try clear hb2); (try clear hk); (try clear hi)))
  go_ret
  exact ⟨by first | rfl | (simp [errW_none, errW_some] <;> rfl) | (simp [*, errW_none, errW_some] <;> rfl), by repeat (first | (with_reducible first | exact HI0.out | apply IsS55.alloc | apply IsS55.drewN | apply IsS55.drew | apply IsS55.set_1) | exact HI0.out), by repeat (first | (with_reducible first | exact HB.out | apply below_alloc | apply pw_below_drewN | apply below_drew1 | refine below_set ?_ (IsS55.ge HI0.out)) | exact HB.out), by repeat (first | (with_reducible first | exact HK.out | apply KeepBut.set_ | apply keep_drewN | apply keep_drew | apply keep_alloc) | exact HK.out)⟩
mutual
def customsmade_Guarantee.l0 : Nat → Int → List Int → Int → Int → Int → Int → List (S39) → Option (Int × Int × Int × (List (S39)))
 | 0, _, _, _, _, _, _, _ => none
 | k + 1, x5, x112000, x112001, x121000, x121001, x121002, x121003 => (customsmade_Source_Left.f x112000 x112001).bind fun bt121 => (if bt121.1 = true then (customsmade_Guarantee.j1 k x5 (decide ((x121003.length : Int) < 10)) x112000 bt121.2 x121000 x121001 x121002 x121003) else (customsmade_Guarantee.j1 k x5 false x112000 bt121.2 x121000 x121001 x121002 x121003))
def customsmade_Guarantee.j1 : Nat → Int → Bool → List Int → Int → Int → Int → Int → List (S39) → Option (Int × Int × Int × (List (S39)))
 | 0, _, _, _, _, _, _, _, _ => none
 | k + 1, x5, x27, x112000, x112001, x121000, x121001, x121002, x121003 => if x27 = true then ((customsmade_Source_Next.f x112000 x112001 2).bind fun bt123 => ((customsmade_Small.f x112000 bt123.2 60 10000).bind fun bt125 => (if x121003.length < 8796093022208 then (customsmade_Guarantee.l0 k (wrap64 ((wrap64 (x5 + 1)) + bt123.1)) x112000 bt125.2 x121000 (wrap64 (x121001 + bt125.1)) x121002 (x121003 ++ [(⟨wrap64 ((wrap64 (x5 + 1)) + bt123.1), bt125.1⟩ : S39)])) else (none)))) else ((customsmade_Small.f x112000 x112001 100 1000000).bind fun bt131 => (some (x121000, wrap64 (x121001 + bt131.1), x121002, x121003)))
end
def customsmade_Guarantee.f (k : Nat) (l0 : List Int) : Option (Int × Int × Int × (List (S39))) := (customsmade_Cut.f l0 40).bind fun t110 => ((customsmade_Source_Next.f t110 0 9).bind fun bt112 => ((some (([0, 300000, 500000, 999999, 1000000] : List Int) : List Int)).bind fun y114 => ((customsmade_Source_Next.f t110 bt112.2 5).bind fun bt117 => (if 0 ≤ bt117.1 then (if bt117.1 < (y114.length : Int) then (customsmade_Guarantee.l0 k 0 t110 bt117.2 (wrap64 (1 + bt112.1)) 0 (rd y114 bt117.1) ([] : List (S39))) else (none)) else (none)))))
set_option maxHeartbeats 8000000 in
set_option maxRecDepth 100000 in
theorem customsmade_Guarantee.calls (k : Nat) (A0 : Option Addr) (c0 : Nat) (l0 : List Int) (r1 : Int) (r2 : Int) (r3 : Int) (r4 : List (S39)) (w : World) (hr0 : Kd.C (Kd.int .i64) w A0 l0.length l0) (hc0 : l0.length ≤ c0) (h : customsmade_Guarantee.f k l0 = some (r1, r2, r3, r4)) :
  Calls Try.prog 10 #[.slice A0 l0.length c0] w fun e w' => ∃ v3_ : Value, e = .returned (.agg #[.int .i64 r1, .int .i64 r2, .int .i64 r3, v3_]) ∧ Kd.R k39 39 w' w.heap.size (fun _ => True) v3_ r4 ∧ Below w.heap.size w w' := by
 have hu25 := Try.underlying25
 have hu55 := Try.underlying55
 have hu39 := Try.underlying39
 have HR0 := Aside0.mk hr0
 have HC0 := Aside0.mk hc0
 clear hr0 hc0
 have HB := Aside0.mk (Below.refl w.heap.size w)
 have H : ((customsmade_Cut.f l0 40).bind fun t110 => ((customsmade_Source_Next.f t110 0 9).bind fun bt112 => ((some (([0, 300000, 500000, 999999, 1000000] : List Int) : List Int)).bind fun y114 => ((customsmade_Source_Next.f t110 bt112.2 5).bind fun bt117 => (if 0 ≤ bt117.1 then (if bt117.1 < (y114.length : Int) then (customsmade_Guarantee.l0 k 0 t110 bt117.2 (wrap64 (1 + bt112.1)) 0 (rd y114 bt117.1) ([] : List (S39))) else (none)) else (none)))))) = some (r1, r2, r3, r4) := h
 clear h
 replace H := Option.bind_eq_some_iff.mp H
 obtain ⟨t110, A20, H⟩ := H
 replace H : ((customsmade_Source_Next.f t110 0 9).bind fun bt112 => ((some (([0, 300000, 500000, 999999, 1000000] : List Int) : List Int)).bind fun y114 => ((customsmade_Source_Next.f t110 bt112.2 5).bind fun bt117 => (if 0 ≤ bt117.1 then (if bt117.1 < (y114.length : Int) then (customsmade_Guarantee.l0 k 0 t110 bt117.2 (wrap64 (1 + bt112.1)) 0 (rd y114 bt117.1) ([] : List (S39))) else (none)) else (none))))) = some (r1, r2, r3, r4) := H
 have A2 := Aside0.mk A20
 clear A20
 replace H := Option.bind_eq_some_iff.mp H
 obtain ⟨⟨t112, t113⟩, A30, H⟩ := H
 replace H : ((some (([0, 300000, 500000, 999999, 1000000] : List Int) : List Int)).bind fun y114 => ((customsmade_Source_Next.f t110 t113 5).bind fun bt117 => (if 0 ≤ bt117.1 then (if bt117.1 < (y114.length : Int) then (customsmade_Guarantee.l0 k 0 t110 bt117.2 (wrap64 (1 + t112)) 0 (rd y114 bt117.1) ([] : List (S39))) else (none)) else (none)))) = some (r1, r2, r3, r4) := H
 have A3 := Aside0.mk A30
 clear A30
 obtain ⟨y114, hy114⟩ : ∃ y_ : List Int, y_ = (([0, 300000, 500000, 999999, 1000000] : List Int)) := ⟨_, rfl⟩
 replace H : ((customsmade_Source_Next.f t110 t113 5).bind fun bt117 => (if 0 ≤ bt117.1 then (if bt117.1 < (y114.length : Int) then (customsmade_Guarantee.l0 k 0 t110 bt117.2 (wrap64 (1 + t112)) 0 (rd y114 bt117.1) ([] : List (S39))) else (none)) else (none))) = some (r1, r2, r3, r4) := by first | (rw [hy114]; with_reducible exact H) | (have H2_ := (Option.bind_some _ _).symm.trans H; rw [hy114]; with_reducible exact H2_) | (have H2_ := (Option.bind_some _ _).symm.trans H; with_reducible exact H2_) | with_reducible exact H | (rw [hy114]; exact H) | exact H
 have Ny114 := Aside0.mk hy114
 clear hy114
 replace H := Option.bind_eq_some_iff.mp H
 obtain ⟨⟨t117, t118⟩, A40, H⟩ := H
 replace H : (if 0 ≤ t117 then (if t117 < (y114.length : Int) then (customsmade_Guarantee.l0 k 0 t110 t118 (wrap64 (1 + t112)) 0 (rd y114 t117) ([] : List (S39))) else (none)) else (none)) = some (r1, r2, r3, r4) := H
 have A4 := Aside0.mk A40
 clear A40
 by_cases c5 : 0 ≤ t117
 ·rw [if_pos c5] at H
  have c5b0 : decide (0 ≤ t117) = true := decide_eq_true c5
  clear c5
  by_cases c6 : t117 < (y114.length : Int)
  ·rw [if_pos c6] at H
   have c6b0 : decide (t117 < (y114.length : Int)) = true := decide_eq_true c6
   clear c6
   have H' := Aside0.mk H
   clear H
   go_enter Try.func10, Try.ntmps10
   go_wp2_with (first | ((with_reducible refine gate_dst (N := 2) rfl ?_); refine box_event ?hg (N := 2) ?hd (cs := #[.int .i64 0, .int .i64 0, .int .i64 0, .slice none 0 0]) (t := 25) ?hr ?_; (case hd => rfl); (case hg => rfl); (case hr => first | (go_simp; done) | (go_simp; rfl)); intro gb109 hg w7 hbox hb; have qb_ := below_both bel hb; have n0_ := Aside0.mk (qb_.1); have n1_ := Aside0.mk (hbox); have n3_ := Aside0.mk ((by rw [hg]; exact qb_.2 : w.heap.size ≤ gb109)); clear HB; have HB := n0_; have BK109 := n1_; have GE109 := n3_; clear qb_; clear n0_ n1_ n3_; clear hb hbox hg) | ((with_reducible refine gate_callee (f := 30) rfl ?_); refine goesL_ (some 8) rfl rfl Try.func30 (by kernel_rfl) rfl #[.slice A0 l0.length c0, .int .i64 40] rfl argx ?_; (with_reducible refine (customsmade_Cut.calls _ _ l0 40 t110 _ w ?side1 ?side2 A2.out).mono ?_); (case side1 => exact HR0.out); (case side2 => exact HC0.out); rintro e w' ⟨A110_9, c110_9, rfl, hr_, hc_, ⟨nd, rfl⟩⟩; refine ⟨_, rfl, ?_⟩; have HR110_9 := Aside0.mk hr_; have HC110_9 := Aside0.mk hc_; clear hr_ hc_) | ((with_reducible refine gate_dst (N := 10) rfl ?_); refine box_event ?hg (N := 10) ?hd (cs := #[.slice A110_9 t110.length c110_9, .int .i64 0]) (t := 55) ?hr ?_; (case hd => rfl); (case hg => rfl); (case hr => first | (go_simp; done) | (go_simp; rfl)); intro gb111 hg w8 hbox hb; have qb_ := below_both bel hb; have q1_ := blk_below2 (g := gb109) (o := .cells #[.int .i64 0, .int .i64 0, .int .i64 0, .slice none 0 0] 25 (0, 0)) blkx hb; have n0_ := Aside0.mk (q1_.1); have n1_ := Aside0.mk (qb_.1); have n2_ := Aside0.mk ((show IsS55 w w8 gb111 t110 0 from ⟨_, _, hbox, (by rw [hg]; exact qb_.2 : w.heap.size ≤ gb111), HR110_9.out⟩)); have n3_ := Aside0.mk ((by rw [hg]; exact Nat.ne_of_gt q1_.2 : gb111 ≠ gb109)); have n4_ := Aside0.mk (Ne.symm n3_.out); clear BK109; clear HB; have BK109 := n0_; have HB := n1_; have HI111 := n2_; have NB111_109 := n3_; have NB109_111 := n4_; clear q1_; clear qb_; clear n0_ n1_ n2_ n3_ n4_; clear hb hbox hg) | ((with_reducible refine gate_callee (f := 31) rfl ?_); refine goesL_ (some 12) rfl rfl Try.func31 (by kernel_rfl) rfl #[.pointer (some ⟨gb111, 0, none⟩), .int .i64 9] rfl argx ?_; (with_reducible refine (customsmade_Source_Next.calls gb111 t110 0 9 t112 t113 w _ ?side1 ?side2 A3.out).mono ?_); (case side1 => repeat (first | (with_reducible first | exact HI111.out | apply IsS55.alloc | apply IsS55.drewN | apply IsS55.drew | apply IsS55.set_1 | refine IsS55.far ?_ NB111_109.out _) | exact HI111.out)); (case side2 => repeat (first | (with_reducible first | exact HB.out | apply below_alloc | apply pw_below_drewN | apply below_drew1 | refine below_set ?_ (IsS55.ge HI111.out) | refine below_set ?_ GE109.out) | exact HB.out)); rintro e w9 ⟨rfl, hi, hb, hk⟩; refine ⟨_, rfl, ?_⟩; have n0_ := Aside0.mk (KeepBut.blk hk (g' := gb109) (o := .cells #[.int .i64 0, .int .i64 0, .int .i64 0, .slice none 0 0] 25 (0, 0)) blkx NB109_111.out (by simp)); have n1_ := Aside0.mk (hb); have n2_ := Aside0.mk (hi); clear BK109; clear HB; clear HI111; have BK109 := n0_; have HB := n1_; have HI111 := n2_; clear n0_ n1_ n2_; (try clear hb); (try clear hb2); (try clear hk); (try clear hi)) | ((with_reducible refine gate_dst (N := 14) rfl ?_); refine Kd.R_lit (Kd.int .i64) _ 3 ?hg (N := 14) ?hd (xs := ([0, 300000, 500000, 999999, 1000000] : List Int)) (inner := [.int .i64 0, .int .i64 300000, .int .i64 500000, .int .i64 999999, .int .i64 1000000]) (ok := fun _ => True) (okp := fun _ => True) ?hr ?hp (fun _ hk => hk) trivial (Below.refl _ _) (Nat.le_refl _) (by simp) ?_; (case hd => rfl); (case hg => rfl); (case hr => first | (go_simp; done) | (go_simp; rfl)); (case hp => exact (Reps.one (show Kd.M (Kd.int .i64) _ _ _ 0 [.int .i64 0] from rfl) (Reps.one (show Kd.M (Kd.int .i64) _ _ _ 300000 [.int .i64 300000] from rfl) (Reps.one (show Kd.M (Kd.int .i64) _ _ _ 500000 [.int .i64 500000] from rfl) (Reps.one (show Kd.M (Kd.int .i64) _ _ _ 999999 [.int .i64 999999] from rfl) (Reps.one (show Kd.M (Kd.int .i64) _ _ _ 1000000 [.int .i64 1000000] from rfl) (Reps.none _ _))))))); intro v115 w10 ho11 hb hg_ hnew_; clear hg_ hnew_; (first | rw [← Ny114.out] at ho11 | (simp only [Int.reduceToNat] at ho11; rw [← Ny114.out] at ho11)); have n0_ := Aside0.mk (Kd.R_lower ho11 (below_size (by repeat (first | (with_reducible first | exact HB.out | apply below_alloc | apply pw_below_drewN | apply below_drew1 | refine below_set ?_ (IsS55.ge HI111.out) | refine below_set ?_ GE109.out) | exact HB.out)))); have n1_ := Aside0.mk (blk_below (g := gb109) (o := .cells #[.int .i64 0, .int .i64 0, .int .i64 0, .slice none 0 0] 25 (0, 0)) blkx hb); have n2_ := Aside0.mk (IsS55.below (by repeat (first | (with_reducible first | exact HI111.out | apply IsS55.alloc | apply IsS55.drewN | apply IsS55.drew | apply IsS55.set_1 | refine IsS55.far ?_ NB111_109.out _) | exact HI111.out)) hb); have n3_ := Aside0.mk (below_step (by repeat (first | (with_reducible first | exact HB.out | apply below_alloc | apply pw_below_drewN | apply below_drew1 | refine below_set ?_ (IsS55.ge HI111.out) | refine below_set ?_ GE109.out) | exact HB.out)) hb); clear BK109; clear HI111; clear HB; have HO116 := n0_; have BK109 := n1_; have HI111 := n2_; have HB := n3_; clear n0_ n1_ n2_ n3_; clear hb ho11) | ((with_reducible refine gate_callee (f := 31) rfl ?_); refine goesL_ (some 16) rfl rfl Try.func31 (by kernel_rfl) rfl #[.pointer (some ⟨gb111, 0, none⟩), .int .i64 5] rfl argx ?_; (with_reducible refine (customsmade_Source_Next.calls gb111 t110 t113 5 t117 t118 w _ ?side1 ?side2 A4.out).mono ?_); (case side1 => repeat (first | (with_reducible first | exact HI111.out | apply IsS55.alloc | apply IsS55.drewN | apply IsS55.drew | apply IsS55.set_1 | refine IsS55.far ?_ NB111_109.out _) | exact HI111.out)); (case side2 => repeat (first | (with_reducible first | exact HB.out | apply below_alloc | apply pw_below_drewN | apply below_drew1 | refine below_set ?_ (IsS55.ge HI111.out) | refine below_set ?_ GE109.out) | exact HB.out)); rintro e w12 ⟨rfl, hi, hb, hk⟩; refine ⟨_, rfl, ?_⟩; have n0_ := Aside0.mk (KeepBut.blk hk (g' := gb109) (o := .cells #[.int .i64 0, .int .i64 0, .int .i64 0, .slice none 0 0] 25 (0, 0)) blkx NB109_111.out (by simp)); have n1_ := Aside0.mk (Kd.R_mono (Kd.R_keep (IsS55.apart (show IsS55 w _ gb111 t110 t113 from by repeat (first | (with_reducible first | exact HI111.out | apply IsS55.alloc | apply IsS55.drewN | apply IsS55.drew | apply IsS55.set_1 | refine IsS55.far ?_ NB111_109.out _) | exact HI111.out)) (rowx HO116.out) (by decide)) hk (fun _ h => h.2)) (fun _ h => h.1)); have n2_ := Aside0.mk (hb); have n3_ := Aside0.mk (hi); clear BK109; clear HO116; clear HB; clear HI111; have BK109 := n0_; have HO116 := n1_; have HB := n2_; have HI111 := n3_; clear n0_ n1_ n2_ n3_; (try clear hb); (try clear hb2); (try clear hk); (try clear hi); obtain ⟨Ao13, co13, eo13⟩ := Kd.R_slice HO116.out; subst eo13; have p119 : 0 ≤ (t117 : Int) := of_decide_eq_true (by first | (with_reducible assumption) | assumption); have q119 : t117 < (y114.length : Int) := of_decide_eq_true (by first | (with_reducible assumption) | assumption); obtain ⟨ad119, e119, hx119_0⟩ := Kd.at_int (Kd.R_reads' HO116.out).2.2 t117 p119 q119; cases e119; replace p119 := eq_true p119; replace q119 := eq_true q119) | ((with_reducible refine gate_dst (N := 4) rfl ?_); refine box_event ?hg (N := 4) ?hd (cs := #[.int .i64 0, .int .i64 0, .int .i64 0, .slice none 0 0]) (t := 25) ?hr ?_; (case hd => rfl); (case hg => rfl); (case hr => first | (go_simp; done) | (go_simp; rfl)); intro gb120 hg w14 hbox hb; have n1_ := Aside0.mk (blk_below (g := gb109) (o := .cells #[.int .i64 0, .int .i64 0, .int .i64 0, .slice none 0 0] 25 (0, 0)) blkx hb); have n2_ := Aside0.mk (IsS55.below (by repeat (first | (with_reducible first | exact HI111.out | apply IsS55.alloc | apply IsS55.drewN | apply IsS55.drew | apply IsS55.set_1 | refine IsS55.far ?_ NB111_109.out _) | exact HI111.out)) hb); have n3_ := Aside0.mk (below_step (by repeat (first | (with_reducible first | exact HB.out | apply below_alloc | apply pw_below_drewN | apply below_drew1 | refine below_set ?_ (IsS55.ge HI111.out) | refine below_set ?_ GE109.out) | exact HB.out)) hb); have n4_ := Aside0.mk (hbox); have n6_ := Aside0.mk ((by rw [hg]; exact (below_size (by repeat (first | (with_reducible first | exact HB.out | apply below_alloc | apply pw_below_drewN | apply below_drew1 | refine below_set ?_ (IsS55.ge HI111.out) | refine below_set ?_ GE109.out) | exact HB.out))) : w.heap.size ≤ gb120)); have n7_ := Aside0.mk ((by rw [hg]; exact Nat.ne_of_lt (blk_lt (g := gb109) (o := .cells #[.int .i64 0, .int .i64 0, .int .i64 0, .slice none 0 0] 25 (0, 0)) blkx) : gb109 ≠ gb120)); have n8_ := Aside0.mk ((by rw [hg]; exact Nat.ne_of_gt (blk_lt (g := gb109) (o := .cells #[.int .i64 0, .int .i64 0, .int .i64 0, .slice none 0 0] 25 (0, 0)) blkx) : gb120 ≠ gb109)); have n9_ := Aside0.mk ((by rw [hg]; exact Nat.ne_of_lt (IsS55.lt (show IsS55 w _ gb111 t110 t118 from by repeat (first | (with_reducible first | exact HI111.out | apply IsS55.alloc | apply IsS55.drewN | apply IsS55.drew | apply IsS55.set_1 | refine IsS55.far ?_ NB111_109.out _) | exact HI111.out))) : gb111 ≠ gb120)); have n10_ := Aside0.mk ((by rw [hg]; exact Nat.ne_of_gt (IsS55.lt (show IsS55 w _ gb111 t110 t118 from by repeat (first | (with_reducible first | exact HI111.out | apply IsS55.alloc | apply IsS55.drewN | apply IsS55.drew | apply IsS55.set_1 | refine IsS55.far ?_ NB111_109.out _) | exact HI111.out))) : gb120 ≠ gb111)); (try clear HO116); clear BK109; clear HI111; clear HB; have BK109 := n1_; have HI111 := n2_; have HB := n3_; have BK120 := n4_; have GE120 := n6_; have NB109_120 := n7_; have NB120_109 := n8_; have NB111_120 := n9_; have NB120_111 := n10_; clear n1_ n2_ n3_ n4_ n6_ n7_ n8_ n9_ n10_; clear hb hbox hg; have hnb15 := NB120_109.out; have hnc15 := NB109_120.out; have hnb16 := NB120_111.out; have hnc16 := NB111_120.out; obtain ⟨hcz17_0, hcz17_1, hcz17_2, hcz17_3, hfz17_0, hfz17_1, hfz17_2, hfz17_3⟩ := cells4 BK120.out))
   go_loopg [5] k (fun kq v5 w' => ∃ (x5_1 : Int) (x112001_1 : Int) (x121001_1 : Int) (x121003_1 : List (S39)) (u121003 : Value), v5 = .int .i64 x5_1 ∧ Aside0 (customsmade_Guarantee.l0 kq x5_1 t110 x112001_1 (wrap64 (1 + t112)) x121001_1 (rd y114 t117) x121003_1 = some (r1, r2, r3, r4)) ∧ Aside0 (kq ≤ k) ∧ Aside0 (Kd.R k39 39 w' w.heap.size (fun _ => True) u121003 x121003_1) ∧ Aside0 (w'.heap[gb109]? = some (.cells #[.int .i64 0, .int .i64 0, .int .i64 0, (.slice none 0 0)] 25 (0, 0))) ∧ Aside0 (w'.heap[gb120]? = some (.cells #[.int .i64 (wrap64 (1 + t112)), .int .i64 x121001_1, .int .i64 (rd y114 t117), u121003] 25 (0, 0))) ∧ Aside0 (IsS55 w w' gb111 t110 x112001_1) ∧ Aside0 (Below w.heap.size w w'))
   case atStart => exact ⟨(0), (t118), (0), (([] : List (S39))), (.slice none 0 0), (by first | rfl | (simp; done) | (simp [*]; done)), H', ⟨Nat.le_refl _⟩, ⟨by first | exact Kd.R_nil _ _ _ _ _ | exact Kd.N_nil _ _ _ _ _ | exact Kd.V_nil _ _ _ _ _ | exact Kd.Q_nil _ _ _ _ _ | exact Kd.S_nil _ _ _ _ _⟩, ⟨by (with_reducible repeat (first | refine blk_drewN ?_ _ | refine blk_drew ?_ | refine blk_alloc ?_ _)); refine blk_far ?_ NB109_120.out _; (with_reducible repeat (first | refine blk_drewN ?_ _ | refine blk_drew ?_ | refine blk_alloc ?_ _)); refine blk_far ?_ NB109_120.out _; (with_reducible repeat (first | refine blk_drewN ?_ _ | refine blk_drew ?_ | refine blk_alloc ?_ _)); refine blk_far ?_ NB109_120.out _; (with_reducible repeat (first | refine blk_drewN ?_ _ | refine blk_drew ?_ | refine blk_alloc ?_ _)); refine blk_far ?_ NB109_120.out _; (with_reducible repeat (first | refine blk_drewN ?_ _ | refine blk_drew ?_ | refine blk_alloc ?_ _)); exact BK109.out⟩, ⟨by (with_reducible repeat (first | refine blk_drewN ?_ _ | refine blk_drew ?_ | refine blk_alloc ?_ _)); refine blk_put (cs := #[.int .i64 (wrap64 (1 + t112)), .int .i64 0, .int .i64 (rd y114 t117), .slice none 0 0]) ?_ 3 _ rfl; (with_reducible repeat (first | refine blk_drewN ?_ _ | refine blk_drew ?_ | refine blk_alloc ?_ _)); refine blk_put (cs := #[.int .i64 (wrap64 (1 + t112)), .int .i64 0, .int .i64 0, .slice none 0 0]) ?_ 2 _ rfl; (with_reducible repeat (first | refine blk_drewN ?_ _ | refine blk_drew ?_ | refine blk_alloc ?_ _)); refine blk_put (cs := #[.int .i64 (wrap64 (1 + t112)), .int .i64 0, .int .i64 0, .slice none 0 0]) ?_ 1 _ rfl; (with_reducible repeat (first | refine blk_drewN ?_ _ | refine blk_drew ?_ | refine blk_alloc ?_ _)); refine blk_put (cs := #[.int .i64 0, .int .i64 0, .int .i64 0, .slice none 0 0]) ?_ 0 _ rfl; (with_reducible repeat (first | refine blk_drewN ?_ _ | refine blk_drew ?_ | refine blk_alloc ?_ _)); exact BK120.out⟩, ⟨by repeat (first | (with_reducible first | exact HI111.out | apply IsS55.alloc | apply IsS55.drewN | apply IsS55.drew | apply IsS55.set_1 | refine IsS55.far ?_ NB111_109.out _ | refine IsS55.far ?_ NB111_120.out _) | exact HI111.out)⟩, ⟨by repeat (first | (with_reducible first | exact HB.out | apply below_alloc | apply pw_below_drewN | apply below_drew1 | refine below_set ?_ (IsS55.ge HI111.out) | refine below_set ?_ GE109.out | refine below_set ?_ GE120.out) | exact HB.out)⟩⟩
   case round =>
    clear H'
    try clear c1
    try clear p1
    try clear q1
    try clear hx1
    try clear p2
    try clear c3
    try clear c5
    try clear c5b0
    try clear c6
    try clear c6b0
    try clear p6
    try clear c10
    try clear c11
    try clear p11
    try clear q11
    try clear hx11
    try clear c15
    try clear c16
    try clear hcz17_0
    try clear hcz17_1
    try clear hcz17_2
    try clear hcz17_3
    try clear hfz17_0
    try clear hfz17_1
    try clear hfz17_2
    try clear hfz17_3
    try clear hx119_0
    try clear p119
    try clear q119
    obtain ⟨x5_1, x112001_1, x121001_1, x121003_1, u121003, rfl, HA, HK1, HO_121003, BK109, BK120, HI111, HB⟩ := hrel
    cases gk with
    | zero => exact absurd HA.out (by simp [customsmade_Guarantee.l0])
    | succ k1 =>
     have H := HA.out
     clear HA
     simp only [customsmade_Guarantee.l0] at H
     have HC18 := Aside0.mk H
     clear H
     go_upto_region 4 with (fail)
     go_cut [27] (fun v27 wc => ∃ (kq : Nat) (x27_17 : Bool) (x112001_17 : Int), v27 = .bool x27_17 ∧ Aside0 (customsmade_Guarantee.j1 kq x5_1 x27_17 t110 x112001_17 (wrap64 (1 + t112)) x121001_1 (rd y114 t117) x121003_1 = some (r1, r2, r3, r4)) ∧ Aside0 (kq ≤ k1) ∧ Aside0 (Kd.R k39 39 wc w.heap.size (fun _ => True) u121003 x121003_1) ∧ Aside0 (wc.heap[gb109]? = some (.cells #[.int .i64 0, .int .i64 0, .int .i64 0, (.slice none 0 0)] 25 (0, 0))) ∧ Aside0 (wc.heap[gb120]? = some (.cells #[.int .i64 (wrap64 (1 + t112)), .int .i64 x121001_1, .int .i64 (rd y114 t117), u121003] 25 (0, 0))) ∧ Aside0 (IsS55 w wc gb111 t110 x112001_17) ∧ Aside0 (Below w.heap.size w wc))
     case first =>
      have H := HC18.out
      clear HC18
      replace H := Option.bind_eq_some_iff.mp H
      obtain ⟨⟨t121, t122⟩, A190, H⟩ := H
      replace H : (if t121 = true then (customsmade_Guarantee.j1 k1 x5_1 (decide ((x121003_1.length : Int) < 10)) t110 t122 (wrap64 (1 + t112)) x121001_1 (rd y114 t117) x121003_1) else (customsmade_Guarantee.j1 k1 x5_1 false t110 t122 (wrap64 (1 + t112)) x121001_1 (rd y114 t117) x121003_1)) = some (r1, r2, r3, r4) := H
      have A19 := Aside0.mk A190
      clear A190
      by_cases c20 : t121 = true
      ·subst c20
       have H1 : (customsmade_Guarantee.j1 k1 x5_1 (decide ((x121003_1.length : Int) < 10)) t110 t122 (wrap64 (1 + t112)) x121001_1 (rd y114 t117) x121003_1) = some (r1, r2, r3, r4) := by rw [if_pos rfl] at H; exact H
       clear H
       have H := H1
       clear H1
       have H' := Aside0.mk H
       clear H
       go_wp2_with (first | ((with_reducible refine gate_callee (f := 32) rfl ?_); refine goesL_ (some 21) rfl rfl Try.func32 (by kernel_rfl) rfl #[.pointer (some ⟨gb111, 0, none⟩)] rfl argx ?_; (with_reducible refine (customsmade_Source_Left.calls gb111 t110 x112001_1 true t122 w _ ?side1 ?side2 A19.out).mono ?_); (case side1 => repeat (first | (with_reducible first | exact HI111.out | apply IsS55.alloc | apply IsS55.drewN | apply IsS55.drew | apply IsS55.set_1 | refine IsS55.far ?_ NB111_109.out _ | refine IsS55.far ?_ NB111_120.out _) | exact HI111.out)); (case side2 => repeat (first | (with_reducible first | exact HB.out | apply below_alloc | apply pw_below_drewN | apply below_drew1 | refine below_set ?_ (IsS55.ge HI111.out) | refine below_set ?_ GE109.out | refine below_set ?_ GE120.out) | exact HB.out)); rintro e w21 ⟨rfl, hi, hb, hk⟩; refine ⟨_, rfl, ?_⟩; have n0_ := Aside0.mk (Kd.R_mono (Kd.R_keep (IsS55.apart (show IsS55 w _ gb111 t110 x112001_1 from by repeat (first | (with_reducible first | exact HI111.out | apply IsS55.alloc | apply IsS55.drewN | apply IsS55.drew | apply IsS55.set_1 | refine IsS55.far ?_ NB111_109.out _ | refine IsS55.far ?_ NB111_120.out _) | exact HI111.out)) (rowx HO_121003.out) (by decide)) hk (fun _ h => h.2)) (fun _ h => h.1)); have n1_ := Aside0.mk (KeepBut.blk hk (g' := gb109) (o := .cells #[.int .i64 0, .int .i64 0, .int .i64 0, .slice none 0 0] 25 (0, 0)) blkx NB109_111.out (by simp)); have n2_ := Aside0.mk (KeepBut.blk hk (g' := gb120) (o := .cells #[.int .i64 (wrap64 (1 + t112)), .int .i64 x121001_1, .int .i64 (rd y114 t117), u121003] 25 (0, 0)) blkx NB120_111.out (by simp)); have n3_ := Aside0.mk (hb); have n4_ := Aside0.mk (hi); clear HO_121003; clear BK109; clear BK120; clear HB; clear HI111; have HO_121003 := n0_; have BK109 := n1_; have BK120 := n2_; have HB := n3_; have HI111 := n4_; clear n0_ n1_ n2_ n3_ n4_; (try clear hb); (try clear hb2); (try clear hk); (try clear hi); have hnb22 := NB120_109.out; have hnc22 := NB109_120.out; have hnb23 := NB120_111.out; have hnc23 := NB111_120.out; obtain ⟨hcz24_0, hcz24_1, hcz24_2, hcz24_3, hfz24_0, hfz24_1, hfz24_2, hfz24_3⟩ := cells4 BK120.out; obtain ⟨Ao25, co25, eo25⟩ := Kd.R_slice HO_121003.out; subst eo25))
       go_meet
       case rel => exact ⟨_, (decide ((x121003_1.length : Int) < 10)), (t122), (by first | rfl | (simp; done) | (simp [*]; done)), H', ⟨by have := HK1.out; first | omega | exact Nat.le_refl _⟩, ⟨by (with_reducible repeat (first | apply Kd.R_alloc | apply Kd.R_drewN | apply Kd.R_drew)); exact HO_121003.out⟩, ⟨by (with_reducible repeat (first | refine blk_drewN ?_ _ | refine blk_drew ?_ | refine blk_alloc ?_ _)); exact BK109.out⟩, ⟨by (with_reducible repeat (first | refine blk_drewN ?_ _ | refine blk_drew ?_ | refine blk_alloc ?_ _)); exact BK120.out⟩, ⟨by repeat (first | (with_reducible first | exact HI111.out | apply IsS55.alloc | apply IsS55.drewN | apply IsS55.drew | apply IsS55.set_1 | refine IsS55.far ?_ NB111_109.out _ | refine IsS55.far ?_ NB111_120.out _) | exact HI111.out)⟩, ⟨by repeat (first | (with_reducible first | exact HB.out | apply below_alloc | apply pw_below_drewN | apply below_drew1 | refine below_set ?_ (IsS55.ge HI111.out) | refine below_set ?_ GE109.out | refine below_set ?_ GE120.out) | exact HB.out)⟩⟩
      ·replace c20 := Bool.eq_false_iff.mpr c20
       subst c20
       have H1 : (customsmade_Guarantee.j1 k1 x5_1 false t110 t122 (wrap64 (1 + t112)) x121001_1 (rd y114 t117) x121003_1) = some (r1, r2, r3, r4) := by rw [if_neg (show ¬ (false = true) by decide)] at H; exact H
       clear H
       have H := H1
       clear H1
       have H' := Aside0.mk H
       clear H
       go_wp2_with (first | ((with_reducible refine gate_callee (f := 32) rfl ?_); refine goesL_ (some 21) rfl rfl Try.func32 (by kernel_rfl) rfl #[.pointer (some ⟨gb111, 0, none⟩)] rfl argx ?_; (with_reducible refine (customsmade_Source_Left.calls gb111 t110 x112001_1 false t122 w _ ?side1 ?side2 A19.out).mono ?_); (case side1 => repeat (first | (with_reducible first | exact HI111.out | apply IsS55.alloc | apply IsS55.drewN | apply IsS55.drew | apply IsS55.set_1 | refine IsS55.far ?_ NB111_109.out _ | refine IsS55.far ?_ NB111_120.out _) | exact HI111.out)); (case side2 => repeat (first | (with_reducible first | exact HB.out | apply below_alloc | apply pw_below_drewN | apply below_drew1 | refine below_set ?_ (IsS55.ge HI111.out) | refine below_set ?_ GE109.out | refine below_set ?_ GE120.out) | exact HB.out)); rintro e w26 ⟨rfl, hi, hb, hk⟩; refine ⟨_, rfl, ?_⟩; have n0_ := Aside0.mk (Kd.R_mono (Kd.R_keep (IsS55.apart (show IsS55 w _ gb111 t110 x112001_1 from by repeat (first | (with_reducible first | exact HI111.out | apply IsS55.alloc | apply IsS55.drewN | apply IsS55.drew | apply IsS55.set_1 | refine IsS55.far ?_ NB111_109.out _ | refine IsS55.far ?_ NB111_120.out _) | exact HI111.out)) (rowx HO_121003.out) (by decide)) hk (fun _ h => h.2)) (fun _ h => h.1)); have n1_ := Aside0.mk (KeepBut.blk hk (g' := gb109) (o := .cells #[.int .i64 0, .int .i64 0, .int .i64 0, .slice none 0 0] 25 (0, 0)) blkx NB109_111.out (by simp)); have n2_ := Aside0.mk (KeepBut.blk hk (g' := gb120) (o := .cells #[.int .i64 (wrap64 (1 + t112)), .int .i64 x121001_1, .int .i64 (rd y114 t117), u121003] 25 (0, 0)) blkx NB120_111.out (by simp)); have n3_ := Aside0.mk (hb); have n4_ := Aside0.mk (hi); clear HO_121003; clear BK109; clear BK120; clear HB; clear HI111; have HO_121003 := n0_; have BK109 := n1_; have BK120 := n2_; have HB := n3_; have HI111 := n4_; clear n0_ n1_ n2_ n3_ n4_; (try clear hb); (try clear hb2); (try clear hk); (try clear hi)))
       go_meet
       case rel => exact ⟨_, (false), (t122), (by first | rfl | (simp; done) | (simp [*]; done)), H', ⟨by have := HK1.out; first | omega | exact Nat.le_refl _⟩, ⟨by (with_reducible repeat (first | apply Kd.R_alloc | apply Kd.R_drewN | apply Kd.R_drew)); exact HO_121003.out⟩, ⟨by (with_reducible repeat (first | refine blk_drewN ?_ _ | refine blk_drew ?_ | refine blk_alloc ?_ _)); exact BK109.out⟩, ⟨by (with_reducible repeat (first | refine blk_drewN ?_ _ | refine blk_drew ?_ | refine blk_alloc ?_ _)); exact BK120.out⟩, ⟨by repeat (first | (with_reducible first | exact HI111.out | apply IsS55.alloc | apply IsS55.drewN | apply IsS55.drew | apply IsS55.set_1 | refine IsS55.far ?_ NB111_109.out _ | refine IsS55.far ?_ NB111_120.out _) | exact HI111.out)⟩, ⟨by repeat (first | (with_reducible first | exact HB.out | apply below_alloc | apply pw_below_drewN | apply below_drew1 | refine below_set ?_ (IsS55.ge HI111.out) | refine below_set ?_ GE109.out | refine below_set ?_ GE120.out) | exact HB.out)⟩⟩
     case rest =>
      clear HC18
      try clear c1
      try clear p1
      try clear q1
      try clear hx1
      try clear c2
      try clear p2
      try clear c3
      try clear c5
      try clear c5b0
      try clear c6
      try clear c6b0
      try clear p6
      try clear c10
      try clear c11
      try clear p11
      try clear q11
      try clear hx11
      try clear c15
      try clear c16
      try clear c20
      try clear c22
      try clear c23
      try clear hcz17_0
      try clear hcz17_1
      try clear hcz17_2
      try clear hcz17_3
      try clear hcz24_0
      try clear hcz24_1
      try clear hcz24_2
      try clear hcz24_3
      try clear hfz17_0
      try clear hfz17_1
      try clear hfz17_2
      try clear hfz17_3
      try clear hfz24_0
      try clear hfz24_1
      try clear hfz24_2
      try clear hfz24_3
      try clear hx119_0
      try clear p1
      try clear p11
      try clear p119
      try clear p2
      try clear p6
      try clear q1
      try clear q11
      try clear q119
      obtain ⟨kq, x27_17, x112001_17, rfl, HA, HJ17, HO_121003, BK109, BK120, HI111, HB⟩ := hcut
      cases kq with
      | zero => exact absurd HA.out (by simp [customsmade_Guarantee.j1])
      | succ kj17 =>
       have H := HA.out
       clear HA
       simp only [customsmade_Guarantee.j1] at H
       by_cases c27 : x27_17 = true
       ·subst c27
        have H1 : ((customsmade_Source_Next.f t110 x112001_17 2).bind fun bt123 => ((customsmade_Small.f t110 bt123.2 60 10000).bind fun bt125 => (if x121003_1.length < 8796093022208 then (customsmade_Guarantee.l0 kj17 (wrap64 ((wrap64 (x5_1 + 1)) + bt123.1)) t110 bt125.2 (wrap64 (1 + t112)) (wrap64 (x121001_1 + bt125.1)) (rd y114 t117) (x121003_1 ++ [(⟨wrap64 ((wrap64 (x5_1 + 1)) + bt123.1), bt125.1⟩ : S39)])) else (none)))) = some (r1, r2, r3, r4) := by rw [if_pos rfl] at H; exact H
        clear H
        have H := H1
        clear H1
        replace H := Option.bind_eq_some_iff.mp H
        obtain ⟨⟨t123, t124⟩, A280, H⟩ := H
        replace H : ((customsmade_Small.f t110 t124 60 10000).bind fun bt125 => (if x121003_1.length < 8796093022208 then (customsmade_Guarantee.l0 kj17 (wrap64 ((wrap64 (x5_1 + 1)) + t123)) t110 bt125.2 (wrap64 (1 + t112)) (wrap64 (x121001_1 + bt125.1)) (rd y114 t117) (x121003_1 ++ [(⟨wrap64 ((wrap64 (x5_1 + 1)) + t123), bt125.1⟩ : S39)])) else (none))) = some (r1, r2, r3, r4) := H
        have A28 := Aside0.mk A280
        clear A280
        replace H := Option.bind_eq_some_iff.mp H
        obtain ⟨⟨t125, t126⟩, A290, H⟩ := H
        replace H : (if x121003_1.length < 8796093022208 then (customsmade_Guarantee.l0 kj17 (wrap64 ((wrap64 (x5_1 + 1)) + t123)) t110 t126 (wrap64 (1 + t112)) (wrap64 (x121001_1 + t125)) (rd y114 t117) (x121003_1 ++ [(⟨wrap64 ((wrap64 (x5_1 + 1)) + t123), t125⟩ : S39)])) else (none)) = some (r1, r2, r3, r4) := H
        have A29 := Aside0.mk A290
        clear A290
        by_cases c30 : x121003_1.length < 8796093022208
        ·rw [if_pos c30] at H
         have LMc30 := Aside0.mk c30
         clear c30
         obtain ⟨y128, hy128⟩ : ∃ y_ : List (S39), y_ = (x121003_1 ++ [(⟨wrap64 ((wrap64 (x5_1 + 1)) + t123), t125⟩ : S39)]) := ⟨_, rfl⟩
         replace H : (customsmade_Guarantee.l0 kj17 (wrap64 ((wrap64 (x5_1 + 1)) + t123)) t110 t126 (wrap64 (1 + t112)) (wrap64 (x121001_1 + t125)) (rd y114 t117) y128) = some (r1, r2, r3, r4) := by first | (rw [hy128]; with_reducible exact H) | (have H2_ := (Option.bind_some _ _).symm.trans H; rw [hy128]; with_reducible exact H2_) | (have H2_ := (Option.bind_some _ _).symm.trans H; with_reducible exact H2_) | with_reducible exact H | (rw [hy128]; exact H) | exact H
         have Ny128 := Aside0.mk hy128
         clear hy128
         have H' := Aside0.mk H
         clear H
         go_wp2_with (first | ((with_reducible refine gate_callee (f := 31) rfl ?_); refine goesL_ (some 31) rfl rfl Try.func31 (by kernel_rfl) rfl #[.pointer (some ⟨gb111, 0, none⟩), .int .i64 2] rfl argx ?_; (with_reducible refine (customsmade_Source_Next.calls gb111 t110 x112001_17 2 t123 t124 w _ ?side1 ?side2 A28.out).mono ?_); (case side1 => repeat (first | (with_reducible first | exact HI111.out | apply IsS55.alloc | apply IsS55.drewN | apply IsS55.drew | apply IsS55.set_1 | refine IsS55.far ?_ NB111_109.out _ | refine IsS55.far ?_ NB111_120.out _) | exact HI111.out)); (case side2 => repeat (first | (with_reducible first | exact HB.out | apply below_alloc | apply pw_below_drewN | apply below_drew1 | refine below_set ?_ (IsS55.ge HI111.out) | refine below_set ?_ GE109.out | refine below_set ?_ GE120.out) | exact HB.out)); rintro e w31 ⟨rfl, hi, hb, hk⟩; refine ⟨_, rfl, ?_⟩; have n0_ := Aside0.mk (Kd.R_mono (Kd.R_keep (IsS55.apart (show IsS55 w _ gb111 t110 x112001_17 from by repeat (first | (with_reducible first | exact HI111.out | apply IsS55.alloc | apply IsS55.drewN | apply IsS55.drew | apply IsS55.set_1 | refine IsS55.far ?_ NB111_109.out _ | refine IsS55.far ?_ NB111_120.out _) | exact HI111.out)) (rowx HO_121003.out) (by decide)) hk (fun _ h => h.2)) (fun _ h => h.1)); have n1_ := Aside0.mk (KeepBut.blk hk (g' := gb109) (o := .cells #[.int .i64 0, .int .i64 0, .int .i64 0, .slice none 0 0] 25 (0, 0)) blkx NB109_111.out (by simp)); have n2_ := Aside0.mk (KeepBut.blk hk (g' := gb120) (o := .cells #[.int .i64 (wrap64 (1 + t112)), .int .i64 x121001_1, .int .i64 (rd y114 t117), u121003] 25 (0, 0)) blkx NB120_111.out (by simp)); have n3_ := Aside0.mk (hb); have n4_ := Aside0.mk (hi); clear HO_121003; clear BK109; clear BK120; clear HB; clear HI111; have HO_121003 := n0_; have BK109 := n1_; have BK120 := n2_; have HB := n3_; have HI111 := n4_; clear n0_ n1_ n2_ n3_ n4_; (try clear hb); (try clear hb2); (try clear hk); (try clear hi)) | ((with_reducible refine gate_callee (f := 33) rfl ?_); refine goesL_ (some 35) rfl rfl Try.func33 (by kernel_rfl) rfl #[.pointer (some ⟨gb111, 0, none⟩), .int .i64 60, .int .i64 10000] rfl argx ?_; (with_reducible refine (customsmade_Small.calls gb111 t110 t124 60 10000 t125 t126 w _ ?side1 ?side2 A29.out).mono ?_); (case side1 => repeat (first | (with_reducible first | exact HI111.out | apply IsS55.alloc | apply IsS55.drewN | apply IsS55.drew | apply IsS55.set_1 | refine IsS55.far ?_ NB111_109.out _ | refine IsS55.far ?_ NB111_120.out _) | exact HI111.out)); (case side2 => repeat (first | (with_reducible first | exact HB.out | apply below_alloc | apply pw_below_drewN | apply below_drew1 | refine below_set ?_ (IsS55.ge HI111.out) | refine below_set ?_ GE109.out | refine below_set ?_ GE120.out) | exact HB.out)); rintro e w32 ⟨rfl, hi, hb, hk⟩; refine ⟨_, rfl, ?_⟩; have n0_ := Aside0.mk (Kd.R_mono (Kd.R_keep (IsS55.apart (show IsS55 w _ gb111 t110 t124 from by repeat (first | (with_reducible first | exact HI111.out | apply IsS55.alloc | apply IsS55.drewN | apply IsS55.drew | apply IsS55.set_1 | refine IsS55.far ?_ NB111_109.out _ | refine IsS55.far ?_ NB111_120.out _) | exact HI111.out)) (rowx HO_121003.out) (by decide)) hk (fun _ h => h.2)) (fun _ h => h.1)); have n1_ := Aside0.mk (KeepBut.blk hk (g' := gb109) (o := .cells #[.int .i64 0, .int .i64 0, .int .i64 0, .slice none 0 0] 25 (0, 0)) blkx NB109_111.out (by simp)); have n2_ := Aside0.mk (KeepBut.blk hk (g' := gb120) (o := .cells #[.int .i64 (wrap64 (1 + t112)), .int .i64 x121001_1, .int .i64 (rd y114 t117), u121003] 25 (0, 0)) blkx NB120_111.out (by simp)); have n3_ := Aside0.mk (hb); have n4_ := Aside0.mk (hi); clear HO_121003; clear BK109; clear BK120; clear HB; clear HI111; have HO_121003 := n0_; have BK109 := n1_; have BK120 := n2_; have HB := n3_; have HI111 := n4_; clear n0_ n1_ n2_ n3_ n4_; (try clear hb); (try clear hb2); (try clear hk); (try clear hi)) | ((with_reducible refine gate_dst (N := 6) rfl ?_); refine box_event ?hg (N := 6) ?hd (cs := #[.int .i64 0, .int .i64 0]) (t := 39) ?hr ?_; (case hd => rfl); (case hg => rfl); (case hr => first | (go_simp; done) | (go_simp; rfl)); intro gb127 hg w33 hbox hb; have n0_ := Aside0.mk (Kd.R_below (Kd.R_elderB (rowx HO_121003.out) gb127 (Nat.le_of_eq hg.symm)) hb); have q1_ := blk_below2 (g := gb109) (o := .cells #[.int .i64 0, .int .i64 0, .int .i64 0, .slice none 0 0] 25 (0, 0)) blkx hb; have n1_ := Aside0.mk (q1_.1); have q2_ := blk_below2 (g := gb120) (o := .cells #[.int .i64 (wrap64 (1 + t112)), .int .i64 x121001_1, .int .i64 (rd y114 t117), u121003] 25 (0, 0)) blkx hb; have n2_ := Aside0.mk (q2_.1); have n3_ := Aside0.mk (IsS55.below (by repeat (first | (with_reducible first | exact HI111.out | apply IsS55.alloc | apply IsS55.drewN | apply IsS55.drew | apply IsS55.set_1 | refine IsS55.far ?_ NB111_109.out _ | refine IsS55.far ?_ NB111_120.out _) | exact HI111.out)) hb); have n4_ := Aside0.mk (below_step (by repeat (first | (with_reducible first | exact HB.out | apply below_alloc | apply pw_below_drewN | apply below_drew1 | refine below_set ?_ (IsS55.ge HI111.out) | refine below_set ?_ GE109.out | refine below_set ?_ GE120.out) | exact HB.out)) hb); have n5_ := Aside0.mk (hbox); have n7_ := Aside0.mk ((by rw [hg]; exact (below_size (by repeat (first | (with_reducible first | exact HB.out | apply below_alloc | apply pw_below_drewN | apply below_drew1 | refine below_set ?_ (IsS55.ge HI111.out) | refine below_set ?_ GE109.out | refine below_set ?_ GE120.out) | exact HB.out))) : w.heap.size ≤ gb127)); have n8_ := Aside0.mk ((by rw [hg]; exact Nat.ne_of_lt q1_.2 : gb109 ≠ gb127)); have n9_ := Aside0.mk (Ne.symm n8_.out); have n10_ := Aside0.mk ((by rw [hg]; exact Nat.ne_of_lt q2_.2 : gb120 ≠ gb127)); have n11_ := Aside0.mk (Ne.symm n10_.out); have n12_ := Aside0.mk ((by rw [hg]; exact Nat.ne_of_lt (IsS55.lt (show IsS55 w _ gb111 t110 t126 from by repeat (first | (with_reducible first | exact HI111.out | apply IsS55.alloc | apply IsS55.drewN | apply IsS55.drew | apply IsS55.set_1 | refine IsS55.far ?_ NB111_109.out _ | refine IsS55.far ?_ NB111_120.out _) | exact HI111.out))) : gb111 ≠ gb127)); have n13_ := Aside0.mk (Ne.symm n12_.out); clear HO_121003; clear BK109; clear BK120; clear HI111; clear HB; have HO_121003 := n0_; have BK109 := n1_; have BK120 := n2_; have HI111 := n3_; have HB := n4_; have BK127 := n5_; have GE127 := n7_; have NB109_127 := n8_; have NB127_109 := n9_; have NB120_127 := n10_; have NB127_120 := n11_; have NB111_127 := n12_; have NB127_111 := n13_; clear q1_ q2_; clear n0_ n1_ n2_ n3_ n4_ n5_ n7_ n8_ n9_ n10_ n11_ n12_ n13_; clear hb hbox hg; have hnb34 := NB127_109.out; have hnc34 := NB109_127.out; have hnb35 := NB127_120.out; have hnc35 := NB120_127.out; have hnb36 := NB127_111.out; have hnc36 := NB111_127.out; obtain ⟨hcz37_0, hcz37_1, hfz37_0, hfz37_1⟩ := cells2 BK127.out; have hnb38 := NB120_109.out; have hnc38 := NB109_120.out; have hnb39 := NB120_111.out; have hnc39 := NB111_120.out; obtain ⟨hcz40_0, hcz40_1, hcz40_2, hcz40_3, hfz40_0, hfz40_1, hfz40_2, hfz40_3⟩ := cells4 BK120.out) | ((with_reducible refine gate_builtin (b := .append) (xs := #[.tmp 38, .tmp 40]) rfl ?_); at_builtin; refine Kd.R_append k39 (w0 := w) w.heap.size rfl (.tmp 38) (.tmp 40) 23 39 (.agg #[(.int .i64 0), (.int .i64 0)]) 16 rfl Try.underlying23 info39 rfl (by decide) (by omega) u121003 x121003_1 (⟨wrap64 ((wrap64 (x5_1 + 1)) + t123), t125⟩ : S39) [.int .i64 (wrap64 ((wrap64 (x5_1 + 1)) + t123)), .int .i64 t125] (fun k_ => k_ ≠ gb127) (fun _ => False) rfl (by first | (go_simp; done) | (go_simp; rfl)) ?aP (fun _ hk => hk.elim) ?aF ?aO ?aB ?aS ?aL ?_; (case aP => exact k39_mkM _ _ _ (⟨wrap64 ((wrap64 (x5_1 + 1)) + t123), t125⟩ : S39)); (case aB => exact (by repeat (first | (with_reducible first | exact HB.out | apply below_alloc | apply pw_below_drewN | apply below_drew1 | refine below_set ?_ (IsS55.ge HI111.out) | refine below_set ?_ GE109.out | refine below_set ?_ GE120.out | refine below_set ?_ GE127.out) | exact HB.out))); (case aF => exact (fun k_ hk => Kd.freshB (g := gb127) (o := .cells #[.int .i64 (wrap64 ((wrap64 (x5_1 + 1)) + t123)), .int .i64 t125] 39 (0, 0)) (by (with_reducible repeat (first | refine blk_drewN ?_ _ | refine blk_drew ?_ | refine blk_alloc ?_ _)); refine blk_put (cs := #[.int .i64 (wrap64 ((wrap64 (x5_1 + 1)) + t123)), .int .i64 0]) ?_ 1 _ rfl; refine blk_put (cs := #[.int .i64 0, .int .i64 0]) ?_ 0 _ rfl; (with_reducible repeat (first | refine blk_drewN ?_ _ | refine blk_drew ?_ | refine blk_alloc ?_ _)); exact BK127.out) k_ hk)); (case aO => exact (by (with_reducible repeat (first | apply Kd.R_alloc | apply Kd.R_drewN | apply Kd.R_drew)); exact Kd.R_mono (Kd.R_far (p := ⟨gb127, 1, none⟩) (Kd.R_far (p := ⟨gb127, 0, none⟩) (Kd.R_mono HO_121003.out (fun k_ hk => (⟨hk, hk.2⟩ : _ ∧ k_ ≠ gb127))) (fun _ hk => hk.2) (.int .i64 (wrap64 ((wrap64 (x5_1 + 1)) + t123)))) (fun _ hk => hk.2) (.int .i64 t125)) (fun _ hk => hk.1.2))); (case aS => exact (below_size (by repeat (first | (with_reducible first | exact HB.out | apply below_alloc | apply pw_below_drewN | apply below_drew1 | refine below_set ?_ (IsS55.ge HI111.out) | refine below_set ?_ GE109.out | refine below_set ?_ GE120.out | refine below_set ?_ GE127.out) | exact HB.out)))); (case aL => have := LMc30.out; omega); intro v129 w41 ho hb hg hat; rw [← Ny128.out] at ho; have n0_ := Aside0.mk (blk_grown (g := gb109) (o := .cells #[.int .i64 0, .int .i64 0, .int .i64 0, .slice none 0 0] 25 (0, 0)) blkx hg (Kd.R_ne HO_121003.out BK109.out (by decide))); have n1_ := Aside0.mk (blk_grown (g := gb120) (o := .cells #[.int .i64 (wrap64 (1 + t112)), .int .i64 x121001_1, .int .i64 (rd y114 t117), u121003] 25 (0, 0)) blkx hg (Kd.R_ne HO_121003.out BK120.out (by decide))); have n2_ := Aside0.mk (IsS55.grown (show IsS55 w _ gb111 t110 t126 from by repeat (first | (with_reducible first | exact HI111.out | apply IsS55.alloc | apply IsS55.drewN | apply IsS55.drew | apply IsS55.set_1 | refine IsS55.far ?_ NB111_109.out _ | refine IsS55.far ?_ NB111_120.out _ | refine IsS55.far ?_ NB111_127.out _) | exact HI111.out)) hg (IsS55.own_ne HI111.out HO_121003.out (by decide))); have n3_ := Aside0.mk (blk_grown (g := gb127) (o := .cells #[.int .i64 (wrap64 ((wrap64 (x5_1 + 1)) + t123)), .int .i64 t125] 39 (0, 0)) (by (with_reducible repeat (first | refine blk_drewN ?_ _ | refine blk_drew ?_ | refine blk_alloc ?_ _)); refine blk_put (cs := #[.int .i64 (wrap64 ((wrap64 (x5_1 + 1)) + t123)), .int .i64 0]) ?_ 1 _ rfl; refine blk_put (cs := #[.int .i64 0, .int .i64 0]) ?_ 0 _ rfl; (with_reducible repeat (first | refine blk_drewN ?_ _ | refine blk_drew ?_ | refine blk_alloc ?_ _)); exact BK127.out) hg (Kd.R_away HO_121003.out (fun _ hk => hk.2))); have n4_ := Aside0.mk (hb); have n5_ := Aside0.mk (ho); clear BK109; clear BK120; clear HI111; clear BK127; clear HB; clear HO_121003; have BK109 := n0_; have BK120 := n1_; have HI111 := n2_; have BK127 := n3_; have HB := n4_; have HO130 := n5_; clear n0_ n1_ n2_ n3_ n4_ n5_; clear ho hb hg hat; obtain ⟨Ao42, co42, eo42⟩ := Kd.R_slice HO130.out; subst eo42; obtain ⟨hcz43_0, hcz43_1, hcz43_2, hcz43_3, hfz43_0, hfz43_1, hfz43_2, hfz43_3⟩ := cells4 BK120.out; obtain ⟨hcz44_0, hcz44_1, hfz44_0, hfz44_1⟩ := cells2 BK127.out))
         go_roundg kj17
         case measure => have := HK1.out; have := HJ17.out; omega
         case rel => exact ⟨(wrap64 ((wrap64 (x5_1 + 1)) + t123)), (t126), (wrap64 (x121001_1 + t125)), (y128), (.slice Ao42 y128.length co42), (by first | rfl | (simp; done) | (simp [*]; done)), H', ⟨by have := HK1.out; have := HJ17.out; omega⟩, ⟨by (with_reducible repeat (first | apply Kd.R_alloc | apply Kd.R_drewN | apply Kd.R_drew)); exact Kd.R_mono (Kd.R_far (p := ⟨gb120, 1, none⟩) (Kd.R_far (p := ⟨gb120, 3, none⟩) (Kd.R_types HO130.out BK120.out (by decide)) (fun _ hk => hk.2) (.slice Ao42 y128.length co42)) (fun _ hk => hk.2) (.int .i64 (wrap64 (x121001_1 + t125)))) (fun _ hk => trivial)⟩, ⟨by (with_reducible repeat (first | refine blk_drewN ?_ _ | refine blk_drew ?_ | refine blk_alloc ?_ _)); refine blk_far ?_ NB109_120.out _; (with_reducible repeat (first | refine blk_drewN ?_ _ | refine blk_drew ?_ | refine blk_alloc ?_ _)); refine blk_far ?_ NB109_120.out _; (with_reducible repeat (first | refine blk_drewN ?_ _ | refine blk_drew ?_ | refine blk_alloc ?_ _)); exact BK109.out⟩, ⟨by (with_reducible repeat (first | refine blk_drewN ?_ _ | refine blk_drew ?_ | refine blk_alloc ?_ _)); refine blk_put (cs := #[.int .i64 (wrap64 (1 + t112)), .int .i64 x121001_1, .int .i64 (rd y114 t117), .slice Ao42 y128.length co42]) ?_ 1 _ rfl; (with_reducible repeat (first | refine blk_drewN ?_ _ | refine blk_drew ?_ | refine blk_alloc ?_ _)); refine blk_put (cs := #[.int .i64 (wrap64 (1 + t112)), .int .i64 x121001_1, .int .i64 (rd y114 t117), u121003]) ?_ 3 _ rfl; (with_reducible repeat (first | refine blk_drewN ?_ _ | refine blk_drew ?_ | refine blk_alloc ?_ _)); exact BK120.out⟩, ⟨by repeat (first | (with_reducible first | exact HI111.out | apply IsS55.alloc | apply IsS55.drewN | apply IsS55.drew | apply IsS55.set_1 | refine IsS55.far ?_ NB111_109.out _ | refine IsS55.far ?_ NB111_120.out _ | refine IsS55.far ?_ NB111_127.out _) | exact HI111.out)⟩, ⟨by repeat (first | (with_reducible first | exact HB.out | apply below_alloc | apply pw_below_drewN | apply below_drew1 | refine below_set ?_ (IsS55.ge HI111.out) | refine below_set ?_ GE109.out | refine below_set ?_ GE120.out | refine below_set ?_ GE127.out) | exact HB.out)⟩⟩
        ·rw [if_neg c30] at H
         exact absurd H (by simp)
       ·replace c27 := Bool.eq_false_iff.mpr c27
        subst c27
        have H1 : ((customsmade_Small.f t110 x112001_17 100 1000000).bind fun bt131 => (some ((wrap64 (1 + t112)), wrap64 (x121001_1 + bt131.1), (rd y114 t117), x121003_1))) = some (r1, r2, r3, r4) := by rw [if_neg (show ¬ (false = true) by decide)] at H; exact H
        clear H
        have H := H1
        clear H1
        replace H := Option.bind_eq_some_iff.mp H
        obtain ⟨⟨t131, t132⟩, A450, H⟩ := H
        replace H : (some ((wrap64 (1 + t112)), wrap64 (x121001_1 + t131), (rd y114 t117), x121003_1)) = some (r1, r2, r3, r4) := H
        have A45 := Aside0.mk A450
        clear A450
        simp only [Option.some.injEq, Prod.mk.injEq] at H
        obtain ⟨rfl, rfl, rfl, rfl⟩ := H
        try go_wp2
        have n0_ := Aside0.mk (Kd.R_drew HO_121003.out)
        have n1_ := Aside0.mk (blk_drew BK109.out)
        have n2_ := Aside0.mk (blk_drew BK120.out)
        have n3_ := Aside0.mk (IsS55.drew HI111.out)
        have n4_ := Aside0.mk (below_drew1 HB.out)
        clear HO_121003
        clear BK109
        clear BK120
        clear HI111
        clear HB
        have HO_121003 := n0_
        have BK109 := n1_
        have BK120 := n2_
        have HI111 := n3_
        have HB := n4_
        clear n0_ n1_ n2_ n3_ n4_
        refine start_ (n := 7) (S := fun w' => w'.cell? ⟨gb120, 0, none⟩ = some (.int .i64 (wrap64 (1 + t112))) ∧ w'.cell? ⟨gb120, 1, none⟩ = some (.int .i64 x121001_1) ∧ w'.cell? ⟨gb120, 2, none⟩ = some (.int .i64 (rd y114 t117)) ∧ w'.cell? ⟨gb120, 3, none⟩ = some (u121003)) (ds := [6]) #[false, false, false, false, false, false, false] (by kernel_rfl) rfl rfl ⟨(blk_cell BK120.out 0).trans rfl, (blk_cell BK120.out 1).trans rfl, (blk_cell BK120.out 2).trans rfl, (blk_cell BK120.out 3).trans rfl⟩ (fun hHeld => ?_)
        generalize wc.drew = w46 at HO_121003 BK109 BK120 HI111 HB hHeld ⊢
        refine pure_ (i := 0) (N := some 49) (v := ?_) (a' := ?_) #[true, false, false, false, false, false, false] rfl rfl (by kernel_rfl) (fun _ _ _ h => h) (Or.inl ⟨by rfl, ?_⟩) ?_ ?_
        rotate_left
        ·intro w'
         go_simp
         with_reducible rfl
        rotate_left
        ·simp only [Act.put, List.setIfInBounds_toArray, List.set_cons_zero, List.set_cons_succ, i64_w, i32_w]
         rfl
        refine pure_ (i := 2) (N := some 51) (v := ?_) (a' := ?_) #[true, false, true, false, false, false, false] rfl rfl (by kernel_rfl) (fun _ _ _ h => h) (Or.inl ⟨by rfl, ?_⟩) ?_ ?_
        rotate_left
        ·intro w'
         go_simp
         with_reducible rfl
        rotate_left
        ·simp only [Act.put, List.setIfInBounds_toArray, List.set_cons_zero, List.set_cons_succ, i64_w, i32_w]
         rfl
        refine take_ (i := 1) (N := some 50) (v := ?_) (a' := ?_) #[true, true, true, false, false, false, false] rfl rfl (by kernel_rfl) (fun _ _ _ h => h) (Or.inl ⟨by rfl, ?_⟩) hHeld ?_ ?_
        rotate_left
        ·rintro w' ⟨s0, s1, s2, s3⟩
         go_simp
         with_reducible rfl
        rotate_left
        ·simp only [Act.put, List.setIfInBounds_toArray, List.set_cons_zero, List.set_cons_succ, i64_w, i32_w]
         rfl
        refine one_ (i := 3) (N := some 52) #[true, true, true, true, false, false, false] rfl rfl (by kernel_rfl) (by decide) (fun K hK => ?_)
        refine goes_ Try.func33 (by kernel_rfl) rfl #[.pointer (some ⟨gb111, 0, none⟩), .int .i64 100, .int .i64 1000000] (by rfl) rfl rfl argx ?_
        with_reducible refine (customsmade_Small.calls gb111 t110 x112001_17 100 1000000 t131 t132 w _ ?side1 ?side2 A45.out).mono ?_
        (case side1 => repeat (first | (with_reducible first | exact HI111.out | apply IsS55.alloc | apply IsS55.drewN | apply IsS55.drew | apply IsS55.set_1 | refine IsS55.far ?_ NB111_109.out _ | refine IsS55.far ?_ NB111_120.out _) | exact HI111.out))
        (case side2 => repeat (first | (with_reducible first | exact HB.out | apply below_alloc | apply pw_below_drewN | apply below_drew1 | refine below_set ?_ (IsS55.ge HI111.out) | refine below_set ?_ GE109.out | refine below_set ?_ GE120.out) | exact HB.out))
        rintro e w47 ⟨rfl, hi, hb, hk⟩
        refine ⟨_, rfl, ?_⟩
        have n0_ := Aside0.mk (Kd.R_mono (Kd.R_keep (IsS55.apart (show IsS55 w _ gb111 t110 x112001_17 from by repeat (first | (with_reducible first | exact HI111.out | apply IsS55.alloc | apply IsS55.drewN | apply IsS55.drew | apply IsS55.set_1 | refine IsS55.far ?_ NB111_109.out _ | refine IsS55.far ?_ NB111_120.out _) | exact HI111.out)) (rowx HO_121003.out) (by decide)) hk (fun _ h => h.2)) (fun _ h => h.1))
        have n1_ := Aside0.mk (KeepBut.blk hk (g' := gb109) (o := .cells #[.int .i64 0, .int .i64 0, .int .i64 0, .slice none 0 0] 25 (0, 0)) blkx NB109_111.out (by simp))
        have n2_ := Aside0.mk (KeepBut.blk hk (g' := gb120) (o := .cells #[.int .i64 (wrap64 (1 + t112)), .int .i64 x121001_1, .int .i64 (rd y114 t117), u121003] 25 (0, 0)) blkx NB120_111.out (by simp))
        have n3_ := Aside0.mk (hb)
        have n4_ := Aside0.mk (hi)
        clear HO_121003
        clear BK109
        clear BK120
        clear HB
        clear HI111
        have HO_121003 := n0_
        have BK109 := n1_
        have BK120 := n2_
        have HB := n3_
        have HI111 := n4_
        clear n0_ n1_ n2_ n3_ n4_
        (try clear hb)
        (try clear hb2)
        (try clear hk)
        (try clear hi)
        refine hK.out _ _ ⟨(blk_cell BK120.out 0).trans rfl, (blk_cell BK120.out 1).trans rfl, (blk_cell BK120.out 2).trans rfl, (blk_cell BK120.out 3).trans rfl⟩ (fun hHeld => ?_)
        clear hK K
        refine norm_ (a' := ?_) ?_ ?_
        rotate_left
        ·show Act.put _ (some 52) _ = _
         simp only [Act.put, List.setIfInBounds_toArray, List.set_cons_zero, List.set_cons_succ, i64_w, i32_w]
         rfl
        refine pure_ (i := 4) (N := some 53) (v := ?_) (a' := ?_) #[true, true, true, true, true, false, false] rfl rfl (by kernel_rfl) (fun _ _ _ h => h) (Or.inl ⟨by rfl, ?_⟩) ?_ ?_
        rotate_left
        ·intro w'
         go_simp
         with_reducible rfl
        rotate_left
        ·simp only [Act.put, List.setIfInBounds_toArray, List.set_cons_zero, List.set_cons_succ, i64_w, i32_w]
         rfl
        refine pure_ (i := 5) (N := some 54) (v := ?_) (a' := ?_) #[true, true, true, true, true, true, false] rfl rfl (by kernel_rfl) (fun _ _ _ h => h) (Or.inl ⟨by rfl, ?_⟩) ?_ ?_
        rotate_left
        ·intro w'
         go_simp
         with_reducible rfl
        rotate_left
        ·simp only [Act.put, List.setIfInBounds_toArray, List.set_cons_zero, List.set_cons_succ, i64_w, i32_w]
         rfl
        refine last_ (i := 6) (N := none) #[true, true, true, true, true, true, true] rfl rfl (by kernel_rfl) (by decide) (fun K hK => ?_)
        have hs48 : w47.cell? ⟨gb120, 1, none⟩ = some (.int .i64 x121001_1) := (blk_cell BK120.out 1).trans rfl
        have hfs48 := blk_frozen BK120.out 1
        have hns48_0 := NB109_120.out
        have hms48_0 := NB120_109.out
        refine skip_ (w1 := ?_) (by rfl) rfl ?_ ?_
        rotate_left
        ·go_simp
         rfl
        refine hK.out _ _ ?_
        clear hK K
        refine done_ (by kernel_rfl) ?_
        have hnb49 := NB120_109.out
        have hnc49 := NB109_120.out
        have hnb50 := NB120_111.out
        have hnc50 := NB111_120.out
        obtain ⟨hcz51_0, hcz51_1, hcz51_2, hcz51_3, hfz51_0, hfz51_1, hfz51_2, hfz51_3⟩ := cells4 BK120.out
        have hnb52 := NB109_111.out
        have hnc52 := NB111_109.out
        obtain ⟨hcz53_0, hcz53_1, hcz53_2, hcz53_3, hfz53_0, hfz53_1, hfz53_2, hfz53_3⟩ := cells4 BK109.out
        obtain ⟨Ao54, co54, eo54⟩ := Kd.R_slice HO_121003.out
        subst eo54
        try go_wp2
        refine bodyPost_ret (results_cell_row rfl _ _ gb109 25 #[.int .i64 (wrap64 (1 + t112)), .int .i64 (wrap64 (x121001_1 + t131)), .int .i64 (rd y114 t117), .slice Ao54 x121003_1.length co54] (0, 0) _ rfl (by (with_reducible repeat (first | refine blk_drewN ?_ _ | refine blk_drew ?_ | refine blk_alloc ?_ _)); refine blk_put (cs := #[.int .i64 (wrap64 (1 + t112)), .int .i64 (wrap64 (x121001_1 + t131)), .int .i64 (rd y114 t117), .slice none 0 0]) ?_ 3 _ rfl; refine blk_put (cs := #[.int .i64 (wrap64 (1 + t112)), .int .i64 (wrap64 (x121001_1 + t131)), .int .i64 0, .slice none 0 0]) ?_ 2 _ rfl; refine blk_put (cs := #[.int .i64 (wrap64 (1 + t112)), .int .i64 0, .int .i64 0, .slice none 0 0]) ?_ 1 _ rfl; refine blk_put (cs := #[.int .i64 0, .int .i64 0, .int .i64 0, .slice none 0 0]) ?_ 0 _ rfl; refine blk_far ?_ NB109_120.out _; (with_reducible repeat (first | refine blk_drewN ?_ _ | refine blk_drew ?_ | refine blk_alloc ?_ _)); exact BK109.out) Try.underlying25 rfl (by kernel_rfl)) rfl ?_
        exact ⟨_, by first | rfl | (simp [errW_none, errW_some] <;> rfl) | (simp [*, errW_none, errW_some] <;> rfl), by (with_reducible repeat (first | apply Kd.R_alloc | apply Kd.R_drewN | apply Kd.R_drew)); exact Kd.R_mono (Kd.R_far (p := ⟨gb109, 3, none⟩) (Kd.R_far (p := ⟨gb109, 2, none⟩) (Kd.R_far (p := ⟨gb109, 1, none⟩) (Kd.R_far (p := ⟨gb109, 0, none⟩) (Kd.R_far (p := ⟨gb120, 1, none⟩) (Kd.R_types (Kd.R_types HO_121003.out BK120.out (by decide)) BK109.out (by decide)) (fun _ hk => hk.1.2) (.int .i64 (wrap64 (x121001_1 + t131)))) (fun _ hk => hk.2) (.int .i64 (wrap64 (1 + t112)))) (fun _ hk => hk.2) (.int .i64 (wrap64 (x121001_1 + t131)))) (fun _ hk => hk.2) (.int .i64 (rd y114 t117))) (fun _ hk => hk.2) (.slice Ao54 x121003_1.length co54)) (fun _ hk => trivial), by repeat (first | (with_reducible first | exact HB.out | apply below_alloc | apply pw_below_drewN | apply below_drew1 | refine below_set ?_ (IsS55.ge HI111.out) | refine below_set ?_ GE109.out | refine below_set ?_ GE120.out) | exact HB.out)⟩
  ·rw [if_neg c6] at H
   exact absurd H (by simp)
 ·rw [if_neg c5] at H
  exact absurd H (by simp)
def customsmade_GuaranteeSteps.l0 : Nat → List (S74) → List Int → Int → Option ((List (S74)))
 | 0, _, _, _ => none
 | k + 1, x4, x135000, x135001 => (customsmade_Source_Left.f x135000 x135001).bind fun bt135 => (if bt135.1 = true then ((customsmade_Source_Next.f x135000 bt135.2 9).bind fun bt137 => ((customsmade_Source_Next.f x135000 bt137.2 6).bind fun bt140 => (if bt140.1 = 4 then ((customsmade_Small.f x135000 bt140.2 80 1000000000001).bind fun bt142 => (if x4.length < 5864062014805 then (customsmade_GuaranteeSteps.l0 k (x4 ++ [(⟨2, wrap64 (1 + bt137.1), bt142.1⟩ : S74)]) x135000 bt142.2) else (none))) else (if bt140.1 = 5 then ((customsmade_Small.f x135000 bt140.2 80 1000000000001).bind fun bt147 => (if x4.length < 5864062014805 then (customsmade_GuaranteeSteps.l0 k (x4 ++ [(⟨3, wrap64 (1 + bt137.1), bt147.1⟩ : S74)]) x135000 bt147.2) else (none))) else ((customsmade_Small.f x135000 bt140.2 80 1000000000001).bind fun bt152 => (if x4.length < 5864062014805 then (customsmade_GuaranteeSteps.l0 k (x4 ++ [(⟨1, wrap64 (1 + bt137.1), bt152.1⟩ : S74)]) x135000 bt152.2) else (none))))))) else (some x4))
def customsmade_GuaranteeSteps.f (k : Nat) (l0 : List Int) : Option ((List (S74))) := (customsmade_Cut.f l0 80).bind fun t133 => (customsmade_GuaranteeSteps.l0 k ([] : List (S74)) t133 0)
set_option maxHeartbeats 8000000 in
set_option maxRecDepth 100000 in
theorem customsmade_GuaranteeSteps.calls (k : Nat) (A0 : Option Addr) (c0 : Nat) (l0 : List Int) (r : List (S74)) (w : World) (hr0 : Kd.C (Kd.int .i64) w A0 l0.length l0) (hc0 : l0.length ≤ c0) (h : customsmade_GuaranteeSteps.f k l0 = some r) :
  Calls Try.prog 26 #[.slice A0 l0.length c0] w fun e w' => ∃ v0_ : Value, e = .returned (v0_) ∧ Kd.R k74 74 w' w.heap.size (fun _ => True) v0_ r ∧ Below w.heap.size w w' := by
 have hu55 := Try.underlying55
 have hu74 := Try.underlying74
 have HR0 := Aside0.mk hr0
 have HC0 := Aside0.mk hc0
 clear hr0 hc0
 have HB := Aside0.mk (Below.refl w.heap.size w)
 have H : ((customsmade_Cut.f l0 80).bind fun t133 => (customsmade_GuaranteeSteps.l0 k ([] : List (S74)) t133 0)) = some r := h
 clear h
 replace H := Option.bind_eq_some_iff.mp H
 obtain ⟨t133, A20, H⟩ := H
 replace H : (customsmade_GuaranteeSteps.l0 k ([] : List (S74)) t133 0) = some r := H
 have A2 := Aside0.mk A20
 clear A20
 have H' := Aside0.mk H
 clear H
 go_enter Try.func26, Try.ntmps26
 go_wp2_with (first | ((with_reducible refine gate_callee (f := 30) rfl ?_); refine goesL_ (some 7) rfl rfl Try.func30 (by kernel_rfl) rfl #[.slice A0 l0.length c0, .int .i64 80] rfl argx ?_; (with_reducible refine (customsmade_Cut.calls _ _ l0 80 t133 _ w ?side1 ?side2 A2.out).mono ?_); (case side1 => exact HR0.out); (case side2 => exact HC0.out); rintro e w' ⟨A133_9, c133_9, rfl, hr_, hc_, ⟨nd, rfl⟩⟩; refine ⟨_, rfl, ?_⟩; have HR133_9 := Aside0.mk hr_; have HC133_9 := Aside0.mk hc_; clear hr_ hc_) | ((with_reducible refine gate_dst (N := 9) rfl ?_); refine box_event ?hg (N := 9) ?hd (cs := #[.slice A133_9 t133.length c133_9, .int .i64 0]) (t := 55) ?hr ?_; (case hd => rfl); (case hg => rfl); (case hr => first | (go_simp; done) | (go_simp; rfl)); intro gb134 hg w3 hbox hb; have qb_ := below_both bel hb; have n0_ := Aside0.mk (qb_.1); have n1_ := Aside0.mk ((show IsS55 w w3 gb134 t133 0 from ⟨_, _, hbox, (by rw [hg]; exact qb_.2 : w.heap.size ≤ gb134), HR133_9.out⟩)); clear HB; have HB := n0_; have HI134 := n1_; clear qb_; clear n0_ n1_; clear hb hbox hg))
 go_loopg [4] k (fun kq v4 w' => ∃ (x4_1 : List (S74)) (x135001_1 : Int), Aside0 (customsmade_GuaranteeSteps.l0 kq x4_1 t133 x135001_1 = some r) ∧ Aside0 (kq ≤ k) ∧ Aside0 (Kd.R k74 74 w' w.heap.size (fun _ => True) v4 x4_1) ∧ Aside0 (IsS55 w w' gb134 t133 x135001_1) ∧ Aside0 (Below w.heap.size w w'))
 case atStart => exact ⟨(([] : List (S74))), (0), H', ⟨Nat.le_refl _⟩, ⟨by first | exact Kd.R_nil _ _ _ _ _ | exact Kd.N_nil _ _ _ _ _ | exact Kd.V_nil _ _ _ _ _ | exact Kd.Q_nil _ _ _ _ _ | exact Kd.S_nil _ _ _ _ _⟩, ⟨by repeat (first | (with_reducible first | exact HI134.out | apply IsS55.alloc | apply IsS55.drewN | apply IsS55.drew | apply IsS55.set_1) | exact HI134.out)⟩, ⟨by repeat (first | (with_reducible first | exact HB.out | apply below_alloc | apply pw_below_drewN | apply below_drew1 | refine below_set ?_ (IsS55.ge HI134.out)) | exact HB.out)⟩⟩
 case round =>
  clear H'
  try clear c1
  try clear c2
  try clear p2
  try clear c3
  obtain ⟨x4_1, x135001_1, HA, HK1, HO_4, HI134, HB⟩ := hrel
  cases gk with
  | zero => exact absurd HA.out (by simp [customsmade_GuaranteeSteps.l0])
  | succ k1 =>
   have H := HA.out
   clear HA
   simp only [customsmade_GuaranteeSteps.l0] at H
   replace H := Option.bind_eq_some_iff.mp H
   obtain ⟨⟨t135, t136⟩, A40, H⟩ := H
   replace H : (if t135 = true then ((customsmade_Source_Next.f t133 t136 9).bind fun bt137 => ((customsmade_Source_Next.f t133 bt137.2 6).bind fun bt140 => (if bt140.1 = 4 then ((customsmade_Small.f t133 bt140.2 80 1000000000001).bind fun bt142 => (if x4_1.length < 5864062014805 then (customsmade_GuaranteeSteps.l0 k1 (x4_1 ++ [(⟨2, wrap64 (1 + bt137.1), bt142.1⟩ : S74)]) t133 bt142.2) else (none))) else (if bt140.1 = 5 then ((customsmade_Small.f t133 bt140.2 80 1000000000001).bind fun bt147 => (if x4_1.length < 5864062014805 then (customsmade_GuaranteeSteps.l0 k1 (x4_1 ++ [(⟨3, wrap64 (1 + bt137.1), bt147.1⟩ : S74)]) t133 bt147.2) else (none))) else ((customsmade_Small.f t133 bt140.2 80 1000000000001).bind fun bt152 => (if x4_1.length < 5864062014805 then (customsmade_GuaranteeSteps.l0 k1 (x4_1 ++ [(⟨1, wrap64 (1 + bt137.1), bt152.1⟩ : S74)]) t133 bt152.2) else (none))))))) else (some x4_1)) = some r := H
   have A4 := Aside0.mk A40
   clear A40
   by_cases c5 : t135 = true
   ·subst c5
    have H1 : ((customsmade_Source_Next.f t133 t136 9).bind fun bt137 => ((customsmade_Source_Next.f t133 bt137.2 6).bind fun bt140 => (if bt140.1 = 4 then ((customsmade_Small.f t133 bt140.2 80 1000000000001).bind fun bt142 => (if x4_1.length < 5864062014805 then (customsmade_GuaranteeSteps.l0 k1 (x4_1 ++ [(⟨2, wrap64 (1 + bt137.1), bt142.1⟩ : S74)]) t133 bt142.2) else (none))) else (if bt140.1 = 5 then ((customsmade_Small.f t133 bt140.2 80 1000000000001).bind fun bt147 => (if x4_1.length < 5864062014805 then (customsmade_GuaranteeSteps.l0 k1 (x4_1 ++ [(⟨3, wrap64 (1 + bt137.1), bt147.1⟩ : S74)]) t133 bt147.2) else (none))) else ((customsmade_Small.f t133 bt140.2 80 1000000000001).bind fun bt152 => (if x4_1.length < 5864062014805 then (customsmade_GuaranteeSteps.l0 k1 (x4_1 ++ [(⟨1, wrap64 (1 + bt137.1), bt152.1⟩ : S74)]) t133 bt152.2) else (none))))))) = some r := by rw [if_pos rfl] at H; exact H
    clear H
    have H := H1
    clear H1
    replace H := Option.bind_eq_some_iff.mp H
    obtain ⟨⟨t137, t138⟩, A60, H⟩ := H
    replace H : ((customsmade_Source_Next.f t133 t138 6).bind fun bt140 => (if bt140.1 = 4 then ((customsmade_Small.f t133 bt140.2 80 1000000000001).bind fun bt142 => (if x4_1.length < 5864062014805 then (customsmade_GuaranteeSteps.l0 k1 (x4_1 ++ [(⟨2, wrap64 (1 + t137), bt142.1⟩ : S74)]) t133 bt142.2) else (none))) else (if bt140.1 = 5 then ((customsmade_Small.f t133 bt140.2 80 1000000000001).bind fun bt147 => (if x4_1.length < 5864062014805 then (customsmade_GuaranteeSteps.l0 k1 (x4_1 ++ [(⟨3, wrap64 (1 + t137), bt147.1⟩ : S74)]) t133 bt147.2) else (none))) else ((customsmade_Small.f t133 bt140.2 80 1000000000001).bind fun bt152 => (if x4_1.length < 5864062014805 then (customsmade_GuaranteeSteps.l0 k1 (x4_1 ++ [(⟨1, wrap64 (1 + t137), bt152.1⟩ : S74)]) t133 bt152.2) else (none)))))) = some r := H
    have A6 := Aside0.mk A60
    clear A60
    replace H := Option.bind_eq_some_iff.mp H
    obtain ⟨⟨t140, t141⟩, A70, H⟩ := H
    replace H : (if t140 = 4 then ((customsmade_Small.f t133 t141 80 1000000000001).bind fun bt142 => (if x4_1.length < 5864062014805 then (customsmade_GuaranteeSteps.l0 k1 (x4_1 ++ [(⟨2, wrap64 (1 + t137), bt142.1⟩ : S74)]) t133 bt142.2) else (none))) else (if t140 = 5 then ((customsmade_Small.f t133 t141 80 1000000000001).bind fun bt147 => (if x4_1.length < 5864062014805 then (customsmade_GuaranteeSteps.l0 k1 (x4_1 ++ [(⟨3, wrap64 (1 + t137), bt147.1⟩ : S74)]) t133 bt147.2) else (none))) else ((customsmade_Small.f t133 t141 80 1000000000001).bind fun bt152 => (if x4_1.length < 5864062014805 then (customsmade_GuaranteeSteps.l0 k1 (x4_1 ++ [(⟨1, wrap64 (1 + t137), bt152.1⟩ : S74)]) t133 bt152.2) else (none))))) = some r := H
    have A7 := Aside0.mk A70
    clear A70
    by_cases c8 : t140 = 4
    ·rw [if_pos c8] at H
     have c8b0 : (t140 == 4) = true := beq_iff_eq.mpr c8
     have c8b1 : (t140 != 4) = false := bne_eq_false_iff_eq.mpr c8
     clear c8
     replace H := Option.bind_eq_some_iff.mp H
     obtain ⟨⟨t142, t143⟩, A90, H⟩ := H
     replace H : (if x4_1.length < 5864062014805 then (customsmade_GuaranteeSteps.l0 k1 (x4_1 ++ [(⟨2, wrap64 (1 + t137), t142⟩ : S74)]) t133 t143) else (none)) = some r := H
     have A9 := Aside0.mk A90
     clear A90
     by_cases c10 : x4_1.length < 5864062014805
     ·rw [if_pos c10] at H
      have LMc10 := Aside0.mk c10
      clear c10
      obtain ⟨y144, hy144⟩ : ∃ y_ : List (S74), y_ = (x4_1 ++ [(⟨2, wrap64 (1 + t137), t142⟩ : S74)]) := ⟨_, rfl⟩
      replace H : (customsmade_GuaranteeSteps.l0 k1 y144 t133 t143) = some r := by first | (rw [hy144]; with_reducible exact H) | (have H2_ := (Option.bind_some _ _).symm.trans H; rw [hy144]; with_reducible exact H2_) | (have H2_ := (Option.bind_some _ _).symm.trans H; with_reducible exact H2_) | with_reducible exact H | (rw [hy144]; exact H) | exact H
      have Ny144 := Aside0.mk hy144
      clear hy144
      have H' := Aside0.mk H
      clear H
      go_wp2_with (first | ((with_reducible refine gate_callee (f := 32) rfl ?_); refine goesL_ (some 11) rfl rfl Try.func32 (by kernel_rfl) rfl #[.pointer (some ⟨gb134, 0, none⟩)] rfl argx ?_; (with_reducible refine (customsmade_Source_Left.calls gb134 t133 x135001_1 true t136 w _ ?side1 ?side2 A4.out).mono ?_); (case side1 => repeat (first | (with_reducible first | exact HI134.out | apply IsS55.alloc | apply IsS55.drewN | apply IsS55.drew | apply IsS55.set_1) | exact HI134.out)); (case side2 => repeat (first | (with_reducible first | exact HB.out | apply below_alloc | apply pw_below_drewN | apply below_drew1 | refine below_set ?_ (IsS55.ge HI134.out)) | exact HB.out)); rintro e w11 ⟨rfl, hi, hb, hk⟩; refine ⟨_, rfl, ?_⟩; have n0_ := Aside0.mk (Kd.R_mono (Kd.R_keep (IsS55.apart (show IsS55 w _ gb134 t133 x135001_1 from by repeat (first | (with_reducible first | exact HI134.out | apply IsS55.alloc | apply IsS55.drewN | apply IsS55.drew | apply IsS55.set_1) | exact HI134.out)) (rowx HO_4.out) (by decide)) hk (fun _ h => h.2)) (fun _ h => h.1)); have n1_ := Aside0.mk (hb); have n2_ := Aside0.mk (hi); clear HO_4; clear HB; clear HI134; have HO_4 := n0_; have HB := n1_; have HI134 := n2_; clear n0_ n1_ n2_; (try clear hb); (try clear hb2); (try clear hk); (try clear hi)) | ((with_reducible refine gate_callee (f := 31) rfl ?_); refine goesL_ (some 13) rfl rfl Try.func31 (by kernel_rfl) rfl #[.pointer (some ⟨gb134, 0, none⟩), .int .i64 9] rfl argx ?_; (with_reducible refine (customsmade_Source_Next.calls gb134 t133 t136 9 t137 t138 w _ ?side1 ?side2 A6.out).mono ?_); (case side1 => repeat (first | (with_reducible first | exact HI134.out | apply IsS55.alloc | apply IsS55.drewN | apply IsS55.drew | apply IsS55.set_1) | exact HI134.out)); (case side2 => repeat (first | (with_reducible first | exact HB.out | apply below_alloc | apply pw_below_drewN | apply below_drew1 | refine below_set ?_ (IsS55.ge HI134.out)) | exact HB.out)); rintro e w12 ⟨rfl, hi, hb, hk⟩; refine ⟨_, rfl, ?_⟩; have n0_ := Aside0.mk (Kd.R_mono (Kd.R_keep (IsS55.apart (show IsS55 w _ gb134 t133 t136 from by repeat (first | (with_reducible first | exact HI134.out | apply IsS55.alloc | apply IsS55.drewN | apply IsS55.drew | apply IsS55.set_1) | exact HI134.out)) (rowx HO_4.out) (by decide)) hk (fun _ h => h.2)) (fun _ h => h.1)); have n1_ := Aside0.mk (hb); have n2_ := Aside0.mk (hi); clear HO_4; clear HB; clear HI134; have HO_4 := n0_; have HB := n1_; have HI134 := n2_; clear n0_ n1_ n2_; (try clear hb); (try clear hb2); (try clear hk); (try clear hi)) | ((with_reducible refine gate_dst (N := 5) rfl ?_); refine box_event ?hg (N := 5) ?hd (cs := #[.int .i64 0, .int .i64 0, .int .i64 0]) (t := 74) ?hr ?_; (case hd => rfl); (case hg => rfl); (case hr => first | (go_simp; done) | (go_simp; rfl)); intro gb139 hg w13 hbox hb; have n0_ := Aside0.mk (Kd.R_below (Kd.R_elderB (rowx HO_4.out) gb139 (Nat.le_of_eq hg.symm)) hb); have n1_ := Aside0.mk (IsS55.below (by repeat (first | (with_reducible first | exact HI134.out | apply IsS55.alloc | apply IsS55.drewN | apply IsS55.drew | apply IsS55.set_1) | exact HI134.out)) hb); have n2_ := Aside0.mk (below_step (by repeat (first | (with_reducible first | exact HB.out | apply below_alloc | apply pw_below_drewN | apply below_drew1 | refine below_set ?_ (IsS55.ge HI134.out)) | exact HB.out)) hb); have n3_ := Aside0.mk (hbox); have n5_ := Aside0.mk ((by rw [hg]; exact (below_size (by repeat (first | (with_reducible first | exact HB.out | apply below_alloc | apply pw_below_drewN | apply below_drew1 | refine below_set ?_ (IsS55.ge HI134.out)) | exact HB.out))) : w.heap.size ≤ gb139)); have n6_ := Aside0.mk ((by rw [hg]; exact Nat.ne_of_lt (IsS55.lt (show IsS55 w _ gb134 t133 t138 from by repeat (first | (with_reducible first | exact HI134.out | apply IsS55.alloc | apply IsS55.drewN | apply IsS55.drew | apply IsS55.set_1) | exact HI134.out))) : gb134 ≠ gb139)); have n7_ := Aside0.mk (Ne.symm n6_.out); clear HO_4; clear HI134; clear HB; have HO_4 := n0_; have HI134 := n1_; have HB := n2_; have BK139 := n3_; have GE139 := n5_; have NB134_139 := n6_; have NB139_134 := n7_; clear n0_ n1_ n2_ n3_ n5_ n6_ n7_; clear hb hbox hg; have hnb14 := NB139_134.out; have hnc14 := NB134_139.out; obtain ⟨hcz15_0, hcz15_1, hcz15_2, hfz15_0, hfz15_1, hfz15_2⟩ := cells3 BK139.out) | ((with_reducible refine gate_callee (f := 31) rfl ?_); refine goesL_ (some 17) rfl rfl Try.func31 (by kernel_rfl) rfl #[.pointer (some ⟨gb134, 0, none⟩), .int .i64 6] rfl argx ?_; (with_reducible refine (customsmade_Source_Next.calls gb134 t133 t138 6 t140 t141 w _ ?side1 ?side2 A7.out).mono ?_); (case side1 => repeat (first | (with_reducible first | exact HI134.out | apply IsS55.alloc | apply IsS55.drewN | apply IsS55.drew | apply IsS55.set_1 | refine IsS55.far ?_ NB134_139.out _) | exact HI134.out)); (case side2 => repeat (first | (with_reducible first | exact HB.out | apply below_alloc | apply pw_below_drewN | apply below_drew1 | refine below_set ?_ (IsS55.ge HI134.out) | refine below_set ?_ GE139.out) | exact HB.out)); rintro e w16 ⟨rfl, hi, hb, hk⟩; refine ⟨_, rfl, ?_⟩; have n0_ := Aside0.mk (Kd.R_mono (Kd.R_keep (IsS55.apart (show IsS55 w _ gb134 t133 t138 from by repeat (first | (with_reducible first | exact HI134.out | apply IsS55.alloc | apply IsS55.drewN | apply IsS55.drew | apply IsS55.set_1 | refine IsS55.far ?_ NB134_139.out _) | exact HI134.out)) (by (with_reducible repeat (first | apply Kd.R_alloc | apply Kd.R_drewN | apply Kd.R_drew)); exact (Kd.R_mono (Kd.R_far (p := ⟨gb139, 2, none⟩) (Kd.R_far (p := ⟨gb139, 1, none⟩) (Kd.R_far (p := ⟨gb139, 0, none⟩) (Kd.R_mono HO_4.out (fun k_ hk => (⟨hk, hk.2⟩ : _ ∧ k_ ≠ gb139))) (fun _ hk => hk.2) (.int .i64 1)) (fun _ hk => hk.2) (.int .i64 (wrap64 (1 + t137)))) (fun _ hk => hk.2) (.int .i64 0)) (fun _ h_ => h_.1))) (by decide)) hk (fun _ h => h.2)) (fun _ h => h.1)); have n1_ := Aside0.mk (KeepBut.blk hk (g' := gb139) (o := .cells #[.int .i64 1, .int .i64 (wrap64 (1 + t137)), .int .i64 0] 74 (0, 0)) (by (with_reducible repeat (first | refine blk_drewN ?_ _ | refine blk_drew ?_ | refine blk_alloc ?_ _)); refine blk_put (cs := #[.int .i64 1, .int .i64 (wrap64 (1 + t137)), .int .i64 0]) ?_ 2 _ rfl; refine blk_put (cs := #[.int .i64 1, .int .i64 0, .int .i64 0]) ?_ 1 _ rfl; refine blk_put (cs := #[.int .i64 0, .int .i64 0, .int .i64 0]) ?_ 0 _ rfl; (with_reducible repeat (first | refine blk_drewN ?_ _ | refine blk_drew ?_ | refine blk_alloc ?_ _)); exact BK139.out) NB139_134.out (by simp)); have n2_ := Aside0.mk (hb); have n3_ := Aside0.mk (hi); clear HO_4; clear BK139; clear HB; clear HI134; have HO_4 := n0_; have BK139 := n1_; have HB := n2_; have HI134 := n3_; clear n0_ n1_ n2_ n3_; (try clear hb); (try clear hb2); (try clear hk); (try clear hi); obtain ⟨hcz17_0, hcz17_1, hcz17_2, hfz17_0, hfz17_1, hfz17_2⟩ := cells3 BK139.out) | ((with_reducible refine gate_callee (f := 33) rfl ?_); refine goesL_ (some 25) rfl rfl Try.func33 (by kernel_rfl) rfl #[.pointer (some ⟨gb134, 0, none⟩), .int .i64 80, .int .i64 1000000000001] rfl argx ?_; (with_reducible refine (customsmade_Small.calls gb134 t133 t141 80 1000000000001 t142 t143 w _ ?side1 ?side2 A9.out).mono ?_); (case side1 => repeat (first | (with_reducible first | exact HI134.out | apply IsS55.alloc | apply IsS55.drewN | apply IsS55.drew | apply IsS55.set_1 | refine IsS55.far ?_ NB134_139.out _) | exact HI134.out)); (case side2 => repeat (first | (with_reducible first | exact HB.out | apply below_alloc | apply pw_below_drewN | apply below_drew1 | refine below_set ?_ (IsS55.ge HI134.out) | refine below_set ?_ GE139.out) | exact HB.out)); rintro e w18 ⟨rfl, hi, hb, hk⟩; refine ⟨_, rfl, ?_⟩; have n0_ := Aside0.mk (Kd.R_mono (Kd.R_keep (IsS55.apart (show IsS55 w _ gb134 t133 t141 from by repeat (first | (with_reducible first | exact HI134.out | apply IsS55.alloc | apply IsS55.drewN | apply IsS55.drew | apply IsS55.set_1 | refine IsS55.far ?_ NB134_139.out _) | exact HI134.out)) (by (with_reducible repeat (first | apply Kd.R_alloc | apply Kd.R_drewN | apply Kd.R_drew)); exact (Kd.R_mono (Kd.R_far (p := ⟨gb139, 0, none⟩) (Kd.R_mono HO_4.out (fun k_ hk => (⟨hk, hk.2⟩ : _ ∧ k_ ≠ gb139))) (fun _ hk => hk.2) (.int .i64 2)) (fun _ h_ => h_.1))) (by decide)) hk (fun _ h => h.2)) (fun _ h => h.1)); have n1_ := Aside0.mk (KeepBut.blk hk (g' := gb139) (o := .cells #[.int .i64 2, .int .i64 (wrap64 (1 + t137)), .int .i64 0] 74 (0, 0)) (by (with_reducible repeat (first | refine blk_drewN ?_ _ | refine blk_drew ?_ | refine blk_alloc ?_ _)); refine blk_put (cs := #[.int .i64 1, .int .i64 (wrap64 (1 + t137)), .int .i64 0]) ?_ 0 _ rfl; (with_reducible repeat (first | refine blk_drewN ?_ _ | refine blk_drew ?_ | refine blk_alloc ?_ _)); exact BK139.out) NB139_134.out (by simp)); have n2_ := Aside0.mk (hb); have n3_ := Aside0.mk (hi); clear HO_4; clear BK139; clear HB; clear HI134; have HO_4 := n0_; have BK139 := n1_; have HB := n2_; have HI134 := n3_; clear n0_ n1_ n2_ n3_; (try clear hb); (try clear hb2); (try clear hk); (try clear hi); obtain ⟨hcz19_0, hcz19_1, hcz19_2, hfz19_0, hfz19_1, hfz19_2⟩ := cells3 BK139.out) | ((with_reducible refine gate_builtin (b := .append) (xs := #[.tmp 27, .tmp 29]) rfl ?_); at_builtin; refine Kd.R_append k74 (w0 := w) w.heap.size rfl (.tmp 27) (.tmp 29) 45 74 (.agg #[(.int .i64 0), (.int .i64 0), (.int .i64 0)]) 24 rfl Try.underlying45 info74 rfl (by decide) (by omega) u4 x4_1 (⟨2, wrap64 (1 + t137), t142⟩ : S74) [.int .i64 2, .int .i64 (wrap64 (1 + t137)), .int .i64 t142] (fun k_ => k_ ≠ gb139) (fun _ => False) rfl (by first | (go_simp; done) | (go_simp; rfl)) ?aP (fun _ hk => hk.elim) ?aF ?aO ?aB ?aS ?aL ?_; (case aP => exact k74_mkM _ _ _ (⟨2, wrap64 (1 + t137), t142⟩ : S74)); (case aB => exact (by repeat (first | (with_reducible first | exact HB.out | apply below_alloc | apply pw_below_drewN | apply below_drew1 | refine below_set ?_ (IsS55.ge HI134.out) | refine below_set ?_ GE139.out) | exact HB.out))); (case aF => exact (fun k_ hk => Kd.freshB (g := gb139) (o := .cells #[.int .i64 2, .int .i64 (wrap64 (1 + t137)), .int .i64 t142] 74 (0, 0)) (by (with_reducible repeat (first | refine blk_drewN ?_ _ | refine blk_drew ?_ | refine blk_alloc ?_ _)); refine blk_put (cs := #[.int .i64 2, .int .i64 (wrap64 (1 + t137)), .int .i64 0]) ?_ 2 _ rfl; (with_reducible repeat (first | refine blk_drewN ?_ _ | refine blk_drew ?_ | refine blk_alloc ?_ _)); exact BK139.out) k_ hk)); (case aO => exact (by (with_reducible repeat (first | apply Kd.R_alloc | apply Kd.R_drewN | apply Kd.R_drew)); exact Kd.R_mono (Kd.R_far (p := ⟨gb139, 2, none⟩) (Kd.R_mono HO_4.out (fun k_ hk => (⟨hk, hk.2⟩ : _ ∧ k_ ≠ gb139))) (fun _ hk => hk.2) (.int .i64 t142)) (fun _ hk => hk.1.2))); (case aS => exact (below_size (by repeat (first | (with_reducible first | exact HB.out | apply below_alloc | apply pw_below_drewN | apply below_drew1 | refine below_set ?_ (IsS55.ge HI134.out) | refine below_set ?_ GE139.out) | exact HB.out)))); (case aL => have := LMc10.out; omega); intro v145 w20 ho hb hg hat; rw [← Ny144.out] at ho; have n0_ := Aside0.mk (IsS55.grown (show IsS55 w _ gb134 t133 t143 from by repeat (first | (with_reducible first | exact HI134.out | apply IsS55.alloc | apply IsS55.drewN | apply IsS55.drew | apply IsS55.set_1 | refine IsS55.far ?_ NB134_139.out _) | exact HI134.out)) hg (IsS55.own_ne HI134.out HO_4.out (by decide))); have n2_ := Aside0.mk (hb); have n3_ := Aside0.mk (ho); clear HI134; (try clear BK139); clear HB; clear HO_4; have HI134 := n0_; have HB := n2_; have HO146 := n3_; clear n0_ n2_ n3_; clear ho hb hg hat))
      go_roundg k1
      case measure => have := HK1.out; omega
      case rel => exact ⟨(y144), (t143), H', ⟨by have := HK1.out; omega⟩, ⟨by (with_reducible repeat (first | apply Kd.R_alloc | apply Kd.R_drewN | apply Kd.R_drew)); exact Kd.R_mono HO146.out (fun _ hk => trivial)⟩, ⟨by repeat (first | (with_reducible first | exact HI134.out | apply IsS55.alloc | apply IsS55.drewN | apply IsS55.drew | apply IsS55.set_1 | refine IsS55.far ?_ NB134_139.out _) | exact HI134.out)⟩, ⟨by repeat (first | (with_reducible first | exact HB.out | apply below_alloc | apply pw_below_drewN | apply below_drew1 | refine below_set ?_ (IsS55.ge HI134.out) | refine below_set ?_ GE139.out) | exact HB.out)⟩⟩
     ·rw [if_neg c10] at H
      exact absurd H (by simp)
    ·rw [if_neg c8] at H
     have c8b0 : (t140 == 4) = false := beq_eq_false_iff_ne.mpr c8
     have c8b1 : (t140 != 4) = true := bne_iff_ne.mpr c8
     by_cases c21 : t140 = 5
     ·rw [if_pos c21] at H
      have c21b0 : (t140 == 5) = true := beq_iff_eq.mpr c21
      have c21b1 : (t140 != 5) = false := bne_eq_false_iff_eq.mpr c21
      clear c21
      replace H := Option.bind_eq_some_iff.mp H
      obtain ⟨⟨t147, t148⟩, A220, H⟩ := H
      replace H : (if x4_1.length < 5864062014805 then (customsmade_GuaranteeSteps.l0 k1 (x4_1 ++ [(⟨3, wrap64 (1 + t137), t147⟩ : S74)]) t133 t148) else (none)) = some r := H
      have A22 := Aside0.mk A220
      clear A220
      by_cases c23 : x4_1.length < 5864062014805
      ·rw [if_pos c23] at H
       have LMc23 := Aside0.mk c23
       clear c23
       obtain ⟨y149, hy149⟩ : ∃ y_ : List (S74), y_ = (x4_1 ++ [(⟨3, wrap64 (1 + t137), t147⟩ : S74)]) := ⟨_, rfl⟩
       replace H : (customsmade_GuaranteeSteps.l0 k1 y149 t133 t148) = some r := by first | (rw [hy149]; with_reducible exact H) | (have H2_ := (Option.bind_some _ _).symm.trans H; rw [hy149]; with_reducible exact H2_) | (have H2_ := (Option.bind_some _ _).symm.trans H; with_reducible exact H2_) | with_reducible exact H | (rw [hy149]; exact H) | exact H
       have Ny149 := Aside0.mk hy149
       clear hy149
       have H' := Aside0.mk H
       clear H
       go_wp2_with (first | ((with_reducible refine gate_callee (f := 32) rfl ?_); refine goesL_ (some 11) rfl rfl Try.func32 (by kernel_rfl) rfl #[.pointer (some ⟨gb134, 0, none⟩)] rfl argx ?_; (with_reducible refine (customsmade_Source_Left.calls gb134 t133 x135001_1 true t136 w _ ?side1 ?side2 A4.out).mono ?_); (case side1 => repeat (first | (with_reducible first | exact HI134.out | apply IsS55.alloc | apply IsS55.drewN | apply IsS55.drew | apply IsS55.set_1) | exact HI134.out)); (case side2 => repeat (first | (with_reducible first | exact HB.out | apply below_alloc | apply pw_below_drewN | apply below_drew1 | refine below_set ?_ (IsS55.ge HI134.out)) | exact HB.out)); rintro e w24 ⟨rfl, hi, hb, hk⟩; refine ⟨_, rfl, ?_⟩; have n0_ := Aside0.mk (Kd.R_mono (Kd.R_keep (IsS55.apart (show IsS55 w _ gb134 t133 x135001_1 from by repeat (first | (with_reducible first | exact HI134.out | apply IsS55.alloc | apply IsS55.drewN | apply IsS55.drew | apply IsS55.set_1) | exact HI134.out)) (rowx HO_4.out) (by decide)) hk (fun _ h => h.2)) (fun _ h => h.1)); have n1_ := Aside0.mk (hb); have n2_ := Aside0.mk (hi); clear HO_4; clear HB; clear HI134; have HO_4 := n0_; have HB := n1_; have HI134 := n2_; clear n0_ n1_ n2_; (try clear hb); (try clear hb2); (try clear hk); (try clear hi)) | ((with_reducible refine gate_callee (f := 31) rfl ?_); refine goesL_ (some 13) rfl rfl Try.func31 (by kernel_rfl) rfl #[.pointer (some ⟨gb134, 0, none⟩), .int .i64 9] rfl argx ?_; (with_reducible refine (customsmade_Source_Next.calls gb134 t133 t136 9 t137 t138 w _ ?side1 ?side2 A6.out).mono ?_); (case side1 => repeat (first | (with_reducible first | exact HI134.out | apply IsS55.alloc | apply IsS55.drewN | apply IsS55.drew | apply IsS55.set_1) | exact HI134.out)); (case side2 => repeat (first | (with_reducible first | exact HB.out | apply below_alloc | apply pw_below_drewN | apply below_drew1 | refine below_set ?_ (IsS55.ge HI134.out)) | exact HB.out)); rintro e w25 ⟨rfl, hi, hb, hk⟩; refine ⟨_, rfl, ?_⟩; have n0_ := Aside0.mk (Kd.R_mono (Kd.R_keep (IsS55.apart (show IsS55 w _ gb134 t133 t136 from by repeat (first | (with_reducible first | exact HI134.out | apply IsS55.alloc | apply IsS55.drewN | apply IsS55.drew | apply IsS55.set_1) | exact HI134.out)) (rowx HO_4.out) (by decide)) hk (fun _ h => h.2)) (fun _ h => h.1)); have n1_ := Aside0.mk (hb); have n2_ := Aside0.mk (hi); clear HO_4; clear HB; clear HI134; have HO_4 := n0_; have HB := n1_; have HI134 := n2_; clear n0_ n1_ n2_; (try clear hb); (try clear hb2); (try clear hk); (try clear hi)) | ((with_reducible refine gate_dst (N := 5) rfl ?_); refine box_event ?hg (N := 5) ?hd (cs := #[.int .i64 0, .int .i64 0, .int .i64 0]) (t := 74) ?hr ?_; (case hd => rfl); (case hg => rfl); (case hr => first | (go_simp; done) | (go_simp; rfl)); intro gb139 hg w26 hbox hb; have n0_ := Aside0.mk (Kd.R_below (Kd.R_elderB (rowx HO_4.out) gb139 (Nat.le_of_eq hg.symm)) hb); have n1_ := Aside0.mk (IsS55.below (by repeat (first | (with_reducible first | exact HI134.out | apply IsS55.alloc | apply IsS55.drewN | apply IsS55.drew | apply IsS55.set_1) | exact HI134.out)) hb); have n2_ := Aside0.mk (below_step (by repeat (first | (with_reducible first | exact HB.out | apply below_alloc | apply pw_below_drewN | apply below_drew1 | refine below_set ?_ (IsS55.ge HI134.out)) | exact HB.out)) hb); have n3_ := Aside0.mk (hbox); have n5_ := Aside0.mk ((by rw [hg]; exact (below_size (by repeat (first | (with_reducible first | exact HB.out | apply below_alloc | apply pw_below_drewN | apply below_drew1 | refine below_set ?_ (IsS55.ge HI134.out)) | exact HB.out))) : w.heap.size ≤ gb139)); have n6_ := Aside0.mk ((by rw [hg]; exact Nat.ne_of_lt (IsS55.lt (show IsS55 w _ gb134 t133 t138 from by repeat (first | (with_reducible first | exact HI134.out | apply IsS55.alloc | apply IsS55.drewN | apply IsS55.drew | apply IsS55.set_1) | exact HI134.out))) : gb134 ≠ gb139)); have n7_ := Aside0.mk (Ne.symm n6_.out); clear HO_4; clear HI134; clear HB; have HO_4 := n0_; have HI134 := n1_; have HB := n2_; have BK139 := n3_; have GE139 := n5_; have NB134_139 := n6_; have NB139_134 := n7_; clear n0_ n1_ n2_ n3_ n5_ n6_ n7_; clear hb hbox hg; have hnb27 := NB139_134.out; have hnc27 := NB134_139.out; obtain ⟨hcz28_0, hcz28_1, hcz28_2, hfz28_0, hfz28_1, hfz28_2⟩ := cells3 BK139.out) | ((with_reducible refine gate_callee (f := 31) rfl ?_); refine goesL_ (some 17) rfl rfl Try.func31 (by kernel_rfl) rfl #[.pointer (some ⟨gb134, 0, none⟩), .int .i64 6] rfl argx ?_; (with_reducible refine (customsmade_Source_Next.calls gb134 t133 t138 6 t140 t141 w _ ?side1 ?side2 A7.out).mono ?_); (case side1 => repeat (first | (with_reducible first | exact HI134.out | apply IsS55.alloc | apply IsS55.drewN | apply IsS55.drew | apply IsS55.set_1 | refine IsS55.far ?_ NB134_139.out _) | exact HI134.out)); (case side2 => repeat (first | (with_reducible first | exact HB.out | apply below_alloc | apply pw_below_drewN | apply below_drew1 | refine below_set ?_ (IsS55.ge HI134.out) | refine below_set ?_ GE139.out) | exact HB.out)); rintro e w29 ⟨rfl, hi, hb, hk⟩; refine ⟨_, rfl, ?_⟩; have n0_ := Aside0.mk (Kd.R_mono (Kd.R_keep (IsS55.apart (show IsS55 w _ gb134 t133 t138 from by repeat (first | (with_reducible first | exact HI134.out | apply IsS55.alloc | apply IsS55.drewN | apply IsS55.drew | apply IsS55.set_1 | refine IsS55.far ?_ NB134_139.out _) | exact HI134.out)) (by (with_reducible repeat (first | apply Kd.R_alloc | apply Kd.R_drewN | apply Kd.R_drew)); exact (Kd.R_mono (Kd.R_far (p := ⟨gb139, 2, none⟩) (Kd.R_far (p := ⟨gb139, 1, none⟩) (Kd.R_far (p := ⟨gb139, 0, none⟩) (Kd.R_mono HO_4.out (fun k_ hk => (⟨hk, hk.2⟩ : _ ∧ k_ ≠ gb139))) (fun _ hk => hk.2) (.int .i64 1)) (fun _ hk => hk.2) (.int .i64 (wrap64 (1 + t137)))) (fun _ hk => hk.2) (.int .i64 0)) (fun _ h_ => h_.1))) (by decide)) hk (fun _ h => h.2)) (fun _ h => h.1)); have n1_ := Aside0.mk (KeepBut.blk hk (g' := gb139) (o := .cells #[.int .i64 1, .int .i64 (wrap64 (1 + t137)), .int .i64 0] 74 (0, 0)) (by (with_reducible repeat (first | refine blk_drewN ?_ _ | refine blk_drew ?_ | refine blk_alloc ?_ _)); refine blk_put (cs := #[.int .i64 1, .int .i64 (wrap64 (1 + t137)), .int .i64 0]) ?_ 2 _ rfl; refine blk_put (cs := #[.int .i64 1, .int .i64 0, .int .i64 0]) ?_ 1 _ rfl; refine blk_put (cs := #[.int .i64 0, .int .i64 0, .int .i64 0]) ?_ 0 _ rfl; (with_reducible repeat (first | refine blk_drewN ?_ _ | refine blk_drew ?_ | refine blk_alloc ?_ _)); exact BK139.out) NB139_134.out (by simp)); have n2_ := Aside0.mk (hb); have n3_ := Aside0.mk (hi); clear HO_4; clear BK139; clear HB; clear HI134; have HO_4 := n0_; have BK139 := n1_; have HB := n2_; have HI134 := n3_; clear n0_ n1_ n2_ n3_; (try clear hb); (try clear hb2); (try clear hk); (try clear hi); obtain ⟨hcz30_0, hcz30_1, hcz30_2, hfz30_0, hfz30_1, hfz30_2⟩ := cells3 BK139.out) | ((with_reducible refine gate_callee (f := 33) rfl ?_); refine goesL_ (some 25) rfl rfl Try.func33 (by kernel_rfl) rfl #[.pointer (some ⟨gb134, 0, none⟩), .int .i64 80, .int .i64 1000000000001] rfl argx ?_; (with_reducible refine (customsmade_Small.calls gb134 t133 t141 80 1000000000001 t147 t148 w _ ?side1 ?side2 A22.out).mono ?_); (case side1 => repeat (first | (with_reducible first | exact HI134.out | apply IsS55.alloc | apply IsS55.drewN | apply IsS55.drew | apply IsS55.set_1 | refine IsS55.far ?_ NB134_139.out _) | exact HI134.out)); (case side2 => repeat (first | (with_reducible first | exact HB.out | apply below_alloc | apply pw_below_drewN | apply below_drew1 | refine below_set ?_ (IsS55.ge HI134.out) | refine below_set ?_ GE139.out) | exact HB.out)); rintro e w31 ⟨rfl, hi, hb, hk⟩; refine ⟨_, rfl, ?_⟩; have n0_ := Aside0.mk (Kd.R_mono (Kd.R_keep (IsS55.apart (show IsS55 w _ gb134 t133 t141 from by repeat (first | (with_reducible first | exact HI134.out | apply IsS55.alloc | apply IsS55.drewN | apply IsS55.drew | apply IsS55.set_1 | refine IsS55.far ?_ NB134_139.out _) | exact HI134.out)) (by (with_reducible repeat (first | apply Kd.R_alloc | apply Kd.R_drewN | apply Kd.R_drew)); exact (Kd.R_mono (Kd.R_far (p := ⟨gb139, 0, none⟩) (Kd.R_mono HO_4.out (fun k_ hk => (⟨hk, hk.2⟩ : _ ∧ k_ ≠ gb139))) (fun _ hk => hk.2) (.int .i64 3)) (fun _ h_ => h_.1))) (by decide)) hk (fun _ h => h.2)) (fun _ h => h.1)); have n1_ := Aside0.mk (KeepBut.blk hk (g' := gb139) (o := .cells #[.int .i64 3, .int .i64 (wrap64 (1 + t137)), .int .i64 0] 74 (0, 0)) (by (with_reducible repeat (first | refine blk_drewN ?_ _ | refine blk_drew ?_ | refine blk_alloc ?_ _)); refine blk_put (cs := #[.int .i64 1, .int .i64 (wrap64 (1 + t137)), .int .i64 0]) ?_ 0 _ rfl; (with_reducible repeat (first | refine blk_drewN ?_ _ | refine blk_drew ?_ | refine blk_alloc ?_ _)); exact BK139.out) NB139_134.out (by simp)); have n2_ := Aside0.mk (hb); have n3_ := Aside0.mk (hi); clear HO_4; clear BK139; clear HB; clear HI134; have HO_4 := n0_; have BK139 := n1_; have HB := n2_; have HI134 := n3_; clear n0_ n1_ n2_ n3_; (try clear hb); (try clear hb2); (try clear hk); (try clear hi); obtain ⟨hcz32_0, hcz32_1, hcz32_2, hfz32_0, hfz32_1, hfz32_2⟩ := cells3 BK139.out) | ((with_reducible refine gate_builtin (b := .append) (xs := #[.tmp 27, .tmp 29]) rfl ?_); at_builtin; refine Kd.R_append k74 (w0 := w) w.heap.size rfl (.tmp 27) (.tmp 29) 45 74 (.agg #[(.int .i64 0), (.int .i64 0), (.int .i64 0)]) 24 rfl Try.underlying45 info74 rfl (by decide) (by omega) u4 x4_1 (⟨3, wrap64 (1 + t137), t147⟩ : S74) [.int .i64 3, .int .i64 (wrap64 (1 + t137)), .int .i64 t147] (fun k_ => k_ ≠ gb139) (fun _ => False) rfl (by first | (go_simp; done) | (go_simp; rfl)) ?aP (fun _ hk => hk.elim) ?aF ?aO ?aB ?aS ?aL ?_; (case aP => exact k74_mkM _ _ _ (⟨3, wrap64 (1 + t137), t147⟩ : S74)); (case aB => exact (by repeat (first | (with_reducible first | exact HB.out | apply below_alloc | apply pw_below_drewN | apply below_drew1 | refine below_set ?_ (IsS55.ge HI134.out) | refine below_set ?_ GE139.out) | exact HB.out))); (case aF => exact (fun k_ hk => Kd.freshB (g := gb139) (o := .cells #[.int .i64 3, .int .i64 (wrap64 (1 + t137)), .int .i64 t147] 74 (0, 0)) (by (with_reducible repeat (first | refine blk_drewN ?_ _ | refine blk_drew ?_ | refine blk_alloc ?_ _)); refine blk_put (cs := #[.int .i64 3, .int .i64 (wrap64 (1 + t137)), .int .i64 0]) ?_ 2 _ rfl; (with_reducible repeat (first | refine blk_drewN ?_ _ | refine blk_drew ?_ | refine blk_alloc ?_ _)); exact BK139.out) k_ hk)); (case aO => exact (by (with_reducible repeat (first | apply Kd.R_alloc | apply Kd.R_drewN | apply Kd.R_drew)); exact Kd.R_mono (Kd.R_far (p := ⟨gb139, 2, none⟩) (Kd.R_mono HO_4.out (fun k_ hk => (⟨hk, hk.2⟩ : _ ∧ k_ ≠ gb139))) (fun _ hk => hk.2) (.int .i64 t147)) (fun _ hk => hk.1.2))); (case aS => exact (below_size (by repeat (first | (with_reducible first | exact HB.out | apply below_alloc | apply pw_below_drewN | apply below_drew1 | refine below_set ?_ (IsS55.ge HI134.out) | refine below_set ?_ GE139.out) | exact HB.out)))); (case aL => have := LMc23.out; omega); intro v150 w33 ho hb hg hat; rw [← Ny149.out] at ho; have n0_ := Aside0.mk (IsS55.grown (show IsS55 w _ gb134 t133 t148 from by repeat (first | (with_reducible first | exact HI134.out | apply IsS55.alloc | apply IsS55.drewN | apply IsS55.drew | apply IsS55.set_1 | refine IsS55.far ?_ NB134_139.out _) | exact HI134.out)) hg (IsS55.own_ne HI134.out HO_4.out (by decide))); have n2_ := Aside0.mk (hb); have n3_ := Aside0.mk (ho); clear HI134; (try clear BK139); clear HB; clear HO_4; have HI134 := n0_; have HB := n2_; have HO151 := n3_; clear n0_ n2_ n3_; clear ho hb hg hat))
       go_roundg k1
       case measure => have := HK1.out; omega
       case rel => exact ⟨(y149), (t148), H', ⟨by have := HK1.out; omega⟩, ⟨by (with_reducible repeat (first | apply Kd.R_alloc | apply Kd.R_drewN | apply Kd.R_drew)); exact Kd.R_mono HO151.out (fun _ hk => trivial)⟩, ⟨by repeat (first | (with_reducible first | exact HI134.out | apply IsS55.alloc | apply IsS55.drewN | apply IsS55.drew | apply IsS55.set_1 | refine IsS55.far ?_ NB134_139.out _) | exact HI134.out)⟩, ⟨by repeat (first | (with_reducible first | exact HB.out | apply below_alloc | apply pw_below_drewN | apply below_drew1 | refine below_set ?_ (IsS55.ge HI134.out) | refine below_set ?_ GE139.out) | exact HB.out)⟩⟩
      ·rw [if_neg c23] at H
       exact absurd H (by simp)
     ·rw [if_neg c21] at H
      have c21b0 : (t140 == 5) = false := beq_eq_false_iff_ne.mpr c21
      have c21b1 : (t140 != 5) = true := bne_iff_ne.mpr c21
      replace H := Option.bind_eq_some_iff.mp H
      obtain ⟨⟨t152, t153⟩, A340, H⟩ := H
      replace H : (if x4_1.length < 5864062014805 then (customsmade_GuaranteeSteps.l0 k1 (x4_1 ++ [(⟨1, wrap64 (1 + t137), t152⟩ : S74)]) t133 t153) else (none)) = some r := H
      have A34 := Aside0.mk A340
      clear A340
      by_cases c35 : x4_1.length < 5864062014805
      ·rw [if_pos c35] at H
       have LMc35 := Aside0.mk c35
       clear c35
       obtain ⟨y154, hy154⟩ : ∃ y_ : List (S74), y_ = (x4_1 ++ [(⟨1, wrap64 (1 + t137), t152⟩ : S74)]) := ⟨_, rfl⟩
       replace H : (customsmade_GuaranteeSteps.l0 k1 y154 t133 t153) = some r := by first | (rw [hy154]; with_reducible exact H) | (have H2_ := (Option.bind_some _ _).symm.trans H; rw [hy154]; with_reducible exact H2_) | (have H2_ := (Option.bind_some _ _).symm.trans H; with_reducible exact H2_) | with_reducible exact H | (rw [hy154]; exact H) | exact H
       have Ny154 := Aside0.mk hy154
       clear hy154
       have H' := Aside0.mk H
       clear H
       go_wp2_with (first | ((with_reducible refine gate_callee (f := 32) rfl ?_); refine goesL_ (some 11) rfl rfl Try.func32 (by kernel_rfl) rfl #[.pointer (some ⟨gb134, 0, none⟩)] rfl argx ?_; (with_reducible refine (customsmade_Source_Left.calls gb134 t133 x135001_1 true t136 w _ ?side1 ?side2 A4.out).mono ?_); (case side1 => repeat (first | (with_reducible first | exact HI134.out | apply IsS55.alloc | apply IsS55.drewN | apply IsS55.drew | apply IsS55.set_1) | exact HI134.out)); (case side2 => repeat (first | (with_reducible first | exact HB.out | apply below_alloc | apply pw_below_drewN | apply below_drew1 | refine below_set ?_ (IsS55.ge HI134.out)) | exact HB.out)); rintro e w36 ⟨rfl, hi, hb, hk⟩; refine ⟨_, rfl, ?_⟩; have n0_ := Aside0.mk (Kd.R_mono (Kd.R_keep (IsS55.apart (show IsS55 w _ gb134 t133 x135001_1 from by repeat (first | (with_reducible first | exact HI134.out | apply IsS55.alloc | apply IsS55.drewN | apply IsS55.drew | apply IsS55.set_1) | exact HI134.out)) (rowx HO_4.out) (by decide)) hk (fun _ h => h.2)) (fun _ h => h.1)); have n1_ := Aside0.mk (hb); have n2_ := Aside0.mk (hi); clear HO_4; clear HB; clear HI134; have HO_4 := n0_; have HB := n1_; have HI134 := n2_; clear n0_ n1_ n2_; (try clear hb); (try clear hb2); (try clear hk); (try clear hi)) | ((with_reducible refine gate_callee (f := 31) rfl ?_); refine goesL_ (some 13) rfl rfl Try.func31 (by kernel_rfl) rfl #[.pointer (some ⟨gb134, 0, none⟩), .int .i64 9] rfl argx ?_; (with_reducible refine (customsmade_Source_Next.calls gb134 t133 t136 9 t137 t138 w _ ?side1 ?side2 A6.out).mono ?_); (case side1 => repeat (first | (with_reducible first | exact HI134.out | apply IsS55.alloc | apply IsS55.drewN | apply IsS55.drew | apply IsS55.set_1) | exact HI134.out)); (case side2 => repeat (first | (with_reducible first | exact HB.out | apply below_alloc | apply pw_below_drewN | apply below_drew1 | refine below_set ?_ (IsS55.ge HI134.out)) | exact HB.out)); rintro e w37 ⟨rfl, hi, hb, hk⟩; refine ⟨_, rfl, ?_⟩; have n0_ := Aside0.mk (Kd.R_mono (Kd.R_keep (IsS55.apart (show IsS55 w _ gb134 t133 t136 from by repeat (first | (with_reducible first | exact HI134.out | apply IsS55.alloc | apply IsS55.drewN | apply IsS55.drew | apply IsS55.set_1) | exact HI134.out)) (rowx HO_4.out) (by decide)) hk (fun _ h => h.2)) (fun _ h => h.1)); have n1_ := Aside0.mk (hb); have n2_ := Aside0.mk (hi); clear HO_4; clear HB; clear HI134; have HO_4 := n0_; have HB := n1_; have HI134 := n2_; clear n0_ n1_ n2_; (try clear hb); (try clear hb2); (try clear hk); (try clear hi)) | ((with_reducible refine gate_dst (N := 5) rfl ?_); refine box_event ?hg (N := 5) ?hd (cs := #[.int .i64 0, .int .i64 0, .int .i64 0]) (t := 74) ?hr ?_; (case hd => rfl); (case hg => rfl); (case hr => first | (go_simp; done) | (go_simp; rfl)); intro gb139 hg w38 hbox hb; have n0_ := Aside0.mk (Kd.R_below (Kd.R_elderB (rowx HO_4.out) gb139 (Nat.le_of_eq hg.symm)) hb); have n1_ := Aside0.mk (IsS55.below (by repeat (first | (with_reducible first | exact HI134.out | apply IsS55.alloc | apply IsS55.drewN | apply IsS55.drew | apply IsS55.set_1) | exact HI134.out)) hb); have n2_ := Aside0.mk (below_step (by repeat (first | (with_reducible first | exact HB.out | apply below_alloc | apply pw_below_drewN | apply below_drew1 | refine below_set ?_ (IsS55.ge HI134.out)) | exact HB.out)) hb); have n3_ := Aside0.mk (hbox); have n5_ := Aside0.mk ((by rw [hg]; exact (below_size (by repeat (first | (with_reducible first | exact HB.out | apply below_alloc | apply pw_below_drewN | apply below_drew1 | refine below_set ?_ (IsS55.ge HI134.out)) | exact HB.out))) : w.heap.size ≤ gb139)); have n6_ := Aside0.mk ((by rw [hg]; exact Nat.ne_of_lt (IsS55.lt (show IsS55 w _ gb134 t133 t138 from by repeat (first | (with_reducible first | exact HI134.out | apply IsS55.alloc | apply IsS55.drewN | apply IsS55.drew | apply IsS55.set_1) | exact HI134.out))) : gb134 ≠ gb139)); have n7_ := Aside0.mk (Ne.symm n6_.out); clear HO_4; clear HI134; clear HB; have HO_4 := n0_; have HI134 := n1_; have HB := n2_; have BK139 := n3_; have GE139 := n5_; have NB134_139 := n6_; have NB139_134 := n7_; clear n0_ n1_ n2_ n3_ n5_ n6_ n7_; clear hb hbox hg; have hnb39 := NB139_134.out; have hnc39 := NB134_139.out; obtain ⟨hcz40_0, hcz40_1, hcz40_2, hfz40_0, hfz40_1, hfz40_2⟩ := cells3 BK139.out) | ((with_reducible refine gate_callee (f := 31) rfl ?_); refine goesL_ (some 17) rfl rfl Try.func31 (by kernel_rfl) rfl #[.pointer (some ⟨gb134, 0, none⟩), .int .i64 6] rfl argx ?_; (with_reducible refine (customsmade_Source_Next.calls gb134 t133 t138 6 t140 t141 w _ ?side1 ?side2 A7.out).mono ?_); (case side1 => repeat (first | (with_reducible first | exact HI134.out | apply IsS55.alloc | apply IsS55.drewN | apply IsS55.drew | apply IsS55.set_1 | refine IsS55.far ?_ NB134_139.out _) | exact HI134.out)); (case side2 => repeat (first | (with_reducible first | exact HB.out | apply below_alloc | apply pw_below_drewN | apply below_drew1 | refine below_set ?_ (IsS55.ge HI134.out) | refine below_set ?_ GE139.out) | exact HB.out)); rintro e w41 ⟨rfl, hi, hb, hk⟩; refine ⟨_, rfl, ?_⟩; have n0_ := Aside0.mk (Kd.R_mono (Kd.R_keep (IsS55.apart (show IsS55 w _ gb134 t133 t138 from by repeat (first | (with_reducible first | exact HI134.out | apply IsS55.alloc | apply IsS55.drewN | apply IsS55.drew | apply IsS55.set_1 | refine IsS55.far ?_ NB134_139.out _) | exact HI134.out)) (by (with_reducible repeat (first | apply Kd.R_alloc | apply Kd.R_drewN | apply Kd.R_drew)); exact (Kd.R_mono (Kd.R_far (p := ⟨gb139, 2, none⟩) (Kd.R_far (p := ⟨gb139, 1, none⟩) (Kd.R_far (p := ⟨gb139, 0, none⟩) (Kd.R_mono HO_4.out (fun k_ hk => (⟨hk, hk.2⟩ : _ ∧ k_ ≠ gb139))) (fun _ hk => hk.2) (.int .i64 1)) (fun _ hk => hk.2) (.int .i64 (wrap64 (1 + t137)))) (fun _ hk => hk.2) (.int .i64 0)) (fun _ h_ => h_.1))) (by decide)) hk (fun _ h => h.2)) (fun _ h => h.1)); have n1_ := Aside0.mk (KeepBut.blk hk (g' := gb139) (o := .cells #[.int .i64 1, .int .i64 (wrap64 (1 + t137)), .int .i64 0] 74 (0, 0)) (by (with_reducible repeat (first | refine blk_drewN ?_ _ | refine blk_drew ?_ | refine blk_alloc ?_ _)); refine blk_put (cs := #[.int .i64 1, .int .i64 (wrap64 (1 + t137)), .int .i64 0]) ?_ 2 _ rfl; refine blk_put (cs := #[.int .i64 1, .int .i64 0, .int .i64 0]) ?_ 1 _ rfl; refine blk_put (cs := #[.int .i64 0, .int .i64 0, .int .i64 0]) ?_ 0 _ rfl; (with_reducible repeat (first | refine blk_drewN ?_ _ | refine blk_drew ?_ | refine blk_alloc ?_ _)); exact BK139.out) NB139_134.out (by simp)); have n2_ := Aside0.mk (hb); have n3_ := Aside0.mk (hi); clear HO_4; clear BK139; clear HB; clear HI134; have HO_4 := n0_; have BK139 := n1_; have HB := n2_; have HI134 := n3_; clear n0_ n1_ n2_ n3_; (try clear hb); (try clear hb2); (try clear hk); (try clear hi)) | ((with_reducible refine gate_callee (f := 33) rfl ?_); refine goesL_ (some 25) rfl rfl Try.func33 (by kernel_rfl) rfl #[.pointer (some ⟨gb134, 0, none⟩), .int .i64 80, .int .i64 1000000000001] rfl argx ?_; (with_reducible refine (customsmade_Small.calls gb134 t133 t141 80 1000000000001 t152 t153 w _ ?side1 ?side2 A34.out).mono ?_); (case side1 => repeat (first | (with_reducible first | exact HI134.out | apply IsS55.alloc | apply IsS55.drewN | apply IsS55.drew | apply IsS55.set_1 | refine IsS55.far ?_ NB134_139.out _) | exact HI134.out)); (case side2 => repeat (first | (with_reducible first | exact HB.out | apply below_alloc | apply pw_below_drewN | apply below_drew1 | refine below_set ?_ (IsS55.ge HI134.out) | refine below_set ?_ GE139.out) | exact HB.out)); rintro e w42 ⟨rfl, hi, hb, hk⟩; refine ⟨_, rfl, ?_⟩; have n0_ := Aside0.mk (Kd.R_mono (Kd.R_keep (IsS55.apart (show IsS55 w _ gb134 t133 t141 from by repeat (first | (with_reducible first | exact HI134.out | apply IsS55.alloc | apply IsS55.drewN | apply IsS55.drew | apply IsS55.set_1 | refine IsS55.far ?_ NB134_139.out _) | exact HI134.out)) (rowx HO_4.out) (by decide)) hk (fun _ h => h.2)) (fun _ h => h.1)); have n1_ := Aside0.mk (KeepBut.blk hk (g' := gb139) (o := .cells #[.int .i64 1, .int .i64 (wrap64 (1 + t137)), .int .i64 0] 74 (0, 0)) blkx NB139_134.out (by simp)); have n2_ := Aside0.mk (hb); have n3_ := Aside0.mk (hi); clear HO_4; clear BK139; clear HB; clear HI134; have HO_4 := n0_; have BK139 := n1_; have HB := n2_; have HI134 := n3_; clear n0_ n1_ n2_ n3_; (try clear hb); (try clear hb2); (try clear hk); (try clear hi); obtain ⟨hcz43_0, hcz43_1, hcz43_2, hfz43_0, hfz43_1, hfz43_2⟩ := cells3 BK139.out) | ((with_reducible refine gate_builtin (b := .append) (xs := #[.tmp 27, .tmp 29]) rfl ?_); at_builtin; refine Kd.R_append k74 (w0 := w) w.heap.size rfl (.tmp 27) (.tmp 29) 45 74 (.agg #[(.int .i64 0), (.int .i64 0), (.int .i64 0)]) 24 rfl Try.underlying45 info74 rfl (by decide) (by omega) u4 x4_1 (⟨1, wrap64 (1 + t137), t152⟩ : S74) [.int .i64 1, .int .i64 (wrap64 (1 + t137)), .int .i64 t152] (fun k_ => k_ ≠ gb139) (fun _ => False) rfl (by first | (go_simp; done) | (go_simp; rfl)) ?aP (fun _ hk => hk.elim) ?aF ?aO ?aB ?aS ?aL ?_; (case aP => exact k74_mkM _ _ _ (⟨1, wrap64 (1 + t137), t152⟩ : S74)); (case aB => exact (by repeat (first | (with_reducible first | exact HB.out | apply below_alloc | apply pw_below_drewN | apply below_drew1 | refine below_set ?_ (IsS55.ge HI134.out) | refine below_set ?_ GE139.out) | exact HB.out))); (case aF => exact (fun k_ hk => Kd.freshB (g := gb139) (o := .cells #[.int .i64 1, .int .i64 (wrap64 (1 + t137)), .int .i64 t152] 74 (0, 0)) (by (with_reducible repeat (first | refine blk_drewN ?_ _ | refine blk_drew ?_ | refine blk_alloc ?_ _)); refine blk_put (cs := #[.int .i64 1, .int .i64 (wrap64 (1 + t137)), .int .i64 0]) ?_ 2 _ rfl; (with_reducible repeat (first | refine blk_drewN ?_ _ | refine blk_drew ?_ | refine blk_alloc ?_ _)); exact BK139.out) k_ hk)); (case aO => exact (by (with_reducible repeat (first | apply Kd.R_alloc | apply Kd.R_drewN | apply Kd.R_drew)); exact Kd.R_mono (Kd.R_far (p := ⟨gb139, 2, none⟩) (Kd.R_mono HO_4.out (fun k_ hk => (⟨hk, hk.2⟩ : _ ∧ k_ ≠ gb139))) (fun _ hk => hk.2) (.int .i64 t152)) (fun _ hk => hk.1.2))); (case aS => exact (below_size (by repeat (first | (with_reducible first | exact HB.out | apply below_alloc | apply pw_below_drewN | apply below_drew1 | refine below_set ?_ (IsS55.ge HI134.out) | refine below_set ?_ GE139.out) | exact HB.out)))); (case aL => have := LMc35.out; omega); intro v155 w44 ho hb hg hat; rw [← Ny154.out] at ho; have n0_ := Aside0.mk (IsS55.grown (show IsS55 w _ gb134 t133 t153 from by repeat (first | (with_reducible first | exact HI134.out | apply IsS55.alloc | apply IsS55.drewN | apply IsS55.drew | apply IsS55.set_1 | refine IsS55.far ?_ NB134_139.out _) | exact HI134.out)) hg (IsS55.own_ne HI134.out HO_4.out (by decide))); have n2_ := Aside0.mk (hb); have n3_ := Aside0.mk (ho); clear HI134; (try clear BK139); clear HB; clear HO_4; have HI134 := n0_; have HB := n2_; have HO156 := n3_; clear n0_ n2_ n3_; clear ho hb hg hat))
       go_roundg k1
       case measure => have := HK1.out; omega
       case rel => exact ⟨(y154), (t153), H', ⟨by have := HK1.out; omega⟩, ⟨by (with_reducible repeat (first | apply Kd.R_alloc | apply Kd.R_drewN | apply Kd.R_drew)); exact Kd.R_mono HO156.out (fun _ hk => trivial)⟩, ⟨by repeat (first | (with_reducible first | exact HI134.out | apply IsS55.alloc | apply IsS55.drewN | apply IsS55.drew | apply IsS55.set_1 | refine IsS55.far ?_ NB134_139.out _) | exact HI134.out)⟩, ⟨by repeat (first | (with_reducible first | exact HB.out | apply below_alloc | apply pw_below_drewN | apply below_drew1 | refine below_set ?_ (IsS55.ge HI134.out) | refine below_set ?_ GE139.out) | exact HB.out)⟩⟩
      ·rw [if_neg c35] at H
       exact absurd H (by simp)
   ·replace c5 := Bool.eq_false_iff.mpr c5
    subst c5
    have H1 : (some x4_1) = some r := by rw [if_neg (show ¬ (false = true) by decide)] at H; exact H
    clear H
    have H := H1
    clear H1
    obtain rfl := Option.some.inj H
    go_wp2_with (first | ((with_reducible refine gate_callee (f := 32) rfl ?_); refine goesL_ (some 11) rfl rfl Try.func32 (by kernel_rfl) rfl #[.pointer (some ⟨gb134, 0, none⟩)] rfl argx ?_; (with_reducible refine (customsmade_Source_Left.calls gb134 t133 x135001_1 false t136 w _ ?side1 ?side2 A4.out).mono ?_); (case side1 => repeat (first | (with_reducible first | exact HI134.out | apply IsS55.alloc | apply IsS55.drewN | apply IsS55.drew | apply IsS55.set_1) | exact HI134.out)); (case side2 => repeat (first | (with_reducible first | exact HB.out | apply below_alloc | apply pw_below_drewN | apply below_drew1 | refine below_set ?_ (IsS55.ge HI134.out)) | exact HB.out)); rintro e w45 ⟨rfl, hi, hb, hk⟩; refine ⟨_, rfl, ?_⟩; have n0_ := Aside0.mk (Kd.R_mono (Kd.R_keep (IsS55.apart (show IsS55 w _ gb134 t133 x135001_1 from by repeat (first | (with_reducible first | exact HI134.out | apply IsS55.alloc | apply IsS55.drewN | apply IsS55.drew | apply IsS55.set_1) | exact HI134.out)) (rowx HO_4.out) (by decide)) hk (fun _ h => h.2)) (fun _ h => h.1)); have n1_ := Aside0.mk (hb); have n2_ := Aside0.mk (hi); clear HO_4; clear HB; clear HI134; have HO_4 := n0_; have HB := n1_; have HI134 := n2_; clear n0_ n1_ n2_; (try clear hb); (try clear hb2); (try clear hk); (try clear hi)))
    go_ret
    exact ⟨_, by first | rfl | (simp [errW_none, errW_some] <;> rfl) | (simp [*, errW_none, errW_some] <;> rfl), by (with_reducible repeat (first | apply Kd.R_alloc | apply Kd.R_drewN | apply Kd.R_drew)); exact HO_4.out, by repeat (first | (with_reducible first | exact HB.out | apply below_alloc | apply pw_below_drewN | apply below_drew1 | refine below_set ?_ (IsS55.ge HI134.out)) | exact HB.out)⟩
def guarantee_within_int.f (a0 : Int) (a1 : Int) (a2 : Int) : Option (Bool) := if a0 ≥ a1 then (some (decide (a0 ≤ a2))) else (some false)
set_option maxHeartbeats 8000000 in
set_option maxRecDepth 100000 in
theorem guarantee_within_int.calls (a0 : Int) (a1 : Int) (a2 : Int) (r : Bool) (w : World) (h : guarantee_within_int.f a0 a1 a2 = some r) :
  Calls Try.prog 34 #[.int .i64 a0, .int .i64 a1, .int .i64 a2] w fun e w' => e = .returned (.bool r) ∧ Drawn0 w w' := by
 have H : (if a0 ≥ a1 then (some (decide (a0 ≤ a2))) else (some false)) = some r := h
 clear h
 by_cases c4 : a0 ≥ a1
 ·rw [if_pos c4] at H
  have c4b0 : decide (a1 ≤ a0) = true := decide_eq_true c4
  clear c4
  obtain rfl := Option.some.inj H
  go_enter Try.func34, Try.ntmps34
  go_wp2
  go_ret
  exact ⟨by first | rfl | (simp; done) | (simp [*]; done), by repeat (first | exact Drawn0.refl _ | apply Drawn0.step)⟩
 ·rw [if_neg c4] at H
  have c4b0 : decide (a1 ≤ a0) = false := decide_eq_false c4
  clear c4
  obtain rfl := Option.some.inj H
  go_enter Try.func34, Try.ntmps34
  go_wp2
  go_ret
  exact ⟨by first | rfl | (simp; done) | (simp [*]; done), by repeat (first | exact Drawn0.refl _ | apply Drawn0.step)⟩
end Go.Proofs.Ytakhjhiofmgpnaa.PA
-- Written by a program of this claim (wip/tools: mkprint.py, pr.sh) out of the translation: plain functions and their contracts. Lean checks every line.
namespace Go.Proofs.Ytakhjhiofmgpnaa.PA
open Go.RowKit Go.Proofs.YtakhjhiofmgpnaaW.PrintWords Go.Proofs.YtakhjhiofmgpnaaW.PrintLast Go.Proofs.YtakhjhiofmgpnaaW.PrintMore Go.Proofs.Ytakhjhiofmgpnaa.G
attribute [local go_sem] max2_int min2_int max_two min_two max_three min_three max_four min_four   -- for this text's walks alone
set_option linter.unusedVariables false
set_option linter.unusedSimpArgs false
def guarantee_sum.l0 : Nat → Int → List (S39) → Int → Int → Option (Int)
 | 0, _, _, _, _ => none
 | k + 1, x3, x6, x7, x8 => if x8 < x7 then (if 0 ≤ x8 then (if x8 < (x6.length : Int) then (guarantee_sum.l0 k (wrap64 (x3 + ((rd_T39 x6 x8).f1))) x6 x7 (wrap64 (x8 + 1))) else (none)) else (none)) else (some x3)
def guarantee_sum.f (k : Nat) (l0 : List (S39)) : Option (Int) := guarantee_sum.l0 k 0 l0 (l0.length : Int) 0
theorem guarantee_sum.mono_l : ∀ k, (∀ y0 y1 y2 y3, LeO (guarantee_sum.l0 k y0 y1 y2 y3) (guarantee_sum.l0 (k + 1) y0 y1 y2 y3))
 | 0 => fun _ _ _ _ r h => by simp [guarantee_sum.l0] at h
 | k + 1 => by
  have ih0 := guarantee_sum.mono_l k
  ·intro y0 y1 y2 y3
   unfold guarantee_sum.l0
   repeat' first
   | (with_reducible exact ih0 _ _ _ _)
   | (with_reducible exact LeO.refl _)
   | (with_reducible exact LeO.none _)
   | (with_reducible refine LeO.ite ?_ ?_)
   | (with_reducible refine LeO.bind ?_ (fun _ => ?_))
theorem guarantee_sum.mono : ∀ a0 k, LeO (guarantee_sum.f k a0) (guarantee_sum.f (k + 1) a0) := by
 intro a0 k
 have ih0 := guarantee_sum.mono_l k
 unfold guarantee_sum.f
 repeat' first
   | (with_reducible exact ih0 _ _ _ _)
   | (with_reducible exact LeO.refl _)
   | (with_reducible exact LeO.none _)
   | (with_reducible refine LeO.ite ?_ ?_)
   | (with_reducible refine LeO.bind ?_ (fun _ => ?_))
set_option maxHeartbeats 8000000 in
set_option maxRecDepth 100000 in
theorem guarantee_sum.calls (k : Nat) (A0 : Option Addr) (c0 : Nat) (l0 : List (S39)) (r : Int) (w : World) (hr0 : Kd.C k39 w A0 l0.length l0) (hc0 : l0.length ≤ c0) (h : guarantee_sum.f k l0 = some r) :
  Calls Try.prog 35 #[.slice A0 l0.length c0] w fun e w' => e = .returned (.int .i64 r) ∧ Below w.heap.size w w' := by
 have hu39 := Try.underlying39
 have HR0 := Aside0.mk hr0
 have HC0 := Aside0.mk hc0
 clear hr0 hc0
 have HB := Aside0.mk (Below.refl w.heap.size w)
 have H : (guarantee_sum.l0 k 0 l0 (l0.length : Int) 0) = some r := h
 clear h
 have H' := Aside0.mk H
 clear H
 go_enter Try.func35, Try.ntmps35
 go_wp2
 go_loopg [3, 8] k (fun kq v3 v8 w' => ∃ (x3_1 : Int) (x8_1 : Int), v3 = .int .i64 x3_1 ∧ v8 = .int .i64 x8_1 ∧ Aside0 (guarantee_sum.l0 kq x3_1 l0 (l0.length : Int) x8_1 = some r) ∧ Aside0 (kq ≤ k) ∧ Aside0 (Below w.heap.size w w'))
 case atStart => exact ⟨(0), (0), (by first | rfl | (simp; done) | (simp [*]; done)), (by first | rfl | (simp; done) | (simp [*]; done)), H', ⟨Nat.le_refl _⟩, ⟨bel⟩⟩
 case round =>
  clear H'
  obtain ⟨x3_1, x8_1, rfl, rfl, HA, HK1, HB⟩ := hrel
  cases gk with
  | zero => exact absurd HA.out (by simp [guarantee_sum.l0])
  | succ k1 =>
   have H := HA.out
   clear HA
   simp only [guarantee_sum.l0] at H
   by_cases c2 : x8_1 < (l0.length : Int)
   ·rw [if_pos c2] at H
    have c2b0 : decide (x8_1 < (l0.length : Int)) = true := decide_eq_true c2
    clear c2
    by_cases c3 : 0 ≤ x8_1
    ·rw [if_pos c3] at H
     have c3b0 : decide (0 ≤ x8_1) = true := decide_eq_true c3
     clear c3
     by_cases c4 : x8_1 < (l0.length : Int)
     ·rw [if_pos c4] at H
      have c4b0 : decide (x8_1 < (l0.length : Int)) = true := decide_eq_true c4
      clear c4
      have H' := Aside0.mk H
      clear H
      have p157 : 0 ≤ (x8_1 : Int) := of_decide_eq_true (by first | (with_reducible assumption) | assumption)
      have q157 : x8_1 < (l0.length : Int) := of_decide_eq_true (by first | (with_reducible assumption) | assumption)
      obtain ⟨ad157, e157, hx157_0, hx157_1⟩ := at_T39 HR0.out x8_1 p157 q157
      cases e157
      replace hx157_0 := (HB.out.cell (World.block_lt_of_cell? w _ hx157_0)).trans hx157_0
      replace hx157_1 := (HB.out.cell (World.block_lt_of_cell? w _ hx157_1)).trans hx157_1
      replace p157 := eq_true p157
      replace q157 := eq_true q157
      go_wp2_with (first | ((with_reducible refine gate_dst (N := 5) rfl ?_); refine box_event ?hg (N := 5) ?hd (cs := #[.int .i64 0, .int .i64 0]) (t := 39) ?hr ?_; (case hd => rfl); (case hg => rfl); (case hr => first | (go_simp; done) | (go_simp; rfl)); intro gb158 hg w5 hbox hb; have qb_ := below_both bel hb; have n0_ := Aside0.mk (qb_.1); have n1_ := Aside0.mk (hbox); have n3_ := Aside0.mk ((by rw [hg]; exact qb_.2 : w.heap.size ≤ gb158)); clear HB; have HB := n0_; have BK158 := n1_; have GE158 := n3_; clear qb_; clear n0_ n1_ n3_; clear hb hbox hg; obtain ⟨hcz6_0, hcz6_1, hfz6_0, hfz6_1⟩ := cells2 BK158.out))
      go_roundg k1
      case measure => have := HK1.out; omega
      case rel => exact ⟨(wrap64 (x3_1 + ((rd_T39 l0 x8_1).f1))), (wrap64 (x8_1 + 1)), (by first | rfl | (simp; done) | (simp [*]; done)), (by first | rfl | (simp; done) | (simp [*]; done)), H', ⟨by have := HK1.out; omega⟩, ⟨bel⟩⟩
     ·rw [if_neg c4] at H
      exact absurd H (by simp)
    ·rw [if_neg c3] at H
     exact absurd H (by simp)
   ·rw [if_neg c2] at H
    have c2b0 : decide (x8_1 < (l0.length : Int)) = false := decide_eq_false c2
    clear c2
    obtain rfl := Option.some.inj H
    go_wp2
    go_ret
    exact ⟨by first | rfl | (simp [errW_none, errW_some] <;> rfl) | (simp [*, errW_none, errW_some] <;> rfl), bel⟩
end Go.Proofs.Ytakhjhiofmgpnaa.PA
-- Written by a program of this claim (wip/tools: mkprint.py, pr.sh) out of the translation: plain functions and their contracts. Lean checks every line.
namespace Go.Proofs.Ytakhjhiofmgpnaa.PA
open Go.RowKit Go.Proofs.YtakhjhiofmgpnaaW.PrintWords Go.Proofs.YtakhjhiofmgpnaaW.PrintLast Go.Proofs.YtakhjhiofmgpnaaW.PrintMore Go.Proofs.Ytakhjhiofmgpnaa.G
attribute [local go_sem] max2_int min2_int max_two min_two max_three min_three max_four min_four   -- for this text's walks alone
set_option linter.unusedVariables false
set_option linter.unusedSimpArgs false
mutual
def guarantee_Validate.j0 : Nat → Bool → Int → Int → Int → List (S39) → Option (Int)
 | 0, _, _, _, _, _ => none
 | k + 1, x21, x160000, x160001, x160002, x160003 => if x21 = true then (some 2) else (if (x160003.length : Int) > 64 then (some 8) else (guarantee_Validate.l0 k x160003 (x160003.length : Int) 0 x160000 x160001 x160002 x160003))
def guarantee_Validate.l0 : Nat → List (S39) → Int → Int → Int → Int → Int → List (S39) → Option (Int)
 | 0, _, _, _, _, _, _, _ => none
 | k + 1, x27, x28, x29, x160000, x160001, x160002, x160003 => if x29 < x28 then (if 0 ≤ x29 then (if x29 < (x27.length : Int) then ((guarantee_within_int.f ((rd_T39 x27 x29).f0) 1 1000000).bind fun t165 => (if t165 = true then ((guarantee_within_int.f ((rd_T39 x27 x29).f1) 0 1000000000000).bind fun t166 => (if t166 = true then (guarantee_Validate.l0 k x27 x28 (wrap64 (x29 + 1)) x160000 x160001 x160002 x160003) else (some 2))) else (some 2))) else (none)) else (none)) else (guarantee_Validate.l1 k 1 x160000 x160001 x160002 x160003)
def guarantee_Validate.l1 : Nat → Int → Int → Int → Int → List (S39) → Option (Int)
 | 0, _, _, _, _, _ => none
 | k + 1, x5, x160000, x160001, x160002, x160003 => if x5 < (x160003.length : Int) then (if 0 ≤ x5 then (if 0 ≤ (wrap64 (x5 - 1)) then (if (wrap64 (x5 - 1)) < (x160003.length : Int) then (if ((rd_T39 x160003 x5).f0) ≤ ((rd_T39 x160003 (wrap64 (x5 - 1))).f0) then (some 9) else (guarantee_Validate.l1 k (wrap64 (x5 + 1)) x160000 x160001 x160002 x160003)) else (none)) else (none)) else (none)) else ((guarantee_sum.f k x160003).bind fun t169 => (if t169 > x160001 then (some 16) else (some 0)))
end
def guarantee_Validate.f (k : Nat) (a0_0 : Int) (a0_1 : Int) (a0_2 : Int) (l0_3 : List (S39)) : Option (Int) := (guarantee_within_int.f a0_0 1 1000000).bind fun t160 => (if t160 = true then ((guarantee_within_int.f a0_1 0 1000000000000).bind fun t161 => (if t161 = true then ((guarantee_within_int.f a0_2 0 1000000).bind fun t162 => (guarantee_Validate.j0 k (!t162) a0_0 a0_1 a0_2 l0_3)) else (guarantee_Validate.j0 k true a0_0 a0_1 a0_2 l0_3))) else (guarantee_Validate.j0 k true a0_0 a0_1 a0_2 l0_3))
theorem guarantee_Validate.mono_l : ∀ k, (∀ y0 y1 y2 y3 y4, LeO (guarantee_Validate.j0 k y0 y1 y2 y3 y4) (guarantee_Validate.j0 (k + 1) y0 y1 y2 y3 y4)) ∧ (∀ y0 y1 y2 y3 y4 y5 y6, LeO (guarantee_Validate.l0 k y0 y1 y2 y3 y4 y5 y6) (guarantee_Validate.l0 (k + 1) y0 y1 y2 y3 y4 y5 y6)) ∧ (∀ y0 y1 y2 y3 y4, LeO (guarantee_Validate.l1 k y0 y1 y2 y3 y4) (guarantee_Validate.l1 (k + 1) y0 y1 y2 y3 y4))
 | 0 => ⟨fun _ _ _ _ _ r h => by simp [guarantee_Validate.j0] at h, fun _ _ _ _ _ _ _ r h => by simp [guarantee_Validate.l0] at h, fun _ _ _ _ _ r h => by simp [guarantee_Validate.l1] at h⟩
 | k + 1 => by
  obtain ⟨ih0, ih1, ih2⟩ := guarantee_Validate.mono_l k
  refine ⟨?_, ?_, ?_⟩
  ·intro y0 y1 y2 y3 y4
   unfold guarantee_Validate.j0
   repeat' first
   | (with_reducible exact ih0 _ _ _ _ _)
   | (with_reducible exact ih1 _ _ _ _ _ _ _)
   | (with_reducible exact ih2 _ _ _ _ _)
   | (with_reducible exact guarantee_sum.mono _ _)
   | (with_reducible exact LeO.refl _)
   | (with_reducible exact LeO.none _)
   | (with_reducible refine LeO.ite ?_ ?_)
   | (with_reducible refine LeO.bind ?_ (fun _ => ?_))
  ·intro y0 y1 y2 y3 y4 y5 y6
   unfold guarantee_Validate.l0
   repeat' first
   | (with_reducible exact ih0 _ _ _ _ _)
   | (with_reducible exact ih1 _ _ _ _ _ _ _)
   | (with_reducible exact ih2 _ _ _ _ _)
   | (with_reducible exact guarantee_sum.mono _ _)
   | (with_reducible exact LeO.refl _)
   | (with_reducible exact LeO.none _)
   | (with_reducible refine LeO.ite ?_ ?_)
   | (with_reducible refine LeO.bind ?_ (fun _ => ?_))
  ·intro y0 y1 y2 y3 y4
   unfold guarantee_Validate.l1
   repeat' first
   | (with_reducible exact ih0 _ _ _ _ _)
   | (with_reducible exact ih1 _ _ _ _ _ _ _)
   | (with_reducible exact ih2 _ _ _ _ _)
   | (with_reducible exact guarantee_sum.mono _ _)
   | (with_reducible exact LeO.refl _)
   | (with_reducible exact LeO.none _)
   | (with_reducible refine LeO.ite ?_ ?_)
   | (with_reducible refine LeO.bind ?_ (fun _ => ?_))
theorem guarantee_Validate.mono : ∀ a0 a1 a2 a3 k, LeO (guarantee_Validate.f k a0 a1 a2 a3) (guarantee_Validate.f (k + 1) a0 a1 a2 a3) := by
 intro a0 a1 a2 a3 k
 obtain ⟨ih0, ih1, ih2⟩ := guarantee_Validate.mono_l k
 unfold guarantee_Validate.f
 repeat' first
   | (with_reducible exact ih0 _ _ _ _ _)
   | (with_reducible exact ih1 _ _ _ _ _ _ _)
   | (with_reducible exact ih2 _ _ _ _ _)
   | (with_reducible exact guarantee_sum.mono _ _)
   | (with_reducible exact LeO.refl _)
   | (with_reducible exact LeO.none _)
   | (with_reducible refine LeO.ite ?_ ?_)
   | (with_reducible refine LeO.bind ?_ (fun _ => ?_))
def guarantee_Validate.T14 : Bool × List (List Nat × List Nat) := (true, [([], []), ([0], [0]), ([], []), ([1, 2], [1, 2]), ([3], [3]), ([4], [4]), ([], []), ([6], [6]), ([], []), ([8], [8]), ([7, 9], [7, 9]), ([10], [10]), ([11], [11]), ([5, 12], [5, 12])])
def guarantee_Validate.B14 : List Nat := [0, 1, 0, 7, 15, 31, 0, 64, 0, 256, 960, 1984, 4032, 8191]
theorem guarantee_Validate.tab14 : rtab .any (opsOf Try.f11 14) = guarantee_Validate.T14 := by kernel_rfl
theorem guarantee_Validate.bits14 : waitsOk guarantee_Validate.T14.2 guarantee_Validate.B14 = true := by kernel_rfl
set_option maxHeartbeats 8000000 in
set_option maxRecDepth 100000 in
theorem guarantee_Validate.calls (k : Nat) (a0_0 : Int) (a0_1 : Int) (a0_2 : Int) (A0_3 : Option Addr) (c0_3 : Nat) (l0_3 : List (S39)) (r : Int) (w : World) (hr0_3 : Kd.C k39 w A0_3 l0_3.length l0_3) (hc0_3 : l0_3.length ≤ c0_3) (h : guarantee_Validate.f k a0_0 a0_1 a0_2 l0_3 = some r) :
  Calls Try.prog 11 #[.agg #[.int .i64 a0_0, .int .i64 a0_1, .int .i64 a0_2, .slice A0_3 l0_3.length c0_3]] w fun e w' => e = .returned (.int .i64 r) ∧ Below w.heap.size w w' := by
 have hu25 := Try.underlying25
 have hu39 := Try.underlying39
 have HR0_3 := Aside0.mk hr0_3
 have HC0_3 := Aside0.mk hc0_3
 clear hr0_3 hc0_3
 have HB := Aside0.mk (Below.refl w.heap.size w)
 have H : ((guarantee_within_int.f a0_0 1 1000000).bind fun t160 => (if t160 = true then ((guarantee_within_int.f a0_1 0 1000000000000).bind fun t161 => (if t161 = true then ((guarantee_within_int.f a0_2 0 1000000).bind fun t162 => (guarantee_Validate.j0 k (!t162) a0_0 a0_1 a0_2 l0_3)) else (guarantee_Validate.j0 k true a0_0 a0_1 a0_2 l0_3))) else (guarantee_Validate.j0 k true a0_0 a0_1 a0_2 l0_3))) = some r := h
 clear h
 have HC2 := Aside0.mk H
 clear H
 go_enter Try.func11, Try.ntmps11
 go_upto_region 1 with (first | ((with_reducible refine gate_dst (N := 1) rfl ?_); refine box_event ?hg (N := 1) ?hd (cs := #[.int .i64 a0_0, .int .i64 a0_1, .int .i64 a0_2, .slice A0_3 l0_3.length c0_3]) (t := 25) ?hr ?_; (case hd => rfl); (case hg => rfl); (case hr => first | (go_simp; done) | (go_simp; rfl)); intro gb159 hg w3 hbox hb; have qb_ := below_both bel hb; have n0_ := Aside0.mk (qb_.1); have n1_ := Aside0.mk (hbox); have n2_ := Aside0.mk ((by rw [hg]; exact qb_.2 : w.heap.size ≤ gb159)); have n3_ := n2_; clear HB; have HB := n0_; have BK159 := n1_; have GW159 := n2_; have GE159 := n3_; clear qb_; clear n0_ n1_ n2_ n3_; clear hb hbox hg))
 (try simp only [Act.put, List.setIfInBounds_toArray, List.set_cons_zero, List.set_cons_succ])
 go_cut [21] (fun v21 wc => ∃ (kq : Nat) (x21_1 : Bool), v21 = .bool x21_1 ∧ Aside0 (guarantee_Validate.j0 kq x21_1 a0_0 a0_1 a0_2 l0_3 = some r) ∧ Aside0 (kq ≤ k) ∧ Aside0 (wc.heap[gb159]? = some (.cells #[.int .i64 a0_0, .int .i64 a0_1, .int .i64 a0_2, (.slice A0_3 l0_3.length c0_3)] 25 (0, 0))) ∧ Aside0 (Below w.heap.size w wc))
 case first =>
  have H := HC2.out
  clear HC2
  replace H := Option.bind_eq_some_iff.mp H
  obtain ⟨t160, A40, H⟩ := H
  replace H : (if t160 = true then ((guarantee_within_int.f a0_1 0 1000000000000).bind fun t161 => (if t161 = true then ((guarantee_within_int.f a0_2 0 1000000).bind fun t162 => (guarantee_Validate.j0 k (!t162) a0_0 a0_1 a0_2 l0_3)) else (guarantee_Validate.j0 k true a0_0 a0_1 a0_2 l0_3))) else (guarantee_Validate.j0 k true a0_0 a0_1 a0_2 l0_3)) = some r := H
  have A4 := Aside0.mk A40
  clear A40
  by_cases c5 : t160 = true
  ·subst c5
   have H1 : ((guarantee_within_int.f a0_1 0 1000000000000).bind fun t161 => (if t161 = true then ((guarantee_within_int.f a0_2 0 1000000).bind fun t162 => (guarantee_Validate.j0 k (!t162) a0_0 a0_1 a0_2 l0_3)) else (guarantee_Validate.j0 k true a0_0 a0_1 a0_2 l0_3))) = some r := by rw [if_pos rfl] at H; exact H
   clear H
   have H := H1
   clear H1
   replace H := Option.bind_eq_some_iff.mp H
   obtain ⟨t161, A60, H⟩ := H
   replace H : (if t161 = true then ((guarantee_within_int.f a0_2 0 1000000).bind fun t162 => (guarantee_Validate.j0 k (!t162) a0_0 a0_1 a0_2 l0_3)) else (guarantee_Validate.j0 k true a0_0 a0_1 a0_2 l0_3)) = some r := H
   have A6 := Aside0.mk A60
   clear A60
   by_cases c7 : t161 = true
   ·subst c7
    have H1 : ((guarantee_within_int.f a0_2 0 1000000).bind fun t162 => (guarantee_Validate.j0 k (!t162) a0_0 a0_1 a0_2 l0_3)) = some r := by rw [if_pos rfl] at H; exact H
    clear H
    have H := H1
    clear H1
    replace H := Option.bind_eq_some_iff.mp H
    obtain ⟨t162, A80, H⟩ := H
    replace H : (guarantee_Validate.j0 k (!t162) a0_0 a0_1 a0_2 l0_3) = some r := H
    have A8 := Aside0.mk A80
    clear A80
    have H' := Aside0.mk H
    clear H
    obtain ⟨hcz9_0, hcz9_1, hcz9_2, hcz9_3, hfz9_0, hfz9_1, hfz9_2, hfz9_3⟩ := cells4 BK159.out
    go_wp2_with (first | ((with_reducible refine gate_callee (f := 34) rfl ?_); refine goesL_ (some 8) rfl rfl Try.func34 (by kernel_rfl) rfl #[.int .i64 a0_0, .int .i64 1, .int .i64 1000000] rfl argx ?_; (with_reducible refine (guarantee_within_int.calls a0_0 1 1000000 true _ A4.out).mono ?_); rintro e w' ⟨rfl, ⟨nd, rfl⟩⟩; refine ⟨_, rfl, ?_⟩) | (go_at_call 34; (with_reducible refine (guarantee_within_int.calls a0_1 0 1000000000000 true _ A6.out).mono ?_); rintro e w' ⟨rfl, ⟨nd, rfl⟩⟩) | (go_at_call 34; (with_reducible refine (guarantee_within_int.calls a0_2 0 1000000 t162 _ A8.out).mono ?_); rintro e w' ⟨rfl, ⟨nd, rfl⟩⟩))
    go_meet
    case rel => exact ⟨_, (!t162), (by first | rfl | (simp; done) | (simp [*]; done)), H', ⟨by first | omega | exact Nat.le_refl _⟩, ⟨by (with_reducible repeat (first | refine blk_drewN ?_ _ | refine blk_drew ?_ | refine blk_alloc ?_ _)); exact BK159.out⟩, ⟨bel⟩⟩
   ·replace c7 := Bool.eq_false_iff.mpr c7
    subst c7
    have H1 : (guarantee_Validate.j0 k true a0_0 a0_1 a0_2 l0_3) = some r := by rw [if_neg (show ¬ (false = true) by decide)] at H; exact H
    clear H
    have H := H1
    clear H1
    have H' := Aside0.mk H
    clear H
    obtain ⟨hcz10_0, hcz10_1, hcz10_2, hcz10_3, hfz10_0, hfz10_1, hfz10_2, hfz10_3⟩ := cells4 BK159.out
    go_wp2_with (first | ((with_reducible refine gate_callee (f := 34) rfl ?_); refine goesL_ (some 8) rfl rfl Try.func34 (by kernel_rfl) rfl #[.int .i64 a0_0, .int .i64 1, .int .i64 1000000] rfl argx ?_; (with_reducible refine (guarantee_within_int.calls a0_0 1 1000000 true _ A4.out).mono ?_); rintro e w' ⟨rfl, ⟨nd, rfl⟩⟩; refine ⟨_, rfl, ?_⟩) | (go_at_call 34; (with_reducible refine (guarantee_within_int.calls a0_1 0 1000000000000 false _ A6.out).mono ?_); rintro e w' ⟨rfl, ⟨nd, rfl⟩⟩))
    go_meet
    case rel => exact ⟨_, (true), (by first | rfl | (simp; done) | (simp [*]; done)), H', ⟨by first | omega | exact Nat.le_refl _⟩, ⟨by (with_reducible repeat (first | refine blk_drewN ?_ _ | refine blk_drew ?_ | refine blk_alloc ?_ _)); exact BK159.out⟩, ⟨bel⟩⟩
  ·replace c5 := Bool.eq_false_iff.mpr c5
   subst c5
   have H1 : (guarantee_Validate.j0 k true a0_0 a0_1 a0_2 l0_3) = some r := by rw [if_neg (show ¬ (false = true) by decide)] at H; exact H
   clear H
   have H := H1
   clear H1
   have H' := Aside0.mk H
   clear H
   obtain ⟨hcz11_0, hcz11_1, hcz11_2, hcz11_3, hfz11_0, hfz11_1, hfz11_2, hfz11_3⟩ := cells4 BK159.out
   go_wp2_with (first | ((with_reducible refine gate_callee (f := 34) rfl ?_); refine goesL_ (some 8) rfl rfl Try.func34 (by kernel_rfl) rfl #[.int .i64 a0_0, .int .i64 1, .int .i64 1000000] rfl argx ?_; (with_reducible refine (guarantee_within_int.calls a0_0 1 1000000 false _ A4.out).mono ?_); rintro e w' ⟨rfl, ⟨nd, rfl⟩⟩; refine ⟨_, rfl, ?_⟩))
   go_meet
   case rel => exact ⟨_, (true), (by first | rfl | (simp; done) | (simp [*]; done)), H', ⟨by first | omega | exact Nat.le_refl _⟩, ⟨by (with_reducible repeat (first | refine blk_drewN ?_ _ | refine blk_drew ?_ | refine blk_alloc ?_ _)); exact BK159.out⟩, ⟨bel⟩⟩
 case rest =>
  clear HC2
  try clear c1
  try clear p2
  try clear c3
  try clear c5
  try clear c7
  try clear c11
  try clear hcz10_0
  try clear hcz10_1
  try clear hcz10_2
  try clear hcz10_3
  try clear hcz11_0
  try clear hcz11_1
  try clear hcz11_2
  try clear hcz11_3
  try clear hcz9_0
  try clear hcz9_1
  try clear hcz9_2
  try clear hcz9_3
  try clear hfz10_0
  try clear hfz10_1
  try clear hfz10_2
  try clear hfz10_3
  try clear hfz11_0
  try clear hfz11_1
  try clear hfz11_2
  try clear hfz11_3
  try clear hfz9_0
  try clear hfz9_1
  try clear hfz9_2
  try clear hfz9_3
  obtain ⟨kq, x21_1, rfl, HA, HJ1, BK159, HB⟩ := hcut
  cases kq with
  | zero => exact absurd HA.out (by simp [guarantee_Validate.j0])
  | succ kj1 =>
   have H := HA.out
   clear HA
   simp only [guarantee_Validate.j0] at H
   by_cases c12 : x21_1 = true
   ·subst c12
    have H1 : (some 2) = some r := by rw [if_pos rfl] at H; exact H
    clear H
    have H := H1
    clear H1
    obtain rfl := Option.some.inj H
    go_wp2
    go_ret
    exact ⟨by first | rfl | (simp [errW_none, errW_some] <;> rfl) | (simp [*, errW_none, errW_some] <;> rfl), bel⟩
   ·replace c12 := Bool.eq_false_iff.mpr c12
    subst c12
    have H1 : (if (l0_3.length : Int) > 64 then (some 8) else (guarantee_Validate.l0 kj1 l0_3 (l0_3.length : Int) 0 a0_0 a0_1 a0_2 l0_3)) = some r := by rw [if_neg (show ¬ (false = true) by decide)] at H; exact H
    clear H
    have H := H1
    clear H1
    by_cases c13 : (l0_3.length : Int) > 64
    ·rw [if_pos c13] at H
     have c13b0 : decide (64 < (l0_3.length : Int)) = true := decide_eq_true c13
     have c13b1 : decide (64 < l0_3.length) = true := decide_eq_true (by omega)
     clear c13
     obtain rfl := Option.some.inj H
     obtain ⟨hcz14_0, hcz14_1, hcz14_2, hcz14_3, hfz14_0, hfz14_1, hfz14_2, hfz14_3⟩ := cells4 BK159.out
     go_wp2
     go_ret
     exact ⟨by first | rfl | (simp [errW_none, errW_some] <;> rfl) | (simp [*, errW_none, errW_some] <;> rfl), bel⟩
    ·rw [if_neg c13] at H
     have c13b0 : decide (64 < (l0_3.length : Int)) = false := decide_eq_false c13
     have c13b1 : decide (64 < l0_3.length) = false := decide_eq_false (by omega)
     clear c13
     have H' := Aside0.mk H
     clear H
     obtain ⟨hcz15_0, hcz15_1, hcz15_2, hcz15_3, hfz15_0, hfz15_1, hfz15_2, hfz15_3⟩ := cells4 BK159.out
     go_wp2
     go_loopg [29] kj1 (fun kq v29 w' => ∃ (x29_2 : Int), v29 = .int .i64 x29_2 ∧ Aside0 (guarantee_Validate.l0 kq l0_3 (l0_3.length : Int) x29_2 a0_0 a0_1 a0_2 l0_3 = some r) ∧ Aside0 (kq ≤ kj1) ∧ Aside0 (w'.heap[gb159]? = some (.cells #[.int .i64 a0_0, .int .i64 a0_1, .int .i64 a0_2, (.slice A0_3 l0_3.length c0_3)] 25 (0, 0))) ∧ Aside0 (Below w.heap.size w w'))
     case atStart => exact ⟨(0), (by first | rfl | (simp; done) | (simp [*]; done)), H', ⟨Nat.le_refl _⟩, ⟨by (with_reducible repeat (first | refine blk_drewN ?_ _ | refine blk_drew ?_ | refine blk_alloc ?_ _)); exact BK159.out⟩, ⟨bel⟩⟩
     case round =>
      clear H'
      try clear c1
      try clear p2
      try clear c3
      try clear c5
      try clear c7
      try clear c11
      try clear c12
      try clear c13
      try clear c13b0
      try clear c13b1
      try clear hcz10_0
      try clear hcz10_1
      try clear hcz10_2
      try clear hcz10_3
      try clear hcz11_0
      try clear hcz11_1
      try clear hcz11_2
      try clear hcz11_3
      try clear hcz14_0
      try clear hcz14_1
      try clear hcz14_2
      try clear hcz14_3
      try clear hcz15_0
      try clear hcz15_1
      try clear hcz15_2
      try clear hcz15_3
      try clear hcz9_0
      try clear hcz9_1
      try clear hcz9_2
      try clear hcz9_3
      try clear hfz10_0
      try clear hfz10_1
      try clear hfz10_2
      try clear hfz10_3
      try clear hfz11_0
      try clear hfz11_1
      try clear hfz11_2
      try clear hfz11_3
      try clear hfz14_0
      try clear hfz14_1
      try clear hfz14_2
      try clear hfz14_3
      try clear hfz15_0
      try clear hfz15_1
      try clear hfz15_2
      try clear hfz15_3
      try clear hfz9_0
      try clear hfz9_1
      try clear hfz9_2
      try clear hfz9_3
      try clear p2
      obtain ⟨x29_2, rfl, HA, HK2, BK159, HB⟩ := hrel
      cases gk with
      | zero => exact absurd HA.out (by simp [guarantee_Validate.l0])
      | succ k2 =>
       have H := HA.out
       clear HA
       simp only [guarantee_Validate.l0] at H
       by_cases c16 : x29_2 < (l0_3.length : Int)
       ·rw [if_pos c16] at H
        have c16b0 : decide (x29_2 < (l0_3.length : Int)) = true := decide_eq_true c16
        clear c16
        by_cases c17 : 0 ≤ x29_2
        ·rw [if_pos c17] at H
         have c17b0 : decide (0 ≤ x29_2) = true := decide_eq_true c17
         clear c17
         by_cases c18 : x29_2 < (l0_3.length : Int)
         ·rw [if_pos c18] at H
          have c18b0 : decide (x29_2 < (l0_3.length : Int)) = true := decide_eq_true c18
          clear c18
          replace H := Option.bind_eq_some_iff.mp H
          obtain ⟨t165, A190, H⟩ := H
          replace H : (if t165 = true then ((guarantee_within_int.f ((rd_T39 l0_3 x29_2).f1) 0 1000000000000).bind fun t166 => (if t166 = true then (guarantee_Validate.l0 k2 l0_3 (l0_3.length : Int) (wrap64 (x29_2 + 1)) a0_0 a0_1 a0_2 l0_3) else (some 2))) else (some 2)) = some r := H
          have A19 := Aside0.mk A190
          clear A190
          by_cases c20 : t165 = true
          ·subst c20
           have H1 : ((guarantee_within_int.f ((rd_T39 l0_3 x29_2).f1) 0 1000000000000).bind fun t166 => (if t166 = true then (guarantee_Validate.l0 k2 l0_3 (l0_3.length : Int) (wrap64 (x29_2 + 1)) a0_0 a0_1 a0_2 l0_3) else (some 2))) = some r := by rw [if_pos rfl] at H; exact H
           clear H
           have H := H1
           clear H1
           replace H := Option.bind_eq_some_iff.mp H
           obtain ⟨t166, A210, H⟩ := H
           replace H : (if t166 = true then (guarantee_Validate.l0 k2 l0_3 (l0_3.length : Int) (wrap64 (x29_2 + 1)) a0_0 a0_1 a0_2 l0_3) else (some 2)) = some r := H
           have A21 := Aside0.mk A210
           clear A210
           by_cases c22 : t166 = true
           ·subst c22
            have H1 : (guarantee_Validate.l0 k2 l0_3 (l0_3.length : Int) (wrap64 (x29_2 + 1)) a0_0 a0_1 a0_2 l0_3) = some r := by rw [if_pos rfl] at H; exact H
            clear H
            have H := H1
            clear H1
            have H' := Aside0.mk H
            clear H
            have p163 : 0 ≤ (x29_2 : Int) := of_decide_eq_true (by first | (with_reducible assumption) | assumption)
            have q163 : x29_2 < (l0_3.length : Int) := of_decide_eq_true (by first | (with_reducible assumption) | assumption)
            obtain ⟨ad163, e163, hx163_0, hx163_1⟩ := at_T39 HR0_3.out x29_2 p163 q163
            cases e163
            replace hx163_0 := (HB.out.cell (World.block_lt_of_cell? w _ hx163_0)).trans hx163_0
            replace hx163_1 := (HB.out.cell (World.block_lt_of_cell? w _ hx163_1)).trans hx163_1
            replace p163 := eq_true p163
            replace q163 := eq_true q163
            go_wp2_with (first | ((with_reducible refine gate_dst (N := 4) rfl ?_); refine box_event ?hg (N := 4) ?hd (cs := #[.int .i64 0, .int .i64 0]) (t := 39) ?hr ?_; (case hd => rfl); (case hg => rfl); (case hr => first | (go_simp; done) | (go_simp; rfl)); intro gb164 hg w23 hbox hb; have qb_ := below_both bel hb; have q1_ := blk_below2 (g := gb159) (o := .cells #[.int .i64 a0_0, .int .i64 a0_1, .int .i64 a0_2, .slice (some ad163) l0_3.length c0_3] 25 (0, 0)) blkx hb; have n0_ := Aside0.mk (q1_.1); have n1_ := Aside0.mk (qb_.1); have n2_ := Aside0.mk (hbox); have n4_ := Aside0.mk ((by rw [hg]; exact qb_.2 : w.heap.size ≤ gb164)); have n5_ := Aside0.mk ((by rw [hg]; exact Nat.ne_of_lt q1_.2 : gb159 ≠ gb164)); have n6_ := Aside0.mk (Ne.symm n5_.out); clear BK159; clear HB; have BK159 := n0_; have HB := n1_; have BK164 := n2_; have GE164 := n4_; have NB159_164 := n5_; have NB164_159 := n6_; clear q1_; clear qb_; clear n0_ n1_ n2_ n4_ n5_ n6_; clear hb hbox hg; have hnb24 := NB164_159.out; have hnc24 := NB159_164.out; obtain ⟨hcz25_0, hcz25_1, hfz25_0, hfz25_1⟩ := cells2 BK164.out) | ((with_reducible refine gate_callee (f := 34) rfl ?_); refine goesL_ (some 35) rfl rfl Try.func34 (by kernel_rfl) rfl #[.int .i64 ((rd_T39 l0_3 x29_2).f0), .int .i64 1, .int .i64 1000000] rfl argx ?_; (with_reducible refine (guarantee_within_int.calls ((rd_T39 l0_3 x29_2).f0) 1 1000000 true _ A19.out).mono ?_); rintro e w' ⟨rfl, ⟨nd, rfl⟩⟩; refine ⟨_, rfl, ?_⟩) | (go_at_call 34; (with_reducible refine (guarantee_within_int.calls ((rd_T39 l0_3 x29_2).f1) 0 1000000000000 true _ A21.out).mono ?_); rintro e w' ⟨rfl, ⟨nd, rfl⟩⟩))
            go_roundg k2
            case measure => have := HJ1.out; have := HK2.out; omega
            case rel => exact ⟨(wrap64 (x29_2 + 1)), (by first | rfl | (simp; done) | (simp [*]; done)), H', ⟨by have := HJ1.out; have := HK2.out; omega⟩, ⟨by (with_reducible repeat (first | refine blk_drewN ?_ _ | refine blk_drew ?_ | refine blk_alloc ?_ _)); refine blk_far ?_ NB159_164.out _; (with_reducible repeat (first | refine blk_drewN ?_ _ | refine blk_drew ?_ | refine blk_alloc ?_ _)); refine blk_far ?_ NB159_164.out _; (with_reducible repeat (first | refine blk_drewN ?_ _ | refine blk_drew ?_ | refine blk_alloc ?_ _)); exact BK159.out⟩, ⟨bel⟩⟩
           ·replace c22 := Bool.eq_false_iff.mpr c22
            subst c22
            have H1 : (some 2) = some r := by rw [if_neg (show ¬ (false = true) by decide)] at H; exact H
            clear H
            have H := H1
            clear H1
            obtain rfl := Option.some.inj H
            have p163 : 0 ≤ (x29_2 : Int) := of_decide_eq_true (by first | (with_reducible assumption) | assumption)
            have q163 : x29_2 < (l0_3.length : Int) := of_decide_eq_true (by first | (with_reducible assumption) | assumption)
            obtain ⟨ad163, e163, hx163_0, hx163_1⟩ := at_T39 HR0_3.out x29_2 p163 q163
            cases e163
            replace hx163_0 := (HB.out.cell (World.block_lt_of_cell? w _ hx163_0)).trans hx163_0
            replace hx163_1 := (HB.out.cell (World.block_lt_of_cell? w _ hx163_1)).trans hx163_1
            replace p163 := eq_true p163
            replace q163 := eq_true q163
            go_wp2_with (first | ((with_reducible refine gate_dst (N := 4) rfl ?_); refine box_event ?hg (N := 4) ?hd (cs := #[.int .i64 0, .int .i64 0]) (t := 39) ?hr ?_; (case hd => rfl); (case hg => rfl); (case hr => first | (go_simp; done) | (go_simp; rfl)); intro gb164 hg w26 hbox hb; have n1_ := Aside0.mk (below_step bel hb); have n2_ := Aside0.mk (hbox); have n4_ := Aside0.mk ((by rw [hg]; exact (below_size bel) : w.heap.size ≤ gb164)); have n5_ := Aside0.mk ((by rw [hg]; exact Nat.ne_of_lt (blk_lt (g := gb159) (o := .cells #[.int .i64 a0_0, .int .i64 a0_1, .int .i64 a0_2, .slice (some ad163) l0_3.length c0_3] 25 (0, 0)) blkx) : gb159 ≠ gb164)); have n6_ := Aside0.mk ((by rw [hg]; exact Nat.ne_of_gt (blk_lt (g := gb159) (o := .cells #[.int .i64 a0_0, .int .i64 a0_1, .int .i64 a0_2, .slice (some ad163) l0_3.length c0_3] 25 (0, 0)) blkx) : gb164 ≠ gb159)); (try clear BK159); clear HB; have HB := n1_; have BK164 := n2_; have GE164 := n4_; have NB159_164 := n5_; have NB164_159 := n6_; clear n1_ n2_ n4_ n5_ n6_; clear hb hbox hg; have hnb27 := NB164_159.out; have hnc27 := NB159_164.out; obtain ⟨hcz28_0, hcz28_1, hfz28_0, hfz28_1⟩ := cells2 BK164.out) | ((with_reducible refine gate_callee (f := 34) rfl ?_); refine goesL_ (some 35) rfl rfl Try.func34 (by kernel_rfl) rfl #[.int .i64 ((rd_T39 l0_3 x29_2).f0), .int .i64 1, .int .i64 1000000] rfl argx ?_; (with_reducible refine (guarantee_within_int.calls ((rd_T39 l0_3 x29_2).f0) 1 1000000 true _ A19.out).mono ?_); rintro e w' ⟨rfl, ⟨nd, rfl⟩⟩; refine ⟨_, rfl, ?_⟩) | (go_at_call 34; (with_reducible refine (guarantee_within_int.calls ((rd_T39 l0_3 x29_2).f1) 0 1000000000000 false _ A21.out).mono ?_); rintro e w' ⟨rfl, ⟨nd, rfl⟩⟩))
            go_ret
            exact ⟨by first | rfl | (simp [errW_none, errW_some] <;> rfl) | (simp [*, errW_none, errW_some] <;> rfl), bel⟩
          ·replace c20 := Bool.eq_false_iff.mpr c20
           subst c20
           have H1 : (some 2) = some r := by rw [if_neg (show ¬ (false = true) by decide)] at H; exact H
           clear H
           have H := H1
           clear H1
           obtain rfl := Option.some.inj H
           have p163 : 0 ≤ (x29_2 : Int) := of_decide_eq_true (by first | (with_reducible assumption) | assumption)
           have q163 : x29_2 < (l0_3.length : Int) := of_decide_eq_true (by first | (with_reducible assumption) | assumption)
           obtain ⟨ad163, e163, hx163_0, hx163_1⟩ := at_T39 HR0_3.out x29_2 p163 q163
           cases e163
           replace hx163_0 := (HB.out.cell (World.block_lt_of_cell? w _ hx163_0)).trans hx163_0
           replace hx163_1 := (HB.out.cell (World.block_lt_of_cell? w _ hx163_1)).trans hx163_1
           replace p163 := eq_true p163
           replace q163 := eq_true q163
           go_wp2_with (first | ((with_reducible refine gate_dst (N := 4) rfl ?_); refine box_event ?hg (N := 4) ?hd (cs := #[.int .i64 0, .int .i64 0]) (t := 39) ?hr ?_; (case hd => rfl); (case hg => rfl); (case hr => first | (go_simp; done) | (go_simp; rfl)); intro gb164 hg w29 hbox hb; have n1_ := Aside0.mk (below_step bel hb); have n2_ := Aside0.mk (hbox); have n4_ := Aside0.mk ((by rw [hg]; exact (below_size bel) : w.heap.size ≤ gb164)); have n5_ := Aside0.mk ((by rw [hg]; exact Nat.ne_of_lt (blk_lt (g := gb159) (o := .cells #[.int .i64 a0_0, .int .i64 a0_1, .int .i64 a0_2, .slice (some ad163) l0_3.length c0_3] 25 (0, 0)) blkx) : gb159 ≠ gb164)); have n6_ := Aside0.mk ((by rw [hg]; exact Nat.ne_of_gt (blk_lt (g := gb159) (o := .cells #[.int .i64 a0_0, .int .i64 a0_1, .int .i64 a0_2, .slice (some ad163) l0_3.length c0_3] 25 (0, 0)) blkx) : gb164 ≠ gb159)); (try clear BK159); clear HB; have HB := n1_; have BK164 := n2_; have GE164 := n4_; have NB159_164 := n5_; have NB164_159 := n6_; clear n1_ n2_ n4_ n5_ n6_; clear hb hbox hg; have hnb30 := NB164_159.out; have hnc30 := NB159_164.out; obtain ⟨hcz31_0, hcz31_1, hfz31_0, hfz31_1⟩ := cells2 BK164.out) | ((with_reducible refine gate_callee (f := 34) rfl ?_); refine goesL_ (some 35) rfl rfl Try.func34 (by kernel_rfl) rfl #[.int .i64 ((rd_T39 l0_3 x29_2).f0), .int .i64 1, .int .i64 1000000] rfl argx ?_; (with_reducible refine (guarantee_within_int.calls ((rd_T39 l0_3 x29_2).f0) 1 1000000 false _ A19.out).mono ?_); rintro e w' ⟨rfl, ⟨nd, rfl⟩⟩; refine ⟨_, rfl, ?_⟩))
           go_ret
           exact ⟨by first | rfl | (simp [errW_none, errW_some] <;> rfl) | (simp [*, errW_none, errW_some] <;> rfl), bel⟩
         ·rw [if_neg c18] at H
          exact absurd H (by simp)
        ·rw [if_neg c17] at H
         exact absurd H (by simp)
       ·rw [if_neg c16] at H
        have c16b0 : decide (x29_2 < (l0_3.length : Int)) = false := decide_eq_false c16
        clear c16
        have H' := Aside0.mk H
        clear H
        go_wp2
        go_loopg [5] k2 (fun kq v5 w' => ∃ (x5_3 : Int), v5 = .int .i64 x5_3 ∧ Aside0 (guarantee_Validate.l1 kq x5_3 a0_0 a0_1 a0_2 l0_3 = some r) ∧ Aside0 (kq ≤ k2) ∧ Aside0 (w'.heap[gb159]? = some (.cells #[.int .i64 a0_0, .int .i64 a0_1, .int .i64 a0_2, (.slice A0_3 l0_3.length c0_3)] 25 (0, 0))) ∧ Aside0 (Below w.heap.size w w'))
        case atStart => exact ⟨(1), (by first | rfl | (simp; done) | (simp [*]; done)), H', ⟨Nat.le_refl _⟩, ⟨by (with_reducible repeat (first | refine blk_drewN ?_ _ | refine blk_drew ?_ | refine blk_alloc ?_ _)); exact BK159.out⟩, ⟨bel⟩⟩
        case round =>
         clear H'
         try clear c1
         try clear p1
         try clear q1
         try clear hx1
         try clear c2
         try clear p2
         try clear c3
         try clear c5
         try clear p6
         try clear c7
         try clear c11
         try clear c12
         try clear c13
         try clear c13b0
         try clear c13b1
         try clear c16
         try clear c16b0
         try clear p16
         try clear q16
         try clear hx16
         try clear c17
         try clear c17b0
         try clear c18
         try clear c18b0
         try clear c20
         try clear c22
         try clear c24
         try clear c27
         try clear c30
         try clear hcz10_0
         try clear hcz10_1
         try clear hcz10_2
         try clear hcz10_3
         try clear hcz11_0
         try clear hcz11_1
         try clear hcz11_2
         try clear hcz11_3
         try clear hcz14_0
         try clear hcz14_1
         try clear hcz14_2
         try clear hcz14_3
         try clear hcz15_0
         try clear hcz15_1
         try clear hcz15_2
         try clear hcz15_3
         try clear hcz25_0
         try clear hcz25_1
         try clear hcz28_0
         try clear hcz28_1
         try clear hcz31_0
         try clear hcz31_1
         try clear hcz9_0
         try clear hcz9_1
         try clear hcz9_2
         try clear hcz9_3
         try clear hfz10_0
         try clear hfz10_1
         try clear hfz10_2
         try clear hfz10_3
         try clear hfz11_0
         try clear hfz11_1
         try clear hfz11_2
         try clear hfz11_3
         try clear hfz14_0
         try clear hfz14_1
         try clear hfz14_2
         try clear hfz14_3
         try clear hfz15_0
         try clear hfz15_1
         try clear hfz15_2
         try clear hfz15_3
         try clear hfz25_0
         try clear hfz25_1
         try clear hfz28_0
         try clear hfz28_1
         try clear hfz31_0
         try clear hfz31_1
         try clear hfz9_0
         try clear hfz9_1
         try clear hfz9_2
         try clear hfz9_3
         try clear hx163_0
         try clear hx163_1
         try clear p163
         try clear p2
         try clear q163
         obtain ⟨x5_3, rfl, HA, HK3, BK159, HB⟩ := hrel
         cases gk with
         | zero => exact absurd HA.out (by simp [guarantee_Validate.l1])
         | succ k3 =>
          have H := HA.out
          clear HA
          simp only [guarantee_Validate.l1] at H
          by_cases c32 : x5_3 < (l0_3.length : Int)
          ·rw [if_pos c32] at H
           have c32b0 : decide (x5_3 < (l0_3.length : Int)) = true := decide_eq_true c32
           clear c32
           by_cases c33 : 0 ≤ x5_3
           ·rw [if_pos c33] at H
            have c33b0 : decide (0 ≤ x5_3) = true := decide_eq_true c33
            clear c33
            obtain ⟨ji34, hji34⟩ : ∃ j_ : Int, (wrap64 (x5_3 - 1)) = j_ := ⟨_, rfl⟩
            replace H : (if 0 ≤ (ji34) then (if (ji34) < (l0_3.length : Int) then (if ((rd_T39 l0_3 x5_3).f0) ≤ ((rd_T39 l0_3 (ji34)).f0) then (some 9) else (guarantee_Validate.l1 k3 (wrap64 (x5_3 + 1)) a0_0 a0_1 a0_2 l0_3)) else (none)) else (none)) = some r := by first | (rw [hji34] at H; exact H) | (simp only [hji34] at H ⊢; exact H)
            have hji34w : (IntKind.i64.wrap (x5_3 - 1)) = ji34 := (i64_w _).trans hji34
            by_cases c35 : 0 ≤ (ji34)
            ·rw [if_pos c35] at H
             have c35b0 : decide (0 ≤ (ji34)) = true := decide_eq_true c35
             clear c35
             by_cases c36 : (ji34) < (l0_3.length : Int)
             ·rw [if_pos c36] at H
              have c36b0 : decide ((ji34) < (l0_3.length : Int)) = true := decide_eq_true c36
              clear c36
              by_cases c37 : ((rd_T39 l0_3 x5_3).f0) ≤ ((rd_T39 l0_3 (ji34)).f0)
              ·rw [if_pos c37] at H
               have c37b0 : decide (((rd_T39 l0_3 x5_3).f0) ≤ ((rd_T39 l0_3 (ji34)).f0)) = true := decide_eq_true c37
               clear c37
               obtain rfl := Option.some.inj H
               obtain ⟨hcz38_0, hcz38_1, hcz38_2, hcz38_3, hfz38_0, hfz38_1, hfz38_2, hfz38_3⟩ := cells4 BK159.out
               try go_wp2
               have n0_ := Aside0.mk (blk_drew BK159.out)
               have n1_ := Aside0.mk (below_drew1 HB.out)
               clear BK159
               clear HB
               have BK159 := n0_
               have HB := n1_
               clear n0_ n1_
               have p167 : 0 ≤ (x5_3 : Int) := of_decide_eq_true (by first | (with_reducible assumption) | assumption)
               have q167 : x5_3 < (l0_3.length : Int) := of_decide_eq_true (by first | (with_reducible assumption) | assumption)
               obtain ⟨ad167, e167, hx167_0, hx167_1⟩ := at_T39 HR0_3.out x5_3 p167 q167
               have hw167_1 := hx167_1
               have hw167_0 := hx167_0
               cases e167
               replace hx167_0 := (HB.out.cell (World.block_lt_of_cell? w _ hx167_0)).trans hx167_0
               replace hx167_1 := (HB.out.cell (World.block_lt_of_cell? w _ hx167_1)).trans hx167_1
               replace p167 := eq_true p167
               replace q167 := eq_true q167
               have p168 : 0 ≤ ((ji34) : Int) := of_decide_eq_true (by first | (with_reducible assumption) | assumption)
               have q168 : (ji34) < (l0_3.length : Int) := of_decide_eq_true (by first | (with_reducible assumption) | assumption)
               obtain ⟨ad168, e168, hx168_0, hx168_1⟩ := at_T39 HR0_3.out (ji34) p168 q168
               have hw168_1 := hx168_1
               have hw168_0 := hx168_0
               obtain rfl : ad167 = ad168 := (by injection e168)
               replace hx168_0 := (HB.out.cell (World.block_lt_of_cell? w _ hx168_0)).trans hx168_0
               replace hx168_1 := (HB.out.cell (World.block_lt_of_cell? w _ hx168_1)).trans hx168_1
               replace p168 := eq_true p168
               replace q168 := eq_true q168
               refine start_ (n := 14) (S := fun w' => w'.cell? ⟨gb159, 0, none⟩ = some (.int .i64 a0_0) ∧ w'.cell? ⟨gb159, 1, none⟩ = some (.int .i64 a0_1) ∧ w'.cell? ⟨gb159, 2, none⟩ = some (.int .i64 a0_2) ∧ w'.cell? ⟨gb159, 3, none⟩ = some (.slice (some ad167) l0_3.length c0_3) ∧ w'.cell? (ad167.add ((x5_3).toNat * 2)) = some (.int .i64 ((rd_T39 l0_3 x5_3).f0)) ∧ w'.cell? ⟨(ad167.add ((x5_3).toNat * 2)).block, (ad167.add ((x5_3).toNat * 2)).off + 1, none⟩ = some (.int .i64 ((rd_T39 l0_3 x5_3).f1)) ∧ w'.cell? (ad167.add (((ji34)).toNat * 2)) = some (.int .i64 ((rd_T39 l0_3 (ji34)).f0)) ∧ w'.cell? ⟨(ad167.add (((ji34)).toNat * 2)).block, (ad167.add (((ji34)).toNat * 2)).off + 1, none⟩ = some (.int .i64 ((rd_T39 l0_3 (ji34)).f1))) (ds := []) #[false, false, false, false, false, false, false, false, false, false, false, false, false, false] (by kernel_rfl) rfl rfl ⟨(blk_cell BK159.out 0).trans rfl, (blk_cell BK159.out 1).trans rfl, (blk_cell BK159.out 2).trans rfl, (blk_cell BK159.out 3).trans rfl, ((HB.out.cell (World.block_lt_of_cell? w _ hw167_0)).trans hw167_0), ((HB.out.cell (World.block_lt_of_cell? w _ hw167_1)).trans hw167_1), ((HB.out.cell (World.block_lt_of_cell? w _ hw168_0)).trans hw168_0), ((HB.out.cell (World.block_lt_of_cell? w _ hw168_1)).trans hw168_1)⟩ (fun hHeld => ?_); refine with_tabW guarantee_Validate.tab14 guarantee_Validate.bits14 (fun HT_ HW_ => ?_)
               generalize wr.drew = w39 at BK159 HB hx167_0 hx167_1 hx168_0 hx168_1 hHeld ⊢
               refine pure_ (i := 0) (N := some 51) (v := ?_) (a' := ?_) #[true, false, false, false, false, false, false, false, false, false, false, false, false, false] rfl rfl (any_of HT_.out (by kernel_rfl)) (fun _ _ _ h => h) (Or.inl ⟨by rfl, ?_⟩) ?_ ?_
               rotate_left
               ·intro w'
                go_simp
                with_reducible rfl
               rotate_left
               ·simp only [Act.put, List.setIfInBounds_toArray, List.set_cons_zero, List.set_cons_succ, i64_w, i32_w]
                rfl
               refine pure_ (i := 2) (N := some 53) (v := ?_) (a' := ?_) #[true, false, true, false, false, false, false, false, false, false, false, false, false, false] rfl rfl (any_of HT_.out (by kernel_rfl)) (fun _ _ _ h => h) (Or.inl ⟨by rfl, ?_⟩) ?_ ?_
               rotate_left
               ·intro w'
                go_simp
                with_reducible rfl
               rotate_left
               ·simp only [Act.put, List.setIfInBounds_toArray, List.set_cons_zero, List.set_cons_succ, i64_w, i32_w]
                rfl
               refine pure_ (i := 6) (N := some 57) (v := ?_) (a' := ?_) #[true, false, true, false, false, false, true, false, false, false, false, false, false, false] rfl rfl (any_of HT_.out (by kernel_rfl)) (fun _ _ _ h => h) (Or.inl ⟨by rfl, ?_⟩) ?_ ?_
               rotate_left
               ·intro w'
                go_simp
                with_reducible rfl
               rotate_left
               ·simp only [Act.put, List.setIfInBounds_toArray, List.set_cons_zero, List.set_cons_succ, i64_w, i32_w]
                rfl
               refine pure_ (i := 8) (N := some 59) (v := ?_) (a' := ?_) #[true, false, true, false, false, false, true, false, true, false, false, false, false, false] rfl rfl (any_of HT_.out (by kernel_rfl)) (fun _ _ _ h => h) (Or.inl ⟨by rfl, ?_⟩) ?_ ?_
               rotate_left
               ·intro w'
                go_simp
                with_reducible rfl
               rotate_left
               ·simp only [Act.put, List.setIfInBounds_toArray, List.set_cons_zero, List.set_cons_succ, i64_w, i32_w]
                rfl
               refine pure_ (i := 9) (N := some 60) (v := ?_) (a' := ?_) #[true, false, true, false, false, false, true, false, true, true, false, false, false, false] rfl rfl (any_of HT_.out (by kernel_rfl)) (fun _ _ _ h => h) (Or.inl ⟨by rfl, ?_⟩) ?_ ?_
               rotate_left
               ·intro w'
                go_simp
                with_reducible rfl
               rotate_left
               ·simp only [Act.put, List.setIfInBounds_toArray, List.set_cons_zero, List.set_cons_succ, i64_w, i32_w]
                rfl
               refine take_ (i := 1) (N := some 52) (v := ?_) (a' := ?_) #[true, true, true, false, false, false, true, false, true, true, false, false, false, false] rfl rfl (take_ofW HT_.out HW_.out (by kernel_rfl)) (fun _ _ _ h => h) (Or.inl ⟨by rfl, ?_⟩) hHeld ?_ ?_
               rotate_left
               ·rintro w' ⟨s0, s1, s2, s3, s4, s5, s6, s7⟩
                go_simp
                with_reducible rfl
               rotate_left
               ·simp only [Act.put, List.setIfInBounds_toArray, List.set_cons_zero, List.set_cons_succ, i64_w, i32_w]
                rfl
               refine pure_ (i := 3) (N := some 54) (v := ?_) (a' := ?_) #[true, true, true, true, false, false, true, false, true, true, false, false, false, false] rfl rfl (any_of HT_.out (by kernel_rfl)) (fun _ _ _ h => h) (Or.inl ⟨by rfl, ?_⟩) ?_ ?_
               rotate_left
               ·intro w'
                go_simp
                with_reducible rfl
               rotate_left
               ·simp only [Act.put, List.setIfInBounds_toArray, List.set_cons_zero, List.set_cons_succ, i64_w, i32_w]
                rfl
               refine pure_ (i := 4) (N := some 55) (v := ?_) (a' := ?_) #[true, true, true, true, true, false, true, false, true, true, false, false, false, false] rfl rfl (any_of HT_.out (by kernel_rfl)) (fun _ _ _ h => h) (Or.inl ⟨by rfl, ?_⟩) ?_ ?_
               rotate_left
               ·intro w'
                go_simp
                with_reducible rfl
               rotate_left
               ·simp only [Act.put, List.setIfInBounds_toArray, List.set_cons_zero, List.set_cons_succ, i64_w, i32_w]
                rfl
               refine take_ (i := 5) (N := some 56) (v := ?_) (a' := ?_) #[true, true, true, true, true, true, true, false, true, true, false, false, false, false] rfl rfl (take_ofW HT_.out HW_.out (by kernel_rfl)) (fun _ _ _ h => h) (Or.inl ⟨by rfl, ?_⟩) hHeld ?_ ?_
               rotate_left
               ·rintro w' ⟨s0, s1, s2, s3, s4, s5, s6, s7⟩
                go_simp
                with_reducible rfl
               rotate_left
               ·simp only [Act.put, List.setIfInBounds_toArray, List.set_cons_zero, List.set_cons_succ, i64_w, i32_w]
                rfl
               refine take_ (i := 7) (N := some 58) (v := ?_) (a' := ?_) #[true, true, true, true, true, true, true, true, true, true, false, false, false, false] rfl rfl (take_ofW HT_.out HW_.out (by kernel_rfl)) (fun _ _ _ h => h) (Or.inl ⟨by rfl, ?_⟩) hHeld ?_ ?_
               rotate_left
               ·rintro w' ⟨s0, s1, s2, s3, s4, s5, s6, s7⟩
                go_simp
                with_reducible rfl
               rotate_left
               ·simp only [Act.put, List.setIfInBounds_toArray, List.set_cons_zero, List.set_cons_succ, i64_w, i32_w]
                rfl
               refine pure_ (i := 10) (N := some 61) (v := ?_) (a' := ?_) #[true, true, true, true, true, true, true, true, true, true, true, false, false, false] rfl rfl (any_of HT_.out (by kernel_rfl)) (fun _ _ _ h => h) (Or.inl ⟨by rfl, ?_⟩) ?_ ?_
               rotate_left
               ·intro w'
                go_simp
                with_reducible rfl
               rotate_left
               ·simp only [Act.put, List.setIfInBounds_toArray, List.set_cons_zero, List.set_cons_succ, i64_w, i32_w]
                rfl
               refine pure_ (i := 11) (N := some 62) (v := ?_) (a' := ?_) #[true, true, true, true, true, true, true, true, true, true, true, true, false, false] rfl rfl (any_of HT_.out (by kernel_rfl)) (fun _ _ _ h => h) (Or.inl ⟨by rfl, ?_⟩) ?_ ?_
               rotate_left
               ·intro w'
                go_simp
                with_reducible rfl
               rotate_left
               ·simp only [Act.put, List.setIfInBounds_toArray, List.set_cons_zero, List.set_cons_succ, i64_w, i32_w]
                rfl
               refine take_ (i := 12) (N := some 63) (v := ?_) (a' := ?_) #[true, true, true, true, true, true, true, true, true, true, true, true, true, false] rfl rfl (take_ofW HT_.out HW_.out (by kernel_rfl)) (fun _ _ _ h => h) (Or.inl ⟨by rfl, ?_⟩) hHeld ?_ ?_
               rotate_left
               ·rintro w' ⟨s0, s1, s2, s3, s4, s5, s6, s7⟩
                go_simp
                with_reducible rfl
               rotate_left
               ·simp only [Act.put, List.setIfInBounds_toArray, List.set_cons_zero, List.set_cons_succ, i64_w, i32_w]
                rfl
               refine pure_ (i := 13) (N := some 64) (v := ?_) (a' := ?_) #[true, true, true, true, true, true, true, true, true, true, true, true, true, true] rfl rfl (any_of HT_.out (by kernel_rfl)) (fun _ _ _ h => h) (Or.inl ⟨by rfl, ?_⟩) ?_ ?_
               rotate_left
               ·intro w'
                go_simp
                with_reducible rfl
               rotate_left
               ·simp only [Act.put, List.setIfInBounds_toArray, List.set_cons_zero, List.set_cons_succ, i64_w, i32_w]
                rfl
               refine done_ (done_of HT_.out (by kernel_rfl)) ?_
               try go_wp2
               go_ret
               exact ⟨by first | rfl | (simp [errW_none, errW_some] <;> rfl) | (simp only [← hji34]; first | rfl | (simp [errW_none, errW_some] <;> rfl)) | (simp [*, errW_none, errW_some] <;> rfl), bel⟩
              ·rw [if_neg c37] at H
               have c37b0 : decide (((rd_T39 l0_3 x5_3).f0) ≤ ((rd_T39 l0_3 (ji34)).f0)) = false := decide_eq_false c37
               clear c37
               have H' := Aside0.mk H
               clear H
               obtain ⟨hcz40_0, hcz40_1, hcz40_2, hcz40_3, hfz40_0, hfz40_1, hfz40_2, hfz40_3⟩ := cells4 BK159.out
               try go_wp2
               have n0_ := Aside0.mk (blk_drew BK159.out)
               have n1_ := Aside0.mk (below_drew1 HB.out)
               clear BK159
               clear HB
               have BK159 := n0_
               have HB := n1_
               clear n0_ n1_
               have p167 : 0 ≤ (x5_3 : Int) := of_decide_eq_true (by first | (with_reducible assumption) | assumption)
               have q167 : x5_3 < (l0_3.length : Int) := of_decide_eq_true (by first | (with_reducible assumption) | assumption)
               obtain ⟨ad167, e167, hx167_0, hx167_1⟩ := at_T39 HR0_3.out x5_3 p167 q167
               have hw167_1 := hx167_1
               have hw167_0 := hx167_0
               cases e167
               replace hx167_0 := (HB.out.cell (World.block_lt_of_cell? w _ hx167_0)).trans hx167_0
               replace hx167_1 := (HB.out.cell (World.block_lt_of_cell? w _ hx167_1)).trans hx167_1
               replace p167 := eq_true p167
               replace q167 := eq_true q167
               have p168 : 0 ≤ ((ji34) : Int) := of_decide_eq_true (by first | (with_reducible assumption) | assumption)
               have q168 : (ji34) < (l0_3.length : Int) := of_decide_eq_true (by first | (with_reducible assumption) | assumption)
               obtain ⟨ad168, e168, hx168_0, hx168_1⟩ := at_T39 HR0_3.out (ji34) p168 q168
               have hw168_1 := hx168_1
               have hw168_0 := hx168_0
               obtain rfl : ad167 = ad168 := (by injection e168)
               replace hx168_0 := (HB.out.cell (World.block_lt_of_cell? w _ hx168_0)).trans hx168_0
               replace hx168_1 := (HB.out.cell (World.block_lt_of_cell? w _ hx168_1)).trans hx168_1
               replace p168 := eq_true p168
               replace q168 := eq_true q168
               refine start_ (n := 14) (S := fun w' => w'.cell? ⟨gb159, 0, none⟩ = some (.int .i64 a0_0) ∧ w'.cell? ⟨gb159, 1, none⟩ = some (.int .i64 a0_1) ∧ w'.cell? ⟨gb159, 2, none⟩ = some (.int .i64 a0_2) ∧ w'.cell? ⟨gb159, 3, none⟩ = some (.slice (some ad167) l0_3.length c0_3) ∧ w'.cell? (ad167.add ((x5_3).toNat * 2)) = some (.int .i64 ((rd_T39 l0_3 x5_3).f0)) ∧ w'.cell? ⟨(ad167.add ((x5_3).toNat * 2)).block, (ad167.add ((x5_3).toNat * 2)).off + 1, none⟩ = some (.int .i64 ((rd_T39 l0_3 x5_3).f1)) ∧ w'.cell? (ad167.add (((ji34)).toNat * 2)) = some (.int .i64 ((rd_T39 l0_3 (ji34)).f0)) ∧ w'.cell? ⟨(ad167.add (((ji34)).toNat * 2)).block, (ad167.add (((ji34)).toNat * 2)).off + 1, none⟩ = some (.int .i64 ((rd_T39 l0_3 (ji34)).f1))) (ds := []) #[false, false, false, false, false, false, false, false, false, false, false, false, false, false] (by kernel_rfl) rfl rfl ⟨(blk_cell BK159.out 0).trans rfl, (blk_cell BK159.out 1).trans rfl, (blk_cell BK159.out 2).trans rfl, (blk_cell BK159.out 3).trans rfl, ((HB.out.cell (World.block_lt_of_cell? w _ hw167_0)).trans hw167_0), ((HB.out.cell (World.block_lt_of_cell? w _ hw167_1)).trans hw167_1), ((HB.out.cell (World.block_lt_of_cell? w _ hw168_0)).trans hw168_0), ((HB.out.cell (World.block_lt_of_cell? w _ hw168_1)).trans hw168_1)⟩ (fun hHeld => ?_); refine with_tabW guarantee_Validate.tab14 guarantee_Validate.bits14 (fun HT_ HW_ => ?_)
               generalize wr.drew = w41 at BK159 HB hx167_0 hx167_1 hx168_0 hx168_1 hHeld ⊢
               refine pure_ (i := 0) (N := some 51) (v := ?_) (a' := ?_) #[true, false, false, false, false, false, false, false, false, false, false, false, false, false] rfl rfl (any_of HT_.out (by kernel_rfl)) (fun _ _ _ h => h) (Or.inl ⟨by rfl, ?_⟩) ?_ ?_
               rotate_left
               ·intro w'
                go_simp
                with_reducible rfl
               rotate_left
               ·simp only [Act.put, List.setIfInBounds_toArray, List.set_cons_zero, List.set_cons_succ, i64_w, i32_w]
                rfl
               refine pure_ (i := 2) (N := some 53) (v := ?_) (a' := ?_) #[true, false, true, false, false, false, false, false, false, false, false, false, false, false] rfl rfl (any_of HT_.out (by kernel_rfl)) (fun _ _ _ h => h) (Or.inl ⟨by rfl, ?_⟩) ?_ ?_
               rotate_left
               ·intro w'
                go_simp
                with_reducible rfl
               rotate_left
               ·simp only [Act.put, List.setIfInBounds_toArray, List.set_cons_zero, List.set_cons_succ, i64_w, i32_w]
                rfl
               refine pure_ (i := 6) (N := some 57) (v := ?_) (a' := ?_) #[true, false, true, false, false, false, true, false, false, false, false, false, false, false] rfl rfl (any_of HT_.out (by kernel_rfl)) (fun _ _ _ h => h) (Or.inl ⟨by rfl, ?_⟩) ?_ ?_
               rotate_left
               ·intro w'
                go_simp
                with_reducible rfl
               rotate_left
               ·simp only [Act.put, List.setIfInBounds_toArray, List.set_cons_zero, List.set_cons_succ, i64_w, i32_w]
                rfl
               refine pure_ (i := 8) (N := some 59) (v := ?_) (a' := ?_) #[true, false, true, false, false, false, true, false, true, false, false, false, false, false] rfl rfl (any_of HT_.out (by kernel_rfl)) (fun _ _ _ h => h) (Or.inl ⟨by rfl, ?_⟩) ?_ ?_
               rotate_left
               ·intro w'
                go_simp
                with_reducible rfl
               rotate_left
               ·simp only [Act.put, List.setIfInBounds_toArray, List.set_cons_zero, List.set_cons_succ, i64_w, i32_w]
                rfl
               refine pure_ (i := 9) (N := some 60) (v := ?_) (a' := ?_) #[true, false, true, false, false, false, true, false, true, true, false, false, false, false] rfl rfl (any_of HT_.out (by kernel_rfl)) (fun _ _ _ h => h) (Or.inl ⟨by rfl, ?_⟩) ?_ ?_
               rotate_left
               ·intro w'
                go_simp
                with_reducible rfl
               rotate_left
               ·simp only [Act.put, List.setIfInBounds_toArray, List.set_cons_zero, List.set_cons_succ, i64_w, i32_w]
                rfl
               refine take_ (i := 1) (N := some 52) (v := ?_) (a' := ?_) #[true, true, true, false, false, false, true, false, true, true, false, false, false, false] rfl rfl (take_ofW HT_.out HW_.out (by kernel_rfl)) (fun _ _ _ h => h) (Or.inl ⟨by rfl, ?_⟩) hHeld ?_ ?_
               rotate_left
               ·rintro w' ⟨s0, s1, s2, s3, s4, s5, s6, s7⟩
                go_simp
                with_reducible rfl
               rotate_left
               ·simp only [Act.put, List.setIfInBounds_toArray, List.set_cons_zero, List.set_cons_succ, i64_w, i32_w]
                rfl
               refine pure_ (i := 3) (N := some 54) (v := ?_) (a' := ?_) #[true, true, true, true, false, false, true, false, true, true, false, false, false, false] rfl rfl (any_of HT_.out (by kernel_rfl)) (fun _ _ _ h => h) (Or.inl ⟨by rfl, ?_⟩) ?_ ?_
               rotate_left
               ·intro w'
                go_simp
                with_reducible rfl
               rotate_left
               ·simp only [Act.put, List.setIfInBounds_toArray, List.set_cons_zero, List.set_cons_succ, i64_w, i32_w]
                rfl
               refine pure_ (i := 4) (N := some 55) (v := ?_) (a' := ?_) #[true, true, true, true, true, false, true, false, true, true, false, false, false, false] rfl rfl (any_of HT_.out (by kernel_rfl)) (fun _ _ _ h => h) (Or.inl ⟨by rfl, ?_⟩) ?_ ?_
               rotate_left
               ·intro w'
                go_simp
                with_reducible rfl
               rotate_left
               ·simp only [Act.put, List.setIfInBounds_toArray, List.set_cons_zero, List.set_cons_succ, i64_w, i32_w]
                rfl
               refine take_ (i := 5) (N := some 56) (v := ?_) (a' := ?_) #[true, true, true, true, true, true, true, false, true, true, false, false, false, false] rfl rfl (take_ofW HT_.out HW_.out (by kernel_rfl)) (fun _ _ _ h => h) (Or.inl ⟨by rfl, ?_⟩) hHeld ?_ ?_
               rotate_left
               ·rintro w' ⟨s0, s1, s2, s3, s4, s5, s6, s7⟩
                go_simp
                with_reducible rfl
               rotate_left
               ·simp only [Act.put, List.setIfInBounds_toArray, List.set_cons_zero, List.set_cons_succ, i64_w, i32_w]
                rfl
               refine take_ (i := 7) (N := some 58) (v := ?_) (a' := ?_) #[true, true, true, true, true, true, true, true, true, true, false, false, false, false] rfl rfl (take_ofW HT_.out HW_.out (by kernel_rfl)) (fun _ _ _ h => h) (Or.inl ⟨by rfl, ?_⟩) hHeld ?_ ?_
               rotate_left
               ·rintro w' ⟨s0, s1, s2, s3, s4, s5, s6, s7⟩
                go_simp
                with_reducible rfl
               rotate_left
               ·simp only [Act.put, List.setIfInBounds_toArray, List.set_cons_zero, List.set_cons_succ, i64_w, i32_w]
                rfl
               refine pure_ (i := 10) (N := some 61) (v := ?_) (a' := ?_) #[true, true, true, true, true, true, true, true, true, true, true, false, false, false] rfl rfl (any_of HT_.out (by kernel_rfl)) (fun _ _ _ h => h) (Or.inl ⟨by rfl, ?_⟩) ?_ ?_
               rotate_left
               ·intro w'
                go_simp
                with_reducible rfl
               rotate_left
               ·simp only [Act.put, List.setIfInBounds_toArray, List.set_cons_zero, List.set_cons_succ, i64_w, i32_w]
                rfl
               refine pure_ (i := 11) (N := some 62) (v := ?_) (a' := ?_) #[true, true, true, true, true, true, true, true, true, true, true, true, false, false] rfl rfl (any_of HT_.out (by kernel_rfl)) (fun _ _ _ h => h) (Or.inl ⟨by rfl, ?_⟩) ?_ ?_
               rotate_left
               ·intro w'
                go_simp
                with_reducible rfl
               rotate_left
               ·simp only [Act.put, List.setIfInBounds_toArray, List.set_cons_zero, List.set_cons_succ, i64_w, i32_w]
                rfl
               refine take_ (i := 12) (N := some 63) (v := ?_) (a' := ?_) #[true, true, true, true, true, true, true, true, true, true, true, true, true, false] rfl rfl (take_ofW HT_.out HW_.out (by kernel_rfl)) (fun _ _ _ h => h) (Or.inl ⟨by rfl, ?_⟩) hHeld ?_ ?_
               rotate_left
               ·rintro w' ⟨s0, s1, s2, s3, s4, s5, s6, s7⟩
                go_simp
                with_reducible rfl
               rotate_left
               ·simp only [Act.put, List.setIfInBounds_toArray, List.set_cons_zero, List.set_cons_succ, i64_w, i32_w]
                rfl
               refine pure_ (i := 13) (N := some 64) (v := ?_) (a' := ?_) #[true, true, true, true, true, true, true, true, true, true, true, true, true, true] rfl rfl (any_of HT_.out (by kernel_rfl)) (fun _ _ _ h => h) (Or.inl ⟨by rfl, ?_⟩) ?_ ?_
               rotate_left
               ·intro w'
                go_simp
                with_reducible rfl
               rotate_left
               ·simp only [Act.put, List.setIfInBounds_toArray, List.set_cons_zero, List.set_cons_succ, i64_w, i32_w]
                rfl
               refine done_ (done_of HT_.out (by kernel_rfl)) ?_
               try go_wp2
               go_roundg k3
               case measure => have := HJ1.out; have := HK2.out; have := HK3.out; omega
               case rel => exact ⟨(wrap64 (x5_3 + 1)), (by first | rfl | (simp; done) | (simp [*]; done)), H', ⟨by have := HJ1.out; have := HK2.out; have := HK3.out; omega⟩, ⟨by (with_reducible repeat (first | refine blk_drewN ?_ _ | refine blk_drew ?_ | refine blk_alloc ?_ _)); exact BK159.out⟩, ⟨bel⟩⟩
             ·rw [if_neg c36] at H
              exact absurd H (by simp)
            ·rw [if_neg c35] at H
             exact absurd H (by simp)
           ·rw [if_neg c33] at H
            exact absurd H (by simp)
          ·rw [if_neg c32] at H
           have c32b0 : decide (x5_3 < (l0_3.length : Int)) = false := decide_eq_false c32
           clear c32
           replace H := Option.bind_eq_some_iff.mp H
           obtain ⟨t169, A420, H⟩ := H
           replace H : (if t169 > a0_1 then (some 16) else (some 0)) = some r := H
           have A42 := Aside0.mk A420
           clear A420
           by_cases c43 : t169 > a0_1
           ·rw [if_pos c43] at H
            have c43b0 : decide (a0_1 < t169) = true := decide_eq_true c43
            clear c43
            obtain rfl := Option.some.inj H
            obtain ⟨hcz44_0, hcz44_1, hcz44_2, hcz44_3, hfz44_0, hfz44_1, hfz44_2, hfz44_3⟩ := cells4 BK159.out
            try go_wp2
            have n0_ := Aside0.mk (blk_drew BK159.out)
            have n1_ := Aside0.mk (below_drew1 HB.out)
            clear BK159
            clear HB
            have BK159 := n0_
            have HB := n1_
            clear n0_ n1_
            refine start_ (n := 6) (S := fun w' => w'.cell? ⟨gb159, 0, none⟩ = some (.int .i64 a0_0) ∧ w'.cell? ⟨gb159, 1, none⟩ = some (.int .i64 a0_1) ∧ w'.cell? ⟨gb159, 2, none⟩ = some (.int .i64 a0_2) ∧ w'.cell? ⟨gb159, 3, none⟩ = some (.slice A0_3 l0_3.length c0_3)) (ds := []) #[false, false, false, false, false, false] (by kernel_rfl) rfl rfl ⟨(blk_cell BK159.out 0).trans rfl, (blk_cell BK159.out 1).trans rfl, (blk_cell BK159.out 2).trans rfl, (blk_cell BK159.out 3).trans rfl⟩ (fun hHeld => ?_)
            generalize wr.drew = w45 at BK159 HB hHeld ⊢
            refine pure_ (i := 0) (N := some 65) (v := ?_) (a' := ?_) #[true, false, false, false, false, false] rfl rfl (by kernel_rfl) (fun _ _ _ h => h) (Or.inl ⟨by rfl, ?_⟩) ?_ ?_
            rotate_left
            ·intro w'
             go_simp
             with_reducible rfl
            rotate_left
            ·simp only [Act.put, List.setIfInBounds_toArray, List.set_cons_zero, List.set_cons_succ, i64_w, i32_w]
             rfl
            refine pure_ (i := 3) (N := some 68) (v := ?_) (a' := ?_) #[true, false, false, true, false, false] rfl rfl (by kernel_rfl) (fun _ _ _ h => h) (Or.inl ⟨by rfl, ?_⟩) ?_ ?_
            rotate_left
            ·intro w'
             go_simp
             with_reducible rfl
            rotate_left
            ·simp only [Act.put, List.setIfInBounds_toArray, List.set_cons_zero, List.set_cons_succ, i64_w, i32_w]
             rfl
            refine take_ (i := 1) (N := some 66) (v := ?_) (a' := ?_) #[true, true, false, true, false, false] rfl rfl (by kernel_rfl) (fun _ _ _ h => h) (Or.inl ⟨by rfl, ?_⟩) hHeld ?_ ?_
            rotate_left
            ·rintro w' ⟨s0, s1, s2, s3⟩
             go_simp
             with_reducible rfl
            rotate_left
            ·simp only [Act.put, List.setIfInBounds_toArray, List.set_cons_zero, List.set_cons_succ, i64_w, i32_w]
             rfl
            refine take_ (i := 4) (N := some 69) (v := ?_) (a' := ?_) #[true, true, false, true, true, false] rfl rfl (by kernel_rfl) (fun _ _ _ h => h) (Or.inl ⟨by rfl, ?_⟩) hHeld ?_ ?_
            rotate_left
            ·rintro w' ⟨s0, s1, s2, s3⟩
             go_simp
             with_reducible rfl
            rotate_left
            ·simp only [Act.put, List.setIfInBounds_toArray, List.set_cons_zero, List.set_cons_succ, i64_w, i32_w]
             rfl
            refine one_ (i := 2) (N := some 67) #[true, true, true, true, true, false] rfl rfl (by kernel_rfl) (by decide) (fun K hK => ?_)
            refine goes_ Try.func35 (by kernel_rfl) rfl #[.slice A0_3 l0_3.length c0_3] (by rfl) rfl rfl argx ?_
            with_reducible refine (guarantee_sum.calls k3 _ _ l0_3 t169 _ ?side1 ?side2 A42.out).mono ?_
            (case side1 => repeat (first | exact (Kd.C_below HR0_3.out HB.out) | (with_reducible refine Kd.C_alloc ?_ _) | (with_reducible refine Kd.C_drewN ?_ _) | (with_reducible refine Kd.C_drew ?_)))
            (case side2 => exact HC0_3.out)
            rintro e w46 ⟨rfl, hb⟩
            refine ⟨_, rfl, ?_⟩
            have n0_ := Aside0.mk (blk_below (g := gb159) (o := .cells #[.int .i64 a0_0, .int .i64 a0_1, .int .i64 a0_2, .slice A0_3 l0_3.length c0_3] 25 (0, 0)) blkx hb)
            have n1_ := Aside0.mk (below_step bel hb)
            clear BK159
            clear HB
            have BK159 := n0_
            have HB := n1_
            clear n0_ n1_
            (try clear hb)
            (try clear hb2)
            (try clear hk)
            (try clear hi)
            refine hK.out _ _ ⟨(blk_cell BK159.out 0).trans rfl, (blk_cell BK159.out 1).trans rfl, (blk_cell BK159.out 2).trans rfl, (blk_cell BK159.out 3).trans rfl⟩ (fun hHeld => ?_)
            clear hK K
            refine norm_ (a' := ?_) ?_ ?_
            rotate_left
            ·show Act.put _ (some 67) _ = _
             simp only [Act.put, List.setIfInBounds_toArray, List.set_cons_zero, List.set_cons_succ, i64_w, i32_w]
             rfl
            refine pure_ (i := 5) (N := some 70) (v := ?_) (a' := ?_) #[true, true, true, true, true, true] rfl rfl (by kernel_rfl) (fun _ _ _ h => h) (Or.inl ⟨by rfl, ?_⟩) ?_ ?_
            rotate_left
            ·intro w'
             go_simp
             with_reducible rfl
            rotate_left
            ·simp only [Act.put, List.setIfInBounds_toArray, List.set_cons_zero, List.set_cons_succ, i64_w, i32_w]
             rfl
            refine done_ (by kernel_rfl) ?_
            try go_wp2
            go_ret
            exact ⟨by first | rfl | (simp [errW_none, errW_some] <;> rfl) | (simp [*, errW_none, errW_some] <;> rfl), bel⟩
           ·rw [if_neg c43] at H
            have c43b0 : decide (a0_1 < t169) = false := decide_eq_false c43
            clear c43
            obtain rfl := Option.some.inj H
            obtain ⟨hcz47_0, hcz47_1, hcz47_2, hcz47_3, hfz47_0, hfz47_1, hfz47_2, hfz47_3⟩ := cells4 BK159.out
            try go_wp2
            have n0_ := Aside0.mk (blk_drew BK159.out)
            have n1_ := Aside0.mk (below_drew1 HB.out)
            clear BK159
            clear HB
            have BK159 := n0_
            have HB := n1_
            clear n0_ n1_
            refine start_ (n := 6) (S := fun w' => w'.cell? ⟨gb159, 0, none⟩ = some (.int .i64 a0_0) ∧ w'.cell? ⟨gb159, 1, none⟩ = some (.int .i64 a0_1) ∧ w'.cell? ⟨gb159, 2, none⟩ = some (.int .i64 a0_2) ∧ w'.cell? ⟨gb159, 3, none⟩ = some (.slice A0_3 l0_3.length c0_3)) (ds := []) #[false, false, false, false, false, false] (by kernel_rfl) rfl rfl ⟨(blk_cell BK159.out 0).trans rfl, (blk_cell BK159.out 1).trans rfl, (blk_cell BK159.out 2).trans rfl, (blk_cell BK159.out 3).trans rfl⟩ (fun hHeld => ?_)
            generalize wr.drew = w48 at BK159 HB hHeld ⊢
            refine pure_ (i := 0) (N := some 65) (v := ?_) (a' := ?_) #[true, false, false, false, false, false] rfl rfl (by kernel_rfl) (fun _ _ _ h => h) (Or.inl ⟨by rfl, ?_⟩) ?_ ?_
            rotate_left
            ·intro w'
             go_simp
             with_reducible rfl
            rotate_left
            ·simp only [Act.put, List.setIfInBounds_toArray, List.set_cons_zero, List.set_cons_succ, i64_w, i32_w]
             rfl
            refine pure_ (i := 3) (N := some 68) (v := ?_) (a' := ?_) #[true, false, false, true, false, false] rfl rfl (by kernel_rfl) (fun _ _ _ h => h) (Or.inl ⟨by rfl, ?_⟩) ?_ ?_
            rotate_left
            ·intro w'
             go_simp
             with_reducible rfl
            rotate_left
            ·simp only [Act.put, List.setIfInBounds_toArray, List.set_cons_zero, List.set_cons_succ, i64_w, i32_w]
             rfl
            refine take_ (i := 1) (N := some 66) (v := ?_) (a' := ?_) #[true, true, false, true, false, false] rfl rfl (by kernel_rfl) (fun _ _ _ h => h) (Or.inl ⟨by rfl, ?_⟩) hHeld ?_ ?_
            rotate_left
            ·rintro w' ⟨s0, s1, s2, s3⟩
             go_simp
             with_reducible rfl
            rotate_left
            ·simp only [Act.put, List.setIfInBounds_toArray, List.set_cons_zero, List.set_cons_succ, i64_w, i32_w]
             rfl
            refine take_ (i := 4) (N := some 69) (v := ?_) (a' := ?_) #[true, true, false, true, true, false] rfl rfl (by kernel_rfl) (fun _ _ _ h => h) (Or.inl ⟨by rfl, ?_⟩) hHeld ?_ ?_
            rotate_left
            ·rintro w' ⟨s0, s1, s2, s3⟩
             go_simp
             with_reducible rfl
            rotate_left
            ·simp only [Act.put, List.setIfInBounds_toArray, List.set_cons_zero, List.set_cons_succ, i64_w, i32_w]
             rfl
            refine one_ (i := 2) (N := some 67) #[true, true, true, true, true, false] rfl rfl (by kernel_rfl) (by decide) (fun K hK => ?_)
            refine goes_ Try.func35 (by kernel_rfl) rfl #[.slice A0_3 l0_3.length c0_3] (by rfl) rfl rfl argx ?_
            with_reducible refine (guarantee_sum.calls k3 _ _ l0_3 t169 _ ?side1 ?side2 A42.out).mono ?_
            (case side1 => repeat (first | exact (Kd.C_below HR0_3.out HB.out) | (with_reducible refine Kd.C_alloc ?_ _) | (with_reducible refine Kd.C_drewN ?_ _) | (with_reducible refine Kd.C_drew ?_)))
            (case side2 => exact HC0_3.out)
            rintro e w49 ⟨rfl, hb⟩
            refine ⟨_, rfl, ?_⟩
            have n0_ := Aside0.mk (blk_below (g := gb159) (o := .cells #[.int .i64 a0_0, .int .i64 a0_1, .int .i64 a0_2, .slice A0_3 l0_3.length c0_3] 25 (0, 0)) blkx hb)
            have n1_ := Aside0.mk (below_step bel hb)
            clear BK159
            clear HB
            have BK159 := n0_
            have HB := n1_
            clear n0_ n1_
            (try clear hb)
            (try clear hb2)
            (try clear hk)
            (try clear hi)
            refine hK.out _ _ ⟨(blk_cell BK159.out 0).trans rfl, (blk_cell BK159.out 1).trans rfl, (blk_cell BK159.out 2).trans rfl, (blk_cell BK159.out 3).trans rfl⟩ (fun hHeld => ?_)
            clear hK K
            refine norm_ (a' := ?_) ?_ ?_
            rotate_left
            ·show Act.put _ (some 67) _ = _
             simp only [Act.put, List.setIfInBounds_toArray, List.set_cons_zero, List.set_cons_succ, i64_w, i32_w]
             rfl
            refine pure_ (i := 5) (N := some 70) (v := ?_) (a' := ?_) #[true, true, true, true, true, true] rfl rfl (by kernel_rfl) (fun _ _ _ h => h) (Or.inl ⟨by rfl, ?_⟩) ?_ ?_
            rotate_left
            ·intro w'
             go_simp
             with_reducible rfl
            rotate_left
            ·simp only [Act.put, List.setIfInBounds_toArray, List.set_cons_zero, List.set_cons_succ, i64_w, i32_w]
             rfl
            refine done_ (by kernel_rfl) ?_
            try go_wp2
            go_ret
            exact ⟨by first | rfl | (simp [errW_none, errW_some] <;> rfl) | (simp [*, errW_none, errW_some] <;> rfl), bel⟩
end Go.Proofs.Ytakhjhiofmgpnaa.PA
-- Written by a program of this claim (wip/tools: mkprint.py, pr.sh) out of the translation: plain functions and their contracts. Lean checks every line.
namespace Go.Proofs.Ytakhjhiofmgpnaa.PA
open Go.RowKit Go.Proofs.YtakhjhiofmgpnaaW.PrintWords Go.Proofs.YtakhjhiofmgpnaaW.PrintLast Go.Proofs.YtakhjhiofmgpnaaW.PrintMore Go.Proofs.Ytakhjhiofmgpnaa.G
attribute [local go_sem] max2_int min2_int max_two min_two max_three min_three max_four min_four   -- for this text's walks alone
set_option linter.unusedVariables false
set_option linter.unusedSimpArgs false
def guarantee_Total.f (k : Nat) (a0_0 : Int) (a0_1 : Int) (a0_2 : Int) (l0_3 : List (S39)) : Option (Int) := (guarantee_Validate.f k a0_0 a0_1 a0_2 l0_3).bind fun t171 => (if t171 = 0 then ((guarantee_sum.f k l0_3).bind fun t172 => (some t172)) else (some 0))
theorem guarantee_Total.mono : ∀ a0 a1 a2 a3 k, LeO (guarantee_Total.f k a0 a1 a2 a3) (guarantee_Total.f (k + 1) a0 a1 a2 a3) := by
 intro a0 a1 a2 a3 k
 unfold guarantee_Total.f
 repeat' first
   | (with_reducible exact guarantee_Validate.mono _ _ _ _ _)
   | (with_reducible exact guarantee_sum.mono _ _)
   | (with_reducible exact LeO.refl _)
   | (with_reducible exact LeO.none _)
   | (with_reducible refine LeO.ite ?_ ?_)
   | (with_reducible refine LeO.bind ?_ (fun _ => ?_))
set_option maxHeartbeats 8000000 in
set_option maxRecDepth 100000 in
theorem guarantee_Total.calls (k : Nat) (a0_0 : Int) (a0_1 : Int) (a0_2 : Int) (A0_3 : Option Addr) (c0_3 : Nat) (l0_3 : List (S39)) (r : Int) (w : World) (hr0_3 : Kd.C k39 w A0_3 l0_3.length l0_3) (hc0_3 : l0_3.length ≤ c0_3) (h : guarantee_Total.f k a0_0 a0_1 a0_2 l0_3 = some r) :
  Calls Try.prog 13 #[.agg #[.int .i64 a0_0, .int .i64 a0_1, .int .i64 a0_2, .slice A0_3 l0_3.length c0_3]] w fun e w' => e = .returned (.int .i64 r) ∧ Below w.heap.size w w' := by
 have hu25 := Try.underlying25
 have HR0_3 := Aside0.mk hr0_3
 have HC0_3 := Aside0.mk hc0_3
 clear hr0_3 hc0_3
 have HB := Aside0.mk (Below.refl w.heap.size w)
 have H : ((guarantee_Validate.f k a0_0 a0_1 a0_2 l0_3).bind fun t171 => (if t171 = 0 then ((guarantee_sum.f k l0_3).bind fun t172 => (some t172)) else (some 0))) = some r := h
 clear h
 replace H := Option.bind_eq_some_iff.mp H
 obtain ⟨t171, A20, H⟩ := H
 replace H : (if t171 = 0 then ((guarantee_sum.f k l0_3).bind fun t172 => (some t172)) else (some 0)) = some r := H
 have A2 := Aside0.mk A20
 clear A20
 by_cases c3 : t171 = 0
 ·rw [if_pos c3] at H
  have c3b0 : (t171 == 0) = true := beq_iff_eq.mpr c3
  have c3b1 : (t171 != 0) = false := bne_eq_false_iff_eq.mpr c3
  clear c3
  replace H := Option.bind_eq_some_iff.mp H
  obtain ⟨t172, A40, H⟩ := H
  replace H : (some t172) = some r := H
  have A4 := Aside0.mk A40
  clear A40
  obtain rfl := Option.some.inj H
  go_enter Try.func13, Try.ntmps13
  go_wp2_with (first | ((with_reducible refine gate_dst (N := 1) rfl ?_); refine box_event ?hg (N := 1) ?hd (cs := #[.int .i64 a0_0, .int .i64 a0_1, .int .i64 a0_2, .slice A0_3 l0_3.length c0_3]) (t := 25) ?hr ?_; (case hd => rfl); (case hg => rfl); (case hr => first | (go_simp; done) | (go_simp; rfl)); intro gb170 hg w5 hbox hb; have qb_ := below_both bel hb; have n0_ := Aside0.mk (qb_.1); have n1_ := Aside0.mk (hbox); have n3_ := Aside0.mk ((by rw [hg]; exact qb_.2 : w.heap.size ≤ gb170)); clear HB; have HB := n0_; have BK170 := n1_; have GE170 := n3_; clear qb_; clear n0_ n1_ n3_; clear hb hbox hg; obtain ⟨hcz6_0, hcz6_1, hcz6_2, hcz6_3, hfz6_0, hfz6_1, hfz6_2, hfz6_3⟩ := cells4 BK170.out) | ((with_reducible refine gate_callee (f := 11) rfl ?_); refine goesL_ (some 4) rfl rfl Try.func11 (by kernel_rfl) rfl #[.agg #[.int .i64 a0_0, .int .i64 a0_1, .int .i64 a0_2, .slice A0_3 l0_3.length c0_3]] rfl argx ?_; (with_reducible refine (guarantee_Validate.calls k a0_0 a0_1 a0_2 _ _ l0_3 t171 _ ?side1 ?side2 A2.out).mono ?_); (case side1 => repeat (first | exact (Kd.C_below HR0_3.out HB.out) | (with_reducible refine Kd.C_alloc ?_ _) | (with_reducible refine Kd.C_drewN ?_ _) | (with_reducible refine Kd.C_drew ?_))); (case side2 => exact HC0_3.out); rintro e w7 ⟨rfl, hb⟩; refine ⟨_, rfl, ?_⟩; have n0_ := Aside0.mk (blk_below (g := gb170) (o := .cells #[.int .i64 a0_0, .int .i64 a0_1, .int .i64 a0_2, .slice A0_3 l0_3.length c0_3] 25 (0, 0)) blkx hb); have n1_ := Aside0.mk (below_step bel hb); clear BK170; clear HB; have BK170 := n0_; have HB := n1_; clear n0_ n1_; (try clear hb); (try clear hb2); (try clear hk); (try clear hi); obtain ⟨hcz8_0, hcz8_1, hcz8_2, hcz8_3, hfz8_0, hfz8_1, hfz8_2, hfz8_3⟩ := cells4 BK170.out) | ((with_reducible refine gate_callee (f := 35) rfl ?_); refine goesL_ (some 8) rfl rfl Try.func35 (by kernel_rfl) rfl #[.slice A0_3 l0_3.length c0_3] rfl argx ?_; (with_reducible refine (guarantee_sum.calls k _ _ l0_3 t172 _ ?side1 ?side2 A4.out).mono ?_); (case side1 => repeat (first | exact (Kd.C_below HR0_3.out HB.out) | (with_reducible refine Kd.C_alloc ?_ _) | (with_reducible refine Kd.C_drewN ?_ _) | (with_reducible refine Kd.C_drew ?_))); (case side2 => exact HC0_3.out); rintro e w9 ⟨rfl, hb⟩; refine ⟨_, rfl, ?_⟩; have n1_ := Aside0.mk (below_step bel hb); (try clear BK170); clear HB; have HB := n1_; clear n1_; (try clear hb); (try clear hb2); (try clear hk); (try clear hi)))
  go_ret
  exact ⟨by first | rfl | (simp [errW_none, errW_some] <;> rfl) | (simp [*, errW_none, errW_some] <;> rfl), bel⟩
 ·rw [if_neg c3] at H
  have c3b0 : (t171 == 0) = false := beq_eq_false_iff_ne.mpr c3
  have c3b1 : (t171 != 0) = true := bne_iff_ne.mpr c3
  obtain rfl := Option.some.inj H
  go_enter Try.func13, Try.ntmps13
  go_wp2_with (first | ((with_reducible refine gate_dst (N := 1) rfl ?_); refine box_event ?hg (N := 1) ?hd (cs := #[.int .i64 a0_0, .int .i64 a0_1, .int .i64 a0_2, .slice A0_3 l0_3.length c0_3]) (t := 25) ?hr ?_; (case hd => rfl); (case hg => rfl); (case hr => first | (go_simp; done) | (go_simp; rfl)); intro gb170 hg w10 hbox hb; have qb_ := below_both bel hb; have n0_ := Aside0.mk (qb_.1); have n1_ := Aside0.mk (hbox); have n3_ := Aside0.mk ((by rw [hg]; exact qb_.2 : w.heap.size ≤ gb170)); clear HB; have HB := n0_; have BK170 := n1_; have GE170 := n3_; clear qb_; clear n0_ n1_ n3_; clear hb hbox hg; obtain ⟨hcz11_0, hcz11_1, hcz11_2, hcz11_3, hfz11_0, hfz11_1, hfz11_2, hfz11_3⟩ := cells4 BK170.out) | ((with_reducible refine gate_callee (f := 11) rfl ?_); refine goesL_ (some 4) rfl rfl Try.func11 (by kernel_rfl) rfl #[.agg #[.int .i64 a0_0, .int .i64 a0_1, .int .i64 a0_2, .slice A0_3 l0_3.length c0_3]] rfl argx ?_; (with_reducible refine (guarantee_Validate.calls k a0_0 a0_1 a0_2 _ _ l0_3 t171 _ ?side1 ?side2 A2.out).mono ?_); (case side1 => repeat (first | exact (Kd.C_below HR0_3.out HB.out) | (with_reducible refine Kd.C_alloc ?_ _) | (with_reducible refine Kd.C_drewN ?_ _) | (with_reducible refine Kd.C_drew ?_))); (case side2 => exact HC0_3.out); rintro e w12 ⟨rfl, hb⟩; refine ⟨_, rfl, ?_⟩; have n1_ := Aside0.mk (below_step bel hb); (try clear BK170); clear HB; have HB := n1_; clear n1_; (try clear hb); (try clear hb2); (try clear hk); (try clear hi)))
  go_ret
  exact ⟨by first | rfl | (simp [errW_none, errW_some] <;> rfl) | (simp [*, errW_none, errW_some] <;> rfl), bel⟩
def bits_Len64.j0 : Nat → Int → Int → Option (Int)
 | 0, _, _ => none
 | k + 1, x0, x2 => if x0 ≥ 65536 then (if (x0 / 65536) ≥ 256 then (if 0 ≤ (((x0 / 65536) / 256) % 256) then (if (((x0 / 65536) / 256) % 256) < 256 then (some (wrap64 ((wrap64 ((wrap64 (x2 + 16)) + 8)) + (wrap64 (bt (⟨#[0, 1, 2, 2, 3, 3, 3, 3, 4, 4, 4, 4, 4, 4, 4, 4, 5, 5, 5, 5, 5, 5, 5, 5, 5, 5, 5, 5, 5, 5, 5, 5, 6, 6, 6, 6, 6, 6, 6, 6, 6, 6, 6, 6, 6, 6, 6, 6, 6, 6, 6, 6, 6, 6, 6, 6, 6, 6, 6, 6, 6, 6, 6, 6, 7, 7, 7, 7, 7, 7, 7, 7, 7, 7, 7, 7, 7, 7, 7, 7, 7, 7, 7, 7, 7, 7, 7, 7, 7, 7, 7, 7, 7, 7, 7, 7, 7, 7, 7, 7, 7, 7, 7, 7, 7, 7, 7, 7, 7, 7, 7, 7, 7, 7, 7, 7, 7, 7, 7, 7, 7, 7, 7, 7, 7, 7, 7, 7, 8, 8, 8, 8, 8, 8, 8, 8, 8, 8, 8, 8, 8, 8, 8, 8, 8, 8, 8, 8, 8, 8, 8, 8, 8, 8, 8, 8, 8, 8, 8, 8, 8, 8, 8, 8, 8, 8, 8, 8, 8, 8, 8, 8, 8, 8, 8, 8, 8, 8, 8, 8, 8, 8, 8, 8, 8, 8, 8, 8, 8, 8, 8, 8, 8, 8, 8, 8, 8, 8, 8, 8, 8, 8, 8, 8, 8, 8, 8, 8, 8, 8, 8, 8, 8, 8, 8, 8, 8, 8, 8, 8, 8, 8, 8, 8, 8, 8, 8, 8, 8, 8, 8, 8, 8, 8, 8, 8, 8, 8, 8, 8, 8, 8, 8, 8, 8, 8, 8, 8, 8, 8, 8, 8, 8, 8, 8, 8]⟩ : ByteArray) (((x0 / 65536) / 256) % 256)))))) else (none)) else (none)) else (if 0 ≤ ((x0 / 65536) % 256) then (if ((x0 / 65536) % 256) < 256 then (some (wrap64 ((wrap64 (x2 + 16)) + (wrap64 (bt (⟨#[0, 1, 2, 2, 3, 3, 3, 3, 4, 4, 4, 4, 4, 4, 4, 4, 5, 5, 5, 5, 5, 5, 5, 5, 5, 5, 5, 5, 5, 5, 5, 5, 6, 6, 6, 6, 6, 6, 6, 6, 6, 6, 6, 6, 6, 6, 6, 6, 6, 6, 6, 6, 6, 6, 6, 6, 6, 6, 6, 6, 6, 6, 6, 6, 7, 7, 7, 7, 7, 7, 7, 7, 7, 7, 7, 7, 7, 7, 7, 7, 7, 7, 7, 7, 7, 7, 7, 7, 7, 7, 7, 7, 7, 7, 7, 7, 7, 7, 7, 7, 7, 7, 7, 7, 7, 7, 7, 7, 7, 7, 7, 7, 7, 7, 7, 7, 7, 7, 7, 7, 7, 7, 7, 7, 7, 7, 7, 7, 8, 8, 8, 8, 8, 8, 8, 8, 8, 8, 8, 8, 8, 8, 8, 8, 8, 8, 8, 8, 8, 8, 8, 8, 8, 8, 8, 8, 8, 8, 8, 8, 8, 8, 8, 8, 8, 8, 8, 8, 8, 8, 8, 8, 8, 8, 8, 8, 8, 8, 8, 8, 8, 8, 8, 8, 8, 8, 8, 8, 8, 8, 8, 8, 8, 8, 8, 8, 8, 8, 8, 8, 8, 8, 8, 8, 8, 8, 8, 8, 8, 8, 8, 8, 8, 8, 8, 8, 8, 8, 8, 8, 8, 8, 8, 8, 8, 8, 8, 8, 8, 8, 8, 8, 8, 8, 8, 8, 8, 8, 8, 8, 8, 8, 8, 8, 8, 8, 8, 8, 8, 8, 8, 8, 8, 8, 8, 8]⟩ : ByteArray) ((x0 / 65536) % 256)))))) else (none)) else (none))) else (if x0 ≥ 256 then (if 0 ≤ ((x0 / 256) % 256) then (if ((x0 / 256) % 256) < 256 then (some (wrap64 ((wrap64 (x2 + 8)) + (wrap64 (bt (⟨#[0, 1, 2, 2, 3, 3, 3, 3, 4, 4, 4, 4, 4, 4, 4, 4, 5, 5, 5, 5, 5, 5, 5, 5, 5, 5, 5, 5, 5, 5, 5, 5, 6, 6, 6, 6, 6, 6, 6, 6, 6, 6, 6, 6, 6, 6, 6, 6, 6, 6, 6, 6, 6, 6, 6, 6, 6, 6, 6, 6, 6, 6, 6, 6, 7, 7, 7, 7, 7, 7, 7, 7, 7, 7, 7, 7, 7, 7, 7, 7, 7, 7, 7, 7, 7, 7, 7, 7, 7, 7, 7, 7, 7, 7, 7, 7, 7, 7, 7, 7, 7, 7, 7, 7, 7, 7, 7, 7, 7, 7, 7, 7, 7, 7, 7, 7, 7, 7, 7, 7, 7, 7, 7, 7, 7, 7, 7, 7, 8, 8, 8, 8, 8, 8, 8, 8, 8, 8, 8, 8, 8, 8, 8, 8, 8, 8, 8, 8, 8, 8, 8, 8, 8, 8, 8, 8, 8, 8, 8, 8, 8, 8, 8, 8, 8, 8, 8, 8, 8, 8, 8, 8, 8, 8, 8, 8, 8, 8, 8, 8, 8, 8, 8, 8, 8, 8, 8, 8, 8, 8, 8, 8, 8, 8, 8, 8, 8, 8, 8, 8, 8, 8, 8, 8, 8, 8, 8, 8, 8, 8, 8, 8, 8, 8, 8, 8, 8, 8, 8, 8, 8, 8, 8, 8, 8, 8, 8, 8, 8, 8, 8, 8, 8, 8, 8, 8, 8, 8, 8, 8, 8, 8, 8, 8, 8, 8, 8, 8, 8, 8, 8, 8, 8, 8, 8, 8]⟩ : ByteArray) ((x0 / 256) % 256)))))) else (none)) else (none)) else (if 0 ≤ ((x0) % 256) then (if ((x0) % 256) < 256 then (some (wrap64 (x2 + (wrap64 (bt (⟨#[0, 1, 2, 2, 3, 3, 3, 3, 4, 4, 4, 4, 4, 4, 4, 4, 5, 5, 5, 5, 5, 5, 5, 5, 5, 5, 5, 5, 5, 5, 5, 5, 6, 6, 6, 6, 6, 6, 6, 6, 6, 6, 6, 6, 6, 6, 6, 6, 6, 6, 6, 6, 6, 6, 6, 6, 6, 6, 6, 6, 6, 6, 6, 6, 7, 7, 7, 7, 7, 7, 7, 7, 7, 7, 7, 7, 7, 7, 7, 7, 7, 7, 7, 7, 7, 7, 7, 7, 7, 7, 7, 7, 7, 7, 7, 7, 7, 7, 7, 7, 7, 7, 7, 7, 7, 7, 7, 7, 7, 7, 7, 7, 7, 7, 7, 7, 7, 7, 7, 7, 7, 7, 7, 7, 7, 7, 7, 7, 8, 8, 8, 8, 8, 8, 8, 8, 8, 8, 8, 8, 8, 8, 8, 8, 8, 8, 8, 8, 8, 8, 8, 8, 8, 8, 8, 8, 8, 8, 8, 8, 8, 8, 8, 8, 8, 8, 8, 8, 8, 8, 8, 8, 8, 8, 8, 8, 8, 8, 8, 8, 8, 8, 8, 8, 8, 8, 8, 8, 8, 8, 8, 8, 8, 8, 8, 8, 8, 8, 8, 8, 8, 8, 8, 8, 8, 8, 8, 8, 8, 8, 8, 8, 8, 8, 8, 8, 8, 8, 8, 8, 8, 8, 8, 8, 8, 8, 8, 8, 8, 8, 8, 8, 8, 8, 8, 8, 8, 8, 8, 8, 8, 8, 8, 8, 8, 8, 8, 8, 8, 8, 8, 8, 8, 8, 8, 8]⟩ : ByteArray) ((x0) % 256)))))) else (none)) else (none)))
def bits_Len64.f (k : Nat) (a0 : Int) : Option (Int) := if a0 ≥ 4294967296 then (bits_Len64.j0 k (a0 / 4294967296) 32) else (bits_Len64.j0 k a0 0)
theorem bits_Len64.mono_l : ∀ k, (∀ y0 y1, LeO (bits_Len64.j0 k y0 y1) (bits_Len64.j0 (k + 1) y0 y1))
 | 0 => fun _ _ r h => by simp [bits_Len64.j0] at h
 | k + 1 => by
  have ih0 := bits_Len64.mono_l k
  ·intro y0 y1
   unfold bits_Len64.j0
   repeat' first
   | (with_reducible exact ih0 _ _)
   | (with_reducible exact LeO.refl _)
   | (with_reducible exact LeO.none _)
   | (with_reducible refine LeO.ite ?_ ?_)
   | (with_reducible refine LeO.bind ?_ (fun _ => ?_))
theorem bits_Len64.mono : ∀ a0 k, LeO (bits_Len64.f k a0) (bits_Len64.f (k + 1) a0) := by
 intro a0 k
 have ih0 := bits_Len64.mono_l k
 unfold bits_Len64.f
 repeat' first
   | (with_reducible exact ih0 _ _)
   | (with_reducible exact LeO.refl _)
   | (with_reducible exact LeO.none _)
   | (with_reducible refine LeO.ite ?_ ?_)
   | (with_reducible refine LeO.bind ?_ (fun _ => ?_))
set_option maxHeartbeats 8000000 in
set_option maxRecDepth 100000 in
theorem bits_Len64.calls (k : Nat) (a0 : Int) (r : Int) (w : World) (h : bits_Len64.f k a0 = some r) :
  Calls Try.prog 58 #[.int .u64 a0] w fun e w' => e = .returned (.int .i64 r) ∧ Drawn0 w w' := by
 have H : (if a0 ≥ 4294967296 then (bits_Len64.j0 k (a0 / 4294967296) 32) else (bits_Len64.j0 k a0 0)) = some r := h
 clear h
 have HC2 := Aside0.mk H
 clear H
 go_enter Try.func58, Try.ntmps58
 go_upto_if 4 with (fail)
 go_cut [0, 2] (fun v0 v2 wc => ∃ (kq : Nat) (x0_1 : Int) (x2_1 : Int), v0 = .int .u64 x0_1 ∧ v2 = .int .i64 x2_1 ∧ Aside0 (bits_Len64.j0 kq x0_1 x2_1 = some r) ∧ Aside0 (kq ≤ k) ∧ Drawn0 w wc)
 case first =>
  have H := HC2.out
  clear HC2
  by_cases c3 : a0 ≥ 4294967296
  ·rw [if_pos c3] at H
   have c3b0 : decide (4294967296 ≤ a0) = true := decide_eq_true c3
   clear c3
   (first | rw [c3b0] | (simp only [i64_w, i32_w]; rw [c3b0]) | skip)
   have H' := Aside0.mk H
   clear H
   go_wp2
   go_meet
   case rel => exact ⟨_, (a0 / 4294967296), (32), (by first | rfl | (simp; done) | (simp [*]; done)), (by first | rfl | (simp; done) | (simp [*]; done)), H', ⟨by first | omega | exact Nat.le_refl _⟩, by repeat (first | exact Drawn0.refl _ | apply Drawn0.step)⟩
  ·rw [if_neg c3] at H
   have c3b0 : decide (4294967296 ≤ a0) = false := decide_eq_false c3
   clear c3
   (first | rw [c3b0] | (simp only [i64_w, i32_w]; rw [c3b0]) | skip)
   have H' := Aside0.mk H
   clear H
   go_wp2
   go_meet
   case rel => exact ⟨_, (a0), (0), (by first | rfl | (simp; done) | (simp [*]; done)), (by first | rfl | (simp; done) | (simp [*]; done)), H', ⟨by first | omega | exact Nat.le_refl _⟩, by repeat (first | exact Drawn0.refl _ | apply Drawn0.step)⟩
 case rest =>
  clear HC2
  try clear p2
  try clear c3
  try clear c3b0
  obtain ⟨kq, x0_1, x2_1, rfl, rfl, HA, HJ1, ⟨mc1, rfl⟩⟩ := hcut
  cases kq with
  | zero => exact absurd HA.out (by simp [bits_Len64.j0])
  | succ kj1 =>
   have H := HA.out
   clear HA
   simp only [bits_Len64.j0] at H
   by_cases c4 : x0_1 ≥ 65536
   ·rw [if_pos c4] at H
    have c4b0 : decide (65536 ≤ x0_1) = true := decide_eq_true c4
    clear c4
    by_cases c5 : (x0_1 / 65536) ≥ 256
    ·rw [if_pos c5] at H
     have c5b0 : decide (256 ≤ (x0_1 / 65536)) = true := decide_eq_true c5
     clear c5
     obtain ⟨ji6, hji6⟩ : ∃ j_ : Int, (((x0_1 / 65536) / 256) % 256) = j_ := ⟨_, rfl⟩
     replace H : (if 0 ≤ (ji6) then (if (ji6) < 256 then (some (wrap64 ((wrap64 ((wrap64 (x2_1 + 16)) + 8)) + (wrap64 (bt (⟨#[0, 1, 2, 2, 3, 3, 3, 3, 4, 4, 4, 4, 4, 4, 4, 4, 5, 5, 5, 5, 5, 5, 5, 5, 5, 5, 5, 5, 5, 5, 5, 5, 6, 6, 6, 6, 6, 6, 6, 6, 6, 6, 6, 6, 6, 6, 6, 6, 6, 6, 6, 6, 6, 6, 6, 6, 6, 6, 6, 6, 6, 6, 6, 6, 7, 7, 7, 7, 7, 7, 7, 7, 7, 7, 7, 7, 7, 7, 7, 7, 7, 7, 7, 7, 7, 7, 7, 7, 7, 7, 7, 7, 7, 7, 7, 7, 7, 7, 7, 7, 7, 7, 7, 7, 7, 7, 7, 7, 7, 7, 7, 7, 7, 7, 7, 7, 7, 7, 7, 7, 7, 7, 7, 7, 7, 7, 7, 7, 8, 8, 8, 8, 8, 8, 8, 8, 8, 8, 8, 8, 8, 8, 8, 8, 8, 8, 8, 8, 8, 8, 8, 8, 8, 8, 8, 8, 8, 8, 8, 8, 8, 8, 8, 8, 8, 8, 8, 8, 8, 8, 8, 8, 8, 8, 8, 8, 8, 8, 8, 8, 8, 8, 8, 8, 8, 8, 8, 8, 8, 8, 8, 8, 8, 8, 8, 8, 8, 8, 8, 8, 8, 8, 8, 8, 8, 8, 8, 8, 8, 8, 8, 8, 8, 8, 8, 8, 8, 8, 8, 8, 8, 8, 8, 8, 8, 8, 8, 8, 8, 8, 8, 8, 8, 8, 8, 8, 8, 8, 8, 8, 8, 8, 8, 8, 8, 8, 8, 8, 8, 8, 8, 8, 8, 8, 8, 8]⟩ : ByteArray) (ji6)))))) else (none)) else (none)) = some r := by first | (rw [hji6] at H; exact H) | (simp only [hji6] at H ⊢; exact H)
     by_cases c7 : 0 ≤ (ji6)
     ·rw [if_pos c7] at H
      have c7b0 : decide (0 ≤ (ji6)) = true := decide_eq_true c7
      clear c7
      by_cases c8 : (ji6) < 256
      ·rw [if_pos c8] at H
       have c8b0 : decide ((ji6) < 256) = true := decide_eq_true c8
       clear c8
       obtain rfl := Option.some.inj H
       have p9 : 0 ≤ ((ji6) : Int) := of_decide_eq_true (by first | (with_reducible assumption) | assumption)
       have q9 : (ji6) < (256 : Int) := of_decide_eq_true (by first | (with_reducible assumption) | assumption)
       have hx9 := bt_at (⟨#[0, 1, 2, 2, 3, 3, 3, 3, 4, 4, 4, 4, 4, 4, 4, 4, 5, 5, 5, 5, 5, 5, 5, 5, 5, 5, 5, 5, 5, 5, 5, 5, 6, 6, 6, 6, 6, 6, 6, 6, 6, 6, 6, 6, 6, 6, 6, 6, 6, 6, 6, 6, 6, 6, 6, 6, 6, 6, 6, 6, 6, 6, 6, 6, 7, 7, 7, 7, 7, 7, 7, 7, 7, 7, 7, 7, 7, 7, 7, 7, 7, 7, 7, 7, 7, 7, 7, 7, 7, 7, 7, 7, 7, 7, 7, 7, 7, 7, 7, 7, 7, 7, 7, 7, 7, 7, 7, 7, 7, 7, 7, 7, 7, 7, 7, 7, 7, 7, 7, 7, 7, 7, 7, 7, 7, 7, 7, 7, 8, 8, 8, 8, 8, 8, 8, 8, 8, 8, 8, 8, 8, 8, 8, 8, 8, 8, 8, 8, 8, 8, 8, 8, 8, 8, 8, 8, 8, 8, 8, 8, 8, 8, 8, 8, 8, 8, 8, 8, 8, 8, 8, 8, 8, 8, 8, 8, 8, 8, 8, 8, 8, 8, 8, 8, 8, 8, 8, 8, 8, 8, 8, 8, 8, 8, 8, 8, 8, 8, 8, 8, 8, 8, 8, 8, 8, 8, 8, 8, 8, 8, 8, 8, 8, 8, 8, 8, 8, 8, 8, 8, 8, 8, 8, 8, 8, 8, 8, 8, 8, 8, 8, 8, 8, 8, 8, 8, 8, 8, 8, 8, 8, 8, 8, 8, 8, 8, 8, 8, 8, 8, 8, 8, 8, 8, 8, 8]⟩ : ByteArray) (ji6)
       replace p9 := eq_true p9
       replace q9 := eq_true q9
       go_wp2
       go_ret
       exact ⟨by first | rfl | (simp; done) | (simp only [← hji6] <;> (first | rfl | simp)) | (simp [*]; done), by repeat (first | exact Drawn0.refl _ | apply Drawn0.step)⟩
      ·rw [if_neg c8] at H
       exact absurd H (by simp)
     ·rw [if_neg c7] at H
      exact absurd H (by simp)
    ·rw [if_neg c5] at H
     have c5b0 : decide (256 ≤ (x0_1 / 65536)) = false := decide_eq_false c5
     clear c5
     obtain ⟨ji10, hji10⟩ : ∃ j_ : Int, ((x0_1 / 65536) % 256) = j_ := ⟨_, rfl⟩
     replace H : (if 0 ≤ (ji10) then (if (ji10) < 256 then (some (wrap64 ((wrap64 (x2_1 + 16)) + (wrap64 (bt (⟨#[0, 1, 2, 2, 3, 3, 3, 3, 4, 4, 4, 4, 4, 4, 4, 4, 5, 5, 5, 5, 5, 5, 5, 5, 5, 5, 5, 5, 5, 5, 5, 5, 6, 6, 6, 6, 6, 6, 6, 6, 6, 6, 6, 6, 6, 6, 6, 6, 6, 6, 6, 6, 6, 6, 6, 6, 6, 6, 6, 6, 6, 6, 6, 6, 7, 7, 7, 7, 7, 7, 7, 7, 7, 7, 7, 7, 7, 7, 7, 7, 7, 7, 7, 7, 7, 7, 7, 7, 7, 7, 7, 7, 7, 7, 7, 7, 7, 7, 7, 7, 7, 7, 7, 7, 7, 7, 7, 7, 7, 7, 7, 7, 7, 7, 7, 7, 7, 7, 7, 7, 7, 7, 7, 7, 7, 7, 7, 7, 8, 8, 8, 8, 8, 8, 8, 8, 8, 8, 8, 8, 8, 8, 8, 8, 8, 8, 8, 8, 8, 8, 8, 8, 8, 8, 8, 8, 8, 8, 8, 8, 8, 8, 8, 8, 8, 8, 8, 8, 8, 8, 8, 8, 8, 8, 8, 8, 8, 8, 8, 8, 8, 8, 8, 8, 8, 8, 8, 8, 8, 8, 8, 8, 8, 8, 8, 8, 8, 8, 8, 8, 8, 8, 8, 8, 8, 8, 8, 8, 8, 8, 8, 8, 8, 8, 8, 8, 8, 8, 8, 8, 8, 8, 8, 8, 8, 8, 8, 8, 8, 8, 8, 8, 8, 8, 8, 8, 8, 8, 8, 8, 8, 8, 8, 8, 8, 8, 8, 8, 8, 8, 8, 8, 8, 8, 8, 8]⟩ : ByteArray) (ji10)))))) else (none)) else (none)) = some r := by first | (rw [hji10] at H; exact H) | (simp only [hji10] at H ⊢; exact H)
     by_cases c11 : 0 ≤ (ji10)
     ·rw [if_pos c11] at H
      have c11b0 : decide (0 ≤ (ji10)) = true := decide_eq_true c11
      clear c11
      by_cases c12 : (ji10) < 256
      ·rw [if_pos c12] at H
       have c12b0 : decide ((ji10) < 256) = true := decide_eq_true c12
       clear c12
       obtain rfl := Option.some.inj H
       have p13 : 0 ≤ ((ji10) : Int) := of_decide_eq_true (by first | (with_reducible assumption) | assumption)
       have q13 : (ji10) < (256 : Int) := of_decide_eq_true (by first | (with_reducible assumption) | assumption)
       have hx13 := bt_at (⟨#[0, 1, 2, 2, 3, 3, 3, 3, 4, 4, 4, 4, 4, 4, 4, 4, 5, 5, 5, 5, 5, 5, 5, 5, 5, 5, 5, 5, 5, 5, 5, 5, 6, 6, 6, 6, 6, 6, 6, 6, 6, 6, 6, 6, 6, 6, 6, 6, 6, 6, 6, 6, 6, 6, 6, 6, 6, 6, 6, 6, 6, 6, 6, 6, 7, 7, 7, 7, 7, 7, 7, 7, 7, 7, 7, 7, 7, 7, 7, 7, 7, 7, 7, 7, 7, 7, 7, 7, 7, 7, 7, 7, 7, 7, 7, 7, 7, 7, 7, 7, 7, 7, 7, 7, 7, 7, 7, 7, 7, 7, 7, 7, 7, 7, 7, 7, 7, 7, 7, 7, 7, 7, 7, 7, 7, 7, 7, 7, 8, 8, 8, 8, 8, 8, 8, 8, 8, 8, 8, 8, 8, 8, 8, 8, 8, 8, 8, 8, 8, 8, 8, 8, 8, 8, 8, 8, 8, 8, 8, 8, 8, 8, 8, 8, 8, 8, 8, 8, 8, 8, 8, 8, 8, 8, 8, 8, 8, 8, 8, 8, 8, 8, 8, 8, 8, 8, 8, 8, 8, 8, 8, 8, 8, 8, 8, 8, 8, 8, 8, 8, 8, 8, 8, 8, 8, 8, 8, 8, 8, 8, 8, 8, 8, 8, 8, 8, 8, 8, 8, 8, 8, 8, 8, 8, 8, 8, 8, 8, 8, 8, 8, 8, 8, 8, 8, 8, 8, 8, 8, 8, 8, 8, 8, 8, 8, 8, 8, 8, 8, 8, 8, 8, 8, 8, 8, 8]⟩ : ByteArray) (ji10)
       replace p13 := eq_true p13
       replace q13 := eq_true q13
       go_wp2
       go_ret
       exact ⟨by first | rfl | (simp; done) | (simp only [← hji10] <;> (first | rfl | simp)) | (simp [*]; done), by repeat (first | exact Drawn0.refl _ | apply Drawn0.step)⟩
      ·rw [if_neg c12] at H
       exact absurd H (by simp)
     ·rw [if_neg c11] at H
      exact absurd H (by simp)
   ·rw [if_neg c4] at H
    have c4b0 : decide (65536 ≤ x0_1) = false := decide_eq_false c4
    clear c4
    by_cases c14 : x0_1 ≥ 256
    ·rw [if_pos c14] at H
     have c14b0 : decide (256 ≤ x0_1) = true := decide_eq_true c14
     clear c14
     obtain ⟨ji15, hji15⟩ : ∃ j_ : Int, ((x0_1 / 256) % 256) = j_ := ⟨_, rfl⟩
     replace H : (if 0 ≤ (ji15) then (if (ji15) < 256 then (some (wrap64 ((wrap64 (x2_1 + 8)) + (wrap64 (bt (⟨#[0, 1, 2, 2, 3, 3, 3, 3, 4, 4, 4, 4, 4, 4, 4, 4, 5, 5, 5, 5, 5, 5, 5, 5, 5, 5, 5, 5, 5, 5, 5, 5, 6, 6, 6, 6, 6, 6, 6, 6, 6, 6, 6, 6, 6, 6, 6, 6, 6, 6, 6, 6, 6, 6, 6, 6, 6, 6, 6, 6, 6, 6, 6, 6, 7, 7, 7, 7, 7, 7, 7, 7, 7, 7, 7, 7, 7, 7, 7, 7, 7, 7, 7, 7, 7, 7, 7, 7, 7, 7, 7, 7, 7, 7, 7, 7, 7, 7, 7, 7, 7, 7, 7, 7, 7, 7, 7, 7, 7, 7, 7, 7, 7, 7, 7, 7, 7, 7, 7, 7, 7, 7, 7, 7, 7, 7, 7, 7, 8, 8, 8, 8, 8, 8, 8, 8, 8, 8, 8, 8, 8, 8, 8, 8, 8, 8, 8, 8, 8, 8, 8, 8, 8, 8, 8, 8, 8, 8, 8, 8, 8, 8, 8, 8, 8, 8, 8, 8, 8, 8, 8, 8, 8, 8, 8, 8, 8, 8, 8, 8, 8, 8, 8, 8, 8, 8, 8, 8, 8, 8, 8, 8, 8, 8, 8, 8, 8, 8, 8, 8, 8, 8, 8, 8, 8, 8, 8, 8, 8, 8, 8, 8, 8, 8, 8, 8, 8, 8, 8, 8, 8, 8, 8, 8, 8, 8, 8, 8, 8, 8, 8, 8, 8, 8, 8, 8, 8, 8, 8, 8, 8, 8, 8, 8, 8, 8, 8, 8, 8, 8, 8, 8, 8, 8, 8, 8]⟩ : ByteArray) (ji15)))))) else (none)) else (none)) = some r := by first | (rw [hji15] at H; exact H) | (simp only [hji15] at H ⊢; exact H)
     by_cases c16 : 0 ≤ (ji15)
     ·rw [if_pos c16] at H
      have c16b0 : decide (0 ≤ (ji15)) = true := decide_eq_true c16
      clear c16
      by_cases c17 : (ji15) < 256
      ·rw [if_pos c17] at H
       have c17b0 : decide ((ji15) < 256) = true := decide_eq_true c17
       clear c17
       obtain rfl := Option.some.inj H
       have p18 : 0 ≤ ((ji15) : Int) := of_decide_eq_true (by first | (with_reducible assumption) | assumption)
       have q18 : (ji15) < (256 : Int) := of_decide_eq_true (by first | (with_reducible assumption) | assumption)
       have hx18 := bt_at (⟨#[0, 1, 2, 2, 3, 3, 3, 3, 4, 4, 4, 4, 4, 4, 4, 4, 5, 5, 5, 5, 5, 5, 5, 5, 5, 5, 5, 5, 5, 5, 5, 5, 6, 6, 6, 6, 6, 6, 6, 6, 6, 6, 6, 6, 6, 6, 6, 6, 6, 6, 6, 6, 6, 6, 6, 6, 6, 6, 6, 6, 6, 6, 6, 6, 7, 7, 7, 7, 7, 7, 7, 7, 7, 7, 7, 7, 7, 7, 7, 7, 7, 7, 7, 7, 7, 7, 7, 7, 7, 7, 7, 7, 7, 7, 7, 7, 7, 7, 7, 7, 7, 7, 7, 7, 7, 7, 7, 7, 7, 7, 7, 7, 7, 7, 7, 7, 7, 7, 7, 7, 7, 7, 7, 7, 7, 7, 7, 7, 8, 8, 8, 8, 8, 8, 8, 8, 8, 8, 8, 8, 8, 8, 8, 8, 8, 8, 8, 8, 8, 8, 8, 8, 8, 8, 8, 8, 8, 8, 8, 8, 8, 8, 8, 8, 8, 8, 8, 8, 8, 8, 8, 8, 8, 8, 8, 8, 8, 8, 8, 8, 8, 8, 8, 8, 8, 8, 8, 8, 8, 8, 8, 8, 8, 8, 8, 8, 8, 8, 8, 8, 8, 8, 8, 8, 8, 8, 8, 8, 8, 8, 8, 8, 8, 8, 8, 8, 8, 8, 8, 8, 8, 8, 8, 8, 8, 8, 8, 8, 8, 8, 8, 8, 8, 8, 8, 8, 8, 8, 8, 8, 8, 8, 8, 8, 8, 8, 8, 8, 8, 8, 8, 8, 8, 8, 8, 8]⟩ : ByteArray) (ji15)
       replace p18 := eq_true p18
       replace q18 := eq_true q18
       go_wp2
       go_ret
       exact ⟨by first | rfl | (simp; done) | (simp only [← hji15] <;> (first | rfl | simp)) | (simp [*]; done), by repeat (first | exact Drawn0.refl _ | apply Drawn0.step)⟩
      ·rw [if_neg c17] at H
       exact absurd H (by simp)
     ·rw [if_neg c16] at H
      exact absurd H (by simp)
    ·rw [if_neg c14] at H
     have c14b0 : decide (256 ≤ x0_1) = false := decide_eq_false c14
     clear c14
     obtain ⟨ji19, hji19⟩ : ∃ j_ : Int, ((x0_1) % 256) = j_ := ⟨_, rfl⟩
     replace H : (if 0 ≤ (ji19) then (if (ji19) < 256 then (some (wrap64 (x2_1 + (wrap64 (bt (⟨#[0, 1, 2, 2, 3, 3, 3, 3, 4, 4, 4, 4, 4, 4, 4, 4, 5, 5, 5, 5, 5, 5, 5, 5, 5, 5, 5, 5, 5, 5, 5, 5, 6, 6, 6, 6, 6, 6, 6, 6, 6, 6, 6, 6, 6, 6, 6, 6, 6, 6, 6, 6, 6, 6, 6, 6, 6, 6, 6, 6, 6, 6, 6, 6, 7, 7, 7, 7, 7, 7, 7, 7, 7, 7, 7, 7, 7, 7, 7, 7, 7, 7, 7, 7, 7, 7, 7, 7, 7, 7, 7, 7, 7, 7, 7, 7, 7, 7, 7, 7, 7, 7, 7, 7, 7, 7, 7, 7, 7, 7, 7, 7, 7, 7, 7, 7, 7, 7, 7, 7, 7, 7, 7, 7, 7, 7, 7, 7, 8, 8, 8, 8, 8, 8, 8, 8, 8, 8, 8, 8, 8, 8, 8, 8, 8, 8, 8, 8, 8, 8, 8, 8, 8, 8, 8, 8, 8, 8, 8, 8, 8, 8, 8, 8, 8, 8, 8, 8, 8, 8, 8, 8, 8, 8, 8, 8, 8, 8, 8, 8, 8, 8, 8, 8, 8, 8, 8, 8, 8, 8, 8, 8, 8, 8, 8, 8, 8, 8, 8, 8, 8, 8, 8, 8, 8, 8, 8, 8, 8, 8, 8, 8, 8, 8, 8, 8, 8, 8, 8, 8, 8, 8, 8, 8, 8, 8, 8, 8, 8, 8, 8, 8, 8, 8, 8, 8, 8, 8, 8, 8, 8, 8, 8, 8, 8, 8, 8, 8, 8, 8, 8, 8, 8, 8, 8, 8]⟩ : ByteArray) (ji19)))))) else (none)) else (none)) = some r := by first | (rw [hji19] at H; exact H) | (simp only [hji19] at H ⊢; exact H)
     by_cases c20 : 0 ≤ (ji19)
     ·rw [if_pos c20] at H
      have c20b0 : decide (0 ≤ (ji19)) = true := decide_eq_true c20
      clear c20
      by_cases c21 : (ji19) < 256
      ·rw [if_pos c21] at H
       have c21b0 : decide ((ji19) < 256) = true := decide_eq_true c21
       clear c21
       obtain rfl := Option.some.inj H
       have p22 : 0 ≤ ((ji19) : Int) := of_decide_eq_true (by first | (with_reducible assumption) | assumption)
       have q22 : (ji19) < (256 : Int) := of_decide_eq_true (by first | (with_reducible assumption) | assumption)
       have hx22 := bt_at (⟨#[0, 1, 2, 2, 3, 3, 3, 3, 4, 4, 4, 4, 4, 4, 4, 4, 5, 5, 5, 5, 5, 5, 5, 5, 5, 5, 5, 5, 5, 5, 5, 5, 6, 6, 6, 6, 6, 6, 6, 6, 6, 6, 6, 6, 6, 6, 6, 6, 6, 6, 6, 6, 6, 6, 6, 6, 6, 6, 6, 6, 6, 6, 6, 6, 7, 7, 7, 7, 7, 7, 7, 7, 7, 7, 7, 7, 7, 7, 7, 7, 7, 7, 7, 7, 7, 7, 7, 7, 7, 7, 7, 7, 7, 7, 7, 7, 7, 7, 7, 7, 7, 7, 7, 7, 7, 7, 7, 7, 7, 7, 7, 7, 7, 7, 7, 7, 7, 7, 7, 7, 7, 7, 7, 7, 7, 7, 7, 7, 8, 8, 8, 8, 8, 8, 8, 8, 8, 8, 8, 8, 8, 8, 8, 8, 8, 8, 8, 8, 8, 8, 8, 8, 8, 8, 8, 8, 8, 8, 8, 8, 8, 8, 8, 8, 8, 8, 8, 8, 8, 8, 8, 8, 8, 8, 8, 8, 8, 8, 8, 8, 8, 8, 8, 8, 8, 8, 8, 8, 8, 8, 8, 8, 8, 8, 8, 8, 8, 8, 8, 8, 8, 8, 8, 8, 8, 8, 8, 8, 8, 8, 8, 8, 8, 8, 8, 8, 8, 8, 8, 8, 8, 8, 8, 8, 8, 8, 8, 8, 8, 8, 8, 8, 8, 8, 8, 8, 8, 8, 8, 8, 8, 8, 8, 8, 8, 8, 8, 8, 8, 8, 8, 8, 8, 8, 8, 8]⟩ : ByteArray) (ji19)
       replace p22 := eq_true p22
       replace q22 := eq_true q22
       go_wp2
       go_ret
       exact ⟨by first | rfl | (simp; done) | (simp only [← hji19] <;> (first | rfl | simp)) | (simp [*]; done), by repeat (first | exact Drawn0.refl _ | apply Drawn0.step)⟩
      ·rw [if_neg c21] at H
       exact absurd H (by simp)
     ·rw [if_neg c20] at H
      exact absurd H (by simp)
def bits_LeadingZeros64.f (k : Nat) (a0 : Int) : Option (Int) := (bits_Len64.f k a0).bind fun t173 => (some (wrap64 (64 - t173)))
theorem bits_LeadingZeros64.mono : ∀ a0 k, LeO (bits_LeadingZeros64.f k a0) (bits_LeadingZeros64.f (k + 1) a0) := by
 intro a0 k
 unfold bits_LeadingZeros64.f
 repeat' first
   | (with_reducible exact bits_Len64.mono _ _)
   | (with_reducible exact LeO.refl _)
   | (with_reducible exact LeO.none _)
   | (with_reducible refine LeO.ite ?_ ?_)
   | (with_reducible refine LeO.bind ?_ (fun _ => ?_))
set_option maxHeartbeats 8000000 in
set_option maxRecDepth 100000 in
theorem bits_LeadingZeros64.calls (k : Nat) (a0 : Int) (r : Int) (w : World) (h : bits_LeadingZeros64.f k a0 = some r) :
  Calls Try.prog 55 #[.int .u64 a0] w fun e w' => e = .returned (.int .i64 r) ∧ Drawn0 w w' := by
 have H : ((bits_Len64.f k a0).bind fun t173 => (some (wrap64 (64 - t173)))) = some r := h
 clear h
 replace H := Option.bind_eq_some_iff.mp H
 obtain ⟨t173, A20, H⟩ := H
 replace H : (some (wrap64 (64 - t173))) = some r := H
 have A2 := Aside0.mk A20
 clear A20
 obtain rfl := Option.some.inj H
 go_enter Try.func55, Try.ntmps55
 go_wp2_with (first | ((with_reducible refine gate_callee (f := 58) rfl ?_); refine goesL_ (some 4) rfl rfl Try.func58 (by kernel_rfl) rfl #[.int .u64 a0] rfl argx ?_; (with_reducible refine (bits_Len64.calls k a0 t173 _ A2.out).mono ?_); rintro e w' ⟨rfl, ⟨nd, rfl⟩⟩; refine ⟨_, rfl, ?_⟩))
 go_ret
 exact ⟨by first | rfl | (simp; done) | (simp [*]; done), by repeat (first | exact Drawn0.refl _ | apply Drawn0.step)⟩
end Go.Proofs.Ytakhjhiofmgpnaa.PA
