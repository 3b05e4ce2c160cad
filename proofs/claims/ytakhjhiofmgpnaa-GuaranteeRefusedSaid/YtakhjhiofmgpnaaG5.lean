/- The contract by hand of guarantee.find: a binary search in a list of reservations by their movement. -/
import Derived.Test.YtakhjhiofmgpnaaPAx0
namespace Go.Proofs.Ytakhjhiofmgpnaa.G
open Go.RowKit Go.Proofs.YtakhjhiofmgpnaaW.PrintWords Go.Proofs.YtakhjhiofmgpnaaW.PrintLast Go.Proofs.YtakhjhiofmgpnaaW.PrintMore Go.Proofs.Ytakhjhiofmgpnaa.PA
set_option linter.unusedVariables false
set_option linter.unusedSimpArgs false

/-- What the search does: the place, by halving. -/
def bsi (l : List S39) (m : Int) : Nat → Nat → Nat → Nat
  | 0, i, _ => i
  | k + 1, i, j => if i < j then (if wrap64 ((rd_T39 l (((i + j) / 2 : Nat) : Int)).f0 - m) < 0 then bsi l m k ((i + j) / 2 + 1) j else bsi l m k i ((i + j) / 2)) else i

theorem bsi_le (l : List S39) (m : Int) : ∀ (k i j : Nat), i ≤ j → bsi l m k i j ≤ j
  | 0, i, j, h => h
  | k + 1, i, j, h => by
    rw [bsi]
    split
    · split
      · exact bsi_le l m k _ _ (by omega)
      · exact Nat.le_trans (bsi_le l m k _ _ (by omega)) (by omega)
    · exact h

def guarantee_find.f (l : List S39) (m : Int) : Option (Int × Bool) :=
  if l.length < 4611686018427387904 then some (((bsi l m l.length 0 l.length : Nat) : Int), decide (bsi l m l.length 0 l.length < l.length) && decide (wrap64 ((rd_T39 l ((bsi l m l.length 0 l.length : Nat) : Int)).f0 - m) = 0)) else none

theorem find_cmp (a b m : Int) (w : World) : Calls Try.prog 48 #[.agg #[.int .i64 a, .int .i64 b], .int .i64 m] w fun e w' => e = .returned (.int .i64 (wrap64 (a - m))) ∧ Below w.heap.size w w' := by
  have hu39 := Try.underlying39
  have HB := Aside0.mk (Below.refl w.heap.size w)
  go_enter Try.func48, Try.ntmps48
  go_wp2_with (first | ((with_reducible refine gate_dst (N := 2) rfl ?_); refine box_event ?hg (N := 2) ?hd (cs := #[.int .i64 a, .int .i64 b]) (t := 39) ?hr ?_; (case hd => rfl); (case hg => rfl); (case hr => first | (go_simp; done) | (go_simp; rfl)); intro gb158 hg w5 hbox hb; have n0_ := Aside0.mk (below_step HB.out hb); have n1_ := Aside0.mk (hbox); clear HB; have HB := n0_; have BK158 := n1_; clear n0_ n1_; clear hb hbox hg; have hcz6_0 : w5.cell? ⟨gb158, 0, none⟩ = some (.int .i64 a) := (blk_cell BK158.out 0).trans rfl; have hcz6_1 : w5.cell? ⟨gb158, 1, none⟩ = some (.int .i64 b) := (blk_cell BK158.out 1).trans rfl; have hfz6_0 := blk_frozen BK158.out 0; have hfz6_1 := blk_frozen BK158.out 1))
  go_ret
  exact ⟨rfl, HB.out⟩

set_option maxHeartbeats 1000000 in
theorem find_bs (A0 : Option Addr) (c0 : Nat) (l0 : List S39) (m : Int) (w : World) (hr0 : Kd.C k39 w A0 l0.length l0) (hc0 : l0.length ≤ c0) (hlim : l0.length < 4611686018427387904) (R : Nat) (hR : bsi l0 m l0.length 0 l0.length = R) :
    Calls Try.prog 47 #[.slice A0 l0.length c0, .int .i64 m, .func (.func 48) #[] #[]] w fun e w' => e = .returned (.tuple #[.int .i64 R, .bool (decide (R < l0.length) && decide (wrap64 ((rd_T39 l0 (R : Int)).f0 - m) = 0))]) ∧ Below w.heap.size w w' := by
  have hu39 := Try.underlying39
  have mixed : Try.prog.follows Departure.mixedOrders = true := by kernel_rfl
  have HR0 := Aside0.mk hr0
  have HC0 := Aside0.mk hc0
  have HB := Aside0.mk (Below.refl w.heap.size w)
  have HR := Aside0.mk hR
  generalize hfin : (decide (R < l0.length) && decide (wrap64 ((rd_T39 l0 (R : Int)).f0 - m) = 0)) = fin
  have FIN := Aside0.mk hfin
  have HL := Aside0.mk hlim
  clear hr0 hc0 hR hfin hlim
  go_enter Try.func47, Try.ntmps47
  go_wp2
  go_loopg [9, 10] l0.length (fun kx s9 s10 wr => ∃ lo hi : Nat, s9 = .int .i64 lo ∧ s10 = .int .i64 hi ∧ lo ≤ hi ∧ hi ≤ l0.length ∧ hi - lo ≤ kx ∧ Aside0 (bsi l0 m kx lo hi = R) ∧ Aside0 (Below w.heap.size w wr))
  case atStart => exact ⟨0, l0.length, rfl, rfl, Nat.zero_le _, Nat.le_refl _, by omega, HR, HB⟩
  case round =>
    clear HR
    obtain ⟨lo, hi, rfl, rfl, hlh, hin, hg, HR, HB⟩ := hrel
    by_cases hlt : lo < hi
    · obtain ⟨k1, rfl⟩ : ∃ k1, gk = k1 + 1 := ⟨gk - 1, by omega⟩
      have H := HR.out
      rw [bsi, if_pos hlt] at H
      obtain ⟨ad, e1, hx0, hx1⟩ := at_T39 HR0.out (((lo + hi) / 2 : Nat) : Int) (by omega) (by omega)
      subst e1
      replace hx0 := (HB.out.cell (World.block_lt_of_cell? w _ hx0)).trans hx0
      replace hx1 := (HB.out.cell (World.block_lt_of_cell? w _ hx1)).trans hx1
      rw [Int.toNat_natCast] at hx0 hx1
      have hmid : wrap64 (IntKind.u64.wrap (wrap64 ((lo : Int) + (hi : Int))) / 2) = (((lo + hi) / 2 : Nat) : Int) := by
        have := HL.out
        have e1 : wrap64 ((lo : Int) + (hi : Int)) = (lo : Int) + hi := by unfold wrap64; omega
        have e2 : IntKind.u64.wrap ((lo : Int) + (hi : Int)) = (lo : Int) + hi := by rw [IntKind.wrap_u64]; omega
        rw [e1, e2]
        unfold wrap64
        omega
      have p0 := eq_true (show (0 : Int) ≤ (((lo + hi) / 2 : Nat) : Int) by omega)
      have q0 := eq_true (show (((lo + hi) / 2 : Nat) : Int) < (l0.length : Int) by omega)
      have MB := Aside0.mk (show lo ≤ (lo + hi) / 2 ∧ (lo + hi) / 2 < hi ∧ hi ≤ l0.length ∧ hi - lo ≤ k1 + 1 by omega)
      have hw1 : ∀ x : Nat, x < l0.length → wrap64 ((x : Int) + 1) = ((x + 1 : Nat) : Int) := fun x hx => by
        have := HL.out
        unfold wrap64
        omega
      have HW1 := Aside0.mk hw1
      clear hw1 hg
      generalize rd_T39 l0 (((lo + hi) / 2 : Nat) : Int) = y at H hx0 hx1
      by_cases hyx : wrap64 (y.f0 - m) < 0
      · rw [if_pos hyx] at H
        have HR := Aside0.mk H
        clear H
        have hyx1 : decide (wrap64 (y.f0 - m) < 0) = true := decide_eq_true hyx
        clear hyx
        go_wp2
        go_roundg k1
        case measure => omega
        case rel => exact ⟨(lo + hi) / 2 + 1, hi, by rw [show ((lo : Int) + (hi : Int)) / 2 = (((lo + hi) / 2 : Nat) : Int) by omega, HW1.out _ (by omega)], rfl, by omega, hin, by have := MB.out; omega, HR, ⟨below_alloc HB.out _⟩⟩
      · rw [if_neg hyx] at H
        have HR := Aside0.mk H
        clear H
        have hyx1 : decide (wrap64 (y.f0 - m) < 0) = false := decide_eq_false hyx
        clear hyx
        go_wp2
        go_roundg k1
        case measure => omega
        case rel => exact ⟨lo, (lo + hi) / 2, rfl, by rw [hmid], by omega, by omega, by have := MB.out; omega, HR, ⟨below_alloc HB.out _⟩⟩
    · have hRl : R = lo := by
        rw [← HR.out]
        cases gk with
        | zero => rfl
        | succ k => rw [bsi, if_neg hlt]
      subst hRl
      obtain rfl : hi = R := by omega
      by_cases hn : hi < l0.length
      · obtain ⟨ad, e1, hx0, hx1⟩ := at_T39 HR0.out (hi : Int) (by omega) (by omega)
        subst e1
        replace hx0 := (HB.out.cell (World.block_lt_of_cell? w _ hx0)).trans hx0
        replace hx1 := (HB.out.cell (World.block_lt_of_cell? w _ hx1)).trans hx1
        rw [Int.toNat_natCast] at hx0 hx1
        have FIN1 := FIN.out
        clear hg
        generalize rd_T39 l0 (hi : Int) = y at FIN1 hx0 hx1
        rw [decide_eq_true hn, Bool.true_and] at FIN1
        have F2 := Aside0.mk FIN1
        clear FIN1
        by_cases hyx : wrap64 (y.f0 - m) = 0
        · have F3 : fin = true := by rw [← F2.out, decide_eq_true hyx]
          have hyx1 : (wrap64 (y.f0 - m) == 0) = true := by simpa using hyx
          clear hyx
          go_wp2
          go_ret2
          exact ⟨by rw [F3]; rfl, below_alloc HB.out _⟩
        · have F3 : fin = false := by rw [← F2.out, decide_eq_false hyx]
          have hyx1 : (wrap64 (y.f0 - m) == 0) = false := by simpa using hyx
          clear hyx
          go_wp2
          go_ret2
          exact ⟨by rw [F3]; rfl, below_alloc HB.out _⟩
      · have F3 : fin = false := by rw [← FIN.out, decide_eq_false hn, Bool.false_and]
        clear hg
        go_wp2
        go_ret2
        exact ⟨by rw [F3]; rfl, HB.out⟩

theorem guarantee_find.calls (A0 : Option Addr) (c0 : Nat) (l0 : List S39) (a1 : Int) (r1 : Int) (r2 : Bool) (w : World) (hr0 : Kd.C k39 w A0 l0.length l0) (hc0 : l0.length ≤ c0) (h : guarantee_find.f l0 a1 = some (r1, r2)) :
    Calls Try.prog 37 #[.slice A0 l0.length c0, .int .i64 a1] w fun e w' => e = .returned (.tuple #[.int .i64 r1, .bool r2]) ∧ Below w.heap.size w w' := by
  unfold guarantee_find.f at h
  by_cases hlim : l0.length < 4611686018427387904
  case neg => rw [if_neg hlim] at h; cases h
  rw [if_pos hlim] at h
  obtain ⟨rfl, rfl⟩ := Prod.mk.inj (Option.some.inj h)
  clear h
  have H := Aside0.mk (find_bs A0 c0 l0 a1 w hr0 hc0 hlim _ rfl)
  clear hr0 hc0 hlim
  generalize bsi l0 a1 l0.length 0 l0.length = R at H ⊢
  generalize (decide (R < l0.length) && decide (wrap64 ((rd_T39 l0 (R : Int)).f0 - a1) = 0)) = fin at H ⊢
  go_enter Try.func37, Try.ntmps37
  go_wp2_with ((with_reducible refine gate_callee (f := 47) rfl ?_); refine goesL_ (some 8) rfl rfl Try.func47 (by kernel_rfl) rfl #[.slice A0 l0.length c0, .int .i64 a1, .func (.func 48) #[] #[]] rfl (by (try simp only [List.map_toArray, List.map_cons, List.map_nil]); first | done | rfl) ?_; refine H.out.mono ?_; rintro e w1 ⟨rfl, hb⟩; refine ⟨_, rfl, ?_⟩; have HB := Aside0.mk hb; clear hb)
  go_ret2
  exact ⟨rfl, HB.out⟩
end Go.Proofs.Ytakhjhiofmgpnaa.G
