/- The contract by hand of customsmade.Cut: it hands back what came in, or its head. -/
import Derived.Test.YtakhjhiofmgpnaaProg
import Derived.Test.YtakhjhiofmgpnaaVMore
import Derived.WalkSpells
import Derived.WalkLawsBesides
namespace Go.Proofs.Ytakhjhiofmgpnaa.G
open Go.RowKit Go.Proofs.YtakhjhiofmgpnaaW.PrintWords Go.Proofs.YtakhjhiofmgpnaaW.PrintLast Go.Proofs.YtakhjhiofmgpnaaW.PrintMore
set_option linter.unusedVariables false
set_option linter.unusedSimpArgs false

theorem C_head {α : Type} {d : Kd α} {w : World} {A : Option Addr} {xs : List α} (h : d.C w A xs.length xs) (m : Nat) (hm : m ≤ xs.length) : d.C w A (xs.take m).length (xs.take m) := by
  obtain ⟨h1, h2, h3⟩ := h
  have hl : (xs.take m).length = m := by rw [List.length_take]; omega
  refine ⟨rfl, by omega, fun hn => ?_⟩
  obtain ⟨ad, e, hc⟩ := h3 (by omega)
  refine ⟨ad, e, fun j p hj => ?_⟩
  have hj2 : xs[j]? = some p := by
    have : j < m := by
      have := (List.getElem?_eq_some_iff.1 hj).1
      omega
    rw [List.getElem?_take] at hj
    simpa [this] using hj
  exact hc j p hj2

def customsmade_Cut.f (l : List Int) (n : Int) : Option (List Int) := if (l.length : Int) > n then (if 0 ≤ n then some (l.take n.toNat) else none) else some l
theorem info3 : (Try.prog.info? 3).map (fun i => (i.zero, i.size, i.bytes)) = some (some (.int .i64 0), 1, 8) := by kernel_rfl

set_option maxHeartbeats 400000 in
theorem customsmade_Cut.calls (A : Option Addr) (c : Nat) (l : List Int) (n : Int) (r : List Int) (w w0 : World) (hr : Kd.C (Kd.int .i64) w0 A l.length l) (hc : l.length ≤ c) (h : customsmade_Cut.f l n = some r) :
    Calls Try.prog 30 #[.slice A l.length c, .int .i64 n] w fun e w' => ∃ A' c', e = .returned (.slice A' r.length c') ∧ Kd.C (Kd.int .i64) w0 A' r.length r ∧ r.length ≤ c' ∧ ∃ nd, w' = w.drewN nd := by
  unfold customsmade_Cut.f at h
  have HR := Aside0.mk hr
  clear hr
  have hmax : l.length ≤ 9223372036854775807 := HR.out.2.1
  by_cases c1 : (l.length : Int) > n
  · rw [if_pos c1] at h
    by_cases c2 : 0 ≤ n
    · rw [if_pos c2] at h
      obtain rfl := Option.some.inj h
      clear h
      obtain ⟨i0, hi, hzz⟩ := Option.map_eq_some_iff.1 info3
      simp only [Prod.mk.injEq] at hzz
      obtain ⟨q1, q2, q3⟩ := print_take_int (P := Try.prog) (k := .i64) 22 3 Try.underlying22 hi hzz.2.1 A c l n c2 (by omega) hc
      clear hi hzz i0
      have Q3 := Aside0.mk q3
      clear q2 q3
      go_enter Try.func30, Try.ntmps30
      go_wp2
      go_ret
      exact ⟨A, c, by rw [List.length_take]; rfl, C_head HR.out _ (by omega), Q3.out, 0, rfl⟩
    · rw [if_neg c2] at h
      exact absurd h (by simp)
  · rw [if_neg c1] at h
    obtain rfl := Option.some.inj h
    clear h
    have c2 : ¬ n < (l.length : Int) := by omega
    have HC := Aside0.mk hc
    clear hc
    go_enter Try.func30, Try.ntmps30
    go_wp2
    go_ret
    exact ⟨A, c, rfl, HR.out, HC.out, 0, rfl⟩

end Go.Proofs.Ytakhjhiofmgpnaa.G
