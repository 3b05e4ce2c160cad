/- Part 5 of the proof of ledgerFold_holds: texts of this claim, printed and by hand, cut to what it needs (wip/tools/link.py). Lean checks every line. -/
import Derived.Test.YtgedkdofhonicaaKF4
-- Written by a program of this claim (wip/tools: mkprint.py, pr.sh) out of the translation: plain functions and their contracts. Lean checks every line.
namespace Go.Proofs.Ytgedkdofhonicaa.PM
open Go.RowKit Go.Proofs.YtgedkdofhonicaaW.PrintWords Go.Proofs.YtgedkdofhonicaaW.PrintLast Go.Proofs.YtgedkdofhonicaaW.PrintMore Go.Proofs.Ytgedkdofhonicaa.G Go.Proofs.Ytgedkdofhonicaa.PA
attribute [local go_sem] max2_int min2_int max_two min_two max_three min_three max_four min_four   -- for this text's walks alone
set_option linter.unusedVariables false
set_option linter.unusedSimpArgs false
mutual
def customsref27_may.j0 : Nat → List (S26) → Bool → Int → Int → Int → Int → Int → Int → Option (Int)
 | 0, _, _, _, _, _, _, _, _ => none
 | k + 1, x0, x58, x102000, x102001, x102002, x102003, x102004, x102005 => if x58 = true then (some 2) else (if x102000 = (wrap64 ((x0.length : Int) + 1)) then (if x102002 = 9 then (if x102004 > (x0.length : Int) then (some 6) else (if 0 ≤ (wrap64 (x102004 - 1)) then (if (wrap64 (x102004 - 1)) < (x0.length : Int) then (if ((rd_T26 x0 (wrap64 (x102004 - 1))).f2) = 9 then (some 17) else (customsref27_may.l0 k x0 0 x102000 x102001 x102002 x102003 x102004 x102005 ((rd_T26 x0 (wrap64 (x102004 - 1))).f0) ((rd_T26 x0 (wrap64 (x102004 - 1))).f1) ((rd_T26 x0 (wrap64 (x102004 - 1))).f2) ((rd_T26 x0 (wrap64 (x102004 - 1))).f3) ((rd_T26 x0 (wrap64 (x102004 - 1))).f4) ((rd_T26 x0 (wrap64 (x102004 - 1))).f5))) else (none)) else (none))) else ((some (([] : List (S26)) : List (S26))).bind fun y124 => (if y124.length + x0.length < 2932031007402 then ((some (y124 ++ x0 : List (S26))).bind fun y127 => ((some (([(⟨x102000, x102001, x102002, x102003, x102004, x102005⟩ : S26)] : List (S26)) : List (S26))).bind fun y130 => (if y127.length + y130.length < 2932031007402 then ((customsref27_balance.f k (y127 ++ y130) x102003).bind fun bt136 => (if bt136.2.1 < 0 then (some 16) else (if bt136.2.2.1 < 0 then (some 16) else (if bt136.2.2.2.1 < 0 then (some 16) else (if bt136.2.2.2.2 < 0 then (some 16) else (some 0)))))) else (none)))) else (none)))) else (some 9))
def customsref27_may.l0 : Nat → List (S26) → Int → Int → Int → Int → Int → Int → Int → Int → Int → Int → Int → Int → Int → Option (Int)
 | 0, _, _, _, _, _, _, _, _, _, _, _, _, _, _ => none
 | k + 1, x0, x6, x102000, x102001, x102002, x102003, x102004, x102005, x104000, x104001, x104002, x104003, x104004, x104005 => if x6 < (x0.length : Int) then (if 0 ≤ x6 then (if ((rd_T26 x0 x6).f2) = 9 then (if ((rd_T26 x0 x6).f4) = x102004 then (some 17) else (customsref27_may.l0 k x0 (wrap64 (x6 + 1)) x102000 x102001 x102002 x102003 x102004 x102005 x104000 x104001 x104002 x104003 x104004 x104005)) else (customsref27_may.l0 k x0 (wrap64 (x6 + 1)) x102000 x102001 x102002 x102003 x102004 x102005 x104000 x104001 x104002 x104003 x104004 x104005)) else (none)) else (if x104003 = x102003 then ((some (([] : List (S26)) : List (S26))).bind fun y106 => (if y106.length + x0.length < 2932031007402 then ((some (y106 ++ x0 : List (S26))).bind fun y109 => ((some (([(⟨x102000, x102001, x102002, x102003, x102004, x102005⟩ : S26)] : List (S26)) : List (S26))).bind fun y112 => (if y109.length + y112.length < 2932031007402 then ((customsref27_balance.f k (y109 ++ y112) x102003).bind fun bt118 => (if bt118.2.1 < 0 then (some 16) else (if bt118.2.2.1 < 0 then (some 16) else (if bt118.2.2.2.1 < 0 then (some 16) else (if bt118.2.2.2.2 < 0 then (some 16) else (some 0)))))) else (none)))) else (none))) else (some 14))
end
def customsref27_may.f (k : Nat) (l0 : List (S26)) (a1_0 : Int) (a1_1 : Int) (a1_2 : Int) (a1_3 : Int) (a1_4 : Int) (a1_5 : Int) : Option (Int) := if (l0.length : Int) ≥ 2000 then (some 8) else (if a1_1 < 0 then (customsref27_may.j0 k l0 true a1_0 a1_1 a1_2 a1_3 a1_4 a1_5) else (if a1_1 > 36524 then (customsref27_may.j0 k l0 true a1_0 a1_1 a1_2 a1_3 a1_4 a1_5) else (if a1_2 < 1 then (customsref27_may.j0 k l0 true a1_0 a1_1 a1_2 a1_3 a1_4 a1_5) else (if a1_2 > 9 then (customsref27_may.j0 k l0 true a1_0 a1_1 a1_2 a1_3 a1_4 a1_5) else (if a1_3 < 1 then (customsref27_may.j0 k l0 true a1_0 a1_1 a1_2 a1_3 a1_4 a1_5) else (if a1_3 > 1000000 then (customsref27_may.j0 k l0 true a1_0 a1_1 a1_2 a1_3 a1_4 a1_5) else (if a1_4 < 1 then (customsref27_may.j0 k l0 true a1_0 a1_1 a1_2 a1_3 a1_4 a1_5) else (if a1_4 > 64000000000000 then (customsref27_may.j0 k l0 true a1_0 a1_1 a1_2 a1_3 a1_4 a1_5) else (if a1_5 < 0 then (customsref27_may.j0 k l0 true a1_0 a1_1 a1_2 a1_3 a1_4 a1_5) else (customsref27_may.j0 k l0 (decide (a1_5 > 1000000000)) a1_0 a1_1 a1_2 a1_3 a1_4 a1_5))))))))))
def customsref27_may.T16 : Bool × List (List Nat × List Nat) := (true, [([], []), ([], []), ([0, 1], [0, 1]), ([2], [2]), ([3], [3]), ([4], [4]), ([5], [5]), ([6], [6]), ([6], [6]), ([7, 8, 6], [6, 7, 8]), ([9, 6], [6, 9]), ([10, 6], [6, 10]), ([6], [6]), ([12, 6], [6, 12]), ([11, 13, 6], [6, 11, 13]), ([6, 14], [6, 14])])
def customsref27_may.B16 : List Nat := [0, 0, 3, 7, 15, 31, 63, 127, 127, 511, 1023, 2047, 127, 4223, 16383, 32767]
theorem customsref27_may.tab16 : rtab .any (opsOf Try.f40 16) = customsref27_may.T16 := by kernel_rfl
theorem customsref27_may.bits16 : waitsOk customsref27_may.T16.2 customsref27_may.B16 = true := by kernel_rfl
def customsref27_may.T20 : Bool × List (List Nat × List Nat) := (true, [([], []), ([], []), ([0, 1], [0, 1]), ([], []), ([3], [3]), ([2, 4, 2], [2, 4]), ([], []), ([6], [6]), ([5, 7, 5], [5, 7]), ([], []), ([9, 8, 8, 0, 1, 2, 3, 4, 5, 6, 7, 8, 9], [8, 9])])
def customsref27_may.B20 : List Nat := [0, 0, 3, 0, 8, 31, 0, 64, 255, 0, 1023]
theorem customsref27_may.tab20 : rtab .any (opsOf Try.f40 20) = customsref27_may.T20 := by kernel_rfl
theorem customsref27_may.bits20 : waitsOk customsref27_may.T20.2 customsref27_may.B20 = true := by kernel_rfl
set_option maxHeartbeats 8000000 in
set_option maxRecDepth 100000 in
theorem customsref27_may.tail (kj4 : Nat) (A0 : Option Addr) (c0 : Nat) (l0 : List (S26)) (a1_0 a1_1 a1_2 a1_3 a1_4 a1_5 r : Int) (w : World) (HR0 : Aside0 (Kd.C k26 w A0 l0.length l0)) (HC0 : Aside0 (l0.length ≤ c0)) (gb101 : Nat) (GE101 : Aside0 (w.heap.size ≤ gb101)) (wc : World) (BK101 : Aside0 (wc.heap[gb101]? = some (.cells #[.int .i64 a1_0, .int .i64 a1_1, .int .i64 a1_2, .int .i64 a1_3, .int .i64 a1_4, .int .i64 a1_5] 26 (0, 0)))) (HB : Aside0 (Below w.heap.size w wc)) (H : ((some (([] : List (S26)) : List (S26))).bind fun y124 => (if y124.length + l0.length < 2932031007402 then ((some (y124 ++ l0 : List (S26))).bind fun y127 => ((some (([(⟨a1_0, a1_1, a1_2, a1_3, a1_4, a1_5⟩ : S26)] : List (S26)) : List (S26))).bind fun y130 => (if y127.length + y130.length < 2932031007402 then ((customsref27_balance.f kj4 (y127 ++ y130) a1_3).bind fun bt136 => (if bt136.2.1 < 0 then (some 16) else (if bt136.2.2.1 < 0 then (some 16) else (if bt136.2.2.2.1 < 0 then (some 16) else (if bt136.2.2.2.2 < 0 then (some 16) else (some 0)))))) else (none)))) else (none))) = some r) (K : Act → World → Prop)
  (hK : ∀ (a : Act) (w2 : World), Code.wp Try.prog (((Code.region 21 #[{ dst := some 118, op := Op.fieldAddr 37 (Operand.tmp 7) 1, type := 0, pos := "ledger.go:74", after := #[], guard := none }, { dst := some 119, op := Op.load 3 (Operand.tmp 118), type := 3, pos := "ledger.go:74", after := #[{ on := 0, ground := Ground.data }], guard := none }, { dst := some 120, op := Op.binOp BinOp.lss 3 (Operand.tmp 119) (Operand.const (Value.int IntKind.i64 0)) 3, type := 4, pos := "ledger.go:74", after := #[{ on := 1, ground := Ground.data }], guard := none }, { dst := some 121, op := Op.move (Operand.tmp 120), type := 4, pos := "ledger.go:74", after := #[{ on := 2, ground := Ground.data }], guard := none }, { dst := some 122, op := Op.fieldAddr 37 (Operand.tmp 7) 2, type := 0, pos := "ledger.go:74", after := #[{ on := 3, ground := Ground.guard }], guard := some (3, false) }, { dst := some 123, op := Op.load 3 (Operand.tmp 122), type := 3, pos := "ledger.go:74", after := #[{ on := 4, ground := Ground.data }, { on := 3, ground := Ground.guard }], guard := some (3, false) }, { dst := some 124, op := Op.binOp BinOp.lss 3 (Operand.tmp 123) (Operand.const (Value.int IntKind.i64 0)) 3, type := 4, pos := "ledger.go:74", after := #[{ on := 5, ground := Ground.data }, { on := 3, ground := Ground.guard }], guard := some (3, false) }, { dst := some 125, op := Op.pick (Operand.tmp 121) (Operand.const (Value.bool true)) (Operand.tmp 124), type := 4, pos := "ledger.go:74", after := #[{ on := 3, ground := Ground.data }, { on := 6, ground := Ground.data }], guard := none }, { dst := some 126, op := Op.move (Operand.tmp 125), type := 4, pos := "ledger.go:74", after := #[{ on := 7, ground := Ground.data }, { on := 3, ground := Ground.chain }], guard := none }, { dst := some 127, op := Op.fieldAddr 37 (Operand.tmp 7) 3, type := 0, pos := "ledger.go:74", after := #[{ on := 8, ground := Ground.guard }], guard := some (8, false) }, { dst := some 128, op := Op.load 3 (Operand.tmp 127), type := 3, pos := "ledger.go:74", after := #[{ on := 9, ground := Ground.data }, { on := 8, ground := Ground.guard }], guard := some (8, false) }, { dst := some 129, op := Op.binOp BinOp.lss 3 (Operand.tmp 128) (Operand.const (Value.int IntKind.i64 0)) 3, type := 4, pos := "ledger.go:74", after := #[{ on := 10, ground := Ground.data }, { on := 8, ground := Ground.guard }], guard := some (8, false) }, { dst := some 130, op := Op.pick (Operand.tmp 126) (Operand.const (Value.bool true)) (Operand.tmp 129), type := 4, pos := "ledger.go:74", after := #[{ on := 8, ground := Ground.data }, { on := 11, ground := Ground.data }], guard := none }, { dst := some 131, op := Op.move (Operand.tmp 130), type := 4, pos := "ledger.go:74", after := #[{ on := 12, ground := Ground.data }, { on := 8, ground := Ground.chain }], guard := none }, { dst := some 132, op := Op.fieldAddr 37 (Operand.tmp 7) 4, type := 0, pos := "ledger.go:74", after := #[{ on := 13, ground := Ground.guard }], guard := some (13, false) }, { dst := some 133, op := Op.load 3 (Operand.tmp 132), type := 3, pos := "ledger.go:74", after := #[{ on := 14, ground := Ground.data }, { on := 13, ground := Ground.guard }], guard := some (13, false) }, { dst := some 134, op := Op.binOp BinOp.lss 3 (Operand.tmp 133) (Operand.const (Value.int IntKind.i64 0)) 3, type := 4, pos := "ledger.go:74", after := #[{ on := 15, ground := Ground.data }, { on := 13, ground := Ground.guard }], guard := some (13, false) }, { dst := some 135, op := Op.pick (Operand.tmp 131) (Operand.const (Value.bool true)) (Operand.tmp 134), type := 4, pos := "ledger.go:74", after := #[{ on := 13, ground := Ground.data }, { on := 16, ground := Ground.data }], guard := none }] false).seq (Code.cond (Operand.tmp 135) ((Code.region 22 #[{ dst := some 4, op := Op.assign (Operand.const (Value.int IntKind.i64 16)), type := 31, pos := "ledger.go:75", after := #[], guard := none }] false).seq Code.ret) Code.skip)).seq ((Code.region 23 #[{ dst := some 4, op := Op.assign (Operand.const (Value.int IntKind.i64 0)), type := 31, pos := "ledger.go:77", after := #[], guard := none }] false).seq Code.ret)) (bodyPost Try.prog Try.f40 fun e w' => e = .returned (.int .i64 r) ∧ Below w.heap.size w w') a w2 → K a w2) {u4 u5 u6 u7 u8 u9 u10 u11 u12 u13 u14 u15 u16 u17 u18 u19 u20 u21 u22 u23 u24 u25 u26 u27 u28 u29 u30 u31 u32 u33 u34 u35 u36 u37 u38 u39 u40 u41 u42 u43 u44 u45 u46 u47 u48 u49 u50 u51 u52 u53 u54 u55 u56 u57 u58 u59 u60 u61 u62 u63 u64 u65 u66 u67 u68 u69 u70 u71 u72 u73 u74 u75 u76 u77 u78 u79 u80 u81 u82 u83 u84 u85 u86 u87 u88 u89 u90 u91 u92 u93 u94 u95 u96 u97 u98 u99 u100 u101 u102 u103 u104 u105 u106 u107 u108 u109 u110 u111 u112 u113 u114 u115 u116 u117 u118 u119 u120 u121 u122 u123 u124 u125 u126 u127 u128 u129 u130 u131 u132 u133 u134 u135 : Value} :
  Code.wp Try.prog (Code.region 20 #[{ dst := some 109, op := Op.buildSlice 23 0 #[], type := 23, pos := "ledger.go:73", after := #[], guard := none }, { dst := some 110, op := Op.move (Operand.tmp 0), type := 23, pos := "ledger.go:73", after := #[], guard := none }, { dst := some 111, op := Op.call { callee := Callee.builtin Builtin.append, args := #[Operand.tmp 109, Operand.tmp 110], argTypes := #[23, 23] }, type := 23, pos := "ledger.go:73", after := #[{ on := 0, ground := Ground.data }, { on := 1, ground := Ground.data }], guard := none }, { dst := some 112, op := Op.load 26 (Operand.tmp 3), type := 26, pos := "ledger.go:73", after := #[], guard := none }, { dst := some 113, op := Op.buildSlice 23 1 #[(0, Operand.tmp 112)], type := 23, pos := "ledger.go:73", after := #[{ on := 3, ground := Ground.data }], guard := none }, { dst := some 114, op := Op.call { callee := Callee.builtin Builtin.append, args := #[Operand.tmp 111, Operand.tmp 113], argTypes := #[23, 23] }, type := 23, pos := "ledger.go:73", after := #[{ on := 2, ground := Ground.data }, { on := 4, ground := Ground.data }, { on := 2, ground := Ground.chain }], guard := none }, { dst := some 115, op := Op.fieldAddr 26 (Operand.tmp 3) 3, type := 0, pos := "ledger.go:73", after := #[], guard := none }, { dst := some 116, op := Op.load 3 (Operand.tmp 115), type := 3, pos := "ledger.go:73", after := #[{ on := 6, ground := Ground.data }], guard := none }, { dst := some 117, op := Op.call { callee := Callee.value (Operand.func 39), args := #[Operand.tmp 114, Operand.tmp 116], argTypes := #[23, 3] }, type := 37, pos := "ledger.go:73", after := #[{ on := 5, ground := Ground.data }, { on := 7, ground := Ground.data }, { on := 5, ground := Ground.chain }], guard := none }, { dst := some 7, op := Op.alloc 37, type := 0, pos := "ledger.go:73", after := #[], guard := none }, { dst := none, op := Op.store 37 (Operand.tmp 7) (Operand.tmp 117), type := 0, pos := "ledger.go:73", after := #[{ on := 9, ground := Ground.data }, { on := 8, ground := Ground.data }, { on := 8, ground := Ground.chain }, { on := 0, ground := Ground.phase }, { on := 1, ground := Ground.phase }, { on := 2, ground := Ground.phase }, { on := 3, ground := Ground.phase }, { on := 4, ground := Ground.phase }, { on := 5, ground := Ground.phase }, { on := 6, ground := Ground.phase }, { on := 7, ground := Ground.phase }, { on := 8, ground := Ground.phase }, { on := 9, ground := Ground.phase }], guard := none }] true) (Exit.then K (bodyPost Try.prog Try.f40 fun e w' => e = .returned (.int .i64 r) ∧ Below w.heap.size w w')) { tmps := #[.slice A0 l0.length c0, .agg #[.int .i64 a1_0, .int .i64 a1_1, .int .i64 a1_2, .int .i64 a1_3, .int .i64 a1_4, .int .i64 a1_5], undef, .pointer (some ⟨gb101, 0, none⟩), u4, u5, u6, u7, u8, u9, u10, u11, u12, u13, u14, u15, u16, u17, u18, u19, u20, u21, u22, u23, u24, u25, u26, u27, u28, u29, u30, u31, u32, u33, u34, u35, u36, u37, u38, u39, u40, u41, u42, u43, u44, u45, u46, u47, u48, u49, u50, u51, u52, u53, u54, u55, u56, u57, u58, u59, u60, u61, u62, u63, u64, u65, u66, u67, u68, u69, u70, u71, u72, u73, u74, u75, u76, u77, u78, u79, u80, u81, u82, u83, u84, u85, u86, u87, u88, u89, u90, u91, u92, u93, u94, u95, u96, u97, u98, u99, u100, u101, u102, u103, u104, u105, u106, u107, u108, u109, u110, u111, u112, u113, u114, u115, u116, u117, u118, u119, u120, u121, u122, u123, u124, u125, u126, u127, u128, u129, u130, u131, u132, u133, u134, u135], defers := [] } wc := by
 have hu26 := Try.underlying26; have hu37 := Try.underlying37; obtain ⟨y124, hy124⟩ : ∃ y_ : List (S26), y_ = (([] : List (S26))) := ⟨_, rfl⟩
 replace H : (if y124.length + l0.length < 2932031007402 then ((some (y124 ++ l0 : List (S26))).bind fun y127 => ((some (([(⟨a1_0, a1_1, a1_2, a1_3, a1_4, a1_5⟩ : S26)] : List (S26)) : List (S26))).bind fun y130 => (if y127.length + y130.length < 2932031007402 then ((customsref27_balance.f kj4 (y127 ++ y130) a1_3).bind fun bt136 => (if bt136.2.1 < 0 then (some 16) else (if bt136.2.2.1 < 0 then (some 16) else (if bt136.2.2.2.1 < 0 then (some 16) else (if bt136.2.2.2.2 < 0 then (some 16) else (some 0)))))) else (none)))) else (none)) = some r := by first | (rw [hy124]; with_reducible exact H) | (have H2_ := (Option.bind_some _ _).symm.trans H; rw [hy124]; with_reducible exact H2_) | (have H2_ := (Option.bind_some _ _).symm.trans H; with_reducible exact H2_) | with_reducible exact H | (rw [hy124]; exact H) | exact H
 have Ny124 := Aside0.mk hy124; clear hy124
 by_cases c176 : y124.length + l0.length < 2932031007402
 ·rw [if_pos c176] at H
  have LMc176 := Aside0.mk c176; clear c176; obtain ⟨y127, hy127⟩ : ∃ y_ : List (S26), y_ = (y124 ++ l0) := ⟨_, rfl⟩
  replace H : ((some (([(⟨a1_0, a1_1, a1_2, a1_3, a1_4, a1_5⟩ : S26)] : List (S26)) : List (S26))).bind fun y130 => (if y127.length + y130.length < 2932031007402 then ((customsref27_balance.f kj4 (y127 ++ y130) a1_3).bind fun bt136 => (if bt136.2.1 < 0 then (some 16) else (if bt136.2.2.1 < 0 then (some 16) else (if bt136.2.2.2.1 < 0 then (some 16) else (if bt136.2.2.2.2 < 0 then (some 16) else (some 0)))))) else (none))) = some r := by first | (rw [hy127]; with_reducible exact H) | (have H2_ := (Option.bind_some _ _).symm.trans H; rw [hy127]; with_reducible exact H2_) | (have H2_ := (Option.bind_some _ _).symm.trans H; with_reducible exact H2_) | with_reducible exact H | (rw [hy127]; exact H) | exact H
  have Ny127 := Aside0.mk hy127; clear hy127; obtain ⟨y130, hy130⟩ : ∃ y_ : List (S26), y_ = (([(⟨a1_0, a1_1, a1_2, a1_3, a1_4, a1_5⟩ : S26)] : List (S26))) := ⟨_, rfl⟩
  replace H : (if y127.length + y130.length < 2932031007402 then ((customsref27_balance.f kj4 (y127 ++ y130) a1_3).bind fun bt136 => (if bt136.2.1 < 0 then (some 16) else (if bt136.2.2.1 < 0 then (some 16) else (if bt136.2.2.2.1 < 0 then (some 16) else (if bt136.2.2.2.2 < 0 then (some 16) else (some 0)))))) else (none)) = some r := by first | (rw [hy130]; with_reducible exact H) | (have H2_ := (Option.bind_some _ _).symm.trans H; rw [hy130]; with_reducible exact H2_) | (have H2_ := (Option.bind_some _ _).symm.trans H; with_reducible exact H2_) | with_reducible exact H | (rw [hy130]; exact H) | exact H
  have Ny130 := Aside0.mk hy130; clear hy130
  by_cases c177 : y127.length + y130.length < 2932031007402
  ·rw [if_pos c177] at H
   have LMc177 := Aside0.mk c177; clear c177; obtain ⟨y133, hy133⟩ : ∃ y_ : List (S26), y_ = (y127 ++ y130) := ⟨_, rfl⟩
   replace H : ((customsref27_balance.f kj4 y133 a1_3).bind fun bt136 => (if bt136.2.1 < 0 then (some 16) else (if bt136.2.2.1 < 0 then (some 16) else (if bt136.2.2.2.1 < 0 then (some 16) else (if bt136.2.2.2.2 < 0 then (some 16) else (some 0)))))) = some r := by first | (rw [hy133]; with_reducible exact H) | (have H2_ := (Option.bind_some _ _).symm.trans H; rw [hy133]; with_reducible exact H2_) | (have H2_ := (Option.bind_some _ _).symm.trans H; with_reducible exact H2_) | with_reducible exact H | (rw [hy133]; exact H) | exact H
   have Ny133 := Aside0.mk hy133; clear hy133; replace H := Option.bind_eq_some_iff.mp H; obtain ⟨⟨t136, t137, t138, t139, t140⟩, A1780, H⟩ := H; replace H : (if t137 < 0 then (some 16) else (if t138 < 0 then (some 16) else (if t139 < 0 then (some 16) else (if t140 < 0 then (some 16) else (some 0))))) = some r := H; have A178 := Aside0.mk A1780; clear A1780; have NH_ := Aside0.mk H; clear H; have n0_ := Aside0.mk (blk_drew BK101.out); have n1_ := Aside0.mk (below_drew1 HB.out); clear BK101; clear HB; have BK101 := n0_; have HB := n1_; clear n0_ n1_
   refine start_ (n := 11) (S := fun w' => w'.cell? ⟨gb101, 0, none⟩ = some (.int .i64 a1_0) ∧ w'.cell? ⟨gb101, 1, none⟩ = some (.int .i64 a1_1) ∧ w'.cell? ⟨gb101, 2, none⟩ = some (.int .i64 a1_2) ∧ w'.cell? ⟨gb101, 3, none⟩ = some (.int .i64 a1_3) ∧ w'.cell? ⟨gb101, 4, none⟩ = some (.int .i64 a1_4) ∧ w'.cell? ⟨gb101, 5, none⟩ = some (.int .i64 a1_5)) (ds := []) #[false, false, false, false, false, false, false, false, false, false, false] (by kernel_rfl) rfl rfl ⟨(blk_cell BK101.out 0).trans rfl, (blk_cell BK101.out 1).trans rfl, (blk_cell BK101.out 2).trans rfl, (blk_cell BK101.out 3).trans rfl, (blk_cell BK101.out 4).trans rfl, (blk_cell BK101.out 5).trans rfl⟩ (fun hHeld => ?_); refine with_tabW customsref27_may.tab20 customsref27_may.bits20 (fun HT_ HW_ => ?_)
   generalize wc.drew = w181 at BK101 HB hHeld ⊢
   refine pure_ (i := 1) (N := some 110) (v := ?_) (a' := ?_) #[false, true, false, false, false, false, false, false, false, false, false] rfl rfl (any_of HT_.out (by kernel_rfl)) (fun _ _ _ h => h) (Or.inl ⟨by rfl, ?_⟩) ?_ ?_
   rotate_left
   ·intro w'
    go_simp
    with_reducible rfl
   rotate_left
   ·simp only [Act.put, List.setIfInBounds_toArray, List.set_cons_zero, List.set_cons_succ, i64_w, i32_w]
    rfl
   refine pure_ (i := 6) (N := some 115) (v := ?_) (a' := ?_) #[false, true, false, false, false, false, true, false, false, false, false] rfl rfl (any_of HT_.out (by kernel_rfl)) (fun _ _ _ h => h) (Or.inl ⟨by rfl, ?_⟩) ?_ ?_
   rotate_left
   ·intro w'
    go_simp
    with_reducible rfl
   rotate_left
   ·simp only [Act.put, List.setIfInBounds_toArray, List.set_cons_zero, List.set_cons_succ, i64_w, i32_w]
    rfl
   refine take_ (i := 3) (N := some 112) (v := ?_) (a' := ?_) #[false, true, false, true, false, false, true, false, false, false, false] rfl rfl (take_ofW HT_.out HW_.out (by kernel_rfl)) (fun _ _ _ h => h) (Or.inl ⟨by rfl, ?_⟩) hHeld ?_ ?_
   rotate_left
   ·rintro w' ⟨s0, s1, s2, s3, s4, s5⟩
    go_simp
    with_reducible rfl
   rotate_left
   ·simp only [Act.put, List.setIfInBounds_toArray, List.set_cons_zero, List.set_cons_succ, i64_w, i32_w]
    rfl
   refine take_ (i := 7) (N := some 116) (v := ?_) (a' := ?_) #[false, true, false, true, false, false, true, true, false, false, false] rfl rfl (take_ofW HT_.out HW_.out (by kernel_rfl)) (fun _ _ _ h => h) (Or.inl ⟨by rfl, ?_⟩) hHeld ?_ ?_
   rotate_left
   ·rintro w' ⟨s0, s1, s2, s3, s4, s5⟩
    go_simp
    with_reducible rfl
   rotate_left
   ·simp only [Act.put, List.setIfInBounds_toArray, List.set_cons_zero, List.set_cons_succ, i64_w, i32_w]
    rfl
   refine join_ (σ := Value × Value × Value × Value × Nat) 1 #[true, true, true, true, true, true, true, true, true, true, false] (fun s_ => [(109, s_.1), (111, s_.2.1), (113, s_.2.2.1), (114, s_.2.2.2.1), (117, .agg #[.int .i64 t136, .int .i64 t137, .int .i64 t138, .int .i64 t139, .int .i64 t140]), (7, .pointer (some ⟨s_.2.2.2.2, 0, none⟩))]) (fun s_ w' => (w'.cell? ⟨gb101, 0, none⟩ = some (.int .i64 a1_0) ∧ w'.cell? ⟨gb101, 1, none⟩ = some (.int .i64 a1_1) ∧ w'.cell? ⟨gb101, 2, none⟩ = some (.int .i64 a1_2) ∧ w'.cell? ⟨gb101, 3, none⟩ = some (.int .i64 a1_3) ∧ w'.cell? ⟨gb101, 4, none⟩ = some (.int .i64 a1_4) ∧ w'.cell? ⟨gb101, 5, none⟩ = some (.int .i64 a1_5)) ∧ (Kd.R k26 26 w' w.heap.size (fun k_ => some k_ ≠ (s_.2.2.2.1 : Value).ownBlock ∧ k_ ≠ gb101) s_.2.2.1 y130) ∧ (Kd.R k26 26 w' w.heap.size (fun k_ => some k_ ≠ (s_.2.2.1 : Value).ownBlock ∧ k_ ≠ gb101) s_.2.2.2.1 y133) ∧ (w'.heap[gb101]? = some (.cells #[.int .i64 a1_0, .int .i64 a1_1, .int .i64 a1_2, .int .i64 a1_3, .int .i64 a1_4, .int .i64 a1_5] 26 (0, 0))) ∧ (w'.heap[s_.2.2.2.2]? = some (.cells #[.int .i64 0, .int .i64 0, .int .i64 0, .int .i64 0, .int .i64 0] 37 (0, 0))) ∧ (w.heap.size ≤ s_.2.2.2.2) ∧ (w.heap.size ≤ s_.2.2.2.2) ∧ (gb101 ≠ s_.2.2.2.2) ∧ (s_.2.2.2.2 ≠ gb101) ∧ (Below w.heap.size w w')) ?_ ?_
   rotate_left
   ·intro hJ0_2_4_5_8_9
    refine join_ (σ := Value × Value × Value × Value) 2 #[true, true, true, true, true, true, true, true, true, false, false] (fun s_ => [(109, s_.1), (111, s_.2.1), (113, s_.2.2.1), (114, s_.2.2.2), (117, .agg #[.int .i64 t136, .int .i64 t137, .int .i64 t138, .int .i64 t139, .int .i64 t140])]) (fun s_ w' => (w'.cell? ⟨gb101, 0, none⟩ = some (.int .i64 a1_0) ∧ w'.cell? ⟨gb101, 1, none⟩ = some (.int .i64 a1_1) ∧ w'.cell? ⟨gb101, 2, none⟩ = some (.int .i64 a1_2) ∧ w'.cell? ⟨gb101, 3, none⟩ = some (.int .i64 a1_3) ∧ w'.cell? ⟨gb101, 4, none⟩ = some (.int .i64 a1_4) ∧ w'.cell? ⟨gb101, 5, none⟩ = some (.int .i64 a1_5)) ∧ (Kd.R k26 26 w' w.heap.size (fun k_ => some k_ ≠ (s_.2.2.2 : Value).ownBlock ∧ k_ ≠ gb101) s_.2.2.1 y130) ∧ (Kd.R k26 26 w' w.heap.size (fun k_ => some k_ ≠ (s_.2.2.1 : Value).ownBlock ∧ k_ ≠ gb101) s_.2.2.2 y133) ∧ (w'.heap[gb101]? = some (.cells #[.int .i64 a1_0, .int .i64 a1_1, .int .i64 a1_2, .int .i64 a1_3, .int .i64 a1_4, .int .i64 a1_5] 26 (0, 0))) ∧ (Below w.heap.size w w')) ?_ ?_
    rotate_left
    ·intro hJ0_2_4_5_8
     refine join_ (σ := Value × Value × Value × Value × Nat) 2 #[true, true, true, true, true, true, true, true, false, true, false] (fun s_ => [(109, s_.1), (111, s_.2.1), (113, s_.2.2.1), (114, s_.2.2.2.1), (7, .pointer (some ⟨s_.2.2.2.2, 0, none⟩))]) (fun s_ w' => (w'.cell? ⟨gb101, 0, none⟩ = some (.int .i64 a1_0) ∧ w'.cell? ⟨gb101, 1, none⟩ = some (.int .i64 a1_1) ∧ w'.cell? ⟨gb101, 2, none⟩ = some (.int .i64 a1_2) ∧ w'.cell? ⟨gb101, 3, none⟩ = some (.int .i64 a1_3) ∧ w'.cell? ⟨gb101, 4, none⟩ = some (.int .i64 a1_4) ∧ w'.cell? ⟨gb101, 5, none⟩ = some (.int .i64 a1_5)) ∧ (Kd.R k26 26 w' w.heap.size (fun k_ => some k_ ≠ (s_.2.2.2.1 : Value).ownBlock ∧ k_ ≠ gb101) s_.2.2.1 y130) ∧ (Kd.R k26 26 w' w.heap.size (fun k_ => some k_ ≠ (s_.2.2.1 : Value).ownBlock ∧ k_ ≠ gb101) s_.2.2.2.1 y133) ∧ (w'.heap[gb101]? = some (.cells #[.int .i64 a1_0, .int .i64 a1_1, .int .i64 a1_2, .int .i64 a1_3, .int .i64 a1_4, .int .i64 a1_5] 26 (0, 0))) ∧ (w'.heap[s_.2.2.2.2]? = some (.cells #[.int .i64 0, .int .i64 0, .int .i64 0, .int .i64 0, .int .i64 0] 37 (0, 0))) ∧ (w.heap.size ≤ s_.2.2.2.2) ∧ (w.heap.size ≤ s_.2.2.2.2) ∧ (gb101 ≠ s_.2.2.2.2) ∧ (s_.2.2.2.2 ≠ gb101) ∧ (Below w.heap.size w w')) ?_ ?_
     rotate_left
     ·intro hJ0_2_4_5_9
      refine join_ (σ := Value × Value × Value × Value) 3 #[true, true, true, true, true, true, true, true, false, false, false] (fun s_ => [(109, s_.1), (111, s_.2.1), (113, s_.2.2.1), (114, s_.2.2.2)]) (fun s_ w' => (w'.cell? ⟨gb101, 0, none⟩ = some (.int .i64 a1_0) ∧ w'.cell? ⟨gb101, 1, none⟩ = some (.int .i64 a1_1) ∧ w'.cell? ⟨gb101, 2, none⟩ = some (.int .i64 a1_2) ∧ w'.cell? ⟨gb101, 3, none⟩ = some (.int .i64 a1_3) ∧ w'.cell? ⟨gb101, 4, none⟩ = some (.int .i64 a1_4) ∧ w'.cell? ⟨gb101, 5, none⟩ = some (.int .i64 a1_5)) ∧ (Kd.R k26 26 w' w.heap.size (fun k_ => some k_ ≠ (s_.2.2.2 : Value).ownBlock ∧ k_ ≠ gb101) s_.2.2.1 y130) ∧ (Kd.R k26 26 w' w.heap.size (fun k_ => some k_ ≠ (s_.2.2.1 : Value).ownBlock ∧ k_ ≠ gb101) s_.2.2.2 y133) ∧ (w'.heap[gb101]? = some (.cells #[.int .i64 a1_0, .int .i64 a1_1, .int .i64 a1_2, .int .i64 a1_3, .int .i64 a1_4, .int .i64 a1_5] 26 (0, 0))) ∧ (Below w.heap.size w w')) ?_ ?_
      rotate_left
      ·intro hJ0_2_4_5
       refine join_ (σ := Value × Value × Value × Nat) 3 #[true, true, true, true, true, false, true, true, false, true, false] (fun s_ => [(109, s_.1), (111, s_.2.1), (113, s_.2.2.1), (7, .pointer (some ⟨s_.2.2.2, 0, none⟩))]) (fun s_ w' => (w'.cell? ⟨gb101, 0, none⟩ = some (.int .i64 a1_0) ∧ w'.cell? ⟨gb101, 1, none⟩ = some (.int .i64 a1_1) ∧ w'.cell? ⟨gb101, 2, none⟩ = some (.int .i64 a1_2) ∧ w'.cell? ⟨gb101, 3, none⟩ = some (.int .i64 a1_3) ∧ w'.cell? ⟨gb101, 4, none⟩ = some (.int .i64 a1_4) ∧ w'.cell? ⟨gb101, 5, none⟩ = some (.int .i64 a1_5)) ∧ (Kd.R k26 26 w' w.heap.size (fun k_ => some k_ ≠ (s_.2.2.1 : Value).ownBlock ∧ k_ ≠ gb101) s_.2.1 y127) ∧ (Kd.R k26 26 w' w.heap.size (fun k_ => some k_ ≠ (s_.2.1 : Value).ownBlock ∧ k_ ≠ gb101) s_.2.2.1 y130) ∧ (w'.heap[gb101]? = some (.cells #[.int .i64 a1_0, .int .i64 a1_1, .int .i64 a1_2, .int .i64 a1_3, .int .i64 a1_4, .int .i64 a1_5] 26 (0, 0))) ∧ (w'.heap[s_.2.2.2]? = some (.cells #[.int .i64 0, .int .i64 0, .int .i64 0, .int .i64 0, .int .i64 0] 37 (0, 0))) ∧ (w.heap.size ≤ s_.2.2.2) ∧ (w.heap.size ≤ s_.2.2.2) ∧ (gb101 ≠ s_.2.2.2) ∧ (s_.2.2.2 ≠ gb101) ∧ (Below w.heap.size w w')) ?_ ?_
       rotate_left
       ·intro hJ0_2_4_9
        refine join_ (σ := Value × Value × Value) 4 #[true, true, true, true, true, false, true, true, false, false, false] (fun s_ => [(109, s_.1), (111, s_.2.1), (113, s_.2.2)]) (fun s_ w' => (w'.cell? ⟨gb101, 0, none⟩ = some (.int .i64 a1_0) ∧ w'.cell? ⟨gb101, 1, none⟩ = some (.int .i64 a1_1) ∧ w'.cell? ⟨gb101, 2, none⟩ = some (.int .i64 a1_2) ∧ w'.cell? ⟨gb101, 3, none⟩ = some (.int .i64 a1_3) ∧ w'.cell? ⟨gb101, 4, none⟩ = some (.int .i64 a1_4) ∧ w'.cell? ⟨gb101, 5, none⟩ = some (.int .i64 a1_5)) ∧ (Kd.R k26 26 w' w.heap.size (fun k_ => some k_ ≠ (s_.2.2 : Value).ownBlock ∧ k_ ≠ gb101) s_.2.1 y127) ∧ (Kd.R k26 26 w' w.heap.size (fun k_ => some k_ ≠ (s_.2.1 : Value).ownBlock ∧ k_ ≠ gb101) s_.2.2 y130) ∧ (w'.heap[gb101]? = some (.cells #[.int .i64 a1_0, .int .i64 a1_1, .int .i64 a1_2, .int .i64 a1_3, .int .i64 a1_4, .int .i64 a1_5] 26 (0, 0))) ∧ (Below w.heap.size w w')) ?_ ?_
        rotate_left
        ·intro hJ0_2_4
         refine join_ (σ := Value × Value × Nat) 4 #[true, true, true, true, false, false, true, true, false, true, false] (fun s_ => [(109, s_.1), (111, s_.2.1), (7, .pointer (some ⟨s_.2.2, 0, none⟩))]) (fun s_ w' => (w'.cell? ⟨gb101, 0, none⟩ = some (.int .i64 a1_0) ∧ w'.cell? ⟨gb101, 1, none⟩ = some (.int .i64 a1_1) ∧ w'.cell? ⟨gb101, 2, none⟩ = some (.int .i64 a1_2) ∧ w'.cell? ⟨gb101, 3, none⟩ = some (.int .i64 a1_3) ∧ w'.cell? ⟨gb101, 4, none⟩ = some (.int .i64 a1_4) ∧ w'.cell? ⟨gb101, 5, none⟩ = some (.int .i64 a1_5)) ∧ (Kd.R k26 26 w' w.heap.size (fun k_ => k_ ≠ gb101) s_.2.1 y127) ∧ (w'.heap[gb101]? = some (.cells #[.int .i64 a1_0, .int .i64 a1_1, .int .i64 a1_2, .int .i64 a1_3, .int .i64 a1_4, .int .i64 a1_5] 26 (0, 0))) ∧ (w'.heap[s_.2.2]? = some (.cells #[.int .i64 0, .int .i64 0, .int .i64 0, .int .i64 0, .int .i64 0] 37 (0, 0))) ∧ (w.heap.size ≤ s_.2.2) ∧ (w.heap.size ≤ s_.2.2) ∧ (gb101 ≠ s_.2.2) ∧ (s_.2.2 ≠ gb101) ∧ (Below w.heap.size w w')) ?_ ?_
         rotate_left
         ·intro hJ0_2_9
          refine join_ (σ := Value × Value × Nat) 4 #[true, true, false, true, true, false, true, true, false, true, false] (fun s_ => [(109, s_.1), (113, s_.2.1), (7, .pointer (some ⟨s_.2.2, 0, none⟩))]) (fun s_ w' => (w'.cell? ⟨gb101, 0, none⟩ = some (.int .i64 a1_0) ∧ w'.cell? ⟨gb101, 1, none⟩ = some (.int .i64 a1_1) ∧ w'.cell? ⟨gb101, 2, none⟩ = some (.int .i64 a1_2) ∧ w'.cell? ⟨gb101, 3, none⟩ = some (.int .i64 a1_3) ∧ w'.cell? ⟨gb101, 4, none⟩ = some (.int .i64 a1_4) ∧ w'.cell? ⟨gb101, 5, none⟩ = some (.int .i64 a1_5)) ∧ (Kd.R k26 26 w' w.heap.size (fun k_ => some k_ ≠ (s_.2.1 : Value).ownBlock ∧ k_ ≠ gb101) s_.1 y124) ∧ (Kd.R k26 26 w' w.heap.size (fun k_ => some k_ ≠ (s_.1 : Value).ownBlock ∧ k_ ≠ gb101) s_.2.1 y130) ∧ (w'.heap[gb101]? = some (.cells #[.int .i64 a1_0, .int .i64 a1_1, .int .i64 a1_2, .int .i64 a1_3, .int .i64 a1_4, .int .i64 a1_5] 26 (0, 0))) ∧ (w'.heap[s_.2.2]? = some (.cells #[.int .i64 0, .int .i64 0, .int .i64 0, .int .i64 0, .int .i64 0] 37 (0, 0))) ∧ (w.heap.size ≤ s_.2.2) ∧ (w.heap.size ≤ s_.2.2) ∧ (gb101 ≠ s_.2.2) ∧ (s_.2.2 ≠ gb101) ∧ (Below w.heap.size w w')) ?_ ?_
          rotate_left
          ·intro hJ0_4_9
           refine join_ (σ := Value × Value) 5 #[true, true, true, true, false, false, true, true, false, false, false] (fun s_ => [(109, s_.1), (111, s_.2)]) (fun s_ w' => (w'.cell? ⟨gb101, 0, none⟩ = some (.int .i64 a1_0) ∧ w'.cell? ⟨gb101, 1, none⟩ = some (.int .i64 a1_1) ∧ w'.cell? ⟨gb101, 2, none⟩ = some (.int .i64 a1_2) ∧ w'.cell? ⟨gb101, 3, none⟩ = some (.int .i64 a1_3) ∧ w'.cell? ⟨gb101, 4, none⟩ = some (.int .i64 a1_4) ∧ w'.cell? ⟨gb101, 5, none⟩ = some (.int .i64 a1_5)) ∧ (Kd.R k26 26 w' w.heap.size (fun k_ => k_ ≠ gb101) s_.2 y127) ∧ (w'.heap[gb101]? = some (.cells #[.int .i64 a1_0, .int .i64 a1_1, .int .i64 a1_2, .int .i64 a1_3, .int .i64 a1_4, .int .i64 a1_5] 26 (0, 0))) ∧ (Below w.heap.size w w')) ?_ ?_
           rotate_left
           ·intro hJ0_2
            refine join_ (σ := Value × Value) 5 #[true, true, false, true, true, false, true, true, false, false, false] (fun s_ => [(109, s_.1), (113, s_.2)]) (fun s_ w' => (w'.cell? ⟨gb101, 0, none⟩ = some (.int .i64 a1_0) ∧ w'.cell? ⟨gb101, 1, none⟩ = some (.int .i64 a1_1) ∧ w'.cell? ⟨gb101, 2, none⟩ = some (.int .i64 a1_2) ∧ w'.cell? ⟨gb101, 3, none⟩ = some (.int .i64 a1_3) ∧ w'.cell? ⟨gb101, 4, none⟩ = some (.int .i64 a1_4) ∧ w'.cell? ⟨gb101, 5, none⟩ = some (.int .i64 a1_5)) ∧ (Kd.R k26 26 w' w.heap.size (fun k_ => some k_ ≠ (s_.2 : Value).ownBlock ∧ k_ ≠ gb101) s_.1 y124) ∧ (Kd.R k26 26 w' w.heap.size (fun k_ => some k_ ≠ (s_.1 : Value).ownBlock ∧ k_ ≠ gb101) s_.2 y130) ∧ (w'.heap[gb101]? = some (.cells #[.int .i64 a1_0, .int .i64 a1_1, .int .i64 a1_2, .int .i64 a1_3, .int .i64 a1_4, .int .i64 a1_5] 26 (0, 0))) ∧ (Below w.heap.size w w')) ?_ ?_
            rotate_left
            ·intro hJ0_4
             refine join_ (σ := Value × Nat) 5 #[true, true, false, true, false, false, true, true, false, true, false] (fun s_ => [(109, s_.1), (7, .pointer (some ⟨s_.2, 0, none⟩))]) (fun s_ w' => (w'.cell? ⟨gb101, 0, none⟩ = some (.int .i64 a1_0) ∧ w'.cell? ⟨gb101, 1, none⟩ = some (.int .i64 a1_1) ∧ w'.cell? ⟨gb101, 2, none⟩ = some (.int .i64 a1_2) ∧ w'.cell? ⟨gb101, 3, none⟩ = some (.int .i64 a1_3) ∧ w'.cell? ⟨gb101, 4, none⟩ = some (.int .i64 a1_4) ∧ w'.cell? ⟨gb101, 5, none⟩ = some (.int .i64 a1_5)) ∧ (Kd.R k26 26 w' w.heap.size (fun k_ => k_ ≠ gb101) s_.1 y124) ∧ (w'.heap[gb101]? = some (.cells #[.int .i64 a1_0, .int .i64 a1_1, .int .i64 a1_2, .int .i64 a1_3, .int .i64 a1_4, .int .i64 a1_5] 26 (0, 0))) ∧ (w'.heap[s_.2]? = some (.cells #[.int .i64 0, .int .i64 0, .int .i64 0, .int .i64 0, .int .i64 0] 37 (0, 0))) ∧ (w.heap.size ≤ s_.2) ∧ (w.heap.size ≤ s_.2) ∧ (gb101 ≠ s_.2) ∧ (s_.2 ≠ gb101) ∧ (Below w.heap.size w w')) ?_ ?_
             rotate_left
             ·intro hJ0_9
              refine join_ (σ := Value × Nat) 5 #[false, true, false, true, true, false, true, true, false, true, false] (fun s_ => [(113, s_.1), (7, .pointer (some ⟨s_.2, 0, none⟩))]) (fun s_ w' => (w'.cell? ⟨gb101, 0, none⟩ = some (.int .i64 a1_0) ∧ w'.cell? ⟨gb101, 1, none⟩ = some (.int .i64 a1_1) ∧ w'.cell? ⟨gb101, 2, none⟩ = some (.int .i64 a1_2) ∧ w'.cell? ⟨gb101, 3, none⟩ = some (.int .i64 a1_3) ∧ w'.cell? ⟨gb101, 4, none⟩ = some (.int .i64 a1_4) ∧ w'.cell? ⟨gb101, 5, none⟩ = some (.int .i64 a1_5)) ∧ (Kd.R k26 26 w' w.heap.size (fun k_ => k_ ≠ gb101) s_.1 y130) ∧ (w'.heap[gb101]? = some (.cells #[.int .i64 a1_0, .int .i64 a1_1, .int .i64 a1_2, .int .i64 a1_3, .int .i64 a1_4, .int .i64 a1_5] 26 (0, 0))) ∧ (w'.heap[s_.2]? = some (.cells #[.int .i64 0, .int .i64 0, .int .i64 0, .int .i64 0, .int .i64 0] 37 (0, 0))) ∧ (w.heap.size ≤ s_.2) ∧ (w.heap.size ≤ s_.2) ∧ (gb101 ≠ s_.2) ∧ (s_.2 ≠ gb101) ∧ (Below w.heap.size w w')) ?_ ?_
              rotate_left
              ·intro hJ4_9
               refine join_ (σ := Value) 6 #[true, true, false, true, false, false, true, true, false, false, false] (fun s_ => [(109, s_)]) (fun s_ w' => (w'.cell? ⟨gb101, 0, none⟩ = some (.int .i64 a1_0) ∧ w'.cell? ⟨gb101, 1, none⟩ = some (.int .i64 a1_1) ∧ w'.cell? ⟨gb101, 2, none⟩ = some (.int .i64 a1_2) ∧ w'.cell? ⟨gb101, 3, none⟩ = some (.int .i64 a1_3) ∧ w'.cell? ⟨gb101, 4, none⟩ = some (.int .i64 a1_4) ∧ w'.cell? ⟨gb101, 5, none⟩ = some (.int .i64 a1_5)) ∧ (Kd.R k26 26 w' w.heap.size (fun k_ => k_ ≠ gb101) s_ y124) ∧ (w'.heap[gb101]? = some (.cells #[.int .i64 a1_0, .int .i64 a1_1, .int .i64 a1_2, .int .i64 a1_3, .int .i64 a1_4, .int .i64 a1_5] 26 (0, 0))) ∧ (Below w.heap.size w w')) ?_ ?_
               rotate_left
               ·intro hJ0
                refine join_ (σ := Value) 6 #[false, true, false, true, true, false, true, true, false, false, false] (fun s_ => [(113, s_)]) (fun s_ w' => (w'.cell? ⟨gb101, 0, none⟩ = some (.int .i64 a1_0) ∧ w'.cell? ⟨gb101, 1, none⟩ = some (.int .i64 a1_1) ∧ w'.cell? ⟨gb101, 2, none⟩ = some (.int .i64 a1_2) ∧ w'.cell? ⟨gb101, 3, none⟩ = some (.int .i64 a1_3) ∧ w'.cell? ⟨gb101, 4, none⟩ = some (.int .i64 a1_4) ∧ w'.cell? ⟨gb101, 5, none⟩ = some (.int .i64 a1_5)) ∧ (Kd.R k26 26 w' w.heap.size (fun k_ => k_ ≠ gb101) s_ y130) ∧ (w'.heap[gb101]? = some (.cells #[.int .i64 a1_0, .int .i64 a1_1, .int .i64 a1_2, .int .i64 a1_3, .int .i64 a1_4, .int .i64 a1_5] 26 (0, 0))) ∧ (Below w.heap.size w w')) ?_ ?_
                rotate_left
                ·intro hJ4
                 refine join_ (σ := Nat) 6 #[false, true, false, true, false, false, true, true, false, true, false] (fun s_ => [(7, .pointer (some ⟨s_, 0, none⟩))]) (fun s_ w' => (w'.cell? ⟨gb101, 0, none⟩ = some (.int .i64 a1_0) ∧ w'.cell? ⟨gb101, 1, none⟩ = some (.int .i64 a1_1) ∧ w'.cell? ⟨gb101, 2, none⟩ = some (.int .i64 a1_2) ∧ w'.cell? ⟨gb101, 3, none⟩ = some (.int .i64 a1_3) ∧ w'.cell? ⟨gb101, 4, none⟩ = some (.int .i64 a1_4) ∧ w'.cell? ⟨gb101, 5, none⟩ = some (.int .i64 a1_5)) ∧ (w'.heap[gb101]? = some (.cells #[.int .i64 a1_0, .int .i64 a1_1, .int .i64 a1_2, .int .i64 a1_3, .int .i64 a1_4, .int .i64 a1_5] 26 (0, 0))) ∧ (w'.heap[s_]? = some (.cells #[.int .i64 0, .int .i64 0, .int .i64 0, .int .i64 0, .int .i64 0] 37 (0, 0))) ∧ (w.heap.size ≤ s_) ∧ (w.heap.size ≤ s_) ∧ (gb101 ≠ s_) ∧ (s_ ≠ gb101) ∧ (Below w.heap.size w w')) ?_ ?_
                 rotate_left
                 ·intro hJ9
                  refine three_ (i := 0) (j := 4) (k := 9) (Ni := some 109) (Nj := some 113) (Nk := some 7) #[true, true, false, true, false, false, true, true, false, false, false] #[false, true, false, true, true, false, true, true, false, false, false] #[false, true, false, true, false, false, true, true, false, true, false] rfl rfl rfl rfl rfl rfl (three_of HT_.out (by kernel_rfl)) (by decide) (by decide) (by decide) (fun K hK => ?_) (fun K hK => ?_) (fun K hK => ?_)
                  ·skip
                   refine Kd.R_lit_step k26 _ 26 ?hg (N := 109) ?hd (xs := ([] : List (S26))) (inner := []) (ok := fun _ => True) (okp := fun _ => True) ?hr ?hp (fun _ hk => hk) trivial (Below.refl _ _) (Nat.le_refl _) (by simp) ?_; (case hd => rfl); (case hg => rfl); (case hr => first | (go_simp; done) | (go_simp; rfl)); (case hp => exact (Reps.none _ _))
                   intro v125 w182 ho183 hb hg_ hnew_
                   clear hg_ hnew_
                   (first | rw [← Ny124.out] at ho183 | (simp only [Int.reduceToNat] at ho183; rw [← Ny124.out] at ho183))
                   have n0_ := Aside0.mk (Kd.R_lower (Kd.R_newB ho183 (g := gb101) (o := .cells #[.int .i64 a1_0, .int .i64 a1_1, .int .i64 a1_2, .int .i64 a1_3, .int .i64 a1_4, .int .i64 a1_5] 26 (0, 0)) blkx) (below_size bel)); have n1_ := Aside0.mk (blk_below (g := gb101) (o := .cells #[.int .i64 a1_0, .int .i64 a1_1, .int .i64 a1_2, .int .i64 a1_3, .int .i64 a1_4, .int .i64 a1_5] 26 (0, 0)) blkx hb); have n2_ := Aside0.mk (below_step bel hb); clear BK101; clear HB; have HO126 := n0_; have BK101 := n1_; have HB := n2_; clear n0_ n1_ n2_; clear hb ho183
                   refine hK.out _ _ ⟨(blk_cell BK101.out 0).trans rfl, (blk_cell BK101.out 1).trans rfl, (blk_cell BK101.out 2).trans rfl, (blk_cell BK101.out 3).trans rfl, (blk_cell BK101.out 4).trans rfl, (blk_cell BK101.out 5).trans rfl⟩ (fun hHeld => ?_)
                   clear hK K
                   refine norm_ (a' := ?_) ?_ ?_
                   rotate_left
                   ·show Act.put _ (some 109) _ = _
                    simp only [Act.put, List.setIfInBounds_toArray, List.set_cons_zero, List.set_cons_succ, i64_w, i32_w]
                    rfl
                   exact norm_ zPA0 (hJ0 (v125) _ ⟨hHeld, (by (with_reducible repeat (first | apply Kd.R_alloc | apply Kd.R_drewN | apply Kd.R_drew)); exact Kd.R_mono HO126.out (fun _ hk => hk.2)), blkx, bel⟩)
                  ·skip
                   refine Kd.R_lit_step k26 _ 26 ?hg (N := 113) ?hd (xs := ([(⟨a1_0, a1_1, a1_2, a1_3, a1_4, a1_5⟩ : S26)] : List (S26))) (inner := [.int .i64 a1_0, .int .i64 a1_1, .int .i64 a1_2, .int .i64 a1_3, .int .i64 a1_4, .int .i64 a1_5]) (ok := fun _ => True) (okp := fun _ => True) ?hr ?hp (fun _ hk => hk) trivial (Below.refl _ _) (Nat.le_refl _) (by simp) ?_; (case hd => rfl); (case hg => rfl); (case hr => first | (go_simp; done) | (go_simp; rfl)); (case hp => exact (Reps.c6 (show Kd.M k26 _ _ _ (⟨a1_0, a1_1, a1_2, a1_3, a1_4, a1_5⟩ : S26) [.int .i64 a1_0, .int .i64 a1_1, .int .i64 a1_2, .int .i64 a1_3, .int .i64 a1_4, .int .i64 a1_5] from (k26_mkM _ _ _ (⟨a1_0, a1_1, a1_2, a1_3, a1_4, a1_5⟩ : S26) )) (Reps.none _ _)))
                   intro v131 w182 ho183 hb hg_ hnew_
                   clear hg_ hnew_
                   (first | rw [← Ny130.out] at ho183 | (simp only [Int.reduceToNat] at ho183; rw [← Ny130.out] at ho183))
                   have n0_ := Aside0.mk (Kd.R_lower (Kd.R_newB ho183 (g := gb101) (o := .cells #[.int .i64 a1_0, .int .i64 a1_1, .int .i64 a1_2, .int .i64 a1_3, .int .i64 a1_4, .int .i64 a1_5] 26 (0, 0)) blkx) (below_size bel)); have n1_ := Aside0.mk (blk_below (g := gb101) (o := .cells #[.int .i64 a1_0, .int .i64 a1_1, .int .i64 a1_2, .int .i64 a1_3, .int .i64 a1_4, .int .i64 a1_5] 26 (0, 0)) blkx hb); have n2_ := Aside0.mk (below_step bel hb); clear BK101; clear HB; have HO132 := n0_; have BK101 := n1_; have HB := n2_; clear n0_ n1_ n2_; clear hb ho183
                   refine hK.out _ _ ⟨(blk_cell BK101.out 0).trans rfl, (blk_cell BK101.out 1).trans rfl, (blk_cell BK101.out 2).trans rfl, (blk_cell BK101.out 3).trans rfl, (blk_cell BK101.out 4).trans rfl, (blk_cell BK101.out 5).trans rfl⟩ (fun hHeld => ?_)
                   clear hK K
                   refine norm_ (a' := ?_) ?_ ?_
                   rotate_left
                   ·show Act.put _ (some 113) _ = _
                    simp only [Act.put, List.setIfInBounds_toArray, List.set_cons_zero, List.set_cons_succ, i64_w, i32_w]
                    rfl
                   exact norm_ zPA0 (hJ4 (v131) _ ⟨hHeld, (by (with_reducible repeat (first | apply Kd.R_alloc | apply Kd.R_drewN | apply Kd.R_drew)); exact Kd.R_mono HO132.out (fun _ hk => hk.2)), blkx, bel⟩)
                  ·skip
                   refine box_step ?hg (N := 7) ?hd (cs := #[.int .i64 0, .int .i64 0, .int .i64 0, .int .i64 0, .int .i64 0]) (t := 37) ?hr ?_; (case hd => rfl); (case hg => rfl); (case hr => first | (go_simp; done) | (go_simp; rfl))
                   intro gb141 hg w182 hbox hb
                   have n0_ := Aside0.mk (blk_below (g := gb101) (o := .cells #[.int .i64 a1_0, .int .i64 a1_1, .int .i64 a1_2, .int .i64 a1_3, .int .i64 a1_4, .int .i64 a1_5] 26 (0, 0)) blkx hb); have n1_ := Aside0.mk (below_step bel hb); have n2_ := Aside0.mk (hbox); have n3_ := Aside0.mk ((by rw [hg]; exact (below_size bel) : w.heap.size ≤ gb141)); have n4_ := Aside0.mk ((by rw [hg]; exact (below_size bel) : w.heap.size ≤ gb141)); have n5_ := Aside0.mk ((by rw [hg]; exact Nat.ne_of_lt (blk_lt (g := gb101) (o := .cells #[.int .i64 a1_0, .int .i64 a1_1, .int .i64 a1_2, .int .i64 a1_3, .int .i64 a1_4, .int .i64 a1_5] 26 (0, 0)) blkx) : gb101 ≠ gb141)); have n6_ := Aside0.mk ((by rw [hg]; exact Nat.ne_of_gt (blk_lt (g := gb101) (o := .cells #[.int .i64 a1_0, .int .i64 a1_1, .int .i64 a1_2, .int .i64 a1_3, .int .i64 a1_4, .int .i64 a1_5] 26 (0, 0)) blkx) : gb141 ≠ gb101)); clear BK101; clear HB; have BK101 := n0_; have HB := n1_; have BK141 := n2_; have GW141 := n3_; have GE141 := n4_; have NB101_141 := n5_; have NB141_101 := n6_; clear n0_ n1_ n2_ n3_ n4_ n5_ n6_; clear hb hbox hg
                   refine hK.out _ _ ⟨(blk_cell BK101.out 0).trans rfl, (blk_cell BK101.out 1).trans rfl, (blk_cell BK101.out 2).trans rfl, (blk_cell BK101.out 3).trans rfl, (blk_cell BK101.out 4).trans rfl, (blk_cell BK101.out 5).trans rfl⟩ (fun hHeld => ?_)
                   clear hK K
                   refine norm_ (a' := ?_) ?_ ?_
                   rotate_left
                   ·show Act.put _ (some 7) _ = _
                    simp only [Act.put, List.setIfInBounds_toArray, List.set_cons_zero, List.set_cons_succ, i64_w, i32_w]
                    rfl
                   exact norm_ zPA0 (hJ9 (gb141) _ ⟨hHeld, blkx, blkx, GW141.out, GE141.out, NB101_141.out, NB141_101.out, bel⟩)
                 ·skip
                  rintro gb141 w183 ⟨hS_, h0_, h1_, h2_, h3_, h4_, h5_, h6_⟩
                  have n0_ : Aside0 (w183.heap[gb101]? = some (.cells #[.int .i64 a1_0, .int .i64 a1_1, .int .i64 a1_2, .int .i64 a1_3, .int .i64 a1_4, .int .i64 a1_5] 26 (0, 0))) := ⟨h0_⟩; have n1_ : Aside0 (w183.heap[gb141]? = some (.cells #[.int .i64 0, .int .i64 0, .int .i64 0, .int .i64 0, .int .i64 0] 37 (0, 0))) := ⟨h1_⟩; have n2_ : Aside0 (w.heap.size ≤ gb141) := ⟨h2_⟩; have n3_ : Aside0 (w.heap.size ≤ gb141) := ⟨h3_⟩; have n4_ : Aside0 (gb101 ≠ gb141) := ⟨h4_⟩; have n5_ : Aside0 (gb141 ≠ gb101) := ⟨h5_⟩; have n6_ : Aside0 (Below w.heap.size w w183) := ⟨h6_⟩; clear BK101; clear HB; clear h0_ h1_ h2_ h3_ h4_ h5_ h6_; have BK101 := n0_; have BK141 := n1_; have GW141 := n2_; have GE141 := n3_; have NB101_141 := n4_; have NB141_101 := n5_; have HB := n6_; clear n0_ n1_ n2_ n3_ n4_ n5_ n6_; have hHeld : w183.cell? ⟨gb101, 0, none⟩ = some (.int .i64 a1_0) ∧ w183.cell? ⟨gb101, 1, none⟩ = some (.int .i64 a1_1) ∧ w183.cell? ⟨gb101, 2, none⟩ = some (.int .i64 a1_2) ∧ w183.cell? ⟨gb101, 3, none⟩ = some (.int .i64 a1_3) ∧ w183.cell? ⟨gb101, 4, none⟩ = some (.int .i64 a1_4) ∧ w183.cell? ⟨gb101, 5, none⟩ = some (.int .i64 a1_5) := hS_
                  refine norm_ (a' := ?_) ?_ ?_
                  rotate_left
                  ·simp only [putAll, Act.put, List.setIfInBounds_toArray, List.set_cons_zero, List.set_cons_succ]
                   rfl
                  refine two_ (i := 0) (j := 4) (Ni := some 109) (Nj := some 113) #[true, true, false, true, false, false, true, true, false, true, false] #[false, true, false, true, true, false, true, true, false, true, false] rfl rfl rfl rfl (two_of HT_.out (by kernel_rfl)) (by decide) (by decide) (fun K hK => ?_) (fun K hK => ?_)
                  ·skip
                   refine Kd.R_lit_step k26 _ 26 ?hg (N := 109) ?hd (xs := ([] : List (S26))) (inner := []) (ok := fun _ => True) (okp := fun _ => True) ?hr ?hp (fun _ hk => hk) trivial (Below.refl _ _) (Nat.le_refl _) (by simp) ?_; (case hd => rfl); (case hg => rfl); (case hr => first | (go_simp; done) | (go_simp; rfl)); (case hp => exact (Reps.none _ _))
                   intro v125 w184 ho185 hb hg_ hnew_
                   clear hg_ hnew_
                   (first | rw [← Ny124.out] at ho185 | (simp only [Int.reduceToNat] at ho185; rw [← Ny124.out] at ho185))
                   have n0_ := Aside0.mk (Kd.R_lower (Kd.R_newB ho185 (g := gb101) (o := .cells #[.int .i64 a1_0, .int .i64 a1_1, .int .i64 a1_2, .int .i64 a1_3, .int .i64 a1_4, .int .i64 a1_5] 26 (0, 0)) blkx) (below_size bel)); have n1_ := Aside0.mk (blk_below (g := gb101) (o := .cells #[.int .i64 a1_0, .int .i64 a1_1, .int .i64 a1_2, .int .i64 a1_3, .int .i64 a1_4, .int .i64 a1_5] 26 (0, 0)) blkx hb); have n2_ := Aside0.mk (blk_below (g := gb141) (o := .cells #[.int .i64 0, .int .i64 0, .int .i64 0, .int .i64 0, .int .i64 0] 37 (0, 0)) blkx hb); have n3_ := Aside0.mk (below_step bel hb); clear BK101; clear BK141; clear HB; have HO126 := n0_; have BK101 := n1_; have BK141 := n2_; have HB := n3_; clear n0_ n1_ n2_ n3_; clear hb ho185
                   refine hK.out _ _ ⟨(blk_cell BK101.out 0).trans rfl, (blk_cell BK101.out 1).trans rfl, (blk_cell BK101.out 2).trans rfl, (blk_cell BK101.out 3).trans rfl, (blk_cell BK101.out 4).trans rfl, (blk_cell BK101.out 5).trans rfl⟩ (fun hHeld => ?_)
                   clear hK K
                   refine norm_ (a' := ?_) ?_ ?_
                   rotate_left
                   ·show Act.put _ (some 109) _ = _
                    simp only [Act.put, List.setIfInBounds_toArray, List.set_cons_zero, List.set_cons_succ, i64_w, i32_w]
                    rfl
                   exact norm_ zPA0 (hJ0_9 (v125, gb141) _ ⟨hHeld, (by (with_reducible repeat (first | apply Kd.R_alloc | apply Kd.R_drewN | apply Kd.R_drew)); exact Kd.R_mono HO126.out (fun _ hk => hk.2)), blkx, blkx, GW141.out, GE141.out, NB101_141.out, NB141_101.out, bel⟩)
                  ·skip
                   refine Kd.R_lit_step k26 _ 26 ?hg (N := 113) ?hd (xs := ([(⟨a1_0, a1_1, a1_2, a1_3, a1_4, a1_5⟩ : S26)] : List (S26))) (inner := [.int .i64 a1_0, .int .i64 a1_1, .int .i64 a1_2, .int .i64 a1_3, .int .i64 a1_4, .int .i64 a1_5]) (ok := fun _ => True) (okp := fun _ => True) ?hr ?hp (fun _ hk => hk) trivial (Below.refl _ _) (Nat.le_refl _) (by simp) ?_; (case hd => rfl); (case hg => rfl); (case hr => first | (go_simp; done) | (go_simp; rfl)); (case hp => exact (Reps.c6 (show Kd.M k26 _ _ _ (⟨a1_0, a1_1, a1_2, a1_3, a1_4, a1_5⟩ : S26) [.int .i64 a1_0, .int .i64 a1_1, .int .i64 a1_2, .int .i64 a1_3, .int .i64 a1_4, .int .i64 a1_5] from (k26_mkM _ _ _ (⟨a1_0, a1_1, a1_2, a1_3, a1_4, a1_5⟩ : S26) )) (Reps.none _ _)))
                   intro v131 w184 ho185 hb hg_ hnew_
                   clear hg_ hnew_
                   (first | rw [← Ny130.out] at ho185 | (simp only [Int.reduceToNat] at ho185; rw [← Ny130.out] at ho185))
                   have n0_ := Aside0.mk (Kd.R_lower (Kd.R_newB ho185 (g := gb101) (o := .cells #[.int .i64 a1_0, .int .i64 a1_1, .int .i64 a1_2, .int .i64 a1_3, .int .i64 a1_4, .int .i64 a1_5] 26 (0, 0)) blkx) (below_size bel)); have n1_ := Aside0.mk (blk_below (g := gb101) (o := .cells #[.int .i64 a1_0, .int .i64 a1_1, .int .i64 a1_2, .int .i64 a1_3, .int .i64 a1_4, .int .i64 a1_5] 26 (0, 0)) blkx hb); have n2_ := Aside0.mk (blk_below (g := gb141) (o := .cells #[.int .i64 0, .int .i64 0, .int .i64 0, .int .i64 0, .int .i64 0] 37 (0, 0)) blkx hb); have n3_ := Aside0.mk (below_step bel hb); clear BK101; clear BK141; clear HB; have HO132 := n0_; have BK101 := n1_; have BK141 := n2_; have HB := n3_; clear n0_ n1_ n2_ n3_; clear hb ho185
                   refine hK.out _ _ ⟨(blk_cell BK101.out 0).trans rfl, (blk_cell BK101.out 1).trans rfl, (blk_cell BK101.out 2).trans rfl, (blk_cell BK101.out 3).trans rfl, (blk_cell BK101.out 4).trans rfl, (blk_cell BK101.out 5).trans rfl⟩ (fun hHeld => ?_)
                   clear hK K
                   refine norm_ (a' := ?_) ?_ ?_
                   rotate_left
                   ·show Act.put _ (some 113) _ = _
                    simp only [Act.put, List.setIfInBounds_toArray, List.set_cons_zero, List.set_cons_succ, i64_w, i32_w]
                    rfl
                   exact norm_ zPA0 (hJ4_9 (v131, gb141) _ ⟨hHeld, (by (with_reducible repeat (first | apply Kd.R_alloc | apply Kd.R_drewN | apply Kd.R_drew)); exact Kd.R_mono HO132.out (fun _ hk => hk.2)), blkx, blkx, GW141.out, GE141.out, NB101_141.out, NB141_101.out, bel⟩)
                ·skip
                 rintro v131 w184 ⟨hS_, h0_, h1_, h2_⟩
                 have n0_ : Aside0 (Kd.R k26 26 w184 w.heap.size (fun k_ => k_ ≠ gb101) v131 y130) := ⟨h0_⟩; have n1_ : Aside0 (w184.heap[gb101]? = some (.cells #[.int .i64 a1_0, .int .i64 a1_1, .int .i64 a1_2, .int .i64 a1_3, .int .i64 a1_4, .int .i64 a1_5] 26 (0, 0))) := ⟨h1_⟩; have n2_ : Aside0 (Below w.heap.size w w184) := ⟨h2_⟩; clear BK101; clear HB; clear h0_ h1_ h2_; have HO132 := n0_; have BK101 := n1_; have HB := n2_; clear n0_ n1_ n2_; have hHeld : w184.cell? ⟨gb101, 0, none⟩ = some (.int .i64 a1_0) ∧ w184.cell? ⟨gb101, 1, none⟩ = some (.int .i64 a1_1) ∧ w184.cell? ⟨gb101, 2, none⟩ = some (.int .i64 a1_2) ∧ w184.cell? ⟨gb101, 3, none⟩ = some (.int .i64 a1_3) ∧ w184.cell? ⟨gb101, 4, none⟩ = some (.int .i64 a1_4) ∧ w184.cell? ⟨gb101, 5, none⟩ = some (.int .i64 a1_5) := hS_
                 refine norm_ (a' := ?_) ?_ ?_
                 rotate_left
                 ·simp only [putAll, Act.put, List.setIfInBounds_toArray, List.set_cons_zero, List.set_cons_succ]
                  rfl
                 refine two_ (i := 0) (j := 9) (Ni := some 109) (Nj := some 7) #[true, true, false, true, true, false, true, true, false, false, false] #[false, true, false, true, true, false, true, true, false, true, false] rfl rfl rfl rfl (two_of HT_.out (by kernel_rfl)) (by decide) (by decide) (fun K hK => ?_) (fun K hK => ?_)
                 ·skip
                  refine Kd.R_lit_step k26 _ 26 ?hg (N := 109) ?hd (xs := ([] : List (S26))) (inner := []) (ok := fun _ => True) (okp := fun _ => True) ?hr ?hp (fun _ hk => hk) trivial (Below.refl _ _) (Nat.le_refl _) (by simp) ?_; (case hd => rfl); (case hg => rfl); (case hr => first | (go_simp; done) | (go_simp; rfl)); (case hp => exact (Reps.none _ _))
                  intro v125 w185 ho186 hb hg_ hnew_
                  clear hg_ hnew_
                  (first | rw [← Ny124.out] at ho186 | (simp only [Int.reduceToNat] at ho186; rw [← Ny124.out] at ho186))
                  have n0_ := Aside0.mk (Kd.R_elder' (rowx HO132.out) (Kd.R_base ho186) hb); have n1_ := Aside0.mk (Kd.R_lower (Kd.R_newB (Kd.R_new' ho186 (Kd.R_lt (rowx HO132.out))) (g := gb101) (o := .cells #[.int .i64 a1_0, .int .i64 a1_1, .int .i64 a1_2, .int .i64 a1_3, .int .i64 a1_4, .int .i64 a1_5] 26 (0, 0)) blkx) (below_size bel)); have n2_ := Aside0.mk (blk_below (g := gb101) (o := .cells #[.int .i64 a1_0, .int .i64 a1_1, .int .i64 a1_2, .int .i64 a1_3, .int .i64 a1_4, .int .i64 a1_5] 26 (0, 0)) blkx hb); have n3_ := Aside0.mk (below_step bel hb); clear HO132; clear BK101; clear HB; have HO132 := n0_; have HO126 := n1_; have BK101 := n2_; have HB := n3_; clear n0_ n1_ n2_ n3_; clear hb ho186
                  refine hK.out _ _ ⟨(blk_cell BK101.out 0).trans rfl, (blk_cell BK101.out 1).trans rfl, (blk_cell BK101.out 2).trans rfl, (blk_cell BK101.out 3).trans rfl, (blk_cell BK101.out 4).trans rfl, (blk_cell BK101.out 5).trans rfl⟩ (fun hHeld => ?_)
                  clear hK K
                  refine norm_ (a' := ?_) ?_ ?_
                  rotate_left
                  ·show Act.put _ (some 109) _ = _
                   simp only [Act.put, List.setIfInBounds_toArray, List.set_cons_zero, List.set_cons_succ, i64_w, i32_w]
                   rfl
                  exact norm_ zPA0 (hJ0_4 (v125, v131) _ ⟨hHeld, (by (with_reducible repeat (first | apply Kd.R_alloc | apply Kd.R_drewN | apply Kd.R_drew)); exact Kd.R_mono HO126.out (fun _ hk => ⟨hk.1.2, hk.2⟩)), zPA12, blkx, bel⟩)
                 ·skip
                  refine box_step ?hg (N := 7) ?hd (cs := #[.int .i64 0, .int .i64 0, .int .i64 0, .int .i64 0, .int .i64 0]) (t := 37) ?hr ?_; (case hd => rfl); (case hg => rfl); (case hr => first | (go_simp; done) | (go_simp; rfl))
                  intro gb141 hg w185 hbox hb
                  have n0_ := Aside0.mk (Kd.R_below (rowx HO132.out) hb); have n1_ := Aside0.mk (blk_below (g := gb101) (o := .cells #[.int .i64 a1_0, .int .i64 a1_1, .int .i64 a1_2, .int .i64 a1_3, .int .i64 a1_4, .int .i64 a1_5] 26 (0, 0)) blkx hb); have n2_ := Aside0.mk (below_step bel hb); have n3_ := Aside0.mk (hbox); have n4_ := Aside0.mk ((by rw [hg]; exact (below_size bel) : w.heap.size ≤ gb141)); have n5_ := Aside0.mk ((by rw [hg]; exact (below_size bel) : w.heap.size ≤ gb141)); have n6_ := Aside0.mk ((by rw [hg]; exact Nat.ne_of_lt (blk_lt (g := gb101) (o := .cells #[.int .i64 a1_0, .int .i64 a1_1, .int .i64 a1_2, .int .i64 a1_3, .int .i64 a1_4, .int .i64 a1_5] 26 (0, 0)) blkx) : gb101 ≠ gb141)); have n7_ := Aside0.mk ((by rw [hg]; exact Nat.ne_of_gt (blk_lt (g := gb101) (o := .cells #[.int .i64 a1_0, .int .i64 a1_1, .int .i64 a1_2, .int .i64 a1_3, .int .i64 a1_4, .int .i64 a1_5] 26 (0, 0)) blkx) : gb141 ≠ gb101)); clear HO132; clear BK101; clear HB; have HO132 := n0_; have BK101 := n1_; have HB := n2_; have BK141 := n3_; have GW141 := n4_; have GE141 := n5_; have NB101_141 := n6_; have NB141_101 := n7_; clear n0_ n1_ n2_ n3_ n4_ n5_ n6_ n7_; clear hb hbox hg
                  refine hK.out _ _ ⟨(blk_cell BK101.out 0).trans rfl, (blk_cell BK101.out 1).trans rfl, (blk_cell BK101.out 2).trans rfl, (blk_cell BK101.out 3).trans rfl, (blk_cell BK101.out 4).trans rfl, (blk_cell BK101.out 5).trans rfl⟩ (fun hHeld => ?_)
                  clear hK K
                  refine norm_ (a' := ?_) ?_ ?_
                  rotate_left
                  ·show Act.put _ (some 7) _ = _
                   simp only [Act.put, List.setIfInBounds_toArray, List.set_cons_zero, List.set_cons_succ, i64_w, i32_w]
                   rfl
                  exact norm_ zPA0 (hJ4_9 (v131, gb141) _ ⟨hHeld, (rowx HO132.out), blkx, blkx, GW141.out, GE141.out, NB101_141.out, NB141_101.out, bel⟩)
               ·skip
                rintro v125 w184 ⟨hS_, h0_, h1_, h2_⟩
                have n0_ : Aside0 (Kd.R k26 26 w184 w.heap.size (fun k_ => k_ ≠ gb101) v125 y124) := ⟨h0_⟩; have n1_ : Aside0 (w184.heap[gb101]? = some (.cells #[.int .i64 a1_0, .int .i64 a1_1, .int .i64 a1_2, .int .i64 a1_3, .int .i64 a1_4, .int .i64 a1_5] 26 (0, 0))) := ⟨h1_⟩; have n2_ : Aside0 (Below w.heap.size w w184) := ⟨h2_⟩; clear BK101; clear HB; clear h0_ h1_ h2_; have HO126 := n0_; have BK101 := n1_; have HB := n2_; clear n0_ n1_ n2_; have hHeld : w184.cell? ⟨gb101, 0, none⟩ = some (.int .i64 a1_0) ∧ w184.cell? ⟨gb101, 1, none⟩ = some (.int .i64 a1_1) ∧ w184.cell? ⟨gb101, 2, none⟩ = some (.int .i64 a1_2) ∧ w184.cell? ⟨gb101, 3, none⟩ = some (.int .i64 a1_3) ∧ w184.cell? ⟨gb101, 4, none⟩ = some (.int .i64 a1_4) ∧ w184.cell? ⟨gb101, 5, none⟩ = some (.int .i64 a1_5) := hS_
                refine norm_ (a' := ?_) ?_ ?_
                rotate_left
                ·simp only [putAll, Act.put, List.setIfInBounds_toArray, List.set_cons_zero, List.set_cons_succ]
                 rfl
                refine three_ (i := 2) (j := 4) (k := 9) (Ni := some 111) (Nj := some 113) (Nk := some 7) #[true, true, true, true, false, false, true, true, false, false, false] #[true, true, false, true, true, false, true, true, false, false, false] #[true, true, false, true, false, false, true, true, false, true, false] rfl rfl rfl rfl rfl rfl (three_of HT_.out (by kernel_rfl)) (by decide) (by decide) (by decide) (fun K hK => ?_) (fun K hK => ?_) (fun K hK => ?_)
                ·skip
                 refine Kd.R_append_rows_step k26 (w0 := w) w.heap.size (by rfl) (.tmp 109) (.tmp 110) 23 26 (.agg #[(.int .i64 0), (.int .i64 0), (.int .i64 0), (.int .i64 0), (.int .i64 0), (.int .i64 0)]) 48 rfl Try.underlying23 info26 rfl (by decide) (by omega) v125 y124 l0 _ _ _ (fun k_ => k_ ≠ gb101) (fun _ => False) rfl rfl ?aO ?aR (fun _ _ h => h) (fun _ h => h.elim) ?aF ?aB ?aS ?aL ?_
                 (case aR => repeat (first | exact (Kd.C_below HR0.out HB.out) | (with_reducible refine Kd.C_alloc ?_ _) | (with_reducible refine Kd.C_drewN ?_ _) | (with_reducible refine Kd.C_drew ?_)))
                 (case aB => exact bel)
                 (case aF => exact (fun k_ hk => Kd.freshB (g := gb101) (o := .cells #[.int .i64 a1_0, .int .i64 a1_1, .int .i64 a1_2, .int .i64 a1_3, .int .i64 a1_4, .int .i64 a1_5] 26 (0, 0)) blkx k_ hk))
                 (case aO => exact (rowx HO126.out))
                 (case aS => exact (below_size bel))
                 (case aL => have := LMc176.out; omega)
                 intro v128 w185 ho hb hg hat
                 rw [← Ny127.out] at ho
                 have n0_ := Aside0.mk (blk_grown (g := gb101) (o := .cells #[.int .i64 a1_0, .int .i64 a1_1, .int .i64 a1_2, .int .i64 a1_3, .int .i64 a1_4, .int .i64 a1_5] 26 (0, 0)) blkx hg (Kd.R_away HO126.out (fun _ hk => hk))); have n1_ := Aside0.mk (hb); have n2_ := Aside0.mk (ho); clear BK101; clear HB; clear HO126; have BK101 := n0_; have HB := n1_; have HO129 := n2_; clear n0_ n1_ n2_; clear ho hb hg hat
                 refine hK.out _ _ ⟨(blk_cell BK101.out 0).trans rfl, (blk_cell BK101.out 1).trans rfl, (blk_cell BK101.out 2).trans rfl, (blk_cell BK101.out 3).trans rfl, (blk_cell BK101.out 4).trans rfl, (blk_cell BK101.out 5).trans rfl⟩ (fun hHeld => ?_)
                 clear hK K
                 refine norm_ (a' := ?_) ?_ ?_
                 rotate_left
                 ·show Act.put _ (some 111) _ = _
                  simp only [Act.put, List.setIfInBounds_toArray, List.set_cons_zero, List.set_cons_succ, i64_w, i32_w]
                  rfl
                 exact norm_ zPA0 (hJ0_2 (v125, v128) _ ⟨hHeld, (rowx HO129.out), blkx, bel⟩)
                ·skip
                 refine Kd.R_lit_step k26 _ 26 ?hg (N := 113) ?hd (xs := ([(⟨a1_0, a1_1, a1_2, a1_3, a1_4, a1_5⟩ : S26)] : List (S26))) (inner := [.int .i64 a1_0, .int .i64 a1_1, .int .i64 a1_2, .int .i64 a1_3, .int .i64 a1_4, .int .i64 a1_5]) (ok := fun _ => True) (okp := fun _ => True) ?hr ?hp (fun _ hk => hk) trivial (Below.refl _ _) (Nat.le_refl _) (by simp) ?_; (case hd => rfl); (case hg => rfl); (case hr => first | (go_simp; done) | (go_simp; rfl)); (case hp => exact (Reps.c6 (show Kd.M k26 _ _ _ (⟨a1_0, a1_1, a1_2, a1_3, a1_4, a1_5⟩ : S26) [.int .i64 a1_0, .int .i64 a1_1, .int .i64 a1_2, .int .i64 a1_3, .int .i64 a1_4, .int .i64 a1_5] from (k26_mkM _ _ _ (⟨a1_0, a1_1, a1_2, a1_3, a1_4, a1_5⟩ : S26) )) (Reps.none _ _)))
                 intro v131 w185 ho186 hb hg_ hnew_
                 clear hg_ hnew_
                 (first | rw [← Ny130.out] at ho186 | (simp only [Int.reduceToNat] at ho186; rw [← Ny130.out] at ho186))
                 have n0_ := Aside0.mk (Kd.R_elder' (rowx HO126.out) (Kd.R_base ho186) hb); have n1_ := Aside0.mk (Kd.R_lower (Kd.R_newB (Kd.R_new' ho186 (Kd.R_lt (rowx HO126.out))) (g := gb101) (o := .cells #[.int .i64 a1_0, .int .i64 a1_1, .int .i64 a1_2, .int .i64 a1_3, .int .i64 a1_4, .int .i64 a1_5] 26 (0, 0)) blkx) (below_size bel)); have n2_ := Aside0.mk (blk_below (g := gb101) (o := .cells #[.int .i64 a1_0, .int .i64 a1_1, .int .i64 a1_2, .int .i64 a1_3, .int .i64 a1_4, .int .i64 a1_5] 26 (0, 0)) blkx hb); have n3_ := Aside0.mk (below_step bel hb); clear HO126; clear BK101; clear HB; have HO126 := n0_; have HO132 := n1_; have BK101 := n2_; have HB := n3_; clear n0_ n1_ n2_ n3_; clear hb ho186
                 refine hK.out _ _ ⟨(blk_cell BK101.out 0).trans rfl, (blk_cell BK101.out 1).trans rfl, (blk_cell BK101.out 2).trans rfl, (blk_cell BK101.out 3).trans rfl, (blk_cell BK101.out 4).trans rfl, (blk_cell BK101.out 5).trans rfl⟩ (fun hHeld => ?_)
                 clear hK K
                 refine norm_ (a' := ?_) ?_ ?_
                 rotate_left
                 ·show Act.put _ (some 113) _ = _
                  simp only [Act.put, List.setIfInBounds_toArray, List.set_cons_zero, List.set_cons_succ, i64_w, i32_w]
                  rfl
                 exact norm_ zPA0 (hJ0_4 (v125, v131) _ ⟨hHeld, (by (with_reducible repeat (first | apply Kd.R_alloc | apply Kd.R_drewN | apply Kd.R_drew)); exact Kd.R_mono HO126.out (fun _ hk => ⟨hk.2, hk.1⟩)), (by (with_reducible repeat (first | apply Kd.R_alloc | apply Kd.R_drewN | apply Kd.R_drew)); exact Kd.R_mono HO132.out (fun _ hk => ⟨hk.1.2, hk.2⟩)), blkx, bel⟩)
                ·skip
                 refine box_step ?hg (N := 7) ?hd (cs := #[.int .i64 0, .int .i64 0, .int .i64 0, .int .i64 0, .int .i64 0]) (t := 37) ?hr ?_; (case hd => rfl); (case hg => rfl); (case hr => first | (go_simp; done) | (go_simp; rfl))
                 intro gb141 hg w185 hbox hb
                 have n0_ := Aside0.mk (Kd.R_below (rowx HO126.out) hb); have n1_ := Aside0.mk (blk_below (g := gb101) (o := .cells #[.int .i64 a1_0, .int .i64 a1_1, .int .i64 a1_2, .int .i64 a1_3, .int .i64 a1_4, .int .i64 a1_5] 26 (0, 0)) blkx hb); have n2_ := Aside0.mk (below_step bel hb); have n3_ := Aside0.mk (hbox); have n4_ := Aside0.mk ((by rw [hg]; exact (below_size bel) : w.heap.size ≤ gb141)); have n5_ := Aside0.mk ((by rw [hg]; exact (below_size bel) : w.heap.size ≤ gb141)); have n6_ := Aside0.mk ((by rw [hg]; exact Nat.ne_of_lt (blk_lt (g := gb101) (o := .cells #[.int .i64 a1_0, .int .i64 a1_1, .int .i64 a1_2, .int .i64 a1_3, .int .i64 a1_4, .int .i64 a1_5] 26 (0, 0)) blkx) : gb101 ≠ gb141)); have n7_ := Aside0.mk ((by rw [hg]; exact Nat.ne_of_gt (blk_lt (g := gb101) (o := .cells #[.int .i64 a1_0, .int .i64 a1_1, .int .i64 a1_2, .int .i64 a1_3, .int .i64 a1_4, .int .i64 a1_5] 26 (0, 0)) blkx) : gb141 ≠ gb101)); clear HO126; clear BK101; clear HB; have HO126 := n0_; have BK101 := n1_; have HB := n2_; have BK141 := n3_; have GW141 := n4_; have GE141 := n5_; have NB101_141 := n6_; have NB141_101 := n7_; clear n0_ n1_ n2_ n3_ n4_ n5_ n6_ n7_; clear hb hbox hg
                 refine hK.out _ _ ⟨(blk_cell BK101.out 0).trans rfl, (blk_cell BK101.out 1).trans rfl, (blk_cell BK101.out 2).trans rfl, (blk_cell BK101.out 3).trans rfl, (blk_cell BK101.out 4).trans rfl, (blk_cell BK101.out 5).trans rfl⟩ (fun hHeld => ?_)
                 clear hK K
                 refine norm_ (a' := ?_) ?_ ?_
                 rotate_left
                 ·show Act.put _ (some 7) _ = _
                  simp only [Act.put, List.setIfInBounds_toArray, List.set_cons_zero, List.set_cons_succ, i64_w, i32_w]
                  rfl
                 exact norm_ zPA0 (hJ0_9 (v125, gb141) _ ⟨hHeld, (rowx HO126.out), blkx, blkx, GW141.out, GE141.out, NB101_141.out, NB141_101.out, bel⟩)
              ·skip
               rintro ⟨v131, gb141⟩ w185 ⟨hS_, h0_, h1_, h2_, h3_, h4_, h5_, h6_, h7_⟩
               have n0_ : Aside0 (Kd.R k26 26 w185 w.heap.size (fun k_ => k_ ≠ gb101) v131 y130) := ⟨h0_⟩; have n1_ : Aside0 (w185.heap[gb101]? = some (.cells #[.int .i64 a1_0, .int .i64 a1_1, .int .i64 a1_2, .int .i64 a1_3, .int .i64 a1_4, .int .i64 a1_5] 26 (0, 0))) := ⟨h1_⟩; have n2_ : Aside0 (w185.heap[gb141]? = some (.cells #[.int .i64 0, .int .i64 0, .int .i64 0, .int .i64 0, .int .i64 0] 37 (0, 0))) := ⟨h2_⟩; have n3_ : Aside0 (w.heap.size ≤ gb141) := ⟨h3_⟩; have n4_ : Aside0 (w.heap.size ≤ gb141) := ⟨h4_⟩; have n5_ : Aside0 (gb101 ≠ gb141) := ⟨h5_⟩; have n6_ : Aside0 (gb141 ≠ gb101) := ⟨h6_⟩; have n7_ : Aside0 (Below w.heap.size w w185) := ⟨h7_⟩; clear BK101; clear HB; clear h0_ h1_ h2_ h3_ h4_ h5_ h6_ h7_; have HO132 := n0_; have BK101 := n1_; have BK141 := n2_; have GW141 := n3_; have GE141 := n4_; have NB101_141 := n5_; have NB141_101 := n6_; have HB := n7_; clear n0_ n1_ n2_ n3_ n4_ n5_ n6_ n7_; have hHeld : w185.cell? ⟨gb101, 0, none⟩ = some (.int .i64 a1_0) ∧ w185.cell? ⟨gb101, 1, none⟩ = some (.int .i64 a1_1) ∧ w185.cell? ⟨gb101, 2, none⟩ = some (.int .i64 a1_2) ∧ w185.cell? ⟨gb101, 3, none⟩ = some (.int .i64 a1_3) ∧ w185.cell? ⟨gb101, 4, none⟩ = some (.int .i64 a1_4) ∧ w185.cell? ⟨gb101, 5, none⟩ = some (.int .i64 a1_5) := hS_
               refine norm_ (a' := ?_) ?_ ?_
               rotate_left
               ·simp only [putAll, Act.put, List.setIfInBounds_toArray, List.set_cons_zero, List.set_cons_succ]
                rfl
               refine one_ (i := 0) (N := some 109) #[true, true, false, true, true, false, true, true, false, true, false] rfl rfl (one_of HT_.out (by kernel_rfl)) (by decide) (fun K hK => ?_)
               refine Kd.R_lit_step k26 _ 26 ?hg (N := 109) ?hd (xs := ([] : List (S26))) (inner := []) (ok := fun _ => True) (okp := fun _ => True) ?hr ?hp (fun _ hk => hk) trivial (Below.refl _ _) (Nat.le_refl _) (by simp) ?_; (case hd => rfl); (case hg => rfl); (case hr => first | (go_simp; done) | (go_simp; rfl)); (case hp => exact (Reps.none _ _))
               intro v125 w186 ho187 hb hg_ hnew_
               clear hg_ hnew_
               (first | rw [← Ny124.out] at ho187 | (simp only [Int.reduceToNat] at ho187; rw [← Ny124.out] at ho187))
               have n0_ := Aside0.mk (Kd.R_elder' (rowx HO132.out) (Kd.R_base ho187) hb); have n1_ := Aside0.mk (Kd.R_lower (Kd.R_newB (Kd.R_new' ho187 (Kd.R_lt (rowx HO132.out))) (g := gb101) (o := .cells #[.int .i64 a1_0, .int .i64 a1_1, .int .i64 a1_2, .int .i64 a1_3, .int .i64 a1_4, .int .i64 a1_5] 26 (0, 0)) blkx) (below_size bel)); have n2_ := Aside0.mk (blk_below (g := gb101) (o := .cells #[.int .i64 a1_0, .int .i64 a1_1, .int .i64 a1_2, .int .i64 a1_3, .int .i64 a1_4, .int .i64 a1_5] 26 (0, 0)) blkx hb); have n3_ := Aside0.mk (blk_below (g := gb141) (o := .cells #[.int .i64 0, .int .i64 0, .int .i64 0, .int .i64 0, .int .i64 0] 37 (0, 0)) blkx hb); have n4_ := Aside0.mk (below_step bel hb); clear HO132; clear BK101; clear BK141; clear HB; have HO132 := n0_; have HO126 := n1_; have BK101 := n2_; have BK141 := n3_; have HB := n4_; clear n0_ n1_ n2_ n3_ n4_; clear hb ho187
               refine hK.out _ _ ⟨(blk_cell BK101.out 0).trans rfl, (blk_cell BK101.out 1).trans rfl, (blk_cell BK101.out 2).trans rfl, (blk_cell BK101.out 3).trans rfl, (blk_cell BK101.out 4).trans rfl, (blk_cell BK101.out 5).trans rfl⟩ (fun hHeld => ?_)
               clear hK K
               refine norm_ (a' := ?_) ?_ ?_
               rotate_left
               ·show Act.put _ (some 109) _ = _
                simp only [Act.put, List.setIfInBounds_toArray, List.set_cons_zero, List.set_cons_succ, i64_w, i32_w]
                rfl
               exact norm_ zPA0 (hJ0_4_9 (v125, v131, gb141) _ ⟨hHeld, (by (with_reducible repeat (first | apply Kd.R_alloc | apply Kd.R_drewN | apply Kd.R_drew)); exact Kd.R_mono HO126.out (fun _ hk => ⟨hk.1.2, hk.2⟩)), zPA12, blkx, blkx, GW141.out, GE141.out, NB101_141.out, NB141_101.out, bel⟩)
             ·skip
              rintro ⟨v125, gb141⟩ w185 ⟨hS_, h0_, h1_, h2_, h3_, h4_, h5_, h6_, h7_⟩
              have n0_ : Aside0 (Kd.R k26 26 w185 w.heap.size (fun k_ => k_ ≠ gb101) v125 y124) := ⟨h0_⟩; have n1_ : Aside0 (w185.heap[gb101]? = some (.cells #[.int .i64 a1_0, .int .i64 a1_1, .int .i64 a1_2, .int .i64 a1_3, .int .i64 a1_4, .int .i64 a1_5] 26 (0, 0))) := ⟨h1_⟩; have n2_ : Aside0 (w185.heap[gb141]? = some (.cells #[.int .i64 0, .int .i64 0, .int .i64 0, .int .i64 0, .int .i64 0] 37 (0, 0))) := ⟨h2_⟩; have n3_ : Aside0 (w.heap.size ≤ gb141) := ⟨h3_⟩; have n4_ : Aside0 (w.heap.size ≤ gb141) := ⟨h4_⟩; have n5_ : Aside0 (gb101 ≠ gb141) := ⟨h5_⟩; have n6_ : Aside0 (gb141 ≠ gb101) := ⟨h6_⟩; have n7_ : Aside0 (Below w.heap.size w w185) := ⟨h7_⟩; clear BK101; clear HB; clear h0_ h1_ h2_ h3_ h4_ h5_ h6_ h7_; have HO126 := n0_; have BK101 := n1_; have BK141 := n2_; have GW141 := n3_; have GE141 := n4_; have NB101_141 := n5_; have NB141_101 := n6_; have HB := n7_; clear n0_ n1_ n2_ n3_ n4_ n5_ n6_ n7_; have hHeld : w185.cell? ⟨gb101, 0, none⟩ = some (.int .i64 a1_0) ∧ w185.cell? ⟨gb101, 1, none⟩ = some (.int .i64 a1_1) ∧ w185.cell? ⟨gb101, 2, none⟩ = some (.int .i64 a1_2) ∧ w185.cell? ⟨gb101, 3, none⟩ = some (.int .i64 a1_3) ∧ w185.cell? ⟨gb101, 4, none⟩ = some (.int .i64 a1_4) ∧ w185.cell? ⟨gb101, 5, none⟩ = some (.int .i64 a1_5) := hS_
              refine norm_ (a' := ?_) ?_ ?_
              rotate_left
              ·simp only [putAll, Act.put, List.setIfInBounds_toArray, List.set_cons_zero, List.set_cons_succ]
               rfl
              refine two_ (i := 2) (j := 4) (Ni := some 111) (Nj := some 113) #[true, true, true, true, false, false, true, true, false, true, false] #[true, true, false, true, true, false, true, true, false, true, false] rfl rfl rfl rfl (two_of HT_.out (by kernel_rfl)) (by decide) (by decide) (fun K hK => ?_) (fun K hK => ?_)
              ·skip
               refine Kd.R_append_rows_step k26 (w0 := w) w.heap.size (by rfl) (.tmp 109) (.tmp 110) 23 26 (.agg #[(.int .i64 0), (.int .i64 0), (.int .i64 0), (.int .i64 0), (.int .i64 0), (.int .i64 0)]) 48 rfl Try.underlying23 info26 rfl (by decide) (by omega) v125 y124 l0 _ _ _ (fun k_ => k_ ≠ gb101) (fun _ => False) rfl rfl ?aO ?aR (fun _ _ h => h) (fun _ h => h.elim) ?aF ?aB ?aS ?aL ?_
               (case aR => repeat (first | exact (Kd.C_below HR0.out HB.out) | (with_reducible refine Kd.C_alloc ?_ _) | (with_reducible refine Kd.C_drewN ?_ _) | (with_reducible refine Kd.C_drew ?_)))
               (case aB => exact bel)
               (case aF => exact (fun k_ hk => Kd.freshB (g := gb101) (o := .cells #[.int .i64 a1_0, .int .i64 a1_1, .int .i64 a1_2, .int .i64 a1_3, .int .i64 a1_4, .int .i64 a1_5] 26 (0, 0)) blkx k_ hk))
               (case aO => exact (rowx HO126.out))
               (case aS => exact (below_size bel))
               (case aL => have := LMc176.out; omega)
               intro v128 w186 ho hb hg hat
               rw [← Ny127.out] at ho
               have n0_ := Aside0.mk (blk_grown (g := gb101) (o := .cells #[.int .i64 a1_0, .int .i64 a1_1, .int .i64 a1_2, .int .i64 a1_3, .int .i64 a1_4, .int .i64 a1_5] 26 (0, 0)) blkx hg (Kd.R_away HO126.out (fun _ hk => hk))); have n1_ := Aside0.mk (blk_grown (g := gb141) (o := .cells #[.int .i64 0, .int .i64 0, .int .i64 0, .int .i64 0, .int .i64 0] 37 (0, 0)) blkx hg (Kd.R_ne HO126.out BK141.out (by decide))); have n2_ := Aside0.mk (hb); have n3_ := Aside0.mk (ho); clear BK101; clear BK141; clear HB; clear HO126; have BK101 := n0_; have BK141 := n1_; have HB := n2_; have HO129 := n3_; clear n0_ n1_ n2_ n3_; clear ho hb hg hat
               refine hK.out _ _ ⟨(blk_cell BK101.out 0).trans rfl, (blk_cell BK101.out 1).trans rfl, (blk_cell BK101.out 2).trans rfl, (blk_cell BK101.out 3).trans rfl, (blk_cell BK101.out 4).trans rfl, (blk_cell BK101.out 5).trans rfl⟩ (fun hHeld => ?_)
               clear hK K
               refine norm_ (a' := ?_) ?_ ?_
               rotate_left
               ·show Act.put _ (some 111) _ = _
                simp only [Act.put, List.setIfInBounds_toArray, List.set_cons_zero, List.set_cons_succ, i64_w, i32_w]
                rfl
               exact norm_ zPA0 (hJ0_2_9 (v125, v128, gb141) _ ⟨hHeld, (rowx HO129.out), blkx, blkx, GW141.out, GE141.out, NB101_141.out, NB141_101.out, bel⟩)
              ·skip
               refine Kd.R_lit_step k26 _ 26 ?hg (N := 113) ?hd (xs := ([(⟨a1_0, a1_1, a1_2, a1_3, a1_4, a1_5⟩ : S26)] : List (S26))) (inner := [.int .i64 a1_0, .int .i64 a1_1, .int .i64 a1_2, .int .i64 a1_3, .int .i64 a1_4, .int .i64 a1_5]) (ok := fun _ => True) (okp := fun _ => True) ?hr ?hp (fun _ hk => hk) trivial (Below.refl _ _) (Nat.le_refl _) (by simp) ?_; (case hd => rfl); (case hg => rfl); (case hr => first | (go_simp; done) | (go_simp; rfl)); (case hp => exact (Reps.c6 (show Kd.M k26 _ _ _ (⟨a1_0, a1_1, a1_2, a1_3, a1_4, a1_5⟩ : S26) [.int .i64 a1_0, .int .i64 a1_1, .int .i64 a1_2, .int .i64 a1_3, .int .i64 a1_4, .int .i64 a1_5] from (k26_mkM _ _ _ (⟨a1_0, a1_1, a1_2, a1_3, a1_4, a1_5⟩ : S26) )) (Reps.none _ _)))
               intro v131 w186 ho187 hb hg_ hnew_
               clear hg_ hnew_
               (first | rw [← Ny130.out] at ho187 | (simp only [Int.reduceToNat] at ho187; rw [← Ny130.out] at ho187))
               have n0_ := Aside0.mk (Kd.R_elder' (rowx HO126.out) (Kd.R_base ho187) hb); have n1_ := Aside0.mk (Kd.R_lower (Kd.R_newB (Kd.R_new' ho187 (Kd.R_lt (rowx HO126.out))) (g := gb101) (o := .cells #[.int .i64 a1_0, .int .i64 a1_1, .int .i64 a1_2, .int .i64 a1_3, .int .i64 a1_4, .int .i64 a1_5] 26 (0, 0)) blkx) (below_size bel)); have n2_ := Aside0.mk (blk_below (g := gb101) (o := .cells #[.int .i64 a1_0, .int .i64 a1_1, .int .i64 a1_2, .int .i64 a1_3, .int .i64 a1_4, .int .i64 a1_5] 26 (0, 0)) blkx hb); have n3_ := Aside0.mk (blk_below (g := gb141) (o := .cells #[.int .i64 0, .int .i64 0, .int .i64 0, .int .i64 0, .int .i64 0] 37 (0, 0)) blkx hb); have n4_ := Aside0.mk (below_step bel hb); clear HO126; clear BK101; clear BK141; clear HB; have HO126 := n0_; have HO132 := n1_; have BK101 := n2_; have BK141 := n3_; have HB := n4_; clear n0_ n1_ n2_ n3_ n4_; clear hb ho187
               refine hK.out _ _ ⟨(blk_cell BK101.out 0).trans rfl, (blk_cell BK101.out 1).trans rfl, (blk_cell BK101.out 2).trans rfl, (blk_cell BK101.out 3).trans rfl, (blk_cell BK101.out 4).trans rfl, (blk_cell BK101.out 5).trans rfl⟩ (fun hHeld => ?_)
               clear hK K
               refine norm_ (a' := ?_) ?_ ?_
               rotate_left
               ·show Act.put _ (some 113) _ = _
                simp only [Act.put, List.setIfInBounds_toArray, List.set_cons_zero, List.set_cons_succ, i64_w, i32_w]
                rfl
               exact norm_ zPA0 (hJ0_4_9 (v125, v131, gb141) _ ⟨hHeld, (by (with_reducible repeat (first | apply Kd.R_alloc | apply Kd.R_drewN | apply Kd.R_drew)); exact Kd.R_mono HO126.out (fun _ hk => ⟨hk.2, hk.1⟩)), (by (with_reducible repeat (first | apply Kd.R_alloc | apply Kd.R_drewN | apply Kd.R_drew)); exact Kd.R_mono HO132.out (fun _ hk => ⟨hk.1.2, hk.2⟩)), blkx, blkx, GW141.out, GE141.out, NB101_141.out, NB141_101.out, bel⟩)
            ·skip
             rintro ⟨v125, v131⟩ w186 ⟨hS_, h0_, h1_, h2_, h3_⟩
             have n0_ : Aside0 (Kd.R k26 26 w186 w.heap.size (fun k_ => some k_ ≠ (v131 : Value).ownBlock ∧ k_ ≠ gb101) v125 y124) := ⟨h0_⟩; have n1_ : Aside0 (Kd.R k26 26 w186 w.heap.size (fun k_ => some k_ ≠ (v125 : Value).ownBlock ∧ k_ ≠ gb101) v131 y130) := ⟨h1_⟩; have n2_ : Aside0 (w186.heap[gb101]? = some (.cells #[.int .i64 a1_0, .int .i64 a1_1, .int .i64 a1_2, .int .i64 a1_3, .int .i64 a1_4, .int .i64 a1_5] 26 (0, 0))) := ⟨h2_⟩; have n3_ : Aside0 (Below w.heap.size w w186) := ⟨h3_⟩; clear BK101; clear HB; clear h0_ h1_ h2_ h3_; have HO126 := n0_; have HO132 := n1_; have BK101 := n2_; have HB := n3_; clear n0_ n1_ n2_ n3_; have hHeld : w186.cell? ⟨gb101, 0, none⟩ = some (.int .i64 a1_0) ∧ w186.cell? ⟨gb101, 1, none⟩ = some (.int .i64 a1_1) ∧ w186.cell? ⟨gb101, 2, none⟩ = some (.int .i64 a1_2) ∧ w186.cell? ⟨gb101, 3, none⟩ = some (.int .i64 a1_3) ∧ w186.cell? ⟨gb101, 4, none⟩ = some (.int .i64 a1_4) ∧ w186.cell? ⟨gb101, 5, none⟩ = some (.int .i64 a1_5) := hS_
             refine norm_ (a' := ?_) ?_ ?_
             rotate_left
             ·simp only [putAll, Act.put, List.setIfInBounds_toArray, List.set_cons_zero, List.set_cons_succ]
              rfl
             refine two_ (i := 2) (j := 9) (Ni := some 111) (Nj := some 7) #[true, true, true, true, true, false, true, true, false, false, false] #[true, true, false, true, true, false, true, true, false, true, false] rfl rfl rfl rfl (two_of HT_.out (by kernel_rfl)) (by decide) (by decide) (fun K hK => ?_) (fun K hK => ?_)
             ·skip
              refine Kd.R_append_rows_step k26 (w0 := w) w.heap.size (by rfl) (.tmp 109) (.tmp 110) 23 26 (.agg #[(.int .i64 0), (.int .i64 0), (.int .i64 0), (.int .i64 0), (.int .i64 0), (.int .i64 0)]) 48 rfl Try.underlying23 info26 rfl (by decide) (by omega) v125 y124 l0 _ _ _ (fun k_ => some k_ ≠ (v131 : Value).ownBlock ∧ k_ ≠ gb101) (fun _ => False) rfl rfl ?aO ?aR (fun _ _ h => h) (fun _ h => h.elim) ?aF ?aB ?aS ?aL ?_
              (case aR => repeat (first | exact (Kd.C_below HR0.out HB.out) | (with_reducible refine Kd.C_alloc ?_ _) | (with_reducible refine Kd.C_drewN ?_ _) | (with_reducible refine Kd.C_drew ?_)))
              (case aB => exact bel)
              (case aF => exact (fun k_ hk => ⟨Kd.fresh' (Kd.R_lt (rowx HO132.out)) k_ hk, Kd.freshB (g := gb101) (o := .cells #[.int .i64 a1_0, .int .i64 a1_1, .int .i64 a1_2, .int .i64 a1_3, .int .i64 a1_4, .int .i64 a1_5] 26 (0, 0)) blkx k_ hk⟩))
              (case aO => exact (rowx HO126.out))
              (case aS => exact (below_size bel))
              (case aL => have := LMc176.out; omega)
              intro v128 w187 ho hb hg hat
              rw [← Ny127.out] at ho
              have n0_ := Aside0.mk (blk_grown (g := gb101) (o := .cells #[.int .i64 a1_0, .int .i64 a1_1, .int .i64 a1_2, .int .i64 a1_3, .int .i64 a1_4, .int .i64 a1_5] 26 (0, 0)) blkx hg (Kd.R_away HO126.out (fun _ hk => hk.2))); have n1_ := Aside0.mk (Kd.R_after (ok := (fun k_ => k_ ≠ gb101)) zPA12 hg hat); have n2_ := Aside0.mk (hb); have n3_ := Aside0.mk (ho); clear BK101; clear HO132; clear HB; clear HO126; have BK101 := n0_; have HO132 := n1_; have HB := n2_; have HO129 := n3_; clear n0_ n1_ n2_ n3_; clear ho hb hg hat
              refine hK.out _ _ ⟨(blk_cell BK101.out 0).trans rfl, (blk_cell BK101.out 1).trans rfl, (blk_cell BK101.out 2).trans rfl, (blk_cell BK101.out 3).trans rfl, (blk_cell BK101.out 4).trans rfl, (blk_cell BK101.out 5).trans rfl⟩ (fun hHeld => ?_)
              clear hK K
              refine norm_ (a' := ?_) ?_ ?_
              rotate_left
              ·show Act.put _ (some 111) _ = _
               simp only [Act.put, List.setIfInBounds_toArray, List.set_cons_zero, List.set_cons_succ, i64_w, i32_w]
               rfl
              exact norm_ zPA0 (hJ0_2_4 (v125, v128, v131) _ ⟨hHeld, (rowx HO129.out), zPA12, blkx, bel⟩)
             ·skip
              refine box_step ?hg (N := 7) ?hd (cs := #[.int .i64 0, .int .i64 0, .int .i64 0, .int .i64 0, .int .i64 0]) (t := 37) ?hr ?_; (case hd => rfl); (case hg => rfl); (case hr => first | (go_simp; done) | (go_simp; rfl))
              intro gb141 hg w187 hbox hb
              have n0_ := Aside0.mk (Kd.R_below (rowx HO126.out) hb); have n1_ := Aside0.mk (Kd.R_below (rowx HO132.out) hb); have n2_ := Aside0.mk (blk_below (g := gb101) (o := .cells #[.int .i64 a1_0, .int .i64 a1_1, .int .i64 a1_2, .int .i64 a1_3, .int .i64 a1_4, .int .i64 a1_5] 26 (0, 0)) blkx hb); have n3_ := Aside0.mk (below_step bel hb); have n4_ := Aside0.mk (hbox); have n5_ := Aside0.mk ((by rw [hg]; exact (below_size bel) : w.heap.size ≤ gb141)); have n6_ := Aside0.mk ((by rw [hg]; exact (below_size bel) : w.heap.size ≤ gb141)); have n7_ := Aside0.mk ((by rw [hg]; exact Nat.ne_of_lt (blk_lt (g := gb101) (o := .cells #[.int .i64 a1_0, .int .i64 a1_1, .int .i64 a1_2, .int .i64 a1_3, .int .i64 a1_4, .int .i64 a1_5] 26 (0, 0)) blkx) : gb101 ≠ gb141)); have n8_ := Aside0.mk ((by rw [hg]; exact Nat.ne_of_gt (blk_lt (g := gb101) (o := .cells #[.int .i64 a1_0, .int .i64 a1_1, .int .i64 a1_2, .int .i64 a1_3, .int .i64 a1_4, .int .i64 a1_5] 26 (0, 0)) blkx) : gb141 ≠ gb101)); clear HO126; clear HO132; clear BK101; clear HB; have HO126 := n0_; have HO132 := n1_; have BK101 := n2_; have HB := n3_; have BK141 := n4_; have GW141 := n5_; have GE141 := n6_; have NB101_141 := n7_; have NB141_101 := n8_; clear n0_ n1_ n2_ n3_ n4_ n5_ n6_ n7_ n8_; clear hb hbox hg
              refine hK.out _ _ ⟨(blk_cell BK101.out 0).trans rfl, (blk_cell BK101.out 1).trans rfl, (blk_cell BK101.out 2).trans rfl, (blk_cell BK101.out 3).trans rfl, (blk_cell BK101.out 4).trans rfl, (blk_cell BK101.out 5).trans rfl⟩ (fun hHeld => ?_)
              clear hK K
              refine norm_ (a' := ?_) ?_ ?_
              rotate_left
              ·show Act.put _ (some 7) _ = _
               simp only [Act.put, List.setIfInBounds_toArray, List.set_cons_zero, List.set_cons_succ, i64_w, i32_w]
               rfl
              exact norm_ zPA0 (hJ0_4_9 (v125, v131, gb141) _ ⟨hHeld, (rowx HO126.out), (rowx HO132.out), blkx, blkx, GW141.out, GE141.out, NB101_141.out, NB141_101.out, bel⟩)
           ·skip
            rintro ⟨v125, v128⟩ w185 ⟨hS_, h0_, h1_, h2_⟩
            have n0_ : Aside0 (Kd.R k26 26 w185 w.heap.size (fun k_ => k_ ≠ gb101) v128 y127) := ⟨h0_⟩; have n1_ : Aside0 (w185.heap[gb101]? = some (.cells #[.int .i64 a1_0, .int .i64 a1_1, .int .i64 a1_2, .int .i64 a1_3, .int .i64 a1_4, .int .i64 a1_5] 26 (0, 0))) := ⟨h1_⟩; have n2_ : Aside0 (Below w.heap.size w w185) := ⟨h2_⟩; clear BK101; clear HB; clear h0_ h1_ h2_; have HO129 := n0_; have BK101 := n1_; have HB := n2_; clear n0_ n1_ n2_; have hHeld : w185.cell? ⟨gb101, 0, none⟩ = some (.int .i64 a1_0) ∧ w185.cell? ⟨gb101, 1, none⟩ = some (.int .i64 a1_1) ∧ w185.cell? ⟨gb101, 2, none⟩ = some (.int .i64 a1_2) ∧ w185.cell? ⟨gb101, 3, none⟩ = some (.int .i64 a1_3) ∧ w185.cell? ⟨gb101, 4, none⟩ = some (.int .i64 a1_4) ∧ w185.cell? ⟨gb101, 5, none⟩ = some (.int .i64 a1_5) := hS_
            refine norm_ (a' := ?_) ?_ ?_
            rotate_left
            ·simp only [putAll, Act.put, List.setIfInBounds_toArray, List.set_cons_zero, List.set_cons_succ]
             rfl
            refine two_ (i := 4) (j := 9) (Ni := some 113) (Nj := some 7) #[true, true, true, true, true, false, true, true, false, false, false] #[true, true, true, true, false, false, true, true, false, true, false] rfl rfl rfl rfl (two_of HT_.out (by kernel_rfl)) (by decide) (by decide) (fun K hK => ?_) (fun K hK => ?_)
            ·skip
             refine Kd.R_lit_step k26 _ 26 ?hg (N := 113) ?hd (xs := ([(⟨a1_0, a1_1, a1_2, a1_3, a1_4, a1_5⟩ : S26)] : List (S26))) (inner := [.int .i64 a1_0, .int .i64 a1_1, .int .i64 a1_2, .int .i64 a1_3, .int .i64 a1_4, .int .i64 a1_5]) (ok := fun _ => True) (okp := fun _ => True) ?hr ?hp (fun _ hk => hk) trivial (Below.refl _ _) (Nat.le_refl _) (by simp) ?_; (case hd => rfl); (case hg => rfl); (case hr => first | (go_simp; done) | (go_simp; rfl)); (case hp => exact (Reps.c6 (show Kd.M k26 _ _ _ (⟨a1_0, a1_1, a1_2, a1_3, a1_4, a1_5⟩ : S26) [.int .i64 a1_0, .int .i64 a1_1, .int .i64 a1_2, .int .i64 a1_3, .int .i64 a1_4, .int .i64 a1_5] from (k26_mkM _ _ _ (⟨a1_0, a1_1, a1_2, a1_3, a1_4, a1_5⟩ : S26) )) (Reps.none _ _)))
             intro v131 w186 ho187 hb hg_ hnew_
             clear hg_ hnew_
             (first | rw [← Ny130.out] at ho187 | (simp only [Int.reduceToNat] at ho187; rw [← Ny130.out] at ho187))
             have n0_ := Aside0.mk (Kd.R_elder' (rowx HO129.out) (Kd.R_base ho187) hb); have n1_ := Aside0.mk (Kd.R_lower (Kd.R_newB (Kd.R_new' ho187 (Kd.R_lt (rowx HO129.out))) (g := gb101) (o := .cells #[.int .i64 a1_0, .int .i64 a1_1, .int .i64 a1_2, .int .i64 a1_3, .int .i64 a1_4, .int .i64 a1_5] 26 (0, 0)) blkx) (below_size bel)); have n2_ := Aside0.mk (blk_below (g := gb101) (o := .cells #[.int .i64 a1_0, .int .i64 a1_1, .int .i64 a1_2, .int .i64 a1_3, .int .i64 a1_4, .int .i64 a1_5] 26 (0, 0)) blkx hb); have n3_ := Aside0.mk (below_step bel hb); clear HO129; clear BK101; clear HB; have HO129 := n0_; have HO132 := n1_; have BK101 := n2_; have HB := n3_; clear n0_ n1_ n2_ n3_; clear hb ho187
             refine hK.out _ _ ⟨(blk_cell BK101.out 0).trans rfl, (blk_cell BK101.out 1).trans rfl, (blk_cell BK101.out 2).trans rfl, (blk_cell BK101.out 3).trans rfl, (blk_cell BK101.out 4).trans rfl, (blk_cell BK101.out 5).trans rfl⟩ (fun hHeld => ?_)
             clear hK K
             refine norm_ (a' := ?_) ?_ ?_
             rotate_left
             ·show Act.put _ (some 113) _ = _
              simp only [Act.put, List.setIfInBounds_toArray, List.set_cons_zero, List.set_cons_succ, i64_w, i32_w]
              rfl
             exact norm_ zPA0 (hJ0_2_4 (v125, v128, v131) _ ⟨hHeld, (by (with_reducible repeat (first | apply Kd.R_alloc | apply Kd.R_drewN | apply Kd.R_drew)); exact Kd.R_mono HO129.out (fun _ hk => ⟨hk.2, hk.1⟩)), (by (with_reducible repeat (first | apply Kd.R_alloc | apply Kd.R_drewN | apply Kd.R_drew)); exact Kd.R_mono HO132.out (fun _ hk => ⟨hk.1.2, hk.2⟩)), blkx, bel⟩)
            ·skip
             refine box_step ?hg (N := 7) ?hd (cs := #[.int .i64 0, .int .i64 0, .int .i64 0, .int .i64 0, .int .i64 0]) (t := 37) ?hr ?_; (case hd => rfl); (case hg => rfl); (case hr => first | (go_simp; done) | (go_simp; rfl))
             intro gb141 hg w186 hbox hb
             have n0_ := Aside0.mk (Kd.R_below (rowx HO129.out) hb); have n1_ := Aside0.mk (blk_below (g := gb101) (o := .cells #[.int .i64 a1_0, .int .i64 a1_1, .int .i64 a1_2, .int .i64 a1_3, .int .i64 a1_4, .int .i64 a1_5] 26 (0, 0)) blkx hb); have n2_ := Aside0.mk (below_step bel hb); have n3_ := Aside0.mk (hbox); have n4_ := Aside0.mk ((by rw [hg]; exact (below_size bel) : w.heap.size ≤ gb141)); have n5_ := Aside0.mk ((by rw [hg]; exact (below_size bel) : w.heap.size ≤ gb141)); have n6_ := Aside0.mk ((by rw [hg]; exact Nat.ne_of_lt (blk_lt (g := gb101) (o := .cells #[.int .i64 a1_0, .int .i64 a1_1, .int .i64 a1_2, .int .i64 a1_3, .int .i64 a1_4, .int .i64 a1_5] 26 (0, 0)) blkx) : gb101 ≠ gb141)); have n7_ := Aside0.mk ((by rw [hg]; exact Nat.ne_of_gt (blk_lt (g := gb101) (o := .cells #[.int .i64 a1_0, .int .i64 a1_1, .int .i64 a1_2, .int .i64 a1_3, .int .i64 a1_4, .int .i64 a1_5] 26 (0, 0)) blkx) : gb141 ≠ gb101)); clear HO129; clear BK101; clear HB; have HO129 := n0_; have BK101 := n1_; have HB := n2_; have BK141 := n3_; have GW141 := n4_; have GE141 := n5_; have NB101_141 := n6_; have NB141_101 := n7_; clear n0_ n1_ n2_ n3_ n4_ n5_ n6_ n7_; clear hb hbox hg
             refine hK.out _ _ ⟨(blk_cell BK101.out 0).trans rfl, (blk_cell BK101.out 1).trans rfl, (blk_cell BK101.out 2).trans rfl, (blk_cell BK101.out 3).trans rfl, (blk_cell BK101.out 4).trans rfl, (blk_cell BK101.out 5).trans rfl⟩ (fun hHeld => ?_)
             clear hK K
             refine norm_ (a' := ?_) ?_ ?_
             rotate_left
             ·show Act.put _ (some 7) _ = _
              simp only [Act.put, List.setIfInBounds_toArray, List.set_cons_zero, List.set_cons_succ, i64_w, i32_w]
              rfl
             exact norm_ zPA0 (hJ0_2_9 (v125, v128, gb141) _ ⟨hHeld, (rowx HO129.out), blkx, blkx, GW141.out, GE141.out, NB101_141.out, NB141_101.out, bel⟩)
          ·skip
           rintro ⟨v125, v131, gb141⟩ w187 ⟨hS_, h0_, h1_, h2_, h3_, h4_, h5_, h6_, h7_, h8_⟩
           have n0_ : Aside0 (Kd.R k26 26 w187 w.heap.size (fun k_ => some k_ ≠ (v131 : Value).ownBlock ∧ k_ ≠ gb101) v125 y124) := ⟨h0_⟩; have n1_ : Aside0 (Kd.R k26 26 w187 w.heap.size (fun k_ => some k_ ≠ (v125 : Value).ownBlock ∧ k_ ≠ gb101) v131 y130) := ⟨h1_⟩; have n2_ : Aside0 (w187.heap[gb101]? = some (.cells #[.int .i64 a1_0, .int .i64 a1_1, .int .i64 a1_2, .int .i64 a1_3, .int .i64 a1_4, .int .i64 a1_5] 26 (0, 0))) := ⟨h2_⟩; have n3_ : Aside0 (w187.heap[gb141]? = some (.cells #[.int .i64 0, .int .i64 0, .int .i64 0, .int .i64 0, .int .i64 0] 37 (0, 0))) := ⟨h3_⟩; have n4_ : Aside0 (w.heap.size ≤ gb141) := ⟨h4_⟩; have n5_ : Aside0 (w.heap.size ≤ gb141) := ⟨h5_⟩; have n6_ : Aside0 (gb101 ≠ gb141) := ⟨h6_⟩; have n7_ : Aside0 (gb141 ≠ gb101) := ⟨h7_⟩; have n8_ : Aside0 (Below w.heap.size w w187) := ⟨h8_⟩; clear BK101; clear HB; clear h0_ h1_ h2_ h3_ h4_ h5_ h6_ h7_ h8_; have HO126 := n0_; have HO132 := n1_; have BK101 := n2_; have BK141 := n3_; have GW141 := n4_; have GE141 := n5_; have NB101_141 := n6_; have NB141_101 := n7_; have HB := n8_; clear n0_ n1_ n2_ n3_ n4_ n5_ n6_ n7_ n8_; have hHeld : w187.cell? ⟨gb101, 0, none⟩ = some (.int .i64 a1_0) ∧ w187.cell? ⟨gb101, 1, none⟩ = some (.int .i64 a1_1) ∧ w187.cell? ⟨gb101, 2, none⟩ = some (.int .i64 a1_2) ∧ w187.cell? ⟨gb101, 3, none⟩ = some (.int .i64 a1_3) ∧ w187.cell? ⟨gb101, 4, none⟩ = some (.int .i64 a1_4) ∧ w187.cell? ⟨gb101, 5, none⟩ = some (.int .i64 a1_5) := hS_
           refine norm_ (a' := ?_) ?_ ?_
           rotate_left
           ·simp only [putAll, Act.put, List.setIfInBounds_toArray, List.set_cons_zero, List.set_cons_succ]
            rfl
           refine one_ (i := 2) (N := some 111) #[true, true, true, true, true, false, true, true, false, true, false] rfl rfl (one_of HT_.out (by kernel_rfl)) (by decide) (fun K hK => ?_)
           refine Kd.R_append_rows_step k26 (w0 := w) w.heap.size (by rfl) (.tmp 109) (.tmp 110) 23 26 (.agg #[(.int .i64 0), (.int .i64 0), (.int .i64 0), (.int .i64 0), (.int .i64 0), (.int .i64 0)]) 48 rfl Try.underlying23 info26 rfl (by decide) (by omega) v125 y124 l0 _ _ _ (fun k_ => some k_ ≠ (v131 : Value).ownBlock ∧ k_ ≠ gb101) (fun _ => False) rfl rfl ?aO ?aR (fun _ _ h => h) (fun _ h => h.elim) ?aF ?aB ?aS ?aL ?_
           (case aR => repeat (first | exact (Kd.C_below HR0.out HB.out) | (with_reducible refine Kd.C_alloc ?_ _) | (with_reducible refine Kd.C_drewN ?_ _) | (with_reducible refine Kd.C_drew ?_)))
           (case aB => exact bel)
           (case aF => exact (fun k_ hk => ⟨Kd.fresh' (Kd.R_lt (rowx HO132.out)) k_ hk, Kd.freshB (g := gb101) (o := .cells #[.int .i64 a1_0, .int .i64 a1_1, .int .i64 a1_2, .int .i64 a1_3, .int .i64 a1_4, .int .i64 a1_5] 26 (0, 0)) blkx k_ hk⟩))
           (case aO => exact (rowx HO126.out))
           (case aS => exact (below_size bel))
           (case aL => have := LMc176.out; omega)
           intro v128 w188 ho hb hg hat
           rw [← Ny127.out] at ho
           have n0_ := Aside0.mk (blk_grown (g := gb101) (o := .cells #[.int .i64 a1_0, .int .i64 a1_1, .int .i64 a1_2, .int .i64 a1_3, .int .i64 a1_4, .int .i64 a1_5] 26 (0, 0)) blkx hg (Kd.R_away HO126.out (fun _ hk => hk.2))); have n1_ := Aside0.mk (Kd.R_after (ok := (fun k_ => k_ ≠ gb101)) zPA12 hg hat); have n2_ := Aside0.mk (blk_grown (g := gb141) (o := .cells #[.int .i64 0, .int .i64 0, .int .i64 0, .int .i64 0, .int .i64 0] 37 (0, 0)) blkx hg (Kd.R_ne HO126.out BK141.out (by decide))); have n3_ := Aside0.mk (hb); have n4_ := Aside0.mk (ho); clear BK101; clear HO132; clear BK141; clear HB; clear HO126; have BK101 := n0_; have HO132 := n1_; have BK141 := n2_; have HB := n3_; have HO129 := n4_; clear n0_ n1_ n2_ n3_ n4_; clear ho hb hg hat
           refine hK.out _ _ ⟨(blk_cell BK101.out 0).trans rfl, (blk_cell BK101.out 1).trans rfl, (blk_cell BK101.out 2).trans rfl, (blk_cell BK101.out 3).trans rfl, (blk_cell BK101.out 4).trans rfl, (blk_cell BK101.out 5).trans rfl⟩ (fun hHeld => ?_)
           clear hK K
           refine norm_ (a' := ?_) ?_ ?_
           rotate_left
           ·show Act.put _ (some 111) _ = _
            simp only [Act.put, List.setIfInBounds_toArray, List.set_cons_zero, List.set_cons_succ, i64_w, i32_w]
            rfl
           exact norm_ zPA0 (hJ0_2_4_9 (v125, v128, v131, gb141) _ ⟨hHeld, (rowx HO129.out), zPA12, blkx, blkx, GW141.out, GE141.out, NB101_141.out, NB141_101.out, bel⟩)
         ·skip
          rintro ⟨v125, v128, gb141⟩ w186 ⟨hS_, h0_, h1_, h2_, h3_, h4_, h5_, h6_, h7_⟩
          have n0_ : Aside0 (Kd.R k26 26 w186 w.heap.size (fun k_ => k_ ≠ gb101) v128 y127) := ⟨h0_⟩; have n1_ : Aside0 (w186.heap[gb101]? = some (.cells #[.int .i64 a1_0, .int .i64 a1_1, .int .i64 a1_2, .int .i64 a1_3, .int .i64 a1_4, .int .i64 a1_5] 26 (0, 0))) := ⟨h1_⟩; have n2_ : Aside0 (w186.heap[gb141]? = some (.cells #[.int .i64 0, .int .i64 0, .int .i64 0, .int .i64 0, .int .i64 0] 37 (0, 0))) := ⟨h2_⟩; have n3_ : Aside0 (w.heap.size ≤ gb141) := ⟨h3_⟩; have n4_ : Aside0 (w.heap.size ≤ gb141) := ⟨h4_⟩; have n5_ : Aside0 (gb101 ≠ gb141) := ⟨h5_⟩; have n6_ : Aside0 (gb141 ≠ gb101) := ⟨h6_⟩; have n7_ : Aside0 (Below w.heap.size w w186) := ⟨h7_⟩; clear BK101; clear HB; clear h0_ h1_ h2_ h3_ h4_ h5_ h6_ h7_; have HO129 := n0_; have BK101 := n1_; have BK141 := n2_; have GW141 := n3_; have GE141 := n4_; have NB101_141 := n5_; have NB141_101 := n6_; have HB := n7_; clear n0_ n1_ n2_ n3_ n4_ n5_ n6_ n7_; have hHeld : w186.cell? ⟨gb101, 0, none⟩ = some (.int .i64 a1_0) ∧ w186.cell? ⟨gb101, 1, none⟩ = some (.int .i64 a1_1) ∧ w186.cell? ⟨gb101, 2, none⟩ = some (.int .i64 a1_2) ∧ w186.cell? ⟨gb101, 3, none⟩ = some (.int .i64 a1_3) ∧ w186.cell? ⟨gb101, 4, none⟩ = some (.int .i64 a1_4) ∧ w186.cell? ⟨gb101, 5, none⟩ = some (.int .i64 a1_5) := hS_
          refine norm_ (a' := ?_) ?_ ?_
          rotate_left
          ·simp only [putAll, Act.put, List.setIfInBounds_toArray, List.set_cons_zero, List.set_cons_succ]
           rfl
          refine one_ (i := 4) (N := some 113) #[true, true, true, true, true, false, true, true, false, true, false] rfl rfl (one_of HT_.out (by kernel_rfl)) (by decide) (fun K hK => ?_)
          refine Kd.R_lit_step k26 _ 26 ?hg (N := 113) ?hd (xs := ([(⟨a1_0, a1_1, a1_2, a1_3, a1_4, a1_5⟩ : S26)] : List (S26))) (inner := [.int .i64 a1_0, .int .i64 a1_1, .int .i64 a1_2, .int .i64 a1_3, .int .i64 a1_4, .int .i64 a1_5]) (ok := fun _ => True) (okp := fun _ => True) ?hr ?hp (fun _ hk => hk) trivial (Below.refl _ _) (Nat.le_refl _) (by simp) ?_; (case hd => rfl); (case hg => rfl); (case hr => first | (go_simp; done) | (go_simp; rfl)); (case hp => exact (Reps.c6 (show Kd.M k26 _ _ _ (⟨a1_0, a1_1, a1_2, a1_3, a1_4, a1_5⟩ : S26) [.int .i64 a1_0, .int .i64 a1_1, .int .i64 a1_2, .int .i64 a1_3, .int .i64 a1_4, .int .i64 a1_5] from (k26_mkM _ _ _ (⟨a1_0, a1_1, a1_2, a1_3, a1_4, a1_5⟩ : S26) )) (Reps.none _ _)))
          intro v131 w187 ho188 hb hg_ hnew_
          clear hg_ hnew_
          (first | rw [← Ny130.out] at ho188 | (simp only [Int.reduceToNat] at ho188; rw [← Ny130.out] at ho188))
          have n0_ := Aside0.mk (Kd.R_elder' (rowx HO129.out) (Kd.R_base ho188) hb); have n1_ := Aside0.mk (Kd.R_lower (Kd.R_newB (Kd.R_new' ho188 (Kd.R_lt (rowx HO129.out))) (g := gb101) (o := .cells #[.int .i64 a1_0, .int .i64 a1_1, .int .i64 a1_2, .int .i64 a1_3, .int .i64 a1_4, .int .i64 a1_5] 26 (0, 0)) blkx) (below_size bel)); have n2_ := Aside0.mk (blk_below (g := gb101) (o := .cells #[.int .i64 a1_0, .int .i64 a1_1, .int .i64 a1_2, .int .i64 a1_3, .int .i64 a1_4, .int .i64 a1_5] 26 (0, 0)) blkx hb); have n3_ := Aside0.mk (blk_below (g := gb141) (o := .cells #[.int .i64 0, .int .i64 0, .int .i64 0, .int .i64 0, .int .i64 0] 37 (0, 0)) blkx hb); have n4_ := Aside0.mk (below_step bel hb); clear HO129; clear BK101; clear BK141; clear HB; have HO129 := n0_; have HO132 := n1_; have BK101 := n2_; have BK141 := n3_; have HB := n4_; clear n0_ n1_ n2_ n3_ n4_; clear hb ho188
          refine hK.out _ _ ⟨(blk_cell BK101.out 0).trans rfl, (blk_cell BK101.out 1).trans rfl, (blk_cell BK101.out 2).trans rfl, (blk_cell BK101.out 3).trans rfl, (blk_cell BK101.out 4).trans rfl, (blk_cell BK101.out 5).trans rfl⟩ (fun hHeld => ?_)
          clear hK K
          refine norm_ (a' := ?_) ?_ ?_
          rotate_left
          ·show Act.put _ (some 113) _ = _
           simp only [Act.put, List.setIfInBounds_toArray, List.set_cons_zero, List.set_cons_succ, i64_w, i32_w]
           rfl
          exact norm_ zPA0 (hJ0_2_4_9 (v125, v128, v131, gb141) _ ⟨hHeld, (by (with_reducible repeat (first | apply Kd.R_alloc | apply Kd.R_drewN | apply Kd.R_drew)); exact Kd.R_mono HO129.out (fun _ hk => ⟨hk.2, hk.1⟩)), (by (with_reducible repeat (first | apply Kd.R_alloc | apply Kd.R_drewN | apply Kd.R_drew)); exact Kd.R_mono HO132.out (fun _ hk => ⟨hk.1.2, hk.2⟩)), blkx, blkx, GW141.out, GE141.out, NB101_141.out, NB141_101.out, bel⟩)
        ·skip
         rintro ⟨v125, v128, v131⟩ w187 ⟨hS_, h0_, h1_, h2_, h3_⟩
         have n0_ : Aside0 (Kd.R k26 26 w187 w.heap.size (fun k_ => some k_ ≠ (v131 : Value).ownBlock ∧ k_ ≠ gb101) v128 y127) := ⟨h0_⟩; have n1_ : Aside0 (Kd.R k26 26 w187 w.heap.size (fun k_ => some k_ ≠ (v128 : Value).ownBlock ∧ k_ ≠ gb101) v131 y130) := ⟨h1_⟩; have n2_ : Aside0 (w187.heap[gb101]? = some (.cells #[.int .i64 a1_0, .int .i64 a1_1, .int .i64 a1_2, .int .i64 a1_3, .int .i64 a1_4, .int .i64 a1_5] 26 (0, 0))) := ⟨h2_⟩; have n3_ : Aside0 (Below w.heap.size w w187) := ⟨h3_⟩; clear BK101; clear HB; clear h0_ h1_ h2_ h3_; have HO129 := n0_; have HO132 := n1_; have BK101 := n2_; have HB := n3_; clear n0_ n1_ n2_ n3_; have hHeld : w187.cell? ⟨gb101, 0, none⟩ = some (.int .i64 a1_0) ∧ w187.cell? ⟨gb101, 1, none⟩ = some (.int .i64 a1_1) ∧ w187.cell? ⟨gb101, 2, none⟩ = some (.int .i64 a1_2) ∧ w187.cell? ⟨gb101, 3, none⟩ = some (.int .i64 a1_3) ∧ w187.cell? ⟨gb101, 4, none⟩ = some (.int .i64 a1_4) ∧ w187.cell? ⟨gb101, 5, none⟩ = some (.int .i64 a1_5) := hS_; obtain ⟨Ao189, co189, eo189⟩ := Kd.R_slice HO132.out
         (first | subst eo189 | (injection eo189 with f1_ f2_ f3_; have f4_ := f1_.symm; have f5_ := f3_.symm; clear f1_ f2_ f3_; subst f4_; subst f5_))
         refine norm_ (a' := ?_) ?_ ?_
         rotate_left
         ·simp only [putAll, Act.put, List.setIfInBounds_toArray, List.set_cons_zero, List.set_cons_succ]
          rfl
         refine two_ (i := 5) (j := 9) (Ni := some 114) (Nj := some 7) #[true, true, true, true, true, true, true, true, false, false, false] #[true, true, true, true, true, false, true, true, false, true, false] rfl rfl rfl rfl (two_of HT_.out (by kernel_rfl)) (by decide) (by decide) (fun K hK => ?_) (fun K hK => ?_)
         ·skip
          refine Kd.R_append_rows_step k26 (w0 := w) w.heap.size (by rfl) (.tmp 111) (.tmp 113) 23 26 (.agg #[(.int .i64 0), (.int .i64 0), (.int .i64 0), (.int .i64 0), (.int .i64 0), (.int .i64 0)]) 48 rfl Try.underlying23 info26 rfl (by decide) (by omega) v128 y127 y130 _ _ _ (fun k_ => some k_ ≠ (.slice Ao189 y130.length co189 : Value).ownBlock ∧ k_ ≠ gb101) (fun _ => False) rfl rfl ?aO ?aR (fun _ _ h => h) (fun _ h => h.elim) ?aF ?aB ?aS ?aL ?_
          (case aR => repeat (first | exact (Kd.R_reads' HO132.out).2.2 | (with_reducible refine Kd.C_alloc ?_ _) | (with_reducible refine Kd.C_drewN ?_ _) | (with_reducible refine Kd.C_drew ?_)))
          (case aB => exact bel)
          (case aF => exact (fun k_ hk => ⟨Kd.fresh' (Kd.R_lt (rowx HO132.out)) k_ hk, Kd.freshB (g := gb101) (o := .cells #[.int .i64 a1_0, .int .i64 a1_1, .int .i64 a1_2, .int .i64 a1_3, .int .i64 a1_4, .int .i64 a1_5] 26 (0, 0)) blkx k_ hk⟩))
          (case aO => exact (rowx HO129.out))
          (case aS => exact (below_size bel))
          (case aL => have := LMc177.out; omega)
          intro v134 w188 ho hb hg hat
          rw [← Ny133.out] at ho
          have n0_ := Aside0.mk (blk_grown (g := gb101) (o := .cells #[.int .i64 a1_0, .int .i64 a1_1, .int .i64 a1_2, .int .i64 a1_3, .int .i64 a1_4, .int .i64 a1_5] 26 (0, 0)) blkx hg (Kd.R_away HO129.out (fun _ hk => hk.2))); have n1_ := Aside0.mk (Kd.R_after (ok := (fun k_ => k_ ≠ gb101)) zPA12 hg hat); have n2_ := Aside0.mk (hb); have n3_ := Aside0.mk (ho); clear BK101; clear HO132; clear HB; clear HO129; have BK101 := n0_; have HO132 := n1_; have HB := n2_; have HO135 := n3_; clear n0_ n1_ n2_ n3_; clear ho hb hg hat
          refine hK.out _ _ ⟨(blk_cell BK101.out 0).trans rfl, (blk_cell BK101.out 1).trans rfl, (blk_cell BK101.out 2).trans rfl, (blk_cell BK101.out 3).trans rfl, (blk_cell BK101.out 4).trans rfl, (blk_cell BK101.out 5).trans rfl⟩ (fun hHeld => ?_)
          clear hK K
          refine norm_ (a' := ?_) ?_ ?_
          rotate_left
          ·show Act.put _ (some 114) _ = _
           simp only [Act.put, List.setIfInBounds_toArray, List.set_cons_zero, List.set_cons_succ, i64_w, i32_w]
           rfl
          exact norm_ zPA0 (hJ0_2_4_5 (v125, v128, .slice Ao189 y130.length co189, v134) _ ⟨hHeld, zPA12, (rowx HO135.out), blkx, bel⟩)
         ·skip
          refine box_step ?hg (N := 7) ?hd (cs := #[.int .i64 0, .int .i64 0, .int .i64 0, .int .i64 0, .int .i64 0]) (t := 37) ?hr ?_; (case hd => rfl); (case hg => rfl); (case hr => first | (go_simp; done) | (go_simp; rfl))
          intro gb141 hg w188 hbox hb
          have n0_ := Aside0.mk (Kd.R_below (rowx HO129.out) hb); have n1_ := Aside0.mk (Kd.R_below (rowx HO132.out) hb); have n2_ := Aside0.mk (blk_below (g := gb101) (o := .cells #[.int .i64 a1_0, .int .i64 a1_1, .int .i64 a1_2, .int .i64 a1_3, .int .i64 a1_4, .int .i64 a1_5] 26 (0, 0)) blkx hb); have n3_ := Aside0.mk (below_step bel hb); have n4_ := Aside0.mk (hbox); have n5_ := Aside0.mk ((by rw [hg]; exact (below_size bel) : w.heap.size ≤ gb141)); have n6_ := Aside0.mk ((by rw [hg]; exact (below_size bel) : w.heap.size ≤ gb141)); have n7_ := Aside0.mk ((by rw [hg]; exact Nat.ne_of_lt (blk_lt (g := gb101) (o := .cells #[.int .i64 a1_0, .int .i64 a1_1, .int .i64 a1_2, .int .i64 a1_3, .int .i64 a1_4, .int .i64 a1_5] 26 (0, 0)) blkx) : gb101 ≠ gb141)); have n8_ := Aside0.mk ((by rw [hg]; exact Nat.ne_of_gt (blk_lt (g := gb101) (o := .cells #[.int .i64 a1_0, .int .i64 a1_1, .int .i64 a1_2, .int .i64 a1_3, .int .i64 a1_4, .int .i64 a1_5] 26 (0, 0)) blkx) : gb141 ≠ gb101)); clear HO129; clear HO132; clear BK101; clear HB; have HO129 := n0_; have HO132 := n1_; have BK101 := n2_; have HB := n3_; have BK141 := n4_; have GW141 := n5_; have GE141 := n6_; have NB101_141 := n7_; have NB141_101 := n8_; clear n0_ n1_ n2_ n3_ n4_ n5_ n6_ n7_ n8_; clear hb hbox hg
          refine hK.out _ _ ⟨(blk_cell BK101.out 0).trans rfl, (blk_cell BK101.out 1).trans rfl, (blk_cell BK101.out 2).trans rfl, (blk_cell BK101.out 3).trans rfl, (blk_cell BK101.out 4).trans rfl, (blk_cell BK101.out 5).trans rfl⟩ (fun hHeld => ?_)
          clear hK K
          refine norm_ (a' := ?_) ?_ ?_
          rotate_left
          ·show Act.put _ (some 7) _ = _
           simp only [Act.put, List.setIfInBounds_toArray, List.set_cons_zero, List.set_cons_succ, i64_w, i32_w]
           rfl
          exact norm_ zPA0 (hJ0_2_4_9 (v125, v128, (.slice Ao189 y130.length co189), gb141) _ ⟨hHeld, (rowx HO129.out), (rowx HO132.out), blkx, blkx, GW141.out, GE141.out, NB101_141.out, NB141_101.out, bel⟩)
       ·skip
        rintro ⟨v125, v128, v131, gb141⟩ w188 ⟨hS_, h0_, h1_, h2_, h3_, h4_, h5_, h6_, h7_, h8_⟩
        have n0_ : Aside0 (Kd.R k26 26 w188 w.heap.size (fun k_ => some k_ ≠ (v131 : Value).ownBlock ∧ k_ ≠ gb101) v128 y127) := ⟨h0_⟩; have n1_ : Aside0 (Kd.R k26 26 w188 w.heap.size (fun k_ => some k_ ≠ (v128 : Value).ownBlock ∧ k_ ≠ gb101) v131 y130) := ⟨h1_⟩; have n2_ : Aside0 (w188.heap[gb101]? = some (.cells #[.int .i64 a1_0, .int .i64 a1_1, .int .i64 a1_2, .int .i64 a1_3, .int .i64 a1_4, .int .i64 a1_5] 26 (0, 0))) := ⟨h2_⟩; have n3_ : Aside0 (w188.heap[gb141]? = some (.cells #[.int .i64 0, .int .i64 0, .int .i64 0, .int .i64 0, .int .i64 0] 37 (0, 0))) := ⟨h3_⟩; have n4_ : Aside0 (w.heap.size ≤ gb141) := ⟨h4_⟩; have n5_ : Aside0 (w.heap.size ≤ gb141) := ⟨h5_⟩; have n6_ : Aside0 (gb101 ≠ gb141) := ⟨h6_⟩; have n7_ : Aside0 (gb141 ≠ gb101) := ⟨h7_⟩; have n8_ : Aside0 (Below w.heap.size w w188) := ⟨h8_⟩; clear BK101; clear HB; clear h0_ h1_ h2_ h3_ h4_ h5_ h6_ h7_ h8_; have HO129 := n0_; have HO132 := n1_; have BK101 := n2_; have BK141 := n3_; have GW141 := n4_; have GE141 := n5_; have NB101_141 := n6_; have NB141_101 := n7_; have HB := n8_; clear n0_ n1_ n2_ n3_ n4_ n5_ n6_ n7_ n8_; have hHeld : w188.cell? ⟨gb101, 0, none⟩ = some (.int .i64 a1_0) ∧ w188.cell? ⟨gb101, 1, none⟩ = some (.int .i64 a1_1) ∧ w188.cell? ⟨gb101, 2, none⟩ = some (.int .i64 a1_2) ∧ w188.cell? ⟨gb101, 3, none⟩ = some (.int .i64 a1_3) ∧ w188.cell? ⟨gb101, 4, none⟩ = some (.int .i64 a1_4) ∧ w188.cell? ⟨gb101, 5, none⟩ = some (.int .i64 a1_5) := hS_; obtain ⟨Ao190, co190, eo190⟩ := Kd.R_slice HO132.out
        (first | subst eo190 | (injection eo190 with f1_ f2_ f3_; have f4_ := f1_.symm; have f5_ := f3_.symm; clear f1_ f2_ f3_; subst f4_; subst f5_))
        refine norm_ (a' := ?_) ?_ ?_
        rotate_left
        ·simp only [putAll, Act.put, List.setIfInBounds_toArray, List.set_cons_zero, List.set_cons_succ]
         rfl
        refine one_ (i := 5) (N := some 114) #[true, true, true, true, true, true, true, true, false, true, false] rfl rfl (one_of HT_.out (by kernel_rfl)) (by decide) (fun K hK => ?_)
        refine Kd.R_append_rows_step k26 (w0 := w) w.heap.size (by rfl) (.tmp 111) (.tmp 113) 23 26 (.agg #[(.int .i64 0), (.int .i64 0), (.int .i64 0), (.int .i64 0), (.int .i64 0), (.int .i64 0)]) 48 rfl Try.underlying23 info26 rfl (by decide) (by omega) v128 y127 y130 _ _ _ (fun k_ => some k_ ≠ (.slice Ao190 y130.length co190 : Value).ownBlock ∧ k_ ≠ gb101) (fun _ => False) rfl rfl ?aO ?aR (fun _ _ h => h) (fun _ h => h.elim) ?aF ?aB ?aS ?aL ?_
        (case aR => repeat (first | exact (Kd.R_reads' HO132.out).2.2 | (with_reducible refine Kd.C_alloc ?_ _) | (with_reducible refine Kd.C_drewN ?_ _) | (with_reducible refine Kd.C_drew ?_)))
        (case aB => exact bel)
        (case aF => exact (fun k_ hk => ⟨Kd.fresh' (Kd.R_lt (rowx HO132.out)) k_ hk, Kd.freshB (g := gb101) (o := .cells #[.int .i64 a1_0, .int .i64 a1_1, .int .i64 a1_2, .int .i64 a1_3, .int .i64 a1_4, .int .i64 a1_5] 26 (0, 0)) blkx k_ hk⟩))
        (case aO => exact (rowx HO129.out))
        (case aS => exact (below_size bel))
        (case aL => have := LMc177.out; omega)
        intro v134 w189 ho hb hg hat
        rw [← Ny133.out] at ho
        have n0_ := Aside0.mk (blk_grown (g := gb101) (o := .cells #[.int .i64 a1_0, .int .i64 a1_1, .int .i64 a1_2, .int .i64 a1_3, .int .i64 a1_4, .int .i64 a1_5] 26 (0, 0)) blkx hg (Kd.R_away HO129.out (fun _ hk => hk.2))); have n1_ := Aside0.mk (Kd.R_after (ok := (fun k_ => k_ ≠ gb101)) zPA12 hg hat); have n2_ := Aside0.mk (blk_grown (g := gb141) (o := .cells #[.int .i64 0, .int .i64 0, .int .i64 0, .int .i64 0, .int .i64 0] 37 (0, 0)) blkx hg (Kd.R_ne HO129.out BK141.out (by decide))); have n3_ := Aside0.mk (hb); have n4_ := Aside0.mk (ho); clear BK101; clear HO132; clear BK141; clear HB; clear HO129; have BK101 := n0_; have HO132 := n1_; have BK141 := n2_; have HB := n3_; have HO135 := n4_; clear n0_ n1_ n2_ n3_ n4_; clear ho hb hg hat
        refine hK.out _ _ ⟨(blk_cell BK101.out 0).trans rfl, (blk_cell BK101.out 1).trans rfl, (blk_cell BK101.out 2).trans rfl, (blk_cell BK101.out 3).trans rfl, (blk_cell BK101.out 4).trans rfl, (blk_cell BK101.out 5).trans rfl⟩ (fun hHeld => ?_)
        clear hK K
        refine norm_ (a' := ?_) ?_ ?_
        rotate_left
        ·show Act.put _ (some 114) _ = _
         simp only [Act.put, List.setIfInBounds_toArray, List.set_cons_zero, List.set_cons_succ, i64_w, i32_w]
         rfl
        exact norm_ zPA0 (hJ0_2_4_5_9 (v125, v128, .slice Ao190 y130.length co190, v134, gb141) _ ⟨hHeld, zPA12, (rowx HO135.out), blkx, blkx, GW141.out, GE141.out, NB101_141.out, NB141_101.out, bel⟩)
      ·skip
       rintro ⟨v125, v128, v131, v134⟩ w189 ⟨hS_, h0_, h1_, h2_, h3_⟩
       have n0_ : Aside0 (Kd.R k26 26 w189 w.heap.size (fun k_ => some k_ ≠ (v134 : Value).ownBlock ∧ k_ ≠ gb101) v131 y130) := ⟨h0_⟩; have n1_ : Aside0 (Kd.R k26 26 w189 w.heap.size (fun k_ => some k_ ≠ (v131 : Value).ownBlock ∧ k_ ≠ gb101) v134 y133) := ⟨h1_⟩; have n2_ : Aside0 (w189.heap[gb101]? = some (.cells #[.int .i64 a1_0, .int .i64 a1_1, .int .i64 a1_2, .int .i64 a1_3, .int .i64 a1_4, .int .i64 a1_5] 26 (0, 0))) := ⟨h2_⟩; have n3_ : Aside0 (Below w.heap.size w w189) := ⟨h3_⟩; clear BK101; clear HB; clear h0_ h1_ h2_ h3_; have HO132 := n0_; have HO135 := n1_; have BK101 := n2_; have HB := n3_; clear n0_ n1_ n2_ n3_; have hHeld : w189.cell? ⟨gb101, 0, none⟩ = some (.int .i64 a1_0) ∧ w189.cell? ⟨gb101, 1, none⟩ = some (.int .i64 a1_1) ∧ w189.cell? ⟨gb101, 2, none⟩ = some (.int .i64 a1_2) ∧ w189.cell? ⟨gb101, 3, none⟩ = some (.int .i64 a1_3) ∧ w189.cell? ⟨gb101, 4, none⟩ = some (.int .i64 a1_4) ∧ w189.cell? ⟨gb101, 5, none⟩ = some (.int .i64 a1_5) := hS_; obtain ⟨Ao190, co190, eo190⟩ := Kd.R_slice HO135.out
       (first | subst eo190 | (injection eo190 with f1_ f2_ f3_; have f4_ := f1_.symm; have f5_ := f3_.symm; clear f1_ f2_ f3_; subst f4_; subst f5_))
       refine norm_ (a' := ?_) ?_ ?_
       rotate_left
       ·simp only [putAll, Act.put, List.setIfInBounds_toArray, List.set_cons_zero, List.set_cons_succ]
        rfl
       refine two_ (i := 8) (j := 9) (Ni := some 117) (Nj := some 7) #[true, true, true, true, true, true, true, true, true, false, false] #[true, true, true, true, true, true, true, true, false, true, false] rfl rfl rfl rfl (two_of HT_.out (by kernel_rfl)) (by decide) (by decide) (fun K hK => ?_) (fun K hK => ?_)
       ·skip
        refine goes_ Try.func39 (by kernel_rfl) rfl #[.slice Ao190 y133.length co190, .int .i64 a1_3] (by rfl) rfl rfl argx ?_
        with_reducible refine (customsref27_balance.calls kj4 _ _ y133 a1_3 t136 t137 t138 t139 t140 _ ?side1 ?side2 A178.out).mono ?_
        (case side1 => repeat (first | exact (Kd.R_reads' HO135.out).2.2 | (with_reducible refine Kd.C_alloc ?_ _) | (with_reducible refine Kd.C_drewN ?_ _) | (with_reducible refine Kd.C_drew ?_)))
        (case side2 => exact (Kd.R_reads' HO135.out).2.1)
        rintro e w191 ⟨rfl, hb⟩
        refine ⟨_, rfl, ?_⟩
        have n0_ := Aside0.mk (Kd.R_below (rowx HO132.out) hb); have n1_ := Aside0.mk (Kd.R_below (rowx HO135.out) hb); have n2_ := Aside0.mk (blk_below (g := gb101) (o := .cells #[.int .i64 a1_0, .int .i64 a1_1, .int .i64 a1_2, .int .i64 a1_3, .int .i64 a1_4, .int .i64 a1_5] 26 (0, 0)) blkx hb); have n3_ := Aside0.mk (below_step bel hb); clear HO132; clear HO135; clear BK101; clear HB; have HO132 := n0_; have HO135 := n1_; have BK101 := n2_; have HB := n3_; clear n0_ n1_ n2_ n3_
        (try clear hb)
        (try clear hb2)
        (try clear hk)
        (try clear hi)
        refine hK.out _ _ ⟨(blk_cell BK101.out 0).trans rfl, (blk_cell BK101.out 1).trans rfl, (blk_cell BK101.out 2).trans rfl, (blk_cell BK101.out 3).trans rfl, (blk_cell BK101.out 4).trans rfl, (blk_cell BK101.out 5).trans rfl⟩ (fun hHeld => ?_)
        clear hK K
        refine norm_ (a' := ?_) ?_ ?_
        rotate_left
        ·show Act.put _ (some 117) _ = _
         simp only [Act.put, List.setIfInBounds_toArray, List.set_cons_zero, List.set_cons_succ, i64_w, i32_w]
         rfl
        exact norm_ zPA0 (hJ0_2_4_5_8 (v125, v128, v131, .slice Ao190 y133.length co190) _ ⟨hHeld, (rowx HO132.out), (rowx HO135.out), blkx, bel⟩)
       ·skip
        refine box_step ?hg (N := 7) ?hd (cs := #[.int .i64 0, .int .i64 0, .int .i64 0, .int .i64 0, .int .i64 0]) (t := 37) ?hr ?_; (case hd => rfl); (case hg => rfl); (case hr => first | (go_simp; done) | (go_simp; rfl))
        intro gb141 hg w190 hbox hb
        have n0_ := Aside0.mk (Kd.R_below (rowx HO132.out) hb); have n1_ := Aside0.mk (Kd.R_below (rowx HO135.out) hb); have n2_ := Aside0.mk (blk_below (g := gb101) (o := .cells #[.int .i64 a1_0, .int .i64 a1_1, .int .i64 a1_2, .int .i64 a1_3, .int .i64 a1_4, .int .i64 a1_5] 26 (0, 0)) blkx hb); have n3_ := Aside0.mk (below_step bel hb); have n4_ := Aside0.mk (hbox); have n5_ := Aside0.mk ((by rw [hg]; exact (below_size bel) : w.heap.size ≤ gb141)); have n6_ := Aside0.mk ((by rw [hg]; exact (below_size bel) : w.heap.size ≤ gb141)); have n7_ := Aside0.mk ((by rw [hg]; exact Nat.ne_of_lt (blk_lt (g := gb101) (o := .cells #[.int .i64 a1_0, .int .i64 a1_1, .int .i64 a1_2, .int .i64 a1_3, .int .i64 a1_4, .int .i64 a1_5] 26 (0, 0)) blkx) : gb101 ≠ gb141)); have n8_ := Aside0.mk ((by rw [hg]; exact Nat.ne_of_gt (blk_lt (g := gb101) (o := .cells #[.int .i64 a1_0, .int .i64 a1_1, .int .i64 a1_2, .int .i64 a1_3, .int .i64 a1_4, .int .i64 a1_5] 26 (0, 0)) blkx) : gb141 ≠ gb101)); clear HO132; clear HO135; clear BK101; clear HB; have HO132 := n0_; have HO135 := n1_; have BK101 := n2_; have HB := n3_; have BK141 := n4_; have GW141 := n5_; have GE141 := n6_; have NB101_141 := n7_; have NB141_101 := n8_; clear n0_ n1_ n2_ n3_ n4_ n5_ n6_ n7_ n8_; clear hb hbox hg
        refine hK.out _ _ ⟨(blk_cell BK101.out 0).trans rfl, (blk_cell BK101.out 1).trans rfl, (blk_cell BK101.out 2).trans rfl, (blk_cell BK101.out 3).trans rfl, (blk_cell BK101.out 4).trans rfl, (blk_cell BK101.out 5).trans rfl⟩ (fun hHeld => ?_)
        clear hK K
        refine norm_ (a' := ?_) ?_ ?_
        rotate_left
        ·show Act.put _ (some 7) _ = _
         simp only [Act.put, List.setIfInBounds_toArray, List.set_cons_zero, List.set_cons_succ, i64_w, i32_w]
         rfl
        exact norm_ zPA0 (hJ0_2_4_5_9 (v125, v128, v131, (.slice Ao190 y133.length co190), gb141) _ ⟨hHeld, (rowx HO132.out), (rowx HO135.out), blkx, blkx, GW141.out, GE141.out, NB101_141.out, NB141_101.out, bel⟩)
     ·skip
      rintro ⟨v125, v128, v131, v134, gb141⟩ w190 ⟨hS_, h0_, h1_, h2_, h3_, h4_, h5_, h6_, h7_, h8_⟩
      have n0_ : Aside0 (Kd.R k26 26 w190 w.heap.size (fun k_ => some k_ ≠ (v134 : Value).ownBlock ∧ k_ ≠ gb101) v131 y130) := ⟨h0_⟩; have n1_ : Aside0 (Kd.R k26 26 w190 w.heap.size (fun k_ => some k_ ≠ (v131 : Value).ownBlock ∧ k_ ≠ gb101) v134 y133) := ⟨h1_⟩; have n2_ : Aside0 (w190.heap[gb101]? = some (.cells #[.int .i64 a1_0, .int .i64 a1_1, .int .i64 a1_2, .int .i64 a1_3, .int .i64 a1_4, .int .i64 a1_5] 26 (0, 0))) := ⟨h2_⟩; have n3_ : Aside0 (w190.heap[gb141]? = some (.cells #[.int .i64 0, .int .i64 0, .int .i64 0, .int .i64 0, .int .i64 0] 37 (0, 0))) := ⟨h3_⟩; have n4_ : Aside0 (w.heap.size ≤ gb141) := ⟨h4_⟩; have n5_ : Aside0 (w.heap.size ≤ gb141) := ⟨h5_⟩; have n6_ : Aside0 (gb101 ≠ gb141) := ⟨h6_⟩; have n7_ : Aside0 (gb141 ≠ gb101) := ⟨h7_⟩; have n8_ : Aside0 (Below w.heap.size w w190) := ⟨h8_⟩; clear BK101; clear HB; clear h0_ h1_ h2_ h3_ h4_ h5_ h6_ h7_ h8_; have HO132 := n0_; have HO135 := n1_; have BK101 := n2_; have BK141 := n3_; have GW141 := n4_; have GE141 := n5_; have NB101_141 := n6_; have NB141_101 := n7_; have HB := n8_; clear n0_ n1_ n2_ n3_ n4_ n5_ n6_ n7_ n8_; have hHeld : w190.cell? ⟨gb101, 0, none⟩ = some (.int .i64 a1_0) ∧ w190.cell? ⟨gb101, 1, none⟩ = some (.int .i64 a1_1) ∧ w190.cell? ⟨gb101, 2, none⟩ = some (.int .i64 a1_2) ∧ w190.cell? ⟨gb101, 3, none⟩ = some (.int .i64 a1_3) ∧ w190.cell? ⟨gb101, 4, none⟩ = some (.int .i64 a1_4) ∧ w190.cell? ⟨gb101, 5, none⟩ = some (.int .i64 a1_5) := hS_; obtain ⟨Ao191, co191, eo191⟩ := Kd.R_slice HO135.out
      (first | subst eo191 | (injection eo191 with f1_ f2_ f3_; have f4_ := f1_.symm; have f5_ := f3_.symm; clear f1_ f2_ f3_; subst f4_; subst f5_))
      refine norm_ (a' := ?_) ?_ ?_
      rotate_left
      ·simp only [putAll, Act.put, List.setIfInBounds_toArray, List.set_cons_zero, List.set_cons_succ]
       rfl
      refine one_ (i := 8) (N := some 117) #[true, true, true, true, true, true, true, true, true, true, false] rfl rfl (one_of HT_.out (by kernel_rfl)) (by decide) (fun K hK => ?_)
      refine goes_ Try.func39 (by kernel_rfl) rfl #[.slice Ao191 y133.length co191, .int .i64 a1_3] (by rfl) rfl rfl argx ?_
      with_reducible refine (customsref27_balance.calls kj4 _ _ y133 a1_3 t136 t137 t138 t139 t140 _ ?side1 ?side2 A178.out).mono ?_
      (case side1 => repeat (first | exact (Kd.R_reads' HO135.out).2.2 | (with_reducible refine Kd.C_alloc ?_ _) | (with_reducible refine Kd.C_drewN ?_ _) | (with_reducible refine Kd.C_drew ?_)))
      (case side2 => exact (Kd.R_reads' HO135.out).2.1)
      rintro e w192 ⟨rfl, hb⟩
      refine ⟨_, rfl, ?_⟩
      have n0_ := Aside0.mk (Kd.R_below (rowx HO132.out) hb); have n1_ := Aside0.mk (Kd.R_below (rowx HO135.out) hb); have n2_ := Aside0.mk (blk_below (g := gb101) (o := .cells #[.int .i64 a1_0, .int .i64 a1_1, .int .i64 a1_2, .int .i64 a1_3, .int .i64 a1_4, .int .i64 a1_5] 26 (0, 0)) blkx hb); have n3_ := Aside0.mk (blk_below (g := gb141) (o := .cells #[.int .i64 0, .int .i64 0, .int .i64 0, .int .i64 0, .int .i64 0] 37 (0, 0)) blkx hb); have n4_ := Aside0.mk (below_step bel hb); clear HO132; clear HO135; clear BK101; clear BK141; clear HB; have HO132 := n0_; have HO135 := n1_; have BK101 := n2_; have BK141 := n3_; have HB := n4_; clear n0_ n1_ n2_ n3_ n4_
      (try clear hb)
      (try clear hb2)
      (try clear hk)
      (try clear hi)
      refine hK.out _ _ ⟨(blk_cell BK101.out 0).trans rfl, (blk_cell BK101.out 1).trans rfl, (blk_cell BK101.out 2).trans rfl, (blk_cell BK101.out 3).trans rfl, (blk_cell BK101.out 4).trans rfl, (blk_cell BK101.out 5).trans rfl⟩ (fun hHeld => ?_)
      clear hK K
      refine norm_ (a' := ?_) ?_ ?_
      rotate_left
      ·show Act.put _ (some 117) _ = _
       simp only [Act.put, List.setIfInBounds_toArray, List.set_cons_zero, List.set_cons_succ, i64_w, i32_w]
       rfl
      exact norm_ zPA0 (hJ0_2_4_5_8_9 (v125, v128, v131, .slice Ao191 y133.length co191, gb141) _ ⟨hHeld, (rowx HO132.out), (rowx HO135.out), blkx, blkx, GW141.out, GE141.out, NB101_141.out, NB141_101.out, bel⟩)
    ·skip
     rintro ⟨v125, v128, v131, v134⟩ w191 ⟨hS_, h0_, h1_, h2_, h3_⟩
     have n0_ : Aside0 (Kd.R k26 26 w191 w.heap.size (fun k_ => some k_ ≠ (v134 : Value).ownBlock ∧ k_ ≠ gb101) v131 y130) := ⟨h0_⟩; have n1_ : Aside0 (Kd.R k26 26 w191 w.heap.size (fun k_ => some k_ ≠ (v131 : Value).ownBlock ∧ k_ ≠ gb101) v134 y133) := ⟨h1_⟩; have n2_ : Aside0 (w191.heap[gb101]? = some (.cells #[.int .i64 a1_0, .int .i64 a1_1, .int .i64 a1_2, .int .i64 a1_3, .int .i64 a1_4, .int .i64 a1_5] 26 (0, 0))) := ⟨h2_⟩; have n3_ : Aside0 (Below w.heap.size w w191) := ⟨h3_⟩; clear BK101; clear HB; clear h0_ h1_ h2_ h3_; have HO132 := n0_; have HO135 := n1_; have BK101 := n2_; have HB := n3_; clear n0_ n1_ n2_ n3_; have hHeld : w191.cell? ⟨gb101, 0, none⟩ = some (.int .i64 a1_0) ∧ w191.cell? ⟨gb101, 1, none⟩ = some (.int .i64 a1_1) ∧ w191.cell? ⟨gb101, 2, none⟩ = some (.int .i64 a1_2) ∧ w191.cell? ⟨gb101, 3, none⟩ = some (.int .i64 a1_3) ∧ w191.cell? ⟨gb101, 4, none⟩ = some (.int .i64 a1_4) ∧ w191.cell? ⟨gb101, 5, none⟩ = some (.int .i64 a1_5) := hS_
     refine norm_ (a' := ?_) ?_ ?_
     rotate_left
     ·simp only [putAll, Act.put, List.setIfInBounds_toArray, List.set_cons_zero, List.set_cons_succ]
      rfl
     refine one_ (i := 9) (N := some 7) #[true, true, true, true, true, true, true, true, true, true, false] rfl rfl (one_of HT_.out (by kernel_rfl)) (by decide) (fun K hK => ?_)
     refine box_step ?hg (N := 7) ?hd (cs := #[.int .i64 0, .int .i64 0, .int .i64 0, .int .i64 0, .int .i64 0]) (t := 37) ?hr ?_; (case hd => rfl); (case hg => rfl); (case hr => first | (go_simp; done) | (go_simp; rfl))
     intro gb141 hg w192 hbox hb
     have n0_ := Aside0.mk (Kd.R_below (rowx HO132.out) hb); have n1_ := Aside0.mk (Kd.R_below (rowx HO135.out) hb); have n2_ := Aside0.mk (blk_below (g := gb101) (o := .cells #[.int .i64 a1_0, .int .i64 a1_1, .int .i64 a1_2, .int .i64 a1_3, .int .i64 a1_4, .int .i64 a1_5] 26 (0, 0)) blkx hb); have n3_ := Aside0.mk (below_step bel hb); have n4_ := Aside0.mk (hbox); have n5_ := Aside0.mk ((by rw [hg]; exact (below_size bel) : w.heap.size ≤ gb141)); have n6_ := Aside0.mk ((by rw [hg]; exact (below_size bel) : w.heap.size ≤ gb141)); have n7_ := Aside0.mk ((by rw [hg]; exact Nat.ne_of_lt (blk_lt (g := gb101) (o := .cells #[.int .i64 a1_0, .int .i64 a1_1, .int .i64 a1_2, .int .i64 a1_3, .int .i64 a1_4, .int .i64 a1_5] 26 (0, 0)) blkx) : gb101 ≠ gb141)); have n8_ := Aside0.mk ((by rw [hg]; exact Nat.ne_of_gt (blk_lt (g := gb101) (o := .cells #[.int .i64 a1_0, .int .i64 a1_1, .int .i64 a1_2, .int .i64 a1_3, .int .i64 a1_4, .int .i64 a1_5] 26 (0, 0)) blkx) : gb141 ≠ gb101)); clear HO132; clear HO135; clear BK101; clear HB; have HO132 := n0_; have HO135 := n1_; have BK101 := n2_; have HB := n3_; have BK141 := n4_; have GW141 := n5_; have GE141 := n6_; have NB101_141 := n7_; have NB141_101 := n8_; clear n0_ n1_ n2_ n3_ n4_ n5_ n6_ n7_ n8_; clear hb hbox hg
     refine hK.out _ _ ⟨(blk_cell BK101.out 0).trans rfl, (blk_cell BK101.out 1).trans rfl, (blk_cell BK101.out 2).trans rfl, (blk_cell BK101.out 3).trans rfl, (blk_cell BK101.out 4).trans rfl, (blk_cell BK101.out 5).trans rfl⟩ (fun hHeld => ?_)
     clear hK K
     refine norm_ (a' := ?_) ?_ ?_
     rotate_left
     ·show Act.put _ (some 7) _ = _
      simp only [Act.put, List.setIfInBounds_toArray, List.set_cons_zero, List.set_cons_succ, i64_w, i32_w]
      rfl
     exact norm_ zPA0 (hJ0_2_4_5_8_9 (v125, v128, v131, v134, gb141) _ ⟨hHeld, (rowx HO132.out), (rowx HO135.out), blkx, blkx, GW141.out, GE141.out, NB101_141.out, NB141_101.out, bel⟩)
   rintro ⟨v125, v128, v131, v134, gb141⟩ w192 ⟨hS_, h0_, h1_, h2_, h3_, h4_, h5_, h6_, h7_, h8_⟩
   have n0_ : Aside0 (Kd.R k26 26 w192 w.heap.size (fun k_ => some k_ ≠ (v134 : Value).ownBlock ∧ k_ ≠ gb101) v131 y130) := ⟨h0_⟩; have n1_ : Aside0 (Kd.R k26 26 w192 w.heap.size (fun k_ => some k_ ≠ (v131 : Value).ownBlock ∧ k_ ≠ gb101) v134 y133) := ⟨h1_⟩; have n2_ : Aside0 (w192.heap[gb101]? = some (.cells #[.int .i64 a1_0, .int .i64 a1_1, .int .i64 a1_2, .int .i64 a1_3, .int .i64 a1_4, .int .i64 a1_5] 26 (0, 0))) := ⟨h2_⟩; have n3_ : Aside0 (w192.heap[gb141]? = some (.cells #[.int .i64 0, .int .i64 0, .int .i64 0, .int .i64 0, .int .i64 0] 37 (0, 0))) := ⟨h3_⟩; have n4_ : Aside0 (w.heap.size ≤ gb141) := ⟨h4_⟩; have n5_ : Aside0 (w.heap.size ≤ gb141) := ⟨h5_⟩; have n6_ : Aside0 (gb101 ≠ gb141) := ⟨h6_⟩; have n7_ : Aside0 (gb141 ≠ gb101) := ⟨h7_⟩; have n8_ : Aside0 (Below w.heap.size w w192) := ⟨h8_⟩; clear BK101; clear HB; clear h0_ h1_ h2_ h3_ h4_ h5_ h6_ h7_ h8_; have HO132 := n0_; have HO135 := n1_; have BK101 := n2_; have BK141 := n3_; have GW141 := n4_; have GE141 := n5_; have NB101_141 := n6_; have NB141_101 := n7_; have HB := n8_; clear n0_ n1_ n2_ n3_ n4_ n5_ n6_ n7_ n8_; have hHeld : w192.cell? ⟨gb101, 0, none⟩ = some (.int .i64 a1_0) ∧ w192.cell? ⟨gb101, 1, none⟩ = some (.int .i64 a1_1) ∧ w192.cell? ⟨gb101, 2, none⟩ = some (.int .i64 a1_2) ∧ w192.cell? ⟨gb101, 3, none⟩ = some (.int .i64 a1_3) ∧ w192.cell? ⟨gb101, 4, none⟩ = some (.int .i64 a1_4) ∧ w192.cell? ⟨gb101, 5, none⟩ = some (.int .i64 a1_5) := hS_
   refine norm_ (a' := ?_) ?_ ?_
   rotate_left
   ·simp only [putAll, Act.put, List.setIfInBounds_toArray, List.set_cons_zero, List.set_cons_succ]
    rfl
   refine one_ (i := 10) (N := none) #[true, true, true, true, true, true, true, true, true, true, true] rfl rfl (one_of HT_.out (by kernel_rfl)) (by decide) (fun K hK => ?_)
   have hs193 : w192.cell? ⟨gb141, 0, none⟩ = some (.int .i64 0) := (blk_cell BK141.out 0).trans rfl; have hfs193 := blk_frozen BK141.out 0; have hns193_0 := NB101_141.out; have hms193_0 := NB141_101.out; have hs194 : w192.cell? ⟨gb141, 1, none⟩ = some (.int .i64 0) := (blk_cell BK141.out 1).trans rfl; have hfs194 := blk_frozen BK141.out 1; have hns194_0 := NB101_141.out; have hms194_0 := NB141_101.out; have hs195 : w192.cell? ⟨gb141, 2, none⟩ = some (.int .i64 0) := (blk_cell BK141.out 2).trans rfl; have hfs195 := blk_frozen BK141.out 2; have hns195_0 := NB101_141.out; have hms195_0 := NB141_101.out; have hs196 : w192.cell? ⟨gb141, 3, none⟩ = some (.int .i64 0) := (blk_cell BK141.out 3).trans rfl; have hfs196 := blk_frozen BK141.out 3; have hns196_0 := NB101_141.out; have hms196_0 := NB141_101.out; have hs197 : w192.cell? ⟨gb141, 4, none⟩ = some (.int .i64 0) := (blk_cell BK141.out 4).trans rfl; have hfs197 := blk_frozen BK141.out 4; have hns197_0 := NB101_141.out; have hms197_0 := NB141_101.out
   refine skip_ (w1 := ?_) (by rfl) rfl ?_ ?_
   rotate_left
   ·go_simp
    rfl
   refine hK.out _ _ ⟨((cell_far (p := ⟨gb141, _, none⟩) NB101_141.out _).trans (((cell_far (p := ⟨gb141, _, none⟩) NB101_141.out _).trans (((cell_far (p := ⟨gb141, _, none⟩) NB101_141.out _).trans (((cell_far (p := ⟨gb141, _, none⟩) NB101_141.out _).trans (((cell_far (p := ⟨gb141, _, none⟩) NB101_141.out _).trans (hHeld.1)))))))))), ((cell_far (p := ⟨gb141, _, none⟩) NB101_141.out _).trans (((cell_far (p := ⟨gb141, _, none⟩) NB101_141.out _).trans (((cell_far (p := ⟨gb141, _, none⟩) NB101_141.out _).trans (((cell_far (p := ⟨gb141, _, none⟩) NB101_141.out _).trans (((cell_far (p := ⟨gb141, _, none⟩) NB101_141.out _).trans (hHeld.2.1)))))))))), ((cell_far (p := ⟨gb141, _, none⟩) NB101_141.out _).trans (((cell_far (p := ⟨gb141, _, none⟩) NB101_141.out _).trans (((cell_far (p := ⟨gb141, _, none⟩) NB101_141.out _).trans (((cell_far (p := ⟨gb141, _, none⟩) NB101_141.out _).trans (((cell_far (p := ⟨gb141, _, none⟩) NB101_141.out _).trans (hHeld.2.2.1)))))))))), ((cell_far (p := ⟨gb141, _, none⟩) NB101_141.out _).trans (((cell_far (p := ⟨gb141, _, none⟩) NB101_141.out _).trans (((cell_far (p := ⟨gb141, _, none⟩) NB101_141.out _).trans (((cell_far (p := ⟨gb141, _, none⟩) NB101_141.out _).trans (((cell_far (p := ⟨gb141, _, none⟩) NB101_141.out _).trans (hHeld.2.2.2.1)))))))))), ((cell_far (p := ⟨gb141, _, none⟩) NB101_141.out _).trans (((cell_far (p := ⟨gb141, _, none⟩) NB101_141.out _).trans (((cell_far (p := ⟨gb141, _, none⟩) NB101_141.out _).trans (((cell_far (p := ⟨gb141, _, none⟩) NB101_141.out _).trans (((cell_far (p := ⟨gb141, _, none⟩) NB101_141.out _).trans (hHeld.2.2.2.2.1)))))))))), ((cell_far (p := ⟨gb141, _, none⟩) NB101_141.out _).trans (((cell_far (p := ⟨gb141, _, none⟩) NB101_141.out _).trans (((cell_far (p := ⟨gb141, _, none⟩) NB101_141.out _).trans (((cell_far (p := ⟨gb141, _, none⟩) NB101_141.out _).trans (((cell_far (p := ⟨gb141, _, none⟩) NB101_141.out _).trans (hHeld.2.2.2.2.2))))))))))⟩ (fun hHeld => ?_)
   clear hK K
   refine done_ (done_of HT_.out (by kernel_rfl)) ?_
   have hnb198 := NB141_101.out; have hnc198 := NB101_141.out; obtain ⟨hcz199_0, hcz199_1, hcz199_2, hcz199_3, hcz199_4, hfz199_0, hfz199_1, hfz199_2, hfz199_3, hfz199_4⟩ := cells5 BK141.out; have H := NH_.out; clear NH_
   by_cases cs0 : t137 < 0
   ·rw [if_pos cs0] at H
    have cs0b0 : decide (t137 < 0) = true := decide_eq_true cs0; clear cs0; obtain rfl := Option.some.inj H
    try go_wp2
    go_ret
    exact ⟨by first | rfl | (simp [errW_none, errW_some] <;> rfl) | (simp [*, errW_none, errW_some] <;> rfl), bel⟩
   ·rw [if_neg cs0] at H
    have cs0b0 : decide (t137 < 0) = false := decide_eq_false cs0; clear cs0
    by_cases cs1 : t138 < 0
    ·rw [if_pos cs1] at H
     have cs1b0 : decide (t138 < 0) = true := decide_eq_true cs1; clear cs1; obtain rfl := Option.some.inj H
     try go_wp2
     go_ret
     exact ⟨by first | rfl | (simp [errW_none, errW_some] <;> rfl) | (simp [*, errW_none, errW_some] <;> rfl), bel⟩
    ·rw [if_neg cs1] at H
     have cs1b0 : decide (t138 < 0) = false := decide_eq_false cs1; clear cs1
     by_cases cs2 : t139 < 0
     ·rw [if_pos cs2] at H
      have cs2b0 : decide (t139 < 0) = true := decide_eq_true cs2; clear cs2; obtain rfl := Option.some.inj H
      try go_wp2
      go_ret
      exact ⟨by first | rfl | (simp [errW_none, errW_some] <;> rfl) | (simp [*, errW_none, errW_some] <;> rfl), bel⟩
     ·rw [if_neg cs2] at H
      have cs2b0 : decide (t139 < 0) = false := decide_eq_false cs2; clear cs2
      by_cases cs3 : t140 < 0
      ·rw [if_pos cs3] at H
       have cs3b0 : decide (t140 < 0) = true := decide_eq_true cs3; clear cs3; obtain rfl := Option.some.inj H
       try go_wp2
       go_ret
       exact ⟨by first | rfl | (simp [errW_none, errW_some] <;> rfl) | (simp [*, errW_none, errW_some] <;> rfl), bel⟩
      ·rw [if_neg cs3] at H
       have cs3b0 : decide (t140 < 0) = false := decide_eq_false cs3; clear cs3; obtain rfl := Option.some.inj H
       try go_wp2
       go_ret
       exact ⟨by first | rfl | (simp [errW_none, errW_some] <;> rfl) | (simp [*, errW_none, errW_some] <;> rfl), bel⟩
  ·rw [if_neg c177] at H
   exact absurd H (by simp)
 ·rw [if_neg c176] at H
  exact absurd H (by simp)
set_option maxHeartbeats 8000000 in
set_option maxRecDepth 100000 in
theorem customsref27_may.calls (k : Nat) (A0 : Option Addr) (c0 : Nat) (l0 : List (S26)) (a1_0 : Int) (a1_1 : Int) (a1_2 : Int) (a1_3 : Int) (a1_4 : Int) (a1_5 : Int) (r : Int) (w : World) (hr0 : Kd.C k26 w A0 l0.length l0) (hc0 : l0.length ≤ c0) (h : customsref27_may.f k l0 a1_0 a1_1 a1_2 a1_3 a1_4 a1_5 = some r) :
  Calls Try.prog 40 #[.slice A0 l0.length c0, .agg #[.int .i64 a1_0, .int .i64 a1_1, .int .i64 a1_2, .int .i64 a1_3, .int .i64 a1_4, .int .i64 a1_5]] w fun e w' => e = .returned (.int .i64 r) ∧ Below w.heap.size w w' := by
 have hu26 := Try.underlying26; have hu37 := Try.underlying37; have HR0 := Aside0.mk hr0; have HC0 := Aside0.mk hc0; clear hr0 hc0; have HB := Aside0.mk (Below.refl w.heap.size w); have H : (if (l0.length : Int) ≥ 2000 then (some 8) else (if a1_1 < 0 then (customsref27_may.j0 k l0 true a1_0 a1_1 a1_2 a1_3 a1_4 a1_5) else (if a1_1 > 36524 then (customsref27_may.j0 k l0 true a1_0 a1_1 a1_2 a1_3 a1_4 a1_5) else (if a1_2 < 1 then (customsref27_may.j0 k l0 true a1_0 a1_1 a1_2 a1_3 a1_4 a1_5) else (if a1_2 > 9 then (customsref27_may.j0 k l0 true a1_0 a1_1 a1_2 a1_3 a1_4 a1_5) else (if a1_3 < 1 then (customsref27_may.j0 k l0 true a1_0 a1_1 a1_2 a1_3 a1_4 a1_5) else (if a1_3 > 1000000 then (customsref27_may.j0 k l0 true a1_0 a1_1 a1_2 a1_3 a1_4 a1_5) else (if a1_4 < 1 then (customsref27_may.j0 k l0 true a1_0 a1_1 a1_2 a1_3 a1_4 a1_5) else (if a1_4 > 64000000000000 then (customsref27_may.j0 k l0 true a1_0 a1_1 a1_2 a1_3 a1_4 a1_5) else (if a1_5 < 0 then (customsref27_may.j0 k l0 true a1_0 a1_1 a1_2 a1_3 a1_4 a1_5) else (customsref27_may.j0 k l0 (decide (a1_5 > 1000000000)) a1_0 a1_1 a1_2 a1_3 a1_4 a1_5))))))))))) = some r := h; clear h
 by_cases c3 : (l0.length : Int) ≥ 2000
 ·rw [if_pos c3] at H
  have c3b0 : decide (2000 ≤ (l0.length : Int)) = true := decide_eq_true c3; have c3b1 : decide (2000 ≤ l0.length) = true := decide_eq_true (by omega); clear c3; obtain rfl := Option.some.inj H
  go_enter Try.func40, Try.ntmps40
  go_wp2_with (first | ((with_reducible refine gate_dst (N := 3) rfl ?_); refine box_event ?hg (N := 3) ?hd (cs := #[.int .i64 a1_0, .int .i64 a1_1, .int .i64 a1_2, .int .i64 a1_3, .int .i64 a1_4, .int .i64 a1_5]) (t := 26) ?hr ?_; (case hd => rfl); (case hg => rfl); (case hr => first | (go_simp; done) | (go_simp; rfl)); intro gb101 hg w4 hbox hb; have qb_ := below_both bel hb; have n0_ := Aside0.mk (qb_.1); have n3_ := Aside0.mk ((by rw [hg]; exact qb_.2 : w.heap.size ≤ gb101)); clear HB; have HB := n0_; have GE101 := n3_; clear qb_; clear n0_ n3_; clear hb hbox hg))
  go_ret
  exact ⟨by first | rfl | (simp [errW_none, errW_some] <;> rfl) | (simp [*, errW_none, errW_some] <;> rfl), bel⟩
 ·rw [if_neg c3] at H
  have c3b0 : decide (2000 ≤ (l0.length : Int)) = false := decide_eq_false c3; have c3b1 : decide (2000 ≤ l0.length) = false := decide_eq_false (by omega); clear c3; have HC5 := Aside0.mk H; clear H
  go_enter Try.func40, Try.ntmps40
  go_upto_region 3 with (first | ((with_reducible refine gate_dst (N := 3) rfl ?_); refine box_event ?hg (N := 3) ?hd (cs := #[.int .i64 a1_0, .int .i64 a1_1, .int .i64 a1_2, .int .i64 a1_3, .int .i64 a1_4, .int .i64 a1_5]) (t := 26) ?hr ?_; (case hd => rfl); (case hg => rfl); (case hr => first | (go_simp; done) | (go_simp; rfl)); intro gb101 hg w6 hbox hb; have qb_ := below_both bel hb; have n0_ := Aside0.mk (qb_.1); have n1_ := Aside0.mk (hbox); have n2_ := Aside0.mk ((by rw [hg]; exact qb_.2 : w.heap.size ≤ gb101)); have n3_ := n2_; clear HB; have HB := n0_; have BK101 := n1_; have GW101 := n2_; have GE101 := n3_; clear qb_; clear n0_ n1_ n2_ n3_; clear hb hbox hg))
  (try simp only [Act.put, List.setIfInBounds_toArray, List.set_cons_zero, List.set_cons_succ])
  go_cut [58] (fun v58 wc => ∃ (kq : Nat) (x58_4 : Bool), v58 = .bool x58_4 ∧ Aside0 (customsref27_may.j0 kq l0 x58_4 a1_0 a1_1 a1_2 a1_3 a1_4 a1_5 = some r) ∧ Aside0 (kq ≤ k) ∧ Aside0 (wc.heap[gb101]? = some (.cells #[.int .i64 a1_0, .int .i64 a1_1, .int .i64 a1_2, .int .i64 a1_3, .int .i64 a1_4, .int .i64 a1_5] 26 (0, 0))) ∧ Aside0 (Below w.heap.size w wc))
  case first =>
   have H := HC5.out; clear HC5
   by_cases c7 : a1_1 < 0
   ·rw [if_pos c7] at H
    have c7b0 : decide (a1_1 < 0) = true := decide_eq_true c7; clear c7
    (first | rw [c7b0] | (simp only [i64_w, i32_w]; rw [c7b0]) | skip)
    have H' := Aside0.mk H; clear H; obtain ⟨hcz8_0, hcz8_1, hcz8_2, hcz8_3, hcz8_4, hcz8_5, hfz8_0, hfz8_1, hfz8_2, hfz8_3, hfz8_4, hfz8_5⟩ := cells6 BK101.out
    go_wp2
    go_meet
    case rel => exact ⟨_, (true), zPA11, H', ⟨by first | omega | exact Nat.le_refl _⟩, ⟨by (with_reducible repeat (first | refine blk_drewN ?_ _ | refine blk_drew ?_ | refine blk_alloc ?_ _)); exact BK101.out⟩, ⟨bel⟩⟩
   ·rw [if_neg c7] at H
    have c7b0 : decide (a1_1 < 0) = false := decide_eq_false c7; clear c7
    (first | rw [c7b0] | (simp only [i64_w, i32_w]; rw [c7b0]) | skip)
    by_cases c9 : a1_1 > 36524
    ·rw [if_pos c9] at H
     have c9b0 : decide (36524 < a1_1) = true := decide_eq_true c9; clear c9; have H' := Aside0.mk H; clear H; obtain ⟨hcz10_0, hcz10_1, hcz10_2, hcz10_3, hcz10_4, hcz10_5, hfz10_0, hfz10_1, hfz10_2, hfz10_3, hfz10_4, hfz10_5⟩ := cells6 BK101.out
     go_wp2
     go_meet
     case rel => exact ⟨_, (true), zPA11, H', ⟨by first | omega | exact Nat.le_refl _⟩, ⟨by (with_reducible repeat (first | refine blk_drewN ?_ _ | refine blk_drew ?_ | refine blk_alloc ?_ _)); exact BK101.out⟩, ⟨bel⟩⟩
    ·rw [if_neg c9] at H
     have c9b0 : decide (36524 < a1_1) = false := decide_eq_false c9; clear c9
     by_cases c11 : a1_2 < 1
     ·rw [if_pos c11] at H
      have c11b0 : decide (a1_2 < 1) = true := decide_eq_true c11; clear c11; have H' := Aside0.mk H; clear H; obtain ⟨hcz12_0, hcz12_1, hcz12_2, hcz12_3, hcz12_4, hcz12_5, hfz12_0, hfz12_1, hfz12_2, hfz12_3, hfz12_4, hfz12_5⟩ := cells6 BK101.out
      go_wp2
      go_meet
      case rel => exact ⟨_, (true), zPA11, H', ⟨by first | omega | exact Nat.le_refl _⟩, ⟨by (with_reducible repeat (first | refine blk_drewN ?_ _ | refine blk_drew ?_ | refine blk_alloc ?_ _)); exact BK101.out⟩, ⟨bel⟩⟩
     ·rw [if_neg c11] at H
      have c11b0 : decide (a1_2 < 1) = false := decide_eq_false c11; clear c11
      by_cases c13 : a1_2 > 9
      ·rw [if_pos c13] at H
       have c13b0 : decide (9 < a1_2) = true := decide_eq_true c13; clear c13; have H' := Aside0.mk H; clear H; obtain ⟨hcz14_0, hcz14_1, hcz14_2, hcz14_3, hcz14_4, hcz14_5, hfz14_0, hfz14_1, hfz14_2, hfz14_3, hfz14_4, hfz14_5⟩ := cells6 BK101.out
       go_wp2
       go_meet
       case rel => exact ⟨_, (true), zPA11, H', ⟨by first | omega | exact Nat.le_refl _⟩, ⟨by (with_reducible repeat (first | refine blk_drewN ?_ _ | refine blk_drew ?_ | refine blk_alloc ?_ _)); exact BK101.out⟩, ⟨bel⟩⟩
      ·rw [if_neg c13] at H
       have c13b0 : decide (9 < a1_2) = false := decide_eq_false c13; clear c13
       by_cases c15 : a1_3 < 1
       ·rw [if_pos c15] at H
        have c15b0 : decide (a1_3 < 1) = true := decide_eq_true c15; clear c15; have H' := Aside0.mk H; clear H; obtain ⟨hcz16_0, hcz16_1, hcz16_2, hcz16_3, hcz16_4, hcz16_5, hfz16_0, hfz16_1, hfz16_2, hfz16_3, hfz16_4, hfz16_5⟩ := cells6 BK101.out
        go_wp2
        go_meet
        case rel => exact ⟨_, (true), zPA11, H', ⟨by first | omega | exact Nat.le_refl _⟩, ⟨by (with_reducible repeat (first | refine blk_drewN ?_ _ | refine blk_drew ?_ | refine blk_alloc ?_ _)); exact BK101.out⟩, ⟨bel⟩⟩
       ·rw [if_neg c15] at H
        have c15b0 : decide (a1_3 < 1) = false := decide_eq_false c15; clear c15
        by_cases c17 : a1_3 > 1000000
        ·rw [if_pos c17] at H
         have c17b0 : decide (1000000 < a1_3) = true := decide_eq_true c17; clear c17; have H' := Aside0.mk H; clear H; obtain ⟨hcz18_0, hcz18_1, hcz18_2, hcz18_3, hcz18_4, hcz18_5, hfz18_0, hfz18_1, hfz18_2, hfz18_3, hfz18_4, hfz18_5⟩ := cells6 BK101.out
         go_wp2
         go_meet
         case rel => exact ⟨_, (true), zPA11, H', ⟨by first | omega | exact Nat.le_refl _⟩, ⟨by (with_reducible repeat (first | refine blk_drewN ?_ _ | refine blk_drew ?_ | refine blk_alloc ?_ _)); exact BK101.out⟩, ⟨bel⟩⟩
        ·rw [if_neg c17] at H
         have c17b0 : decide (1000000 < a1_3) = false := decide_eq_false c17; clear c17
         by_cases c19 : a1_4 < 1
         ·rw [if_pos c19] at H
          have c19b0 : decide (a1_4 < 1) = true := decide_eq_true c19; clear c19; have H' := Aside0.mk H; clear H; obtain ⟨hcz20_0, hcz20_1, hcz20_2, hcz20_3, hcz20_4, hcz20_5, hfz20_0, hfz20_1, hfz20_2, hfz20_3, hfz20_4, hfz20_5⟩ := cells6 BK101.out
          go_wp2
          go_meet
          case rel => exact ⟨_, (true), zPA11, H', ⟨by first | omega | exact Nat.le_refl _⟩, ⟨by (with_reducible repeat (first | refine blk_drewN ?_ _ | refine blk_drew ?_ | refine blk_alloc ?_ _)); exact BK101.out⟩, ⟨bel⟩⟩
         ·rw [if_neg c19] at H
          have c19b0 : decide (a1_4 < 1) = false := decide_eq_false c19; clear c19
          by_cases c21 : a1_4 > 64000000000000
          ·rw [if_pos c21] at H
           have c21b0 : decide (64000000000000 < a1_4) = true := decide_eq_true c21; clear c21; have H' := Aside0.mk H; clear H; obtain ⟨hcz22_0, hcz22_1, hcz22_2, hcz22_3, hcz22_4, hcz22_5, hfz22_0, hfz22_1, hfz22_2, hfz22_3, hfz22_4, hfz22_5⟩ := cells6 BK101.out
           go_wp2
           go_meet
           case rel => exact ⟨_, (true), zPA11, H', ⟨by first | omega | exact Nat.le_refl _⟩, ⟨by (with_reducible repeat (first | refine blk_drewN ?_ _ | refine blk_drew ?_ | refine blk_alloc ?_ _)); exact BK101.out⟩, ⟨bel⟩⟩
          ·rw [if_neg c21] at H
           have c21b0 : decide (64000000000000 < a1_4) = false := decide_eq_false c21; clear c21
           by_cases c23 : a1_5 < 0
           ·rw [if_pos c23] at H
            have c23b0 : decide (a1_5 < 0) = true := decide_eq_true c23; clear c23; have H' := Aside0.mk H; clear H; obtain ⟨hcz24_0, hcz24_1, hcz24_2, hcz24_3, hcz24_4, hcz24_5, hfz24_0, hfz24_1, hfz24_2, hfz24_3, hfz24_4, hfz24_5⟩ := cells6 BK101.out
            go_wp2
            go_meet
            case rel => exact ⟨_, (true), zPA11, H', ⟨by first | omega | exact Nat.le_refl _⟩, ⟨by (with_reducible repeat (first | refine blk_drewN ?_ _ | refine blk_drew ?_ | refine blk_alloc ?_ _)); exact BK101.out⟩, ⟨bel⟩⟩
           ·rw [if_neg c23] at H
            have c23b0 : decide (a1_5 < 0) = false := decide_eq_false c23; clear c23; have H' := Aside0.mk H; clear H; obtain ⟨hcz25_0, hcz25_1, hcz25_2, hcz25_3, hcz25_4, hcz25_5, hfz25_0, hfz25_1, hfz25_2, hfz25_3, hfz25_4, hfz25_5⟩ := cells6 BK101.out
            go_wp2
            go_meet
            case rel => exact ⟨_, (decide (a1_5 > 1000000000)), zPA11, H', ⟨by first | omega | exact Nat.le_refl _⟩, ⟨by (with_reducible repeat (first | refine blk_drewN ?_ _ | refine blk_drew ?_ | refine blk_alloc ?_ _)); exact BK101.out⟩, ⟨bel⟩⟩
  case rest =>
   clear HC5
   try clear c1
   try clear c2
   try clear p2
   try clear c3
   try clear c3b0
   try clear c3b1
   try clear c4
   try clear c7
   try clear c7b0
   try clear c9
   try clear c9b0
   try clear c11
   try clear c11b0
   try clear c13
   try clear c13b0
   try clear c15
   try clear c15b0
   try clear c17
   try clear c17b0
   try clear c19
   try clear c19b0
   try clear c21
   try clear c21b0
   try clear c23
   try clear c23b0
   try clear hcz10_0
   try clear hcz10_1
   try clear hcz10_2
   try clear hcz10_3
   try clear hcz10_4
   try clear hcz10_5
   try clear hcz12_0
   try clear hcz12_1
   try clear hcz12_2
   try clear hcz12_3
   try clear hcz12_4
   try clear hcz12_5
   try clear hcz14_0
   try clear hcz14_1
   try clear hcz14_2
   try clear hcz14_3
   try clear hcz14_4
   try clear hcz14_5
   try clear hcz16_0
   try clear hcz16_1
   try clear hcz16_2
   try clear hcz16_3
   try clear hcz16_4
   try clear hcz16_5
   try clear hcz18_0
   try clear hcz18_1
   try clear hcz18_2
   try clear hcz18_3
   try clear hcz18_4
   try clear hcz18_5
   try clear hcz20_0
   try clear hcz20_1
   try clear hcz20_2
   try clear hcz20_3
   try clear hcz20_4
   try clear hcz20_5
   try clear hcz22_0
   try clear hcz22_1
   try clear hcz22_2
   try clear hcz22_3
   try clear hcz22_4
   try clear hcz22_5
   try clear hcz24_0
   try clear hcz24_1
   try clear hcz24_2
   try clear hcz24_3
   try clear hcz24_4
   try clear hcz24_5
   try clear hcz25_0
   try clear hcz25_1
   try clear hcz25_2
   try clear hcz25_3
   try clear hcz25_4
   try clear hcz25_5
   try clear hcz8_0
   try clear hcz8_1
   try clear hcz8_2
   try clear hcz8_3
   try clear hcz8_4
   try clear hcz8_5
   try clear hfz10_0
   try clear hfz10_1
   try clear hfz10_2
   try clear hfz10_3
   try clear hfz10_4
   try clear hfz10_5
   try clear hfz12_0
   try clear hfz12_1
   try clear hfz12_2
   try clear hfz12_3
   try clear hfz12_4
   try clear hfz12_5
   try clear hfz14_0
   try clear hfz14_1
   try clear hfz14_2
   try clear hfz14_3
   try clear hfz14_4
   try clear hfz14_5
   try clear hfz16_0
   try clear hfz16_1
   try clear hfz16_2
   try clear hfz16_3
   try clear hfz16_4
   try clear hfz16_5
   try clear hfz18_0
   try clear hfz18_1
   try clear hfz18_2
   try clear hfz18_3
   try clear hfz18_4
   try clear hfz18_5
   try clear hfz20_0
   try clear hfz20_1
   try clear hfz20_2
   try clear hfz20_3
   try clear hfz20_4
   try clear hfz20_5
   try clear hfz22_0
   try clear hfz22_1
   try clear hfz22_2
   try clear hfz22_3
   try clear hfz22_4
   try clear hfz22_5
   try clear hfz24_0
   try clear hfz24_1
   try clear hfz24_2
   try clear hfz24_3
   try clear hfz24_4
   try clear hfz24_5
   try clear hfz25_0
   try clear hfz25_1
   try clear hfz25_2
   try clear hfz25_3
   try clear hfz25_4
   try clear hfz25_5
   try clear hfz8_0
   try clear hfz8_1
   try clear hfz8_2
   try clear hfz8_3
   try clear hfz8_4
   try clear hfz8_5
   obtain ⟨kq, x58_4, rfl, HA, HJ4, BK101, HB⟩ := hcut
   cases kq with
   | zero => exact absurd HA.out (by simp [customsref27_may.j0])
   | succ kj4 =>
    have H := HA.out; clear HA
    simp only [customsref27_may.j0] at H
    by_cases c26 : x58_4 = true
    ·subst c26
     have H1 : (some 2) = some r := by rw [if_pos rfl] at H; exact H
     clear H; have H := H1; clear H1; obtain rfl := Option.some.inj H
     go_wp2
     go_ret
     exact ⟨by first | rfl | (simp [errW_none, errW_some] <;> rfl) | (simp [*, errW_none, errW_some] <;> rfl), bel⟩
    ·replace c26 := Bool.eq_false_iff.mpr c26
     subst c26
     have H1 : (if a1_0 = (wrap64 ((l0.length : Int) + 1)) then (if a1_2 = 9 then (if a1_4 > (l0.length : Int) then (some 6) else (if 0 ≤ (wrap64 (a1_4 - 1)) then (if (wrap64 (a1_4 - 1)) < (l0.length : Int) then (if ((rd_T26 l0 (wrap64 (a1_4 - 1))).f2) = 9 then (some 17) else (customsref27_may.l0 kj4 l0 0 a1_0 a1_1 a1_2 a1_3 a1_4 a1_5 ((rd_T26 l0 (wrap64 (a1_4 - 1))).f0) ((rd_T26 l0 (wrap64 (a1_4 - 1))).f1) ((rd_T26 l0 (wrap64 (a1_4 - 1))).f2) ((rd_T26 l0 (wrap64 (a1_4 - 1))).f3) ((rd_T26 l0 (wrap64 (a1_4 - 1))).f4) ((rd_T26 l0 (wrap64 (a1_4 - 1))).f5))) else (none)) else (none))) else ((some (([] : List (S26)) : List (S26))).bind fun y124 => (if y124.length + l0.length < 2932031007402 then ((some (y124 ++ l0 : List (S26))).bind fun y127 => ((some (([(⟨a1_0, a1_1, a1_2, a1_3, a1_4, a1_5⟩ : S26)] : List (S26)) : List (S26))).bind fun y130 => (if y127.length + y130.length < 2932031007402 then ((customsref27_balance.f kj4 (y127 ++ y130) a1_3).bind fun bt136 => (if bt136.2.1 < 0 then (some 16) else (if bt136.2.2.1 < 0 then (some 16) else (if bt136.2.2.2.1 < 0 then (some 16) else (if bt136.2.2.2.2 < 0 then (some 16) else (some 0)))))) else (none)))) else (none)))) else (some 9)) = some r := by rw [if_neg (show ¬ (false = true) by decide)] at H; exact H
     clear H; have H := H1; clear H1
     by_cases c27 : a1_0 = (wrap64 ((l0.length : Int) + 1))
     ·rw [if_pos c27] at H
      have c27b0 : (a1_0 == (wrap64 ((l0.length : Int) + 1))) = true := beq_iff_eq.mpr c27; have c27b1 : (a1_0 != (wrap64 ((l0.length : Int) + 1))) = false := bne_eq_false_iff_eq.mpr c27; clear c27
      by_cases c28 : a1_2 = 9
      ·rw [if_pos c28] at H
       have c28b0 : (a1_2 == 9) = true := beq_iff_eq.mpr c28; have c28b1 : (a1_2 != 9) = false := bne_eq_false_iff_eq.mpr c28; clear c28
       by_cases c29 : a1_4 > (l0.length : Int)
       ·rw [if_pos c29] at H
        have c29b0 : decide ((l0.length : Int) < a1_4) = true := decide_eq_true c29; clear c29; obtain rfl := Option.some.inj H; obtain ⟨hcz30_0, hcz30_1, hcz30_2, hcz30_3, hcz30_4, hcz30_5, hfz30_0, hfz30_1, hfz30_2, hfz30_3, hfz30_4, hfz30_5⟩ := cells6 BK101.out
        go_wp2
        go_ret
        exact ⟨by first | rfl | (simp [errW_none, errW_some] <;> rfl) | (simp [*, errW_none, errW_some] <;> rfl), bel⟩
       ·rw [if_neg c29] at H
        have c29b0 : decide ((l0.length : Int) < a1_4) = false := decide_eq_false c29; clear c29; obtain ⟨ji31, hji31⟩ : ∃ j_ : Int, (wrap64 (a1_4 - 1)) = j_ := ⟨_, rfl⟩
        replace H : (if 0 ≤ (ji31) then (if (ji31) < (l0.length : Int) then (if ((rd_T26 l0 (ji31)).f2) = 9 then (some 17) else (customsref27_may.l0 kj4 l0 0 a1_0 a1_1 a1_2 a1_3 a1_4 a1_5 ((rd_T26 l0 (ji31)).f0) ((rd_T26 l0 (ji31)).f1) ((rd_T26 l0 (ji31)).f2) ((rd_T26 l0 (ji31)).f3) ((rd_T26 l0 (ji31)).f4) ((rd_T26 l0 (ji31)).f5))) else (none)) else (none)) = some r := by first | (rw [hji31] at H; exact H) | (simp only [hji31] at H ⊢; exact H)
        have hji31w : (IntKind.i64.wrap (a1_4 - 1)) = ji31 := (i64_w _).trans hji31
        by_cases c32 : 0 ≤ (ji31)
        ·rw [if_pos c32] at H
         have c32b0 : decide (0 ≤ (ji31)) = true := decide_eq_true c32; clear c32
         by_cases c33 : (ji31) < (l0.length : Int)
         ·rw [if_pos c33] at H
          have c33b0 : decide ((ji31) < (l0.length : Int)) = true := decide_eq_true c33; clear c33
          by_cases c34 : ((rd_T26 l0 (ji31)).f2) = 9
          ·rw [if_pos c34] at H
           have c34b0 : (((rd_T26 l0 (ji31)).f2) == 9) = true := beq_iff_eq.mpr c34; have c34b1 : (((rd_T26 l0 (ji31)).f2) != 9) = false := bne_eq_false_iff_eq.mpr c34; clear c34; obtain rfl := Option.some.inj H; obtain ⟨hcz35_0, hcz35_1, hcz35_2, hcz35_3, hcz35_4, hcz35_5, hfz35_0, hfz35_1, hfz35_2, hfz35_3, hfz35_4, hfz35_5⟩ := cells6 BK101.out; have p102 : 0 ≤ ((ji31) : Int) := of_decide_eq_true zPA7; have q102 : (ji31) < (l0.length : Int) := of_decide_eq_true zPA7; obtain ⟨ad102, e102, hx102_0, hx102_1, hx102_2, hx102_3, hx102_4, hx102_5⟩ := at_T26 HR0.out (ji31) p102 q102
           cases e102
           replace hx102_0 := (HB.out.cell (World.block_lt_of_cell? w _ hx102_0)).trans hx102_0; replace hx102_1 := (HB.out.cell (World.block_lt_of_cell? w _ hx102_1)).trans hx102_1; replace hx102_2 := (HB.out.cell (World.block_lt_of_cell? w _ hx102_2)).trans hx102_2; replace hx102_3 := (HB.out.cell (World.block_lt_of_cell? w _ hx102_3)).trans hx102_3; replace hx102_4 := (HB.out.cell (World.block_lt_of_cell? w _ hx102_4)).trans hx102_4; replace hx102_5 := (HB.out.cell (World.block_lt_of_cell? w _ hx102_5)).trans hx102_5; replace p102 := eq_true p102; replace q102 := eq_true q102
           go_wp2_with (first | ((with_reducible refine gate_dst (N := 5) rfl ?_); refine box_event ?hg (N := 5) ?hd (cs := #[.int .i64 0, .int .i64 0, .int .i64 0, .int .i64 0, .int .i64 0, .int .i64 0]) (t := 26) ?hr ?_; (case hd => rfl); (case hg => rfl); (case hr => first | (go_simp; done) | (go_simp; rfl)); intro gb103 hg w36 hbox hb; have n1_ := Aside0.mk (below_step bel hb); have n2_ := Aside0.mk (hbox); have n4_ := Aside0.mk ((by rw [hg]; exact (below_size bel) : w.heap.size ≤ gb103)); have n5_ := Aside0.mk ((by rw [hg]; exact Nat.ne_of_lt (blk_lt (g := gb101) (o := .cells #[.int .i64 a1_0, .int .i64 a1_1, .int .i64 a1_2, .int .i64 a1_3, .int .i64 a1_4, .int .i64 a1_5] 26 (0, 0)) blkx) : gb101 ≠ gb103)); have n6_ := Aside0.mk ((by rw [hg]; exact Nat.ne_of_gt (blk_lt (g := gb101) (o := .cells #[.int .i64 a1_0, .int .i64 a1_1, .int .i64 a1_2, .int .i64 a1_3, .int .i64 a1_4, .int .i64 a1_5] 26 (0, 0)) blkx) : gb103 ≠ gb101)); (try clear BK101); clear HB; have HB := n1_; have BK103 := n2_; have GE103 := n4_; have NB101_103 := n5_; have NB103_101 := n6_; clear n1_ n2_ n4_ n5_ n6_; clear hb hbox hg; have hnb37 := NB103_101.out; have hnc37 := NB101_103.out; obtain ⟨hcz38_0, hcz38_1, hcz38_2, hcz38_3, hcz38_4, hcz38_5, hfz38_0, hfz38_1, hfz38_2, hfz38_3, hfz38_4, hfz38_5⟩ := cells6 BK103.out))
           go_ret
           exact ⟨by first | rfl | (simp [errW_none, errW_some] <;> rfl) | (simp only [← hji31]; first | rfl | (simp [errW_none, errW_some] <;> rfl)) | (simp [*, errW_none, errW_some] <;> rfl), bel⟩
          ·rw [if_neg c34] at H
           have c34b0 : (((rd_T26 l0 (ji31)).f2) == 9) = false := beq_eq_false_iff_ne.mpr c34; have c34b1 : (((rd_T26 l0 (ji31)).f2) != 9) = true := bne_iff_ne.mpr c34; have H' := Aside0.mk H; clear H; obtain ⟨hcz39_0, hcz39_1, hcz39_2, hcz39_3, hcz39_4, hcz39_5, hfz39_0, hfz39_1, hfz39_2, hfz39_3, hfz39_4, hfz39_5⟩ := cells6 BK101.out; have p102 : 0 ≤ ((ji31) : Int) := of_decide_eq_true zPA7; have q102 : (ji31) < (l0.length : Int) := of_decide_eq_true zPA7; obtain ⟨ad102, e102, hx102_0, hx102_1, hx102_2, hx102_3, hx102_4, hx102_5⟩ := at_T26 HR0.out (ji31) p102 q102
           cases e102
           replace hx102_0 := (HB.out.cell (World.block_lt_of_cell? w _ hx102_0)).trans hx102_0; replace hx102_1 := (HB.out.cell (World.block_lt_of_cell? w _ hx102_1)).trans hx102_1; replace hx102_2 := (HB.out.cell (World.block_lt_of_cell? w _ hx102_2)).trans hx102_2; replace hx102_3 := (HB.out.cell (World.block_lt_of_cell? w _ hx102_3)).trans hx102_3; replace hx102_4 := (HB.out.cell (World.block_lt_of_cell? w _ hx102_4)).trans hx102_4; replace hx102_5 := (HB.out.cell (World.block_lt_of_cell? w _ hx102_5)).trans hx102_5; replace p102 := eq_true p102; replace q102 := eq_true q102
           go_wp2_with (first | ((with_reducible refine gate_dst (N := 5) rfl ?_); refine box_event ?hg (N := 5) ?hd (cs := #[.int .i64 0, .int .i64 0, .int .i64 0, .int .i64 0, .int .i64 0, .int .i64 0]) (t := 26) ?hr ?_; (case hd => rfl); (case hg => rfl); (case hr => first | (go_simp; done) | (go_simp; rfl)); intro gb103 hg w40 hbox hb; have qb_ := below_both bel hb; have q1_ := blk_below2 (g := gb101) (o := .cells #[.int .i64 a1_0, .int .i64 a1_1, .int .i64 a1_2, .int .i64 a1_3, .int .i64 a1_4, .int .i64 a1_5] 26 (0, 0)) blkx hb; have n0_ := Aside0.mk (q1_.1); have n1_ := Aside0.mk (qb_.1); have n2_ := Aside0.mk (hbox); have n4_ := Aside0.mk ((by rw [hg]; exact qb_.2 : w.heap.size ≤ gb103)); have n5_ := Aside0.mk ((by rw [hg]; exact Nat.ne_of_lt q1_.2 : gb101 ≠ gb103)); have n6_ := Aside0.mk (Ne.symm n5_.out); clear BK101; clear HB; have BK101 := n0_; have HB := n1_; have BK103 := n2_; have GE103 := n4_; have NB101_103 := n5_; have NB103_101 := n6_; clear q1_; clear qb_; clear n0_ n1_ n2_ n4_ n5_ n6_; clear hb hbox hg; have hnb41 := NB103_101.out; have hnc41 := NB101_103.out; obtain ⟨hcz42_0, hcz42_1, hcz42_2, hcz42_3, hcz42_4, hcz42_5, hfz42_0, hfz42_1, hfz42_2, hfz42_3, hfz42_4, hfz42_5⟩ := cells6 BK103.out))
           go_loopg [6] kj4 (fun kq v6 w' => ∃ (x6_2 : Int), v6 = .int .i64 x6_2 ∧ Aside0 (customsref27_may.l0 kq l0 x6_2 a1_0 a1_1 a1_2 a1_3 a1_4 a1_5 ((rd_T26 l0 (ji31)).f0) ((rd_T26 l0 (ji31)).f1) ((rd_T26 l0 (ji31)).f2) ((rd_T26 l0 (ji31)).f3) ((rd_T26 l0 (ji31)).f4) ((rd_T26 l0 (ji31)).f5) = some r) ∧ Aside0 (kq ≤ kj4) ∧ Aside0 (w'.heap[gb101]? = some (.cells #[.int .i64 a1_0, .int .i64 a1_1, .int .i64 a1_2, .int .i64 a1_3, .int .i64 a1_4, .int .i64 a1_5] 26 (0, 0))) ∧ Aside0 (w'.heap[gb103]? = some (.cells #[.int .i64 ((rd_T26 l0 (ji31)).f0), .int .i64 ((rd_T26 l0 (ji31)).f1), .int .i64 ((rd_T26 l0 (ji31)).f2), .int .i64 ((rd_T26 l0 (ji31)).f3), .int .i64 ((rd_T26 l0 (ji31)).f4), .int .i64 ((rd_T26 l0 (ji31)).f5)] 26 (0, 0))) ∧ Aside0 (Below w.heap.size w w'))
           case atStart => exact ⟨(0), zPA11, H', ⟨Nat.le_refl _⟩, ⟨by (with_reducible repeat (first | refine blk_drewN ?_ _ | refine blk_drew ?_ | refine blk_alloc ?_ _)); refine blk_far ?_ NB101_103.out _; (with_reducible repeat (first | refine blk_drewN ?_ _ | refine blk_drew ?_ | refine blk_alloc ?_ _)); refine blk_far ?_ NB101_103.out _; (with_reducible repeat (first | refine blk_drewN ?_ _ | refine blk_drew ?_ | refine blk_alloc ?_ _)); refine blk_far ?_ NB101_103.out _; (with_reducible repeat (first | refine blk_drewN ?_ _ | refine blk_drew ?_ | refine blk_alloc ?_ _)); refine blk_far ?_ NB101_103.out _; (with_reducible repeat (first | refine blk_drewN ?_ _ | refine blk_drew ?_ | refine blk_alloc ?_ _)); refine blk_far ?_ NB101_103.out _; (with_reducible repeat (first | refine blk_drewN ?_ _ | refine blk_drew ?_ | refine blk_alloc ?_ _)); refine blk_far ?_ NB101_103.out _; (with_reducible repeat (first | refine blk_drewN ?_ _ | refine blk_drew ?_ | refine blk_alloc ?_ _)); exact BK101.out⟩, ⟨by (with_reducible repeat (first | refine blk_drewN ?_ _ | refine blk_drew ?_ | refine blk_alloc ?_ _)); refine blk_put (cs := #[.int .i64 ((rd_T26 l0 (ji31)).f0), .int .i64 ((rd_T26 l0 (ji31)).f1), .int .i64 ((rd_T26 l0 (ji31)).f2), .int .i64 ((rd_T26 l0 (ji31)).f3), .int .i64 ((rd_T26 l0 (ji31)).f4), .int .i64 0]) ?_ 5 _ rfl; (with_reducible repeat (first | refine blk_drewN ?_ _ | refine blk_drew ?_ | refine blk_alloc ?_ _)); refine blk_put (cs := #[.int .i64 ((rd_T26 l0 (ji31)).f0), .int .i64 ((rd_T26 l0 (ji31)).f1), .int .i64 ((rd_T26 l0 (ji31)).f2), .int .i64 ((rd_T26 l0 (ji31)).f3), .int .i64 0, .int .i64 0]) ?_ 4 _ rfl; (with_reducible repeat (first | refine blk_drewN ?_ _ | refine blk_drew ?_ | refine blk_alloc ?_ _)); refine blk_put (cs := #[.int .i64 ((rd_T26 l0 (ji31)).f0), .int .i64 ((rd_T26 l0 (ji31)).f1), .int .i64 ((rd_T26 l0 (ji31)).f2), .int .i64 0, .int .i64 0, .int .i64 0]) ?_ 3 _ rfl; (with_reducible repeat (first | refine blk_drewN ?_ _ | refine blk_drew ?_ | refine blk_alloc ?_ _)); refine blk_put (cs := #[.int .i64 ((rd_T26 l0 (ji31)).f0), .int .i64 ((rd_T26 l0 (ji31)).f1), .int .i64 0, .int .i64 0, .int .i64 0, .int .i64 0]) ?_ 2 _ rfl; (with_reducible repeat (first | refine blk_drewN ?_ _ | refine blk_drew ?_ | refine blk_alloc ?_ _)); refine blk_put (cs := #[.int .i64 ((rd_T26 l0 (ji31)).f0), .int .i64 0, .int .i64 0, .int .i64 0, .int .i64 0, .int .i64 0]) ?_ 1 _ rfl; (with_reducible repeat (first | refine blk_drewN ?_ _ | refine blk_drew ?_ | refine blk_alloc ?_ _)); refine blk_put (cs := #[.int .i64 0, .int .i64 0, .int .i64 0, .int .i64 0, .int .i64 0, .int .i64 0]) ?_ 0 _ rfl; (with_reducible repeat (first | refine blk_drewN ?_ _ | refine blk_drew ?_ | refine blk_alloc ?_ _)); exact BK103.out⟩, ⟨bel⟩⟩
           case round =>
            clear H'
            try clear c1
            try clear p1
            try clear q1
            try clear hx1
            try clear c2
            try clear p2
            try clear c3
            try clear c3b0
            try clear c3b1
            try clear c4
            try clear p6
            try clear c7
            try clear c7b0
            try clear c9
            try clear c9b0
            try clear p10
            try clear q10
            try clear hx10
            try clear c11
            try clear c11b0
            try clear c13
            try clear c13b0
            try clear c15
            try clear c15b0
            try clear c17
            try clear c17b0
            try clear c19
            try clear c19b0
            try clear c21
            try clear c21b0
            try clear c23
            try clear c23b0
            try clear c26
            try clear c27
            try clear c27b0
            try clear c27b1
            try clear c28
            try clear c28b0
            try clear c28b1
            try clear c29
            try clear c29b0
            try clear c32
            try clear c32b0
            try clear c33
            try clear c33b0
            try clear c34
            try clear c34b0
            try clear c34b1
            try clear c37
            try clear c40
            try clear c41
            try clear hcz10_0
            try clear hcz10_1
            try clear hcz10_2
            try clear hcz10_3
            try clear hcz10_4
            try clear hcz10_5
            try clear hcz12_0
            try clear hcz12_1
            try clear hcz12_2
            try clear hcz12_3
            try clear hcz12_4
            try clear hcz12_5
            try clear hcz14_0
            try clear hcz14_1
            try clear hcz14_2
            try clear hcz14_3
            try clear hcz14_4
            try clear hcz14_5
            try clear hcz16_0
            try clear hcz16_1
            try clear hcz16_2
            try clear hcz16_3
            try clear hcz16_4
            try clear hcz16_5
            try clear hcz18_0
            try clear hcz18_1
            try clear hcz18_2
            try clear hcz18_3
            try clear hcz18_4
            try clear hcz18_5
            try clear hcz20_0
            try clear hcz20_1
            try clear hcz20_2
            try clear hcz20_3
            try clear hcz20_4
            try clear hcz20_5
            try clear hcz22_0
            try clear hcz22_1
            try clear hcz22_2
            try clear hcz22_3
            try clear hcz22_4
            try clear hcz22_5
            try clear hcz24_0
            try clear hcz24_1
            try clear hcz24_2
            try clear hcz24_3
            try clear hcz24_4
            try clear hcz24_5
            try clear hcz25_0
            try clear hcz25_1
            try clear hcz25_2
            try clear hcz25_3
            try clear hcz25_4
            try clear hcz25_5
            try clear hcz30_0
            try clear hcz30_1
            try clear hcz30_2
            try clear hcz30_3
            try clear hcz30_4
            try clear hcz30_5
            try clear hcz35_0
            try clear hcz35_1
            try clear hcz35_2
            try clear hcz35_3
            try clear hcz35_4
            try clear hcz35_5
            try clear hcz38_0
            try clear hcz38_1
            try clear hcz38_2
            try clear hcz38_3
            try clear hcz38_4
            try clear hcz38_5
            try clear hcz39_0
            try clear hcz39_1
            try clear hcz39_2
            try clear hcz39_3
            try clear hcz39_4
            try clear hcz39_5
            try clear hcz42_0
            try clear hcz42_1
            try clear hcz42_2
            try clear hcz42_3
            try clear hcz42_4
            try clear hcz42_5
            try clear hcz8_0
            try clear hcz8_1
            try clear hcz8_2
            try clear hcz8_3
            try clear hcz8_4
            try clear hcz8_5
            try clear hfz10_0
            try clear hfz10_1
            try clear hfz10_2
            try clear hfz10_3
            try clear hfz10_4
            try clear hfz10_5
            try clear hfz12_0
            try clear hfz12_1
            try clear hfz12_2
            try clear hfz12_3
            try clear hfz12_4
            try clear hfz12_5
            try clear hfz14_0
            try clear hfz14_1
            try clear hfz14_2
            try clear hfz14_3
            try clear hfz14_4
            try clear hfz14_5
            try clear hfz16_0
            try clear hfz16_1
            try clear hfz16_2
            try clear hfz16_3
            try clear hfz16_4
            try clear hfz16_5
            try clear hfz18_0
            try clear hfz18_1
            try clear hfz18_2
            try clear hfz18_3
            try clear hfz18_4
            try clear hfz18_5
            try clear hfz20_0
            try clear hfz20_1
            try clear hfz20_2
            try clear hfz20_3
            try clear hfz20_4
            try clear hfz20_5
            try clear hfz22_0
            try clear hfz22_1
            try clear hfz22_2
            try clear hfz22_3
            try clear hfz22_4
            try clear hfz22_5
            try clear hfz24_0
            try clear hfz24_1
            try clear hfz24_2
            try clear hfz24_3
            try clear hfz24_4
            try clear hfz24_5
            try clear hfz25_0
            try clear hfz25_1
            try clear hfz25_2
            try clear hfz25_3
            try clear hfz25_4
            try clear hfz25_5
            try clear hfz30_0
            try clear hfz30_1
            try clear hfz30_2
            try clear hfz30_3
            try clear hfz30_4
            try clear hfz30_5
            try clear hfz35_0
            try clear hfz35_1
            try clear hfz35_2
            try clear hfz35_3
            try clear hfz35_4
            try clear hfz35_5
            try clear hfz38_0
            try clear hfz38_1
            try clear hfz38_2
            try clear hfz38_3
            try clear hfz38_4
            try clear hfz38_5
            try clear hfz39_0
            try clear hfz39_1
            try clear hfz39_2
            try clear hfz39_3
            try clear hfz39_4
            try clear hfz39_5
            try clear hfz42_0
            try clear hfz42_1
            try clear hfz42_2
            try clear hfz42_3
            try clear hfz42_4
            try clear hfz42_5
            try clear hfz8_0
            try clear hfz8_1
            try clear hfz8_2
            try clear hfz8_3
            try clear hfz8_4
            try clear hfz8_5
            try clear hx102_0
            try clear hx102_1
            try clear hx102_2
            try clear hx102_3
            try clear hx102_4
            try clear hx102_5
            try clear p102
            try clear p2
            try clear q102
            obtain ⟨x6_2, rfl, HA, HK2, BK101, BK103, HB⟩ := hrel
            cases gk with
            | zero => exact absurd HA.out (by simp [customsref27_may.l0])
            | succ k2 =>
             have H := HA.out; clear HA
             simp only [customsref27_may.l0] at H
             by_cases c43 : x6_2 < (l0.length : Int)
             ·rw [if_pos c43] at H
              have c43b0 : decide (x6_2 < (l0.length : Int)) = true := decide_eq_true c43; clear c43
              by_cases c44 : 0 ≤ x6_2
              ·rw [if_pos c44] at H
               have c44b0 : decide (0 ≤ x6_2) = true := decide_eq_true c44; clear c44
               by_cases c45 : ((rd_T26 l0 x6_2).f2) = 9
               ·rw [if_pos c45] at H
                have c45b0 : (((rd_T26 l0 x6_2).f2) == 9) = true := beq_iff_eq.mpr c45; have c45b1 : (((rd_T26 l0 x6_2).f2) != 9) = false := bne_eq_false_iff_eq.mpr c45; clear c45
                by_cases c46 : ((rd_T26 l0 x6_2).f4) = a1_4
                ·rw [if_pos c46] at H
                 have c46b0 : (((rd_T26 l0 x6_2).f4) == a1_4) = true := beq_iff_eq.mpr c46; have c46b1 : (((rd_T26 l0 x6_2).f4) != a1_4) = false := bne_eq_false_iff_eq.mpr c46; clear c46; obtain rfl := Option.some.inj H
                 try go_wp2
                 have n0_ := Aside0.mk (blk_drew BK101.out); have n1_ := Aside0.mk (blk_drew BK103.out); have n2_ := Aside0.mk (below_drew1 HB.out); clear BK101; clear BK103; clear HB; have BK101 := n0_; have BK103 := n1_; have HB := n2_; clear n0_ n1_ n2_; have p104 : 0 ≤ (x6_2 : Int) := of_decide_eq_true zPA7; have q104 : x6_2 < (l0.length : Int) := of_decide_eq_true zPA7; obtain ⟨ad104, e104, hx104_0, hx104_1, hx104_2, hx104_3, hx104_4, hx104_5⟩ := at_T26 HR0.out x6_2 p104 q104; have hw104_5 := hx104_5; have hw104_4 := hx104_4; have hw104_3 := hx104_3; have hw104_2 := hx104_2; have hw104_1 := hx104_1; have hw104_0 := hx104_0; obtain rfl : ad102 = ad104 := (by injection e104); replace hx104_0 := (HB.out.cell (World.block_lt_of_cell? w _ hx104_0)).trans hx104_0; replace hx104_1 := (HB.out.cell (World.block_lt_of_cell? w _ hx104_1)).trans hx104_1; replace hx104_2 := (HB.out.cell (World.block_lt_of_cell? w _ hx104_2)).trans hx104_2; replace hx104_3 := (HB.out.cell (World.block_lt_of_cell? w _ hx104_3)).trans hx104_3; replace hx104_4 := (HB.out.cell (World.block_lt_of_cell? w _ hx104_4)).trans hx104_4; replace hx104_5 := (HB.out.cell (World.block_lt_of_cell? w _ hx104_5)).trans hx104_5; replace p104 := eq_true p104; replace q104 := eq_true q104; have p105 : 0 ≤ (x6_2 : Int) := of_decide_eq_true zPA7; have q105 : x6_2 < (l0.length : Int) := of_decide_eq_true zPA7; obtain ⟨ad105, e105, hx105_0, hx105_1, hx105_2, hx105_3, hx105_4, hx105_5⟩ := at_T26 HR0.out x6_2 p105 q105; have hw105_5 := hx105_5; have hw105_4 := hx105_4; have hw105_3 := hx105_3; have hw105_2 := hx105_2; have hw105_1 := hx105_1; have hw105_0 := hx105_0; obtain rfl : ad102 = ad105 := (by injection e105); replace hx105_0 := (HB.out.cell (World.block_lt_of_cell? w _ hx105_0)).trans hx105_0; replace hx105_1 := (HB.out.cell (World.block_lt_of_cell? w _ hx105_1)).trans hx105_1; replace hx105_2 := (HB.out.cell (World.block_lt_of_cell? w _ hx105_2)).trans hx105_2; replace hx105_3 := (HB.out.cell (World.block_lt_of_cell? w _ hx105_3)).trans hx105_3; replace hx105_4 := (HB.out.cell (World.block_lt_of_cell? w _ hx105_4)).trans hx105_4; replace hx105_5 := (HB.out.cell (World.block_lt_of_cell? w _ hx105_5)).trans hx105_5; replace p105 := eq_true p105; replace q105 := eq_true q105
                 refine start_ (n := 16) (S := fun w' => w'.cell? ⟨gb101, 0, none⟩ = some (.int .i64 a1_0) ∧ w'.cell? ⟨gb101, 1, none⟩ = some (.int .i64 a1_1) ∧ w'.cell? ⟨gb101, 2, none⟩ = some (.int .i64 a1_2) ∧ w'.cell? ⟨gb101, 3, none⟩ = some (.int .i64 a1_3) ∧ w'.cell? ⟨gb101, 4, none⟩ = some (.int .i64 a1_4) ∧ w'.cell? ⟨gb101, 5, none⟩ = some (.int .i64 a1_5) ∧ w'.cell? (ad102.add ((x6_2).toNat * 6)) = some (.int .i64 ((rd_T26 l0 x6_2).f0)) ∧ w'.cell? ⟨(ad102.add ((x6_2).toNat * 6)).block, (ad102.add ((x6_2).toNat * 6)).off + 1, none⟩ = some (.int .i64 ((rd_T26 l0 x6_2).f1)) ∧ w'.cell? ⟨(ad102.add ((x6_2).toNat * 6)).block, (ad102.add ((x6_2).toNat * 6)).off + 2, none⟩ = some (.int .i64 ((rd_T26 l0 x6_2).f2)) ∧ w'.cell? ⟨(ad102.add ((x6_2).toNat * 6)).block, (ad102.add ((x6_2).toNat * 6)).off + 3, none⟩ = some (.int .i64 ((rd_T26 l0 x6_2).f3)) ∧ w'.cell? ⟨(ad102.add ((x6_2).toNat * 6)).block, (ad102.add ((x6_2).toNat * 6)).off + 4, none⟩ = some (.int .i64 ((rd_T26 l0 x6_2).f4)) ∧ w'.cell? ⟨(ad102.add ((x6_2).toNat * 6)).block, (ad102.add ((x6_2).toNat * 6)).off + 5, none⟩ = some (.int .i64 ((rd_T26 l0 x6_2).f5)) ∧ w'.cell? (ad102.add ((x6_2).toNat * 6)) = some (.int .i64 ((rd_T26 l0 x6_2).f0)) ∧ w'.cell? ⟨(ad102.add ((x6_2).toNat * 6)).block, (ad102.add ((x6_2).toNat * 6)).off + 1, none⟩ = some (.int .i64 ((rd_T26 l0 x6_2).f1)) ∧ w'.cell? ⟨(ad102.add ((x6_2).toNat * 6)).block, (ad102.add ((x6_2).toNat * 6)).off + 2, none⟩ = some (.int .i64 ((rd_T26 l0 x6_2).f2)) ∧ w'.cell? ⟨(ad102.add ((x6_2).toNat * 6)).block, (ad102.add ((x6_2).toNat * 6)).off + 3, none⟩ = some (.int .i64 ((rd_T26 l0 x6_2).f3)) ∧ w'.cell? ⟨(ad102.add ((x6_2).toNat * 6)).block, (ad102.add ((x6_2).toNat * 6)).off + 4, none⟩ = some (.int .i64 ((rd_T26 l0 x6_2).f4)) ∧ w'.cell? ⟨(ad102.add ((x6_2).toNat * 6)).block, (ad102.add ((x6_2).toNat * 6)).off + 5, none⟩ = some (.int .i64 ((rd_T26 l0 x6_2).f5))) (ds := []) #[false, false, false, false, false, false, false, false, false, false, false, false, false, false, false, false] (by kernel_rfl) rfl rfl ⟨(blk_cell BK101.out 0).trans rfl, (blk_cell BK101.out 1).trans rfl, (blk_cell BK101.out 2).trans rfl, (blk_cell BK101.out 3).trans rfl, (blk_cell BK101.out 4).trans rfl, (blk_cell BK101.out 5).trans rfl, ((HB.out.cell (World.block_lt_of_cell? w _ hw104_0)).trans hw104_0), ((HB.out.cell (World.block_lt_of_cell? w _ hw104_1)).trans hw104_1), ((HB.out.cell (World.block_lt_of_cell? w _ hw104_2)).trans hw104_2), ((HB.out.cell (World.block_lt_of_cell? w _ hw104_3)).trans hw104_3), ((HB.out.cell (World.block_lt_of_cell? w _ hw104_4)).trans hw104_4), ((HB.out.cell (World.block_lt_of_cell? w _ hw104_5)).trans hw104_5), ((HB.out.cell (World.block_lt_of_cell? w _ hw105_0)).trans hw105_0), ((HB.out.cell (World.block_lt_of_cell? w _ hw105_1)).trans hw105_1), ((HB.out.cell (World.block_lt_of_cell? w _ hw105_2)).trans hw105_2), ((HB.out.cell (World.block_lt_of_cell? w _ hw105_3)).trans hw105_3), ((HB.out.cell (World.block_lt_of_cell? w _ hw105_4)).trans hw105_4), ((HB.out.cell (World.block_lt_of_cell? w _ hw105_5)).trans hw105_5)⟩ (fun hHeld => ?_); refine with_tabW customsref27_may.tab16 customsref27_may.bits16 (fun HT_ HW_ => ?_)
                 generalize wr.drew = w47 at BK101 BK103 HB hx104_0 hx104_1 hx104_2 hx104_3 hx104_4 hx104_5 hx105_0 hx105_1 hx105_2 hx105_3 hx105_4 hx105_5 hHeld ⊢
                 refine pure_ (i := 0) (N := some 88) (v := ?_) (a' := ?_) #[true, false, false, false, false, false, false, false, false, false, false, false, false, false, false, false] rfl rfl (any_of HT_.out (by kernel_rfl)) (fun _ _ _ h => h) (Or.inl ⟨by rfl, ?_⟩) ?_ ?_
                 rotate_left
                 ·intro w'
                  go_simp
                  with_reducible rfl
                 rotate_left
                 ·simp only [Act.put, List.setIfInBounds_toArray, List.set_cons_zero, List.set_cons_succ, i64_w, i32_w]
                  rfl
                 refine pure_ (i := 1) (N := some 89) (v := ?_) (a' := ?_) #[true, true, false, false, false, false, false, false, false, false, false, false, false, false, false, false] rfl rfl (any_of HT_.out (by kernel_rfl)) (fun _ _ _ h => h) (Or.inl ⟨by rfl, ?_⟩) ?_ ?_
                 rotate_left
                 ·intro w'
                  go_simp
                  with_reducible rfl
                 rotate_left
                 ·simp only [Act.put, List.setIfInBounds_toArray, List.set_cons_zero, List.set_cons_succ, i64_w, i32_w]
                  rfl
                 refine pure_ (i := 2) (N := some 90) (v := ?_) (a' := ?_) #[true, true, true, false, false, false, false, false, false, false, false, false, false, false, false, false] rfl rfl (any_of HT_.out (by kernel_rfl)) (fun _ _ _ h => h) (Or.inl ⟨by rfl, ?_⟩) ?_ ?_
                 rotate_left
                 ·intro w'
                  go_simp
                  with_reducible rfl
                 rotate_left
                 ·simp only [Act.put, List.setIfInBounds_toArray, List.set_cons_zero, List.set_cons_succ, i64_w, i32_w]
                  rfl
                 refine pure_ (i := 3) (N := some 91) (v := ?_) (a' := ?_) #[true, true, true, true, false, false, false, false, false, false, false, false, false, false, false, false] rfl rfl (any_of HT_.out (by kernel_rfl)) (fun _ _ _ h => h) (Or.inl ⟨by rfl, ?_⟩) ?_ ?_
                 rotate_left
                 ·intro w'
                  go_simp
                  with_reducible rfl
                 rotate_left
                 ·simp only [Act.put, List.setIfInBounds_toArray, List.set_cons_zero, List.set_cons_succ, i64_w, i32_w]
                  rfl
                 refine take_ (i := 4) (N := some 92) (v := ?_) (a' := ?_) #[true, true, true, true, true, false, false, false, false, false, false, false, false, false, false, false] rfl rfl (take_ofW HT_.out HW_.out (by kernel_rfl)) (fun _ _ _ h => h) (Or.inl ⟨by rfl, ?_⟩) hHeld ?_ ?_
                 rotate_left
                 ·rintro w' ⟨s0, s1, s2, s3, s4, s5, s6, s7, s8, s9, s10, s11, s12, s13, s14, s15, s16, s17⟩
                  go_simp
                  with_reducible rfl
                 rotate_left
                 ·simp only [Act.put, List.setIfInBounds_toArray, List.set_cons_zero, List.set_cons_succ, i64_w, i32_w]
                  rfl
                 refine pure_ (i := 5) (N := some 93) (v := ?_) (a' := ?_) #[true, true, true, true, true, true, false, false, false, false, false, false, false, false, false, false] rfl rfl (any_of HT_.out (by kernel_rfl)) (fun _ _ _ h => h) (Or.inl ⟨by rfl, ?_⟩) ?_ ?_
                 rotate_left
                 ·intro w'
                  go_simp
                  with_reducible rfl
                 rotate_left
                 ·simp only [Act.put, List.setIfInBounds_toArray, List.set_cons_zero, List.set_cons_succ, i64_w, i32_w]
                  rfl
                 refine pure_ (i := 6) (N := some 94) (v := ?_) (a' := ?_) #[true, true, true, true, true, true, true, false, false, false, false, false, false, false, false, false] rfl rfl (any_of HT_.out (by kernel_rfl)) (fun _ _ _ h => h) (Or.inl ⟨by rfl, ?_⟩) ?_ ?_
                 rotate_left
                 ·intro w'
                  go_simp
                  with_reducible rfl
                 rotate_left
                 ·simp only [Act.put, List.setIfInBounds_toArray, List.set_cons_zero, List.set_cons_succ, i64_w, i32_w]
                  rfl
                 refine pure_ (i := 7) (N := some 95) (v := ?_) (a' := ?_) #[true, true, true, true, true, true, true, true, false, false, false, false, false, false, false, false] rfl rfl (any_of HT_.out (by kernel_rfl)) (fun _ _ _ h => h) (Or.inl ⟨by rfl, ?_⟩) ?_ ?_
                 rotate_left
                 ·intro w'
                  go_simp
                  with_reducible rfl
                 rotate_left
                 ·simp only [Act.put, List.setIfInBounds_toArray, List.set_cons_zero, List.set_cons_succ, i64_w, i32_w]
                  rfl
                 refine pure_ (i := 8) (N := some 96) (v := ?_) (a' := ?_) #[true, true, true, true, true, true, true, true, true, false, false, false, false, false, false, false] rfl rfl (any_of HT_.out (by kernel_rfl)) (fun _ _ _ h => h) (Or.inl ⟨by rfl, ?_⟩) ?_ ?_
                 rotate_left
                 ·intro w'
                  go_simp
                  with_reducible rfl
                 rotate_left
                 ·simp only [Act.put, List.setIfInBounds_toArray, List.set_cons_zero, List.set_cons_succ, i64_w, i32_w]
                  rfl
                 refine pure_ (i := 9) (N := some 97) (v := ?_) (a' := ?_) #[true, true, true, true, true, true, true, true, true, true, false, false, false, false, false, false] rfl rfl (any_of HT_.out (by kernel_rfl)) (fun _ _ _ h => h) (Or.inl ⟨by rfl, ?_⟩) ?_ ?_
                 rotate_left
                 ·intro w'
                  go_simp
                  with_reducible rfl
                 rotate_left
                 ·simp only [Act.put, List.setIfInBounds_toArray, List.set_cons_zero, List.set_cons_succ, i64_w, i32_w]
                  rfl
                 refine pure_ (i := 10) (N := some 98) (v := ?_) (a' := ?_) #[true, true, true, true, true, true, true, true, true, true, true, false, false, false, false, false] rfl rfl (any_of HT_.out (by kernel_rfl)) (fun _ _ _ h => h) (Or.inl ⟨by rfl, ?_⟩) ?_ ?_
                 rotate_left
                 ·intro w'
                  go_simp
                  with_reducible rfl
                 rotate_left
                 ·simp only [Act.put, List.setIfInBounds_toArray, List.set_cons_zero, List.set_cons_succ, i64_w, i32_w]
                  rfl
                 refine pure_ (i := 12) (N := some 100) (v := ?_) (a' := ?_) #[true, true, true, true, true, true, true, true, true, true, true, false, true, false, false, false] rfl rfl (any_of HT_.out (by kernel_rfl)) (fun _ _ _ h => h) (Or.inl ⟨by rfl, ?_⟩) ?_ ?_
                 rotate_left
                 ·intro w'
                  go_simp
                  with_reducible rfl
                 rotate_left
                 ·simp only [Act.put, List.setIfInBounds_toArray, List.set_cons_zero, List.set_cons_succ, i64_w, i32_w]
                  rfl
                 refine take_ (i := 11) (N := some 99) (v := ?_) (a' := ?_) #[true, true, true, true, true, true, true, true, true, true, true, true, true, false, false, false] rfl rfl (take_ofW HT_.out HW_.out (by kernel_rfl)) (fun _ _ _ h => h) (Or.inl ⟨by rfl, ?_⟩) hHeld ?_ ?_
                 rotate_left
                 ·rintro w' ⟨s0, s1, s2, s3, s4, s5, s6, s7, s8, s9, s10, s11, s12, s13, s14, s15, s16, s17⟩
                  go_simp
                  with_reducible rfl
                 rotate_left
                 ·simp only [Act.put, List.setIfInBounds_toArray, List.set_cons_zero, List.set_cons_succ, i64_w, i32_w]
                  rfl
                 refine take_ (i := 13) (N := some 101) (v := ?_) (a' := ?_) #[true, true, true, true, true, true, true, true, true, true, true, true, true, true, false, false] rfl rfl (take_ofW HT_.out HW_.out (by kernel_rfl)) (fun _ _ _ h => h) (Or.inl ⟨by rfl, ?_⟩) hHeld ?_ ?_
                 rotate_left
                 ·rintro w' ⟨s0, s1, s2, s3, s4, s5, s6, s7, s8, s9, s10, s11, s12, s13, s14, s15, s16, s17⟩
                  go_simp
                  with_reducible rfl
                 rotate_left
                 ·simp only [Act.put, List.setIfInBounds_toArray, List.set_cons_zero, List.set_cons_succ, i64_w, i32_w]
                  rfl
                 refine pure_ (i := 14) (N := some 102) (v := ?_) (a' := ?_) #[true, true, true, true, true, true, true, true, true, true, true, true, true, true, true, false] rfl rfl (any_of HT_.out (by kernel_rfl)) (fun _ _ _ h => h) (Or.inl ⟨by rfl, ?_⟩) ?_ ?_
                 rotate_left
                 ·intro w'
                  go_simp
                  with_reducible rfl
                 rotate_left
                 ·simp only [Act.put, List.setIfInBounds_toArray, List.set_cons_zero, List.set_cons_succ, i64_w, i32_w]
                  rfl
                 refine pure_ (i := 15) (N := some 103) (v := ?_) (a' := ?_) #[true, true, true, true, true, true, true, true, true, true, true, true, true, true, true, true] rfl rfl (any_of HT_.out (by kernel_rfl)) (fun _ _ _ h => h) (Or.inl ⟨by rfl, ?_⟩) ?_ ?_
                 rotate_left
                 ·intro w'
                  go_simp
                  with_reducible rfl
                 rotate_left
                 ·simp only [Act.put, List.setIfInBounds_toArray, List.set_cons_zero, List.set_cons_succ, i64_w, i32_w]
                  rfl
                 refine done_ (done_of HT_.out (by kernel_rfl)) ?_
                 try go_wp2
                 go_ret
                 exact ⟨by first | rfl | (simp [errW_none, errW_some] <;> rfl) | (simp only [← hji31]; first | rfl | (simp [errW_none, errW_some] <;> rfl)) | (simp [*, errW_none, errW_some] <;> rfl), bel⟩
                ·rw [if_neg c46] at H
                 have c46b0 : (((rd_T26 l0 x6_2).f4) == a1_4) = false := beq_eq_false_iff_ne.mpr c46; have c46b1 : (((rd_T26 l0 x6_2).f4) != a1_4) = true := bne_iff_ne.mpr c46; have H' := Aside0.mk H; clear H
                 try go_wp2
                 have n0_ := Aside0.mk (blk_drew BK101.out); have n1_ := Aside0.mk (blk_drew BK103.out); have n2_ := Aside0.mk (below_drew1 HB.out); clear BK101; clear BK103; clear HB; have BK101 := n0_; have BK103 := n1_; have HB := n2_; clear n0_ n1_ n2_; have p104 : 0 ≤ (x6_2 : Int) := of_decide_eq_true zPA7; have q104 : x6_2 < (l0.length : Int) := of_decide_eq_true zPA7; obtain ⟨ad104, e104, hx104_0, hx104_1, hx104_2, hx104_3, hx104_4, hx104_5⟩ := at_T26 HR0.out x6_2 p104 q104; have hw104_5 := hx104_5; have hw104_4 := hx104_4; have hw104_3 := hx104_3; have hw104_2 := hx104_2; have hw104_1 := hx104_1; have hw104_0 := hx104_0; obtain rfl : ad102 = ad104 := (by injection e104); replace hx104_0 := (HB.out.cell (World.block_lt_of_cell? w _ hx104_0)).trans hx104_0; replace hx104_1 := (HB.out.cell (World.block_lt_of_cell? w _ hx104_1)).trans hx104_1; replace hx104_2 := (HB.out.cell (World.block_lt_of_cell? w _ hx104_2)).trans hx104_2; replace hx104_3 := (HB.out.cell (World.block_lt_of_cell? w _ hx104_3)).trans hx104_3; replace hx104_4 := (HB.out.cell (World.block_lt_of_cell? w _ hx104_4)).trans hx104_4; replace hx104_5 := (HB.out.cell (World.block_lt_of_cell? w _ hx104_5)).trans hx104_5; replace p104 := eq_true p104; replace q104 := eq_true q104; have p105 : 0 ≤ (x6_2 : Int) := of_decide_eq_true zPA7; have q105 : x6_2 < (l0.length : Int) := of_decide_eq_true zPA7; obtain ⟨ad105, e105, hx105_0, hx105_1, hx105_2, hx105_3, hx105_4, hx105_5⟩ := at_T26 HR0.out x6_2 p105 q105; have hw105_5 := hx105_5; have hw105_4 := hx105_4; have hw105_3 := hx105_3; have hw105_2 := hx105_2; have hw105_1 := hx105_1; have hw105_0 := hx105_0; obtain rfl : ad102 = ad105 := (by injection e105); replace hx105_0 := (HB.out.cell (World.block_lt_of_cell? w _ hx105_0)).trans hx105_0; replace hx105_1 := (HB.out.cell (World.block_lt_of_cell? w _ hx105_1)).trans hx105_1; replace hx105_2 := (HB.out.cell (World.block_lt_of_cell? w _ hx105_2)).trans hx105_2; replace hx105_3 := (HB.out.cell (World.block_lt_of_cell? w _ hx105_3)).trans hx105_3; replace hx105_4 := (HB.out.cell (World.block_lt_of_cell? w _ hx105_4)).trans hx105_4; replace hx105_5 := (HB.out.cell (World.block_lt_of_cell? w _ hx105_5)).trans hx105_5; replace p105 := eq_true p105; replace q105 := eq_true q105
                 refine start_ (n := 16) (S := fun w' => w'.cell? ⟨gb101, 0, none⟩ = some (.int .i64 a1_0) ∧ w'.cell? ⟨gb101, 1, none⟩ = some (.int .i64 a1_1) ∧ w'.cell? ⟨gb101, 2, none⟩ = some (.int .i64 a1_2) ∧ w'.cell? ⟨gb101, 3, none⟩ = some (.int .i64 a1_3) ∧ w'.cell? ⟨gb101, 4, none⟩ = some (.int .i64 a1_4) ∧ w'.cell? ⟨gb101, 5, none⟩ = some (.int .i64 a1_5) ∧ w'.cell? (ad102.add ((x6_2).toNat * 6)) = some (.int .i64 ((rd_T26 l0 x6_2).f0)) ∧ w'.cell? ⟨(ad102.add ((x6_2).toNat * 6)).block, (ad102.add ((x6_2).toNat * 6)).off + 1, none⟩ = some (.int .i64 ((rd_T26 l0 x6_2).f1)) ∧ w'.cell? ⟨(ad102.add ((x6_2).toNat * 6)).block, (ad102.add ((x6_2).toNat * 6)).off + 2, none⟩ = some (.int .i64 ((rd_T26 l0 x6_2).f2)) ∧ w'.cell? ⟨(ad102.add ((x6_2).toNat * 6)).block, (ad102.add ((x6_2).toNat * 6)).off + 3, none⟩ = some (.int .i64 ((rd_T26 l0 x6_2).f3)) ∧ w'.cell? ⟨(ad102.add ((x6_2).toNat * 6)).block, (ad102.add ((x6_2).toNat * 6)).off + 4, none⟩ = some (.int .i64 ((rd_T26 l0 x6_2).f4)) ∧ w'.cell? ⟨(ad102.add ((x6_2).toNat * 6)).block, (ad102.add ((x6_2).toNat * 6)).off + 5, none⟩ = some (.int .i64 ((rd_T26 l0 x6_2).f5)) ∧ w'.cell? (ad102.add ((x6_2).toNat * 6)) = some (.int .i64 ((rd_T26 l0 x6_2).f0)) ∧ w'.cell? ⟨(ad102.add ((x6_2).toNat * 6)).block, (ad102.add ((x6_2).toNat * 6)).off + 1, none⟩ = some (.int .i64 ((rd_T26 l0 x6_2).f1)) ∧ w'.cell? ⟨(ad102.add ((x6_2).toNat * 6)).block, (ad102.add ((x6_2).toNat * 6)).off + 2, none⟩ = some (.int .i64 ((rd_T26 l0 x6_2).f2)) ∧ w'.cell? ⟨(ad102.add ((x6_2).toNat * 6)).block, (ad102.add ((x6_2).toNat * 6)).off + 3, none⟩ = some (.int .i64 ((rd_T26 l0 x6_2).f3)) ∧ w'.cell? ⟨(ad102.add ((x6_2).toNat * 6)).block, (ad102.add ((x6_2).toNat * 6)).off + 4, none⟩ = some (.int .i64 ((rd_T26 l0 x6_2).f4)) ∧ w'.cell? ⟨(ad102.add ((x6_2).toNat * 6)).block, (ad102.add ((x6_2).toNat * 6)).off + 5, none⟩ = some (.int .i64 ((rd_T26 l0 x6_2).f5))) (ds := []) #[false, false, false, false, false, false, false, false, false, false, false, false, false, false, false, false] (by kernel_rfl) rfl rfl ⟨(blk_cell BK101.out 0).trans rfl, (blk_cell BK101.out 1).trans rfl, (blk_cell BK101.out 2).trans rfl, (blk_cell BK101.out 3).trans rfl, (blk_cell BK101.out 4).trans rfl, (blk_cell BK101.out 5).trans rfl, ((HB.out.cell (World.block_lt_of_cell? w _ hw104_0)).trans hw104_0), ((HB.out.cell (World.block_lt_of_cell? w _ hw104_1)).trans hw104_1), ((HB.out.cell (World.block_lt_of_cell? w _ hw104_2)).trans hw104_2), ((HB.out.cell (World.block_lt_of_cell? w _ hw104_3)).trans hw104_3), ((HB.out.cell (World.block_lt_of_cell? w _ hw104_4)).trans hw104_4), ((HB.out.cell (World.block_lt_of_cell? w _ hw104_5)).trans hw104_5), ((HB.out.cell (World.block_lt_of_cell? w _ hw105_0)).trans hw105_0), ((HB.out.cell (World.block_lt_of_cell? w _ hw105_1)).trans hw105_1), ((HB.out.cell (World.block_lt_of_cell? w _ hw105_2)).trans hw105_2), ((HB.out.cell (World.block_lt_of_cell? w _ hw105_3)).trans hw105_3), ((HB.out.cell (World.block_lt_of_cell? w _ hw105_4)).trans hw105_4), ((HB.out.cell (World.block_lt_of_cell? w _ hw105_5)).trans hw105_5)⟩ (fun hHeld => ?_); refine with_tabW customsref27_may.tab16 customsref27_may.bits16 (fun HT_ HW_ => ?_)
                 generalize wr.drew = w48 at BK101 BK103 HB hx104_0 hx104_1 hx104_2 hx104_3 hx104_4 hx104_5 hx105_0 hx105_1 hx105_2 hx105_3 hx105_4 hx105_5 hHeld ⊢
                 refine pure_ (i := 0) (N := some 88) (v := ?_) (a' := ?_) #[true, false, false, false, false, false, false, false, false, false, false, false, false, false, false, false] rfl rfl (any_of HT_.out (by kernel_rfl)) (fun _ _ _ h => h) (Or.inl ⟨by rfl, ?_⟩) ?_ ?_
                 rotate_left
                 ·intro w'
                  go_simp
                  with_reducible rfl
                 rotate_left
                 ·simp only [Act.put, List.setIfInBounds_toArray, List.set_cons_zero, List.set_cons_succ, i64_w, i32_w]
                  rfl
                 refine pure_ (i := 1) (N := some 89) (v := ?_) (a' := ?_) #[true, true, false, false, false, false, false, false, false, false, false, false, false, false, false, false] rfl rfl (any_of HT_.out (by kernel_rfl)) (fun _ _ _ h => h) (Or.inl ⟨by rfl, ?_⟩) ?_ ?_
                 rotate_left
                 ·intro w'
                  go_simp
                  with_reducible rfl
                 rotate_left
                 ·simp only [Act.put, List.setIfInBounds_toArray, List.set_cons_zero, List.set_cons_succ, i64_w, i32_w]
                  rfl
                 refine pure_ (i := 2) (N := some 90) (v := ?_) (a' := ?_) #[true, true, true, false, false, false, false, false, false, false, false, false, false, false, false, false] rfl rfl (any_of HT_.out (by kernel_rfl)) (fun _ _ _ h => h) (Or.inl ⟨by rfl, ?_⟩) ?_ ?_
                 rotate_left
                 ·intro w'
                  go_simp
                  with_reducible rfl
                 rotate_left
                 ·simp only [Act.put, List.setIfInBounds_toArray, List.set_cons_zero, List.set_cons_succ, i64_w, i32_w]
                  rfl
                 refine pure_ (i := 3) (N := some 91) (v := ?_) (a' := ?_) #[true, true, true, true, false, false, false, false, false, false, false, false, false, false, false, false] rfl rfl (any_of HT_.out (by kernel_rfl)) (fun _ _ _ h => h) (Or.inl ⟨by rfl, ?_⟩) ?_ ?_
                 rotate_left
                 ·intro w'
                  go_simp
                  with_reducible rfl
                 rotate_left
                 ·simp only [Act.put, List.setIfInBounds_toArray, List.set_cons_zero, List.set_cons_succ, i64_w, i32_w]
                  rfl
                 refine take_ (i := 4) (N := some 92) (v := ?_) (a' := ?_) #[true, true, true, true, true, false, false, false, false, false, false, false, false, false, false, false] rfl rfl (take_ofW HT_.out HW_.out (by kernel_rfl)) (fun _ _ _ h => h) (Or.inl ⟨by rfl, ?_⟩) hHeld ?_ ?_
                 rotate_left
                 ·rintro w' ⟨s0, s1, s2, s3, s4, s5, s6, s7, s8, s9, s10, s11, s12, s13, s14, s15, s16, s17⟩
                  go_simp
                  with_reducible rfl
                 rotate_left
                 ·simp only [Act.put, List.setIfInBounds_toArray, List.set_cons_zero, List.set_cons_succ, i64_w, i32_w]
                  rfl
                 refine pure_ (i := 5) (N := some 93) (v := ?_) (a' := ?_) #[true, true, true, true, true, true, false, false, false, false, false, false, false, false, false, false] rfl rfl (any_of HT_.out (by kernel_rfl)) (fun _ _ _ h => h) (Or.inl ⟨by rfl, ?_⟩) ?_ ?_
                 rotate_left
                 ·intro w'
                  go_simp
                  with_reducible rfl
                 rotate_left
                 ·simp only [Act.put, List.setIfInBounds_toArray, List.set_cons_zero, List.set_cons_succ, i64_w, i32_w]
                  rfl
                 refine pure_ (i := 6) (N := some 94) (v := ?_) (a' := ?_) #[true, true, true, true, true, true, true, false, false, false, false, false, false, false, false, false] rfl rfl (any_of HT_.out (by kernel_rfl)) (fun _ _ _ h => h) (Or.inl ⟨by rfl, ?_⟩) ?_ ?_
                 rotate_left
                 ·intro w'
                  go_simp
                  with_reducible rfl
                 rotate_left
                 ·simp only [Act.put, List.setIfInBounds_toArray, List.set_cons_zero, List.set_cons_succ, i64_w, i32_w]
                  rfl
                 refine pure_ (i := 7) (N := some 95) (v := ?_) (a' := ?_) #[true, true, true, true, true, true, true, true, false, false, false, false, false, false, false, false] rfl rfl (any_of HT_.out (by kernel_rfl)) (fun _ _ _ h => h) (Or.inl ⟨by rfl, ?_⟩) ?_ ?_
                 rotate_left
                 ·intro w'
                  go_simp
                  with_reducible rfl
                 rotate_left
                 ·simp only [Act.put, List.setIfInBounds_toArray, List.set_cons_zero, List.set_cons_succ, i64_w, i32_w]
                  rfl
                 refine pure_ (i := 8) (N := some 96) (v := ?_) (a' := ?_) #[true, true, true, true, true, true, true, true, true, false, false, false, false, false, false, false] rfl rfl (any_of HT_.out (by kernel_rfl)) (fun _ _ _ h => h) (Or.inl ⟨by rfl, ?_⟩) ?_ ?_
                 rotate_left
                 ·intro w'
                  go_simp
                  with_reducible rfl
                 rotate_left
                 ·simp only [Act.put, List.setIfInBounds_toArray, List.set_cons_zero, List.set_cons_succ, i64_w, i32_w]
                  rfl
                 refine pure_ (i := 9) (N := some 97) (v := ?_) (a' := ?_) #[true, true, true, true, true, true, true, true, true, true, false, false, false, false, false, false] rfl rfl (any_of HT_.out (by kernel_rfl)) (fun _ _ _ h => h) (Or.inl ⟨by rfl, ?_⟩) ?_ ?_
                 rotate_left
                 ·intro w'
                  go_simp
                  with_reducible rfl
                 rotate_left
                 ·simp only [Act.put, List.setIfInBounds_toArray, List.set_cons_zero, List.set_cons_succ, i64_w, i32_w]
                  rfl
                 refine pure_ (i := 10) (N := some 98) (v := ?_) (a' := ?_) #[true, true, true, true, true, true, true, true, true, true, true, false, false, false, false, false] rfl rfl (any_of HT_.out (by kernel_rfl)) (fun _ _ _ h => h) (Or.inl ⟨by rfl, ?_⟩) ?_ ?_
                 rotate_left
                 ·intro w'
                  go_simp
                  with_reducible rfl
                 rotate_left
                 ·simp only [Act.put, List.setIfInBounds_toArray, List.set_cons_zero, List.set_cons_succ, i64_w, i32_w]
                  rfl
                 refine pure_ (i := 12) (N := some 100) (v := ?_) (a' := ?_) #[true, true, true, true, true, true, true, true, true, true, true, false, true, false, false, false] rfl rfl (any_of HT_.out (by kernel_rfl)) (fun _ _ _ h => h) (Or.inl ⟨by rfl, ?_⟩) ?_ ?_
                 rotate_left
                 ·intro w'
                  go_simp
                  with_reducible rfl
                 rotate_left
                 ·simp only [Act.put, List.setIfInBounds_toArray, List.set_cons_zero, List.set_cons_succ, i64_w, i32_w]
                  rfl
                 refine take_ (i := 11) (N := some 99) (v := ?_) (a' := ?_) #[true, true, true, true, true, true, true, true, true, true, true, true, true, false, false, false] rfl rfl (take_ofW HT_.out HW_.out (by kernel_rfl)) (fun _ _ _ h => h) (Or.inl ⟨by rfl, ?_⟩) hHeld ?_ ?_
                 rotate_left
                 ·rintro w' ⟨s0, s1, s2, s3, s4, s5, s6, s7, s8, s9, s10, s11, s12, s13, s14, s15, s16, s17⟩
                  go_simp
                  with_reducible rfl
                 rotate_left
                 ·simp only [Act.put, List.setIfInBounds_toArray, List.set_cons_zero, List.set_cons_succ, i64_w, i32_w]
                  rfl
                 refine take_ (i := 13) (N := some 101) (v := ?_) (a' := ?_) #[true, true, true, true, true, true, true, true, true, true, true, true, true, true, false, false] rfl rfl (take_ofW HT_.out HW_.out (by kernel_rfl)) (fun _ _ _ h => h) (Or.inl ⟨by rfl, ?_⟩) hHeld ?_ ?_
                 rotate_left
                 ·rintro w' ⟨s0, s1, s2, s3, s4, s5, s6, s7, s8, s9, s10, s11, s12, s13, s14, s15, s16, s17⟩
                  go_simp
                  with_reducible rfl
                 rotate_left
                 ·simp only [Act.put, List.setIfInBounds_toArray, List.set_cons_zero, List.set_cons_succ, i64_w, i32_w]
                  rfl
                 refine pure_ (i := 14) (N := some 102) (v := ?_) (a' := ?_) #[true, true, true, true, true, true, true, true, true, true, true, true, true, true, true, false] rfl rfl (any_of HT_.out (by kernel_rfl)) (fun _ _ _ h => h) (Or.inl ⟨by rfl, ?_⟩) ?_ ?_
                 rotate_left
                 ·intro w'
                  go_simp
                  with_reducible rfl
                 rotate_left
                 ·simp only [Act.put, List.setIfInBounds_toArray, List.set_cons_zero, List.set_cons_succ, i64_w, i32_w]
                  rfl
                 refine pure_ (i := 15) (N := some 103) (v := ?_) (a' := ?_) #[true, true, true, true, true, true, true, true, true, true, true, true, true, true, true, true] rfl rfl (any_of HT_.out (by kernel_rfl)) (fun _ _ _ h => h) (Or.inl ⟨by rfl, ?_⟩) ?_ ?_
                 rotate_left
                 ·intro w'
                  go_simp
                  with_reducible rfl
                 rotate_left
                 ·simp only [Act.put, List.setIfInBounds_toArray, List.set_cons_zero, List.set_cons_succ, i64_w, i32_w]
                  rfl
                 refine done_ (done_of HT_.out (by kernel_rfl)) ?_
                 try go_wp2
                 go_roundg k2
                 case measure => have := HJ4.out; have := HK2.out; omega
                 case rel => exact ⟨(wrap64 (x6_2 + 1)), zPA11, H', ⟨by have := HJ4.out; have := HK2.out; omega⟩, ⟨by (with_reducible repeat (first | refine blk_drewN ?_ _ | refine blk_drew ?_ | refine blk_alloc ?_ _)); exact BK101.out⟩, ⟨by (with_reducible repeat (first | refine blk_drewN ?_ _ | refine blk_drew ?_ | refine blk_alloc ?_ _)); exact BK103.out⟩, ⟨bel⟩⟩
               ·rw [if_neg c45] at H
                have c45b0 : (((rd_T26 l0 x6_2).f2) == 9) = false := beq_eq_false_iff_ne.mpr c45; have c45b1 : (((rd_T26 l0 x6_2).f2) != 9) = true := bne_iff_ne.mpr c45; have H' := Aside0.mk H; clear H
                try go_wp2
                have n0_ := Aside0.mk (blk_drew BK101.out); have n1_ := Aside0.mk (blk_drew BK103.out); have n2_ := Aside0.mk (below_drew1 HB.out); clear BK101; clear BK103; clear HB; have BK101 := n0_; have BK103 := n1_; have HB := n2_; clear n0_ n1_ n2_; have p104 : 0 ≤ (x6_2 : Int) := of_decide_eq_true zPA7; have q104 : x6_2 < (l0.length : Int) := of_decide_eq_true zPA7; obtain ⟨ad104, e104, hx104_0, hx104_1, hx104_2, hx104_3, hx104_4, hx104_5⟩ := at_T26 HR0.out x6_2 p104 q104; have hw104_5 := hx104_5; have hw104_4 := hx104_4; have hw104_3 := hx104_3; have hw104_2 := hx104_2; have hw104_1 := hx104_1; have hw104_0 := hx104_0; obtain rfl : ad102 = ad104 := (by injection e104); replace hx104_0 := (HB.out.cell (World.block_lt_of_cell? w _ hx104_0)).trans hx104_0; replace hx104_1 := (HB.out.cell (World.block_lt_of_cell? w _ hx104_1)).trans hx104_1; replace hx104_2 := (HB.out.cell (World.block_lt_of_cell? w _ hx104_2)).trans hx104_2; replace hx104_3 := (HB.out.cell (World.block_lt_of_cell? w _ hx104_3)).trans hx104_3; replace hx104_4 := (HB.out.cell (World.block_lt_of_cell? w _ hx104_4)).trans hx104_4; replace hx104_5 := (HB.out.cell (World.block_lt_of_cell? w _ hx104_5)).trans hx104_5; replace p104 := eq_true p104; replace q104 := eq_true q104
                refine start_ (n := 16) (S := fun w' => w'.cell? (ad102.add ((x6_2).toNat * 6)) = some (.int .i64 ((rd_T26 l0 x6_2).f0)) ∧ w'.cell? ⟨(ad102.add ((x6_2).toNat * 6)).block, (ad102.add ((x6_2).toNat * 6)).off + 1, none⟩ = some (.int .i64 ((rd_T26 l0 x6_2).f1)) ∧ w'.cell? ⟨(ad102.add ((x6_2).toNat * 6)).block, (ad102.add ((x6_2).toNat * 6)).off + 2, none⟩ = some (.int .i64 ((rd_T26 l0 x6_2).f2)) ∧ w'.cell? ⟨(ad102.add ((x6_2).toNat * 6)).block, (ad102.add ((x6_2).toNat * 6)).off + 3, none⟩ = some (.int .i64 ((rd_T26 l0 x6_2).f3)) ∧ w'.cell? ⟨(ad102.add ((x6_2).toNat * 6)).block, (ad102.add ((x6_2).toNat * 6)).off + 4, none⟩ = some (.int .i64 ((rd_T26 l0 x6_2).f4)) ∧ w'.cell? ⟨(ad102.add ((x6_2).toNat * 6)).block, (ad102.add ((x6_2).toNat * 6)).off + 5, none⟩ = some (.int .i64 ((rd_T26 l0 x6_2).f5))) (ds := []) #[false, false, false, false, false, false, false, false, false, false, false, false, false, false, false, false] (by kernel_rfl) rfl rfl ⟨((HB.out.cell (World.block_lt_of_cell? w _ hw104_0)).trans hw104_0), ((HB.out.cell (World.block_lt_of_cell? w _ hw104_1)).trans hw104_1), ((HB.out.cell (World.block_lt_of_cell? w _ hw104_2)).trans hw104_2), ((HB.out.cell (World.block_lt_of_cell? w _ hw104_3)).trans hw104_3), ((HB.out.cell (World.block_lt_of_cell? w _ hw104_4)).trans hw104_4), ((HB.out.cell (World.block_lt_of_cell? w _ hw104_5)).trans hw104_5)⟩ (fun hHeld => ?_); refine with_tabW customsref27_may.tab16 customsref27_may.bits16 (fun HT_ HW_ => ?_)
                generalize wr.drew = w49 at BK101 BK103 HB hx104_0 hx104_1 hx104_2 hx104_3 hx104_4 hx104_5 hHeld ⊢
                refine pure_ (i := 0) (N := some 88) (v := ?_) (a' := ?_) #[true, false, false, false, false, false, false, false, false, false, false, false, false, false, false, false] rfl rfl (any_of HT_.out (by kernel_rfl)) (fun _ _ _ h => h) (Or.inl ⟨by rfl, ?_⟩) ?_ ?_
                rotate_left
                ·intro w'
                 go_simp
                 with_reducible rfl
                rotate_left
                ·simp only [Act.put, List.setIfInBounds_toArray, List.set_cons_zero, List.set_cons_succ, i64_w, i32_w]
                 rfl
                refine pure_ (i := 1) (N := some 89) (v := ?_) (a' := ?_) #[true, true, false, false, false, false, false, false, false, false, false, false, false, false, false, false] rfl rfl (any_of HT_.out (by kernel_rfl)) (fun _ _ _ h => h) (Or.inl ⟨by rfl, ?_⟩) ?_ ?_
                rotate_left
                ·intro w'
                 go_simp
                 with_reducible rfl
                rotate_left
                ·simp only [Act.put, List.setIfInBounds_toArray, List.set_cons_zero, List.set_cons_succ, i64_w, i32_w]
                 rfl
                refine pure_ (i := 2) (N := some 90) (v := ?_) (a' := ?_) #[true, true, true, false, false, false, false, false, false, false, false, false, false, false, false, false] rfl rfl (any_of HT_.out (by kernel_rfl)) (fun _ _ _ h => h) (Or.inl ⟨by rfl, ?_⟩) ?_ ?_
                rotate_left
                ·intro w'
                 go_simp
                 with_reducible rfl
                rotate_left
                ·simp only [Act.put, List.setIfInBounds_toArray, List.set_cons_zero, List.set_cons_succ, i64_w, i32_w]
                 rfl
                refine pure_ (i := 3) (N := some 91) (v := ?_) (a' := ?_) #[true, true, true, true, false, false, false, false, false, false, false, false, false, false, false, false] rfl rfl (any_of HT_.out (by kernel_rfl)) (fun _ _ _ h => h) (Or.inl ⟨by rfl, ?_⟩) ?_ ?_
                rotate_left
                ·intro w'
                 go_simp
                 with_reducible rfl
                rotate_left
                ·simp only [Act.put, List.setIfInBounds_toArray, List.set_cons_zero, List.set_cons_succ, i64_w, i32_w]
                 rfl
                refine take_ (i := 4) (N := some 92) (v := ?_) (a' := ?_) #[true, true, true, true, true, false, false, false, false, false, false, false, false, false, false, false] rfl rfl (take_ofW HT_.out HW_.out (by kernel_rfl)) (fun _ _ _ h => h) (Or.inl ⟨by rfl, ?_⟩) hHeld ?_ ?_
                rotate_left
                ·rintro w' ⟨s0, s1, s2, s3, s4, s5⟩
                 go_simp
                 with_reducible rfl
                rotate_left
                ·simp only [Act.put, List.setIfInBounds_toArray, List.set_cons_zero, List.set_cons_succ, i64_w, i32_w]
                 rfl
                refine pure_ (i := 5) (N := some 93) (v := ?_) (a' := ?_) #[true, true, true, true, true, true, false, false, false, false, false, false, false, false, false, false] rfl rfl (any_of HT_.out (by kernel_rfl)) (fun _ _ _ h => h) (Or.inl ⟨by rfl, ?_⟩) ?_ ?_
                rotate_left
                ·intro w'
                 go_simp
                 with_reducible rfl
                rotate_left
                ·simp only [Act.put, List.setIfInBounds_toArray, List.set_cons_zero, List.set_cons_succ, i64_w, i32_w]
                 rfl
                refine pure_ (i := 6) (N := some 94) (v := ?_) (a' := ?_) #[true, true, true, true, true, true, true, false, false, false, false, false, false, false, false, false] rfl rfl (any_of HT_.out (by kernel_rfl)) (fun _ _ _ h => h) (Or.inl ⟨by rfl, ?_⟩) ?_ ?_
                rotate_left
                ·intro w'
                 go_simp
                 with_reducible rfl
                rotate_left
                ·simp only [Act.put, List.setIfInBounds_toArray, List.set_cons_zero, List.set_cons_succ, i64_w, i32_w]
                 rfl
                refine pure_ (i := 7) (N := some 95) (v := undef) (a' := ?_) #[true, true, true, true, true, true, true, true, false, false, false, false, false, false, false, false] rfl rfl (any_of HT_.out (by kernel_rfl)) (fun _ _ _ h => h) (Or.inr ⟨by rfl, rfl⟩) ?_ ?_
                rotate_left
                ·simp only [Act.put, List.setIfInBounds_toArray, List.set_cons_zero, List.set_cons_succ, i64_w, i32_w]
                 rfl
                refine pure_ (i := 8) (N := some 96) (v := undef) (a' := ?_) #[true, true, true, true, true, true, true, true, true, false, false, false, false, false, false, false] rfl rfl (any_of HT_.out (by kernel_rfl)) (fun _ _ _ h => h) (Or.inr ⟨by rfl, rfl⟩) ?_ ?_
                rotate_left
                ·simp only [Act.put, List.setIfInBounds_toArray, List.set_cons_zero, List.set_cons_succ, i64_w, i32_w]
                 rfl
                refine pure_ (i := 9) (N := some 97) (v := undef) (a' := ?_) #[true, true, true, true, true, true, true, true, true, true, false, false, false, false, false, false] rfl rfl (any_of HT_.out (by kernel_rfl)) (fun _ _ _ h => h) (Or.inr ⟨by rfl, rfl⟩) ?_ ?_
                rotate_left
                ·simp only [Act.put, List.setIfInBounds_toArray, List.set_cons_zero, List.set_cons_succ, i64_w, i32_w]
                 rfl
                refine pure_ (i := 10) (N := some 98) (v := undef) (a' := ?_) #[true, true, true, true, true, true, true, true, true, true, true, false, false, false, false, false] rfl rfl (any_of HT_.out (by kernel_rfl)) (fun _ _ _ h => h) (Or.inr ⟨by rfl, rfl⟩) ?_ ?_
                rotate_left
                ·simp only [Act.put, List.setIfInBounds_toArray, List.set_cons_zero, List.set_cons_succ, i64_w, i32_w]
                 rfl
                refine pure_ (i := 11) (N := some 99) (v := undef) (a' := ?_) #[true, true, true, true, true, true, true, true, true, true, true, true, false, false, false, false] rfl rfl (any_of HT_.out (by kernel_rfl)) (fun _ _ _ h => h) (Or.inr ⟨by rfl, rfl⟩) ?_ ?_
                rotate_left
                ·simp only [Act.put, List.setIfInBounds_toArray, List.set_cons_zero, List.set_cons_succ, i64_w, i32_w]
                 rfl
                refine pure_ (i := 12) (N := some 100) (v := undef) (a' := ?_) #[true, true, true, true, true, true, true, true, true, true, true, true, true, false, false, false] rfl rfl (any_of HT_.out (by kernel_rfl)) (fun _ _ _ h => h) (Or.inr ⟨by rfl, rfl⟩) ?_ ?_
                rotate_left
                ·simp only [Act.put, List.setIfInBounds_toArray, List.set_cons_zero, List.set_cons_succ, i64_w, i32_w]
                 rfl
                refine pure_ (i := 13) (N := some 101) (v := undef) (a' := ?_) #[true, true, true, true, true, true, true, true, true, true, true, true, true, true, false, false] rfl rfl (any_of HT_.out (by kernel_rfl)) (fun _ _ _ h => h) (Or.inr ⟨by rfl, rfl⟩) ?_ ?_
                rotate_left
                ·simp only [Act.put, List.setIfInBounds_toArray, List.set_cons_zero, List.set_cons_succ, i64_w, i32_w]
                 rfl
                refine pure_ (i := 14) (N := some 102) (v := undef) (a' := ?_) #[true, true, true, true, true, true, true, true, true, true, true, true, true, true, true, false] rfl rfl (any_of HT_.out (by kernel_rfl)) (fun _ _ _ h => h) (Or.inr ⟨by rfl, rfl⟩) ?_ ?_
                rotate_left
                ·simp only [Act.put, List.setIfInBounds_toArray, List.set_cons_zero, List.set_cons_succ, i64_w, i32_w]
                 rfl
                refine pure_ (i := 15) (N := some 103) (v := ?_) (a' := ?_) #[true, true, true, true, true, true, true, true, true, true, true, true, true, true, true, true] rfl rfl (any_of HT_.out (by kernel_rfl)) (fun _ _ _ h => h) (Or.inl ⟨by rfl, ?_⟩) ?_ ?_
                rotate_left
                ·intro w'
                 go_simp
                 with_reducible rfl
                rotate_left
                ·simp only [Act.put, List.setIfInBounds_toArray, List.set_cons_zero, List.set_cons_succ, i64_w, i32_w]
                 rfl
                refine done_ (done_of HT_.out (by kernel_rfl)) ?_
                try go_wp2
                go_roundg k2
                case measure => have := HJ4.out; have := HK2.out; omega
                case rel => exact ⟨(wrap64 (x6_2 + 1)), zPA11, H', ⟨by have := HJ4.out; have := HK2.out; omega⟩, ⟨by (with_reducible repeat (first | refine blk_drewN ?_ _ | refine blk_drew ?_ | refine blk_alloc ?_ _)); exact BK101.out⟩, ⟨by (with_reducible repeat (first | refine blk_drewN ?_ _ | refine blk_drew ?_ | refine blk_alloc ?_ _)); exact BK103.out⟩, ⟨bel⟩⟩
              ·rw [if_neg c44] at H
               exact absurd H (by simp)
             ·rw [if_neg c43] at H
              have c43b0 : decide (x6_2 < (l0.length : Int)) = false := decide_eq_false c43; clear c43
              by_cases c50 : ((rd_T26 l0 (ji31)).f3) = a1_3
              ·rw [if_pos c50] at H
               have c50b0 : (((rd_T26 l0 (ji31)).f3) == a1_3) = true := beq_iff_eq.mpr c50; have c50b1 : (((rd_T26 l0 (ji31)).f3) != a1_3) = false := bne_eq_false_iff_eq.mpr c50; clear c50; have hnb55 := NB103_101.out; have hnc55 := NB101_103.out; obtain ⟨hcz56_0, hcz56_1, hcz56_2, hcz56_3, hcz56_4, hcz56_5, hfz56_0, hfz56_1, hfz56_2, hfz56_3, hfz56_4, hfz56_5⟩ := cells6 BK103.out; obtain ⟨hcz57_0, hcz57_1, hcz57_2, hcz57_3, hcz57_4, hcz57_5, hfz57_0, hfz57_1, hfz57_2, hfz57_3, hfz57_4, hfz57_5⟩ := cells6 BK101.out
               try go_wp2
               exact customsref27_may.tail k2 _ _ l0 a1_0 a1_1 a1_2 a1_3 a1_4 a1_5 r w HR0 HC0 gb101 GE101 wr BK101 HB H _ (by assumption)
              ·rw [if_neg c50] at H
               have c50b0 : (((rd_T26 l0 (ji31)).f3) == a1_3) = false := beq_eq_false_iff_ne.mpr c50; have c50b1 : (((rd_T26 l0 (ji31)).f3) != a1_3) = true := bne_iff_ne.mpr c50; obtain rfl := Option.some.inj H; have hnb173 := NB103_101.out; have hnc173 := NB101_103.out; obtain ⟨hcz174_0, hcz174_1, hcz174_2, hcz174_3, hcz174_4, hcz174_5, hfz174_0, hfz174_1, hfz174_2, hfz174_3, hfz174_4, hfz174_5⟩ := cells6 BK103.out; obtain ⟨hcz175_0, hcz175_1, hcz175_2, hcz175_3, hcz175_4, hcz175_5, hfz175_0, hfz175_1, hfz175_2, hfz175_3, hfz175_4, hfz175_5⟩ := cells6 BK101.out
               go_wp2
               go_ret
               exact ⟨by first | rfl | (simp [errW_none, errW_some] <;> rfl) | (simp only [← hji31]; first | rfl | (simp [errW_none, errW_some] <;> rfl)) | (simp [*, errW_none, errW_some] <;> rfl), bel⟩
         ·rw [if_neg c33] at H
          exact absurd H (by simp)
        ·rw [if_neg c32] at H
         exact absurd H (by simp)
      ·rw [if_neg c28] at H
       have c28b0 : (a1_2 == 9) = false := beq_eq_false_iff_ne.mpr c28; have c28b1 : (a1_2 != 9) = true := bne_iff_ne.mpr c28; obtain ⟨hcz180_0, hcz180_1, hcz180_2, hcz180_3, hcz180_4, hcz180_5, hfz180_0, hfz180_1, hfz180_2, hfz180_3, hfz180_4, hfz180_5⟩ := cells6 BK101.out
       try go_wp2
       exact customsref27_may.tail kj4 _ _ l0 a1_0 a1_1 a1_2 a1_3 a1_4 a1_5 r w HR0 HC0 gb101 GE101 wc BK101 HB H _ (by assumption)
     ·rw [if_neg c27] at H
      have c27b0 : (a1_0 == (wrap64 ((l0.length : Int) + 1))) = false := beq_eq_false_iff_ne.mpr c27; have c27b1 : (a1_0 != (wrap64 ((l0.length : Int) + 1))) = true := bne_iff_ne.mpr c27; obtain rfl := Option.some.inj H; obtain ⟨hcz283_0, hcz283_1, hcz283_2, hcz283_3, hcz283_4, hcz283_5, hfz283_0, hfz283_1, hfz283_2, hfz283_3, hfz283_4, hfz283_5⟩ := cells6 BK101.out
      go_wp2
      go_ret
      exact ⟨by first | rfl | (simp [errW_none, errW_some] <;> rfl) | (simp [*, errW_none, errW_some] <;> rfl), bel⟩
end Go.Proofs.Ytgedkdofhonicaa.PM
/- The reference's may answers as the books do. -/
namespace Go.Proofs.Ytgedkdofhonicaa.E
set_option linter.unusedVariables false
set_option linter.unusedSimpArgs false
open Go.RowKit Go.Proofs.YtgedkdofhonicaaW.PrintWords Go.Proofs.YtgedkdofhonicaaW.PrintLast Go.Proofs.YtgedkdofhonicaaW.PrintMore Go.Proofs.Ytgedkdofhonicaa.PA Go.Proofs.Ytgedkdofhonicaa.PM Go.Proofs.Ytgedkdofhonicaa.G
def balR (l : List S26) (x : Int) : Nat → Bal
  | 0 => noBal
  | i + 1 => if (rd_T26 l (i : Int)).f3 = x then aft (balR l x i) (kindOf l (rd_T26 l (i : Int))) (amtOf l (rd_T26 l (i : Int))) else balR l x i
/-- Reversals look back. -/
def Back (l : List S26) : Prop := ∀ i : Int, 0 ≤ i → i < (l.length : Int) → (rd_T26 l i).f2 = 9 → 1 ≤ (rd_T26 l i).f4 ∧ (rd_T26 l i).f4 ≤ (l.length : Int)
theorem balance_from {l : List S26} (hl : l.length ≤ 100000) (hb : Back l) (x : Int) : ∀ (n i : Nat), i + n = l.length → Ev (fun k => customsref27_balance.l0 k l x (i : Int) x (balR l x i).o (balR l x i).s (balR l x i).p (balR l x i).r) (x, (balR l x l.length).o, (balR l x l.length).s, (balR l x l.length).p, (balR l x l.length).r)
  | 0, i, hi => by
    obtain rfl : i = l.length := by omega
    refine evShift ?_
    simp only [customsref27_balance.l0]
    exact evNeg (by omega) (evNow rfl)
  | n + 1, i, hi => by
    have ih := balance_from hl hb x n (i + 1) (by omega)
    have hw : wrap64 ((i : Int) + 1) = ((i + 1 : Nat) : Int) := by rw [wrap64_id (by omega) (by omega)]; omega
    refine evShift ?_
    simp only [customsref27_balance.l0]
    refine evPos (by omega) (evPos (by omega) ?_)
    rw [hw]
    refine evIf (fun h3 => ?_) (fun h3 => ?_)
    · have hr : balR l x (i + 1) = aft (balR l x i) (kindOf l (rd_T26 l (i : Int))) (amtOf l (rd_T26 l (i : Int))) := if_pos h3
      refine evIf (fun h9 => ?_) (fun h9 => ?_)
      · have hbk := hb i (by omega) (by omega) h9
        have hw2 : wrap64 ((rd_T26 l (i : Int)).f4 - 1) = (rd_T26 l (i : Int)).f4 - 1 := wrap64_id (by omega) (by omega)
        rw [hw2]
        refine evPos (by omega) (evPos (by omega) ?_)
        refine evBind0 (after_f x (balR l x i) _ _) ?_
        have e1 : kindOf l (rd_T26 l (i : Int)) = (rd_T26 l ((rd_T26 l (i : Int)).f4 - 1)).f2 := if_pos h9; have e2 : amtOf l (rd_T26 l (i : Int)) = wrap64 (-(rd_T26 l ((rd_T26 l (i : Int)).f4 - 1)).f4) := if_pos h9
        rw [e1, e2] at hr
        rw [← hr]
        exact ih
      · refine evBind0 (after_f x (balR l x i) _ _) ?_
        have e1 : kindOf l (rd_T26 l (i : Int)) = (rd_T26 l (i : Int)).f2 := if_neg h9; have e2 : amtOf l (rd_T26 l (i : Int)) = (rd_T26 l (i : Int)).f4 := if_neg h9
        rw [e1, e2] at hr
        rw [← hr]
        exact ih
    · have hr : balR l x (i + 1) = balR l x i := if_neg h3
      rw [hr] at ih
      exact ih
theorem balance_ev {l : List S26} (hl : l.length ≤ 100000) (hb : Back l) (x : Int) : Ev (fun k => customsref27_balance.f k l x) (x, (balR l x l.length).o, (balR l x l.length).s, (balR l x l.length).p, (balR l x l.length).r) := by
  have := balance_from hl hb x l.length 0 (by omega)
  exact this
/-- The reference's balance is that of the books. -/
theorem balR_read {l : List S26} (x : Int) : ∀ {j : Nat}, j ≤ l.length → (readTo l j).1 = 0 → balR l x j = (readTo l j).2.1 x
  | 0, _, _ => rfl
  | j + 1, hj, h => by
    have hI0 : (readTo l j).1 = 0 := by
      rw [readTo] at h
      by_cases h0 : (readTo l j).1 = 0
      · exact h0
      · rw [if_neg h0] at h; exact absurd h h0
    have ih := balR_read x (by omega) hI0
    rw [readTo, if_pos hI0] at h ⊢
    have hI := inv_read (by omega) hI0; obtain ⟨h1, h2, h3, h4, h5, h6⟩ := addC_zero hI h
    rw [h6]
    show (if (rd_T26 l (j : Int)).f3 = x then _ else _) = (if x = (rd_T26 l (j : Int)).f3 then _ else _)
    have hlen : (l.take j).length = j := by rw [List.length_take]; omega
    rw [hlen] at h4
    have hr := inR_iff.1 h2
    have hk : kindOf (l.take j) (rd_T26 l (j : Int)) = kindOf l (rd_T26 l (j : Int)) := by
      unfold kindOf
      by_cases h9 : (rd_T26 l (j : Int)).f2 = 9
      · rw [if_pos h9, if_pos h9, rd_take (by omega) (by have := (h4 h9).1; omega)]
      · rw [if_neg h9, if_neg h9]
    have ha : amtOf (l.take j) (rd_T26 l (j : Int)) = amtOf l (rd_T26 l (j : Int)) := by
      unfold amtOf
      by_cases h9 : (rd_T26 l (j : Int)).f2 = 9
      · rw [if_pos h9, if_pos h9, rd_take (by omega) (by have := (h4 h9).1; omega)]
      · rw [if_neg h9, if_neg h9]
    rw [hk, ha]
    by_cases hx : (rd_T26 l (j : Int)).f3 = x
    · rw [if_pos hx, if_pos hx.symm, ih, hx]
    · rw [if_neg hx, if_neg (fun e => hx e.symm), ih]
theorem Inv.backs {l : List S26} {bal : Int → Bal} {rev : Int → Bool} (hI : Inv l bal rev) : Back l := fun i h0 h1 h9 => by
  have a := hI.back i h0 h1 h9; have b := inR_iff.1 (hI.rng i h0 h1)
  omega
theorem back_snoc {l : List S26} {e : S26} (hb : Back l) (he : e.f2 = 9 → 1 ≤ e.f4 ∧ e.f4 ≤ (l.length : Int)) : Back (l ++ [e]) := fun i h0 h1 h9 => by
  have hl : ((l ++ [e]).length : Int) = (l.length : Int) + 1 := by simp
  by_cases hc : i < (l.length : Int)
  · rw [rd_old h0 hc] at h9 ⊢
    have := hb i h0 hc h9
    omega
  · have hi : i = (l.length : Int) := by omega
    rw [hi, rd_new] at h9 ⊢
    have := he h9
    omega
theorem balR_old {l : List S26} {e : S26} (hb : Back l) (x : Int) : ∀ {j : Nat}, j ≤ l.length → balR (l ++ [e]) x j = balR l x j
  | 0, _ => rfl
  | j + 1, hj => by
    rw [balR, balR, balR_old hb x (by omega), rd_old (by omega) (by omega)]
    have hk : kindOf (l ++ [e]) (rd_T26 l (j : Int)) = kindOf l (rd_T26 l (j : Int)) := by
      unfold kindOf
      by_cases h9 : (rd_T26 l (j : Int)).f2 = 9
      · have := hb j (by omega) (by omega) h9
        rw [if_pos h9, if_pos h9, rd_old (by omega) (by omega)]
      · rw [if_neg h9, if_neg h9]
    have ha : amtOf (l ++ [e]) (rd_T26 l (j : Int)) = amtOf l (rd_T26 l (j : Int)) := by
      unfold amtOf
      by_cases h9 : (rd_T26 l (j : Int)).f2 = 9
      · have := hb j (by omega) (by omega) h9
        rw [if_pos h9, if_pos h9, rd_old (by omega) (by omega)]
      · rw [if_neg h9, if_neg h9]
    rw [hk, ha]
/-- The balance behind one more entry. -/
theorem balR_snoc {l : List S26} {e : S26} (hb : Back l) (he : e.f2 = 9 → 1 ≤ e.f4 ∧ e.f4 ≤ (l.length : Int)) : balR (l ++ [e]) e.f3 (l.length + 1) = aft (balR l e.f3 l.length) (kindOf l e) (amtOf l e) := by
  rw [balR, rd_new, if_pos rfl, balR_old hb _ (Nat.le_refl _)]
  have hk : kindOf (l ++ [e]) e = kindOf l e := by
    unfold kindOf
    by_cases h9 : e.f2 = 9
    · have := he h9
      rw [if_pos h9, if_pos h9, rd_old (by omega) (by omega)]
    · rw [if_neg h9, if_neg h9]
  have ha : amtOf (l ++ [e]) e = amtOf l e := by
    unfold amtOf
    by_cases h9 : e.f2 = 9
    · have := he h9
      rw [if_pos h9, if_pos h9, rd_old (by omega) (by omega)]
    · rw [if_neg h9, if_neg h9]
  rw [hk, ha]
instance (b : Bal) : Decidable (nonneg b) := inferInstanceAs (Decidable (_ ∧ _ ∧ _ ∧ _))
theorem signs_ev {b : Bal} {x : Int} : (if (x, b.o, b.s, b.p, b.r).2.1 < 0 then some (16 : Int) else if (x, b.o, b.s, b.p, b.r).2.2.1 < 0 then some 16 else if (x, b.o, b.s, b.p, b.r).2.2.2.1 < 0 then some 16 else if (x, b.o, b.s, b.p, b.r).2.2.2.2 < 0 then some 16 else some 0) = some (if nonneg b then 0 else 16) := by
  by_cases h : nonneg b
  · obtain ⟨h1, h2, h3, h4⟩ := id h
    rw [if_neg (by show ¬ b.o < 0; omega), if_neg (by show ¬ b.s < 0; omega), if_neg (by show ¬ b.p < 0; omega), if_neg (by show ¬ b.r < 0; omega), if_pos h]
  · rw [if_neg h]
    by_cases h1 : b.o < 0
    · rw [if_pos h1]
    rw [if_neg h1]
    by_cases h2 : b.s < 0
    · rw [if_pos h2]
    rw [if_neg h2]
    by_cases h3 : b.p < 0
    · rw [if_pos h3]
    rw [if_neg h3]
    by_cases h4 : b.r < 0
    · rw [if_pos h4]
    exact absurd (⟨by omega, by omega, by omega, by omega⟩ : nonneg b) h
/-- What may answers behind all other tests. -/
theorem last_ev {l : List S26} (hl : l.length < 2000) (hread : (readTo l l.length).1 = 0) (e : S26) (he : e.f2 = 9 → 1 ≤ e.f4 ∧ e.f4 ≤ (l.length : Int)) :
    Ev (fun k => (some (([] : List (S26)) : List (S26))).bind fun y124 => (if y124.length + l.length < 2932031007402 then ((some (y124 ++ l : List (S26))).bind fun y127 => ((some (([(⟨e.f0, e.f1, e.f2, e.f3, e.f4, e.f5⟩ : S26)] : List (S26)) : List (S26))).bind fun y130 => (if y127.length + y130.length < 2932031007402 then ((customsref27_balance.f k (y127 ++ y130) e.f3).bind fun bt136 => (if bt136.2.1 < 0 then (some (16 : Int)) else (if bt136.2.2.1 < 0 then (some 16) else (if bt136.2.2.2.1 < 0 then (some 16) else (if bt136.2.2.2.2 < 0 then (some 16) else (some 0)))))) else (none)))) else (none)))
      (if nonneg (aft ((readTo l l.length).2.1 e.f3) (kindOf l e) (amtOf l e)) then 0 else 16) := by
  have hI := inv_read (Nat.le_refl _) hread
  rw [List.take_length] at hI
  have hb := hI.backs; have hbl := balance_ev (l := l ++ [e]) (by simp; omega) (back_snoc hb he) e.f3
  rw [List.length_append, List.length_singleton, balR_snoc hb he, balR_read _ (Nat.le_refl _) hread] at hbl
  simp only [Option.bind_some, List.nil_append, List.length_nil, Nat.zero_add, List.length_singleton]
  refine evPos (by omega) (evPos (by omega) ?_)
  refine evBind hbl ?_
  exact evNow signs_ev
end Go.Proofs.Ytgedkdofhonicaa.E
-- Written by a program of this claim (wip/tools: mkprint.py, pr.sh) out of the translation: plain functions and their contracts. Lean checks every line.
namespace Go.Proofs.Ytgedkdofhonicaa.PC
open Go.RowKit Go.Proofs.YtgedkdofhonicaaW.PrintWords Go.Proofs.YtgedkdofhonicaaW.PrintLast Go.Proofs.YtgedkdofhonicaaW.PrintMore Go.Proofs.Ytgedkdofhonicaa.G Go.Proofs.Ytgedkdofhonicaa.PA Go.Proofs.Ytgedkdofhonicaa.PM
attribute [local go_sem] max2_int min2_int max_two min_two max_three min_three max_four min_four   -- for this text's walks alone
set_option linter.unusedVariables false
set_option linter.unusedSimpArgs false
def errW : Option Int → Value
  | none => .nilIface
  | some c => .iface 0 (.int .i64 c)
theorem errW_none : errW none = .nilIface := rfl
theorem errW_some (c : Int) : errW (some c) = .iface 0 (.int .i64 c) := rfl
theorem info26 : (Try.prog.info? 26).map (fun i => (i.zero, i.size, i.bytes)) = some (some (.agg #[(.int .i64 0), (.int .i64 0), (.int .i64 0), (.int .i64 0), (.int .i64 0), (.int .i64 0)]), 6, 48) := by kernel_rfl
-- the values' own types
end Go.Proofs.Ytgedkdofhonicaa.PC
-- Written by a program of this claim (wip/tools: mkprint.py, pr.sh) out of the translation: plain functions and their contracts. Lean checks every line.
namespace Go.Proofs.Ytgedkdofhonicaa.PC
open Go.RowKit Go.Proofs.YtgedkdofhonicaaW.PrintWords Go.Proofs.YtgedkdofhonicaaW.PrintLast Go.Proofs.YtgedkdofhonicaaW.PrintMore Go.Proofs.Ytgedkdofhonicaa.G Go.Proofs.Ytgedkdofhonicaa.PA Go.Proofs.Ytgedkdofhonicaa.PM
attribute [local go_sem] max2_int min2_int max_two min_two max_three min_three max_four min_four   -- for this text's walks alone
set_option linter.unusedVariables false
set_option linter.unusedSimpArgs false
def customsref27_Ledger.l0 : Nat → List (S26) → Int → Option (Int)
 | 0, _, _ => none
 | k + 1, x0, x3 => if x3 < (x0.length : Int) then (if 0 ≤ x3 then (if x3 ≤ (x0.length : Int) then ((customsref27_may.f k (x0.take (x3 : Int).toNat) ((rd_T26 x0 x3).f0) ((rd_T26 x0 x3).f1) ((rd_T26 x0 x3).f2) ((rd_T26 x0 x3).f3) ((rd_T26 x0 x3).f4) ((rd_T26 x0 x3).f5)).bind fun t106 => (if t106 = 0 then (customsref27_Ledger.l0 k x0 (wrap64 (x3 + 1))) else (some t106))) else (none)) else (none)) else (some 0)
def customsref27_Ledger.f (k : Nat) (l0 : List (S26)) : Option (Int) := customsref27_Ledger.l0 k l0 0
def customsref27_Ledger.T4 : Bool × List (List Nat × List Nat) := (true, [([], []), ([], []), ([0, 1], [0, 1]), ([], []), ([], []), ([3, 4], [3, 4]), ([5], [5]), ([2, 6], [2, 6]), ([7, 7, 0, 1, 2, 3, 4, 5, 6, 7], [7])])
def customsref27_Ledger.B4 : List Nat := [0, 0, 3, 0, 0, 24, 56, 127, 255]
theorem customsref27_Ledger.tab4 : rtab .any (opsOf Try.f22 4) = customsref27_Ledger.T4 := by kernel_rfl
theorem customsref27_Ledger.bits4 : waitsOk customsref27_Ledger.T4.2 customsref27_Ledger.B4 = true := by kernel_rfl
set_option maxHeartbeats 8000000 in
set_option maxRecDepth 100000 in
theorem customsref27_Ledger.calls (k : Nat) (A0 : Option Addr) (c0 : Nat) (l0 : List (S26)) (r : Int) (w : World) (hr0 : Kd.C k26 w A0 l0.length l0) (hc0 : l0.length ≤ c0) (h : customsref27_Ledger.f k l0 = some r) :
  Calls Try.prog 22 #[.slice A0 l0.length c0] w fun e w' => e = .returned (.int .i64 r) ∧ Below w.heap.size w w' := by
 have hu26 := Try.underlying26; have HR0 := Aside0.mk hr0; have HC0 := Aside0.mk hc0; clear hr0 hc0; have HB := Aside0.mk (Below.refl w.heap.size w); have H : (customsref27_Ledger.l0 k l0 0) = some r := h; clear h; have H' := Aside0.mk H; clear H
 go_enter Try.func22, Try.ntmps22
 go_wp2
 go_loopg [3] k (fun kq v3 w' => ∃ (x3_1 : Int), v3 = .int .i64 x3_1 ∧ Aside0 (customsref27_Ledger.l0 kq l0 x3_1 = some r) ∧ Aside0 (kq ≤ k) ∧ Aside0 (Below w.heap.size w w'))
 case atStart => exact ⟨(0), zPA11, H', ⟨Nat.le_refl _⟩, ⟨bel⟩⟩
 case round =>
  clear H'; obtain ⟨x3_1, rfl, HA, HK1, HB⟩ := hrel
  cases gk with
  | zero => exact absurd HA.out (by simp [customsref27_Ledger.l0])
  | succ k1 =>
   have H := HA.out; clear HA
   simp only [customsref27_Ledger.l0] at H
   by_cases c2 : x3_1 < (l0.length : Int)
   ·rw [if_pos c2] at H
    have c2b0 : decide (x3_1 < (l0.length : Int)) = true := decide_eq_true c2; clear c2
    by_cases c3 : 0 ≤ x3_1
    ·rw [if_pos c3] at H
     have c3b0 := eq_true c3; have c3b1 : decide (0 ≤ x3_1) = true := decide_eq_true c3; clear c3
     by_cases c4 : x3_1 ≤ (l0.length : Int)
     ·rw [if_pos c4] at H
      have c4b0 := eq_true c4; have c4b1 : decide (x3_1 ≤ (l0.length : Int)) = true := decide_eq_true c4; clear c4; obtain ⟨y101, hy101⟩ : ∃ y_ : List (S26), y_ = (l0.take (x3_1 : Int).toNat) := ⟨_, rfl⟩
      replace H : ((customsref27_may.f k1 y101 ((rd_T26 l0 x3_1).f0) ((rd_T26 l0 x3_1).f1) ((rd_T26 l0 x3_1).f2) ((rd_T26 l0 x3_1).f3) ((rd_T26 l0 x3_1).f4) ((rd_T26 l0 x3_1).f5)).bind fun t106 => (if t106 = 0 then (customsref27_Ledger.l0 k1 l0 (wrap64 (x3_1 + 1))) else (some t106))) = some r := by first | (rw [hy101]; with_reducible exact H) | (have H2_ := (Option.bind_some _ _).symm.trans H; rw [hy101]; with_reducible exact H2_) | (have H2_ := (Option.bind_some _ _).symm.trans H; with_reducible exact H2_) | with_reducible exact H | (rw [hy101]; exact H) | exact H
      have Ny101 := Aside0.mk hy101; clear hy101; replace H := Option.bind_eq_some_iff.mp H; obtain ⟨t106, A50, H⟩ := H; replace H : (if t106 = 0 then (customsref27_Ledger.l0 k1 l0 (wrap64 (x3_1 + 1))) else (some t106)) = some r := H; have A5 := Aside0.mk A50; clear A50
      by_cases c6 : t106 = 0
      ·rw [if_pos c6] at H
       have c6b0 : (t106 == 0) = true := beq_iff_eq.mpr c6; have c6b1 : (t106 != 0) = false := bne_eq_false_iff_eq.mpr c6; clear c6; have H' := Aside0.mk H; clear H
       try go_wp2
       have n0_ := Aside0.mk (below_drew1 HB.out); clear HB; have HB := n0_; clear n0_; have q8 : (x3_1 : Int) ≤ ((l0.length : Int) : Int) := of_decide_eq_true zPA7; obtain ⟨i08, hi08, _, hsz8, _⟩ := info_parts info26; have hroom8 : l0.length ≤ c0 := HC0.out; have hC8 : Kd.C k26 _ A0 l0.length l0 := HR0.out; have hcut8 := cut_to (P := Try.prog) 23 26 .i64 Try.underlying23 hi08 A0 l0.length c0 x3_1 (of_decide_eq_true zPA7) q8 hroom8; have hr8 := Kd.C_take (m := (x3_1 : Int).toNat) hC8 (by omega); have hy8 : y101.length = (x3_1 : Int).toNat := (by rw [Ny101.out, List.length_take]; omega)
       rw [← Ny101.out] at hr8
       rw [← hy8] at hcut8
       have HR104 := Aside0.mk hr8
       have HC104 := Aside0.mk (show y101.length ≤ c0 from by omega)
       clear hr8 hC8 hroom8 hi08 hsz8; have KY8 := Aside0.mk hy8; clear hy8; replace q8 := eq_true q8; have p105 : 0 ≤ (x3_1 : Int) := of_decide_eq_true zPA7; have q105 : x3_1 < (l0.length : Int) := of_decide_eq_true zPA7; obtain ⟨ad105, e105, hx105_0, hx105_1, hx105_2, hx105_3, hx105_4, hx105_5⟩ := at_T26 HR0.out x3_1 p105 q105; have hw105_5 := hx105_5; have hw105_4 := hx105_4; have hw105_3 := hx105_3; have hw105_2 := hx105_2; have hw105_1 := hx105_1; have hw105_0 := hx105_0
       cases e105
       replace hx105_0 := (HB.out.cell (World.block_lt_of_cell? w _ hx105_0)).trans hx105_0; replace hx105_1 := (HB.out.cell (World.block_lt_of_cell? w _ hx105_1)).trans hx105_1; replace hx105_2 := (HB.out.cell (World.block_lt_of_cell? w _ hx105_2)).trans hx105_2; replace hx105_3 := (HB.out.cell (World.block_lt_of_cell? w _ hx105_3)).trans hx105_3; replace hx105_4 := (HB.out.cell (World.block_lt_of_cell? w _ hx105_4)).trans hx105_4; replace hx105_5 := (HB.out.cell (World.block_lt_of_cell? w _ hx105_5)).trans hx105_5; replace p105 := eq_true p105; replace q105 := eq_true q105
       refine start_ (n := 9) (S := fun w' => w'.cell? (ad105.add ((x3_1).toNat * 6)) = some (.int .i64 ((rd_T26 l0 x3_1).f0)) ∧ w'.cell? ⟨(ad105.add ((x3_1).toNat * 6)).block, (ad105.add ((x3_1).toNat * 6)).off + 1, none⟩ = some (.int .i64 ((rd_T26 l0 x3_1).f1)) ∧ w'.cell? ⟨(ad105.add ((x3_1).toNat * 6)).block, (ad105.add ((x3_1).toNat * 6)).off + 2, none⟩ = some (.int .i64 ((rd_T26 l0 x3_1).f2)) ∧ w'.cell? ⟨(ad105.add ((x3_1).toNat * 6)).block, (ad105.add ((x3_1).toNat * 6)).off + 3, none⟩ = some (.int .i64 ((rd_T26 l0 x3_1).f3)) ∧ w'.cell? ⟨(ad105.add ((x3_1).toNat * 6)).block, (ad105.add ((x3_1).toNat * 6)).off + 4, none⟩ = some (.int .i64 ((rd_T26 l0 x3_1).f4)) ∧ w'.cell? ⟨(ad105.add ((x3_1).toNat * 6)).block, (ad105.add ((x3_1).toNat * 6)).off + 5, none⟩ = some (.int .i64 ((rd_T26 l0 x3_1).f5))) (ds := []) #[false, false, false, false, false, false, false, false, false] (by kernel_rfl) rfl rfl ⟨((HB.out.cell (World.block_lt_of_cell? w _ hw105_0)).trans hw105_0), ((HB.out.cell (World.block_lt_of_cell? w _ hw105_1)).trans hw105_1), ((HB.out.cell (World.block_lt_of_cell? w _ hw105_2)).trans hw105_2), ((HB.out.cell (World.block_lt_of_cell? w _ hw105_3)).trans hw105_3), ((HB.out.cell (World.block_lt_of_cell? w _ hw105_4)).trans hw105_4), ((HB.out.cell (World.block_lt_of_cell? w _ hw105_5)).trans hw105_5)⟩ (fun hHeld => ?_); refine with_tabW customsref27_Ledger.tab4 customsref27_Ledger.bits4 (fun HT_ HW_ => ?_)
       generalize wr.drew = w7 at HB HR104 hx105_0 hx105_1 hx105_2 hx105_3 hx105_4 hx105_5 hHeld ⊢
       refine pure_ (i := 0) (N := some 11) (v := ?_) (a' := ?_) #[true, false, false, false, false, false, false, false, false] rfl rfl (any_of HT_.out (by kernel_rfl)) (fun _ _ _ h => h) (Or.inl ⟨by rfl, ?_⟩) ?_ ?_
       rotate_left
       ·intro w'
        go_simp
        with_reducible rfl
       rotate_left
       ·simp only [Act.put, List.setIfInBounds_toArray, List.set_cons_zero, List.set_cons_succ, i64_w, i32_w]
        rfl
       refine pure_ (i := 1) (N := some 12) (v := ?_) (a' := ?_) #[true, true, false, false, false, false, false, false, false] rfl rfl (any_of HT_.out (by kernel_rfl)) (fun _ _ _ h => h) (Or.inl ⟨by rfl, ?_⟩) ?_ ?_
       rotate_left
       ·intro w'
        go_simp
        with_reducible rfl
       rotate_left
       ·simp only [Act.put, List.setIfInBounds_toArray, List.set_cons_zero, List.set_cons_succ, i64_w, i32_w]
        rfl
       refine pure_ (i := 2) (N := some 13) (v := ?_) (a' := ?_) #[true, true, true, false, false, false, false, false, false] rfl rfl (any_of HT_.out (by kernel_rfl)) (fun _ _ _ h => h) (Or.inl ⟨by rfl, ?_⟩) ?_ ?_
       rotate_left
       ·intro w'
        go_simp
        with_reducible rfl
       rotate_left
       ·simp only [Act.put, List.setIfInBounds_toArray, List.set_cons_zero, List.set_cons_succ, i64_w, i32_w]
        rfl
       refine pure_ (i := 3) (N := some 14) (v := ?_) (a' := ?_) #[true, true, true, true, false, false, false, false, false] rfl rfl (any_of HT_.out (by kernel_rfl)) (fun _ _ _ h => h) (Or.inl ⟨by rfl, ?_⟩) ?_ ?_
       rotate_left
       ·intro w'
        go_simp
        with_reducible rfl
       rotate_left
       ·simp only [Act.put, List.setIfInBounds_toArray, List.set_cons_zero, List.set_cons_succ, i64_w, i32_w]
        rfl
       refine pure_ (i := 4) (N := some 15) (v := ?_) (a' := ?_) #[true, true, true, true, true, false, false, false, false] rfl rfl (any_of HT_.out (by kernel_rfl)) (fun _ _ _ h => h) (Or.inl ⟨by rfl, ?_⟩) ?_ ?_
       rotate_left
       ·intro w'
        go_simp
        with_reducible rfl
       rotate_left
       ·simp only [Act.put, List.setIfInBounds_toArray, List.set_cons_zero, List.set_cons_succ, i64_w, i32_w]
        rfl
       refine pure_ (i := 5) (N := some 16) (v := ?_) (a' := ?_) #[true, true, true, true, true, true, false, false, false] rfl rfl (any_of HT_.out (by kernel_rfl)) (fun _ _ _ h => h) (Or.inl ⟨by rfl, ?_⟩) ?_ ?_
       rotate_left
       ·intro w'
        go_simp
        with_reducible rfl
       rotate_left
       ·simp only [Act.put, List.setIfInBounds_toArray, List.set_cons_zero, List.set_cons_succ, i64_w, i32_w]
        rfl
       refine take_ (i := 6) (N := some 17) (v := ?_) (a' := ?_) #[true, true, true, true, true, true, true, false, false] rfl rfl (take_ofW HT_.out HW_.out (by kernel_rfl)) (fun _ _ _ h => h) (Or.inl ⟨by rfl, ?_⟩) hHeld ?_ ?_
       rotate_left
       ·rintro w' ⟨s0, s1, s2, s3, s4, s5⟩
        go_simp
        with_reducible rfl
       rotate_left
       ·simp only [Act.put, List.setIfInBounds_toArray, List.set_cons_zero, List.set_cons_succ, i64_w, i32_w]
        rfl
       refine one_ (i := 7) (N := some 18) #[true, true, true, true, true, true, true, true, false] rfl rfl (one_of HT_.out (by kernel_rfl)) (by decide) (fun K hK => ?_)
       refine goes_ Try.func40 (by kernel_rfl) rfl #[.slice (some ad105) y101.length c0, .agg #[.int .i64 ((rd_T26 l0 x3_1).f0), .int .i64 ((rd_T26 l0 x3_1).f1), .int .i64 ((rd_T26 l0 x3_1).f2), .int .i64 ((rd_T26 l0 x3_1).f3), .int .i64 ((rd_T26 l0 x3_1).f4), .int .i64 ((rd_T26 l0 x3_1).f5)]] (by rfl) rfl rfl argx ?_
       with_reducible refine (customsref27_may.calls k1 _ _ y101 ((rd_T26 l0 x3_1).f0) ((rd_T26 l0 x3_1).f1) ((rd_T26 l0 x3_1).f2) ((rd_T26 l0 x3_1).f3) ((rd_T26 l0 x3_1).f4) ((rd_T26 l0 x3_1).f5) t106 _ ?side1 ?side2 A5.out).mono ?_
       (case side1 => repeat (first | exact (Kd.C_below HR104.out HB.out) | (with_reducible refine Kd.C_alloc ?_ _) | (with_reducible refine Kd.C_drewN ?_ _) | (with_reducible refine Kd.C_drew ?_)))
       (case side2 => exact HC104.out)
       rintro e w9 ⟨rfl, hb⟩
       refine ⟨_, rfl, ?_⟩
       have n0_ := Aside0.mk (below_step bel hb); clear HB; have HB := n0_; clear n0_
       (try clear hb)
       (try clear hb2)
       (try clear hk)
       (try clear hi)
       refine hK.out _ _ ⟨((HB.out.cell (World.block_lt_of_cell? w _ hw105_0)).trans hw105_0), ((HB.out.cell (World.block_lt_of_cell? w _ hw105_1)).trans hw105_1), ((HB.out.cell (World.block_lt_of_cell? w _ hw105_2)).trans hw105_2), ((HB.out.cell (World.block_lt_of_cell? w _ hw105_3)).trans hw105_3), ((HB.out.cell (World.block_lt_of_cell? w _ hw105_4)).trans hw105_4), ((HB.out.cell (World.block_lt_of_cell? w _ hw105_5)).trans hw105_5)⟩ (fun hHeld => ?_)
       clear hK K
       refine norm_ (a' := ?_) ?_ ?_
       rotate_left
       ·show Act.put _ (some 18) _ = _
        simp only [Act.put, List.setIfInBounds_toArray, List.set_cons_zero, List.set_cons_succ, i64_w, i32_w]
        rfl
       refine pure_ (i := 8) (N := some 4) (v := ?_) (a' := ?_) #[true, true, true, true, true, true, true, true, true] rfl rfl (any_of HT_.out (by kernel_rfl)) (fun _ _ _ h => h) (Or.inl ⟨by rfl, ?_⟩) ?_ ?_
       rotate_left
       ·intro w'
        go_simp
        with_reducible rfl
       rotate_left
       ·simp only [Act.put, List.setIfInBounds_toArray, List.set_cons_zero, List.set_cons_succ, i64_w, i32_w]
        rfl
       refine done_ (done_of HT_.out (by kernel_rfl)) ?_
       try go_wp2
       go_roundg k1
       case measure => have := HK1.out; omega
       case rel => exact ⟨(wrap64 (x3_1 + 1)), zPA11, H', ⟨by have := HK1.out; omega⟩, ⟨bel⟩⟩
      ·rw [if_neg c6] at H
       have c6b0 : (t106 == 0) = false := beq_eq_false_iff_ne.mpr c6; have c6b1 : (t106 != 0) = true := bne_iff_ne.mpr c6; obtain rfl := Option.some.inj H
       try go_wp2
       have n0_ := Aside0.mk (below_drew1 HB.out); clear HB; have HB := n0_; clear n0_; have q11 : (x3_1 : Int) ≤ ((l0.length : Int) : Int) := of_decide_eq_true zPA7; obtain ⟨i011, hi011, _, hsz11, _⟩ := info_parts info26; have hroom11 : l0.length ≤ c0 := HC0.out; have hC11 : Kd.C k26 _ A0 l0.length l0 := HR0.out; have hcut11 := cut_to (P := Try.prog) 23 26 .i64 Try.underlying23 hi011 A0 l0.length c0 x3_1 (of_decide_eq_true zPA7) q11 hroom11; have hr11 := Kd.C_take (m := (x3_1 : Int).toNat) hC11 (by omega); have hy11 : y101.length = (x3_1 : Int).toNat := (by rw [Ny101.out, List.length_take]; omega)
       rw [← Ny101.out] at hr11
       rw [← hy11] at hcut11
       have HR104 := Aside0.mk hr11
       have HC104 := Aside0.mk (show y101.length ≤ c0 from by omega)
       clear hr11 hC11 hroom11 hi011 hsz11; have KY11 := Aside0.mk hy11; clear hy11; replace q11 := eq_true q11; have p105 : 0 ≤ (x3_1 : Int) := of_decide_eq_true zPA7; have q105 : x3_1 < (l0.length : Int) := of_decide_eq_true zPA7; obtain ⟨ad105, e105, hx105_0, hx105_1, hx105_2, hx105_3, hx105_4, hx105_5⟩ := at_T26 HR0.out x3_1 p105 q105; have hw105_5 := hx105_5; have hw105_4 := hx105_4; have hw105_3 := hx105_3; have hw105_2 := hx105_2; have hw105_1 := hx105_1; have hw105_0 := hx105_0
       cases e105
       replace hx105_0 := (HB.out.cell (World.block_lt_of_cell? w _ hx105_0)).trans hx105_0; replace hx105_1 := (HB.out.cell (World.block_lt_of_cell? w _ hx105_1)).trans hx105_1; replace hx105_2 := (HB.out.cell (World.block_lt_of_cell? w _ hx105_2)).trans hx105_2; replace hx105_3 := (HB.out.cell (World.block_lt_of_cell? w _ hx105_3)).trans hx105_3; replace hx105_4 := (HB.out.cell (World.block_lt_of_cell? w _ hx105_4)).trans hx105_4; replace hx105_5 := (HB.out.cell (World.block_lt_of_cell? w _ hx105_5)).trans hx105_5; replace p105 := eq_true p105; replace q105 := eq_true q105
       refine start_ (n := 9) (S := fun w' => w'.cell? (ad105.add ((x3_1).toNat * 6)) = some (.int .i64 ((rd_T26 l0 x3_1).f0)) ∧ w'.cell? ⟨(ad105.add ((x3_1).toNat * 6)).block, (ad105.add ((x3_1).toNat * 6)).off + 1, none⟩ = some (.int .i64 ((rd_T26 l0 x3_1).f1)) ∧ w'.cell? ⟨(ad105.add ((x3_1).toNat * 6)).block, (ad105.add ((x3_1).toNat * 6)).off + 2, none⟩ = some (.int .i64 ((rd_T26 l0 x3_1).f2)) ∧ w'.cell? ⟨(ad105.add ((x3_1).toNat * 6)).block, (ad105.add ((x3_1).toNat * 6)).off + 3, none⟩ = some (.int .i64 ((rd_T26 l0 x3_1).f3)) ∧ w'.cell? ⟨(ad105.add ((x3_1).toNat * 6)).block, (ad105.add ((x3_1).toNat * 6)).off + 4, none⟩ = some (.int .i64 ((rd_T26 l0 x3_1).f4)) ∧ w'.cell? ⟨(ad105.add ((x3_1).toNat * 6)).block, (ad105.add ((x3_1).toNat * 6)).off + 5, none⟩ = some (.int .i64 ((rd_T26 l0 x3_1).f5))) (ds := []) #[false, false, false, false, false, false, false, false, false] (by kernel_rfl) rfl rfl ⟨((HB.out.cell (World.block_lt_of_cell? w _ hw105_0)).trans hw105_0), ((HB.out.cell (World.block_lt_of_cell? w _ hw105_1)).trans hw105_1), ((HB.out.cell (World.block_lt_of_cell? w _ hw105_2)).trans hw105_2), ((HB.out.cell (World.block_lt_of_cell? w _ hw105_3)).trans hw105_3), ((HB.out.cell (World.block_lt_of_cell? w _ hw105_4)).trans hw105_4), ((HB.out.cell (World.block_lt_of_cell? w _ hw105_5)).trans hw105_5)⟩ (fun hHeld => ?_); refine with_tabW customsref27_Ledger.tab4 customsref27_Ledger.bits4 (fun HT_ HW_ => ?_)
       generalize wr.drew = w10 at HB HR104 hx105_0 hx105_1 hx105_2 hx105_3 hx105_4 hx105_5 hHeld ⊢
       refine pure_ (i := 0) (N := some 11) (v := ?_) (a' := ?_) #[true, false, false, false, false, false, false, false, false] rfl rfl (any_of HT_.out (by kernel_rfl)) (fun _ _ _ h => h) (Or.inl ⟨by rfl, ?_⟩) ?_ ?_
       rotate_left
       ·intro w'
        go_simp
        with_reducible rfl
       rotate_left
       ·simp only [Act.put, List.setIfInBounds_toArray, List.set_cons_zero, List.set_cons_succ, i64_w, i32_w]
        rfl
       refine pure_ (i := 1) (N := some 12) (v := ?_) (a' := ?_) #[true, true, false, false, false, false, false, false, false] rfl rfl (any_of HT_.out (by kernel_rfl)) (fun _ _ _ h => h) (Or.inl ⟨by rfl, ?_⟩) ?_ ?_
       rotate_left
       ·intro w'
        go_simp
        with_reducible rfl
       rotate_left
       ·simp only [Act.put, List.setIfInBounds_toArray, List.set_cons_zero, List.set_cons_succ, i64_w, i32_w]
        rfl
       refine pure_ (i := 2) (N := some 13) (v := ?_) (a' := ?_) #[true, true, true, false, false, false, false, false, false] rfl rfl (any_of HT_.out (by kernel_rfl)) (fun _ _ _ h => h) (Or.inl ⟨by rfl, ?_⟩) ?_ ?_
       rotate_left
       ·intro w'
        go_simp
        with_reducible rfl
       rotate_left
       ·simp only [Act.put, List.setIfInBounds_toArray, List.set_cons_zero, List.set_cons_succ, i64_w, i32_w]
        rfl
       refine pure_ (i := 3) (N := some 14) (v := ?_) (a' := ?_) #[true, true, true, true, false, false, false, false, false] rfl rfl (any_of HT_.out (by kernel_rfl)) (fun _ _ _ h => h) (Or.inl ⟨by rfl, ?_⟩) ?_ ?_
       rotate_left
       ·intro w'
        go_simp
        with_reducible rfl
       rotate_left
       ·simp only [Act.put, List.setIfInBounds_toArray, List.set_cons_zero, List.set_cons_succ, i64_w, i32_w]
        rfl
       refine pure_ (i := 4) (N := some 15) (v := ?_) (a' := ?_) #[true, true, true, true, true, false, false, false, false] rfl rfl (any_of HT_.out (by kernel_rfl)) (fun _ _ _ h => h) (Or.inl ⟨by rfl, ?_⟩) ?_ ?_
       rotate_left
       ·intro w'
        go_simp
        with_reducible rfl
       rotate_left
       ·simp only [Act.put, List.setIfInBounds_toArray, List.set_cons_zero, List.set_cons_succ, i64_w, i32_w]
        rfl
       refine pure_ (i := 5) (N := some 16) (v := ?_) (a' := ?_) #[true, true, true, true, true, true, false, false, false] rfl rfl (any_of HT_.out (by kernel_rfl)) (fun _ _ _ h => h) (Or.inl ⟨by rfl, ?_⟩) ?_ ?_
       rotate_left
       ·intro w'
        go_simp
        with_reducible rfl
       rotate_left
       ·simp only [Act.put, List.setIfInBounds_toArray, List.set_cons_zero, List.set_cons_succ, i64_w, i32_w]
        rfl
       refine take_ (i := 6) (N := some 17) (v := ?_) (a' := ?_) #[true, true, true, true, true, true, true, false, false] rfl rfl (take_ofW HT_.out HW_.out (by kernel_rfl)) (fun _ _ _ h => h) (Or.inl ⟨by rfl, ?_⟩) hHeld ?_ ?_
       rotate_left
       ·rintro w' ⟨s0, s1, s2, s3, s4, s5⟩
        go_simp
        with_reducible rfl
       rotate_left
       ·simp only [Act.put, List.setIfInBounds_toArray, List.set_cons_zero, List.set_cons_succ, i64_w, i32_w]
        rfl
       refine one_ (i := 7) (N := some 18) #[true, true, true, true, true, true, true, true, false] rfl rfl (one_of HT_.out (by kernel_rfl)) (by decide) (fun K hK => ?_)
       refine goes_ Try.func40 (by kernel_rfl) rfl #[.slice (some ad105) y101.length c0, .agg #[.int .i64 ((rd_T26 l0 x3_1).f0), .int .i64 ((rd_T26 l0 x3_1).f1), .int .i64 ((rd_T26 l0 x3_1).f2), .int .i64 ((rd_T26 l0 x3_1).f3), .int .i64 ((rd_T26 l0 x3_1).f4), .int .i64 ((rd_T26 l0 x3_1).f5)]] (by rfl) rfl rfl argx ?_
       with_reducible refine (customsref27_may.calls k1 _ _ y101 ((rd_T26 l0 x3_1).f0) ((rd_T26 l0 x3_1).f1) ((rd_T26 l0 x3_1).f2) ((rd_T26 l0 x3_1).f3) ((rd_T26 l0 x3_1).f4) ((rd_T26 l0 x3_1).f5) t106 _ ?side1 ?side2 A5.out).mono ?_
       (case side1 => repeat (first | exact (Kd.C_below HR104.out HB.out) | (with_reducible refine Kd.C_alloc ?_ _) | (with_reducible refine Kd.C_drewN ?_ _) | (with_reducible refine Kd.C_drew ?_)))
       (case side2 => exact HC104.out)
       rintro e w12 ⟨rfl, hb⟩
       refine ⟨_, rfl, ?_⟩
       have n0_ := Aside0.mk (below_step bel hb); clear HB; have HB := n0_; clear n0_
       (try clear hb)
       (try clear hb2)
       (try clear hk)
       (try clear hi)
       refine hK.out _ _ ⟨((HB.out.cell (World.block_lt_of_cell? w _ hw105_0)).trans hw105_0), ((HB.out.cell (World.block_lt_of_cell? w _ hw105_1)).trans hw105_1), ((HB.out.cell (World.block_lt_of_cell? w _ hw105_2)).trans hw105_2), ((HB.out.cell (World.block_lt_of_cell? w _ hw105_3)).trans hw105_3), ((HB.out.cell (World.block_lt_of_cell? w _ hw105_4)).trans hw105_4), ((HB.out.cell (World.block_lt_of_cell? w _ hw105_5)).trans hw105_5)⟩ (fun hHeld => ?_)
       clear hK K
       refine norm_ (a' := ?_) ?_ ?_
       rotate_left
       ·show Act.put _ (some 18) _ = _
        simp only [Act.put, List.setIfInBounds_toArray, List.set_cons_zero, List.set_cons_succ, i64_w, i32_w]
        rfl
       refine pure_ (i := 8) (N := some 4) (v := ?_) (a' := ?_) #[true, true, true, true, true, true, true, true, true] rfl rfl (any_of HT_.out (by kernel_rfl)) (fun _ _ _ h => h) (Or.inl ⟨by rfl, ?_⟩) ?_ ?_
       rotate_left
       ·intro w'
        go_simp
        with_reducible rfl
       rotate_left
       ·simp only [Act.put, List.setIfInBounds_toArray, List.set_cons_zero, List.set_cons_succ, i64_w, i32_w]
        rfl
       refine done_ (done_of HT_.out (by kernel_rfl)) ?_
       try go_wp2
       go_ret
       exact ⟨by first | rfl | (simp [errW_none, errW_some] <;> rfl) | (simp [*, errW_none, errW_some] <;> rfl), bel⟩
     ·rw [if_neg c4] at H
      exact absurd H (by simp)
    ·rw [if_neg c3] at H
     exact absurd H (by simp)
   ·rw [if_neg c2] at H
    have c2b0 : decide (x3_1 < (l0.length : Int)) = false := decide_eq_false c2; clear c2; obtain rfl := Option.some.inj H
    go_wp2
    go_ret
    exact ⟨by first | rfl | (simp [errW_none, errW_some] <;> rfl) | (simp [*, errW_none, errW_some] <;> rfl), bel⟩
def customsref27_Append.f (k : Nat) (l0 : List (S26)) (a1_0 : Int) (a1_1 : Int) (a1_2 : Int) (a1_3 : Int) (a1_4 : Int) (a1_5 : Int) : Option ((List (S26)) × Int) := (customsref27_Ledger.f k l0).bind fun t108 => (if t108 = 0 then ((customsref27_may.f k l0 a1_0 a1_1 a1_2 a1_3 a1_4 a1_5).bind fun t109 => (if t109 = 0 then ((some (([] : List (S26)) : List (S26))).bind fun y110 => (if y110.length + l0.length < 2932031007402 then ((some (y110 ++ l0 : List (S26))).bind fun y113 => ((some (([(⟨a1_0, a1_1, a1_2, a1_3, a1_4, a1_5⟩ : S26)] : List (S26)) : List (S26))).bind fun y116 => (if y113.length + y116.length < 2932031007402 then (some ((y113 ++ y116), 0)) else (none)))) else (none))) else (some (([] : List (S26)), t109)))) else (some (([] : List (S26)), t108)))
def customsref27_Append.T6 : Bool × List (List Nat × List Nat) := (true, [([], []), ([], []), ([0, 1], [0, 1]), ([], []), ([3], [3]), ([2, 4, 2], [2, 4]), ([5, 5, 0, 1, 2, 3, 4, 5], [5]), ([6, 0, 1, 2, 3, 4, 5, 6], [])])
def customsref27_Append.B6 : List Nat := [0, 0, 3, 0, 8, 31, 63, 127]
theorem customsref27_Append.tab6 : rtab .any (opsOf Try.f20 6) = customsref27_Append.T6 := by kernel_rfl
theorem customsref27_Append.bits6 : waitsOk customsref27_Append.T6.2 customsref27_Append.B6 = true := by kernel_rfl
set_option maxHeartbeats 8000000 in
set_option maxRecDepth 100000 in
theorem customsref27_Append.calls (k : Nat) (A0 : Option Addr) (c0 : Nat) (l0 : List (S26)) (a1_0 : Int) (a1_1 : Int) (a1_2 : Int) (a1_3 : Int) (a1_4 : Int) (a1_5 : Int) (r1 : List (S26)) (r2 : Int) (w : World) (hr0 : Kd.C k26 w A0 l0.length l0) (hc0 : l0.length ≤ c0) (h : customsref27_Append.f k l0 a1_0 a1_1 a1_2 a1_3 a1_4 a1_5 = some (r1, r2)) :
  Calls Try.prog 20 #[.slice A0 l0.length c0, .agg #[.int .i64 a1_0, .int .i64 a1_1, .int .i64 a1_2, .int .i64 a1_3, .int .i64 a1_4, .int .i64 a1_5]] w fun e w' => ∃ v0_ : Value, e = .returned (.tuple #[v0_, .int .i64 r2]) ∧ Kd.R k26 26 w' w.heap.size (fun _ => True) v0_ r1 ∧ Below w.heap.size w w' := by
 have hu26 := Try.underlying26; have HR0 := Aside0.mk hr0; have HC0 := Aside0.mk hc0; clear hr0 hc0; have HB := Aside0.mk (Below.refl w.heap.size w); have H : ((customsref27_Ledger.f k l0).bind fun t108 => (if t108 = 0 then ((customsref27_may.f k l0 a1_0 a1_1 a1_2 a1_3 a1_4 a1_5).bind fun t109 => (if t109 = 0 then ((some (([] : List (S26)) : List (S26))).bind fun y110 => (if y110.length + l0.length < 2932031007402 then ((some (y110 ++ l0 : List (S26))).bind fun y113 => ((some (([(⟨a1_0, a1_1, a1_2, a1_3, a1_4, a1_5⟩ : S26)] : List (S26)) : List (S26))).bind fun y116 => (if y113.length + y116.length < 2932031007402 then (some ((y113 ++ y116), 0)) else (none)))) else (none))) else (some (([] : List (S26)), t109)))) else (some (([] : List (S26)), t108)))) = some (r1, r2) := h; clear h; replace H := Option.bind_eq_some_iff.mp H; obtain ⟨t108, A30, H⟩ := H; replace H : (if t108 = 0 then ((customsref27_may.f k l0 a1_0 a1_1 a1_2 a1_3 a1_4 a1_5).bind fun t109 => (if t109 = 0 then ((some (([] : List (S26)) : List (S26))).bind fun y110 => (if y110.length + l0.length < 2932031007402 then ((some (y110 ++ l0 : List (S26))).bind fun y113 => ((some (([(⟨a1_0, a1_1, a1_2, a1_3, a1_4, a1_5⟩ : S26)] : List (S26)) : List (S26))).bind fun y116 => (if y113.length + y116.length < 2932031007402 then (some ((y113 ++ y116), 0)) else (none)))) else (none))) else (some (([] : List (S26)), t109)))) else (some (([] : List (S26)), t108))) = some (r1, r2) := H; have A3 := Aside0.mk A30; clear A30
 by_cases c4 : t108 = 0
 ·rw [if_pos c4] at H
  have c4b0 : (t108 == 0) = true := beq_iff_eq.mpr c4; have c4b1 : (t108 != 0) = false := bne_eq_false_iff_eq.mpr c4; clear c4; replace H := Option.bind_eq_some_iff.mp H; obtain ⟨t109, A50, H⟩ := H; replace H : (if t109 = 0 then ((some (([] : List (S26)) : List (S26))).bind fun y110 => (if y110.length + l0.length < 2932031007402 then ((some (y110 ++ l0 : List (S26))).bind fun y113 => ((some (([(⟨a1_0, a1_1, a1_2, a1_3, a1_4, a1_5⟩ : S26)] : List (S26)) : List (S26))).bind fun y116 => (if y113.length + y116.length < 2932031007402 then (some ((y113 ++ y116), 0)) else (none)))) else (none))) else (some (([] : List (S26)), t109))) = some (r1, r2) := H; have A5 := Aside0.mk A50; clear A50
  by_cases c6 : t109 = 0
  ·rw [if_pos c6] at H
   have c6b0 : (t109 == 0) = true := beq_iff_eq.mpr c6; have c6b1 : (t109 != 0) = false := bne_eq_false_iff_eq.mpr c6; clear c6; obtain ⟨y110, hy110⟩ : ∃ y_ : List (S26), y_ = (([] : List (S26))) := ⟨_, rfl⟩
   replace H : (if y110.length + l0.length < 2932031007402 then ((some (y110 ++ l0 : List (S26))).bind fun y113 => ((some (([(⟨a1_0, a1_1, a1_2, a1_3, a1_4, a1_5⟩ : S26)] : List (S26)) : List (S26))).bind fun y116 => (if y113.length + y116.length < 2932031007402 then (some ((y113 ++ y116), 0)) else (none)))) else (none)) = some (r1, r2) := by first | (rw [hy110]; with_reducible exact H) | (have H2_ := (Option.bind_some _ _).symm.trans H; rw [hy110]; with_reducible exact H2_) | (have H2_ := (Option.bind_some _ _).symm.trans H; with_reducible exact H2_) | with_reducible exact H | (rw [hy110]; exact H) | exact H
   have Ny110 := Aside0.mk hy110; clear hy110
   by_cases c7 : y110.length + l0.length < 2932031007402
   ·rw [if_pos c7] at H
    have LMc7 := Aside0.mk c7; clear c7; obtain ⟨y113, hy113⟩ : ∃ y_ : List (S26), y_ = (y110 ++ l0) := ⟨_, rfl⟩
    replace H : ((some (([(⟨a1_0, a1_1, a1_2, a1_3, a1_4, a1_5⟩ : S26)] : List (S26)) : List (S26))).bind fun y116 => (if y113.length + y116.length < 2932031007402 then (some ((y113 ++ y116), 0)) else (none))) = some (r1, r2) := by first | (rw [hy113]; with_reducible exact H) | (have H2_ := (Option.bind_some _ _).symm.trans H; rw [hy113]; with_reducible exact H2_) | (have H2_ := (Option.bind_some _ _).symm.trans H; with_reducible exact H2_) | with_reducible exact H | (rw [hy113]; exact H) | exact H
    have Ny113 := Aside0.mk hy113; clear hy113; obtain ⟨y116, hy116⟩ : ∃ y_ : List (S26), y_ = (([(⟨a1_0, a1_1, a1_2, a1_3, a1_4, a1_5⟩ : S26)] : List (S26))) := ⟨_, rfl⟩
    replace H : (if y113.length + y116.length < 2932031007402 then (some ((y113 ++ y116), 0)) else (none)) = some (r1, r2) := by first | (rw [hy116]; with_reducible exact H) | (have H2_ := (Option.bind_some _ _).symm.trans H; rw [hy116]; with_reducible exact H2_) | (have H2_ := (Option.bind_some _ _).symm.trans H; with_reducible exact H2_) | with_reducible exact H | (rw [hy116]; exact H) | exact H
    have Ny116 := Aside0.mk hy116; clear hy116
    by_cases c8 : y113.length + y116.length < 2932031007402
    ·rw [if_pos c8] at H
     have LMc8 := Aside0.mk c8; clear c8; obtain ⟨y119, hy119⟩ : ∃ y_ : List (S26), y_ = (y113 ++ y116) := ⟨_, rfl⟩
     replace H : (some (y119, 0)) = some (r1, r2) := by first | (rw [hy119]; with_reducible exact H) | (have H2_ := (Option.bind_some _ _).symm.trans H; rw [hy119]; with_reducible exact H2_) | (have H2_ := (Option.bind_some _ _).symm.trans H; with_reducible exact H2_) | with_reducible exact H | (rw [hy119]; exact H) | exact H
     have Ny119 := Aside0.mk hy119; clear hy119
     simp only [Option.some.injEq, Prod.mk.injEq] at H
     obtain ⟨rfl, rfl⟩ := H
     go_enter Try.func20, Try.ntmps20
     try go_wp2_with (first | ((with_reducible refine gate_dst (N := 3) rfl ?_); refine box_event ?hg (N := 3) ?hd (cs := #[.int .i64 a1_0, .int .i64 a1_1, .int .i64 a1_2, .int .i64 a1_3, .int .i64 a1_4, .int .i64 a1_5]) (t := 26) ?hr ?_; (case hd => rfl); (case hg => rfl); (case hr => first | (go_simp; done) | (go_simp; rfl)); intro gb107 hg w9 hbox hb; have qb_ := below_both bel hb; have n0_ := Aside0.mk (qb_.1); have n1_ := Aside0.mk (hbox); have n3_ := Aside0.mk ((by rw [hg]; exact qb_.2 : w.heap.size ≤ gb107)); clear HB; have HB := n0_; have BK107 := n1_; have GE107 := n3_; clear qb_; clear n0_ n1_ n3_; clear hb hbox hg) | ((with_reducible refine gate_callee (f := 22) rfl ?_); refine goesL_ (some 8) rfl rfl Try.func22 (by kernel_rfl) rfl #[.slice A0 l0.length c0] rfl argx ?_; (with_reducible refine (customsref27_Ledger.calls k _ _ l0 t108 _ ?side1 ?side2 A3.out).mono ?_); (case side1 => repeat (first | exact (Kd.C_below HR0.out HB.out) | (with_reducible refine Kd.C_alloc ?_ _) | (with_reducible refine Kd.C_drewN ?_ _) | (with_reducible refine Kd.C_drew ?_))); (case side2 => exact HC0.out); rintro e w10 ⟨rfl, hb⟩; refine ⟨_, rfl, ?_⟩; have n0_ := Aside0.mk (blk_below (g := gb107) (o := .cells #[.int .i64 a1_0, .int .i64 a1_1, .int .i64 a1_2, .int .i64 a1_3, .int .i64 a1_4, .int .i64 a1_5] 26 (0, 0)) blkx hb); have n1_ := Aside0.mk (below_step bel hb); clear BK107; clear HB; have BK107 := n0_; have HB := n1_; clear n0_ n1_; (try clear hb); (try clear hb2); (try clear hk); (try clear hi); obtain ⟨hcz11_0, hcz11_1, hcz11_2, hcz11_3, hcz11_4, hcz11_5, hfz11_0, hfz11_1, hfz11_2, hfz11_3, hfz11_4, hfz11_5⟩ := cells6 BK107.out) | ((with_reducible refine gate_callee (f := 40) rfl ?_); refine goesL_ (some 13) rfl rfl Try.func40 (by kernel_rfl) rfl #[.slice A0 l0.length c0, .agg #[.int .i64 a1_0, .int .i64 a1_1, .int .i64 a1_2, .int .i64 a1_3, .int .i64 a1_4, .int .i64 a1_5]] rfl argx ?_; (with_reducible refine (customsref27_may.calls k _ _ l0 a1_0 a1_1 a1_2 a1_3 a1_4 a1_5 t109 _ ?side1 ?side2 A5.out).mono ?_); (case side1 => repeat (first | exact (Kd.C_below HR0.out HB.out) | (with_reducible refine Kd.C_alloc ?_ _) | (with_reducible refine Kd.C_drewN ?_ _) | (with_reducible refine Kd.C_drew ?_))); (case side2 => exact HC0.out); rintro e w12 ⟨rfl, hb⟩; refine ⟨_, rfl, ?_⟩; have n0_ := Aside0.mk (blk_below (g := gb107) (o := .cells #[.int .i64 a1_0, .int .i64 a1_1, .int .i64 a1_2, .int .i64 a1_3, .int .i64 a1_4, .int .i64 a1_5] 26 (0, 0)) blkx hb); have n1_ := Aside0.mk (below_step bel hb); clear BK107; clear HB; have BK107 := n0_; have HB := n1_; clear n0_ n1_; (try clear hb); (try clear hb2); (try clear hk); (try clear hi)))
     have n0_ := Aside0.mk (blk_drew BK107.out); have n1_ := Aside0.mk (below_drew1 HB.out); clear BK107; clear HB; have BK107 := n0_; have HB := n1_; clear n0_ n1_
     refine start_ (n := 8) (S := fun w' => w'.cell? ⟨gb107, 0, none⟩ = some (.int .i64 a1_0) ∧ w'.cell? ⟨gb107, 1, none⟩ = some (.int .i64 a1_1) ∧ w'.cell? ⟨gb107, 2, none⟩ = some (.int .i64 a1_2) ∧ w'.cell? ⟨gb107, 3, none⟩ = some (.int .i64 a1_3) ∧ w'.cell? ⟨gb107, 4, none⟩ = some (.int .i64 a1_4) ∧ w'.cell? ⟨gb107, 5, none⟩ = some (.int .i64 a1_5)) (ds := []) #[false, false, false, false, false, false, false, false] (by kernel_rfl) rfl rfl ⟨(blk_cell BK107.out 0).trans rfl, (blk_cell BK107.out 1).trans rfl, (blk_cell BK107.out 2).trans rfl, (blk_cell BK107.out 3).trans rfl, (blk_cell BK107.out 4).trans rfl, (blk_cell BK107.out 5).trans rfl⟩ (fun hHeld => ?_); refine with_tabW customsref27_Append.tab6 customsref27_Append.bits6 (fun HT_ HW_ => ?_)
     generalize w12.drew = w13 at BK107 HB hHeld ⊢
     refine pure_ (i := 1) (N := some 18) (v := ?_) (a' := ?_) #[false, true, false, false, false, false, false, false] rfl rfl (any_of HT_.out (by kernel_rfl)) (fun _ _ _ h => h) (Or.inl ⟨by rfl, ?_⟩) ?_ ?_
     rotate_left
     ·intro w'
      go_simp
      with_reducible rfl
     rotate_left
     ·simp only [Act.put, List.setIfInBounds_toArray, List.set_cons_zero, List.set_cons_succ, i64_w, i32_w]
      rfl
     refine take_ (i := 3) (N := some 20) (v := ?_) (a' := ?_) #[false, true, false, true, false, false, false, false] rfl rfl (take_ofW HT_.out HW_.out (by kernel_rfl)) (fun _ _ _ h => h) (Or.inl ⟨by rfl, ?_⟩) hHeld ?_ ?_
     rotate_left
     ·rintro w' ⟨s0, s1, s2, s3, s4, s5⟩
      go_simp
      with_reducible rfl
     rotate_left
     ·simp only [Act.put, List.setIfInBounds_toArray, List.set_cons_zero, List.set_cons_succ, i64_w, i32_w]
      rfl
     refine join_ (σ := Value × Value × Value) 3 #[true, true, true, true, true, false, false, false] (fun s_ => [(17, s_.1), (19, s_.2.1), (21, s_.2.2)]) (fun s_ w' => (w'.cell? ⟨gb107, 0, none⟩ = some (.int .i64 a1_0) ∧ w'.cell? ⟨gb107, 1, none⟩ = some (.int .i64 a1_1) ∧ w'.cell? ⟨gb107, 2, none⟩ = some (.int .i64 a1_2) ∧ w'.cell? ⟨gb107, 3, none⟩ = some (.int .i64 a1_3) ∧ w'.cell? ⟨gb107, 4, none⟩ = some (.int .i64 a1_4) ∧ w'.cell? ⟨gb107, 5, none⟩ = some (.int .i64 a1_5)) ∧ (Kd.R k26 26 w' w.heap.size (fun k_ => some k_ ≠ (s_.2.2 : Value).ownBlock ∧ k_ ≠ gb107) s_.2.1 y113) ∧ (Kd.R k26 26 w' w.heap.size (fun k_ => some k_ ≠ (s_.2.1 : Value).ownBlock ∧ k_ ≠ gb107) s_.2.2 y116) ∧ (w'.heap[gb107]? = some (.cells #[.int .i64 a1_0, .int .i64 a1_1, .int .i64 a1_2, .int .i64 a1_3, .int .i64 a1_4, .int .i64 a1_5] 26 (0, 0))) ∧ (Below w.heap.size w w')) ?_ ?_
     rotate_left
     ·intro hCont
      refine two_ (i := 0) (j := 4) (Ni := some 17) (Nj := some 21) #[true, true, false, true, false, false, false, false] #[false, true, false, true, true, false, false, false] rfl rfl rfl rfl (two_of HT_.out (by kernel_rfl)) (by decide) (by decide) (fun K hK => ?_) (fun K hK => ?_)
      ·skip
       refine Kd.R_lit_step k26 _ 26 ?hg (N := 17) ?hd (xs := ([] : List (S26))) (inner := []) (ok := fun _ => True) (okp := fun _ => True) ?hr ?hp (fun _ hk => hk) trivial (Below.refl _ _) (Nat.le_refl _) (by simp) ?_; (case hd => rfl); (case hg => rfl); (case hr => first | (go_simp; done) | (go_simp; rfl)); (case hp => exact (Reps.none _ _))
       intro v111 w14 ho15 hb hg_ hnew_
       clear hg_ hnew_
       (first | rw [← Ny110.out] at ho15 | (simp only [Int.reduceToNat] at ho15; rw [← Ny110.out] at ho15))
       have n0_ := Aside0.mk (Kd.R_lower (Kd.R_newB ho15 (g := gb107) (o := .cells #[.int .i64 a1_0, .int .i64 a1_1, .int .i64 a1_2, .int .i64 a1_3, .int .i64 a1_4, .int .i64 a1_5] 26 (0, 0)) blkx) (below_size bel)); have n1_ := Aside0.mk (blk_below (g := gb107) (o := .cells #[.int .i64 a1_0, .int .i64 a1_1, .int .i64 a1_2, .int .i64 a1_3, .int .i64 a1_4, .int .i64 a1_5] 26 (0, 0)) blkx hb); have n2_ := Aside0.mk (below_step bel hb); clear BK107; clear HB; have HO112 := n0_; have BK107 := n1_; have HB := n2_; clear n0_ n1_ n2_; clear hb ho15
       refine hK.out _ _ ⟨(blk_cell BK107.out 0).trans rfl, (blk_cell BK107.out 1).trans rfl, (blk_cell BK107.out 2).trans rfl, (blk_cell BK107.out 3).trans rfl, (blk_cell BK107.out 4).trans rfl, (blk_cell BK107.out 5).trans rfl⟩ (fun hHeld => ?_)
       clear hK K
       refine norm_ (a' := ?_) ?_ ?_
       rotate_left
       ·show Act.put _ (some 17) _ = _
        simp only [Act.put, List.setIfInBounds_toArray, List.set_cons_zero, List.set_cons_succ, i64_w, i32_w]
        rfl
       refine two_ (i := 2) (j := 4) (Ni := some 19) (Nj := some 21) #[true, true, true, true, false, false, false, false] #[true, true, false, true, true, false, false, false] rfl rfl rfl rfl (two_of HT_.out (by kernel_rfl)) (by decide) (by decide) (fun K hK => ?_) (fun K hK => ?_)
       ·skip
        refine Kd.R_append_rows_step k26 (w0 := w) w.heap.size (by rfl) (.tmp 17) (.tmp 18) 23 26 (.agg #[(.int .i64 0), (.int .i64 0), (.int .i64 0), (.int .i64 0), (.int .i64 0), (.int .i64 0)]) 48 rfl Try.underlying23 info26 rfl (by decide) (by omega) v111 y110 l0 _ _ _ (fun k_ => k_ ≠ gb107) (fun _ => False) rfl rfl ?aO ?aR (fun _ _ h => h) (fun _ h => h.elim) ?aF ?aB ?aS ?aL ?_
        (case aR => repeat (first | exact (Kd.C_below HR0.out HB.out) | (with_reducible refine Kd.C_alloc ?_ _) | (with_reducible refine Kd.C_drewN ?_ _) | (with_reducible refine Kd.C_drew ?_)))
        (case aB => exact bel)
        (case aF => exact (fun k_ hk => Kd.freshB (g := gb107) (o := .cells #[.int .i64 a1_0, .int .i64 a1_1, .int .i64 a1_2, .int .i64 a1_3, .int .i64 a1_4, .int .i64 a1_5] 26 (0, 0)) blkx k_ hk))
        (case aO => exact (by (with_reducible repeat (first | apply Kd.R_alloc | apply Kd.R_drewN | apply Kd.R_drew)); exact Kd.R_mono HO112.out (fun _ hk => hk.2)))
        (case aS => exact (below_size bel))
        (case aL => have := LMc7.out; omega)
        intro v114 w16 ho hb hg hat
        rw [← Ny113.out] at ho
        have n0_ := Aside0.mk (blk_grown (g := gb107) (o := .cells #[.int .i64 a1_0, .int .i64 a1_1, .int .i64 a1_2, .int .i64 a1_3, .int .i64 a1_4, .int .i64 a1_5] 26 (0, 0)) blkx hg (Kd.R_away HO112.out (fun _ hk => hk.2))); have n1_ := Aside0.mk (hb); have n2_ := Aside0.mk (ho); clear BK107; clear HB; clear HO112; have BK107 := n0_; have HB := n1_; have HO115 := n2_; clear n0_ n1_ n2_; clear ho hb hg hat
        refine hK.out _ _ ⟨(blk_cell BK107.out 0).trans rfl, (blk_cell BK107.out 1).trans rfl, (blk_cell BK107.out 2).trans rfl, (blk_cell BK107.out 3).trans rfl, (blk_cell BK107.out 4).trans rfl, (blk_cell BK107.out 5).trans rfl⟩ (fun hHeld => ?_)
        clear hK K
        refine norm_ (a' := ?_) ?_ ?_
        rotate_left
        ·show Act.put _ (some 19) _ = _
         simp only [Act.put, List.setIfInBounds_toArray, List.set_cons_zero, List.set_cons_succ, i64_w, i32_w]
         rfl
        refine one_ (i := 4) (N := some 21) #[true, true, true, true, true, false, false, false] rfl rfl (one_of HT_.out (by kernel_rfl)) (by decide) (fun K hK => ?_)
        refine Kd.R_lit_step k26 _ 26 ?hg (N := 21) ?hd (xs := ([(⟨a1_0, a1_1, a1_2, a1_3, a1_4, a1_5⟩ : S26)] : List (S26))) (inner := [.int .i64 a1_0, .int .i64 a1_1, .int .i64 a1_2, .int .i64 a1_3, .int .i64 a1_4, .int .i64 a1_5]) (ok := fun _ => True) (okp := fun _ => True) ?hr ?hp (fun _ hk => hk) trivial (Below.refl _ _) (Nat.le_refl _) (by simp) ?_; (case hd => rfl); (case hg => rfl); (case hr => first | (go_simp; done) | (go_simp; rfl)); (case hp => exact (Reps.c6 (show Kd.M k26 _ _ _ (⟨a1_0, a1_1, a1_2, a1_3, a1_4, a1_5⟩ : S26) [.int .i64 a1_0, .int .i64 a1_1, .int .i64 a1_2, .int .i64 a1_3, .int .i64 a1_4, .int .i64 a1_5] from (k26_mkM _ _ _ (⟨a1_0, a1_1, a1_2, a1_3, a1_4, a1_5⟩ : S26) )) (Reps.none _ _)))
        intro v117 w17 ho18 hb hg_ hnew_
        clear hg_ hnew_
        (first | rw [← Ny116.out] at ho18 | (simp only [Int.reduceToNat] at ho18; rw [← Ny116.out] at ho18))
        have n0_ := Aside0.mk (Kd.R_elder' (rowx HO115.out) (Kd.R_base ho18) hb); have n1_ := Aside0.mk (Kd.R_lower (Kd.R_newB (Kd.R_new' ho18 (Kd.R_lt (rowx HO115.out))) (g := gb107) (o := .cells #[.int .i64 a1_0, .int .i64 a1_1, .int .i64 a1_2, .int .i64 a1_3, .int .i64 a1_4, .int .i64 a1_5] 26 (0, 0)) blkx) (below_size bel)); have n2_ := Aside0.mk (blk_below (g := gb107) (o := .cells #[.int .i64 a1_0, .int .i64 a1_1, .int .i64 a1_2, .int .i64 a1_3, .int .i64 a1_4, .int .i64 a1_5] 26 (0, 0)) blkx hb); have n3_ := Aside0.mk (below_step bel hb); clear HO115; clear BK107; clear HB; have HO115 := n0_; have HO118 := n1_; have BK107 := n2_; have HB := n3_; clear n0_ n1_ n2_ n3_; clear hb ho18
        refine hK.out _ _ ⟨(blk_cell BK107.out 0).trans rfl, (blk_cell BK107.out 1).trans rfl, (blk_cell BK107.out 2).trans rfl, (blk_cell BK107.out 3).trans rfl, (blk_cell BK107.out 4).trans rfl, (blk_cell BK107.out 5).trans rfl⟩ (fun hHeld => ?_)
        clear hK K
        refine norm_ (a' := ?_) ?_ ?_
        rotate_left
        ·show Act.put _ (some 21) _ = _
         simp only [Act.put, List.setIfInBounds_toArray, List.set_cons_zero, List.set_cons_succ, i64_w, i32_w]
         rfl
        exact norm_ (by simp only [putAll, Act.put, List.setIfInBounds_toArray, List.set_cons_zero, List.set_cons_succ]) (hCont (v111, v114, v117) _ ⟨hHeld, (by (with_reducible repeat (first | apply Kd.R_alloc | apply Kd.R_drewN | apply Kd.R_drew)); exact Kd.R_mono HO115.out (fun _ hk => ⟨hk.2, hk.1⟩)), (by (with_reducible repeat (first | apply Kd.R_alloc | apply Kd.R_drewN | apply Kd.R_drew)); exact Kd.R_mono HO118.out (fun _ hk => ⟨hk.1.2, hk.2⟩)), blkx, bel⟩)
       ·skip
        refine Kd.R_lit_step k26 _ 26 ?hg (N := 21) ?hd (xs := ([(⟨a1_0, a1_1, a1_2, a1_3, a1_4, a1_5⟩ : S26)] : List (S26))) (inner := [.int .i64 a1_0, .int .i64 a1_1, .int .i64 a1_2, .int .i64 a1_3, .int .i64 a1_4, .int .i64 a1_5]) (ok := fun _ => True) (okp := fun _ => True) ?hr ?hp (fun _ hk => hk) trivial (Below.refl _ _) (Nat.le_refl _) (by simp) ?_; (case hd => rfl); (case hg => rfl); (case hr => first | (go_simp; done) | (go_simp; rfl)); (case hp => exact (Reps.c6 (show Kd.M k26 _ _ _ (⟨a1_0, a1_1, a1_2, a1_3, a1_4, a1_5⟩ : S26) [.int .i64 a1_0, .int .i64 a1_1, .int .i64 a1_2, .int .i64 a1_3, .int .i64 a1_4, .int .i64 a1_5] from (k26_mkM _ _ _ (⟨a1_0, a1_1, a1_2, a1_3, a1_4, a1_5⟩ : S26) )) (Reps.none _ _)))
        intro v117 w16 ho17 hb hg_ hnew_
        clear hg_ hnew_
        (first | rw [← Ny116.out] at ho17 | (simp only [Int.reduceToNat] at ho17; rw [← Ny116.out] at ho17))
        have n0_ := Aside0.mk (Kd.R_elder' (rowx HO112.out) (Kd.R_base ho17) hb); have n1_ := Aside0.mk (Kd.R_lower (Kd.R_newB (Kd.R_new' ho17 (Kd.R_lt (rowx HO112.out))) (g := gb107) (o := .cells #[.int .i64 a1_0, .int .i64 a1_1, .int .i64 a1_2, .int .i64 a1_3, .int .i64 a1_4, .int .i64 a1_5] 26 (0, 0)) blkx) (below_size bel)); have n2_ := Aside0.mk (blk_below (g := gb107) (o := .cells #[.int .i64 a1_0, .int .i64 a1_1, .int .i64 a1_2, .int .i64 a1_3, .int .i64 a1_4, .int .i64 a1_5] 26 (0, 0)) blkx hb); have n3_ := Aside0.mk (below_step bel hb); clear HO112; clear BK107; clear HB; have HO112 := n0_; have HO118 := n1_; have BK107 := n2_; have HB := n3_; clear n0_ n1_ n2_ n3_; clear hb ho17
        refine hK.out _ _ ⟨(blk_cell BK107.out 0).trans rfl, (blk_cell BK107.out 1).trans rfl, (blk_cell BK107.out 2).trans rfl, (blk_cell BK107.out 3).trans rfl, (blk_cell BK107.out 4).trans rfl, (blk_cell BK107.out 5).trans rfl⟩ (fun hHeld => ?_)
        clear hK K
        refine norm_ (a' := ?_) ?_ ?_
        rotate_left
        ·show Act.put _ (some 21) _ = _
         simp only [Act.put, List.setIfInBounds_toArray, List.set_cons_zero, List.set_cons_succ, i64_w, i32_w]
         rfl
        refine one_ (i := 2) (N := some 19) #[true, true, true, true, true, false, false, false] rfl rfl (one_of HT_.out (by kernel_rfl)) (by decide) (fun K hK => ?_)
        refine Kd.R_append_rows_step k26 (w0 := w) w.heap.size (by rfl) (.tmp 17) (.tmp 18) 23 26 (.agg #[(.int .i64 0), (.int .i64 0), (.int .i64 0), (.int .i64 0), (.int .i64 0), (.int .i64 0)]) 48 rfl Try.underlying23 info26 rfl (by decide) (by omega) v111 y110 l0 _ _ _ (fun k_ => some k_ ≠ (v117 : Value).ownBlock ∧ k_ ≠ gb107) (fun _ => False) rfl rfl ?aO ?aR (fun _ _ h => h) (fun _ h => h.elim) ?aF ?aB ?aS ?aL ?_
        (case aR => repeat (first | exact (Kd.C_below HR0.out HB.out) | (with_reducible refine Kd.C_alloc ?_ _) | (with_reducible refine Kd.C_drewN ?_ _) | (with_reducible refine Kd.C_drew ?_)))
        (case aB => exact bel)
        (case aF => exact (fun k_ hk => ⟨Kd.fresh' (Kd.R_lt (rowx HO118.out)) k_ hk, Kd.freshB (g := gb107) (o := .cells #[.int .i64 a1_0, .int .i64 a1_1, .int .i64 a1_2, .int .i64 a1_3, .int .i64 a1_4, .int .i64 a1_5] 26 (0, 0)) blkx k_ hk⟩))
        (case aO => exact (by (with_reducible repeat (first | apply Kd.R_alloc | apply Kd.R_drewN | apply Kd.R_drew)); exact Kd.R_mono HO112.out (fun _ hk => ⟨hk.2, hk.1.2⟩)))
        (case aS => exact (below_size bel))
        (case aL => have := LMc7.out; omega)
        intro v114 w18 ho hb hg hat
        rw [← Ny113.out] at ho
        have n0_ := Aside0.mk (blk_grown (g := gb107) (o := .cells #[.int .i64 a1_0, .int .i64 a1_1, .int .i64 a1_2, .int .i64 a1_3, .int .i64 a1_4, .int .i64 a1_5] 26 (0, 0)) blkx hg (Kd.R_away HO112.out (fun _ hk => hk.1.2))); have n1_ := Aside0.mk (Kd.R_after (ok := (fun k_ => k_ ≠ gb107)) (by (with_reducible repeat (first | apply Kd.R_alloc | apply Kd.R_drewN | apply Kd.R_drew)); exact Kd.R_mono HO118.out (fun _ hk => ⟨hk.2, hk.1.2⟩)) hg hat); have n2_ := Aside0.mk (hb); have n3_ := Aside0.mk (ho); clear BK107; clear HO118; clear HB; clear HO112; have BK107 := n0_; have HO118 := n1_; have HB := n2_; have HO115 := n3_; clear n0_ n1_ n2_ n3_; clear ho hb hg hat
        refine hK.out _ _ ⟨(blk_cell BK107.out 0).trans rfl, (blk_cell BK107.out 1).trans rfl, (blk_cell BK107.out 2).trans rfl, (blk_cell BK107.out 3).trans rfl, (blk_cell BK107.out 4).trans rfl, (blk_cell BK107.out 5).trans rfl⟩ (fun hHeld => ?_)
        clear hK K
        refine norm_ (a' := ?_) ?_ ?_
        rotate_left
        ·show Act.put _ (some 19) _ = _
         simp only [Act.put, List.setIfInBounds_toArray, List.set_cons_zero, List.set_cons_succ, i64_w, i32_w]
         rfl
        exact norm_ (by simp only [putAll, Act.put, List.setIfInBounds_toArray, List.set_cons_zero, List.set_cons_succ]) (hCont (v111, v114, v117) _ ⟨hHeld, (rowx HO115.out), (by (with_reducible repeat (first | apply Kd.R_alloc | apply Kd.R_drewN | apply Kd.R_drew)); exact Kd.R_mono HO118.out (fun _ hk => ⟨hk.2, hk.1⟩)), blkx, bel⟩)
      ·skip
       refine Kd.R_lit_step k26 _ 26 ?hg (N := 21) ?hd (xs := ([(⟨a1_0, a1_1, a1_2, a1_3, a1_4, a1_5⟩ : S26)] : List (S26))) (inner := [.int .i64 a1_0, .int .i64 a1_1, .int .i64 a1_2, .int .i64 a1_3, .int .i64 a1_4, .int .i64 a1_5]) (ok := fun _ => True) (okp := fun _ => True) ?hr ?hp (fun _ hk => hk) trivial (Below.refl _ _) (Nat.le_refl _) (by simp) ?_; (case hd => rfl); (case hg => rfl); (case hr => first | (go_simp; done) | (go_simp; rfl)); (case hp => exact (Reps.c6 (show Kd.M k26 _ _ _ (⟨a1_0, a1_1, a1_2, a1_3, a1_4, a1_5⟩ : S26) [.int .i64 a1_0, .int .i64 a1_1, .int .i64 a1_2, .int .i64 a1_3, .int .i64 a1_4, .int .i64 a1_5] from (k26_mkM _ _ _ (⟨a1_0, a1_1, a1_2, a1_3, a1_4, a1_5⟩ : S26) )) (Reps.none _ _)))
       intro v117 w14 ho15 hb hg_ hnew_
       clear hg_ hnew_
       (first | rw [← Ny116.out] at ho15 | (simp only [Int.reduceToNat] at ho15; rw [← Ny116.out] at ho15))
       have n0_ := Aside0.mk (Kd.R_lower (Kd.R_newB ho15 (g := gb107) (o := .cells #[.int .i64 a1_0, .int .i64 a1_1, .int .i64 a1_2, .int .i64 a1_3, .int .i64 a1_4, .int .i64 a1_5] 26 (0, 0)) blkx) (below_size bel)); have n1_ := Aside0.mk (blk_below (g := gb107) (o := .cells #[.int .i64 a1_0, .int .i64 a1_1, .int .i64 a1_2, .int .i64 a1_3, .int .i64 a1_4, .int .i64 a1_5] 26 (0, 0)) blkx hb); have n2_ := Aside0.mk (below_step bel hb); clear BK107; clear HB; have HO118 := n0_; have BK107 := n1_; have HB := n2_; clear n0_ n1_ n2_; clear hb ho15
       refine hK.out _ _ ⟨(blk_cell BK107.out 0).trans rfl, (blk_cell BK107.out 1).trans rfl, (blk_cell BK107.out 2).trans rfl, (blk_cell BK107.out 3).trans rfl, (blk_cell BK107.out 4).trans rfl, (blk_cell BK107.out 5).trans rfl⟩ (fun hHeld => ?_)
       clear hK K
       refine norm_ (a' := ?_) ?_ ?_
       rotate_left
       ·show Act.put _ (some 21) _ = _
        simp only [Act.put, List.setIfInBounds_toArray, List.set_cons_zero, List.set_cons_succ, i64_w, i32_w]
        rfl
       refine one_ (i := 0) (N := some 17) #[true, true, false, true, true, false, false, false] rfl rfl (one_of HT_.out (by kernel_rfl)) (by decide) (fun K hK => ?_)
       refine Kd.R_lit_step k26 _ 26 ?hg (N := 17) ?hd (xs := ([] : List (S26))) (inner := []) (ok := fun _ => True) (okp := fun _ => True) ?hr ?hp (fun _ hk => hk) trivial (Below.refl _ _) (Nat.le_refl _) (by simp) ?_; (case hd => rfl); (case hg => rfl); (case hr => first | (go_simp; done) | (go_simp; rfl)); (case hp => exact (Reps.none _ _))
       intro v111 w16 ho17 hb hg_ hnew_
       clear hg_ hnew_
       (first | rw [← Ny110.out] at ho17 | (simp only [Int.reduceToNat] at ho17; rw [← Ny110.out] at ho17))
       have n0_ := Aside0.mk (Kd.R_elder' (rowx HO118.out) (Kd.R_base ho17) hb); have n1_ := Aside0.mk (Kd.R_lower (Kd.R_newB (Kd.R_new' ho17 (Kd.R_lt (rowx HO118.out))) (g := gb107) (o := .cells #[.int .i64 a1_0, .int .i64 a1_1, .int .i64 a1_2, .int .i64 a1_3, .int .i64 a1_4, .int .i64 a1_5] 26 (0, 0)) blkx) (below_size bel)); have n2_ := Aside0.mk (blk_below (g := gb107) (o := .cells #[.int .i64 a1_0, .int .i64 a1_1, .int .i64 a1_2, .int .i64 a1_3, .int .i64 a1_4, .int .i64 a1_5] 26 (0, 0)) blkx hb); have n3_ := Aside0.mk (below_step bel hb); clear HO118; clear BK107; clear HB; have HO118 := n0_; have HO112 := n1_; have BK107 := n2_; have HB := n3_; clear n0_ n1_ n2_ n3_; clear hb ho17
       refine hK.out _ _ ⟨(blk_cell BK107.out 0).trans rfl, (blk_cell BK107.out 1).trans rfl, (blk_cell BK107.out 2).trans rfl, (blk_cell BK107.out 3).trans rfl, (blk_cell BK107.out 4).trans rfl, (blk_cell BK107.out 5).trans rfl⟩ (fun hHeld => ?_)
       clear hK K
       refine norm_ (a' := ?_) ?_ ?_
       rotate_left
       ·show Act.put _ (some 17) _ = _
        simp only [Act.put, List.setIfInBounds_toArray, List.set_cons_zero, List.set_cons_succ, i64_w, i32_w]
        rfl
       refine one_ (i := 2) (N := some 19) #[true, true, true, true, true, false, false, false] rfl rfl (one_of HT_.out (by kernel_rfl)) (by decide) (fun K hK => ?_)
       refine Kd.R_append_rows_step k26 (w0 := w) w.heap.size (by rfl) (.tmp 17) (.tmp 18) 23 26 (.agg #[(.int .i64 0), (.int .i64 0), (.int .i64 0), (.int .i64 0), (.int .i64 0), (.int .i64 0)]) 48 rfl Try.underlying23 info26 rfl (by decide) (by omega) v111 y110 l0 _ _ _ (fun k_ => some k_ ≠ (v117 : Value).ownBlock ∧ k_ ≠ gb107) (fun _ => False) rfl rfl ?aO ?aR (fun _ _ h => h) (fun _ h => h.elim) ?aF ?aB ?aS ?aL ?_
       (case aR => repeat (first | exact (Kd.C_below HR0.out HB.out) | (with_reducible refine Kd.C_alloc ?_ _) | (with_reducible refine Kd.C_drewN ?_ _) | (with_reducible refine Kd.C_drew ?_)))
       (case aB => exact bel)
       (case aF => exact (fun k_ hk => ⟨Kd.fresh' (Kd.R_lt (rowx HO118.out)) k_ hk, Kd.freshB (g := gb107) (o := .cells #[.int .i64 a1_0, .int .i64 a1_1, .int .i64 a1_2, .int .i64 a1_3, .int .i64 a1_4, .int .i64 a1_5] 26 (0, 0)) blkx k_ hk⟩))
       (case aO => exact (by (with_reducible repeat (first | apply Kd.R_alloc | apply Kd.R_drewN | apply Kd.R_drew)); exact Kd.R_mono HO112.out (fun _ hk => ⟨hk.1.2, hk.2⟩)))
       (case aS => exact (below_size bel))
       (case aL => have := LMc7.out; omega)
       intro v114 w18 ho hb hg hat
       rw [← Ny113.out] at ho
       have n0_ := Aside0.mk (blk_grown (g := gb107) (o := .cells #[.int .i64 a1_0, .int .i64 a1_1, .int .i64 a1_2, .int .i64 a1_3, .int .i64 a1_4, .int .i64 a1_5] 26 (0, 0)) blkx hg (Kd.R_away HO112.out (fun _ hk => hk.2))); have n1_ := Aside0.mk (Kd.R_after (ok := (fun k_ => k_ ≠ gb107)) (by (with_reducible repeat (first | apply Kd.R_alloc | apply Kd.R_drewN | apply Kd.R_drew)); exact Kd.R_mono HO118.out (fun _ hk => ⟨hk.1.2, hk.2⟩)) hg hat); have n2_ := Aside0.mk (hb); have n3_ := Aside0.mk (ho); clear BK107; clear HO118; clear HB; clear HO112; have BK107 := n0_; have HO118 := n1_; have HB := n2_; have HO115 := n3_; clear n0_ n1_ n2_ n3_; clear ho hb hg hat
       refine hK.out _ _ ⟨(blk_cell BK107.out 0).trans rfl, (blk_cell BK107.out 1).trans rfl, (blk_cell BK107.out 2).trans rfl, (blk_cell BK107.out 3).trans rfl, (blk_cell BK107.out 4).trans rfl, (blk_cell BK107.out 5).trans rfl⟩ (fun hHeld => ?_)
       clear hK K
       refine norm_ (a' := ?_) ?_ ?_
       rotate_left
       ·show Act.put _ (some 19) _ = _
        simp only [Act.put, List.setIfInBounds_toArray, List.set_cons_zero, List.set_cons_succ, i64_w, i32_w]
        rfl
       exact norm_ (by simp only [putAll, Act.put, List.setIfInBounds_toArray, List.set_cons_zero, List.set_cons_succ]) (hCont (v111, v114, v117) _ ⟨hHeld, (rowx HO115.out), (by (with_reducible repeat (first | apply Kd.R_alloc | apply Kd.R_drewN | apply Kd.R_drew)); exact Kd.R_mono HO118.out (fun _ hk => ⟨hk.2, hk.1⟩)), blkx, bel⟩)
     rintro ⟨v111, v114, v117⟩ w19 ⟨hS_, h0_, h1_, h2_, h3_⟩
     have n0_ : Aside0 (Kd.R k26 26 w19 w.heap.size (fun k_ => some k_ ≠ (v117 : Value).ownBlock ∧ k_ ≠ gb107) v114 y113) := ⟨h0_⟩; have n1_ : Aside0 (Kd.R k26 26 w19 w.heap.size (fun k_ => some k_ ≠ (v114 : Value).ownBlock ∧ k_ ≠ gb107) v117 y116) := ⟨h1_⟩; have n2_ : Aside0 (w19.heap[gb107]? = some (.cells #[.int .i64 a1_0, .int .i64 a1_1, .int .i64 a1_2, .int .i64 a1_3, .int .i64 a1_4, .int .i64 a1_5] 26 (0, 0))) := ⟨h2_⟩; have n3_ : Aside0 (Below w.heap.size w w19) := ⟨h3_⟩; clear BK107; clear HB; clear h0_ h1_ h2_ h3_; have HO115 := n0_; have HO118 := n1_; have BK107 := n2_; have HB := n3_; clear n0_ n1_ n2_ n3_; have hHeld : w19.cell? ⟨gb107, 0, none⟩ = some (.int .i64 a1_0) ∧ w19.cell? ⟨gb107, 1, none⟩ = some (.int .i64 a1_1) ∧ w19.cell? ⟨gb107, 2, none⟩ = some (.int .i64 a1_2) ∧ w19.cell? ⟨gb107, 3, none⟩ = some (.int .i64 a1_3) ∧ w19.cell? ⟨gb107, 4, none⟩ = some (.int .i64 a1_4) ∧ w19.cell? ⟨gb107, 5, none⟩ = some (.int .i64 a1_5) := hS_; obtain ⟨Ao21, co21, eo21⟩ := Kd.R_slice HO118.out
     (first | subst eo21 | (injection eo21 with f1_ f2_ f3_; have f4_ := f1_.symm; have f5_ := f3_.symm; clear f1_ f2_ f3_; subst f4_; subst f5_))
     refine norm_ (a' := ?_) ?_ ?_
     rotate_left
     ·simp only [putAll, Act.put, List.setIfInBounds_toArray, List.set_cons_zero, List.set_cons_succ]
      rfl
     refine one_ (i := 5) (N := some 22) #[true, true, true, true, true, true, false, false] rfl rfl (one_of HT_.out (by kernel_rfl)) (by decide) (fun K hK => ?_)
     refine Kd.R_append_rows_step k26 (w0 := w) w.heap.size (by rfl) (.tmp 19) (.tmp 21) 23 26 (.agg #[(.int .i64 0), (.int .i64 0), (.int .i64 0), (.int .i64 0), (.int .i64 0), (.int .i64 0)]) 48 rfl Try.underlying23 info26 rfl (by decide) (by omega) v114 y113 y116 _ _ _ (fun k_ => some k_ ≠ (.slice Ao21 y116.length co21 : Value).ownBlock ∧ k_ ≠ gb107) (fun _ => False) rfl rfl ?aO ?aR (fun _ _ h => h) (fun _ h => h.elim) ?aF ?aB ?aS ?aL ?_
     (case aR => repeat (first | exact (Kd.R_reads' HO118.out).2.2 | (with_reducible refine Kd.C_alloc ?_ _) | (with_reducible refine Kd.C_drewN ?_ _) | (with_reducible refine Kd.C_drew ?_)))
     (case aB => exact bel)
     (case aF => exact (fun k_ hk => ⟨Kd.fresh' (Kd.R_lt (rowx HO118.out)) k_ hk, Kd.freshB (g := gb107) (o := .cells #[.int .i64 a1_0, .int .i64 a1_1, .int .i64 a1_2, .int .i64 a1_3, .int .i64 a1_4, .int .i64 a1_5] 26 (0, 0)) blkx k_ hk⟩))
     (case aO => exact (rowx HO115.out))
     (case aS => exact (below_size bel))
     (case aL => have := LMc8.out; omega)
     intro v120 w20 ho hb hg hat
     rw [← Ny119.out] at ho
     have n0_ := Aside0.mk (blk_grown (g := gb107) (o := .cells #[.int .i64 a1_0, .int .i64 a1_1, .int .i64 a1_2, .int .i64 a1_3, .int .i64 a1_4, .int .i64 a1_5] 26 (0, 0)) blkx hg (Kd.R_away HO115.out (fun _ hk => hk.2))); have n1_ := Aside0.mk (Kd.R_after (ok := (fun k_ => k_ ≠ gb107)) (by (with_reducible repeat (first | apply Kd.R_alloc | apply Kd.R_drewN | apply Kd.R_drew)); exact Kd.R_mono HO118.out (fun _ hk => ⟨hk.2, hk.1⟩)) hg hat); have n2_ := Aside0.mk (hb); have n3_ := Aside0.mk (ho); clear BK107; clear HO118; clear HB; clear HO115; have BK107 := n0_; have HO118 := n1_; have HB := n2_; have HO121 := n3_; clear n0_ n1_ n2_ n3_; clear ho hb hg hat
     refine hK.out _ _ ⟨(blk_cell BK107.out 0).trans rfl, (blk_cell BK107.out 1).trans rfl, (blk_cell BK107.out 2).trans rfl, (blk_cell BK107.out 3).trans rfl, (blk_cell BK107.out 4).trans rfl, (blk_cell BK107.out 5).trans rfl⟩ (fun hHeld => ?_)
     clear hK K
     refine norm_ (a' := ?_) ?_ ?_
     rotate_left
     ·show Act.put _ (some 22) _ = _
      simp only [Act.put, List.setIfInBounds_toArray, List.set_cons_zero, List.set_cons_succ, i64_w, i32_w]
      rfl
     refine pure_ (i := 6) (N := some 4) (v := ?_) (a' := ?_) #[true, true, true, true, true, true, true, false] rfl rfl (any_of HT_.out (by kernel_rfl)) (fun _ _ _ h => h) (Or.inl ⟨by rfl, ?_⟩) ?_ ?_
     rotate_left
     ·intro w'
      go_simp
      with_reducible rfl
     rotate_left
     ·simp only [Act.put, List.setIfInBounds_toArray, List.set_cons_zero, List.set_cons_succ, i64_w, i32_w]
      rfl
     refine pure_ (i := 7) (N := some 5) (v := ?_) (a' := ?_) #[true, true, true, true, true, true, true, true] rfl rfl (any_of HT_.out (by kernel_rfl)) (fun _ _ _ h => h) (Or.inl ⟨by rfl, ?_⟩) ?_ ?_
     rotate_left
     ·intro w'
      go_simp
      with_reducible rfl
     rotate_left
     ·simp only [Act.put, List.setIfInBounds_toArray, List.set_cons_zero, List.set_cons_succ, i64_w, i32_w]
      rfl
     refine done_ (done_of HT_.out (by kernel_rfl)) ?_
     try go_wp2
     go_ret2
     exact ⟨_, by first | rfl | (simp [errW_none, errW_some] <;> rfl) | (simp [*, errW_none, errW_some] <;> rfl), by (with_reducible repeat (first | apply Kd.R_alloc | apply Kd.R_drewN | apply Kd.R_drew)); exact Kd.R_mono HO121.out (fun _ hk => trivial), bel⟩
    ·rw [if_neg c8] at H
     exact absurd H (by simp)
   ·rw [if_neg c7] at H
    exact absurd H (by simp)
  ·rw [if_neg c6] at H
   have c6b0 : (t109 == 0) = false := beq_eq_false_iff_ne.mpr c6; have c6b1 : (t109 != 0) = true := bne_iff_ne.mpr c6
   simp only [Option.some.injEq, Prod.mk.injEq] at H
   obtain ⟨rfl, rfl⟩ := H
   go_enter Try.func20, Try.ntmps20
   go_wp2_with (first | ((with_reducible refine gate_dst (N := 3) rfl ?_); refine box_event ?hg (N := 3) ?hd (cs := #[.int .i64 a1_0, .int .i64 a1_1, .int .i64 a1_2, .int .i64 a1_3, .int .i64 a1_4, .int .i64 a1_5]) (t := 26) ?hr ?_; (case hd => rfl); (case hg => rfl); (case hr => first | (go_simp; done) | (go_simp; rfl)); intro gb107 hg w22 hbox hb; have qb_ := below_both bel hb; have n0_ := Aside0.mk (qb_.1); have n1_ := Aside0.mk (hbox); have n3_ := Aside0.mk ((by rw [hg]; exact qb_.2 : w.heap.size ≤ gb107)); clear HB; have HB := n0_; have BK107 := n1_; have GE107 := n3_; clear qb_; clear n0_ n1_ n3_; clear hb hbox hg) | ((with_reducible refine gate_callee (f := 22) rfl ?_); refine goesL_ (some 8) rfl rfl Try.func22 (by kernel_rfl) rfl #[.slice A0 l0.length c0] rfl argx ?_; (with_reducible refine (customsref27_Ledger.calls k _ _ l0 t108 _ ?side1 ?side2 A3.out).mono ?_); (case side1 => repeat (first | exact (Kd.C_below HR0.out HB.out) | (with_reducible refine Kd.C_alloc ?_ _) | (with_reducible refine Kd.C_drewN ?_ _) | (with_reducible refine Kd.C_drew ?_))); (case side2 => exact HC0.out); rintro e w23 ⟨rfl, hb⟩; refine ⟨_, rfl, ?_⟩; have n0_ := Aside0.mk (blk_below (g := gb107) (o := .cells #[.int .i64 a1_0, .int .i64 a1_1, .int .i64 a1_2, .int .i64 a1_3, .int .i64 a1_4, .int .i64 a1_5] 26 (0, 0)) blkx hb); have n1_ := Aside0.mk (below_step bel hb); clear BK107; clear HB; have BK107 := n0_; have HB := n1_; clear n0_ n1_; (try clear hb); (try clear hb2); (try clear hk); (try clear hi); obtain ⟨hcz24_0, hcz24_1, hcz24_2, hcz24_3, hcz24_4, hcz24_5, hfz24_0, hfz24_1, hfz24_2, hfz24_3, hfz24_4, hfz24_5⟩ := cells6 BK107.out) | ((with_reducible refine gate_callee (f := 40) rfl ?_); refine goesL_ (some 13) rfl rfl Try.func40 (by kernel_rfl) rfl #[.slice A0 l0.length c0, .agg #[.int .i64 a1_0, .int .i64 a1_1, .int .i64 a1_2, .int .i64 a1_3, .int .i64 a1_4, .int .i64 a1_5]] rfl argx ?_; (with_reducible refine (customsref27_may.calls k _ _ l0 a1_0 a1_1 a1_2 a1_3 a1_4 a1_5 t109 _ ?side1 ?side2 A5.out).mono ?_); (case side1 => repeat (first | exact (Kd.C_below HR0.out HB.out) | (with_reducible refine Kd.C_alloc ?_ _) | (with_reducible refine Kd.C_drewN ?_ _) | (with_reducible refine Kd.C_drew ?_))); (case side2 => exact HC0.out); rintro e w25 ⟨rfl, hb⟩; refine ⟨_, rfl, ?_⟩; have n1_ := Aside0.mk (below_step bel hb); (try clear BK107); clear HB; have HB := n1_; clear n1_; (try clear hb); (try clear hb2); (try clear hk); (try clear hi)))
   go_ret2
   exact ⟨_, by first | rfl | (simp [errW_none, errW_some] <;> rfl) | (simp [*, errW_none, errW_some] <;> rfl), by first | exact Kd.R_nil _ _ _ _ _ | exact Kd.N_nil _ _ _ _ _ | exact Kd.V_nil _ _ _ _ _ | exact Kd.Q_nil _ _ _ _ _ | exact Kd.S_nil _ _ _ _ _, bel⟩
 ·rw [if_neg c4] at H
  have c4b0 : (t108 == 0) = false := beq_eq_false_iff_ne.mpr c4; have c4b1 : (t108 != 0) = true := bne_iff_ne.mpr c4
  simp only [Option.some.injEq, Prod.mk.injEq] at H
  obtain ⟨rfl, rfl⟩ := H
  go_enter Try.func20, Try.ntmps20
  go_wp2_with (first | ((with_reducible refine gate_dst (N := 3) rfl ?_); refine box_event ?hg (N := 3) ?hd (cs := #[.int .i64 a1_0, .int .i64 a1_1, .int .i64 a1_2, .int .i64 a1_3, .int .i64 a1_4, .int .i64 a1_5]) (t := 26) ?hr ?_; (case hd => rfl); (case hg => rfl); (case hr => first | (go_simp; done) | (go_simp; rfl)); intro gb107 hg w26 hbox hb; have qb_ := below_both bel hb; have n0_ := Aside0.mk (qb_.1); have n3_ := Aside0.mk ((by rw [hg]; exact qb_.2 : w.heap.size ≤ gb107)); clear HB; have HB := n0_; have GE107 := n3_; clear qb_; clear n0_ n3_; clear hb hbox hg) | ((with_reducible refine gate_callee (f := 22) rfl ?_); refine goesL_ (some 8) rfl rfl Try.func22 (by kernel_rfl) rfl #[.slice A0 l0.length c0] rfl argx ?_; (with_reducible refine (customsref27_Ledger.calls k _ _ l0 t108 _ ?side1 ?side2 A3.out).mono ?_); (case side1 => repeat (first | exact (Kd.C_below HR0.out HB.out) | (with_reducible refine Kd.C_alloc ?_ _) | (with_reducible refine Kd.C_drewN ?_ _) | (with_reducible refine Kd.C_drew ?_))); (case side2 => exact HC0.out); rintro e w27 ⟨rfl, hb⟩; refine ⟨_, rfl, ?_⟩; have n1_ := Aside0.mk (below_step bel hb); (try clear BK107); clear HB; have HB := n1_; clear n1_; (try clear hb); (try clear hb2); (try clear hk); (try clear hi)))
  go_ret2
  exact ⟨_, by first | rfl | (simp [errW_none, errW_some] <;> rfl) | (simp [*, errW_none, errW_some] <;> rfl), by first | exact Kd.R_nil _ _ _ _ _ | exact Kd.N_nil _ _ _ _ _ | exact Kd.V_nil _ _ _ _ _ | exact Kd.Q_nil _ _ _ _ _ | exact Kd.S_nil _ _ _ _ _, bel⟩
end Go.Proofs.Ytgedkdofhonicaa.PC
