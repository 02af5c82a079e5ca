/- Functions of the program as plain Lean functions. Printed by a program of mine; checked by the kernel. -/
import Derived.Test.YtnepcgaphhgbnaaGreatDoorFa
set_option linter.unusedVariables false
set_option maxRecDepth 100000
namespace Go.JL
open Go.Proofs
/-! joinlearn/schema.named -/
abbrev f131_cx (F120 : ((List UInt8) × Unit) → Option ((Bool × Unit) × (Unit))) (F168 : ((List (List UInt8)) × (List UInt8) × Unit) → Option ((Bool × Unit) × (Unit))) : Cx := ⟨look tys, look [(120, ⟨[.val .str], [.bool], F120⟩), (168, ⟨[.val (.list .str), .val .str], [.bool], F168⟩)], 21, look [], [], []⟩
def f131_an : Ann := ⟨look [], look []⟩
def f131_b (F120 : ((List UInt8) × Unit) → Option ((Bool × Unit) × (Unit))) (F168 : ((List (List UInt8)) × (List UInt8) × Unit) → Option ((Bool × Unit) × (Unit)))  (a0 : (List (List UInt8))) (a1 : Int) : Option ((Int × Unit) × (Unit)) :=
 rd a0 a1 fun y1 =>
 Option.bind (F120 (y1, ())) fun r2 =>
 bif (!r2.1.1) then (some ((14, ()), ()))
 else (chk ((decide (0 ≤ a1)) && (decide (a1.toNat ≤ a0.length))) <|
 rd a0 a1 fun y3 =>
 Option.bind (F168 ((a0.take a1.toNat), y3, ())) fun r4 =>
 bif r4.1.1 then (some ((9, ()), ()))
 else (some ((0, ()), ())))
def f131_I (k : Nat) (F120 : ((List UInt8) × Unit) → Option ((Bool × Unit) × (Unit))) (F168 : ((List (List UInt8)) × (List UInt8) × Unit) → Option ((Bool × Unit) × (Unit))) (a0 : (List (List UInt8))) (a1 : Int) : Option ((Int × Unit) × (Unit)) := f131_b F120 F168 a0 a1
theorem f131_eq (k : Nat) (F120 : ((List UInt8) × Unit) → Option ((Bool × Unit) × (Unit))) (F168 : ((List (List UInt8)) × (List UInt8) × Unit) → Option ((Bool × Unit) × (Unit))) (x : ((List (List UInt8)) × Int × Unit)) : vfun (f131_cx F120 F168) f131_an k Tryz.f131 [.val (.list .str), .val (.int .i64)] [(.int .i64)] x = f131_I k F120 F168 x.1 x.2.1 := by kernel_rfl
theorem f131_ok (k : Nat) (F120 : ((List UInt8) × Unit) → Option ((Bool × Unit) × (Unit))) (F168 : ((List (List UInt8)) × (List UInt8) × Unit) → Option ((Bool × Unit) × (Unit))) (h120 : FnOk Tryz.prog 120 ⟨[.val .str], [.bool], F120⟩) (h168 : FnOk Tryz.prog 168 ⟨[.val (.list .str), .val .str], [.bool], F168⟩) : FnOk Tryz.prog 131 ⟨[.val (.list .str), .val (.int .i64)], [(.int .i64)], fun x => f131_I k F120 F168 x.1 x.2.1⟩ :=
 (fn_ok (an := f131_an) (k := k) follows_mixed tys_ok ⟨look_fn (AllFn.cons h120 (AllFn.cons h168 (AllFn.nil))), look_new AllNew.nil⟩ Tryz.func131 rfl rfl rfl).of (funext (f131_eq k F120 F168))
/-! math/bits.Len -/
abbrev f130_cx (F167 : (Int × Unit) → Option ((Int × Unit) × (Unit))) : Cx := ⟨look tys, look [(167, ⟨[.val (.int .u64)], [(.int .i64)], F167⟩)], 8, look [], [], []⟩
def f130_an : Ann := ⟨look [], look []⟩
def f130_b (F167 : (Int × Unit) → Option ((Int × Unit) × (Unit)))  (a0 : Int) : Option ((Int × Unit) × (Unit)) :=
 Option.bind (F167 (a0, ())) fun r1 =>
 some ((r1.1.1, ()), ())
def f130_I (k : Nat) (F167 : (Int × Unit) → Option ((Int × Unit) × (Unit))) (a0 : Int) : Option ((Int × Unit) × (Unit)) := f130_b F167 a0
theorem f130_eq (k : Nat) (F167 : (Int × Unit) → Option ((Int × Unit) × (Unit))) (x : (Int × Unit)) : vfun (f130_cx F167) f130_an k Tryz.f130 [.val (.int .u64)] [(.int .i64)] x = f130_I k F167 x.1 := by kernel_rfl
theorem f130_ok (k : Nat) (F167 : (Int × Unit) → Option ((Int × Unit) × (Unit))) (h167 : FnOk Tryz.prog 167 ⟨[.val (.int .u64)], [(.int .i64)], F167⟩) : FnOk Tryz.prog 130 ⟨[.val (.int .u64)], [(.int .i64)], fun x => f130_I k F167 x.1⟩ :=
 (fn_ok (an := f130_an) (k := k) follows_mixed tys_ok ⟨look_fn (AllFn.cons h167 (AllFn.nil)), look_new AllNew.nil⟩ Tryz.func130 rfl rfl rfl).of (funext (f130_eq k F167))
/-! slices.pdqsortOrdered[string] -/
abbrev f129_cx (F157 : ((List (List UInt8)) × Int × Int × Unit) → Option ((Unit) × (Unit))) (F158 : ((List (List UInt8)) × Int × Int × Unit) → Option ((Unit) × (Unit))) (F159 : ((List (List UInt8)) × Int × Int × Unit) → Option ((Unit) × (Unit))) (F160 : ((List (List UInt8)) × Int × Int × Unit) → Option ((Int × Int × Unit) × (Unit))) (F161 : ((List (List UInt8)) × Int × Int × Unit) → Option ((Unit) × (Unit))) (F162 : ((List (List UInt8)) × Int × Int × Unit) → Option ((Bool × Unit) × (Unit))) (F163 : ((List UInt8) × (List UInt8) × Unit) → Option ((Bool × Unit) × (Unit))) (F164 : ((List (List UInt8)) × Int × Int × Int × Unit) → Option ((Int × Unit) × (Unit))) (F165 : ((List (List UInt8)) × Int × Int × Int × Unit) → Option ((Int × Bool × Unit) × (Unit))) (F129 : ((List (List UInt8)) × Int × Int × Int × Unit) → Option ((Unit) × (Unit))) : Cx := ⟨look tys, look [(157, ⟨[.val (.list .str), .val (.int .i64), .val (.int .i64)], [], F157⟩), (158, ⟨[.val (.list .str), .val (.int .i64), .val (.int .i64)], [], F158⟩), (159, ⟨[.val (.list .str), .val (.int .i64), .val (.int .i64)], [], F159⟩), (160, ⟨[.val (.list .str), .val (.int .i64), .val (.int .i64)], [(.int .i64), (.int .i64)], F160⟩), (161, ⟨[.val (.list .str), .val (.int .i64), .val (.int .i64)], [], F161⟩), (162, ⟨[.val (.list .str), .val (.int .i64), .val (.int .i64)], [.bool], F162⟩), (163, ⟨[.val .str, .val .str], [.bool], F163⟩), (164, ⟨[.val (.list .str), .val (.int .i64), .val (.int .i64), .val (.int .i64)], [(.int .i64)], F164⟩), (165, ⟨[.val (.list .str), .val (.int .i64), .val (.int .i64), .val (.int .i64)], [(.int .i64), .bool], F165⟩), (129, ⟨[.val (.list .str), .val (.int .i64), .val (.int .i64), .val (.int .i64)], [], F129⟩)], 134, look [], [], []⟩
def f129_an : Ann := ⟨look [(0, ⟨[0, 1, 2, 3, 8, 9], [], []⟩)], look []⟩
abbrev f129_Vl0 : Type := (List (List UInt8)) × Int × Int × Int × Bool × Bool
def f129_Tl0 (v : f129_Vl0) : Nat → LV := tbl [(0, .c (.s (.list .str) v.1)), (1, .c (.s (.int .i64) v.2.1)), (2, .c (.s (.int .i64) v.2.2.1)), (3, .c (.s (.int .i64) v.2.2.2.1)), (8, .c (.s .bool v.2.2.2.2.1)), (9, .c (.s .bool v.2.2.2.2.2))]
def f129_Hl0 (v : f129_Vl0) : Nat → Option VO := tblH []

def f129_bl0 (F157 : ((List (List UInt8)) × Int × Int × Unit) → Option ((Unit) × (Unit))) (F158 : ((List (List UInt8)) × Int × Int × Unit) → Option ((Unit) × (Unit))) (F159 : ((List (List UInt8)) × Int × Int × Unit) → Option ((Unit) × (Unit))) (F160 : ((List (List UInt8)) × Int × Int × Unit) → Option ((Int × Int × Unit) × (Unit))) (F161 : ((List (List UInt8)) × Int × Int × Unit) → Option ((Unit) × (Unit))) (F162 : ((List (List UInt8)) × Int × Int × Unit) → Option ((Bool × Unit) × (Unit))) (F163 : ((List UInt8) × (List UInt8) × Unit) → Option ((Bool × Unit) × (Unit))) (F164 : ((List (List UInt8)) × Int × Int × Int × Unit) → Option ((Int × Unit) × (Unit))) (F165 : ((List (List UInt8)) × Int × Int × Int × Unit) → Option ((Int × Bool × Unit) × (Unit))) (F129 : ((List (List UInt8)) × Int × Int × Int × Unit) → Option ((Unit) × (Unit))) (Jl0 : f129_Vl0 → Option ((Unit) × (Unit))) : f129_Vl0 → Option ((Unit) × (Unit)) := fun (x1, x2, x3, x4, x5, x6) =>
 bif (decide ((w64 (x3 - x2)) ≤ 12)) then (Option.bind (F157 (x1, x2, x3, ())) fun r7 =>
 some ((()), ()))
 else (bif (x4 == 0) then (Option.bind (F158 (x1, x2, x3, ())) fun r8 =>
 some ((()), ()))
 else (bif (!x5) then (Option.bind (F159 (x1, x2, x3, ())) fun r9 =>
 Option.bind (F160 (x1, x2, x3, ())) fun r10 =>
 bif (r10.1.2.1 == 2) then (Option.bind (F161 (x1, x2, x3, ())) fun r11 =>
 bif x5 then (bif x6 then (Option.bind (F162 (x1, x2, x3, ())) fun r12 =>
 bif r12.1.1 then (some ((()), ()))
 else (bif (decide (x2 > 0)) then (rd x1 (w64 (x2 - 1)) fun y13 =>
 rd x1 (w64 ((w64 (x3 - 1)) - (w64 (r10.1.1 - x2)))) fun y14 =>
 Option.bind (F163 (y13, y14, ())) fun r15 =>
 bif (!r15.1.1) then (Option.bind (F164 (x1, x2, x3, (w64 ((w64 (x3 - 1)) - (w64 (r10.1.1 - x2)))), ())) fun r16 =>
 Jl0 (x1, r16.1.1, x3, (w64 (x4 - 1)), x5, x6))
 else (Option.bind (F165 (x1, x2, x3, (w64 ((w64 (x3 - 1)) - (w64 (r10.1.1 - x2)))), ())) fun r17 =>
 bif (decide ((w64 (r17.1.1 - x2)) < (w64 (x3 - r17.1.1)))) then (Option.bind (F129 (x1, x2, r17.1.1, (w64 (x4 - 1)), ())) fun r18 =>
 Jl0 (x1, (w64 (r17.1.1 + 1)), x3, (w64 (x4 - 1)), (decide ((w64 (r17.1.1 - x2)) ≥ (w64 ((w64 (x3 - x2)).tdiv 8)))), r17.1.2.1))
 else (Option.bind (F129 (x1, (w64 (r17.1.1 + 1)), x3, (w64 (x4 - 1)), ())) fun r19 =>
 Jl0 (x1, x2, r17.1.1, (w64 (x4 - 1)), (decide ((w64 (x3 - r17.1.1)) ≥ (w64 ((w64 (x3 - x2)).tdiv 8)))), r17.1.2.1))))
 else (Option.bind (F165 (x1, x2, x3, (w64 ((w64 (x3 - 1)) - (w64 (r10.1.1 - x2)))), ())) fun r20 =>
 bif (decide ((w64 (r20.1.1 - x2)) < (w64 (x3 - r20.1.1)))) then (Option.bind (F129 (x1, x2, r20.1.1, (w64 (x4 - 1)), ())) fun r21 =>
 Jl0 (x1, (w64 (r20.1.1 + 1)), x3, (w64 (x4 - 1)), (decide ((w64 (r20.1.1 - x2)) ≥ (w64 ((w64 (x3 - x2)).tdiv 8)))), r20.1.2.1))
 else (Option.bind (F129 (x1, (w64 (r20.1.1 + 1)), x3, (w64 (x4 - 1)), ())) fun r22 =>
 Jl0 (x1, x2, r20.1.1, (w64 (x4 - 1)), (decide ((w64 (x3 - r20.1.1)) ≥ (w64 ((w64 (x3 - x2)).tdiv 8)))), r20.1.2.1)))))
 else (bif (decide (x2 > 0)) then (rd x1 (w64 (x2 - 1)) fun y23 =>
 rd x1 (w64 ((w64 (x3 - 1)) - (w64 (r10.1.1 - x2)))) fun y24 =>
 Option.bind (F163 (y23, y24, ())) fun r25 =>
 bif (!r25.1.1) then (Option.bind (F164 (x1, x2, x3, (w64 ((w64 (x3 - 1)) - (w64 (r10.1.1 - x2)))), ())) fun r26 =>
 Jl0 (x1, r26.1.1, x3, (w64 (x4 - 1)), x5, x6))
 else (Option.bind (F165 (x1, x2, x3, (w64 ((w64 (x3 - 1)) - (w64 (r10.1.1 - x2)))), ())) fun r27 =>
 bif (decide ((w64 (r27.1.1 - x2)) < (w64 (x3 - r27.1.1)))) then (Option.bind (F129 (x1, x2, r27.1.1, (w64 (x4 - 1)), ())) fun r28 =>
 Jl0 (x1, (w64 (r27.1.1 + 1)), x3, (w64 (x4 - 1)), (decide ((w64 (r27.1.1 - x2)) ≥ (w64 ((w64 (x3 - x2)).tdiv 8)))), r27.1.2.1))
 else (Option.bind (F129 (x1, (w64 (r27.1.1 + 1)), x3, (w64 (x4 - 1)), ())) fun r29 =>
 Jl0 (x1, x2, r27.1.1, (w64 (x4 - 1)), (decide ((w64 (x3 - r27.1.1)) ≥ (w64 ((w64 (x3 - x2)).tdiv 8)))), r27.1.2.1))))
 else (Option.bind (F165 (x1, x2, x3, (w64 ((w64 (x3 - 1)) - (w64 (r10.1.1 - x2)))), ())) fun r30 =>
 bif (decide ((w64 (r30.1.1 - x2)) < (w64 (x3 - r30.1.1)))) then (Option.bind (F129 (x1, x2, r30.1.1, (w64 (x4 - 1)), ())) fun r31 =>
 Jl0 (x1, (w64 (r30.1.1 + 1)), x3, (w64 (x4 - 1)), (decide ((w64 (r30.1.1 - x2)) ≥ (w64 ((w64 (x3 - x2)).tdiv 8)))), r30.1.2.1))
 else (Option.bind (F129 (x1, (w64 (r30.1.1 + 1)), x3, (w64 (x4 - 1)), ())) fun r32 =>
 Jl0 (x1, x2, r30.1.1, (w64 (x4 - 1)), (decide ((w64 (x3 - r30.1.1)) ≥ (w64 ((w64 (x3 - x2)).tdiv 8)))), r30.1.2.1)))))
 else (bif (decide (x2 > 0)) then (rd x1 (w64 (x2 - 1)) fun y33 =>
 rd x1 (w64 ((w64 (x3 - 1)) - (w64 (r10.1.1 - x2)))) fun y34 =>
 Option.bind (F163 (y33, y34, ())) fun r35 =>
 bif (!r35.1.1) then (Option.bind (F164 (x1, x2, x3, (w64 ((w64 (x3 - 1)) - (w64 (r10.1.1 - x2)))), ())) fun r36 =>
 Jl0 (x1, r36.1.1, x3, (w64 (x4 - 1)), x5, x6))
 else (Option.bind (F165 (x1, x2, x3, (w64 ((w64 (x3 - 1)) - (w64 (r10.1.1 - x2)))), ())) fun r37 =>
 bif (decide ((w64 (r37.1.1 - x2)) < (w64 (x3 - r37.1.1)))) then (Option.bind (F129 (x1, x2, r37.1.1, (w64 (x4 - 1)), ())) fun r38 =>
 Jl0 (x1, (w64 (r37.1.1 + 1)), x3, (w64 (x4 - 1)), (decide ((w64 (r37.1.1 - x2)) ≥ (w64 ((w64 (x3 - x2)).tdiv 8)))), r37.1.2.1))
 else (Option.bind (F129 (x1, (w64 (r37.1.1 + 1)), x3, (w64 (x4 - 1)), ())) fun r39 =>
 Jl0 (x1, x2, r37.1.1, (w64 (x4 - 1)), (decide ((w64 (x3 - r37.1.1)) ≥ (w64 ((w64 (x3 - x2)).tdiv 8)))), r37.1.2.1))))
 else (Option.bind (F165 (x1, x2, x3, (w64 ((w64 (x3 - 1)) - (w64 (r10.1.1 - x2)))), ())) fun r40 =>
 bif (decide ((w64 (r40.1.1 - x2)) < (w64 (x3 - r40.1.1)))) then (Option.bind (F129 (x1, x2, r40.1.1, (w64 (x4 - 1)), ())) fun r41 =>
 Jl0 (x1, (w64 (r40.1.1 + 1)), x3, (w64 (x4 - 1)), (decide ((w64 (r40.1.1 - x2)) ≥ (w64 ((w64 (x3 - x2)).tdiv 8)))), r40.1.2.1))
 else (Option.bind (F129 (x1, (w64 (r40.1.1 + 1)), x3, (w64 (x4 - 1)), ())) fun r42 =>
 Jl0 (x1, x2, r40.1.1, (w64 (x4 - 1)), (decide ((w64 (x3 - r40.1.1)) ≥ (w64 ((w64 (x3 - x2)).tdiv 8)))), r40.1.2.1)))))
 else (bif x5 then (bif x6 then (bif (r10.1.2.1 == 1) then (Option.bind (F162 (x1, x2, x3, ())) fun r43 =>
 bif r43.1.1 then (some ((()), ()))
 else (bif (decide (x2 > 0)) then (rd x1 (w64 (x2 - 1)) fun y44 =>
 rd x1 r10.1.1 fun y45 =>
 Option.bind (F163 (y44, y45, ())) fun r46 =>
 bif (!r46.1.1) then (Option.bind (F164 (x1, x2, x3, r10.1.1, ())) fun r47 =>
 Jl0 (x1, r47.1.1, x3, (w64 (x4 - 1)), x5, x6))
 else (Option.bind (F165 (x1, x2, x3, r10.1.1, ())) fun r48 =>
 bif (decide ((w64 (r48.1.1 - x2)) < (w64 (x3 - r48.1.1)))) then (Option.bind (F129 (x1, x2, r48.1.1, (w64 (x4 - 1)), ())) fun r49 =>
 Jl0 (x1, (w64 (r48.1.1 + 1)), x3, (w64 (x4 - 1)), (decide ((w64 (r48.1.1 - x2)) ≥ (w64 ((w64 (x3 - x2)).tdiv 8)))), r48.1.2.1))
 else (Option.bind (F129 (x1, (w64 (r48.1.1 + 1)), x3, (w64 (x4 - 1)), ())) fun r50 =>
 Jl0 (x1, x2, r48.1.1, (w64 (x4 - 1)), (decide ((w64 (x3 - r48.1.1)) ≥ (w64 ((w64 (x3 - x2)).tdiv 8)))), r48.1.2.1))))
 else (Option.bind (F165 (x1, x2, x3, r10.1.1, ())) fun r51 =>
 bif (decide ((w64 (r51.1.1 - x2)) < (w64 (x3 - r51.1.1)))) then (Option.bind (F129 (x1, x2, r51.1.1, (w64 (x4 - 1)), ())) fun r52 =>
 Jl0 (x1, (w64 (r51.1.1 + 1)), x3, (w64 (x4 - 1)), (decide ((w64 (r51.1.1 - x2)) ≥ (w64 ((w64 (x3 - x2)).tdiv 8)))), r51.1.2.1))
 else (Option.bind (F129 (x1, (w64 (r51.1.1 + 1)), x3, (w64 (x4 - 1)), ())) fun r53 =>
 Jl0 (x1, x2, r51.1.1, (w64 (x4 - 1)), (decide ((w64 (x3 - r51.1.1)) ≥ (w64 ((w64 (x3 - x2)).tdiv 8)))), r51.1.2.1)))))
 else (bif (decide (x2 > 0)) then (rd x1 (w64 (x2 - 1)) fun y54 =>
 rd x1 r10.1.1 fun y55 =>
 Option.bind (F163 (y54, y55, ())) fun r56 =>
 bif (!r56.1.1) then (Option.bind (F164 (x1, x2, x3, r10.1.1, ())) fun r57 =>
 Jl0 (x1, r57.1.1, x3, (w64 (x4 - 1)), x5, x6))
 else (Option.bind (F165 (x1, x2, x3, r10.1.1, ())) fun r58 =>
 bif (decide ((w64 (r58.1.1 - x2)) < (w64 (x3 - r58.1.1)))) then (Option.bind (F129 (x1, x2, r58.1.1, (w64 (x4 - 1)), ())) fun r59 =>
 Jl0 (x1, (w64 (r58.1.1 + 1)), x3, (w64 (x4 - 1)), (decide ((w64 (r58.1.1 - x2)) ≥ (w64 ((w64 (x3 - x2)).tdiv 8)))), r58.1.2.1))
 else (Option.bind (F129 (x1, (w64 (r58.1.1 + 1)), x3, (w64 (x4 - 1)), ())) fun r60 =>
 Jl0 (x1, x2, r58.1.1, (w64 (x4 - 1)), (decide ((w64 (x3 - r58.1.1)) ≥ (w64 ((w64 (x3 - x2)).tdiv 8)))), r58.1.2.1))))
 else (Option.bind (F165 (x1, x2, x3, r10.1.1, ())) fun r61 =>
 bif (decide ((w64 (r61.1.1 - x2)) < (w64 (x3 - r61.1.1)))) then (Option.bind (F129 (x1, x2, r61.1.1, (w64 (x4 - 1)), ())) fun r62 =>
 Jl0 (x1, (w64 (r61.1.1 + 1)), x3, (w64 (x4 - 1)), (decide ((w64 (r61.1.1 - x2)) ≥ (w64 ((w64 (x3 - x2)).tdiv 8)))), r61.1.2.1))
 else (Option.bind (F129 (x1, (w64 (r61.1.1 + 1)), x3, (w64 (x4 - 1)), ())) fun r63 =>
 Jl0 (x1, x2, r61.1.1, (w64 (x4 - 1)), (decide ((w64 (x3 - r61.1.1)) ≥ (w64 ((w64 (x3 - x2)).tdiv 8)))), r61.1.2.1)))))
 else (bif (decide (x2 > 0)) then (rd x1 (w64 (x2 - 1)) fun y64 =>
 rd x1 r10.1.1 fun y65 =>
 Option.bind (F163 (y64, y65, ())) fun r66 =>
 bif (!r66.1.1) then (Option.bind (F164 (x1, x2, x3, r10.1.1, ())) fun r67 =>
 Jl0 (x1, r67.1.1, x3, (w64 (x4 - 1)), x5, x6))
 else (Option.bind (F165 (x1, x2, x3, r10.1.1, ())) fun r68 =>
 bif (decide ((w64 (r68.1.1 - x2)) < (w64 (x3 - r68.1.1)))) then (Option.bind (F129 (x1, x2, r68.1.1, (w64 (x4 - 1)), ())) fun r69 =>
 Jl0 (x1, (w64 (r68.1.1 + 1)), x3, (w64 (x4 - 1)), (decide ((w64 (r68.1.1 - x2)) ≥ (w64 ((w64 (x3 - x2)).tdiv 8)))), r68.1.2.1))
 else (Option.bind (F129 (x1, (w64 (r68.1.1 + 1)), x3, (w64 (x4 - 1)), ())) fun r70 =>
 Jl0 (x1, x2, r68.1.1, (w64 (x4 - 1)), (decide ((w64 (x3 - r68.1.1)) ≥ (w64 ((w64 (x3 - x2)).tdiv 8)))), r68.1.2.1))))
 else (Option.bind (F165 (x1, x2, x3, r10.1.1, ())) fun r71 =>
 bif (decide ((w64 (r71.1.1 - x2)) < (w64 (x3 - r71.1.1)))) then (Option.bind (F129 (x1, x2, r71.1.1, (w64 (x4 - 1)), ())) fun r72 =>
 Jl0 (x1, (w64 (r71.1.1 + 1)), x3, (w64 (x4 - 1)), (decide ((w64 (r71.1.1 - x2)) ≥ (w64 ((w64 (x3 - x2)).tdiv 8)))), r71.1.2.1))
 else (Option.bind (F129 (x1, (w64 (r71.1.1 + 1)), x3, (w64 (x4 - 1)), ())) fun r73 =>
 Jl0 (x1, x2, r71.1.1, (w64 (x4 - 1)), (decide ((w64 (x3 - r71.1.1)) ≥ (w64 ((w64 (x3 - x2)).tdiv 8)))), r71.1.2.1)))))
 else (bif (decide (x2 > 0)) then (rd x1 (w64 (x2 - 1)) fun y74 =>
 rd x1 r10.1.1 fun y75 =>
 Option.bind (F163 (y74, y75, ())) fun r76 =>
 bif (!r76.1.1) then (Option.bind (F164 (x1, x2, x3, r10.1.1, ())) fun r77 =>
 Jl0 (x1, r77.1.1, x3, (w64 (x4 - 1)), x5, x6))
 else (Option.bind (F165 (x1, x2, x3, r10.1.1, ())) fun r78 =>
 bif (decide ((w64 (r78.1.1 - x2)) < (w64 (x3 - r78.1.1)))) then (Option.bind (F129 (x1, x2, r78.1.1, (w64 (x4 - 1)), ())) fun r79 =>
 Jl0 (x1, (w64 (r78.1.1 + 1)), x3, (w64 (x4 - 1)), (decide ((w64 (r78.1.1 - x2)) ≥ (w64 ((w64 (x3 - x2)).tdiv 8)))), r78.1.2.1))
 else (Option.bind (F129 (x1, (w64 (r78.1.1 + 1)), x3, (w64 (x4 - 1)), ())) fun r80 =>
 Jl0 (x1, x2, r78.1.1, (w64 (x4 - 1)), (decide ((w64 (x3 - r78.1.1)) ≥ (w64 ((w64 (x3 - x2)).tdiv 8)))), r78.1.2.1))))
 else (Option.bind (F165 (x1, x2, x3, r10.1.1, ())) fun r81 =>
 bif (decide ((w64 (r81.1.1 - x2)) < (w64 (x3 - r81.1.1)))) then (Option.bind (F129 (x1, x2, r81.1.1, (w64 (x4 - 1)), ())) fun r82 =>
 Jl0 (x1, (w64 (r81.1.1 + 1)), x3, (w64 (x4 - 1)), (decide ((w64 (r81.1.1 - x2)) ≥ (w64 ((w64 (x3 - x2)).tdiv 8)))), r81.1.2.1))
 else (Option.bind (F129 (x1, (w64 (r81.1.1 + 1)), x3, (w64 (x4 - 1)), ())) fun r83 =>
 Jl0 (x1, x2, r81.1.1, (w64 (x4 - 1)), (decide ((w64 (x3 - r81.1.1)) ≥ (w64 ((w64 (x3 - x2)).tdiv 8)))), r81.1.2.1))))))
 else (Option.bind (F160 (x1, x2, x3, ())) fun r84 =>
 bif (r84.1.2.1 == 2) then (Option.bind (F161 (x1, x2, x3, ())) fun r85 =>
 bif x5 then (bif x6 then (Option.bind (F162 (x1, x2, x3, ())) fun r86 =>
 bif r86.1.1 then (some ((()), ()))
 else (bif (decide (x2 > 0)) then (rd x1 (w64 (x2 - 1)) fun y87 =>
 rd x1 (w64 ((w64 (x3 - 1)) - (w64 (r84.1.1 - x2)))) fun y88 =>
 Option.bind (F163 (y87, y88, ())) fun r89 =>
 bif (!r89.1.1) then (Option.bind (F164 (x1, x2, x3, (w64 ((w64 (x3 - 1)) - (w64 (r84.1.1 - x2)))), ())) fun r90 =>
 Jl0 (x1, r90.1.1, x3, x4, x5, x6))
 else (Option.bind (F165 (x1, x2, x3, (w64 ((w64 (x3 - 1)) - (w64 (r84.1.1 - x2)))), ())) fun r91 =>
 bif (decide ((w64 (r91.1.1 - x2)) < (w64 (x3 - r91.1.1)))) then (Option.bind (F129 (x1, x2, r91.1.1, x4, ())) fun r92 =>
 Jl0 (x1, (w64 (r91.1.1 + 1)), x3, x4, (decide ((w64 (r91.1.1 - x2)) ≥ (w64 ((w64 (x3 - x2)).tdiv 8)))), r91.1.2.1))
 else (Option.bind (F129 (x1, (w64 (r91.1.1 + 1)), x3, x4, ())) fun r93 =>
 Jl0 (x1, x2, r91.1.1, x4, (decide ((w64 (x3 - r91.1.1)) ≥ (w64 ((w64 (x3 - x2)).tdiv 8)))), r91.1.2.1))))
 else (Option.bind (F165 (x1, x2, x3, (w64 ((w64 (x3 - 1)) - (w64 (r84.1.1 - x2)))), ())) fun r94 =>
 bif (decide ((w64 (r94.1.1 - x2)) < (w64 (x3 - r94.1.1)))) then (Option.bind (F129 (x1, x2, r94.1.1, x4, ())) fun r95 =>
 Jl0 (x1, (w64 (r94.1.1 + 1)), x3, x4, (decide ((w64 (r94.1.1 - x2)) ≥ (w64 ((w64 (x3 - x2)).tdiv 8)))), r94.1.2.1))
 else (Option.bind (F129 (x1, (w64 (r94.1.1 + 1)), x3, x4, ())) fun r96 =>
 Jl0 (x1, x2, r94.1.1, x4, (decide ((w64 (x3 - r94.1.1)) ≥ (w64 ((w64 (x3 - x2)).tdiv 8)))), r94.1.2.1)))))
 else (bif (decide (x2 > 0)) then (rd x1 (w64 (x2 - 1)) fun y97 =>
 rd x1 (w64 ((w64 (x3 - 1)) - (w64 (r84.1.1 - x2)))) fun y98 =>
 Option.bind (F163 (y97, y98, ())) fun r99 =>
 bif (!r99.1.1) then (Option.bind (F164 (x1, x2, x3, (w64 ((w64 (x3 - 1)) - (w64 (r84.1.1 - x2)))), ())) fun r100 =>
 Jl0 (x1, r100.1.1, x3, x4, x5, x6))
 else (Option.bind (F165 (x1, x2, x3, (w64 ((w64 (x3 - 1)) - (w64 (r84.1.1 - x2)))), ())) fun r101 =>
 bif (decide ((w64 (r101.1.1 - x2)) < (w64 (x3 - r101.1.1)))) then (Option.bind (F129 (x1, x2, r101.1.1, x4, ())) fun r102 =>
 Jl0 (x1, (w64 (r101.1.1 + 1)), x3, x4, (decide ((w64 (r101.1.1 - x2)) ≥ (w64 ((w64 (x3 - x2)).tdiv 8)))), r101.1.2.1))
 else (Option.bind (F129 (x1, (w64 (r101.1.1 + 1)), x3, x4, ())) fun r103 =>
 Jl0 (x1, x2, r101.1.1, x4, (decide ((w64 (x3 - r101.1.1)) ≥ (w64 ((w64 (x3 - x2)).tdiv 8)))), r101.1.2.1))))
 else (Option.bind (F165 (x1, x2, x3, (w64 ((w64 (x3 - 1)) - (w64 (r84.1.1 - x2)))), ())) fun r104 =>
 bif (decide ((w64 (r104.1.1 - x2)) < (w64 (x3 - r104.1.1)))) then (Option.bind (F129 (x1, x2, r104.1.1, x4, ())) fun r105 =>
 Jl0 (x1, (w64 (r104.1.1 + 1)), x3, x4, (decide ((w64 (r104.1.1 - x2)) ≥ (w64 ((w64 (x3 - x2)).tdiv 8)))), r104.1.2.1))
 else (Option.bind (F129 (x1, (w64 (r104.1.1 + 1)), x3, x4, ())) fun r106 =>
 Jl0 (x1, x2, r104.1.1, x4, (decide ((w64 (x3 - r104.1.1)) ≥ (w64 ((w64 (x3 - x2)).tdiv 8)))), r104.1.2.1)))))
 else (bif (decide (x2 > 0)) then (rd x1 (w64 (x2 - 1)) fun y107 =>
 rd x1 (w64 ((w64 (x3 - 1)) - (w64 (r84.1.1 - x2)))) fun y108 =>
 Option.bind (F163 (y107, y108, ())) fun r109 =>
 bif (!r109.1.1) then (Option.bind (F164 (x1, x2, x3, (w64 ((w64 (x3 - 1)) - (w64 (r84.1.1 - x2)))), ())) fun r110 =>
 Jl0 (x1, r110.1.1, x3, x4, x5, x6))
 else (Option.bind (F165 (x1, x2, x3, (w64 ((w64 (x3 - 1)) - (w64 (r84.1.1 - x2)))), ())) fun r111 =>
 bif (decide ((w64 (r111.1.1 - x2)) < (w64 (x3 - r111.1.1)))) then (Option.bind (F129 (x1, x2, r111.1.1, x4, ())) fun r112 =>
 Jl0 (x1, (w64 (r111.1.1 + 1)), x3, x4, (decide ((w64 (r111.1.1 - x2)) ≥ (w64 ((w64 (x3 - x2)).tdiv 8)))), r111.1.2.1))
 else (Option.bind (F129 (x1, (w64 (r111.1.1 + 1)), x3, x4, ())) fun r113 =>
 Jl0 (x1, x2, r111.1.1, x4, (decide ((w64 (x3 - r111.1.1)) ≥ (w64 ((w64 (x3 - x2)).tdiv 8)))), r111.1.2.1))))
 else (Option.bind (F165 (x1, x2, x3, (w64 ((w64 (x3 - 1)) - (w64 (r84.1.1 - x2)))), ())) fun r114 =>
 bif (decide ((w64 (r114.1.1 - x2)) < (w64 (x3 - r114.1.1)))) then (Option.bind (F129 (x1, x2, r114.1.1, x4, ())) fun r115 =>
 Jl0 (x1, (w64 (r114.1.1 + 1)), x3, x4, (decide ((w64 (r114.1.1 - x2)) ≥ (w64 ((w64 (x3 - x2)).tdiv 8)))), r114.1.2.1))
 else (Option.bind (F129 (x1, (w64 (r114.1.1 + 1)), x3, x4, ())) fun r116 =>
 Jl0 (x1, x2, r114.1.1, x4, (decide ((w64 (x3 - r114.1.1)) ≥ (w64 ((w64 (x3 - x2)).tdiv 8)))), r114.1.2.1)))))
 else (bif x5 then (bif x6 then (bif (r84.1.2.1 == 1) then (Option.bind (F162 (x1, x2, x3, ())) fun r117 =>
 bif r117.1.1 then (some ((()), ()))
 else (bif (decide (x2 > 0)) then (rd x1 (w64 (x2 - 1)) fun y118 =>
 rd x1 r84.1.1 fun y119 =>
 Option.bind (F163 (y118, y119, ())) fun r120 =>
 bif (!r120.1.1) then (Option.bind (F164 (x1, x2, x3, r84.1.1, ())) fun r121 =>
 Jl0 (x1, r121.1.1, x3, x4, x5, x6))
 else (Option.bind (F165 (x1, x2, x3, r84.1.1, ())) fun r122 =>
 bif (decide ((w64 (r122.1.1 - x2)) < (w64 (x3 - r122.1.1)))) then (Option.bind (F129 (x1, x2, r122.1.1, x4, ())) fun r123 =>
 Jl0 (x1, (w64 (r122.1.1 + 1)), x3, x4, (decide ((w64 (r122.1.1 - x2)) ≥ (w64 ((w64 (x3 - x2)).tdiv 8)))), r122.1.2.1))
 else (Option.bind (F129 (x1, (w64 (r122.1.1 + 1)), x3, x4, ())) fun r124 =>
 Jl0 (x1, x2, r122.1.1, x4, (decide ((w64 (x3 - r122.1.1)) ≥ (w64 ((w64 (x3 - x2)).tdiv 8)))), r122.1.2.1))))
 else (Option.bind (F165 (x1, x2, x3, r84.1.1, ())) fun r125 =>
 bif (decide ((w64 (r125.1.1 - x2)) < (w64 (x3 - r125.1.1)))) then (Option.bind (F129 (x1, x2, r125.1.1, x4, ())) fun r126 =>
 Jl0 (x1, (w64 (r125.1.1 + 1)), x3, x4, (decide ((w64 (r125.1.1 - x2)) ≥ (w64 ((w64 (x3 - x2)).tdiv 8)))), r125.1.2.1))
 else (Option.bind (F129 (x1, (w64 (r125.1.1 + 1)), x3, x4, ())) fun r127 =>
 Jl0 (x1, x2, r125.1.1, x4, (decide ((w64 (x3 - r125.1.1)) ≥ (w64 ((w64 (x3 - x2)).tdiv 8)))), r125.1.2.1)))))
 else (bif (decide (x2 > 0)) then (rd x1 (w64 (x2 - 1)) fun y128 =>
 rd x1 r84.1.1 fun y129 =>
 Option.bind (F163 (y128, y129, ())) fun r130 =>
 bif (!r130.1.1) then (Option.bind (F164 (x1, x2, x3, r84.1.1, ())) fun r131 =>
 Jl0 (x1, r131.1.1, x3, x4, x5, x6))
 else (Option.bind (F165 (x1, x2, x3, r84.1.1, ())) fun r132 =>
 bif (decide ((w64 (r132.1.1 - x2)) < (w64 (x3 - r132.1.1)))) then (Option.bind (F129 (x1, x2, r132.1.1, x4, ())) fun r133 =>
 Jl0 (x1, (w64 (r132.1.1 + 1)), x3, x4, (decide ((w64 (r132.1.1 - x2)) ≥ (w64 ((w64 (x3 - x2)).tdiv 8)))), r132.1.2.1))
 else (Option.bind (F129 (x1, (w64 (r132.1.1 + 1)), x3, x4, ())) fun r134 =>
 Jl0 (x1, x2, r132.1.1, x4, (decide ((w64 (x3 - r132.1.1)) ≥ (w64 ((w64 (x3 - x2)).tdiv 8)))), r132.1.2.1))))
 else (Option.bind (F165 (x1, x2, x3, r84.1.1, ())) fun r135 =>
 bif (decide ((w64 (r135.1.1 - x2)) < (w64 (x3 - r135.1.1)))) then (Option.bind (F129 (x1, x2, r135.1.1, x4, ())) fun r136 =>
 Jl0 (x1, (w64 (r135.1.1 + 1)), x3, x4, (decide ((w64 (r135.1.1 - x2)) ≥ (w64 ((w64 (x3 - x2)).tdiv 8)))), r135.1.2.1))
 else (Option.bind (F129 (x1, (w64 (r135.1.1 + 1)), x3, x4, ())) fun r137 =>
 Jl0 (x1, x2, r135.1.1, x4, (decide ((w64 (x3 - r135.1.1)) ≥ (w64 ((w64 (x3 - x2)).tdiv 8)))), r135.1.2.1)))))
 else (bif (decide (x2 > 0)) then (rd x1 (w64 (x2 - 1)) fun y138 =>
 rd x1 r84.1.1 fun y139 =>
 Option.bind (F163 (y138, y139, ())) fun r140 =>
 bif (!r140.1.1) then (Option.bind (F164 (x1, x2, x3, r84.1.1, ())) fun r141 =>
 Jl0 (x1, r141.1.1, x3, x4, x5, x6))
 else (Option.bind (F165 (x1, x2, x3, r84.1.1, ())) fun r142 =>
 bif (decide ((w64 (r142.1.1 - x2)) < (w64 (x3 - r142.1.1)))) then (Option.bind (F129 (x1, x2, r142.1.1, x4, ())) fun r143 =>
 Jl0 (x1, (w64 (r142.1.1 + 1)), x3, x4, (decide ((w64 (r142.1.1 - x2)) ≥ (w64 ((w64 (x3 - x2)).tdiv 8)))), r142.1.2.1))
 else (Option.bind (F129 (x1, (w64 (r142.1.1 + 1)), x3, x4, ())) fun r144 =>
 Jl0 (x1, x2, r142.1.1, x4, (decide ((w64 (x3 - r142.1.1)) ≥ (w64 ((w64 (x3 - x2)).tdiv 8)))), r142.1.2.1))))
 else (Option.bind (F165 (x1, x2, x3, r84.1.1, ())) fun r145 =>
 bif (decide ((w64 (r145.1.1 - x2)) < (w64 (x3 - r145.1.1)))) then (Option.bind (F129 (x1, x2, r145.1.1, x4, ())) fun r146 =>
 Jl0 (x1, (w64 (r145.1.1 + 1)), x3, x4, (decide ((w64 (r145.1.1 - x2)) ≥ (w64 ((w64 (x3 - x2)).tdiv 8)))), r145.1.2.1))
 else (Option.bind (F129 (x1, (w64 (r145.1.1 + 1)), x3, x4, ())) fun r147 =>
 Jl0 (x1, x2, r145.1.1, x4, (decide ((w64 (x3 - r145.1.1)) ≥ (w64 ((w64 (x3 - x2)).tdiv 8)))), r145.1.2.1)))))
 else (bif (decide (x2 > 0)) then (rd x1 (w64 (x2 - 1)) fun y148 =>
 rd x1 r84.1.1 fun y149 =>
 Option.bind (F163 (y148, y149, ())) fun r150 =>
 bif (!r150.1.1) then (Option.bind (F164 (x1, x2, x3, r84.1.1, ())) fun r151 =>
 Jl0 (x1, r151.1.1, x3, x4, x5, x6))
 else (Option.bind (F165 (x1, x2, x3, r84.1.1, ())) fun r152 =>
 bif (decide ((w64 (r152.1.1 - x2)) < (w64 (x3 - r152.1.1)))) then (Option.bind (F129 (x1, x2, r152.1.1, x4, ())) fun r153 =>
 Jl0 (x1, (w64 (r152.1.1 + 1)), x3, x4, (decide ((w64 (r152.1.1 - x2)) ≥ (w64 ((w64 (x3 - x2)).tdiv 8)))), r152.1.2.1))
 else (Option.bind (F129 (x1, (w64 (r152.1.1 + 1)), x3, x4, ())) fun r154 =>
 Jl0 (x1, x2, r152.1.1, x4, (decide ((w64 (x3 - r152.1.1)) ≥ (w64 ((w64 (x3 - x2)).tdiv 8)))), r152.1.2.1))))
 else (Option.bind (F165 (x1, x2, x3, r84.1.1, ())) fun r155 =>
 bif (decide ((w64 (r155.1.1 - x2)) < (w64 (x3 - r155.1.1)))) then (Option.bind (F129 (x1, x2, r155.1.1, x4, ())) fun r156 =>
 Jl0 (x1, (w64 (r155.1.1 + 1)), x3, x4, (decide ((w64 (r155.1.1 - x2)) ≥ (w64 ((w64 (x3 - x2)).tdiv 8)))), r155.1.2.1))
 else (Option.bind (F129 (x1, (w64 (r155.1.1 + 1)), x3, x4, ())) fun r157 =>
 Jl0 (x1, x2, r155.1.1, x4, (decide ((w64 (x3 - r155.1.1)) ≥ (w64 ((w64 (x3 - x2)).tdiv 8)))), r155.1.2.1))))))))
def f129_b (F157 : ((List (List UInt8)) × Int × Int × Unit) → Option ((Unit) × (Unit))) (F158 : ((List (List UInt8)) × Int × Int × Unit) → Option ((Unit) × (Unit))) (F159 : ((List (List UInt8)) × Int × Int × Unit) → Option ((Unit) × (Unit))) (F160 : ((List (List UInt8)) × Int × Int × Unit) → Option ((Int × Int × Unit) × (Unit))) (F161 : ((List (List UInt8)) × Int × Int × Unit) → Option ((Unit) × (Unit))) (F162 : ((List (List UInt8)) × Int × Int × Unit) → Option ((Bool × Unit) × (Unit))) (F163 : ((List UInt8) × (List UInt8) × Unit) → Option ((Bool × Unit) × (Unit))) (F164 : ((List (List UInt8)) × Int × Int × Int × Unit) → Option ((Int × Unit) × (Unit))) (F165 : ((List (List UInt8)) × Int × Int × Int × Unit) → Option ((Int × Bool × Unit) × (Unit))) (F129 : ((List (List UInt8)) × Int × Int × Int × Unit) → Option ((Unit) × (Unit))) (Jl0 : f129_Vl0 → Option ((Unit) × (Unit))) (a0 : (List (List UInt8))) (a1 : Int) (a2 : Int) (a3 : Int) : Option ((Unit) × (Unit)) :=
 Jl0 (a0, a1, a2, a3, true, true)
def f129_Ll0 (k : Nat) (F157 : ((List (List UInt8)) × Int × Int × Unit) → Option ((Unit) × (Unit))) (F158 : ((List (List UInt8)) × Int × Int × Unit) → Option ((Unit) × (Unit))) (F159 : ((List (List UInt8)) × Int × Int × Unit) → Option ((Unit) × (Unit))) (F160 : ((List (List UInt8)) × Int × Int × Unit) → Option ((Int × Int × Unit) × (Unit))) (F161 : ((List (List UInt8)) × Int × Int × Unit) → Option ((Unit) × (Unit))) (F162 : ((List (List UInt8)) × Int × Int × Unit) → Option ((Bool × Unit) × (Unit))) (F163 : ((List UInt8) × (List UInt8) × Unit) → Option ((Bool × Unit) × (Unit))) (F164 : ((List (List UInt8)) × Int × Int × Int × Unit) → Option ((Int × Unit) × (Unit))) (F165 : ((List (List UInt8)) × Int × Int × Int × Unit) → Option ((Int × Bool × Unit) × (Unit))) (F129 : ((List (List UInt8)) × Int × Int × Int × Unit) → Option ((Unit) × (Unit)))  : f129_Vl0 → Option ((Unit) × (Unit)) := loopI (fun Jl0 => f129_bl0 F157 F158 F159 F160 F161 F162 F163 F164 F165 F129 Jl0) k
def f129_I (k : Nat) (F157 : ((List (List UInt8)) × Int × Int × Unit) → Option ((Unit) × (Unit))) (F158 : ((List (List UInt8)) × Int × Int × Unit) → Option ((Unit) × (Unit))) (F159 : ((List (List UInt8)) × Int × Int × Unit) → Option ((Unit) × (Unit))) (F160 : ((List (List UInt8)) × Int × Int × Unit) → Option ((Int × Int × Unit) × (Unit))) (F161 : ((List (List UInt8)) × Int × Int × Unit) → Option ((Unit) × (Unit))) (F162 : ((List (List UInt8)) × Int × Int × Unit) → Option ((Bool × Unit) × (Unit))) (F163 : ((List UInt8) × (List UInt8) × Unit) → Option ((Bool × Unit) × (Unit))) (F164 : ((List (List UInt8)) × Int × Int × Int × Unit) → Option ((Int × Unit) × (Unit))) (F165 : ((List (List UInt8)) × Int × Int × Int × Unit) → Option ((Int × Bool × Unit) × (Unit))) (F129 : ((List (List UInt8)) × Int × Int × Int × Unit) → Option ((Unit) × (Unit))) (a0 : (List (List UInt8))) (a1 : Int) (a2 : Int) (a3 : Int) : Option ((Unit) × (Unit)) := f129_b F157 F158 F159 F160 F161 F162 F163 F164 F165 F129 (f129_Ll0 k F157 F158 F159 F160 F161 F162 F163 F164 F165 F129) a0 a1 a2 a3
theorem f129_el0 (k : Nat) (F157 : ((List (List UInt8)) × Int × Int × Unit) → Option ((Unit) × (Unit))) (F158 : ((List (List UInt8)) × Int × Int × Unit) → Option ((Unit) × (Unit))) (F159 : ((List (List UInt8)) × Int × Int × Unit) → Option ((Unit) × (Unit))) (F160 : ((List (List UInt8)) × Int × Int × Unit) → Option ((Int × Int × Unit) × (Unit))) (F161 : ((List (List UInt8)) × Int × Int × Unit) → Option ((Unit) × (Unit))) (F162 : ((List (List UInt8)) × Int × Int × Unit) → Option ((Bool × Unit) × (Unit))) (F163 : ((List UInt8) × (List UInt8) × Unit) → Option ((Bool × Unit) × (Unit))) (F164 : ((List (List UInt8)) × Int × Int × Int × Unit) → Option ((Int × Unit) × (Unit))) (F165 : ((List (List UInt8)) × Int × Int × Int × Unit) → Option ((Int × Bool × Unit) × (Unit))) (F129 : ((List (List UInt8)) × Int × Int × Int × Unit) → Option ((Unit) × (Unit))) (Al0 : Jump ((Unit) × (Unit))) (v : f129_Vl0) : rawBody (f129_cx F157 F158 F159 F160 F161 F162 F163 F164 F165 F129) f129_an k (bodyOf Tryz.f129) [1, 1, 0] [] (vend (f129_cx F157 F158 F159 F160 F161 F162 F163 F164 F165 F129) Tryz.f129 [.val (.list .str), .val (.int .i64), .val (.int .i64), .val (.int .i64)] []) Al0 (f129_Tl0 v) (f129_Hl0 v) =
 f129_bl0 F157 F158 F159 F160 F161 F162 F163 F164 F165 F129 (fun v => Al0 (f129_Tl0 v) (f129_Hl0 v)) v := by kernel_rfl
theorem f129_ll0 (k : Nat) (F157 : ((List (List UInt8)) × Int × Int × Unit) → Option ((Unit) × (Unit))) (F158 : ((List (List UInt8)) × Int × Int × Unit) → Option ((Unit) × (Unit))) (F159 : ((List (List UInt8)) × Int × Int × Unit) → Option ((Unit) × (Unit))) (F160 : ((List (List UInt8)) × Int × Int × Unit) → Option ((Int × Int × Unit) × (Unit))) (F161 : ((List (List UInt8)) × Int × Int × Unit) → Option ((Unit) × (Unit))) (F162 : ((List (List UInt8)) × Int × Int × Unit) → Option ((Bool × Unit) × (Unit))) (F163 : ((List UInt8) × (List UInt8) × Unit) → Option ((Bool × Unit) × (Unit))) (F164 : ((List (List UInt8)) × Int × Int × Int × Unit) → Option ((Int × Unit) × (Unit))) (F165 : ((List (List UInt8)) × Int × Int × Int × Unit) → Option ((Int × Bool × Unit) × (Unit))) (F129 : ((List (List UInt8)) × Int × Int × Int × Unit) → Option ((Unit) × (Unit))) (v : f129_Vl0) : rawLoop (f129_cx F157 F158 F159 F160 F161 F162 F163 F164 F165 F129) f129_an k (bodyOf Tryz.f129) [1, 1, 0] [] (vend (f129_cx F157 F158 F159 F160 F161 F162 F163 F164 F165 F129) Tryz.f129 [.val (.list .str), .val (.int .i64), .val (.int .i64), .val (.int .i64)] []) k (f129_Tl0 v) (f129_Hl0 v) = f129_Ll0 k F157 F158 F159 F160 F161 F162 F163 F164 F165 F129 v :=
 rawLoop_eq (bI := fun Jl0 => f129_bl0 F157 F158 F159 F160 F161 F162 F163 F164 F165 F129 Jl0) f129_Tl0 f129_Hl0 (fun Al0 v => (f129_el0 k F157 F158 F159 F160 F161 F162 F163 F164 F165 F129 Al0 v)) k v
theorem f129_e (k : Nat) (F157 : ((List (List UInt8)) × Int × Int × Unit) → Option ((Unit) × (Unit))) (F158 : ((List (List UInt8)) × Int × Int × Unit) → Option ((Unit) × (Unit))) (F159 : ((List (List UInt8)) × Int × Int × Unit) → Option ((Unit) × (Unit))) (F160 : ((List (List UInt8)) × Int × Int × Unit) → Option ((Int × Int × Unit) × (Unit))) (F161 : ((List (List UInt8)) × Int × Int × Unit) → Option ((Unit) × (Unit))) (F162 : ((List (List UInt8)) × Int × Int × Unit) → Option ((Bool × Unit) × (Unit))) (F163 : ((List UInt8) × (List UInt8) × Unit) → Option ((Bool × Unit) × (Unit))) (F164 : ((List (List UInt8)) × Int × Int × Int × Unit) → Option ((Int × Unit) × (Unit))) (F165 : ((List (List UInt8)) × Int × Int × Int × Unit) → Option ((Int × Bool × Unit) × (Unit))) (F129 : ((List (List UInt8)) × Int × Int × Int × Unit) → Option ((Unit) × (Unit))) (x : ((List (List UInt8)) × Int × Int × Int × Unit)) : vfun (f129_cx F157 F158 F159 F160 F161 F162 F163 F164 F165 F129) f129_an k Tryz.f129 [.val (.list .str), .val (.int .i64), .val (.int .i64), .val (.int .i64)] [] x =
 f129_b F157 F158 F159 F160 F161 F162 F163 F164 F165 F129 (fun v => rawLoop (f129_cx F157 F158 F159 F160 F161 F162 F163 F164 F165 F129) f129_an k (bodyOf Tryz.f129) [1, 1, 0] [] (vend (f129_cx F157 F158 F159 F160 F161 F162 F163 F164 F165 F129) Tryz.f129 [.val (.list .str), .val (.int .i64), .val (.int .i64), .val (.int .i64)] []) k (f129_Tl0 v) (f129_Hl0 v)) x.1 x.2.1 x.2.2.1 x.2.2.2.1 := by kernel_rfl
theorem f129_eq (k : Nat) (F157 : ((List (List UInt8)) × Int × Int × Unit) → Option ((Unit) × (Unit))) (F158 : ((List (List UInt8)) × Int × Int × Unit) → Option ((Unit) × (Unit))) (F159 : ((List (List UInt8)) × Int × Int × Unit) → Option ((Unit) × (Unit))) (F160 : ((List (List UInt8)) × Int × Int × Unit) → Option ((Int × Int × Unit) × (Unit))) (F161 : ((List (List UInt8)) × Int × Int × Unit) → Option ((Unit) × (Unit))) (F162 : ((List (List UInt8)) × Int × Int × Unit) → Option ((Bool × Unit) × (Unit))) (F163 : ((List UInt8) × (List UInt8) × Unit) → Option ((Bool × Unit) × (Unit))) (F164 : ((List (List UInt8)) × Int × Int × Int × Unit) → Option ((Int × Unit) × (Unit))) (F165 : ((List (List UInt8)) × Int × Int × Int × Unit) → Option ((Int × Bool × Unit) × (Unit))) (F129 : ((List (List UInt8)) × Int × Int × Int × Unit) → Option ((Unit) × (Unit))) (x : ((List (List UInt8)) × Int × Int × Int × Unit)) : vfun (f129_cx F157 F158 F159 F160 F161 F162 F163 F164 F165 F129) f129_an k Tryz.f129 [.val (.list .str), .val (.int .i64), .val (.int .i64), .val (.int .i64)] [] x = f129_I k F157 F158 F159 F160 F161 F162 F163 F164 F165 F129 x.1 x.2.1 x.2.2.1 x.2.2.2.1 :=
 ((f129_e k F157 F158 F159 F160 F161 F162 F163 F164 F165 F129 x).trans (congrArg (fun (J : f129_Vl0 → Option ((Unit) × (Unit))) => f129_b F157 F158 F159 F160 F161 F162 F163 F164 F165 F129 J x.1 x.2.1 x.2.2.1 x.2.2.2.1) (funext (f129_ll0 k F157 F158 F159 F160 F161 F162 F163 F164 F165 F129))))
theorem f129_ok (k : Nat) (F157 : ((List (List UInt8)) × Int × Int × Unit) → Option ((Unit) × (Unit))) (F158 : ((List (List UInt8)) × Int × Int × Unit) → Option ((Unit) × (Unit))) (F159 : ((List (List UInt8)) × Int × Int × Unit) → Option ((Unit) × (Unit))) (F160 : ((List (List UInt8)) × Int × Int × Unit) → Option ((Int × Int × Unit) × (Unit))) (F161 : ((List (List UInt8)) × Int × Int × Unit) → Option ((Unit) × (Unit))) (F162 : ((List (List UInt8)) × Int × Int × Unit) → Option ((Bool × Unit) × (Unit))) (F163 : ((List UInt8) × (List UInt8) × Unit) → Option ((Bool × Unit) × (Unit))) (F164 : ((List (List UInt8)) × Int × Int × Int × Unit) → Option ((Int × Unit) × (Unit))) (F165 : ((List (List UInt8)) × Int × Int × Int × Unit) → Option ((Int × Bool × Unit) × (Unit))) (F129 : ((List (List UInt8)) × Int × Int × Int × Unit) → Option ((Unit) × (Unit))) (h157 : FnOk Tryz.prog 157 ⟨[.val (.list .str), .val (.int .i64), .val (.int .i64)], [], F157⟩) (h158 : FnOk Tryz.prog 158 ⟨[.val (.list .str), .val (.int .i64), .val (.int .i64)], [], F158⟩) (h159 : FnOk Tryz.prog 159 ⟨[.val (.list .str), .val (.int .i64), .val (.int .i64)], [], F159⟩) (h160 : FnOk Tryz.prog 160 ⟨[.val (.list .str), .val (.int .i64), .val (.int .i64)], [(.int .i64), (.int .i64)], F160⟩) (h161 : FnOk Tryz.prog 161 ⟨[.val (.list .str), .val (.int .i64), .val (.int .i64)], [], F161⟩) (h162 : FnOk Tryz.prog 162 ⟨[.val (.list .str), .val (.int .i64), .val (.int .i64)], [.bool], F162⟩) (h163 : FnOk Tryz.prog 163 ⟨[.val .str, .val .str], [.bool], F163⟩) (h164 : FnOk Tryz.prog 164 ⟨[.val (.list .str), .val (.int .i64), .val (.int .i64), .val (.int .i64)], [(.int .i64)], F164⟩) (h165 : FnOk Tryz.prog 165 ⟨[.val (.list .str), .val (.int .i64), .val (.int .i64), .val (.int .i64)], [(.int .i64), .bool], F165⟩) (h129 : FnOk Tryz.prog 129 ⟨[.val (.list .str), .val (.int .i64), .val (.int .i64), .val (.int .i64)], [], F129⟩) : FnOk Tryz.prog 129 ⟨[.val (.list .str), .val (.int .i64), .val (.int .i64), .val (.int .i64)], [], fun x => f129_I k F157 F158 F159 F160 F161 F162 F163 F164 F165 F129 x.1 x.2.1 x.2.2.1 x.2.2.2.1⟩ :=
 (fn_ok (an := f129_an) (k := k) follows_mixed tys_ok ⟨look_fn (AllFn.cons h157 (AllFn.cons h158 (AllFn.cons h159 (AllFn.cons h160 (AllFn.cons h161 (AllFn.cons h162 (AllFn.cons h163 (AllFn.cons h164 (AllFn.cons h165 (AllFn.cons h129 (AllFn.nil))))))))))), look_new AllNew.nil⟩ Tryz.func129 rfl rfl rfl).of (funext (f129_eq k F157 F158 F159 F160 F161 F162 F163 F164 F165 F129))
/-! (joinlearn/fraction.Fraction).Compare -/
abbrev f128_cx (F155 : ((Bool × (List Int)) × (Bool × (List Int)) × Unit) → Option (((Bool × (List Int)) × Unit) × (Unit))) (F156 : ((Bool × (List Int)) × (Bool × (List Int)) × Unit) → Option ((Int × Unit) × (Unit))) : Cx := ⟨look tys, look [(155, ⟨[.val (.pair .bool (.list (.int .u64))), .val (.pair .bool (.list (.int .u64)))], [(.pair .bool (.list (.int .u64)))], F155⟩), (156, ⟨[.val (.pair .bool (.list (.int .u64))), .val (.pair .bool (.list (.int .u64)))], [(.int .i64)], F156⟩)], 16, look [], [], []⟩
def f128_an : Ann := ⟨look [], look []⟩
def f128_b (F155 : ((Bool × (List Int)) × (Bool × (List Int)) × Unit) → Option (((Bool × (List Int)) × Unit) × (Unit))) (F156 : ((Bool × (List Int)) × (Bool × (List Int)) × Unit) → Option ((Int × Unit) × (Unit)))  (a0 : ((Bool × (List Int)) × (Bool × (List Int)))) (a1 : ((Bool × (List Int)) × (Bool × (List Int)))) : Option ((Int × Unit) × (Unit)) :=
 Option.bind (F155 (a0.1, a1.2, ())) fun r1 =>
 Option.bind (F155 (a1.1, a0.2, ())) fun r2 =>
 Option.bind (F156 (r1.1.1, r2.1.1, ())) fun r3 =>
 some ((r3.1.1, ()), ())
def f128_I (k : Nat) (F155 : ((Bool × (List Int)) × (Bool × (List Int)) × Unit) → Option (((Bool × (List Int)) × Unit) × (Unit))) (F156 : ((Bool × (List Int)) × (Bool × (List Int)) × Unit) → Option ((Int × Unit) × (Unit))) (a0 : ((Bool × (List Int)) × (Bool × (List Int)))) (a1 : ((Bool × (List Int)) × (Bool × (List Int)))) : Option ((Int × Unit) × (Unit)) := f128_b F155 F156 a0 a1
theorem f128_eq (k : Nat) (F155 : ((Bool × (List Int)) × (Bool × (List Int)) × Unit) → Option (((Bool × (List Int)) × Unit) × (Unit))) (F156 : ((Bool × (List Int)) × (Bool × (List Int)) × Unit) → Option ((Int × Unit) × (Unit))) (x : (((Bool × (List Int)) × (Bool × (List Int))) × ((Bool × (List Int)) × (Bool × (List Int))) × Unit)) : vfun (f128_cx F155 F156) f128_an k Tryz.f128 [.val (.pair (.pair .bool (.list (.int .u64))) (.pair .bool (.list (.int .u64)))), .val (.pair (.pair .bool (.list (.int .u64))) (.pair .bool (.list (.int .u64))))] [(.int .i64)] x = f128_I k F155 F156 x.1 x.2.1 := by kernel_rfl
theorem f128_ok (k : Nat) (F155 : ((Bool × (List Int)) × (Bool × (List Int)) × Unit) → Option (((Bool × (List Int)) × Unit) × (Unit))) (F156 : ((Bool × (List Int)) × (Bool × (List Int)) × Unit) → Option ((Int × Unit) × (Unit))) (h155 : FnOk Tryz.prog 155 ⟨[.val (.pair .bool (.list (.int .u64))), .val (.pair .bool (.list (.int .u64)))], [(.pair .bool (.list (.int .u64)))], F155⟩) (h156 : FnOk Tryz.prog 156 ⟨[.val (.pair .bool (.list (.int .u64))), .val (.pair .bool (.list (.int .u64)))], [(.int .i64)], F156⟩) : FnOk Tryz.prog 128 ⟨[.val (.pair (.pair .bool (.list (.int .u64))) (.pair .bool (.list (.int .u64)))), .val (.pair (.pair .bool (.list (.int .u64))) (.pair .bool (.list (.int .u64))))], [(.int .i64)], fun x => f128_I k F155 F156 x.1 x.2.1⟩ :=
 (fn_ok (an := f128_an) (k := k) follows_mixed tys_ok ⟨look_fn (AllFn.cons h155 (AllFn.cons h156 (AllFn.nil))), look_new AllNew.nil⟩ Tryz.func128 rfl rfl rfl).of (funext (f128_eq k F155 F156))
/-! joinlearn/fraction.Read -/
abbrev f127_cx (F143 : ((List UInt8) × (List UInt8) × Unit) → Option (((List UInt8) × (List UInt8) × Bool × Unit) × (Unit))) (F154 : ((List UInt8) × Unit) → Option (((Bool × (List Int)) × Unit) × (Unit))) : Cx := ⟨look tys, look [(143, ⟨[.val .str, .val .str], [.str, .str, .bool], F143⟩), (154, ⟨[.val .str], [(.pair .bool (.list (.int .u64)))], F154⟩)], 19, look [], [], []⟩
def f127_an : Ann := ⟨look [], look []⟩
def f127_b (F143 : ((List UInt8) × (List UInt8) × Unit) → Option (((List UInt8) × (List UInt8) × Bool × Unit) × (Unit))) (F154 : ((List UInt8) × Unit) → Option (((Bool × (List Int)) × Unit) × (Unit)))  (a0 : (List UInt8)) : Option ((((Bool × (List Int)) × (Bool × (List Int))) × Unit) × (Unit)) :=
 Option.bind (F143 (a0, ([47] : List UInt8), ())) fun r1 =>
 bif (!r1.1.2.2.1) then (Option.bind (F154 (r1.1.1, ())) fun r2 =>
 Option.bind (F154 (([49] : List UInt8), ())) fun r3 =>
 some (((r2.1.1, r3.1.1), ()), ()))
 else (Option.bind (F154 (r1.1.1, ())) fun r4 =>
 Option.bind (F154 (r1.1.2.1, ())) fun r5 =>
 some (((r4.1.1, r5.1.1), ()), ()))
def f127_I (k : Nat) (F143 : ((List UInt8) × (List UInt8) × Unit) → Option (((List UInt8) × (List UInt8) × Bool × Unit) × (Unit))) (F154 : ((List UInt8) × Unit) → Option (((Bool × (List Int)) × Unit) × (Unit))) (a0 : (List UInt8)) : Option ((((Bool × (List Int)) × (Bool × (List Int))) × Unit) × (Unit)) := f127_b F143 F154 a0
theorem f127_eq (k : Nat) (F143 : ((List UInt8) × (List UInt8) × Unit) → Option (((List UInt8) × (List UInt8) × Bool × Unit) × (Unit))) (F154 : ((List UInt8) × Unit) → Option (((Bool × (List Int)) × Unit) × (Unit))) (x : ((List UInt8) × Unit)) : vfun (f127_cx F143 F154) f127_an k Tryz.f127 [.val .str] [(.pair (.pair .bool (.list (.int .u64))) (.pair .bool (.list (.int .u64))))] x = f127_I k F143 F154 x.1 := by kernel_rfl
theorem f127_ok (k : Nat) (F143 : ((List UInt8) × (List UInt8) × Unit) → Option (((List UInt8) × (List UInt8) × Bool × Unit) × (Unit))) (F154 : ((List UInt8) × Unit) → Option (((Bool × (List Int)) × Unit) × (Unit))) (h143 : FnOk Tryz.prog 143 ⟨[.val .str, .val .str], [.str, .str, .bool], F143⟩) (h154 : FnOk Tryz.prog 154 ⟨[.val .str], [(.pair .bool (.list (.int .u64)))], F154⟩) : FnOk Tryz.prog 127 ⟨[.val .str], [(.pair (.pair .bool (.list (.int .u64))) (.pair .bool (.list (.int .u64))))], fun x => f127_I k F143 F154 x.1⟩ :=
 (fn_ok (an := f127_an) (k := k) follows_mixed tys_ok ⟨look_fn (AllFn.cons h143 (AllFn.cons h154 (AllFn.nil))), look_new AllNew.nil⟩ Tryz.func127 rfl rfl rfl).of (funext (f127_eq k F143 F154))
/-! joinlearn/rational.valid -/
abbrev f126_cx (F152 : ((List (List UInt8)) × (Option (Nat × Unit)) × Unit) → Option ((Bool × Unit) × (Unit))) : Cx := ⟨look tys, look [(152, ⟨[.val (.list .str), .val (.fn .unit)], [.bool], F152⟩)], 6, look [], [], []⟩
def f126_an : Ann := ⟨look [], look []⟩
def f126_b (F152 : ((List (List UInt8)) × (Option (Nat × Unit)) × Unit) → Option ((Bool × Unit) × (Unit)))  (a0 : (List (List UInt8))) : Option ((Bool × Unit) × (Unit)) :=
 Option.bind (F152 (a0, (some (153, ())), ())) fun r1 =>
 some (((!r1.1.1), ()), ())
def f126_I (k : Nat) (F152 : ((List (List UInt8)) × (Option (Nat × Unit)) × Unit) → Option ((Bool × Unit) × (Unit))) (a0 : (List (List UInt8))) : Option ((Bool × Unit) × (Unit)) := f126_b F152 a0
theorem f126_eq (k : Nat) (F152 : ((List (List UInt8)) × (Option (Nat × Unit)) × Unit) → Option ((Bool × Unit) × (Unit))) (x : ((List (List UInt8)) × Unit)) : vfun (f126_cx F152) f126_an k Tryz.f126 [.val (.list .str)] [.bool] x = f126_I k F152 x.1 := by kernel_rfl
theorem f126_ok (k : Nat) (F152 : ((List (List UInt8)) × (Option (Nat × Unit)) × Unit) → Option ((Bool × Unit) × (Unit))) (h152 : FnOk Tryz.prog 152 ⟨[.val (.list .str), .val (.fn .unit)], [.bool], F152⟩) : FnOk Tryz.prog 126 ⟨[.val (.list .str)], [.bool], fun x => f126_I k F152 x.1⟩ :=
 (fn_ok (an := f126_an) (k := k) follows_mixed tys_ok ⟨look_fn (AllFn.cons h152 (AllFn.nil)), look_new AllNew.nil⟩ Tryz.func126 rfl rfl rfl).of (funext (f126_eq k F152))
/-! (joinlearn/joinlearnref02.Frac).Zero -/
abbrev f125_cx : Cx := ⟨look tys, look [], 8, look [], [], []⟩
def f125_an : Ann := ⟨look [], look []⟩
def f125_b  (a0 : ((Bool × (List Int)) × (Bool × (List Int)))) : Option ((Bool × Unit) × (Unit)) :=
 some ((((a0.1.2.length : Int) == 0), ()), ())
def f125_I (k : Nat) (a0 : ((Bool × (List Int)) × (Bool × (List Int)))) : Option ((Bool × Unit) × (Unit)) := f125_b a0
theorem f125_eq (k : Nat) (x : (((Bool × (List Int)) × (Bool × (List Int))) × Unit)) : vfun (f125_cx) f125_an k Tryz.f125 [.val (.pair (.pair .bool (.list (.int .i64))) (.pair .bool (.list (.int .i64))))] [.bool] x = f125_I k x.1 := by kernel_rfl
theorem f125_ok (k : Nat) : FnOk Tryz.prog 125 ⟨[.val (.pair (.pair .bool (.list (.int .i64))) (.pair .bool (.list (.int .i64))))], [.bool], fun x => f125_I k x.1⟩ :=
 (fn_ok (an := f125_an) (k := k) follows_mixed tys_ok ⟨look_fn AllFn.nil, look_new AllNew.nil⟩ Tryz.func125 rfl rfl rfl).of (funext (f125_eq k))
/-! (joinlearn/joinlearnref01.Big).Sub -/
abbrev f124_cx (F150 : ((Bool × (List Int)) × Unit) → Option (((Bool × (List Int)) × Unit) × (Unit))) (F151 : ((Bool × (List Int)) × (Bool × (List Int)) × Unit) → Option (((Bool × (List Int)) × Unit) × (Unit))) : Cx := ⟨look tys, look [(150, ⟨[.val (.pair .bool (.list (.int .i64)))], [(.pair .bool (.list (.int .i64)))], F150⟩), (151, ⟨[.val (.pair .bool (.list (.int .i64))), .val (.pair .bool (.list (.int .i64)))], [(.pair .bool (.list (.int .i64)))], F151⟩)], 9, look [], [], []⟩
def f124_an : Ann := ⟨look [], look []⟩
def f124_b (F150 : ((Bool × (List Int)) × Unit) → Option (((Bool × (List Int)) × Unit) × (Unit))) (F151 : ((Bool × (List Int)) × (Bool × (List Int)) × Unit) → Option (((Bool × (List Int)) × Unit) × (Unit)))  (a0 : (Bool × (List Int))) (a1 : (Bool × (List Int))) : Option (((Bool × (List Int)) × Unit) × (Unit)) :=
 Option.bind (F150 (a1, ())) fun r1 =>
 Option.bind (F151 (a0, r1.1.1, ())) fun r2 =>
 some ((r2.1.1, ()), ())
def f124_I (k : Nat) (F150 : ((Bool × (List Int)) × Unit) → Option (((Bool × (List Int)) × Unit) × (Unit))) (F151 : ((Bool × (List Int)) × (Bool × (List Int)) × Unit) → Option (((Bool × (List Int)) × Unit) × (Unit))) (a0 : (Bool × (List Int))) (a1 : (Bool × (List Int))) : Option (((Bool × (List Int)) × Unit) × (Unit)) := f124_b F150 F151 a0 a1
theorem f124_eq (k : Nat) (F150 : ((Bool × (List Int)) × Unit) → Option (((Bool × (List Int)) × Unit) × (Unit))) (F151 : ((Bool × (List Int)) × (Bool × (List Int)) × Unit) → Option (((Bool × (List Int)) × Unit) × (Unit))) (x : ((Bool × (List Int)) × (Bool × (List Int)) × Unit)) : vfun (f124_cx F150 F151) f124_an k Tryz.f124 [.val (.pair .bool (.list (.int .i64))), .val (.pair .bool (.list (.int .i64)))] [(.pair .bool (.list (.int .i64)))] x = f124_I k F150 F151 x.1 x.2.1 := by kernel_rfl
theorem f124_ok (k : Nat) (F150 : ((Bool × (List Int)) × Unit) → Option (((Bool × (List Int)) × Unit) × (Unit))) (F151 : ((Bool × (List Int)) × (Bool × (List Int)) × Unit) → Option (((Bool × (List Int)) × Unit) × (Unit))) (h150 : FnOk Tryz.prog 150 ⟨[.val (.pair .bool (.list (.int .i64)))], [(.pair .bool (.list (.int .i64)))], F150⟩) (h151 : FnOk Tryz.prog 151 ⟨[.val (.pair .bool (.list (.int .i64))), .val (.pair .bool (.list (.int .i64)))], [(.pair .bool (.list (.int .i64)))], F151⟩) : FnOk Tryz.prog 124 ⟨[.val (.pair .bool (.list (.int .i64))), .val (.pair .bool (.list (.int .i64)))], [(.pair .bool (.list (.int .i64)))], fun x => f124_I k F150 F151 x.1 x.2.1⟩ :=
 (fn_ok (an := f124_an) (k := k) follows_mixed tys_ok ⟨look_fn (AllFn.cons h150 (AllFn.cons h151 (AllFn.nil))), look_new AllNew.nil⟩ Tryz.func124 rfl rfl rfl).of (funext (f124_eq k F150 F151))
end Go.JL
