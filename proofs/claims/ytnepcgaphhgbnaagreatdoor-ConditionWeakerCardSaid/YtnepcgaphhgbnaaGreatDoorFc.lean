/- Functions of the program as plain Lean functions. Printed by a program of mine; checked by the kernel. -/
import Derived.Test.YtnepcgaphhgbnaaGreatDoorFa
set_option linter.unusedVariables false
set_option maxRecDepth 100000
namespace Go.JL
open Go.Proofs
/-! internal/strconv.ParseUint -/
abbrev f203_cx (F215 : (Int × Unit) → Option ((Int × Unit) × (Unit))) (F216 : ((List UInt8) × Unit) → Option ((Bool × Unit) × (Unit))) : Cx := ⟨look tys, look [(215, ⟨[.val (.int .u8)], [(.int .u8)], F215⟩), (216, ⟨[.val .str], [.bool], F216⟩)], 172, look [], [], []⟩
def f203_an : Ann := ⟨look [(3, ⟨[1, 8, 9, 10, 11, 12, 13, 99, 100, 101], [], []⟩)], look []⟩
abbrev f203_Vl3 : Type := Int × Bool × (List UInt8) × Int × Int × Bool × Int × (List Int) × Int × Int
def f203_Tl3 (v : f203_Vl3) : Nat → LV := tbl [(1, .c (.s (.int .i64) v.1)), (8, .c (.s .bool v.2.1)), (9, .c (.s .str v.2.2.1)), (10, .c (.s (.int .u64) v.2.2.2.1)), (11, .c (.s (.int .u64) v.2.2.2.2.1)), (12, .c (.s .bool v.2.2.2.2.2.1)), (13, .c (.s (.int .u64) v.2.2.2.2.2.2.1)), (99, .c (.s (.list (.int .u8)) v.2.2.2.2.2.2.2.1)), (100, .c (.s (.int .i64) v.2.2.2.2.2.2.2.2.1)), (101, .c (.s (.int .i64) v.2.2.2.2.2.2.2.2.2))]
def f203_Hl3 (v : f203_Vl3) : Nat → Option VO := tblH []

def f203_bl3 (F215 : (Int × Unit) → Option ((Int × Unit) × (Unit))) (F216 : ((List UInt8) × Unit) → Option ((Bool × Unit) × (Unit))) (Jl3 : f203_Vl3 → Option ((Int × (Option (Nat × Bool)) × Unit) × (Unit))) : f203_Vl3 → Option ((Int × (Option (Nat × Bool)) × Unit) × (Unit)) := fun (x1, x2, x3, x4, x5, x6, x7, x8, x9, x10) =>
 bif (decide (x10 < x9)) then (rd x8 x10 fun y41 =>
 bif (y41 == 95) then (bif x2 then (Jl3 (x1, x2, x3, x4, x5, true, x7, x8, x9, (w64 (x10 + 1))))
 else (bif (decide (48 ≤ y41)) then (bif (decide (y41 ≤ 57)) then (bif (decide ((IntKind.wrap .u8 (y41 - 48)) ≥ (IntKind.wrap .u8 (x1)))) then (none)
 else (bif (decide (x7 ≥ x4)) then (none)
 else (bif (decide ((IntKind.wrap .u64 ((IntKind.wrap .u64 (x7 * (IntKind.wrap .u64 (x1)))) + (IntKind.wrap .u64 ((IntKind.wrap .u8 (y41 - 48)))))) < (IntKind.wrap .u64 (x7 * (IntKind.wrap .u64 (x1)))))) then (none)
 else (bif (decide ((IntKind.wrap .u64 ((IntKind.wrap .u64 (x7 * (IntKind.wrap .u64 (x1)))) + (IntKind.wrap .u64 ((IntKind.wrap .u8 (y41 - 48)))))) > x5)) then (none)
 else (Jl3 (x1, x2, x3, x4, x5, x6, (IntKind.wrap .u64 ((IntKind.wrap .u64 (x7 * (IntKind.wrap .u64 (x1)))) + (IntKind.wrap .u64 ((IntKind.wrap .u8 (y41 - 48)))))), x8, x9, (w64 (x10 + 1))))))))
 else (Option.bind (F215 (y41, ())) fun r42 =>
 bif (decide (97 ≤ r42.1.1)) then (Option.bind (F215 (y41, ())) fun r43 =>
 bif (decide (r43.1.1 ≤ 122)) then (Option.bind (F215 (y41, ())) fun r44 =>
 bif (decide ((IntKind.wrap .u8 ((IntKind.wrap .u8 (r44.1.1 - 97)) + 10)) ≥ (IntKind.wrap .u8 (x1)))) then (none)
 else (bif (decide (x7 ≥ x4)) then (none)
 else (bif (decide ((IntKind.wrap .u64 ((IntKind.wrap .u64 (x7 * (IntKind.wrap .u64 (x1)))) + (IntKind.wrap .u64 ((IntKind.wrap .u8 ((IntKind.wrap .u8 (r44.1.1 - 97)) + 10)))))) < (IntKind.wrap .u64 (x7 * (IntKind.wrap .u64 (x1)))))) then (none)
 else (bif (decide ((IntKind.wrap .u64 ((IntKind.wrap .u64 (x7 * (IntKind.wrap .u64 (x1)))) + (IntKind.wrap .u64 ((IntKind.wrap .u8 ((IntKind.wrap .u8 (r44.1.1 - 97)) + 10)))))) > x5)) then (none)
 else (Jl3 (x1, x2, x3, x4, x5, x6, (IntKind.wrap .u64 ((IntKind.wrap .u64 (x7 * (IntKind.wrap .u64 (x1)))) + (IntKind.wrap .u64 ((IntKind.wrap .u8 ((IntKind.wrap .u8 (r44.1.1 - 97)) + 10)))))), x8, x9, (w64 (x10 + 1))))))))
 else (none))
 else (none)))
 else (Option.bind (F215 (y41, ())) fun r45 =>
 bif (decide (97 ≤ r45.1.1)) then (Option.bind (F215 (y41, ())) fun r46 =>
 bif (decide (r46.1.1 ≤ 122)) then (Option.bind (F215 (y41, ())) fun r47 =>
 bif (decide ((IntKind.wrap .u8 ((IntKind.wrap .u8 (r47.1.1 - 97)) + 10)) ≥ (IntKind.wrap .u8 (x1)))) then (none)
 else (bif (decide (x7 ≥ x4)) then (none)
 else (bif (decide ((IntKind.wrap .u64 ((IntKind.wrap .u64 (x7 * (IntKind.wrap .u64 (x1)))) + (IntKind.wrap .u64 ((IntKind.wrap .u8 ((IntKind.wrap .u8 (r47.1.1 - 97)) + 10)))))) < (IntKind.wrap .u64 (x7 * (IntKind.wrap .u64 (x1)))))) then (none)
 else (bif (decide ((IntKind.wrap .u64 ((IntKind.wrap .u64 (x7 * (IntKind.wrap .u64 (x1)))) + (IntKind.wrap .u64 ((IntKind.wrap .u8 ((IntKind.wrap .u8 (r47.1.1 - 97)) + 10)))))) > x5)) then (none)
 else (Jl3 (x1, x2, x3, x4, x5, x6, (IntKind.wrap .u64 ((IntKind.wrap .u64 (x7 * (IntKind.wrap .u64 (x1)))) + (IntKind.wrap .u64 ((IntKind.wrap .u8 ((IntKind.wrap .u8 (r47.1.1 - 97)) + 10)))))), x8, x9, (w64 (x10 + 1))))))))
 else (none))
 else (none))))
 else (bif (decide (48 ≤ y41)) then (bif (decide (y41 ≤ 57)) then (bif (decide ((IntKind.wrap .u8 (y41 - 48)) ≥ (IntKind.wrap .u8 (x1)))) then (none)
 else (bif (decide (x7 ≥ x4)) then (none)
 else (bif (decide ((IntKind.wrap .u64 ((IntKind.wrap .u64 (x7 * (IntKind.wrap .u64 (x1)))) + (IntKind.wrap .u64 ((IntKind.wrap .u8 (y41 - 48)))))) < (IntKind.wrap .u64 (x7 * (IntKind.wrap .u64 (x1)))))) then (none)
 else (bif (decide ((IntKind.wrap .u64 ((IntKind.wrap .u64 (x7 * (IntKind.wrap .u64 (x1)))) + (IntKind.wrap .u64 ((IntKind.wrap .u8 (y41 - 48)))))) > x5)) then (none)
 else (Jl3 (x1, x2, x3, x4, x5, x6, (IntKind.wrap .u64 ((IntKind.wrap .u64 (x7 * (IntKind.wrap .u64 (x1)))) + (IntKind.wrap .u64 ((IntKind.wrap .u8 (y41 - 48)))))), x8, x9, (w64 (x10 + 1))))))))
 else (Option.bind (F215 (y41, ())) fun r48 =>
 bif (decide (97 ≤ r48.1.1)) then (Option.bind (F215 (y41, ())) fun r49 =>
 bif (decide (r49.1.1 ≤ 122)) then (Option.bind (F215 (y41, ())) fun r50 =>
 bif (decide ((IntKind.wrap .u8 ((IntKind.wrap .u8 (r50.1.1 - 97)) + 10)) ≥ (IntKind.wrap .u8 (x1)))) then (none)
 else (bif (decide (x7 ≥ x4)) then (none)
 else (bif (decide ((IntKind.wrap .u64 ((IntKind.wrap .u64 (x7 * (IntKind.wrap .u64 (x1)))) + (IntKind.wrap .u64 ((IntKind.wrap .u8 ((IntKind.wrap .u8 (r50.1.1 - 97)) + 10)))))) < (IntKind.wrap .u64 (x7 * (IntKind.wrap .u64 (x1)))))) then (none)
 else (bif (decide ((IntKind.wrap .u64 ((IntKind.wrap .u64 (x7 * (IntKind.wrap .u64 (x1)))) + (IntKind.wrap .u64 ((IntKind.wrap .u8 ((IntKind.wrap .u8 (r50.1.1 - 97)) + 10)))))) > x5)) then (none)
 else (Jl3 (x1, x2, x3, x4, x5, x6, (IntKind.wrap .u64 ((IntKind.wrap .u64 (x7 * (IntKind.wrap .u64 (x1)))) + (IntKind.wrap .u64 ((IntKind.wrap .u8 ((IntKind.wrap .u8 (r50.1.1 - 97)) + 10)))))), x8, x9, (w64 (x10 + 1))))))))
 else (none))
 else (none)))
 else (Option.bind (F215 (y41, ())) fun r51 =>
 bif (decide (97 ≤ r51.1.1)) then (Option.bind (F215 (y41, ())) fun r52 =>
 bif (decide (r52.1.1 ≤ 122)) then (Option.bind (F215 (y41, ())) fun r53 =>
 bif (decide ((IntKind.wrap .u8 ((IntKind.wrap .u8 (r53.1.1 - 97)) + 10)) ≥ (IntKind.wrap .u8 (x1)))) then (none)
 else (bif (decide (x7 ≥ x4)) then (none)
 else (bif (decide ((IntKind.wrap .u64 ((IntKind.wrap .u64 (x7 * (IntKind.wrap .u64 (x1)))) + (IntKind.wrap .u64 ((IntKind.wrap .u8 ((IntKind.wrap .u8 (r53.1.1 - 97)) + 10)))))) < (IntKind.wrap .u64 (x7 * (IntKind.wrap .u64 (x1)))))) then (none)
 else (bif (decide ((IntKind.wrap .u64 ((IntKind.wrap .u64 (x7 * (IntKind.wrap .u64 (x1)))) + (IntKind.wrap .u64 ((IntKind.wrap .u8 ((IntKind.wrap .u8 (r53.1.1 - 97)) + 10)))))) > x5)) then (none)
 else (Jl3 (x1, x2, x3, x4, x5, x6, (IntKind.wrap .u64 ((IntKind.wrap .u64 (x7 * (IntKind.wrap .u64 (x1)))) + (IntKind.wrap .u64 ((IntKind.wrap .u8 ((IntKind.wrap .u8 (r53.1.1 - 97)) + 10)))))), x8, x9, (w64 (x10 + 1))))))))
 else (none))
 else (none))))
 else (bif x6 then (Option.bind (F216 (x3, ())) fun r54 =>
 bif (!r54.1.1) then (none)
 else (some ((x7, none, ()), ())))
 else (some ((x7, none, ()), ())))
def f203_b (F215 : (Int × Unit) → Option ((Int × Unit) × (Unit))) (F216 : ((List UInt8) × Unit) → Option ((Bool × Unit) × (Unit))) (Jl3 : f203_Vl3 → Option ((Int × (Option (Nat × Bool)) × Unit) × (Unit))) (a0 : (List UInt8)) (a1 : Int) (a2 : Int) : Option ((Int × (Option (Nat × Bool)) × Unit) × (Unit)) :=
 bif (a0 == ([] : List UInt8)) then (none)
 else (bif (decide (2 ≤ a1)) then (bif (decide (a1 ≤ 36)) then (bif (a2 == 0) then (bif (a1 == 10) then (Jl3 (a1, (a1 == 0), a0, 1844674407370955162, (IntKind.wrap .u64 ((IntKind.wrap .u64 (1 * 2 ^ 64)) - 1)), false, 0, (a0.map fun b => ((b.toNat : Nat) : Int)), ((a0.map fun b => ((b.toNat : Nat) : Int)).length : Int), 0))
 else (bif (a1 == 16) then (Jl3 (a1, (a1 == 0), a0, 1152921504606846976, (IntKind.wrap .u64 ((IntKind.wrap .u64 (1 * 2 ^ 64)) - 1)), false, 0, (a0.map fun b => ((b.toNat : Nat) : Int)), ((a0.map fun b => ((b.toNat : Nat) : Int)).length : Int), 0))
 else (bif (decide ((IntKind.wrap .u64 (a1)) = 0)) then (none)
 else (Jl3 (a1, (a1 == 0), a0, (IntKind.wrap .u64 ((IntKind.wrap .u64 ((18446744073709551615 : Int).tdiv (IntKind.wrap .u64 (a1)))) + 1)), (IntKind.wrap .u64 ((IntKind.wrap .u64 (1 * 2 ^ 64)) - 1)), false, 0, (a0.map fun b => ((b.toNat : Nat) : Int)), ((a0.map fun b => ((b.toNat : Nat) : Int)).length : Int), 0)))))
 else (bif (decide (a2 < 0)) then (none)
 else (bif (decide (a2 > 64)) then (none)
 else (bif (a1 == 10) then (bif (decide ((IntKind.wrap .u64 (a2)) < 0)) then (none)
 else (Jl3 (a1, (a1 == 0), a0, 1844674407370955162, (IntKind.wrap .u64 ((IntKind.wrap .u64 (1 * 2 ^ (min (IntKind.wrap .u64 (a2)).toNat (IntKind.bits .u64)))) - 1)), false, 0, (a0.map fun b => ((b.toNat : Nat) : Int)), ((a0.map fun b => ((b.toNat : Nat) : Int)).length : Int), 0)))
 else (bif (a1 == 16) then (bif (decide ((IntKind.wrap .u64 (a2)) < 0)) then (none)
 else (Jl3 (a1, (a1 == 0), a0, 1152921504606846976, (IntKind.wrap .u64 ((IntKind.wrap .u64 (1 * 2 ^ (min (IntKind.wrap .u64 (a2)).toNat (IntKind.bits .u64)))) - 1)), false, 0, (a0.map fun b => ((b.toNat : Nat) : Int)), ((a0.map fun b => ((b.toNat : Nat) : Int)).length : Int), 0)))
 else (bif (decide ((IntKind.wrap .u64 (a1)) = 0)) then (none)
 else (bif (decide ((IntKind.wrap .u64 (a2)) < 0)) then (none)
 else (Jl3 (a1, (a1 == 0), a0, (IntKind.wrap .u64 ((IntKind.wrap .u64 ((18446744073709551615 : Int).tdiv (IntKind.wrap .u64 (a1)))) + 1)), (IntKind.wrap .u64 ((IntKind.wrap .u64 (1 * 2 ^ (min (IntKind.wrap .u64 (a2)).toNat (IntKind.bits .u64)))) - 1)), false, 0, (a0.map fun b => ((b.toNat : Nat) : Int)), ((a0.map fun b => ((b.toNat : Nat) : Int)).length : Int), 0)))))))))
 else (bif (a1 == 0) then (rd a0 0 fun y11 =>
 bif ((y11.toNat : Int) == 48) then (bif (decide ((a0.length : Int) ≥ 3)) then (rd a0 1 fun y12 =>
 Option.bind (F215 ((y12.toNat : Int), ())) fun r13 =>
 bif (r13.1.1 == 98) then (chk (decide (2 ≤ a0.length)) <|
 bif (a2 == 0) then (Jl3 (2, (a1 == 0), a0, 9223372036854775808, (IntKind.wrap .u64 ((IntKind.wrap .u64 (1 * 2 ^ 64)) - 1)), false, 0, ((a0.drop 2).map fun b => ((b.toNat : Nat) : Int)), (((a0.drop 2).map fun b => ((b.toNat : Nat) : Int)).length : Int), 0))
 else (bif (decide (a2 < 0)) then (none)
 else (bif (decide (a2 > 64)) then (none)
 else (bif (decide ((IntKind.wrap .u64 (a2)) < 0)) then (none)
 else (Jl3 (2, (a1 == 0), a0, 9223372036854775808, (IntKind.wrap .u64 ((IntKind.wrap .u64 (1 * 2 ^ (min (IntKind.wrap .u64 (a2)).toNat (IntKind.bits .u64)))) - 1)), false, 0, ((a0.drop 2).map fun b => ((b.toNat : Nat) : Int)), (((a0.drop 2).map fun b => ((b.toNat : Nat) : Int)).length : Int), 0))))))
 else (bif (decide ((a0.length : Int) ≥ 3)) then (rd a0 1 fun y14 =>
 Option.bind (F215 ((y14.toNat : Int), ())) fun r15 =>
 bif (r15.1.1 == 111) then (chk (decide (2 ≤ a0.length)) <|
 bif (a2 == 0) then (Jl3 (8, (a1 == 0), a0, 2305843009213693952, (IntKind.wrap .u64 ((IntKind.wrap .u64 (1 * 2 ^ 64)) - 1)), false, 0, ((a0.drop 2).map fun b => ((b.toNat : Nat) : Int)), (((a0.drop 2).map fun b => ((b.toNat : Nat) : Int)).length : Int), 0))
 else (bif (decide (a2 < 0)) then (none)
 else (bif (decide (a2 > 64)) then (none)
 else (bif (decide ((IntKind.wrap .u64 (a2)) < 0)) then (none)
 else (Jl3 (8, (a1 == 0), a0, 2305843009213693952, (IntKind.wrap .u64 ((IntKind.wrap .u64 (1 * 2 ^ (min (IntKind.wrap .u64 (a2)).toNat (IntKind.bits .u64)))) - 1)), false, 0, ((a0.drop 2).map fun b => ((b.toNat : Nat) : Int)), (((a0.drop 2).map fun b => ((b.toNat : Nat) : Int)).length : Int), 0))))))
 else (bif (decide ((a0.length : Int) ≥ 3)) then (rd a0 1 fun y16 =>
 Option.bind (F215 ((y16.toNat : Int), ())) fun r17 =>
 bif (r17.1.1 == 120) then (chk (decide (2 ≤ a0.length)) <|
 bif (a2 == 0) then (Jl3 (16, (a1 == 0), a0, 1152921504606846976, (IntKind.wrap .u64 ((IntKind.wrap .u64 (1 * 2 ^ 64)) - 1)), false, 0, ((a0.drop 2).map fun b => ((b.toNat : Nat) : Int)), (((a0.drop 2).map fun b => ((b.toNat : Nat) : Int)).length : Int), 0))
 else (bif (decide (a2 < 0)) then (none)
 else (bif (decide (a2 > 64)) then (none)
 else (bif (decide ((IntKind.wrap .u64 (a2)) < 0)) then (none)
 else (Jl3 (16, (a1 == 0), a0, 1152921504606846976, (IntKind.wrap .u64 ((IntKind.wrap .u64 (1 * 2 ^ (min (IntKind.wrap .u64 (a2)).toNat (IntKind.bits .u64)))) - 1)), false, 0, ((a0.drop 2).map fun b => ((b.toNat : Nat) : Int)), (((a0.drop 2).map fun b => ((b.toNat : Nat) : Int)).length : Int), 0))))))
 else (chk (decide (1 ≤ a0.length)) <|
 bif (a2 == 0) then (Jl3 (8, (a1 == 0), a0, 2305843009213693952, (IntKind.wrap .u64 ((IntKind.wrap .u64 (1 * 2 ^ 64)) - 1)), false, 0, ((a0.drop 1).map fun b => ((b.toNat : Nat) : Int)), (((a0.drop 1).map fun b => ((b.toNat : Nat) : Int)).length : Int), 0))
 else (bif (decide (a2 < 0)) then (none)
 else (bif (decide (a2 > 64)) then (none)
 else (bif (decide ((IntKind.wrap .u64 (a2)) < 0)) then (none)
 else (Jl3 (8, (a1 == 0), a0, 2305843009213693952, (IntKind.wrap .u64 ((IntKind.wrap .u64 (1 * 2 ^ (min (IntKind.wrap .u64 (a2)).toNat (IntKind.bits .u64)))) - 1)), false, 0, ((a0.drop 1).map fun b => ((b.toNat : Nat) : Int)), (((a0.drop 1).map fun b => ((b.toNat : Nat) : Int)).length : Int), 0)))))))
 else (chk (decide (1 ≤ a0.length)) <|
 bif (a2 == 0) then (Jl3 (8, (a1 == 0), a0, 2305843009213693952, (IntKind.wrap .u64 ((IntKind.wrap .u64 (1 * 2 ^ 64)) - 1)), false, 0, ((a0.drop 1).map fun b => ((b.toNat : Nat) : Int)), (((a0.drop 1).map fun b => ((b.toNat : Nat) : Int)).length : Int), 0))
 else (bif (decide (a2 < 0)) then (none)
 else (bif (decide (a2 > 64)) then (none)
 else (bif (decide ((IntKind.wrap .u64 (a2)) < 0)) then (none)
 else (Jl3 (8, (a1 == 0), a0, 2305843009213693952, (IntKind.wrap .u64 ((IntKind.wrap .u64 (1 * 2 ^ (min (IntKind.wrap .u64 (a2)).toNat (IntKind.bits .u64)))) - 1)), false, 0, ((a0.drop 1).map fun b => ((b.toNat : Nat) : Int)), (((a0.drop 1).map fun b => ((b.toNat : Nat) : Int)).length : Int), 0))))))))
 else (bif (decide ((a0.length : Int) ≥ 3)) then (rd a0 1 fun y18 =>
 Option.bind (F215 ((y18.toNat : Int), ())) fun r19 =>
 bif (r19.1.1 == 120) then (chk (decide (2 ≤ a0.length)) <|
 bif (a2 == 0) then (Jl3 (16, (a1 == 0), a0, 1152921504606846976, (IntKind.wrap .u64 ((IntKind.wrap .u64 (1 * 2 ^ 64)) - 1)), false, 0, ((a0.drop 2).map fun b => ((b.toNat : Nat) : Int)), (((a0.drop 2).map fun b => ((b.toNat : Nat) : Int)).length : Int), 0))
 else (bif (decide (a2 < 0)) then (none)
 else (bif (decide (a2 > 64)) then (none)
 else (bif (decide ((IntKind.wrap .u64 (a2)) < 0)) then (none)
 else (Jl3 (16, (a1 == 0), a0, 1152921504606846976, (IntKind.wrap .u64 ((IntKind.wrap .u64 (1 * 2 ^ (min (IntKind.wrap .u64 (a2)).toNat (IntKind.bits .u64)))) - 1)), false, 0, ((a0.drop 2).map fun b => ((b.toNat : Nat) : Int)), (((a0.drop 2).map fun b => ((b.toNat : Nat) : Int)).length : Int), 0))))))
 else (chk (decide (1 ≤ a0.length)) <|
 bif (a2 == 0) then (Jl3 (8, (a1 == 0), a0, 2305843009213693952, (IntKind.wrap .u64 ((IntKind.wrap .u64 (1 * 2 ^ 64)) - 1)), false, 0, ((a0.drop 1).map fun b => ((b.toNat : Nat) : Int)), (((a0.drop 1).map fun b => ((b.toNat : Nat) : Int)).length : Int), 0))
 else (bif (decide (a2 < 0)) then (none)
 else (bif (decide (a2 > 64)) then (none)
 else (bif (decide ((IntKind.wrap .u64 (a2)) < 0)) then (none)
 else (Jl3 (8, (a1 == 0), a0, 2305843009213693952, (IntKind.wrap .u64 ((IntKind.wrap .u64 (1 * 2 ^ (min (IntKind.wrap .u64 (a2)).toNat (IntKind.bits .u64)))) - 1)), false, 0, ((a0.drop 1).map fun b => ((b.toNat : Nat) : Int)), (((a0.drop 1).map fun b => ((b.toNat : Nat) : Int)).length : Int), 0)))))))
 else (chk (decide (1 ≤ a0.length)) <|
 bif (a2 == 0) then (Jl3 (8, (a1 == 0), a0, 2305843009213693952, (IntKind.wrap .u64 ((IntKind.wrap .u64 (1 * 2 ^ 64)) - 1)), false, 0, ((a0.drop 1).map fun b => ((b.toNat : Nat) : Int)), (((a0.drop 1).map fun b => ((b.toNat : Nat) : Int)).length : Int), 0))
 else (bif (decide (a2 < 0)) then (none)
 else (bif (decide (a2 > 64)) then (none)
 else (bif (decide ((IntKind.wrap .u64 (a2)) < 0)) then (none)
 else (Jl3 (8, (a1 == 0), a0, 2305843009213693952, (IntKind.wrap .u64 ((IntKind.wrap .u64 (1 * 2 ^ (min (IntKind.wrap .u64 (a2)).toNat (IntKind.bits .u64)))) - 1)), false, 0, ((a0.drop 1).map fun b => ((b.toNat : Nat) : Int)), (((a0.drop 1).map fun b => ((b.toNat : Nat) : Int)).length : Int), 0)))))))))
 else (bif (decide ((a0.length : Int) ≥ 3)) then (rd a0 1 fun y20 =>
 Option.bind (F215 ((y20.toNat : Int), ())) fun r21 =>
 bif (r21.1.1 == 111) then (chk (decide (2 ≤ a0.length)) <|
 bif (a2 == 0) then (Jl3 (8, (a1 == 0), a0, 2305843009213693952, (IntKind.wrap .u64 ((IntKind.wrap .u64 (1 * 2 ^ 64)) - 1)), false, 0, ((a0.drop 2).map fun b => ((b.toNat : Nat) : Int)), (((a0.drop 2).map fun b => ((b.toNat : Nat) : Int)).length : Int), 0))
 else (bif (decide (a2 < 0)) then (none)
 else (bif (decide (a2 > 64)) then (none)
 else (bif (decide ((IntKind.wrap .u64 (a2)) < 0)) then (none)
 else (Jl3 (8, (a1 == 0), a0, 2305843009213693952, (IntKind.wrap .u64 ((IntKind.wrap .u64 (1 * 2 ^ (min (IntKind.wrap .u64 (a2)).toNat (IntKind.bits .u64)))) - 1)), false, 0, ((a0.drop 2).map fun b => ((b.toNat : Nat) : Int)), (((a0.drop 2).map fun b => ((b.toNat : Nat) : Int)).length : Int), 0))))))
 else (bif (decide ((a0.length : Int) ≥ 3)) then (rd a0 1 fun y22 =>
 Option.bind (F215 ((y22.toNat : Int), ())) fun r23 =>
 bif (r23.1.1 == 120) then (chk (decide (2 ≤ a0.length)) <|
 bif (a2 == 0) then (Jl3 (16, (a1 == 0), a0, 1152921504606846976, (IntKind.wrap .u64 ((IntKind.wrap .u64 (1 * 2 ^ 64)) - 1)), false, 0, ((a0.drop 2).map fun b => ((b.toNat : Nat) : Int)), (((a0.drop 2).map fun b => ((b.toNat : Nat) : Int)).length : Int), 0))
 else (bif (decide (a2 < 0)) then (none)
 else (bif (decide (a2 > 64)) then (none)
 else (bif (decide ((IntKind.wrap .u64 (a2)) < 0)) then (none)
 else (Jl3 (16, (a1 == 0), a0, 1152921504606846976, (IntKind.wrap .u64 ((IntKind.wrap .u64 (1 * 2 ^ (min (IntKind.wrap .u64 (a2)).toNat (IntKind.bits .u64)))) - 1)), false, 0, ((a0.drop 2).map fun b => ((b.toNat : Nat) : Int)), (((a0.drop 2).map fun b => ((b.toNat : Nat) : Int)).length : Int), 0))))))
 else (chk (decide (1 ≤ a0.length)) <|
 bif (a2 == 0) then (Jl3 (8, (a1 == 0), a0, 2305843009213693952, (IntKind.wrap .u64 ((IntKind.wrap .u64 (1 * 2 ^ 64)) - 1)), false, 0, ((a0.drop 1).map fun b => ((b.toNat : Nat) : Int)), (((a0.drop 1).map fun b => ((b.toNat : Nat) : Int)).length : Int), 0))
 else (bif (decide (a2 < 0)) then (none)
 else (bif (decide (a2 > 64)) then (none)
 else (bif (decide ((IntKind.wrap .u64 (a2)) < 0)) then (none)
 else (Jl3 (8, (a1 == 0), a0, 2305843009213693952, (IntKind.wrap .u64 ((IntKind.wrap .u64 (1 * 2 ^ (min (IntKind.wrap .u64 (a2)).toNat (IntKind.bits .u64)))) - 1)), false, 0, ((a0.drop 1).map fun b => ((b.toNat : Nat) : Int)), (((a0.drop 1).map fun b => ((b.toNat : Nat) : Int)).length : Int), 0)))))))
 else (chk (decide (1 ≤ a0.length)) <|
 bif (a2 == 0) then (Jl3 (8, (a1 == 0), a0, 2305843009213693952, (IntKind.wrap .u64 ((IntKind.wrap .u64 (1 * 2 ^ 64)) - 1)), false, 0, ((a0.drop 1).map fun b => ((b.toNat : Nat) : Int)), (((a0.drop 1).map fun b => ((b.toNat : Nat) : Int)).length : Int), 0))
 else (bif (decide (a2 < 0)) then (none)
 else (bif (decide (a2 > 64)) then (none)
 else (bif (decide ((IntKind.wrap .u64 (a2)) < 0)) then (none)
 else (Jl3 (8, (a1 == 0), a0, 2305843009213693952, (IntKind.wrap .u64 ((IntKind.wrap .u64 (1 * 2 ^ (min (IntKind.wrap .u64 (a2)).toNat (IntKind.bits .u64)))) - 1)), false, 0, ((a0.drop 1).map fun b => ((b.toNat : Nat) : Int)), (((a0.drop 1).map fun b => ((b.toNat : Nat) : Int)).length : Int), 0))))))))
 else (bif (decide ((a0.length : Int) ≥ 3)) then (rd a0 1 fun y24 =>
 Option.bind (F215 ((y24.toNat : Int), ())) fun r25 =>
 bif (r25.1.1 == 120) then (chk (decide (2 ≤ a0.length)) <|
 bif (a2 == 0) then (Jl3 (16, (a1 == 0), a0, 1152921504606846976, (IntKind.wrap .u64 ((IntKind.wrap .u64 (1 * 2 ^ 64)) - 1)), false, 0, ((a0.drop 2).map fun b => ((b.toNat : Nat) : Int)), (((a0.drop 2).map fun b => ((b.toNat : Nat) : Int)).length : Int), 0))
 else (bif (decide (a2 < 0)) then (none)
 else (bif (decide (a2 > 64)) then (none)
 else (bif (decide ((IntKind.wrap .u64 (a2)) < 0)) then (none)
 else (Jl3 (16, (a1 == 0), a0, 1152921504606846976, (IntKind.wrap .u64 ((IntKind.wrap .u64 (1 * 2 ^ (min (IntKind.wrap .u64 (a2)).toNat (IntKind.bits .u64)))) - 1)), false, 0, ((a0.drop 2).map fun b => ((b.toNat : Nat) : Int)), (((a0.drop 2).map fun b => ((b.toNat : Nat) : Int)).length : Int), 0))))))
 else (chk (decide (1 ≤ a0.length)) <|
 bif (a2 == 0) then (Jl3 (8, (a1 == 0), a0, 2305843009213693952, (IntKind.wrap .u64 ((IntKind.wrap .u64 (1 * 2 ^ 64)) - 1)), false, 0, ((a0.drop 1).map fun b => ((b.toNat : Nat) : Int)), (((a0.drop 1).map fun b => ((b.toNat : Nat) : Int)).length : Int), 0))
 else (bif (decide (a2 < 0)) then (none)
 else (bif (decide (a2 > 64)) then (none)
 else (bif (decide ((IntKind.wrap .u64 (a2)) < 0)) then (none)
 else (Jl3 (8, (a1 == 0), a0, 2305843009213693952, (IntKind.wrap .u64 ((IntKind.wrap .u64 (1 * 2 ^ (min (IntKind.wrap .u64 (a2)).toNat (IntKind.bits .u64)))) - 1)), false, 0, ((a0.drop 1).map fun b => ((b.toNat : Nat) : Int)), (((a0.drop 1).map fun b => ((b.toNat : Nat) : Int)).length : Int), 0)))))))
 else (chk (decide (1 ≤ a0.length)) <|
 bif (a2 == 0) then (Jl3 (8, (a1 == 0), a0, 2305843009213693952, (IntKind.wrap .u64 ((IntKind.wrap .u64 (1 * 2 ^ 64)) - 1)), false, 0, ((a0.drop 1).map fun b => ((b.toNat : Nat) : Int)), (((a0.drop 1).map fun b => ((b.toNat : Nat) : Int)).length : Int), 0))
 else (bif (decide (a2 < 0)) then (none)
 else (bif (decide (a2 > 64)) then (none)
 else (bif (decide ((IntKind.wrap .u64 (a2)) < 0)) then (none)
 else (Jl3 (8, (a1 == 0), a0, 2305843009213693952, (IntKind.wrap .u64 ((IntKind.wrap .u64 (1 * 2 ^ (min (IntKind.wrap .u64 (a2)).toNat (IntKind.bits .u64)))) - 1)), false, 0, ((a0.drop 1).map fun b => ((b.toNat : Nat) : Int)), (((a0.drop 1).map fun b => ((b.toNat : Nat) : Int)).length : Int), 0)))))))))
 else (bif (a2 == 0) then (Jl3 (10, (a1 == 0), a0, 1844674407370955162, (IntKind.wrap .u64 ((IntKind.wrap .u64 (1 * 2 ^ 64)) - 1)), false, 0, (a0.map fun b => ((b.toNat : Nat) : Int)), ((a0.map fun b => ((b.toNat : Nat) : Int)).length : Int), 0))
 else (bif (decide (a2 < 0)) then (none)
 else (bif (decide (a2 > 64)) then (none)
 else (bif (decide ((IntKind.wrap .u64 (a2)) < 0)) then (none)
 else (Jl3 (10, (a1 == 0), a0, 1844674407370955162, (IntKind.wrap .u64 ((IntKind.wrap .u64 (1 * 2 ^ (min (IntKind.wrap .u64 (a2)).toNat (IntKind.bits .u64)))) - 1)), false, 0, (a0.map fun b => ((b.toNat : Nat) : Int)), ((a0.map fun b => ((b.toNat : Nat) : Int)).length : Int), 0)))))))
 else (none)))
 else (bif (a1 == 0) then (rd a0 0 fun y26 =>
 bif ((y26.toNat : Int) == 48) then (bif (decide ((a0.length : Int) ≥ 3)) then (rd a0 1 fun y27 =>
 Option.bind (F215 ((y27.toNat : Int), ())) fun r28 =>
 bif (r28.1.1 == 98) then (chk (decide (2 ≤ a0.length)) <|
 bif (a2 == 0) then (Jl3 (2, (a1 == 0), a0, 9223372036854775808, (IntKind.wrap .u64 ((IntKind.wrap .u64 (1 * 2 ^ 64)) - 1)), false, 0, ((a0.drop 2).map fun b => ((b.toNat : Nat) : Int)), (((a0.drop 2).map fun b => ((b.toNat : Nat) : Int)).length : Int), 0))
 else (bif (decide (a2 < 0)) then (none)
 else (bif (decide (a2 > 64)) then (none)
 else (bif (decide ((IntKind.wrap .u64 (a2)) < 0)) then (none)
 else (Jl3 (2, (a1 == 0), a0, 9223372036854775808, (IntKind.wrap .u64 ((IntKind.wrap .u64 (1 * 2 ^ (min (IntKind.wrap .u64 (a2)).toNat (IntKind.bits .u64)))) - 1)), false, 0, ((a0.drop 2).map fun b => ((b.toNat : Nat) : Int)), (((a0.drop 2).map fun b => ((b.toNat : Nat) : Int)).length : Int), 0))))))
 else (bif (decide ((a0.length : Int) ≥ 3)) then (rd a0 1 fun y29 =>
 Option.bind (F215 ((y29.toNat : Int), ())) fun r30 =>
 bif (r30.1.1 == 111) then (chk (decide (2 ≤ a0.length)) <|
 bif (a2 == 0) then (Jl3 (8, (a1 == 0), a0, 2305843009213693952, (IntKind.wrap .u64 ((IntKind.wrap .u64 (1 * 2 ^ 64)) - 1)), false, 0, ((a0.drop 2).map fun b => ((b.toNat : Nat) : Int)), (((a0.drop 2).map fun b => ((b.toNat : Nat) : Int)).length : Int), 0))
 else (bif (decide (a2 < 0)) then (none)
 else (bif (decide (a2 > 64)) then (none)
 else (bif (decide ((IntKind.wrap .u64 (a2)) < 0)) then (none)
 else (Jl3 (8, (a1 == 0), a0, 2305843009213693952, (IntKind.wrap .u64 ((IntKind.wrap .u64 (1 * 2 ^ (min (IntKind.wrap .u64 (a2)).toNat (IntKind.bits .u64)))) - 1)), false, 0, ((a0.drop 2).map fun b => ((b.toNat : Nat) : Int)), (((a0.drop 2).map fun b => ((b.toNat : Nat) : Int)).length : Int), 0))))))
 else (bif (decide ((a0.length : Int) ≥ 3)) then (rd a0 1 fun y31 =>
 Option.bind (F215 ((y31.toNat : Int), ())) fun r32 =>
 bif (r32.1.1 == 120) then (chk (decide (2 ≤ a0.length)) <|
 bif (a2 == 0) then (Jl3 (16, (a1 == 0), a0, 1152921504606846976, (IntKind.wrap .u64 ((IntKind.wrap .u64 (1 * 2 ^ 64)) - 1)), false, 0, ((a0.drop 2).map fun b => ((b.toNat : Nat) : Int)), (((a0.drop 2).map fun b => ((b.toNat : Nat) : Int)).length : Int), 0))
 else (bif (decide (a2 < 0)) then (none)
 else (bif (decide (a2 > 64)) then (none)
 else (bif (decide ((IntKind.wrap .u64 (a2)) < 0)) then (none)
 else (Jl3 (16, (a1 == 0), a0, 1152921504606846976, (IntKind.wrap .u64 ((IntKind.wrap .u64 (1 * 2 ^ (min (IntKind.wrap .u64 (a2)).toNat (IntKind.bits .u64)))) - 1)), false, 0, ((a0.drop 2).map fun b => ((b.toNat : Nat) : Int)), (((a0.drop 2).map fun b => ((b.toNat : Nat) : Int)).length : Int), 0))))))
 else (chk (decide (1 ≤ a0.length)) <|
 bif (a2 == 0) then (Jl3 (8, (a1 == 0), a0, 2305843009213693952, (IntKind.wrap .u64 ((IntKind.wrap .u64 (1 * 2 ^ 64)) - 1)), false, 0, ((a0.drop 1).map fun b => ((b.toNat : Nat) : Int)), (((a0.drop 1).map fun b => ((b.toNat : Nat) : Int)).length : Int), 0))
 else (bif (decide (a2 < 0)) then (none)
 else (bif (decide (a2 > 64)) then (none)
 else (bif (decide ((IntKind.wrap .u64 (a2)) < 0)) then (none)
 else (Jl3 (8, (a1 == 0), a0, 2305843009213693952, (IntKind.wrap .u64 ((IntKind.wrap .u64 (1 * 2 ^ (min (IntKind.wrap .u64 (a2)).toNat (IntKind.bits .u64)))) - 1)), false, 0, ((a0.drop 1).map fun b => ((b.toNat : Nat) : Int)), (((a0.drop 1).map fun b => ((b.toNat : Nat) : Int)).length : Int), 0)))))))
 else (chk (decide (1 ≤ a0.length)) <|
 bif (a2 == 0) then (Jl3 (8, (a1 == 0), a0, 2305843009213693952, (IntKind.wrap .u64 ((IntKind.wrap .u64 (1 * 2 ^ 64)) - 1)), false, 0, ((a0.drop 1).map fun b => ((b.toNat : Nat) : Int)), (((a0.drop 1).map fun b => ((b.toNat : Nat) : Int)).length : Int), 0))
 else (bif (decide (a2 < 0)) then (none)
 else (bif (decide (a2 > 64)) then (none)
 else (bif (decide ((IntKind.wrap .u64 (a2)) < 0)) then (none)
 else (Jl3 (8, (a1 == 0), a0, 2305843009213693952, (IntKind.wrap .u64 ((IntKind.wrap .u64 (1 * 2 ^ (min (IntKind.wrap .u64 (a2)).toNat (IntKind.bits .u64)))) - 1)), false, 0, ((a0.drop 1).map fun b => ((b.toNat : Nat) : Int)), (((a0.drop 1).map fun b => ((b.toNat : Nat) : Int)).length : Int), 0))))))))
 else (bif (decide ((a0.length : Int) ≥ 3)) then (rd a0 1 fun y33 =>
 Option.bind (F215 ((y33.toNat : Int), ())) fun r34 =>
 bif (r34.1.1 == 120) then (chk (decide (2 ≤ a0.length)) <|
 bif (a2 == 0) then (Jl3 (16, (a1 == 0), a0, 1152921504606846976, (IntKind.wrap .u64 ((IntKind.wrap .u64 (1 * 2 ^ 64)) - 1)), false, 0, ((a0.drop 2).map fun b => ((b.toNat : Nat) : Int)), (((a0.drop 2).map fun b => ((b.toNat : Nat) : Int)).length : Int), 0))
 else (bif (decide (a2 < 0)) then (none)
 else (bif (decide (a2 > 64)) then (none)
 else (bif (decide ((IntKind.wrap .u64 (a2)) < 0)) then (none)
 else (Jl3 (16, (a1 == 0), a0, 1152921504606846976, (IntKind.wrap .u64 ((IntKind.wrap .u64 (1 * 2 ^ (min (IntKind.wrap .u64 (a2)).toNat (IntKind.bits .u64)))) - 1)), false, 0, ((a0.drop 2).map fun b => ((b.toNat : Nat) : Int)), (((a0.drop 2).map fun b => ((b.toNat : Nat) : Int)).length : Int), 0))))))
 else (chk (decide (1 ≤ a0.length)) <|
 bif (a2 == 0) then (Jl3 (8, (a1 == 0), a0, 2305843009213693952, (IntKind.wrap .u64 ((IntKind.wrap .u64 (1 * 2 ^ 64)) - 1)), false, 0, ((a0.drop 1).map fun b => ((b.toNat : Nat) : Int)), (((a0.drop 1).map fun b => ((b.toNat : Nat) : Int)).length : Int), 0))
 else (bif (decide (a2 < 0)) then (none)
 else (bif (decide (a2 > 64)) then (none)
 else (bif (decide ((IntKind.wrap .u64 (a2)) < 0)) then (none)
 else (Jl3 (8, (a1 == 0), a0, 2305843009213693952, (IntKind.wrap .u64 ((IntKind.wrap .u64 (1 * 2 ^ (min (IntKind.wrap .u64 (a2)).toNat (IntKind.bits .u64)))) - 1)), false, 0, ((a0.drop 1).map fun b => ((b.toNat : Nat) : Int)), (((a0.drop 1).map fun b => ((b.toNat : Nat) : Int)).length : Int), 0)))))))
 else (chk (decide (1 ≤ a0.length)) <|
 bif (a2 == 0) then (Jl3 (8, (a1 == 0), a0, 2305843009213693952, (IntKind.wrap .u64 ((IntKind.wrap .u64 (1 * 2 ^ 64)) - 1)), false, 0, ((a0.drop 1).map fun b => ((b.toNat : Nat) : Int)), (((a0.drop 1).map fun b => ((b.toNat : Nat) : Int)).length : Int), 0))
 else (bif (decide (a2 < 0)) then (none)
 else (bif (decide (a2 > 64)) then (none)
 else (bif (decide ((IntKind.wrap .u64 (a2)) < 0)) then (none)
 else (Jl3 (8, (a1 == 0), a0, 2305843009213693952, (IntKind.wrap .u64 ((IntKind.wrap .u64 (1 * 2 ^ (min (IntKind.wrap .u64 (a2)).toNat (IntKind.bits .u64)))) - 1)), false, 0, ((a0.drop 1).map fun b => ((b.toNat : Nat) : Int)), (((a0.drop 1).map fun b => ((b.toNat : Nat) : Int)).length : Int), 0)))))))))
 else (bif (decide ((a0.length : Int) ≥ 3)) then (rd a0 1 fun y35 =>
 Option.bind (F215 ((y35.toNat : Int), ())) fun r36 =>
 bif (r36.1.1 == 111) then (chk (decide (2 ≤ a0.length)) <|
 bif (a2 == 0) then (Jl3 (8, (a1 == 0), a0, 2305843009213693952, (IntKind.wrap .u64 ((IntKind.wrap .u64 (1 * 2 ^ 64)) - 1)), false, 0, ((a0.drop 2).map fun b => ((b.toNat : Nat) : Int)), (((a0.drop 2).map fun b => ((b.toNat : Nat) : Int)).length : Int), 0))
 else (bif (decide (a2 < 0)) then (none)
 else (bif (decide (a2 > 64)) then (none)
 else (bif (decide ((IntKind.wrap .u64 (a2)) < 0)) then (none)
 else (Jl3 (8, (a1 == 0), a0, 2305843009213693952, (IntKind.wrap .u64 ((IntKind.wrap .u64 (1 * 2 ^ (min (IntKind.wrap .u64 (a2)).toNat (IntKind.bits .u64)))) - 1)), false, 0, ((a0.drop 2).map fun b => ((b.toNat : Nat) : Int)), (((a0.drop 2).map fun b => ((b.toNat : Nat) : Int)).length : Int), 0))))))
 else (bif (decide ((a0.length : Int) ≥ 3)) then (rd a0 1 fun y37 =>
 Option.bind (F215 ((y37.toNat : Int), ())) fun r38 =>
 bif (r38.1.1 == 120) then (chk (decide (2 ≤ a0.length)) <|
 bif (a2 == 0) then (Jl3 (16, (a1 == 0), a0, 1152921504606846976, (IntKind.wrap .u64 ((IntKind.wrap .u64 (1 * 2 ^ 64)) - 1)), false, 0, ((a0.drop 2).map fun b => ((b.toNat : Nat) : Int)), (((a0.drop 2).map fun b => ((b.toNat : Nat) : Int)).length : Int), 0))
 else (bif (decide (a2 < 0)) then (none)
 else (bif (decide (a2 > 64)) then (none)
 else (bif (decide ((IntKind.wrap .u64 (a2)) < 0)) then (none)
 else (Jl3 (16, (a1 == 0), a0, 1152921504606846976, (IntKind.wrap .u64 ((IntKind.wrap .u64 (1 * 2 ^ (min (IntKind.wrap .u64 (a2)).toNat (IntKind.bits .u64)))) - 1)), false, 0, ((a0.drop 2).map fun b => ((b.toNat : Nat) : Int)), (((a0.drop 2).map fun b => ((b.toNat : Nat) : Int)).length : Int), 0))))))
 else (chk (decide (1 ≤ a0.length)) <|
 bif (a2 == 0) then (Jl3 (8, (a1 == 0), a0, 2305843009213693952, (IntKind.wrap .u64 ((IntKind.wrap .u64 (1 * 2 ^ 64)) - 1)), false, 0, ((a0.drop 1).map fun b => ((b.toNat : Nat) : Int)), (((a0.drop 1).map fun b => ((b.toNat : Nat) : Int)).length : Int), 0))
 else (bif (decide (a2 < 0)) then (none)
 else (bif (decide (a2 > 64)) then (none)
 else (bif (decide ((IntKind.wrap .u64 (a2)) < 0)) then (none)
 else (Jl3 (8, (a1 == 0), a0, 2305843009213693952, (IntKind.wrap .u64 ((IntKind.wrap .u64 (1 * 2 ^ (min (IntKind.wrap .u64 (a2)).toNat (IntKind.bits .u64)))) - 1)), false, 0, ((a0.drop 1).map fun b => ((b.toNat : Nat) : Int)), (((a0.drop 1).map fun b => ((b.toNat : Nat) : Int)).length : Int), 0)))))))
 else (chk (decide (1 ≤ a0.length)) <|
 bif (a2 == 0) then (Jl3 (8, (a1 == 0), a0, 2305843009213693952, (IntKind.wrap .u64 ((IntKind.wrap .u64 (1 * 2 ^ 64)) - 1)), false, 0, ((a0.drop 1).map fun b => ((b.toNat : Nat) : Int)), (((a0.drop 1).map fun b => ((b.toNat : Nat) : Int)).length : Int), 0))
 else (bif (decide (a2 < 0)) then (none)
 else (bif (decide (a2 > 64)) then (none)
 else (bif (decide ((IntKind.wrap .u64 (a2)) < 0)) then (none)
 else (Jl3 (8, (a1 == 0), a0, 2305843009213693952, (IntKind.wrap .u64 ((IntKind.wrap .u64 (1 * 2 ^ (min (IntKind.wrap .u64 (a2)).toNat (IntKind.bits .u64)))) - 1)), false, 0, ((a0.drop 1).map fun b => ((b.toNat : Nat) : Int)), (((a0.drop 1).map fun b => ((b.toNat : Nat) : Int)).length : Int), 0))))))))
 else (bif (decide ((a0.length : Int) ≥ 3)) then (rd a0 1 fun y39 =>
 Option.bind (F215 ((y39.toNat : Int), ())) fun r40 =>
 bif (r40.1.1 == 120) then (chk (decide (2 ≤ a0.length)) <|
 bif (a2 == 0) then (Jl3 (16, (a1 == 0), a0, 1152921504606846976, (IntKind.wrap .u64 ((IntKind.wrap .u64 (1 * 2 ^ 64)) - 1)), false, 0, ((a0.drop 2).map fun b => ((b.toNat : Nat) : Int)), (((a0.drop 2).map fun b => ((b.toNat : Nat) : Int)).length : Int), 0))
 else (bif (decide (a2 < 0)) then (none)
 else (bif (decide (a2 > 64)) then (none)
 else (bif (decide ((IntKind.wrap .u64 (a2)) < 0)) then (none)
 else (Jl3 (16, (a1 == 0), a0, 1152921504606846976, (IntKind.wrap .u64 ((IntKind.wrap .u64 (1 * 2 ^ (min (IntKind.wrap .u64 (a2)).toNat (IntKind.bits .u64)))) - 1)), false, 0, ((a0.drop 2).map fun b => ((b.toNat : Nat) : Int)), (((a0.drop 2).map fun b => ((b.toNat : Nat) : Int)).length : Int), 0))))))
 else (chk (decide (1 ≤ a0.length)) <|
 bif (a2 == 0) then (Jl3 (8, (a1 == 0), a0, 2305843009213693952, (IntKind.wrap .u64 ((IntKind.wrap .u64 (1 * 2 ^ 64)) - 1)), false, 0, ((a0.drop 1).map fun b => ((b.toNat : Nat) : Int)), (((a0.drop 1).map fun b => ((b.toNat : Nat) : Int)).length : Int), 0))
 else (bif (decide (a2 < 0)) then (none)
 else (bif (decide (a2 > 64)) then (none)
 else (bif (decide ((IntKind.wrap .u64 (a2)) < 0)) then (none)
 else (Jl3 (8, (a1 == 0), a0, 2305843009213693952, (IntKind.wrap .u64 ((IntKind.wrap .u64 (1 * 2 ^ (min (IntKind.wrap .u64 (a2)).toNat (IntKind.bits .u64)))) - 1)), false, 0, ((a0.drop 1).map fun b => ((b.toNat : Nat) : Int)), (((a0.drop 1).map fun b => ((b.toNat : Nat) : Int)).length : Int), 0)))))))
 else (chk (decide (1 ≤ a0.length)) <|
 bif (a2 == 0) then (Jl3 (8, (a1 == 0), a0, 2305843009213693952, (IntKind.wrap .u64 ((IntKind.wrap .u64 (1 * 2 ^ 64)) - 1)), false, 0, ((a0.drop 1).map fun b => ((b.toNat : Nat) : Int)), (((a0.drop 1).map fun b => ((b.toNat : Nat) : Int)).length : Int), 0))
 else (bif (decide (a2 < 0)) then (none)
 else (bif (decide (a2 > 64)) then (none)
 else (bif (decide ((IntKind.wrap .u64 (a2)) < 0)) then (none)
 else (Jl3 (8, (a1 == 0), a0, 2305843009213693952, (IntKind.wrap .u64 ((IntKind.wrap .u64 (1 * 2 ^ (min (IntKind.wrap .u64 (a2)).toNat (IntKind.bits .u64)))) - 1)), false, 0, ((a0.drop 1).map fun b => ((b.toNat : Nat) : Int)), (((a0.drop 1).map fun b => ((b.toNat : Nat) : Int)).length : Int), 0)))))))))
 else (bif (a2 == 0) then (Jl3 (10, (a1 == 0), a0, 1844674407370955162, (IntKind.wrap .u64 ((IntKind.wrap .u64 (1 * 2 ^ 64)) - 1)), false, 0, (a0.map fun b => ((b.toNat : Nat) : Int)), ((a0.map fun b => ((b.toNat : Nat) : Int)).length : Int), 0))
 else (bif (decide (a2 < 0)) then (none)
 else (bif (decide (a2 > 64)) then (none)
 else (bif (decide ((IntKind.wrap .u64 (a2)) < 0)) then (none)
 else (Jl3 (10, (a1 == 0), a0, 1844674407370955162, (IntKind.wrap .u64 ((IntKind.wrap .u64 (1 * 2 ^ (min (IntKind.wrap .u64 (a2)).toNat (IntKind.bits .u64)))) - 1)), false, 0, (a0.map fun b => ((b.toNat : Nat) : Int)), ((a0.map fun b => ((b.toNat : Nat) : Int)).length : Int), 0)))))))
 else (none)))
def f203_Ll3 (k : Nat) (F215 : (Int × Unit) → Option ((Int × Unit) × (Unit))) (F216 : ((List UInt8) × Unit) → Option ((Bool × Unit) × (Unit)))  : f203_Vl3 → Option ((Int × (Option (Nat × Bool)) × Unit) × (Unit)) := loopI (fun Jl3 => f203_bl3 F215 F216 Jl3) k
def f203_I (k : Nat) (F215 : (Int × Unit) → Option ((Int × Unit) × (Unit))) (F216 : ((List UInt8) × Unit) → Option ((Bool × Unit) × (Unit))) (a0 : (List UInt8)) (a1 : Int) (a2 : Int) : Option ((Int × (Option (Nat × Bool)) × Unit) × (Unit)) := f203_b F215 F216 (f203_Ll3 k F215 F216) a0 a1 a2
theorem f203_el3 (k : Nat) (F215 : (Int × Unit) → Option ((Int × Unit) × (Unit))) (F216 : ((List UInt8) × Unit) → Option ((Bool × Unit) × (Unit))) (Al3 : Jump ((Int × (Option (Nat × Bool)) × Unit) × (Unit))) (v : f203_Vl3) : rawBody (f203_cx F215 F216) f203_an k (bodyOf Tryz.f203) [1, 1, 1, 1, 1, 1, 1, 1, 1, 1, 1, 0, 1, 0] [] (vend (f203_cx F215 F216) Tryz.f203 [.val .str, .val (.int .i64), .val (.int .i64)] [(.int .u64), (.fn .bool)]) Al3 (f203_Tl3 v) (f203_Hl3 v) =
 f203_bl3 F215 F216 (fun v => Al3 (f203_Tl3 v) (f203_Hl3 v)) v := by kernel_rfl
theorem f203_ll3 (k : Nat) (F215 : (Int × Unit) → Option ((Int × Unit) × (Unit))) (F216 : ((List UInt8) × Unit) → Option ((Bool × Unit) × (Unit))) (v : f203_Vl3) : rawLoop (f203_cx F215 F216) f203_an k (bodyOf Tryz.f203) [1, 1, 1, 1, 1, 1, 1, 1, 1, 1, 1, 0, 1, 0] [] (vend (f203_cx F215 F216) Tryz.f203 [.val .str, .val (.int .i64), .val (.int .i64)] [(.int .u64), (.fn .bool)]) k (f203_Tl3 v) (f203_Hl3 v) = f203_Ll3 k F215 F216 v :=
 rawLoop_eq (bI := fun Jl3 => f203_bl3 F215 F216 Jl3) f203_Tl3 f203_Hl3 (fun Al3 v => (f203_el3 k F215 F216 Al3 v)) k v
theorem f203_e (k : Nat) (F215 : (Int × Unit) → Option ((Int × Unit) × (Unit))) (F216 : ((List UInt8) × Unit) → Option ((Bool × Unit) × (Unit))) (x : ((List UInt8) × Int × Int × Unit)) : vfun (f203_cx F215 F216) f203_an k Tryz.f203 [.val .str, .val (.int .i64), .val (.int .i64)] [(.int .u64), (.fn .bool)] x =
 f203_b F215 F216 (fun v => rawLoop (f203_cx F215 F216) f203_an k (bodyOf Tryz.f203) [1, 1, 1, 1, 1, 1, 1, 1, 1, 1, 1, 0, 1, 0] [] (vend (f203_cx F215 F216) Tryz.f203 [.val .str, .val (.int .i64), .val (.int .i64)] [(.int .u64), (.fn .bool)]) k (f203_Tl3 v) (f203_Hl3 v)) x.1 x.2.1 x.2.2.1 := by kernel_rfl
theorem f203_eq (k : Nat) (F215 : (Int × Unit) → Option ((Int × Unit) × (Unit))) (F216 : ((List UInt8) × Unit) → Option ((Bool × Unit) × (Unit))) (x : ((List UInt8) × Int × Int × Unit)) : vfun (f203_cx F215 F216) f203_an k Tryz.f203 [.val .str, .val (.int .i64), .val (.int .i64)] [(.int .u64), (.fn .bool)] x = f203_I k F215 F216 x.1 x.2.1 x.2.2.1 :=
 ((f203_e k F215 F216 x).trans (congrArg (fun (J : f203_Vl3 → Option ((Int × (Option (Nat × Bool)) × Unit) × (Unit))) => f203_b F215 F216 J x.1 x.2.1 x.2.2.1) (funext (f203_ll3 k F215 F216))))
theorem f203_ok (k : Nat) (F215 : (Int × Unit) → Option ((Int × Unit) × (Unit))) (F216 : ((List UInt8) × Unit) → Option ((Bool × Unit) × (Unit))) (h215 : FnOk Tryz.prog 215 ⟨[.val (.int .u8)], [(.int .u8)], F215⟩) (h216 : FnOk Tryz.prog 216 ⟨[.val .str], [.bool], F216⟩) : FnOk Tryz.prog 203 ⟨[.val .str, .val (.int .i64), .val (.int .i64)], [(.int .u64), (.fn .bool)], fun x => f203_I k F215 F216 x.1 x.2.1 x.2.2.1⟩ :=
 (fn_ok (an := f203_an) (k := k) follows_mixed tys_ok ⟨look_fn (AllFn.cons h215 (AllFn.cons h216 (AllFn.nil))), look_new AllNew.nil⟩ Tryz.func203 rfl rfl rfl).of (funext (f203_eq k F215 F216))
/-! internal/stringslite.CutPrefix -/
abbrev f202_cx (F214 : ((List UInt8) × (List UInt8) × Unit) → Option ((Bool × Unit) × (Unit))) : Cx := ⟨look tys, look [(214, ⟨[.val .str, .val .str], [.bool], F214⟩)], 15, look [], [], []⟩
def f202_an : Ann := ⟨look [], look []⟩
def f202_b (F214 : ((List UInt8) × (List UInt8) × Unit) → Option ((Bool × Unit) × (Unit)))  (a0 : (List UInt8)) (a1 : (List UInt8)) : Option (((List UInt8) × Bool × Unit) × (Unit)) :=
 Option.bind (F214 (a0, a1, ())) fun r1 =>
 bif (!r1.1.1) then (some ((a0, false, ()), ()))
 else (chk ((decide (0 ≤ (a1.length : Int))) && (decide ((a1.length : Int).toNat ≤ a0.length))) <|
 some (((a0.drop (a1.length : Int).toNat), true, ()), ()))
def f202_I (k : Nat) (F214 : ((List UInt8) × (List UInt8) × Unit) → Option ((Bool × Unit) × (Unit))) (a0 : (List UInt8)) (a1 : (List UInt8)) : Option (((List UInt8) × Bool × Unit) × (Unit)) := f202_b F214 a0 a1
theorem f202_eq (k : Nat) (F214 : ((List UInt8) × (List UInt8) × Unit) → Option ((Bool × Unit) × (Unit))) (x : ((List UInt8) × (List UInt8) × Unit)) : vfun (f202_cx F214) f202_an k Tryz.f202 [.val .str, .val .str] [.str, .bool] x = f202_I k F214 x.1 x.2.1 := by kernel_rfl
theorem f202_ok (k : Nat) (F214 : ((List UInt8) × (List UInt8) × Unit) → Option ((Bool × Unit) × (Unit))) (h214 : FnOk Tryz.prog 214 ⟨[.val .str, .val .str], [.bool], F214⟩) : FnOk Tryz.prog 202 ⟨[.val .str, .val .str], [.str, .bool], fun x => f202_I k F214 x.1 x.2.1⟩ :=
 (fn_ok (an := f202_an) (k := k) follows_mixed tys_ok ⟨look_fn (AllFn.cons h214 (AllFn.nil)), look_new AllNew.nil⟩ Tryz.func202 rfl rfl rfl).of (funext (f202_eq k F214))
/-! internal/stringslite.TrimPrefix -/
abbrev f201_cx (F214 : ((List UInt8) × (List UInt8) × Unit) → Option ((Bool × Unit) × (Unit))) : Cx := ⟨look tys, look [(214, ⟨[.val .str, .val .str], [.bool], F214⟩)], 13, look [], [], []⟩
def f201_an : Ann := ⟨look [], look []⟩
def f201_b (F214 : ((List UInt8) × (List UInt8) × Unit) → Option ((Bool × Unit) × (Unit)))  (a0 : (List UInt8)) (a1 : (List UInt8)) : Option (((List UInt8) × Unit) × (Unit)) :=
 Option.bind (F214 (a0, a1, ())) fun r1 =>
 bif r1.1.1 then (chk ((decide (0 ≤ (a1.length : Int))) && (decide ((a1.length : Int).toNat ≤ a0.length))) <|
 some (((a0.drop (a1.length : Int).toNat), ()), ()))
 else (some ((a0, ()), ()))
def f201_I (k : Nat) (F214 : ((List UInt8) × (List UInt8) × Unit) → Option ((Bool × Unit) × (Unit))) (a0 : (List UInt8)) (a1 : (List UInt8)) : Option (((List UInt8) × Unit) × (Unit)) := f201_b F214 a0 a1
theorem f201_eq (k : Nat) (F214 : ((List UInt8) × (List UInt8) × Unit) → Option ((Bool × Unit) × (Unit))) (x : ((List UInt8) × (List UInt8) × Unit)) : vfun (f201_cx F214) f201_an k Tryz.f201 [.val .str, .val .str] [.str] x = f201_I k F214 x.1 x.2.1 := by kernel_rfl
theorem f201_ok (k : Nat) (F214 : ((List UInt8) × (List UInt8) × Unit) → Option ((Bool × Unit) × (Unit))) (h214 : FnOk Tryz.prog 214 ⟨[.val .str, .val .str], [.bool], F214⟩) : FnOk Tryz.prog 201 ⟨[.val .str, .val .str], [.str], fun x => f201_I k F214 x.1 x.2.1⟩ :=
 (fn_ok (an := f201_an) (k := k) follows_mixed tys_ok ⟨look_fn (AllFn.cons h214 (AllFn.nil)), look_new AllNew.nil⟩ Tryz.func201 rfl rfl rfl).of (funext (f201_eq k F214))
/-! internal/stringslite.Index -/
abbrev f200_cx (F210 : ((List UInt8) × Int × Unit) → Option ((Int × Unit) × (Unit))) : Cx := ⟨look tys, look [(210, ⟨[.val .str, .val (.int .u8)], [(.int .i64)], F210⟩)], 143, look [], [], []⟩
def f200_an : Ann := ⟨look [], look []⟩
def f200_b (F210 : ((List UInt8) × Int × Unit) → Option ((Int × Unit) × (Unit)))  (a0 : (List UInt8)) (a1 : (List UInt8)) : Option ((Int × Unit) × (Unit)) :=
 bif ((a1.length : Int) == 0) then (some ((0, ()), ()))
 else (bif (a1 == a0) then (some ((0, ()), ()))
 else (bif ((a1.length : Int) == 1) then (rd a1 0 fun y1 =>
 Option.bind (F210 (a0, (y1.toNat : Int), ())) fun r2 =>
 some ((r2.1.1, ()), ()))
 else (bif (decide ((a1.length : Int) ≥ (a0.length : Int))) then (some (((-1), ()), ()))
 else (none))))
def f200_I (k : Nat) (F210 : ((List UInt8) × Int × Unit) → Option ((Int × Unit) × (Unit))) (a0 : (List UInt8)) (a1 : (List UInt8)) : Option ((Int × Unit) × (Unit)) := f200_b F210 a0 a1
theorem f200_eq (k : Nat) (F210 : ((List UInt8) × Int × Unit) → Option ((Int × Unit) × (Unit))) (x : ((List UInt8) × (List UInt8) × Unit)) : vfun (f200_cx F210) f200_an k Tryz.f200 [.val .str, .val .str] [(.int .i64)] x = f200_I k F210 x.1 x.2.1 := by kernel_rfl
theorem f200_ok (k : Nat) (F210 : ((List UInt8) × Int × Unit) → Option ((Int × Unit) × (Unit))) (h210 : FnOk Tryz.prog 210 ⟨[.val .str, .val (.int .u8)], [(.int .i64)], F210⟩) : FnOk Tryz.prog 200 ⟨[.val .str, .val .str], [(.int .i64)], fun x => f200_I k F210 x.1 x.2.1⟩ :=
 (fn_ok (an := f200_an) (k := k) follows_mixed tys_ok ⟨look_fn (AllFn.cons h210 (AllFn.nil)), look_new AllNew.nil⟩ Tryz.func200 rfl rfl rfl).of (funext (f200_eq k F210))
/-! (joinlearn/limbs.natural).gcd -/
abbrev f199_cx (F209 : ((List Int) × (List Int) × Unit) → Option (((List Int) × (List Int) × Unit) × (Unit))) (F179 : ((List Int) × Unit) → Option ((Int × Unit) × (Unit))) (F187 : ((List Int) × Unit) → Option (((List Int) × Unit) × (Unit))) : Cx := ⟨look tys, look [(209, ⟨[.val (.list (.int .u64)), .val (.list (.int .u64))], [(.list (.int .u64)), (.list (.int .u64))], F209⟩), (179, ⟨[.val (.list (.int .u64))], [(.int .u64)], F179⟩), (187, ⟨[.val (.list (.int .u64))], [(.list (.int .u64))], F187⟩)], 53, look [], [], []⟩
def f199_an : Ann := ⟨look [(0, ⟨[0, 1], [], []⟩), (2, ⟨[9, 10], [], []⟩)], look []⟩
abbrev f199_Vl0 : Type := (List Int) × (List Int)
def f199_Tl0 (v : f199_Vl0) : Nat → LV := tbl [(0, .c (.s (.list (.int .u64)) v.1)), (1, .c (.s (.list (.int .u64)) v.2))]
def f199_Hl0 (v : f199_Vl0) : Nat → Option VO := tblH []

abbrev f199_Vl2 : Type := Int × Int
def f199_Tl2 (v : f199_Vl2) : Nat → LV := tbl [(9, .c (.s (.int .u64) v.1)), (10, .c (.s (.int .u64) v.2))]
def f199_Hl2 (v : f199_Vl2) : Nat → Option VO := tblH []

def f199_bl0 (F209 : ((List Int) × (List Int) × Unit) → Option (((List Int) × (List Int) × Unit) × (Unit))) (F179 : ((List Int) × Unit) → Option ((Int × Unit) × (Unit))) (F187 : ((List Int) × Unit) → Option (((List Int) × Unit) × (Unit))) (Jl0 : f199_Vl0 → Option (((List Int) × Unit) × (Unit))) (Jl2 : f199_Vl2 → Option (((List Int) × Unit) × (Unit))) : f199_Vl0 → Option (((List Int) × Unit) × (Unit)) := fun (x1, x2) =>
 bif (decide ((x2.length : Int) > 2)) then (Option.bind (F209 (x1, x2, ())) fun r3 =>
 Jl0 (x2, r3.1.2.1))
 else (bif ((x2.length : Int) == 0) then (some ((x1, ()), ()))
 else (bif (decide ((x1.length : Int) > 2)) then (Option.bind (F209 (x1, x2, ())) fun r4 =>
 Option.bind (F179 (x2, ())) fun r5 =>
 Option.bind (F179 (r4.1.2.1, ())) fun r6 =>
 Jl2 (r5.1.1, r6.1.1))
 else (Option.bind (F179 (x1, ())) fun r9 =>
 Option.bind (F179 (x2, ())) fun r10 =>
 Jl2 (r9.1.1, r10.1.1))))
def f199_bl2 (F209 : ((List Int) × (List Int) × Unit) → Option (((List Int) × (List Int) × Unit) × (Unit))) (F179 : ((List Int) × Unit) → Option ((Int × Unit) × (Unit))) (F187 : ((List Int) × Unit) → Option (((List Int) × Unit) × (Unit))) (Jl2 : f199_Vl2 → Option (((List Int) × Unit) × (Unit))) : f199_Vl2 → Option (((List Int) × Unit) × (Unit)) := fun (x7, x8) =>
 bif (x8 != 0) then (bif (decide (x8 = 0)) then (none)
 else (Jl2 (x8, (x7.tmod x8))))
 else (Option.bind (F187 (([(x7.tmod 1000000000), (IntKind.wrap .u64 (x7.tdiv 1000000000))] : List Int), ())) fun r11 =>
 some ((r11.1.1, ()), ()))
def f199_b (F209 : ((List Int) × (List Int) × Unit) → Option (((List Int) × (List Int) × Unit) × (Unit))) (F179 : ((List Int) × Unit) → Option ((Int × Unit) × (Unit))) (F187 : ((List Int) × Unit) → Option (((List Int) × Unit) × (Unit))) (Jl0 : f199_Vl0 → Option (((List Int) × Unit) × (Unit))) (a0 : (List Int)) (a1 : (List Int)) : Option (((List Int) × Unit) × (Unit)) :=
 Jl0 (a0, a1)
def f199_Ll2 (k : Nat) (F209 : ((List Int) × (List Int) × Unit) → Option (((List Int) × (List Int) × Unit) × (Unit))) (F179 : ((List Int) × Unit) → Option ((Int × Unit) × (Unit))) (F187 : ((List Int) × Unit) → Option (((List Int) × Unit) × (Unit)))  : f199_Vl2 → Option (((List Int) × Unit) × (Unit)) := loopI (fun Jl2 => f199_bl2 F209 F179 F187 Jl2) k
def f199_Ll0 (k : Nat) (F209 : ((List Int) × (List Int) × Unit) → Option (((List Int) × (List Int) × Unit) × (Unit))) (F179 : ((List Int) × Unit) → Option ((Int × Unit) × (Unit))) (F187 : ((List Int) × Unit) → Option (((List Int) × Unit) × (Unit)))  : f199_Vl0 → Option (((List Int) × Unit) × (Unit)) := loopI (fun Jl0 => f199_bl0 F209 F179 F187 Jl0 (f199_Ll2 k F209 F179 F187)) k
def f199_I (k : Nat) (F209 : ((List Int) × (List Int) × Unit) → Option (((List Int) × (List Int) × Unit) × (Unit))) (F179 : ((List Int) × Unit) → Option ((Int × Unit) × (Unit))) (F187 : ((List Int) × Unit) → Option (((List Int) × Unit) × (Unit))) (a0 : (List Int)) (a1 : (List Int)) : Option (((List Int) × Unit) × (Unit)) := f199_b F209 F179 F187 (f199_Ll0 k F209 F179 F187) a0 a1
theorem f199_el2 (k : Nat) (F209 : ((List Int) × (List Int) × Unit) → Option (((List Int) × (List Int) × Unit) × (Unit))) (F179 : ((List Int) × Unit) → Option ((Int × Unit) × (Unit))) (F187 : ((List Int) × Unit) → Option (((List Int) × Unit) × (Unit))) (Al2 : Jump (((List Int) × Unit) × (Unit))) (v : f199_Vl2) : rawBody (f199_cx F209 F179 F187) f199_an k (bodyOf Tryz.f199) [1, 1, 1, 1, 1, 0, 0] [] (vend (f199_cx F209 F179 F187) Tryz.f199 [.val (.list (.int .u64)), .val (.list (.int .u64))] [(.list (.int .u64))]) Al2 (f199_Tl2 v) (f199_Hl2 v) =
 f199_bl2 F209 F179 F187 (fun v => Al2 (f199_Tl2 v) (f199_Hl2 v)) v := by kernel_rfl
theorem f199_ll2 (k : Nat) (F209 : ((List Int) × (List Int) × Unit) → Option (((List Int) × (List Int) × Unit) × (Unit))) (F179 : ((List Int) × Unit) → Option ((Int × Unit) × (Unit))) (F187 : ((List Int) × Unit) → Option (((List Int) × Unit) × (Unit))) (v : f199_Vl2) : rawLoop (f199_cx F209 F179 F187) f199_an k (bodyOf Tryz.f199) [1, 1, 1, 1, 1, 0, 0] [] (vend (f199_cx F209 F179 F187) Tryz.f199 [.val (.list (.int .u64)), .val (.list (.int .u64))] [(.list (.int .u64))]) k (f199_Tl2 v) (f199_Hl2 v) = f199_Ll2 k F209 F179 F187 v :=
 rawLoop_eq (bI := fun Jl2 => f199_bl2 F209 F179 F187 Jl2) f199_Tl2 f199_Hl2 (fun Al2 v => (f199_el2 k F209 F179 F187 Al2 v)) k v
theorem f199_el0 (k : Nat) (F209 : ((List Int) × (List Int) × Unit) → Option (((List Int) × (List Int) × Unit) × (Unit))) (F179 : ((List Int) × Unit) → Option ((Int × Unit) × (Unit))) (F187 : ((List Int) × Unit) → Option (((List Int) × Unit) × (Unit))) (Al0 : Jump (((List Int) × Unit) × (Unit))) (v : f199_Vl0) : rawBody (f199_cx F209 F179 F187) f199_an k (bodyOf Tryz.f199) [1, 0, 0] [] (vend (f199_cx F209 F179 F187) Tryz.f199 [.val (.list (.int .u64)), .val (.list (.int .u64))] [(.list (.int .u64))]) Al0 (f199_Tl0 v) (f199_Hl0 v) =
 f199_bl0 F209 F179 F187 (fun v => Al0 (f199_Tl0 v) (f199_Hl0 v)) (fun v => rawLoop (f199_cx F209 F179 F187) f199_an k (bodyOf Tryz.f199) [1, 1, 1, 1, 1, 0, 0] [] (vend (f199_cx F209 F179 F187) Tryz.f199 [.val (.list (.int .u64)), .val (.list (.int .u64))] [(.list (.int .u64))]) k (f199_Tl2 v) (f199_Hl2 v)) v := by kernel_rfl
theorem f199_ll0 (k : Nat) (F209 : ((List Int) × (List Int) × Unit) → Option (((List Int) × (List Int) × Unit) × (Unit))) (F179 : ((List Int) × Unit) → Option ((Int × Unit) × (Unit))) (F187 : ((List Int) × Unit) → Option (((List Int) × Unit) × (Unit))) (v : f199_Vl0) : rawLoop (f199_cx F209 F179 F187) f199_an k (bodyOf Tryz.f199) [1, 0, 0] [] (vend (f199_cx F209 F179 F187) Tryz.f199 [.val (.list (.int .u64)), .val (.list (.int .u64))] [(.list (.int .u64))]) k (f199_Tl0 v) (f199_Hl0 v) = f199_Ll0 k F209 F179 F187 v :=
 rawLoop_eq (bI := fun Jl0 => f199_bl0 F209 F179 F187 Jl0 (f199_Ll2 k F209 F179 F187)) f199_Tl0 f199_Hl0 (fun Al0 v => ((f199_el0 k F209 F179 F187 Al0 v).trans (congrArg (fun (J : f199_Vl2 → Option (((List Int) × Unit) × (Unit))) => f199_bl0 F209 F179 F187 (fun v => Al0 (f199_Tl0 v) (f199_Hl0 v)) J v) (funext (f199_ll2 k F209 F179 F187))))) k v
theorem f199_e (k : Nat) (F209 : ((List Int) × (List Int) × Unit) → Option (((List Int) × (List Int) × Unit) × (Unit))) (F179 : ((List Int) × Unit) → Option ((Int × Unit) × (Unit))) (F187 : ((List Int) × Unit) → Option (((List Int) × Unit) × (Unit))) (x : ((List Int) × (List Int) × Unit)) : vfun (f199_cx F209 F179 F187) f199_an k Tryz.f199 [.val (.list (.int .u64)), .val (.list (.int .u64))] [(.list (.int .u64))] x =
 f199_b F209 F179 F187 (fun v => rawLoop (f199_cx F209 F179 F187) f199_an k (bodyOf Tryz.f199) [1, 0, 0] [] (vend (f199_cx F209 F179 F187) Tryz.f199 [.val (.list (.int .u64)), .val (.list (.int .u64))] [(.list (.int .u64))]) k (f199_Tl0 v) (f199_Hl0 v)) x.1 x.2.1 := by kernel_rfl
theorem f199_eq (k : Nat) (F209 : ((List Int) × (List Int) × Unit) → Option (((List Int) × (List Int) × Unit) × (Unit))) (F179 : ((List Int) × Unit) → Option ((Int × Unit) × (Unit))) (F187 : ((List Int) × Unit) → Option (((List Int) × Unit) × (Unit))) (x : ((List Int) × (List Int) × Unit)) : vfun (f199_cx F209 F179 F187) f199_an k Tryz.f199 [.val (.list (.int .u64)), .val (.list (.int .u64))] [(.list (.int .u64))] x = f199_I k F209 F179 F187 x.1 x.2.1 :=
 ((f199_e k F209 F179 F187 x).trans (congrArg (fun (J : f199_Vl0 → Option (((List Int) × Unit) × (Unit))) => f199_b F209 F179 F187 J x.1 x.2.1) (funext (f199_ll0 k F209 F179 F187))))
theorem f199_ok (k : Nat) (F209 : ((List Int) × (List Int) × Unit) → Option (((List Int) × (List Int) × Unit) × (Unit))) (F179 : ((List Int) × Unit) → Option ((Int × Unit) × (Unit))) (F187 : ((List Int) × Unit) → Option (((List Int) × Unit) × (Unit))) (h209 : FnOk Tryz.prog 209 ⟨[.val (.list (.int .u64)), .val (.list (.int .u64))], [(.list (.int .u64)), (.list (.int .u64))], F209⟩) (h179 : FnOk Tryz.prog 179 ⟨[.val (.list (.int .u64))], [(.int .u64)], F179⟩) (h187 : FnOk Tryz.prog 187 ⟨[.val (.list (.int .u64))], [(.list (.int .u64))], F187⟩) : FnOk Tryz.prog 199 ⟨[.val (.list (.int .u64)), .val (.list (.int .u64))], [(.list (.int .u64))], fun x => f199_I k F209 F179 F187 x.1 x.2.1⟩ :=
 (fn_ok (an := f199_an) (k := k) follows_mixed tys_ok ⟨look_fn (AllFn.cons h209 (AllFn.cons h179 (AllFn.cons h187 (AllFn.nil)))), look_new AllNew.nil⟩ Tryz.func199 rfl rfl rfl).of (funext (f199_eq k F209 F179 F187))
end Go.JL
