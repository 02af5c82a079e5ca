/- Functions of the program as plain Lean functions. Printed by a program of mine; checked by the kernel. -/
import Derived.Test.YtnepcgaphhgbnaaGreatDoorFa
set_option linter.unusedVariables false
set_option maxRecDepth 100000
namespace Go.JL
open Go.Proofs
/-! (joinlearn/joinlearnref01.Big).Quo -/
abbrev f149_cx (F136 : ((Bool × (List Int)) × Unit) → Option (((Bool × (List Int)) × Unit) × (Unit))) (F138 : ((List Int) × (List Int) × Unit) → Option ((Int × Unit) × (Unit))) (F180 : ((List Int) × Int × Unit) → Option (((List Int) × Unit) × (Unit))) (F181 : ((List Int) × (List Int) × Unit) → Option (((List Int) × Unit) × (Unit))) : Cx := ⟨look tys, look [(136, ⟨[.val (.pair .bool (.list (.int .i64)))], [(.pair .bool (.list (.int .i64)))], F136⟩), (138, ⟨[.val (.list (.int .i64)), .val (.list (.int .i64))], [(.int .i64)], F138⟩), (180, ⟨[.val (.list (.int .i64)), .val (.int .i64)], [(.list (.int .i64))], F180⟩), (181, ⟨[.val (.list (.int .i64)), .val (.list (.int .i64))], [(.list (.int .i64))], F181⟩)], 127, look [], [], []⟩
def f149_an : Ann := ⟨look [(0, ⟨[2, 3, 4, 5, 6, 7, 8], [200, 300, 400, 402, 500, 502, 1700], []⟩), (2, ⟨[2, 3, 4, 5, 6, 7, 8, 9, 10], [200, 300, 400, 402, 500, 502, 1700], []⟩)], look []⟩
abbrev f149_Vl0 : Type := (List Int) × Int × Bool × (List Int) × Bool × (List Int) × Bool × (List Int) × Bool × (List Int) × (List Int)
def f149_Tl0 (v : f149_Vl0) : Nat → LV := tbl [(2, .c (.ptr 200 0 0)), (3, .c (.ptr 300 0 0)), (4, .c (.ptr 400 0 0)), (5, .c (.ptr 500 0 0)), (6, .c (.s (.list (.int .i64)) v.1)), (7, .c (.own 1700 0 .full)), (8, .c (.s (.int .i64) v.2.1))]
def f149_Hl0 (v : f149_Vl0) : Nat → Option VO := tblH [(200, some ⟨0, .cells [.s .bool v.2.2.1, .s (.list (.int .i64)) v.2.2.2.1], false⟩), (300, some ⟨0, .cells [.s .bool v.2.2.2.2.1, .s (.list (.int .i64)) v.2.2.2.2.2.1], false⟩), (400, some ⟨0, .cells [.s .bool v.2.2.2.2.2.2.1, .own 402 0 .full], false⟩), (402, some ⟨0, .row (.int .i64) v.2.2.2.2.2.2.2.1, false⟩), (500, some ⟨0, .cells [.s .bool v.2.2.2.2.2.2.2.2.1, .own 502 0 .full], false⟩), (502, some ⟨0, .row (.int .i64) v.2.2.2.2.2.2.2.2.2.1, false⟩), (1700, some ⟨0, .row (.int .i64) v.2.2.2.2.2.2.2.2.2.2, false⟩)]

abbrev f149_Vl2 : Type := (List Int) × Int × Int × Int × Bool × (List Int) × Bool × (List Int) × Bool × (List Int) × Bool × (List Int) × (List Int)
def f149_Tl2 (v : f149_Vl2) : Nat → LV := tbl [(2, .c (.ptr 200 0 0)), (3, .c (.ptr 300 0 0)), (4, .c (.ptr 400 0 0)), (5, .c (.ptr 500 0 0)), (6, .c (.s (.list (.int .i64)) v.1)), (7, .c (.own 1700 0 .full)), (8, .c (.s (.int .i64) v.2.1)), (9, .c (.s (.int .i64) v.2.2.1)), (10, .c (.s (.int .i64) v.2.2.2.1))]
def f149_Hl2 (v : f149_Vl2) : Nat → Option VO := tblH [(200, some ⟨0, .cells [.s .bool v.2.2.2.2.1, .s (.list (.int .i64)) v.2.2.2.2.2.1], false⟩), (300, some ⟨0, .cells [.s .bool v.2.2.2.2.2.2.1, .s (.list (.int .i64)) v.2.2.2.2.2.2.2.1], false⟩), (400, some ⟨0, .cells [.s .bool v.2.2.2.2.2.2.2.2.1, .own 402 0 .full], false⟩), (402, some ⟨0, .row (.int .i64) v.2.2.2.2.2.2.2.2.2.1, false⟩), (500, some ⟨0, .cells [.s .bool v.2.2.2.2.2.2.2.2.2.2.1, .own 502 0 .full], false⟩), (502, some ⟨0, .row (.int .i64) v.2.2.2.2.2.2.2.2.2.2.2.1, false⟩), (1700, some ⟨0, .row (.int .i64) v.2.2.2.2.2.2.2.2.2.2.2.2, false⟩)]

def f149_bl0 (F136 : ((Bool × (List Int)) × Unit) → Option (((Bool × (List Int)) × Unit) × (Unit))) (F138 : ((List Int) × (List Int) × Unit) → Option ((Int × Unit) × (Unit))) (F180 : ((List Int) × Int × Unit) → Option (((List Int) × Unit) × (Unit))) (F181 : ((List Int) × (List Int) × Unit) → Option (((List Int) × Unit) × (Unit))) (Jl2 : f149_Vl2 → Option (((Bool × (List Int)) × (Bool × (List Int)) × Unit) × (Unit))) : f149_Vl0 → Option (((Bool × (List Int)) × (Bool × (List Int)) × Unit) × (Unit)) := fun (x1, x2, x3, x4, x5, x6, x7, l8, x9, l10, l11) =>
 bif (decide (x2 ≥ 0)) then (rd x4 x2 fun y12 =>
 chk (roomFor (1 + x1.length) 8) <|
 Option.bind (F136 ((false, (([y12] : List Int) ++ x1)), ())) fun r13 =>
 Option.bind (F138 (r13.1.1.2, x6, ())) fun r14 =>
 bif (decide (r14.1.1 ≥ 0)) then (rd r13.1.1.2 (w64 ((x6.length : Int) - 1)) fun y15 =>
 bif (decide ((r13.1.1.2.length : Int) > (x6.length : Int))) then (rd r13.1.1.2 (x6.length : Int) fun y16 =>
 rd x6 (w64 ((x6.length : Int) - 1)) fun y17 =>
 bif (decide (y17 = 0)) then (none)
 else (rd x6 (w64 ((x6.length : Int) - 1)) fun y18 =>
 bif (decide ((w64 (y18 + 1)) = 0)) then (none)
 else (Jl2 (r13.1.1.2, x2, (if (w64 ((w64 (y15 + (w64 (y16 * 1000000000)))).tdiv (w64 (y18 + 1)))) < (if (w64 ((w64 (y15 + (w64 (y16 * 1000000000)))).tdiv y17)) < 999999999 then (w64 ((w64 (y15 + (w64 (y16 * 1000000000)))).tdiv y17)) else 999999999) then (w64 ((w64 (y15 + (w64 (y16 * 1000000000)))).tdiv (w64 (y18 + 1)))) else (if (w64 ((w64 (y15 + (w64 (y16 * 1000000000)))).tdiv y17)) < 999999999 then (w64 ((w64 (y15 + (w64 (y16 * 1000000000)))).tdiv y17)) else 999999999)), (if (w64 ((w64 (y15 + (w64 (y16 * 1000000000)))).tdiv y17)) < 999999999 then (w64 ((w64 (y15 + (w64 (y16 * 1000000000)))).tdiv y17)) else 999999999), x3, x4, x5, x6, x7, l8, x9, l10, l11))))
 else (rd x6 (w64 ((x6.length : Int) - 1)) fun y32 =>
 bif (decide (y32 = 0)) then (none)
 else (rd x6 (w64 ((x6.length : Int) - 1)) fun y33 =>
 bif (decide ((w64 (y33 + 1)) = 0)) then (none)
 else (Jl2 (r13.1.1.2, x2, (if (w64 (y15.tdiv (w64 (y33 + 1)))) < (if (w64 (y15.tdiv y32)) < 999999999 then (w64 (y15.tdiv y32)) else 999999999) then (w64 (y15.tdiv (w64 (y33 + 1)))) else (if (w64 (y15.tdiv y32)) < 999999999 then (w64 (y15.tdiv y32)) else 999999999)), (if (w64 (y15.tdiv y32)) < 999999999 then (w64 (y15.tdiv y32)) else 999999999), x3, x4, x5, x6, x7, l8, x9, l10, l11)))))
 else (Jl2 (r13.1.1.2, x2, 0, 0, x3, x4, x5, x6, x7, l8, x9, l10, l11)))
 else (Option.bind (F136 (((!(x3 == x5)), l11), ())) fun r34 =>
 Option.bind (F136 ((x3, x1), ())) fun r35 =>
 some ((r34.1.1, r35.1.1, ()), ()))
def f149_bl2 (F136 : ((Bool × (List Int)) × Unit) → Option (((Bool × (List Int)) × Unit) × (Unit))) (F138 : ((List Int) × (List Int) × Unit) → Option ((Int × Unit) × (Unit))) (F180 : ((List Int) × Int × Unit) → Option (((List Int) × Unit) × (Unit))) (F181 : ((List Int) × (List Int) × Unit) → Option (((List Int) × Unit) × (Unit))) (Jl0 : f149_Vl0 → Option (((Bool × (List Int)) × (Bool × (List Int)) × Unit) × (Unit))) (Jl2 : f149_Vl2 → Option (((Bool × (List Int)) × (Bool × (List Int)) × Unit) × (Unit))) : f149_Vl2 → Option (((Bool × (List Int)) × (Bool × (List Int)) × Unit) × (Unit)) := fun (x19, x20, x21, x22, x23, x24, x25, x26, x27, l28, x29, l30, l31) =>
 bif (decide (x21 < x22)) then (Option.bind (F180 (x26, (w64 ((w64 ((w64 (x21 + x22)) + 1)).tdiv 2)), ())) fun r36 =>
 Option.bind (F138 (r36.1.1, x19, ())) fun r37 =>
 bif (decide (r37.1.1 ≤ 0)) then (Jl2 (x19, x20, (w64 ((w64 ((w64 (x21 + x22)) + 1)).tdiv 2)), x22, x23, x24, x25, x26, x27, l28, x29, l30, l31))
 else (Jl2 (x19, x20, x21, (w64 ((w64 ((w64 ((w64 (x21 + x22)) + 1)).tdiv 2)) - 1)), x23, x24, x25, x26, x27, l28, x29, l30, l31)))
 else (chk (decide (0 ≤ x20)) <|
 chk (decide (x20.toNat < l31.length)) <|
 Option.bind l31[x20.toNat]? fun y38 =>
 bif (decide (x21 > 0)) then (Option.bind (F180 (x26, x21, ())) fun r39 =>
 Option.bind (F181 (x19, r39.1.1, ())) fun r40 =>
 Option.bind (F136 ((false, r40.1.1), ())) fun r41 =>
 Jl0 (r41.1.1.2, (w64 (x20 - 1)), x23, x24, x25, x26, x27, l28, x29, l30, (l31.set x20.toNat x21)))
 else (Jl0 (x19, (w64 (x20 - 1)), x23, x24, x25, x26, x27, l28, x29, l30, (l31.set x20.toNat x21))))
def f149_b (F136 : ((Bool × (List Int)) × Unit) → Option (((Bool × (List Int)) × Unit) × (Unit))) (F138 : ((List Int) × (List Int) × Unit) → Option ((Int × Unit) × (Unit))) (F180 : ((List Int) × Int × Unit) → Option (((List Int) × Unit) × (Unit))) (F181 : ((List Int) × (List Int) × Unit) → Option (((List Int) × Unit) × (Unit))) (Jl0 : f149_Vl0 → Option (((Bool × (List Int)) × (Bool × (List Int)) × Unit) × (Unit))) (a0 : (Bool × (List Int))) (a1 : (Bool × (List Int))) : Option (((Bool × (List Int)) × (Bool × (List Int)) × Unit) × (Unit)) :=
 chk ((decide (0 ≤ (a0.2.length : Int))) && (decide (8 * (a0.2.length : Int).toNat ≤ 140737488355328))) <|
 Jl0 (([] : List Int), (w64 ((a0.2.length : Int) - 1)), a0.1, a0.2, a1.1, a1.2, false, ([] : List Int), false, ([] : List Int), (List.replicate (a0.2.length : Int).toNat (0 : Int)))
def f149_Ll2 (k : Nat) (F136 : ((Bool × (List Int)) × Unit) → Option (((Bool × (List Int)) × Unit) × (Unit))) (F138 : ((List Int) × (List Int) × Unit) → Option ((Int × Unit) × (Unit))) (F180 : ((List Int) × Int × Unit) → Option (((List Int) × Unit) × (Unit))) (F181 : ((List Int) × (List Int) × Unit) → Option (((List Int) × Unit) × (Unit))) (Jl0 : f149_Vl0 → Option (((Bool × (List Int)) × (Bool × (List Int)) × Unit) × (Unit))) : f149_Vl2 → Option (((Bool × (List Int)) × (Bool × (List Int)) × Unit) × (Unit)) := loopI (fun Jl2 => f149_bl2 F136 F138 F180 F181 Jl0 Jl2) k
def f149_Ll0 (k : Nat) (F136 : ((Bool × (List Int)) × Unit) → Option (((Bool × (List Int)) × Unit) × (Unit))) (F138 : ((List Int) × (List Int) × Unit) → Option ((Int × Unit) × (Unit))) (F180 : ((List Int) × Int × Unit) → Option (((List Int) × Unit) × (Unit))) (F181 : ((List Int) × (List Int) × Unit) → Option (((List Int) × Unit) × (Unit)))  : f149_Vl0 → Option (((Bool × (List Int)) × (Bool × (List Int)) × Unit) × (Unit)) := loopI (fun Jl0 => f149_bl0 F136 F138 F180 F181 (f149_Ll2 k F136 F138 F180 F181 Jl0)) k
def f149_I (k : Nat) (F136 : ((Bool × (List Int)) × Unit) → Option (((Bool × (List Int)) × Unit) × (Unit))) (F138 : ((List Int) × (List Int) × Unit) → Option ((Int × Unit) × (Unit))) (F180 : ((List Int) × Int × Unit) → Option (((List Int) × Unit) × (Unit))) (F181 : ((List Int) × (List Int) × Unit) → Option (((List Int) × Unit) × (Unit))) (a0 : (Bool × (List Int))) (a1 : (Bool × (List Int))) : Option (((Bool × (List Int)) × (Bool × (List Int)) × Unit) × (Unit)) := f149_b F136 F138 F180 F181 (f149_Ll0 k F136 F138 F180 F181) a0 a1
theorem f149_el2 (k : Nat) (F136 : ((Bool × (List Int)) × Unit) → Option (((Bool × (List Int)) × Unit) × (Unit))) (F138 : ((List Int) × (List Int) × Unit) → Option ((Int × Unit) × (Unit))) (F180 : ((List Int) × Int × Unit) → Option (((List Int) × Unit) × (Unit))) (F181 : ((List Int) × (List Int) × Unit) → Option (((List Int) × Unit) × (Unit))) (Al0 : Jump (((Bool × (List Int)) × (Bool × (List Int)) × Unit) × (Unit))) (Al2 : Jump (((Bool × (List Int)) × (Bool × (List Int)) × Unit) × (Unit))) (v : f149_Vl2) : rawBody (f149_cx F136 F138 F180 F181) f149_an k (bodyOf Tryz.f149) [1, 1, 1, 0, 1, 0, 0, 1, 0, 0, 1, 1, 1, 0, 0] [Al0] (vend (f149_cx F136 F138 F180 F181) Tryz.f149 [.val (.pair .bool (.list (.int .i64))), .val (.pair .bool (.list (.int .i64)))] [(.pair .bool (.list (.int .i64))), (.pair .bool (.list (.int .i64)))]) Al2 (f149_Tl2 v) (f149_Hl2 v) =
 f149_bl2 F136 F138 F180 F181 (fun v => Al0 (f149_Tl0 v) (f149_Hl0 v)) (fun v => Al2 (f149_Tl2 v) (f149_Hl2 v)) v := by kernel_rfl
theorem f149_ll2 (k : Nat) (F136 : ((Bool × (List Int)) × Unit) → Option (((Bool × (List Int)) × Unit) × (Unit))) (F138 : ((List Int) × (List Int) × Unit) → Option ((Int × Unit) × (Unit))) (F180 : ((List Int) × Int × Unit) → Option (((List Int) × Unit) × (Unit))) (F181 : ((List Int) × (List Int) × Unit) → Option (((List Int) × Unit) × (Unit))) (Al0 : Jump (((Bool × (List Int)) × (Bool × (List Int)) × Unit) × (Unit))) (v : f149_Vl2) : rawLoop (f149_cx F136 F138 F180 F181) f149_an k (bodyOf Tryz.f149) [1, 1, 1, 0, 1, 0, 0, 1, 0, 0, 1, 1, 1, 0, 0] [Al0] (vend (f149_cx F136 F138 F180 F181) Tryz.f149 [.val (.pair .bool (.list (.int .i64))), .val (.pair .bool (.list (.int .i64)))] [(.pair .bool (.list (.int .i64))), (.pair .bool (.list (.int .i64)))]) k (f149_Tl2 v) (f149_Hl2 v) = f149_Ll2 k F136 F138 F180 F181 (fun v => Al0 (f149_Tl0 v) (f149_Hl0 v)) v :=
 rawLoop_eq (bI := fun Jl2 => f149_bl2 F136 F138 F180 F181 (fun v => Al0 (f149_Tl0 v) (f149_Hl0 v)) Jl2) f149_Tl2 f149_Hl2 (fun Al2 v => (f149_el2 k F136 F138 F180 F181 Al0 Al2 v)) k v
theorem f149_el0 (k : Nat) (F136 : ((Bool × (List Int)) × Unit) → Option (((Bool × (List Int)) × Unit) × (Unit))) (F138 : ((List Int) × (List Int) × Unit) → Option ((Int × Unit) × (Unit))) (F180 : ((List Int) × Int × Unit) → Option (((List Int) × Unit) × (Unit))) (F181 : ((List Int) × (List Int) × Unit) → Option (((List Int) × Unit) × (Unit))) (Al0 : Jump (((Bool × (List Int)) × (Bool × (List Int)) × Unit) × (Unit))) (v : f149_Vl0) : rawBody (f149_cx F136 F138 F180 F181) f149_an k (bodyOf Tryz.f149) [1, 1, 1, 0, 1, 0] [] (vend (f149_cx F136 F138 F180 F181) Tryz.f149 [.val (.pair .bool (.list (.int .i64))), .val (.pair .bool (.list (.int .i64)))] [(.pair .bool (.list (.int .i64))), (.pair .bool (.list (.int .i64)))]) Al0 (f149_Tl0 v) (f149_Hl0 v) =
 f149_bl0 F136 F138 F180 F181 (fun v => rawLoop (f149_cx F136 F138 F180 F181) f149_an k (bodyOf Tryz.f149) [1, 1, 1, 0, 1, 0, 0, 1, 0, 0, 1, 1, 1, 0, 0] [Al0] (vend (f149_cx F136 F138 F180 F181) Tryz.f149 [.val (.pair .bool (.list (.int .i64))), .val (.pair .bool (.list (.int .i64)))] [(.pair .bool (.list (.int .i64))), (.pair .bool (.list (.int .i64)))]) k (f149_Tl2 v) (f149_Hl2 v)) v := by kernel_rfl
theorem f149_ll0 (k : Nat) (F136 : ((Bool × (List Int)) × Unit) → Option (((Bool × (List Int)) × Unit) × (Unit))) (F138 : ((List Int) × (List Int) × Unit) → Option ((Int × Unit) × (Unit))) (F180 : ((List Int) × Int × Unit) → Option (((List Int) × Unit) × (Unit))) (F181 : ((List Int) × (List Int) × Unit) → Option (((List Int) × Unit) × (Unit))) (v : f149_Vl0) : rawLoop (f149_cx F136 F138 F180 F181) f149_an k (bodyOf Tryz.f149) [1, 1, 1, 0, 1, 0] [] (vend (f149_cx F136 F138 F180 F181) Tryz.f149 [.val (.pair .bool (.list (.int .i64))), .val (.pair .bool (.list (.int .i64)))] [(.pair .bool (.list (.int .i64))), (.pair .bool (.list (.int .i64)))]) k (f149_Tl0 v) (f149_Hl0 v) = f149_Ll0 k F136 F138 F180 F181 v :=
 rawLoop_eq (bI := fun Jl0 => f149_bl0 F136 F138 F180 F181 (f149_Ll2 k F136 F138 F180 F181 Jl0)) f149_Tl0 f149_Hl0 (fun Al0 v => ((f149_el0 k F136 F138 F180 F181 Al0 v).trans (congrArg (fun (J : f149_Vl2 → Option (((Bool × (List Int)) × (Bool × (List Int)) × Unit) × (Unit))) => f149_bl0 F136 F138 F180 F181 J v) (funext (f149_ll2 k F136 F138 F180 F181 Al0))))) k v
theorem f149_e (k : Nat) (F136 : ((Bool × (List Int)) × Unit) → Option (((Bool × (List Int)) × Unit) × (Unit))) (F138 : ((List Int) × (List Int) × Unit) → Option ((Int × Unit) × (Unit))) (F180 : ((List Int) × Int × Unit) → Option (((List Int) × Unit) × (Unit))) (F181 : ((List Int) × (List Int) × Unit) → Option (((List Int) × Unit) × (Unit))) (x : ((Bool × (List Int)) × (Bool × (List Int)) × Unit)) : vfun (f149_cx F136 F138 F180 F181) f149_an k Tryz.f149 [.val (.pair .bool (.list (.int .i64))), .val (.pair .bool (.list (.int .i64)))] [(.pair .bool (.list (.int .i64))), (.pair .bool (.list (.int .i64)))] x =
 f149_b F136 F138 F180 F181 (fun v => rawLoop (f149_cx F136 F138 F180 F181) f149_an k (bodyOf Tryz.f149) [1, 1, 1, 0, 1, 0] [] (vend (f149_cx F136 F138 F180 F181) Tryz.f149 [.val (.pair .bool (.list (.int .i64))), .val (.pair .bool (.list (.int .i64)))] [(.pair .bool (.list (.int .i64))), (.pair .bool (.list (.int .i64)))]) k (f149_Tl0 v) (f149_Hl0 v)) x.1 x.2.1 := by kernel_rfl
theorem f149_eq (k : Nat) (F136 : ((Bool × (List Int)) × Unit) → Option (((Bool × (List Int)) × Unit) × (Unit))) (F138 : ((List Int) × (List Int) × Unit) → Option ((Int × Unit) × (Unit))) (F180 : ((List Int) × Int × Unit) → Option (((List Int) × Unit) × (Unit))) (F181 : ((List Int) × (List Int) × Unit) → Option (((List Int) × Unit) × (Unit))) (x : ((Bool × (List Int)) × (Bool × (List Int)) × Unit)) : vfun (f149_cx F136 F138 F180 F181) f149_an k Tryz.f149 [.val (.pair .bool (.list (.int .i64))), .val (.pair .bool (.list (.int .i64)))] [(.pair .bool (.list (.int .i64))), (.pair .bool (.list (.int .i64)))] x = f149_I k F136 F138 F180 F181 x.1 x.2.1 :=
 ((f149_e k F136 F138 F180 F181 x).trans (congrArg (fun (J : f149_Vl0 → Option (((Bool × (List Int)) × (Bool × (List Int)) × Unit) × (Unit))) => f149_b F136 F138 F180 F181 J x.1 x.2.1) (funext (f149_ll0 k F136 F138 F180 F181))))
theorem f149_ok (k : Nat) (F136 : ((Bool × (List Int)) × Unit) → Option (((Bool × (List Int)) × Unit) × (Unit))) (F138 : ((List Int) × (List Int) × Unit) → Option ((Int × Unit) × (Unit))) (F180 : ((List Int) × Int × Unit) → Option (((List Int) × Unit) × (Unit))) (F181 : ((List Int) × (List Int) × Unit) → Option (((List Int) × Unit) × (Unit))) (h136 : FnOk Tryz.prog 136 ⟨[.val (.pair .bool (.list (.int .i64)))], [(.pair .bool (.list (.int .i64)))], F136⟩) (h138 : FnOk Tryz.prog 138 ⟨[.val (.list (.int .i64)), .val (.list (.int .i64))], [(.int .i64)], F138⟩) (h180 : FnOk Tryz.prog 180 ⟨[.val (.list (.int .i64)), .val (.int .i64)], [(.list (.int .i64))], F180⟩) (h181 : FnOk Tryz.prog 181 ⟨[.val (.list (.int .i64)), .val (.list (.int .i64))], [(.list (.int .i64))], F181⟩) : FnOk Tryz.prog 149 ⟨[.val (.pair .bool (.list (.int .i64))), .val (.pair .bool (.list (.int .i64)))], [(.pair .bool (.list (.int .i64))), (.pair .bool (.list (.int .i64)))], fun x => f149_I k F136 F138 F180 F181 x.1 x.2.1⟩ :=
 (fn_ok (an := f149_an) (k := k) follows_mixed tys_ok ⟨look_fn (AllFn.cons h136 (AllFn.cons h138 (AllFn.cons h180 (AllFn.cons h181 (AllFn.nil))))), look_new AllNew.nil⟩ Tryz.func149 rfl rfl rfl).of (funext (f149_eq k F136 F138 F180 F181))
/-! joinlearn/joinlearnref02.Of -/
abbrev f148_cx (F105 : (Int × Unit) → Option (((Bool × (List Int)) × Unit) × (Unit))) : Cx := ⟨look tys, look [(105, ⟨[.val (.int .i64)], [(.pair .bool (.list (.int .i64)))], F105⟩)], 7, look [], [], []⟩
def f148_an : Ann := ⟨look [], look []⟩
def f148_b (F105 : (Int × Unit) → Option (((Bool × (List Int)) × Unit) × (Unit)))  (a0 : Int) : Option ((((Bool × (List Int)) × (Bool × (List Int))) × Unit) × (Unit)) :=
 Option.bind (F105 (a0, ())) fun r1 =>
 Option.bind (F105 (1, ())) fun r2 =>
 some (((r1.1.1, r2.1.1), ()), ())
def f148_I (k : Nat) (F105 : (Int × Unit) → Option (((Bool × (List Int)) × Unit) × (Unit))) (a0 : Int) : Option ((((Bool × (List Int)) × (Bool × (List Int))) × Unit) × (Unit)) := f148_b F105 a0
theorem f148_eq (k : Nat) (F105 : (Int × Unit) → Option (((Bool × (List Int)) × Unit) × (Unit))) (x : (Int × Unit)) : vfun (f148_cx F105) f148_an k Tryz.f148 [.val (.int .i64)] [(.pair (.pair .bool (.list (.int .i64))) (.pair .bool (.list (.int .i64))))] x = f148_I k F105 x.1 := by kernel_rfl
theorem f148_ok (k : Nat) (F105 : (Int × Unit) → Option (((Bool × (List Int)) × Unit) × (Unit))) (h105 : FnOk Tryz.prog 105 ⟨[.val (.int .i64)], [(.pair .bool (.list (.int .i64)))], F105⟩) : FnOk Tryz.prog 148 ⟨[.val (.int .i64)], [(.pair (.pair .bool (.list (.int .i64))) (.pair .bool (.list (.int .i64))))], fun x => f148_I k F105 x.1⟩ :=
 (fn_ok (an := f148_an) (k := k) follows_mixed tys_ok ⟨look_fn (AllFn.cons h105 (AllFn.nil)), look_new AllNew.nil⟩ Tryz.func148 rfl rfl rfl).of (funext (f148_eq k F105))
/-! (joinlearn/joinlearnref01.Big).Gcd -/
abbrev f147_cx (F149 : ((Bool × (List Int)) × (Bool × (List Int)) × Unit) → Option (((Bool × (List Int)) × (Bool × (List Int)) × Unit) × (Unit))) : Cx := ⟨look tys, look [(149, ⟨[.val (.pair .bool (.list (.int .i64))), .val (.pair .bool (.list (.int .i64)))], [(.pair .bool (.list (.int .i64))), (.pair .bool (.list (.int .i64)))], F149⟩)], 22, look [], [], []⟩
def f147_an : Ann := ⟨look [(0, ⟨[2, 3, 4], [200, 300, 400, 402], []⟩)], look []⟩
abbrev f147_Vl0 : Type := Bool × (List Int) × Bool × (List Int) × Bool × (List Int)
def f147_Tl0 (v : f147_Vl0) : Nat → LV := tbl [(2, .c (.ptr 200 0 0)), (3, .c (.ptr 300 0 0)), (4, .c (.ptr 400 0 0))]
def f147_Hl0 (v : f147_Vl0) : Nat → Option VO := tblH [(200, some ⟨0, .cells [.s .bool v.1, .s (.list (.int .i64)) v.2.1], false⟩), (300, some ⟨0, .cells [.s .bool v.2.2.1, .s (.list (.int .i64)) v.2.2.2.1], false⟩), (400, some ⟨0, .cells [.s .bool v.2.2.2.2.1, .own 402 0 .full], false⟩), (402, some ⟨0, .row (.int .i64) v.2.2.2.2.2, false⟩)]

def f147_bl0 (F149 : ((Bool × (List Int)) × (Bool × (List Int)) × Unit) → Option (((Bool × (List Int)) × (Bool × (List Int)) × Unit) × (Unit))) (Jl0 : f147_Vl0 → Option (((Bool × (List Int)) × Unit) × (Unit))) : f147_Vl0 → Option (((Bool × (List Int)) × Unit) × (Unit)) := fun (x1, x2, x3, x4, x5, l6) =>
 bif (decide ((x4.length : Int) > 0)) then (Option.bind (F149 ((x1, x2), (x3, x4), ())) fun r7 =>
 Jl0 (x3, x4, r7.1.2.1.1, r7.1.2.1.2, x5, l6))
 else (some (((x1, x2), ()), ()))
def f147_b (F149 : ((Bool × (List Int)) × (Bool × (List Int)) × Unit) → Option (((Bool × (List Int)) × (Bool × (List Int)) × Unit) × (Unit))) (Jl0 : f147_Vl0 → Option (((Bool × (List Int)) × Unit) × (Unit))) (a0 : (Bool × (List Int))) (a1 : (Bool × (List Int))) : Option (((Bool × (List Int)) × Unit) × (Unit)) :=
 Jl0 (false, a0.2, false, a1.2, false, ([] : List Int))
def f147_Ll0 (k : Nat) (F149 : ((Bool × (List Int)) × (Bool × (List Int)) × Unit) → Option (((Bool × (List Int)) × (Bool × (List Int)) × Unit) × (Unit)))  : f147_Vl0 → Option (((Bool × (List Int)) × Unit) × (Unit)) := loopI (fun Jl0 => f147_bl0 F149 Jl0) k
def f147_I (k : Nat) (F149 : ((Bool × (List Int)) × (Bool × (List Int)) × Unit) → Option (((Bool × (List Int)) × (Bool × (List Int)) × Unit) × (Unit))) (a0 : (Bool × (List Int))) (a1 : (Bool × (List Int))) : Option (((Bool × (List Int)) × Unit) × (Unit)) := f147_b F149 (f147_Ll0 k F149) a0 a1
theorem f147_el0 (k : Nat) (F149 : ((Bool × (List Int)) × (Bool × (List Int)) × Unit) → Option (((Bool × (List Int)) × (Bool × (List Int)) × Unit) × (Unit))) (Al0 : Jump (((Bool × (List Int)) × Unit) × (Unit))) (v : f147_Vl0) : rawBody (f147_cx F149) f147_an k (bodyOf Tryz.f147) [1, 1, 0, 0] [] (vend (f147_cx F149) Tryz.f147 [.val (.pair .bool (.list (.int .i64))), .val (.pair .bool (.list (.int .i64)))] [(.pair .bool (.list (.int .i64)))]) Al0 (f147_Tl0 v) (f147_Hl0 v) =
 f147_bl0 F149 (fun v => Al0 (f147_Tl0 v) (f147_Hl0 v)) v := by kernel_rfl
theorem f147_ll0 (k : Nat) (F149 : ((Bool × (List Int)) × (Bool × (List Int)) × Unit) → Option (((Bool × (List Int)) × (Bool × (List Int)) × Unit) × (Unit))) (v : f147_Vl0) : rawLoop (f147_cx F149) f147_an k (bodyOf Tryz.f147) [1, 1, 0, 0] [] (vend (f147_cx F149) Tryz.f147 [.val (.pair .bool (.list (.int .i64))), .val (.pair .bool (.list (.int .i64)))] [(.pair .bool (.list (.int .i64)))]) k (f147_Tl0 v) (f147_Hl0 v) = f147_Ll0 k F149 v :=
 rawLoop_eq (bI := fun Jl0 => f147_bl0 F149 Jl0) f147_Tl0 f147_Hl0 (fun Al0 v => (f147_el0 k F149 Al0 v)) k v
theorem f147_e (k : Nat) (F149 : ((Bool × (List Int)) × (Bool × (List Int)) × Unit) → Option (((Bool × (List Int)) × (Bool × (List Int)) × Unit) × (Unit))) (x : ((Bool × (List Int)) × (Bool × (List Int)) × Unit)) : vfun (f147_cx F149) f147_an k Tryz.f147 [.val (.pair .bool (.list (.int .i64))), .val (.pair .bool (.list (.int .i64)))] [(.pair .bool (.list (.int .i64)))] x =
 f147_b F149 (fun v => rawLoop (f147_cx F149) f147_an k (bodyOf Tryz.f147) [1, 1, 0, 0] [] (vend (f147_cx F149) Tryz.f147 [.val (.pair .bool (.list (.int .i64))), .val (.pair .bool (.list (.int .i64)))] [(.pair .bool (.list (.int .i64)))]) k (f147_Tl0 v) (f147_Hl0 v)) x.1 x.2.1 := by kernel_rfl
theorem f147_eq (k : Nat) (F149 : ((Bool × (List Int)) × (Bool × (List Int)) × Unit) → Option (((Bool × (List Int)) × (Bool × (List Int)) × Unit) × (Unit))) (x : ((Bool × (List Int)) × (Bool × (List Int)) × Unit)) : vfun (f147_cx F149) f147_an k Tryz.f147 [.val (.pair .bool (.list (.int .i64))), .val (.pair .bool (.list (.int .i64)))] [(.pair .bool (.list (.int .i64)))] x = f147_I k F149 x.1 x.2.1 :=
 ((f147_e k F149 x).trans (congrArg (fun (J : f147_Vl0 → Option (((Bool × (List Int)) × Unit) × (Unit))) => f147_b F149 J x.1 x.2.1) (funext (f147_ll0 k F149))))
theorem f147_ok (k : Nat) (F149 : ((Bool × (List Int)) × (Bool × (List Int)) × Unit) → Option (((Bool × (List Int)) × (Bool × (List Int)) × Unit) × (Unit))) (h149 : FnOk Tryz.prog 149 ⟨[.val (.pair .bool (.list (.int .i64))), .val (.pair .bool (.list (.int .i64)))], [(.pair .bool (.list (.int .i64))), (.pair .bool (.list (.int .i64)))], F149⟩) : FnOk Tryz.prog 147 ⟨[.val (.pair .bool (.list (.int .i64))), .val (.pair .bool (.list (.int .i64)))], [(.pair .bool (.list (.int .i64)))], fun x => f147_I k F149 x.1 x.2.1⟩ :=
 (fn_ok (an := f147_an) (k := k) follows_mixed tys_ok ⟨look_fn (AllFn.cons h149 (AllFn.nil)), look_new AllNew.nil⟩ Tryz.func147 rfl rfl rfl).of (funext (f147_eq k F149))
/-! (joinlearn/limbs.Number).Small -/
abbrev f146_cx (F178 : ((List Int) × Int × Unit) → Option ((Int × Unit) × (Unit))) (F179 : ((List Int) × Unit) → Option ((Int × Unit) × (Unit))) : Cx := ⟨look tys, look [(178, ⟨[.val (.list (.int .u64)), .val (.int .i64)], [(.int .u64)], F178⟩), (179, ⟨[.val (.list (.int .u64))], [(.int .u64)], F179⟩)], 33, look [], [], []⟩
def f146_an : Ann := ⟨look [], look []⟩
def f146_b (F178 : ((List Int) × Int × Unit) → Option ((Int × Unit) × (Unit))) (F179 : ((List Int) × Unit) → Option ((Int × Unit) × (Unit)))  (a0 : (Bool × (List Int))) : Option ((Int × Bool × Unit) × (Unit)) :=
 bif (decide ((a0.2.length : Int) > 3)) then (some ((0, false, ()), ()))
 else (Option.bind (F178 (a0.2, 2, ())) fun r1 =>
 bif (decide (r1.1.1 > 4)) then (some ((0, false, ()), ()))
 else (Option.bind (F178 (a0.2, 2, ())) fun r2 =>
 Option.bind (F179 (a0.2, ())) fun r3 =>
 bif (decide ((IntKind.wrap .u64 ((IntKind.wrap .u64 ((IntKind.wrap .u64 (r2.1.1 * 1000000000)) * 1000000000)) + r3.1.1)) > 4611686018427387904)) then (some ((0, false, ()), ()))
 else (bif a0.1 then (some (((w64 (0 - (w64 ((IntKind.wrap .u64 ((IntKind.wrap .u64 ((IntKind.wrap .u64 (r2.1.1 * 1000000000)) * 1000000000)) + r3.1.1)))))), true, ()), ()))
 else (some (((w64 ((IntKind.wrap .u64 ((IntKind.wrap .u64 ((IntKind.wrap .u64 (r2.1.1 * 1000000000)) * 1000000000)) + r3.1.1)))), true, ()), ())))))
def f146_I (k : Nat) (F178 : ((List Int) × Int × Unit) → Option ((Int × Unit) × (Unit))) (F179 : ((List Int) × Unit) → Option ((Int × Unit) × (Unit))) (a0 : (Bool × (List Int))) : Option ((Int × Bool × Unit) × (Unit)) := f146_b F178 F179 a0
theorem f146_eq (k : Nat) (F178 : ((List Int) × Int × Unit) → Option ((Int × Unit) × (Unit))) (F179 : ((List Int) × Unit) → Option ((Int × Unit) × (Unit))) (x : ((Bool × (List Int)) × Unit)) : vfun (f146_cx F178 F179) f146_an k Tryz.f146 [.val (.pair .bool (.list (.int .u64)))] [(.int .i64), .bool] x = f146_I k F178 F179 x.1 := by kernel_rfl
theorem f146_ok (k : Nat) (F178 : ((List Int) × Int × Unit) → Option ((Int × Unit) × (Unit))) (F179 : ((List Int) × Unit) → Option ((Int × Unit) × (Unit))) (h178 : FnOk Tryz.prog 178 ⟨[.val (.list (.int .u64)), .val (.int .i64)], [(.int .u64)], F178⟩) (h179 : FnOk Tryz.prog 179 ⟨[.val (.list (.int .u64))], [(.int .u64)], F179⟩) : FnOk Tryz.prog 146 ⟨[.val (.pair .bool (.list (.int .u64)))], [(.int .i64), .bool], fun x => f146_I k F178 F179 x.1⟩ :=
 (fn_ok (an := f146_an) (k := k) follows_mixed tys_ok ⟨look_fn (AllFn.cons h178 (AllFn.cons h179 (AllFn.nil))), look_new AllNew.nil⟩ Tryz.func146 rfl rfl rfl).of (funext (f146_eq k F178 F179))
/-! joinlearn/integer.read -/
abbrev f145_cx (F154 : ((List UInt8) × Unit) → Option (((Bool × (List Int)) × Unit) × (Unit))) : Cx := ⟨look tys, look [(154, ⟨[.val .str], [(.pair .bool (.list (.int .u64)))], F154⟩)], 5, look [], [], []⟩
def f145_an : Ann := ⟨look [], look []⟩
def f145_b (F154 : ((List UInt8) × Unit) → Option (((Bool × (List Int)) × Unit) × (Unit)))  (a0 : (List UInt8)) : Option (((Bool × (List Int)) × Unit) × (Unit)) :=
 Option.bind (F154 (a0, ())) fun r1 =>
 some ((r1.1.1, ()), ())
def f145_I (k : Nat) (F154 : ((List UInt8) × Unit) → Option (((Bool × (List Int)) × Unit) × (Unit))) (a0 : (List UInt8)) : Option (((Bool × (List Int)) × Unit) × (Unit)) := f145_b F154 a0
theorem f145_eq (k : Nat) (F154 : ((List UInt8) × Unit) → Option (((Bool × (List Int)) × Unit) × (Unit))) (x : ((List UInt8) × Unit)) : vfun (f145_cx F154) f145_an k Tryz.f145 [.val .str] [(.pair .bool (.list (.int .u64)))] x = f145_I k F154 x.1 := by kernel_rfl
theorem f145_ok (k : Nat) (F154 : ((List UInt8) × Unit) → Option (((Bool × (List Int)) × Unit) × (Unit))) (h154 : FnOk Tryz.prog 154 ⟨[.val .str], [(.pair .bool (.list (.int .u64)))], F154⟩) : FnOk Tryz.prog 145 ⟨[.val .str], [(.pair .bool (.list (.int .u64)))], fun x => f145_I k F154 x.1⟩ :=
 (fn_ok (an := f145_an) (k := k) follows_mixed tys_ok ⟨look_fn (AllFn.cons h154 (AllFn.nil)), look_new AllNew.nil⟩ Tryz.func145 rfl rfl rfl).of (funext (f145_eq k F154))
/-! joinlearn/integer.Valid -/
abbrev f144_cx (F177 : ((List UInt8) × (List UInt8) × Unit) → Option (((List UInt8) × Unit) × (Unit))) : Cx := ⟨look tys, look [(177, ⟨[.val .str, .val .str], [.str], F177⟩)], 36, look [], [], []⟩
def f144_an : Ann := ⟨look [(0, ⟨[23, 24, 25], [], []⟩)], look []⟩
abbrev f144_Vl0 : Type := (List Int) × Int × Int
def f144_Tl0 (v : f144_Vl0) : Nat → LV := tbl [(23, .c (.s (.list (.int .u8)) v.1)), (24, .c (.s (.int .i64) v.2.1)), (25, .c (.s (.int .i64) v.2.2))]
def f144_Hl0 (v : f144_Vl0) : Nat → Option VO := tblH []

def f144_bl0 (F177 : ((List UInt8) × (List UInt8) × Unit) → Option (((List UInt8) × Unit) × (Unit))) (Jl0 : f144_Vl0 → Option ((Bool × Unit) × (Unit))) : f144_Vl0 → Option ((Bool × Unit) × (Unit)) := fun (x3, x4, x5) =>
 bif (decide (x5 < x4)) then (rd x3 x5 fun y6 =>
 bif (decide (y6 < 48)) then (some ((false, ()), ()))
 else (bif (decide (y6 > 57)) then (some ((false, ()), ()))
 else (Jl0 (x3, x4, (w64 (x5 + 1))))))
 else (some ((true, ()), ()))
def f144_b (F177 : ((List UInt8) × (List UInt8) × Unit) → Option (((List UInt8) × Unit) × (Unit))) (Jl0 : f144_Vl0 → Option ((Bool × Unit) × (Unit))) (a0 : (List UInt8)) : Option ((Bool × Unit) × (Unit)) :=
 bif (a0 == ([48] : List UInt8)) then (some ((true, ()), ()))
 else (Option.bind (F177 (a0, ([45] : List UInt8), ())) fun r1 =>
 bif (r1.1.1 == ([] : List UInt8)) then (some ((false, ()), ()))
 else (bif (decide ((r1.1.1.length : Int) > 400)) then (some ((false, ()), ()))
 else (rd r1.1.1 0 fun y2 =>
 bif ((y2.toNat : Int) == 48) then (some ((false, ()), ()))
 else (Jl0 ((r1.1.1.map fun b => ((b.toNat : Nat) : Int)), ((r1.1.1.map fun b => ((b.toNat : Nat) : Int)).length : Int), 0)))))
def f144_Ll0 (k : Nat) (F177 : ((List UInt8) × (List UInt8) × Unit) → Option (((List UInt8) × Unit) × (Unit)))  : f144_Vl0 → Option ((Bool × Unit) × (Unit)) := loopI (fun Jl0 => f144_bl0 F177 Jl0) k
def f144_I (k : Nat) (F177 : ((List UInt8) × (List UInt8) × Unit) → Option (((List UInt8) × Unit) × (Unit))) (a0 : (List UInt8)) : Option ((Bool × Unit) × (Unit)) := f144_b F177 (f144_Ll0 k F177) a0
theorem f144_el0 (k : Nat) (F177 : ((List UInt8) × (List UInt8) × Unit) → Option (((List UInt8) × Unit) × (Unit))) (Al0 : Jump ((Bool × Unit) × (Unit))) (v : f144_Vl0) : rawBody (f144_cx F177) f144_an k (bodyOf Tryz.f144) [1, 1, 1, 1, 0, 1, 0] [] (vend (f144_cx F177) Tryz.f144 [.val .str] [.bool]) Al0 (f144_Tl0 v) (f144_Hl0 v) =
 f144_bl0 F177 (fun v => Al0 (f144_Tl0 v) (f144_Hl0 v)) v := by kernel_rfl
theorem f144_ll0 (k : Nat) (F177 : ((List UInt8) × (List UInt8) × Unit) → Option (((List UInt8) × Unit) × (Unit))) (v : f144_Vl0) : rawLoop (f144_cx F177) f144_an k (bodyOf Tryz.f144) [1, 1, 1, 1, 0, 1, 0] [] (vend (f144_cx F177) Tryz.f144 [.val .str] [.bool]) k (f144_Tl0 v) (f144_Hl0 v) = f144_Ll0 k F177 v :=
 rawLoop_eq (bI := fun Jl0 => f144_bl0 F177 Jl0) f144_Tl0 f144_Hl0 (fun Al0 v => (f144_el0 k F177 Al0 v)) k v
theorem f144_e (k : Nat) (F177 : ((List UInt8) × (List UInt8) × Unit) → Option (((List UInt8) × Unit) × (Unit))) (x : ((List UInt8) × Unit)) : vfun (f144_cx F177) f144_an k Tryz.f144 [.val .str] [.bool] x =
 f144_b F177 (fun v => rawLoop (f144_cx F177) f144_an k (bodyOf Tryz.f144) [1, 1, 1, 1, 0, 1, 0] [] (vend (f144_cx F177) Tryz.f144 [.val .str] [.bool]) k (f144_Tl0 v) (f144_Hl0 v)) x.1 := by kernel_rfl
theorem f144_eq (k : Nat) (F177 : ((List UInt8) × (List UInt8) × Unit) → Option (((List UInt8) × Unit) × (Unit))) (x : ((List UInt8) × Unit)) : vfun (f144_cx F177) f144_an k Tryz.f144 [.val .str] [.bool] x = f144_I k F177 x.1 :=
 ((f144_e k F177 x).trans (congrArg (fun (J : f144_Vl0 → Option ((Bool × Unit) × (Unit))) => f144_b F177 J x.1) (funext (f144_ll0 k F177))))
theorem f144_ok (k : Nat) (F177 : ((List UInt8) × (List UInt8) × Unit) → Option (((List UInt8) × Unit) × (Unit))) (h177 : FnOk Tryz.prog 177 ⟨[.val .str, .val .str], [.str], F177⟩) : FnOk Tryz.prog 144 ⟨[.val .str], [.bool], fun x => f144_I k F177 x.1⟩ :=
 (fn_ok (an := f144_an) (k := k) follows_mixed tys_ok ⟨look_fn (AllFn.cons h177 (AllFn.nil)), look_new AllNew.nil⟩ Tryz.func144 rfl rfl rfl).of (funext (f144_eq k F177))
/-! strings.Cut -/
abbrev f143_cx (F176 : ((List UInt8) × (List UInt8) × Unit) → Option (((List UInt8) × (List UInt8) × Bool × Unit) × (Unit))) : Cx := ⟨look tys, look [(176, ⟨[.val .str, .val .str], [.str, .str, .bool], F176⟩)], 13, look [], [], []⟩
def f143_an : Ann := ⟨look [], look []⟩
def f143_b (F176 : ((List UInt8) × (List UInt8) × Unit) → Option (((List UInt8) × (List UInt8) × Bool × Unit) × (Unit)))  (a0 : (List UInt8)) (a1 : (List UInt8)) : Option (((List UInt8) × (List UInt8) × Bool × Unit) × (Unit)) :=
 Option.bind (F176 (a0, a1, ())) fun r1 =>
 some ((r1.1.1, r1.1.2.1, r1.1.2.2.1, ()), ())
def f143_I (k : Nat) (F176 : ((List UInt8) × (List UInt8) × Unit) → Option (((List UInt8) × (List UInt8) × Bool × Unit) × (Unit))) (a0 : (List UInt8)) (a1 : (List UInt8)) : Option (((List UInt8) × (List UInt8) × Bool × Unit) × (Unit)) := f143_b F176 a0 a1
theorem f143_eq (k : Nat) (F176 : ((List UInt8) × (List UInt8) × Unit) → Option (((List UInt8) × (List UInt8) × Bool × Unit) × (Unit))) (x : ((List UInt8) × (List UInt8) × Unit)) : vfun (f143_cx F176) f143_an k Tryz.f143 [.val .str, .val .str] [.str, .str, .bool] x = f143_I k F176 x.1 x.2.1 := by kernel_rfl
theorem f143_ok (k : Nat) (F176 : ((List UInt8) × (List UInt8) × Unit) → Option (((List UInt8) × (List UInt8) × Bool × Unit) × (Unit))) (h176 : FnOk Tryz.prog 176 ⟨[.val .str, .val .str], [.str, .str, .bool], F176⟩) : FnOk Tryz.prog 143 ⟨[.val .str, .val .str], [.str, .str, .bool], fun x => f143_I k F176 x.1 x.2.1⟩ :=
 (fn_ok (an := f143_an) (k := k) follows_mixed tys_ok ⟨look_fn (AllFn.cons h176 (AllFn.nil)), look_new AllNew.nil⟩ Tryz.func143 rfl rfl rfl).of (funext (f143_eq k F176))
/-! joinlearn/rational.Valid -/
abbrev f142_cx (F143 : ((List UInt8) × (List UInt8) × Unit) → Option (((List UInt8) × (List UInt8) × Bool × Unit) × (Unit))) (F144 : ((List UInt8) × Unit) → Option ((Bool × Unit) × (Unit))) (F173 : ((List UInt8) × (List UInt8) × Unit) → Option ((Int × Unit) × (Unit))) (F154 : ((List UInt8) × Unit) → Option (((Bool × (List Int)) × Unit) × (Unit))) (F174 : ((Bool × (List Int)) × (Bool × (List Int)) × Unit) → Option (((Bool × (List Int)) × Unit) × (Unit))) (F175 : (Int × Unit) → Option (((Bool × (List Int)) × Unit) × (Unit))) (F156 : ((Bool × (List Int)) × (Bool × (List Int)) × Unit) → Option ((Int × Unit) × (Unit))) : Cx := ⟨look tys, look [(143, ⟨[.val .str, .val .str], [.str, .str, .bool], F143⟩), (144, ⟨[.val .str], [.bool], F144⟩), (173, ⟨[.val .str, .val .str], [(.int .i64)], F173⟩), (154, ⟨[.val .str], [(.pair .bool (.list (.int .u64)))], F154⟩), (174, ⟨[.val (.pair .bool (.list (.int .u64))), .val (.pair .bool (.list (.int .u64)))], [(.pair .bool (.list (.int .u64)))], F174⟩), (175, ⟨[.val (.int .i64)], [(.pair .bool (.list (.int .u64)))], F175⟩), (156, ⟨[.val (.pair .bool (.list (.int .u64))), .val (.pair .bool (.list (.int .u64)))], [(.int .i64)], F156⟩)], 45, look [], [], []⟩
def f142_an : Ann := ⟨look [], look []⟩
def f142_b (F143 : ((List UInt8) × (List UInt8) × Unit) → Option (((List UInt8) × (List UInt8) × Bool × Unit) × (Unit))) (F144 : ((List UInt8) × Unit) → Option ((Bool × Unit) × (Unit))) (F173 : ((List UInt8) × (List UInt8) × Unit) → Option ((Int × Unit) × (Unit))) (F154 : ((List UInt8) × Unit) → Option (((Bool × (List Int)) × Unit) × (Unit))) (F174 : ((Bool × (List Int)) × (Bool × (List Int)) × Unit) → Option (((Bool × (List Int)) × Unit) × (Unit))) (F175 : (Int × Unit) → Option (((Bool × (List Int)) × Unit) × (Unit))) (F156 : ((Bool × (List Int)) × (Bool × (List Int)) × Unit) → Option ((Int × Unit) × (Unit)))  (a0 : (List UInt8)) : Option ((Bool × Unit) × (Unit)) :=
 Option.bind (F143 (a0, ([47] : List UInt8), ())) fun r1 =>
 Option.bind (F144 (r1.1.1, ())) fun r2 =>
 bif (!r2.1.1) then (bif (!r1.1.2.2.1) then (Option.bind (F144 (r1.1.1, ())) fun r3 =>
 some ((r3.1.1, ()), ()))
 else (some ((false, ()), ())))
 else (bif (!r1.1.2.2.1) then (bif (!r1.1.2.2.1) then (Option.bind (F144 (r1.1.1, ())) fun r4 =>
 some ((r4.1.1, ()), ()))
 else (some ((false, ()), ())))
 else (bif (r1.1.1 == ([48] : List UInt8)) then (some ((false, ()), ()))
 else (Option.bind (F144 (r1.1.2.1, ())) fun r5 =>
 bif (!r5.1.1) then (some ((false, ()), ()))
 else (Option.bind (F173 (r1.1.2.1, ([49] : List UInt8), ())) fun r6 =>
 bif (decide (r6.1.1 ≤ 0)) then (some ((false, ()), ()))
 else (Option.bind (F154 (r1.1.1, ())) fun r7 =>
 Option.bind (F154 (r1.1.2.1, ())) fun r8 =>
 Option.bind (F174 (r7.1.1, r8.1.1, ())) fun r9 =>
 Option.bind (F175 (1, ())) fun r10 =>
 Option.bind (F156 (r9.1.1, r10.1.1, ())) fun r11 =>
 some (((r11.1.1 == 0), ()), ()))))))
def f142_I (k : Nat) (F143 : ((List UInt8) × (List UInt8) × Unit) → Option (((List UInt8) × (List UInt8) × Bool × Unit) × (Unit))) (F144 : ((List UInt8) × Unit) → Option ((Bool × Unit) × (Unit))) (F173 : ((List UInt8) × (List UInt8) × Unit) → Option ((Int × Unit) × (Unit))) (F154 : ((List UInt8) × Unit) → Option (((Bool × (List Int)) × Unit) × (Unit))) (F174 : ((Bool × (List Int)) × (Bool × (List Int)) × Unit) → Option (((Bool × (List Int)) × Unit) × (Unit))) (F175 : (Int × Unit) → Option (((Bool × (List Int)) × Unit) × (Unit))) (F156 : ((Bool × (List Int)) × (Bool × (List Int)) × Unit) → Option ((Int × Unit) × (Unit))) (a0 : (List UInt8)) : Option ((Bool × Unit) × (Unit)) := f142_b F143 F144 F173 F154 F174 F175 F156 a0
theorem f142_eq (k : Nat) (F143 : ((List UInt8) × (List UInt8) × Unit) → Option (((List UInt8) × (List UInt8) × Bool × Unit) × (Unit))) (F144 : ((List UInt8) × Unit) → Option ((Bool × Unit) × (Unit))) (F173 : ((List UInt8) × (List UInt8) × Unit) → Option ((Int × Unit) × (Unit))) (F154 : ((List UInt8) × Unit) → Option (((Bool × (List Int)) × Unit) × (Unit))) (F174 : ((Bool × (List Int)) × (Bool × (List Int)) × Unit) → Option (((Bool × (List Int)) × Unit) × (Unit))) (F175 : (Int × Unit) → Option (((Bool × (List Int)) × Unit) × (Unit))) (F156 : ((Bool × (List Int)) × (Bool × (List Int)) × Unit) → Option ((Int × Unit) × (Unit))) (x : ((List UInt8) × Unit)) : vfun (f142_cx F143 F144 F173 F154 F174 F175 F156) f142_an k Tryz.f142 [.val .str] [.bool] x = f142_I k F143 F144 F173 F154 F174 F175 F156 x.1 := by kernel_rfl
theorem f142_ok (k : Nat) (F143 : ((List UInt8) × (List UInt8) × Unit) → Option (((List UInt8) × (List UInt8) × Bool × Unit) × (Unit))) (F144 : ((List UInt8) × Unit) → Option ((Bool × Unit) × (Unit))) (F173 : ((List UInt8) × (List UInt8) × Unit) → Option ((Int × Unit) × (Unit))) (F154 : ((List UInt8) × Unit) → Option (((Bool × (List Int)) × Unit) × (Unit))) (F174 : ((Bool × (List Int)) × (Bool × (List Int)) × Unit) → Option (((Bool × (List Int)) × Unit) × (Unit))) (F175 : (Int × Unit) → Option (((Bool × (List Int)) × Unit) × (Unit))) (F156 : ((Bool × (List Int)) × (Bool × (List Int)) × Unit) → Option ((Int × Unit) × (Unit))) (h143 : FnOk Tryz.prog 143 ⟨[.val .str, .val .str], [.str, .str, .bool], F143⟩) (h144 : FnOk Tryz.prog 144 ⟨[.val .str], [.bool], F144⟩) (h173 : FnOk Tryz.prog 173 ⟨[.val .str, .val .str], [(.int .i64)], F173⟩) (h154 : FnOk Tryz.prog 154 ⟨[.val .str], [(.pair .bool (.list (.int .u64)))], F154⟩) (h174 : FnOk Tryz.prog 174 ⟨[.val (.pair .bool (.list (.int .u64))), .val (.pair .bool (.list (.int .u64)))], [(.pair .bool (.list (.int .u64)))], F174⟩) (h175 : FnOk Tryz.prog 175 ⟨[.val (.int .i64)], [(.pair .bool (.list (.int .u64)))], F175⟩) (h156 : FnOk Tryz.prog 156 ⟨[.val (.pair .bool (.list (.int .u64))), .val (.pair .bool (.list (.int .u64)))], [(.int .i64)], F156⟩) : FnOk Tryz.prog 142 ⟨[.val .str], [.bool], fun x => f142_I k F143 F144 F173 F154 F174 F175 F156 x.1⟩ :=
 (fn_ok (an := f142_an) (k := k) follows_mixed tys_ok ⟨look_fn (AllFn.cons h143 (AllFn.cons h144 (AllFn.cons h173 (AllFn.cons h154 (AllFn.cons h174 (AllFn.cons h175 (AllFn.cons h156 (AllFn.nil)))))))), look_new AllNew.nil⟩ Tryz.func142 rfl rfl rfl).of (funext (f142_eq k F143 F144 F173 F154 F174 F175 F156))
/-! joinlearn/joinlearnref01.size -/
abbrev f138_cx : Cx := ⟨look tys, look [], 41, look [], [], []⟩
def f138_an : Ann := ⟨look [(0, ⟨[0, 1, 5], [], []⟩)], look []⟩
abbrev f138_Vl0 : Type := (List Int) × (List Int) × Int
def f138_Tl0 (v : f138_Vl0) : Nat → LV := tbl [(0, .c (.s (.list (.int .i64)) v.1)), (1, .c (.s (.list (.int .i64)) v.2.1)), (5, .c (.s (.int .i64) v.2.2))]
def f138_Hl0 (v : f138_Vl0) : Nat → Option VO := tblH []

def f138_bl0 (Jl0 : f138_Vl0 → Option ((Int × Unit) × (Unit))) : f138_Vl0 → Option ((Int × Unit) × (Unit)) := fun (x1, x2, x3) =>
 bif (decide (x3 ≥ 0)) then (rd x1 x3 fun y4 =>
 rd x2 x3 fun y5 =>
 bif (decide (y4 < y5)) then (some (((-1), ()), ()))
 else (rd x1 x3 fun y6 =>
 rd x2 x3 fun y7 =>
 bif (decide (y6 > y7)) then (some ((1, ()), ()))
 else (Jl0 (x1, x2, (w64 (x3 - 1))))))
 else (some ((0, ()), ()))
def f138_b (Jl0 : f138_Vl0 → Option ((Int × Unit) × (Unit))) (a0 : (List Int)) (a1 : (List Int)) : Option ((Int × Unit) × (Unit)) :=
 bif ((a0.length : Int) != (a1.length : Int)) then (bif (decide ((a0.length : Int) < (a1.length : Int))) then (some (((-1), ()), ()))
 else (some ((1, ()), ())))
 else (Jl0 (a0, a1, (w64 ((a0.length : Int) - 1))))
def f138_Ll0 (k : Nat)  : f138_Vl0 → Option ((Int × Unit) × (Unit)) := loopI (fun Jl0 => f138_bl0 Jl0) k
def f138_I (k : Nat) (a0 : (List Int)) (a1 : (List Int)) : Option ((Int × Unit) × (Unit)) := f138_b (f138_Ll0 k) a0 a1
theorem f138_el0 (k : Nat) (Al0 : Jump ((Int × Unit) × (Unit))) (v : f138_Vl0) : rawBody (f138_cx) f138_an k (bodyOf Tryz.f138) [1, 1, 0, 1, 0] [] (vend (f138_cx) Tryz.f138 [.val (.list (.int .i64)), .val (.list (.int .i64))] [(.int .i64)]) Al0 (f138_Tl0 v) (f138_Hl0 v) =
 f138_bl0 (fun v => Al0 (f138_Tl0 v) (f138_Hl0 v)) v := by kernel_rfl
theorem f138_ll0 (k : Nat) (v : f138_Vl0) : rawLoop (f138_cx) f138_an k (bodyOf Tryz.f138) [1, 1, 0, 1, 0] [] (vend (f138_cx) Tryz.f138 [.val (.list (.int .i64)), .val (.list (.int .i64))] [(.int .i64)]) k (f138_Tl0 v) (f138_Hl0 v) = f138_Ll0 k v :=
 rawLoop_eq (bI := fun Jl0 => f138_bl0 Jl0) f138_Tl0 f138_Hl0 (fun Al0 v => (f138_el0 k Al0 v)) k v
theorem f138_e (k : Nat) (x : ((List Int) × (List Int) × Unit)) : vfun (f138_cx) f138_an k Tryz.f138 [.val (.list (.int .i64)), .val (.list (.int .i64))] [(.int .i64)] x =
 f138_b (fun v => rawLoop (f138_cx) f138_an k (bodyOf Tryz.f138) [1, 1, 0, 1, 0] [] (vend (f138_cx) Tryz.f138 [.val (.list (.int .i64)), .val (.list (.int .i64))] [(.int .i64)]) k (f138_Tl0 v) (f138_Hl0 v)) x.1 x.2.1 := by kernel_rfl
theorem f138_eq (k : Nat) (x : ((List Int) × (List Int) × Unit)) : vfun (f138_cx) f138_an k Tryz.f138 [.val (.list (.int .i64)), .val (.list (.int .i64))] [(.int .i64)] x = f138_I k x.1 x.2.1 :=
 ((f138_e k x).trans (congrArg (fun (J : f138_Vl0 → Option ((Int × Unit) × (Unit))) => f138_b J x.1 x.2.1) (funext (f138_ll0 k))))
theorem f138_ok (k : Nat) : FnOk Tryz.prog 138 ⟨[.val (.list (.int .i64)), .val (.list (.int .i64))], [(.int .i64)], fun x => f138_I k x.1 x.2.1⟩ :=
 (fn_ok (an := f138_an) (k := k) follows_mixed tys_ok ⟨look_fn AllFn.nil, look_new AllNew.nil⟩ Tryz.func138 rfl rfl rfl).of (funext (f138_eq k))
/-! (joinlearn/joinlearnref01.Big).trim -/
abbrev f136_cx : Cx := ⟨look tys, look [], 32, look [], [], []⟩
def f136_an : Ann := ⟨look [(0, ⟨[1, 2], [100, 200, 202], []⟩)], look []⟩
abbrev f136_Vl0 : Type := Bool × (List Int) × Bool × (List Int)
def f136_Tl0 (v : f136_Vl0) : Nat → LV := tbl [(1, .c (.ptr 100 0 0)), (2, .c (.ptr 200 0 0))]
def f136_Hl0 (v : f136_Vl0) : Nat → Option VO := tblH [(100, some ⟨0, .cells [.s .bool v.1, .s (.list (.int .i64)) v.2.1], false⟩), (200, some ⟨0, .cells [.s .bool v.2.2.1, .own 202 0 .full], false⟩), (202, some ⟨0, .row (.int .i64) v.2.2.2, false⟩)]

def f136_bl0 (Jl0 : f136_Vl0 → Option (((Bool × (List Int)) × Unit) × (Unit))) : f136_Vl0 → Option (((Bool × (List Int)) × Unit) × (Unit)) := fun (x1, x2, x3, l4) =>
 bif (decide ((x2.length : Int) > 0)) then (rd x2 (w64 ((x2.length : Int) - 1)) fun y5 =>
 bif (y5 == 0) then (chk ((decide (0 ≤ (w64 ((x2.length : Int) - 1)))) && (decide ((w64 ((x2.length : Int) - 1)).toNat ≤ x2.length))) <|
 Jl0 (x1, (x2.take (w64 ((x2.length : Int) - 1)).toNat), x3, l4))
 else (bif ((x2.length : Int) == 0) then (some (((false, x2), ()), ()))
 else (some (((x1, x2), ()), ()))))
 else (bif ((x2.length : Int) == 0) then (some (((false, x2), ()), ()))
 else (some (((x1, x2), ()), ())))
def f136_b (Jl0 : f136_Vl0 → Option (((Bool × (List Int)) × Unit) × (Unit))) (a0 : (Bool × (List Int))) : Option (((Bool × (List Int)) × Unit) × (Unit)) :=
 Jl0 (a0.1, a0.2, false, ([] : List Int))
def f136_Ll0 (k : Nat)  : f136_Vl0 → Option (((Bool × (List Int)) × Unit) × (Unit)) := loopI (fun Jl0 => f136_bl0 Jl0) k
def f136_I (k : Nat) (a0 : (Bool × (List Int))) : Option (((Bool × (List Int)) × Unit) × (Unit)) := f136_b (f136_Ll0 k) a0
theorem f136_el0 (k : Nat) (Al0 : Jump (((Bool × (List Int)) × Unit) × (Unit))) (v : f136_Vl0) : rawBody (f136_cx) f136_an k (bodyOf Tryz.f136) [1, 0, 0] [] (vend (f136_cx) Tryz.f136 [.val (.pair .bool (.list (.int .i64)))] [(.pair .bool (.list (.int .i64)))]) Al0 (f136_Tl0 v) (f136_Hl0 v) =
 f136_bl0 (fun v => Al0 (f136_Tl0 v) (f136_Hl0 v)) v := by kernel_rfl
theorem f136_ll0 (k : Nat) (v : f136_Vl0) : rawLoop (f136_cx) f136_an k (bodyOf Tryz.f136) [1, 0, 0] [] (vend (f136_cx) Tryz.f136 [.val (.pair .bool (.list (.int .i64)))] [(.pair .bool (.list (.int .i64)))]) k (f136_Tl0 v) (f136_Hl0 v) = f136_Ll0 k v :=
 rawLoop_eq (bI := fun Jl0 => f136_bl0 Jl0) f136_Tl0 f136_Hl0 (fun Al0 v => (f136_el0 k Al0 v)) k v
theorem f136_e (k : Nat) (x : ((Bool × (List Int)) × Unit)) : vfun (f136_cx) f136_an k Tryz.f136 [.val (.pair .bool (.list (.int .i64)))] [(.pair .bool (.list (.int .i64)))] x =
 f136_b (fun v => rawLoop (f136_cx) f136_an k (bodyOf Tryz.f136) [1, 0, 0] [] (vend (f136_cx) Tryz.f136 [.val (.pair .bool (.list (.int .i64)))] [(.pair .bool (.list (.int .i64)))]) k (f136_Tl0 v) (f136_Hl0 v)) x.1 := by kernel_rfl
theorem f136_eq (k : Nat) (x : ((Bool × (List Int)) × Unit)) : vfun (f136_cx) f136_an k Tryz.f136 [.val (.pair .bool (.list (.int .i64)))] [(.pair .bool (.list (.int .i64)))] x = f136_I k x.1 :=
 ((f136_e k x).trans (congrArg (fun (J : f136_Vl0 → Option (((Bool × (List Int)) × Unit) × (Unit))) => f136_b J x.1) (funext (f136_ll0 k))))
theorem f136_ok (k : Nat) : FnOk Tryz.prog 136 ⟨[.val (.pair .bool (.list (.int .i64)))], [(.pair .bool (.list (.int .i64)))], fun x => f136_I k x.1⟩ :=
 (fn_ok (an := f136_an) (k := k) follows_mixed tys_ok ⟨look_fn AllFn.nil, look_new AllNew.nil⟩ Tryz.func136 rfl rfl rfl).of (funext (f136_eq k))
/-! joinlearn/schema.features$1 -/
abbrev f134_cx : Cx := ⟨look tys, look [], 9, look [], [], []⟩
def f134_an : Ann := ⟨look [], look []⟩
def f134_b  (a0 : (Int × (Int × Int))) (a1 : (Int × (Int × Int))) : Option ((Bool × Unit) × ((Int × (Int × Int)) × Unit)) :=
 some (((a0.1 == a1.1), ()), a1, ())
def f134_I (k : Nat) (a0 : (Int × (Int × Int))) (a1 : (Int × (Int × Int))) : Option ((Bool × Unit) × ((Int × (Int × Int)) × Unit)) := f134_b a0 a1
theorem f134_eq (k : Nat) (x : ((Int × (Int × Int)) × (Int × (Int × Int)) × Unit)) : vfun (f134_cx) f134_an k Tryz.f134 [.val (.pair (.int .i64) (.pair (.int .i64) (.int .i64))), .ptr (.pair (.int .i64) (.pair (.int .i64) (.int .i64)))] [.bool] x = f134_I k x.1 x.2.1 := by kernel_rfl
theorem f134_ok (k : Nat) : FnOk Tryz.prog 134 ⟨[.val (.pair (.int .i64) (.pair (.int .i64) (.int .i64))), .ptr (.pair (.int .i64) (.pair (.int .i64) (.int .i64)))], [.bool], fun x => f134_I k x.1 x.2.1⟩ :=
 (fn_ok (an := f134_an) (k := k) follows_mixed tys_ok ⟨look_fn AllFn.nil, look_new AllNew.nil⟩ Tryz.func134 rfl rfl rfl).of (funext (f134_eq k))
/-! slices.ContainsFunc[[]joinlearn/api.Feature,joinlearn/api.Feature] -/
abbrev f133_cx (F170 : ((List (Int × (Int × Int))) × ((Int × (Int × Int)) × Unit) × Unit) → Option ((Int × Unit) × (((Int × (Int × Int)) × Unit) × Unit))) : Cx := ⟨look tys, look [(170, ⟨[.val (.list (.pair (.int .i64) (.pair (.int .i64) (.int .i64)))), .clo 134 [(.pair (.int .i64) (.pair (.int .i64) (.int .i64)))]], [(.int .i64)], F170⟩)], 9, look [], [], []⟩
def f133_an : Ann := ⟨look [], look []⟩
def f133_b (F170 : ((List (Int × (Int × Int))) × ((Int × (Int × Int)) × Unit) × Unit) → Option ((Int × Unit) × (((Int × (Int × Int)) × Unit) × Unit)))  (a0 : (List (Int × (Int × Int)))) (a1_0 : (Int × (Int × Int))) : Option ((Bool × Unit) × (((Int × (Int × Int)) × Unit) × Unit)) :=
 Option.bind (F170 (a0, (a1_0, ()), ())) fun r1 =>
 some (((decide (r1.1.1 ≥ 0)), ()), (r1.2.1.1, ()), ())
def f133_I (k : Nat) (F170 : ((List (Int × (Int × Int))) × ((Int × (Int × Int)) × Unit) × Unit) → Option ((Int × Unit) × (((Int × (Int × Int)) × Unit) × Unit))) (a0 : (List (Int × (Int × Int)))) (a1_0 : (Int × (Int × Int))) : Option ((Bool × Unit) × (((Int × (Int × Int)) × Unit) × Unit)) := f133_b F170 a0 a1_0
theorem f133_eq (k : Nat) (F170 : ((List (Int × (Int × Int))) × ((Int × (Int × Int)) × Unit) × Unit) → Option ((Int × Unit) × (((Int × (Int × Int)) × Unit) × Unit))) (x : ((List (Int × (Int × Int))) × ((Int × (Int × Int)) × Unit) × Unit)) : vfun (f133_cx F170) f133_an k Tryz.f133 [.val (.list (.pair (.int .i64) (.pair (.int .i64) (.int .i64)))), .clo 134 [(.pair (.int .i64) (.pair (.int .i64) (.int .i64)))]] [.bool] x = f133_I k F170 x.1 x.2.1.1 := by kernel_rfl
theorem f133_ok (k : Nat) (F170 : ((List (Int × (Int × Int))) × ((Int × (Int × Int)) × Unit) × Unit) → Option ((Int × Unit) × (((Int × (Int × Int)) × Unit) × Unit))) (h170 : FnOk Tryz.prog 170 ⟨[.val (.list (.pair (.int .i64) (.pair (.int .i64) (.int .i64)))), .clo 134 [(.pair (.int .i64) (.pair (.int .i64) (.int .i64)))]], [(.int .i64)], F170⟩) : FnOk Tryz.prog 133 ⟨[.val (.list (.pair (.int .i64) (.pair (.int .i64) (.int .i64)))), .clo 134 [(.pair (.int .i64) (.pair (.int .i64) (.int .i64)))]], [.bool], fun x => f133_I k F170 x.1 x.2.1.1⟩ :=
 (fn_ok (an := f133_an) (k := k) follows_mixed tys_ok ⟨look_fn (AllFn.cons h170 (AllFn.nil)), look_new AllNew.nil⟩ Tryz.func133 rfl rfl rfl).of (funext (f133_eq k F170))
/-! slices.Contains[[]bool,bool] -/
abbrev f132_cx (F169 : ((List Bool) × Bool × Unit) → Option ((Int × Unit) × (Unit))) : Cx := ⟨look tys, look [(169, ⟨[.val (.list .bool), .val .bool], [(.int .i64)], F169⟩)], 9, look [], [], []⟩
def f132_an : Ann := ⟨look [], look []⟩
def f132_b (F169 : ((List Bool) × Bool × Unit) → Option ((Int × Unit) × (Unit)))  (a0 : (List Bool)) (a1 : Bool) : Option ((Bool × Unit) × (Unit)) :=
 Option.bind (F169 (a0, a1, ())) fun r1 =>
 some (((decide (r1.1.1 ≥ 0)), ()), ())
def f132_I (k : Nat) (F169 : ((List Bool) × Bool × Unit) → Option ((Int × Unit) × (Unit))) (a0 : (List Bool)) (a1 : Bool) : Option ((Bool × Unit) × (Unit)) := f132_b F169 a0 a1
theorem f132_eq (k : Nat) (F169 : ((List Bool) × Bool × Unit) → Option ((Int × Unit) × (Unit))) (x : ((List Bool) × Bool × Unit)) : vfun (f132_cx F169) f132_an k Tryz.f132 [.val (.list .bool), .val .bool] [.bool] x = f132_I k F169 x.1 x.2.1 := by kernel_rfl
theorem f132_ok (k : Nat) (F169 : ((List Bool) × Bool × Unit) → Option ((Int × Unit) × (Unit))) (h169 : FnOk Tryz.prog 169 ⟨[.val (.list .bool), .val .bool], [(.int .i64)], F169⟩) : FnOk Tryz.prog 132 ⟨[.val (.list .bool), .val .bool], [.bool], fun x => f132_I k F169 x.1 x.2.1⟩ :=
 (fn_ok (an := f132_an) (k := k) follows_mixed tys_ok ⟨look_fn (AllFn.cons h169 (AllFn.nil)), look_new AllNew.nil⟩ Tryz.func132 rfl rfl rfl).of (funext (f132_eq k F169))
end Go.JL
