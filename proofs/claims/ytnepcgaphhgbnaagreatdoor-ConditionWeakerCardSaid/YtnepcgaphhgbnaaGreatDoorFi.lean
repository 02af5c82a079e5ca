/- Functions of the program as plain Lean functions. Printed by a program of mine; checked by the kernel. -/
import Derived.Test.YtnepcgaphhgbnaaGreatDoorFa
set_option linter.unusedVariables false
set_option maxRecDepth 100000
namespace Go.JL
open Go.Proofs
/-! joinlearn/joinlearnref01.Of -/
abbrev f105_cx : Cx := ⟨look tys, look [], 25, look [], [], []⟩
def f105_an : Ann := ⟨look [(0, ⟨[0, 2, 3], [200, 202, 300, 302], [(300, 1, 302, (.int .i64))]⟩)], look []⟩
abbrev f105_Vl0 : Type := Int × Bool × (List Int) × Bool × (List Int)
def f105_Tl0 (v : f105_Vl0) : Nat → LV := tbl [(0, .c (.s (.int .i64) v.1)), (2, .c (.ptr 200 0 0)), (3, .c (.ptr 300 0 0))]
def f105_Hl0 (v : f105_Vl0) : Nat → Option VO := tblH [(200, some ⟨0, .cells [.s .bool v.2.1, .own 202 0 .full], false⟩), (202, some ⟨0, .row (.int .i64) v.2.2.1, false⟩), (300, some ⟨0, .cells [.s .bool v.2.2.2.1, .own 302 0 .full], false⟩), (302, some ⟨0, .row (.int .i64) v.2.2.2.2, false⟩)]

def f105_bl0 (Jl0 : f105_Vl0 → Option (((Bool × (List Int)) × Unit) × (Unit))) : f105_Vl0 → Option (((Bool × (List Int)) × Unit) × (Unit)) := fun (x1, x2, l3, x4, l5) =>
 bif (x1 != 0) then (bif (decide ((x1.tmod 1000000000) < 0)) then (chk (roomFor (l5.length + 1) 8) <|
 Jl0 ((w64 (x1.tdiv 1000000000)), x2, l3, x4, (l5 ++ ([(w64 (0 - (x1.tmod 1000000000)))] : List Int))))
 else (chk (roomFor (l5.length + 1) 8) <|
 Jl0 ((w64 (x1.tdiv 1000000000)), x2, l3, x4, (l5 ++ ([(x1.tmod 1000000000)] : List Int)))))
 else (some (((x4, l5), ()), ()))
def f105_b (Jl0 : f105_Vl0 → Option (((Bool × (List Int)) × Unit) × (Unit))) (a0 : Int) : Option (((Bool × (List Int)) × Unit) × (Unit)) :=
 Jl0 (a0, false, ([] : List Int), (decide (a0 < 0)), ([] : List Int))
def f105_Ll0 (k : Nat)  : f105_Vl0 → Option (((Bool × (List Int)) × Unit) × (Unit)) := loopI (fun Jl0 => f105_bl0 Jl0) k
def f105_I (k : Nat) (a0 : Int) : Option (((Bool × (List Int)) × Unit) × (Unit)) := f105_b (f105_Ll0 k) a0
theorem f105_el0 (k : Nat) (Al0 : Jump (((Bool × (List Int)) × Unit) × (Unit))) (v : f105_Vl0) : rawBody (f105_cx) f105_an k (bodyOf Tryz.f105) [1, 1, 0, 0] [] (vend (f105_cx) Tryz.f105 [.val (.int .i64)] [(.pair .bool (.list (.int .i64)))]) Al0 (f105_Tl0 v) (f105_Hl0 v) =
 f105_bl0 (fun v => Al0 (f105_Tl0 v) (f105_Hl0 v)) v := by kernel_rfl
theorem f105_ll0 (k : Nat) (v : f105_Vl0) : rawLoop (f105_cx) f105_an k (bodyOf Tryz.f105) [1, 1, 0, 0] [] (vend (f105_cx) Tryz.f105 [.val (.int .i64)] [(.pair .bool (.list (.int .i64)))]) k (f105_Tl0 v) (f105_Hl0 v) = f105_Ll0 k v :=
 rawLoop_eq (bI := fun Jl0 => f105_bl0 Jl0) f105_Tl0 f105_Hl0 (fun Al0 v => (f105_el0 k Al0 v)) k v
theorem f105_e (k : Nat) (x : (Int × Unit)) : vfun (f105_cx) f105_an k Tryz.f105 [.val (.int .i64)] [(.pair .bool (.list (.int .i64)))] x =
 f105_b (fun v => rawLoop (f105_cx) f105_an k (bodyOf Tryz.f105) [1, 1, 0, 0] [] (vend (f105_cx) Tryz.f105 [.val (.int .i64)] [(.pair .bool (.list (.int .i64)))]) k (f105_Tl0 v) (f105_Hl0 v)) x.1 := by kernel_rfl
theorem f105_eq (k : Nat) (x : (Int × Unit)) : vfun (f105_cx) f105_an k Tryz.f105 [.val (.int .i64)] [(.pair .bool (.list (.int .i64)))] x = f105_I k x.1 :=
 ((f105_e k x).trans (congrArg (fun (J : f105_Vl0 → Option (((Bool × (List Int)) × Unit) × (Unit))) => f105_b J x.1) (funext (f105_ll0 k))))
theorem f105_ok (k : Nat) : FnOk Tryz.prog 105 ⟨[.val (.int .i64)], [(.pair .bool (.list (.int .i64)))], fun x => f105_I k x.1⟩ :=
 (fn_ok (an := f105_an) (k := k) follows_mixed tys_ok ⟨look_fn AllFn.nil, look_new AllNew.nil⟩ Tryz.func105 rfl rfl rfl).of (funext (f105_eq k))
/-! joinlearn/schema.features -/
abbrev f97_cx (F133 : ((List (Int × (Int × Int))) × ((Int × (Int × Int)) × Unit) × Unit) → Option ((Bool × Unit) × (((Int × (Int × Int)) × Unit) × Unit))) : Cx := ⟨look tys, look [(133, ⟨[.val (.list (.pair (.int .i64) (.pair (.int .i64) (.int .i64)))), .clo 134 [(.pair (.int .i64) (.pair (.int .i64) (.int .i64)))]], [.bool], F133⟩)], 83, look [], [], []⟩
def f97_an : Ann := ⟨look [(0, ⟨[1, 9, 10, 11], [100], []⟩)], look []⟩
abbrev f97_Vl0 : Type := (List (Int × (Int × Int))) × Int × Int × (List ((List UInt8) × Int)) × (List ((List UInt8) × (List Int))) × (List (Int × (Int × Int))) × Int
def f97_Tl0 (v : f97_Vl0) : Nat → LV := tbl [(1, .c (.ptr 100 0 0)), (9, .c (.s (.list (.pair (.int .i64) (.pair (.int .i64) (.int .i64)))) v.1)), (10, .c (.s (.int .i64) v.2.1)), (11, .c (.s (.int .i64) v.2.2.1))]
def f97_Hl0 (v : f97_Vl0) : Nat → Option VO := tblH [(100, some ⟨0, .cells [.s (.list (.pair .str (.int .i64))) v.2.2.2.1, .s (.list (.pair .str (.list (.int .i64)))) v.2.2.2.2.1, .s (.list (.pair (.int .i64) (.pair (.int .i64) (.int .i64)))) v.2.2.2.2.2.1, .s (.int .i64) v.2.2.2.2.2.2], false⟩)]

def f97_bl0 (F133 : ((List (Int × (Int × Int))) × ((Int × (Int × Int)) × Unit) × Unit) → Option ((Bool × Unit) × (((Int × (Int × Int)) × Unit) × Unit))) (Jl0 : f97_Vl0 → Option ((Int × Unit) × (Unit))) : f97_Vl0 → Option ((Int × Unit) × (Unit)) := fun (x1, x2, x3, x4, x5, x6, x7) =>
 bif (decide (x3 < x2)) then (rd x1 x3 fun y8 =>
 bif (decide (y8.1 < 0)) then (some ((2, ()), ()))
 else (bif (decide (y8.1 ≥ (x4.length : Int))) then (some ((2, ()), ()))
 else (rd x4 y8.1 fun y9 =>
 bif (y8.2.1 == 1) then (bif (y9.2 == 2) then (bif (y8.2.2 == 0) then (bif (y8.2.1 == 2) then (bif (y9.2 == 3) then (bif (y8.1 == x7) then (some ((9, ()), ()))
 else (chk ((decide (0 ≤ x3)) && (decide (x3.toNat ≤ x6.length))) <|
 Option.bind (F133 ((x6.take x3.toNat), (y8, ()), ())) fun r10 =>
 bif r10.1.1 then (some ((9, ()), ()))
 else (Jl0 (x1, x2, (w64 (x3 + 1)), x4, x5, x6, x7))))
 else (bif (y8.1 == x7) then (some ((9, ()), ()))
 else (chk ((decide (0 ≤ x3)) && (decide (x3.toNat ≤ x6.length))) <|
 Option.bind (F133 ((x6.take x3.toNat), (y8, ()), ())) fun r11 =>
 bif r11.1.1 then (some ((9, ()), ()))
 else (Jl0 (x1, x2, (w64 (x3 + 1)), x4, x5, x6, x7)))))
 else (bif (y8.1 == x7) then (some ((9, ()), ()))
 else (chk ((decide (0 ≤ x3)) && (decide (x3.toNat ≤ x6.length))) <|
 Option.bind (F133 ((x6.take x3.toNat), (y8, ()), ())) fun r12 =>
 bif r12.1.1 then (some ((9, ()), ()))
 else (Jl0 (x1, x2, (w64 (x3 + 1)), x4, x5, x6, x7)))))
 else (bif (y8.2.1 == 2) then (bif (y9.2 == 3) then (bif (!(y8.2.2 == 1)) then (bif (!(y8.2.2 == 0)) then (some ((7, ()), ()))
 else (bif (y8.1 == x7) then (some ((9, ()), ()))
 else (chk ((decide (0 ≤ x3)) && (decide (x3.toNat ≤ x6.length))) <|
 Option.bind (F133 ((x6.take x3.toNat), (y8, ()), ())) fun r13 =>
 bif r13.1.1 then (some ((9, ()), ()))
 else (Jl0 (x1, x2, (w64 (x3 + 1)), x4, x5, x6, x7)))))
 else (bif (y8.1 == x7) then (some ((9, ()), ()))
 else (chk ((decide (0 ≤ x3)) && (decide (x3.toNat ≤ x6.length))) <|
 Option.bind (F133 ((x6.take x3.toNat), (y8, ()), ())) fun r14 =>
 bif r14.1.1 then (some ((9, ()), ()))
 else (Jl0 (x1, x2, (w64 (x3 + 1)), x4, x5, x6, x7)))))
 else (bif (!(y8.2.2 == 1)) then (some ((7, ()), ()))
 else (bif (y8.1 == x7) then (some ((9, ()), ()))
 else (chk ((decide (0 ≤ x3)) && (decide (x3.toNat ≤ x6.length))) <|
 Option.bind (F133 ((x6.take x3.toNat), (y8, ()), ())) fun r15 =>
 bif r15.1.1 then (some ((9, ()), ()))
 else (Jl0 (x1, x2, (w64 (x3 + 1)), x4, x5, x6, x7))))))
 else (bif (!(y8.2.2 == 1)) then (some ((7, ()), ()))
 else (bif (y8.1 == x7) then (some ((9, ()), ()))
 else (chk ((decide (0 ≤ x3)) && (decide (x3.toNat ≤ x6.length))) <|
 Option.bind (F133 ((x6.take x3.toNat), (y8, ()), ())) fun r16 =>
 bif r16.1.1 then (some ((9, ()), ()))
 else (Jl0 (x1, x2, (w64 (x3 + 1)), x4, x5, x6, x7)))))))
 else (bif (y8.2.1 == 2) then (bif (y9.2 == 3) then (bif (!(y8.2.2 == 0)) then (some ((7, ()), ()))
 else (bif (y8.1 == x7) then (some ((9, ()), ()))
 else (chk ((decide (0 ≤ x3)) && (decide (x3.toNat ≤ x6.length))) <|
 Option.bind (F133 ((x6.take x3.toNat), (y8, ()), ())) fun r17 =>
 bif r17.1.1 then (some ((9, ()), ()))
 else (Jl0 (x1, x2, (w64 (x3 + 1)), x4, x5, x6, x7)))))
 else (some ((7, ()), ())))
 else (some ((7, ()), ()))))
 else (bif (y8.2.1 == 2) then (bif (y9.2 == 3) then (bif (!(y8.2.2 == 0)) then (some ((7, ()), ()))
 else (bif (y8.1 == x7) then (some ((9, ()), ()))
 else (chk ((decide (0 ≤ x3)) && (decide (x3.toNat ≤ x6.length))) <|
 Option.bind (F133 ((x6.take x3.toNat), (y8, ()), ())) fun r18 =>
 bif r18.1.1 then (some ((9, ()), ()))
 else (Jl0 (x1, x2, (w64 (x3 + 1)), x4, x5, x6, x7)))))
 else (some ((7, ()), ())))
 else (some ((7, ()), ()))))))
 else (some ((0, ()), ()))
def f97_b (F133 : ((List (Int × (Int × Int))) × ((Int × (Int × Int)) × Unit) × Unit) → Option ((Bool × Unit) × (((Int × (Int × Int)) × Unit) × Unit))) (Jl0 : f97_Vl0 → Option ((Int × Unit) × (Unit))) (a0 : ((List ((List UInt8) × Int)) × ((List ((List UInt8) × (List Int))) × ((List (Int × (Int × Int))) × Int)))) : Option ((Int × Unit) × (Unit)) :=
 Jl0 (a0.2.2.1, (a0.2.2.1.length : Int), 0, a0.1, a0.2.1, a0.2.2.1, a0.2.2.2)
def f97_Ll0 (k : Nat) (F133 : ((List (Int × (Int × Int))) × ((Int × (Int × Int)) × Unit) × Unit) → Option ((Bool × Unit) × (((Int × (Int × Int)) × Unit) × Unit)))  : f97_Vl0 → Option ((Int × Unit) × (Unit)) := loopI (fun Jl0 => f97_bl0 F133 Jl0) k
def f97_I (k : Nat) (F133 : ((List (Int × (Int × Int))) × ((Int × (Int × Int)) × Unit) × Unit) → Option ((Bool × Unit) × (((Int × (Int × Int)) × Unit) × Unit))) (a0 : ((List ((List UInt8) × Int)) × ((List ((List UInt8) × (List Int))) × ((List (Int × (Int × Int))) × Int)))) : Option ((Int × Unit) × (Unit)) := f97_b F133 (f97_Ll0 k F133) a0
theorem f97_el0 (k : Nat) (F133 : ((List (Int × (Int × Int))) × ((Int × (Int × Int)) × Unit) × Unit) → Option ((Bool × Unit) × (((Int × (Int × Int)) × Unit) × Unit))) (Al0 : Jump ((Int × Unit) × (Unit))) (v : f97_Vl0) : rawBody (f97_cx F133) f97_an k (bodyOf Tryz.f97) [1, 0, 1, 0] [] (vend (f97_cx F133) Tryz.f97 [.val (.pair (.list (.pair .str (.int .i64))) (.pair (.list (.pair .str (.list (.int .i64)))) (.pair (.list (.pair (.int .i64) (.pair (.int .i64) (.int .i64)))) (.int .i64))))] [(.int .i64)]) Al0 (f97_Tl0 v) (f97_Hl0 v) =
 f97_bl0 F133 (fun v => Al0 (f97_Tl0 v) (f97_Hl0 v)) v := by kernel_rfl
theorem f97_ll0 (k : Nat) (F133 : ((List (Int × (Int × Int))) × ((Int × (Int × Int)) × Unit) × Unit) → Option ((Bool × Unit) × (((Int × (Int × Int)) × Unit) × Unit))) (v : f97_Vl0) : rawLoop (f97_cx F133) f97_an k (bodyOf Tryz.f97) [1, 0, 1, 0] [] (vend (f97_cx F133) Tryz.f97 [.val (.pair (.list (.pair .str (.int .i64))) (.pair (.list (.pair .str (.list (.int .i64)))) (.pair (.list (.pair (.int .i64) (.pair (.int .i64) (.int .i64)))) (.int .i64))))] [(.int .i64)]) k (f97_Tl0 v) (f97_Hl0 v) = f97_Ll0 k F133 v :=
 rawLoop_eq (bI := fun Jl0 => f97_bl0 F133 Jl0) f97_Tl0 f97_Hl0 (fun Al0 v => (f97_el0 k F133 Al0 v)) k v
theorem f97_e (k : Nat) (F133 : ((List (Int × (Int × Int))) × ((Int × (Int × Int)) × Unit) × Unit) → Option ((Bool × Unit) × (((Int × (Int × Int)) × Unit) × Unit))) (x : (((List ((List UInt8) × Int)) × ((List ((List UInt8) × (List Int))) × ((List (Int × (Int × Int))) × Int))) × Unit)) : vfun (f97_cx F133) f97_an k Tryz.f97 [.val (.pair (.list (.pair .str (.int .i64))) (.pair (.list (.pair .str (.list (.int .i64)))) (.pair (.list (.pair (.int .i64) (.pair (.int .i64) (.int .i64)))) (.int .i64))))] [(.int .i64)] x =
 f97_b F133 (fun v => rawLoop (f97_cx F133) f97_an k (bodyOf Tryz.f97) [1, 0, 1, 0] [] (vend (f97_cx F133) Tryz.f97 [.val (.pair (.list (.pair .str (.int .i64))) (.pair (.list (.pair .str (.list (.int .i64)))) (.pair (.list (.pair (.int .i64) (.pair (.int .i64) (.int .i64)))) (.int .i64))))] [(.int .i64)]) k (f97_Tl0 v) (f97_Hl0 v)) x.1 := by kernel_rfl
theorem f97_eq (k : Nat) (F133 : ((List (Int × (Int × Int))) × ((Int × (Int × Int)) × Unit) × Unit) → Option ((Bool × Unit) × (((Int × (Int × Int)) × Unit) × Unit))) (x : (((List ((List UInt8) × Int)) × ((List ((List UInt8) × (List Int))) × ((List (Int × (Int × Int))) × Int))) × Unit)) : vfun (f97_cx F133) f97_an k Tryz.f97 [.val (.pair (.list (.pair .str (.int .i64))) (.pair (.list (.pair .str (.list (.int .i64)))) (.pair (.list (.pair (.int .i64) (.pair (.int .i64) (.int .i64)))) (.int .i64))))] [(.int .i64)] x = f97_I k F133 x.1 :=
 ((f97_e k F133 x).trans (congrArg (fun (J : f97_Vl0 → Option ((Int × Unit) × (Unit))) => f97_b F133 J x.1) (funext (f97_ll0 k F133))))
theorem f97_ok (k : Nat) (F133 : ((List (Int × (Int × Int))) × ((Int × (Int × Int)) × Unit) × Unit) → Option ((Bool × Unit) × (((Int × (Int × Int)) × Unit) × Unit))) (h133 : FnOk Tryz.prog 133 ⟨[.val (.list (.pair (.int .i64) (.pair (.int .i64) (.int .i64)))), .clo 134 [(.pair (.int .i64) (.pair (.int .i64) (.int .i64)))]], [.bool], F133⟩) : FnOk Tryz.prog 97 ⟨[.val (.pair (.list (.pair .str (.int .i64))) (.pair (.list (.pair .str (.list (.int .i64)))) (.pair (.list (.pair (.int .i64) (.pair (.int .i64) (.int .i64)))) (.int .i64))))], [(.int .i64)], fun x => f97_I k F133 x.1⟩ :=
 (fn_ok (an := f97_an) (k := k) follows_mixed tys_ok ⟨look_fn (AllFn.cons h133 (AllFn.nil)), look_new AllNew.nil⟩ Tryz.func97 rfl rfl rfl).of (funext (f97_eq k F133))
/-! joinlearn/schema.relations -/
abbrev f96_cx (F131 : ((List (List UInt8)) × Int × Unit) → Option ((Int × Unit) × (Unit))) (F132 : ((List Bool) × Bool × Unit) → Option ((Bool × Unit) × (Unit))) : Cx := ⟨look tys, look [(131, ⟨[.val (.list .str), .val (.int .i64)], [(.int .i64)], F131⟩), (132, ⟨[.val (.list .bool), .val .bool], [.bool], F132⟩)], 79, look [], [], []⟩
def f96_an : Ann := ⟨look [(0, ⟨[3, 4, 16, 17, 18], [300, 1400], []⟩), (2, ⟨[3, 4, 6, 16, 17, 18, 39, 40, 41], [300, 600, 1400], []⟩), (4, ⟨[3, 4, 6, 10, 16, 17, 18], [300, 600, 1400], []⟩)], look []⟩
abbrev f96_Vl0 : Type := (List ((List UInt8) × (List Int))) × Int × Int × (List (List UInt8)) × (List Bool)
def f96_Tl0 (v : f96_Vl0) : Nat → LV := tbl [(3, .c (.own 300 0 .full)), (4, .c (.own 1400 0 .full)), (16, .c (.s (.list (.pair .str (.list (.int .i64)))) v.1)), (17, .c (.s (.int .i64) v.2.1)), (18, .c (.s (.int .i64) v.2.2.1))]
def f96_Hl0 (v : f96_Vl0) : Nat → Option VO := tblH [(300, some ⟨0, .row .str v.2.2.2.1, false⟩), (1400, some ⟨0, .row .bool v.2.2.2.2, false⟩)]

abbrev f96_Vl2 : Type := (List ((List UInt8) × (List Int))) × Int × Int × (List Int) × Int × Int × (List (List UInt8)) × (List UInt8) × (List Int) × (List Bool)
def f96_Tl2 (v : f96_Vl2) : Nat → LV := tbl [(3, .c (.own 300 0 .full)), (4, .c (.own 1400 0 .full)), (6, .c (.ptr 600 0 0)), (16, .c (.s (.list (.pair .str (.list (.int .i64)))) v.1)), (17, .c (.s (.int .i64) v.2.1)), (18, .c (.s (.int .i64) v.2.2.1)), (39, .c (.s (.list (.int .i64)) v.2.2.2.1)), (40, .c (.s (.int .i64) v.2.2.2.2.1)), (41, .c (.s (.int .i64) v.2.2.2.2.2.1))]
def f96_Hl2 (v : f96_Vl2) : Nat → Option VO := tblH [(300, some ⟨0, .row .str v.2.2.2.2.2.2.1, false⟩), (600, some ⟨0, .cells [.s .str v.2.2.2.2.2.2.2.1, .s (.list (.int .i64)) v.2.2.2.2.2.2.2.2.1], false⟩), (1400, some ⟨0, .row .bool v.2.2.2.2.2.2.2.2.2, false⟩)]

abbrev f96_Vl4 : Type := Int × (List ((List UInt8) × (List Int))) × Int × Int × (List (List UInt8)) × (List UInt8) × (List Int) × (List Bool)
def f96_Tl4 (v : f96_Vl4) : Nat → LV := tbl [(3, .c (.own 300 0 .full)), (4, .c (.own 1400 0 .full)), (6, .c (.ptr 600 0 0)), (10, .c (.s (.int .i64) v.1)), (16, .c (.s (.list (.pair .str (.list (.int .i64)))) v.2.1)), (17, .c (.s (.int .i64) v.2.2.1)), (18, .c (.s (.int .i64) v.2.2.2.1))]
def f96_Hl4 (v : f96_Vl4) : Nat → Option VO := tblH [(300, some ⟨0, .row .str v.2.2.2.2.1, false⟩), (600, some ⟨0, .cells [.s .str v.2.2.2.2.2.1, .s (.list (.int .i64)) v.2.2.2.2.2.2.1], false⟩), (1400, some ⟨0, .row .bool v.2.2.2.2.2.2.2, false⟩)]

def f96_bl0 (F131 : ((List (List UInt8)) × Int × Unit) → Option ((Int × Unit) × (Unit))) (F132 : ((List Bool) × Bool × Unit) → Option ((Bool × Unit) × (Unit))) (Jl2 : f96_Vl2 → Option ((Int × Unit) × (Unit))) : f96_Vl0 → Option ((Int × Unit) × (Unit)) := fun (x1, x2, x3, l4, l5) =>
 bif (decide (x3 < x2)) then (rd x1 x3 fun y6 =>
 chk (roomFor (l4.length + 1) 16) <|
 Option.bind (F131 ((l4 ++ ([y6.1] : List (List UInt8))), x3, ())) fun r7 =>
 bif (r7.1.1 != 0) then (some ((r7.1.1, ()), ()))
 else (bif ((y6.2.length : Int) == 0) then (some ((7, ()), ()))
 else (Jl2 (x1, x2, x3, y6.2, (y6.2.length : Int), 0, (l4 ++ ([y6.1] : List (List UInt8))), y6.1, y6.2, l5))))
 else (Option.bind (F132 (l5, false, ())) fun r18 =>
 bif r18.1.1 then (some ((7, ()), ()))
 else (some ((0, ()), ())))
def f96_bl2 (F131 : ((List (List UInt8)) × Int × Unit) → Option ((Int × Unit) × (Unit))) (F132 : ((List Bool) × Bool × Unit) → Option ((Bool × Unit) × (Unit))) (Jl2 : f96_Vl2 → Option ((Int × Unit) × (Unit))) (Jl4 : f96_Vl4 → Option ((Int × Unit) × (Unit))) : f96_Vl2 → Option ((Int × Unit) × (Unit)) := fun (x8, x9, x10, x11, x12, x13, l14, x15, x16, l17) =>
 bif (decide (x13 < x12)) then (rd x11 x13 fun y19 =>
 bif (decide (y19 < 0)) then (some ((2, ()), ()))
 else (bif (decide (y19 ≥ (l17.length : Int))) then (some ((2, ()), ()))
 else (chk (decide (0 ≤ y19)) <|
 chk (decide (y19.toNat < l17.length)) <|
 Option.bind l17[y19.toNat]? fun y20 =>
 Jl2 (x8, x9, x10, x11, x12, (w64 (x13 + 1)), l14, x15, x16, (l17.set y19.toNat true)))))
 else (Jl4 (1, x8, x9, x10, l14, x15, x16, l17))
def f96_bl4 (F131 : ((List (List UInt8)) × Int × Unit) → Option ((Int × Unit) × (Unit))) (F132 : ((List Bool) × Bool × Unit) → Option ((Bool × Unit) × (Unit))) (Jl0 : f96_Vl0 → Option ((Int × Unit) × (Unit))) (Jl4 : f96_Vl4 → Option ((Int × Unit) × (Unit))) : f96_Vl4 → Option ((Int × Unit) × (Unit)) := fun (x21, x22, x23, x24, l25, x26, x27, l28) =>
 bif (decide (x21 < (x27.length : Int))) then (rd x27 x21 fun y29 =>
 rd x27 (w64 (x21 - 1)) fun y30 =>
 bif (decide (y29 ≤ y30)) then (some ((10, ()), ()))
 else (Jl4 ((w64 (x21 + 1)), x22, x23, x24, l25, x26, x27, l28)))
 else (Jl0 (x22, x23, (w64 (x24 + 1)), l25, l28))
def f96_b (F131 : ((List (List UInt8)) × Int × Unit) → Option ((Int × Unit) × (Unit))) (F132 : ((List Bool) × Bool × Unit) → Option ((Bool × Unit) × (Unit))) (Jl0 : f96_Vl0 → Option ((Int × Unit) × (Unit))) (a0 : ((List ((List UInt8) × Int)) × ((List ((List UInt8) × (List Int))) × ((List (Int × (Int × Int))) × Int)))) : Option ((Int × Unit) × (Unit)) :=
 chk ((decide (0 ≤ (a0.1.length : Int))) && (decide (1 * (a0.1.length : Int).toNat ≤ 140737488355328))) <|
 Jl0 (a0.2.1, (a0.2.1.length : Int), 0, ([] : List (List UInt8)), (List.replicate (a0.1.length : Int).toNat (false : Bool)))
def f96_Ll4 (k : Nat) (F131 : ((List (List UInt8)) × Int × Unit) → Option ((Int × Unit) × (Unit))) (F132 : ((List Bool) × Bool × Unit) → Option ((Bool × Unit) × (Unit))) (Jl0 : f96_Vl0 → Option ((Int × Unit) × (Unit))) : f96_Vl4 → Option ((Int × Unit) × (Unit)) := loopI (fun Jl4 => f96_bl4 F131 F132 Jl0 Jl4) k
def f96_Ll2 (k : Nat) (F131 : ((List (List UInt8)) × Int × Unit) → Option ((Int × Unit) × (Unit))) (F132 : ((List Bool) × Bool × Unit) → Option ((Bool × Unit) × (Unit))) (Jl0 : f96_Vl0 → Option ((Int × Unit) × (Unit))) : f96_Vl2 → Option ((Int × Unit) × (Unit)) := loopI (fun Jl2 => f96_bl2 F131 F132 Jl2 (f96_Ll4 k F131 F132 Jl0)) k
def f96_Ll0 (k : Nat) (F131 : ((List (List UInt8)) × Int × Unit) → Option ((Int × Unit) × (Unit))) (F132 : ((List Bool) × Bool × Unit) → Option ((Bool × Unit) × (Unit)))  : f96_Vl0 → Option ((Int × Unit) × (Unit)) := loopI (fun Jl0 => f96_bl0 F131 F132 (f96_Ll2 k F131 F132 Jl0)) k
def f96_I (k : Nat) (F131 : ((List (List UInt8)) × Int × Unit) → Option ((Int × Unit) × (Unit))) (F132 : ((List Bool) × Bool × Unit) → Option ((Bool × Unit) × (Unit))) (a0 : ((List ((List UInt8) × Int)) × ((List ((List UInt8) × (List Int))) × ((List (Int × (Int × Int))) × Int)))) : Option ((Int × Unit) × (Unit)) := f96_b F131 F132 (f96_Ll0 k F131 F132) a0
theorem f96_el4 (k : Nat) (F131 : ((List (List UInt8)) × Int × Unit) → Option ((Int × Unit) × (Unit))) (F132 : ((List Bool) × Bool × Unit) → Option ((Bool × Unit) × (Unit))) (Al0 : Jump ((Int × Unit) × (Unit))) (Al4 : Jump ((Int × Unit) × (Unit))) (v : f96_Vl4) : rawBody (f96_cx F131 F132) f96_an k (bodyOf Tryz.f96) [1, 1, 1, 0, 1, 0, 0, 1, 1, 0, 0, 1, 1, 1, 1, 1, 1, 0] [Al0] (vend (f96_cx F131 F132) Tryz.f96 [.val (.pair (.list (.pair .str (.int .i64))) (.pair (.list (.pair .str (.list (.int .i64)))) (.pair (.list (.pair (.int .i64) (.pair (.int .i64) (.int .i64)))) (.int .i64))))] [(.int .i64)]) Al4 (f96_Tl4 v) (f96_Hl4 v) =
 f96_bl4 F131 F132 (fun v => Al0 (f96_Tl0 v) (f96_Hl0 v)) (fun v => Al4 (f96_Tl4 v) (f96_Hl4 v)) v := by kernel_rfl
theorem f96_ll4 (k : Nat) (F131 : ((List (List UInt8)) × Int × Unit) → Option ((Int × Unit) × (Unit))) (F132 : ((List Bool) × Bool × Unit) → Option ((Bool × Unit) × (Unit))) (Al0 : Jump ((Int × Unit) × (Unit))) (v : f96_Vl4) : rawLoop (f96_cx F131 F132) f96_an k (bodyOf Tryz.f96) [1, 1, 1, 0, 1, 0, 0, 1, 1, 0, 0, 1, 1, 1, 1, 1, 1, 0] [Al0] (vend (f96_cx F131 F132) Tryz.f96 [.val (.pair (.list (.pair .str (.int .i64))) (.pair (.list (.pair .str (.list (.int .i64)))) (.pair (.list (.pair (.int .i64) (.pair (.int .i64) (.int .i64)))) (.int .i64))))] [(.int .i64)]) k (f96_Tl4 v) (f96_Hl4 v) = f96_Ll4 k F131 F132 (fun v => Al0 (f96_Tl0 v) (f96_Hl0 v)) v :=
 rawLoop_eq (bI := fun Jl4 => f96_bl4 F131 F132 (fun v => Al0 (f96_Tl0 v) (f96_Hl0 v)) Jl4) f96_Tl4 f96_Hl4 (fun Al4 v => (f96_el4 k F131 F132 Al0 Al4 v)) k v
theorem f96_el2 (k : Nat) (F131 : ((List (List UInt8)) × Int × Unit) → Option ((Int × Unit) × (Unit))) (F132 : ((List Bool) × Bool × Unit) → Option ((Bool × Unit) × (Unit))) (Al0 : Jump ((Int × Unit) × (Unit))) (Al2 : Jump ((Int × Unit) × (Unit))) (v : f96_Vl2) : rawBody (f96_cx F131 F132) f96_an k (bodyOf Tryz.f96) [1, 1, 1, 0, 1, 0, 0, 1, 1, 0, 0, 1, 1, 1, 1, 0, 1, 0] [Al0] (vend (f96_cx F131 F132) Tryz.f96 [.val (.pair (.list (.pair .str (.int .i64))) (.pair (.list (.pair .str (.list (.int .i64)))) (.pair (.list (.pair (.int .i64) (.pair (.int .i64) (.int .i64)))) (.int .i64))))] [(.int .i64)]) Al2 (f96_Tl2 v) (f96_Hl2 v) =
 f96_bl2 F131 F132 (fun v => Al2 (f96_Tl2 v) (f96_Hl2 v)) (fun v => rawLoop (f96_cx F131 F132) f96_an k (bodyOf Tryz.f96) [1, 1, 1, 0, 1, 0, 0, 1, 1, 0, 0, 1, 1, 1, 1, 1, 1, 0] [Al0] (vend (f96_cx F131 F132) Tryz.f96 [.val (.pair (.list (.pair .str (.int .i64))) (.pair (.list (.pair .str (.list (.int .i64)))) (.pair (.list (.pair (.int .i64) (.pair (.int .i64) (.int .i64)))) (.int .i64))))] [(.int .i64)]) k (f96_Tl4 v) (f96_Hl4 v)) v := by kernel_rfl
theorem f96_ll2 (k : Nat) (F131 : ((List (List UInt8)) × Int × Unit) → Option ((Int × Unit) × (Unit))) (F132 : ((List Bool) × Bool × Unit) → Option ((Bool × Unit) × (Unit))) (Al0 : Jump ((Int × Unit) × (Unit))) (v : f96_Vl2) : rawLoop (f96_cx F131 F132) f96_an k (bodyOf Tryz.f96) [1, 1, 1, 0, 1, 0, 0, 1, 1, 0, 0, 1, 1, 1, 1, 0, 1, 0] [Al0] (vend (f96_cx F131 F132) Tryz.f96 [.val (.pair (.list (.pair .str (.int .i64))) (.pair (.list (.pair .str (.list (.int .i64)))) (.pair (.list (.pair (.int .i64) (.pair (.int .i64) (.int .i64)))) (.int .i64))))] [(.int .i64)]) k (f96_Tl2 v) (f96_Hl2 v) = f96_Ll2 k F131 F132 (fun v => Al0 (f96_Tl0 v) (f96_Hl0 v)) v :=
 rawLoop_eq (bI := fun Jl2 => f96_bl2 F131 F132 Jl2 (f96_Ll4 k F131 F132 (fun v => Al0 (f96_Tl0 v) (f96_Hl0 v)))) f96_Tl2 f96_Hl2 (fun Al2 v => ((f96_el2 k F131 F132 Al0 Al2 v).trans (congrArg (fun (J : f96_Vl4 → Option ((Int × Unit) × (Unit))) => f96_bl2 F131 F132 (fun v => Al2 (f96_Tl2 v) (f96_Hl2 v)) J v) (funext (f96_ll4 k F131 F132 Al0))))) k v
theorem f96_el0 (k : Nat) (F131 : ((List (List UInt8)) × Int × Unit) → Option ((Int × Unit) × (Unit))) (F132 : ((List Bool) × Bool × Unit) → Option ((Bool × Unit) × (Unit))) (Al0 : Jump ((Int × Unit) × (Unit))) (v : f96_Vl0) : rawBody (f96_cx F131 F132) f96_an k (bodyOf Tryz.f96) [1, 1, 1, 0, 1, 0] [] (vend (f96_cx F131 F132) Tryz.f96 [.val (.pair (.list (.pair .str (.int .i64))) (.pair (.list (.pair .str (.list (.int .i64)))) (.pair (.list (.pair (.int .i64) (.pair (.int .i64) (.int .i64)))) (.int .i64))))] [(.int .i64)]) Al0 (f96_Tl0 v) (f96_Hl0 v) =
 f96_bl0 F131 F132 (fun v => rawLoop (f96_cx F131 F132) f96_an k (bodyOf Tryz.f96) [1, 1, 1, 0, 1, 0, 0, 1, 1, 0, 0, 1, 1, 1, 1, 0, 1, 0] [Al0] (vend (f96_cx F131 F132) Tryz.f96 [.val (.pair (.list (.pair .str (.int .i64))) (.pair (.list (.pair .str (.list (.int .i64)))) (.pair (.list (.pair (.int .i64) (.pair (.int .i64) (.int .i64)))) (.int .i64))))] [(.int .i64)]) k (f96_Tl2 v) (f96_Hl2 v)) v := by kernel_rfl
theorem f96_ll0 (k : Nat) (F131 : ((List (List UInt8)) × Int × Unit) → Option ((Int × Unit) × (Unit))) (F132 : ((List Bool) × Bool × Unit) → Option ((Bool × Unit) × (Unit))) (v : f96_Vl0) : rawLoop (f96_cx F131 F132) f96_an k (bodyOf Tryz.f96) [1, 1, 1, 0, 1, 0] [] (vend (f96_cx F131 F132) Tryz.f96 [.val (.pair (.list (.pair .str (.int .i64))) (.pair (.list (.pair .str (.list (.int .i64)))) (.pair (.list (.pair (.int .i64) (.pair (.int .i64) (.int .i64)))) (.int .i64))))] [(.int .i64)]) k (f96_Tl0 v) (f96_Hl0 v) = f96_Ll0 k F131 F132 v :=
 rawLoop_eq (bI := fun Jl0 => f96_bl0 F131 F132 (f96_Ll2 k F131 F132 Jl0)) f96_Tl0 f96_Hl0 (fun Al0 v => ((f96_el0 k F131 F132 Al0 v).trans (congrArg (fun (J : f96_Vl2 → Option ((Int × Unit) × (Unit))) => f96_bl0 F131 F132 J v) (funext (f96_ll2 k F131 F132 Al0))))) k v
theorem f96_e (k : Nat) (F131 : ((List (List UInt8)) × Int × Unit) → Option ((Int × Unit) × (Unit))) (F132 : ((List Bool) × Bool × Unit) → Option ((Bool × Unit) × (Unit))) (x : (((List ((List UInt8) × Int)) × ((List ((List UInt8) × (List Int))) × ((List (Int × (Int × Int))) × Int))) × Unit)) : vfun (f96_cx F131 F132) f96_an k Tryz.f96 [.val (.pair (.list (.pair .str (.int .i64))) (.pair (.list (.pair .str (.list (.int .i64)))) (.pair (.list (.pair (.int .i64) (.pair (.int .i64) (.int .i64)))) (.int .i64))))] [(.int .i64)] x =
 f96_b F131 F132 (fun v => rawLoop (f96_cx F131 F132) f96_an k (bodyOf Tryz.f96) [1, 1, 1, 0, 1, 0] [] (vend (f96_cx F131 F132) Tryz.f96 [.val (.pair (.list (.pair .str (.int .i64))) (.pair (.list (.pair .str (.list (.int .i64)))) (.pair (.list (.pair (.int .i64) (.pair (.int .i64) (.int .i64)))) (.int .i64))))] [(.int .i64)]) k (f96_Tl0 v) (f96_Hl0 v)) x.1 := by kernel_rfl
theorem f96_eq (k : Nat) (F131 : ((List (List UInt8)) × Int × Unit) → Option ((Int × Unit) × (Unit))) (F132 : ((List Bool) × Bool × Unit) → Option ((Bool × Unit) × (Unit))) (x : (((List ((List UInt8) × Int)) × ((List ((List UInt8) × (List Int))) × ((List (Int × (Int × Int))) × Int))) × Unit)) : vfun (f96_cx F131 F132) f96_an k Tryz.f96 [.val (.pair (.list (.pair .str (.int .i64))) (.pair (.list (.pair .str (.list (.int .i64)))) (.pair (.list (.pair (.int .i64) (.pair (.int .i64) (.int .i64)))) (.int .i64))))] [(.int .i64)] x = f96_I k F131 F132 x.1 :=
 ((f96_e k F131 F132 x).trans (congrArg (fun (J : f96_Vl0 → Option ((Int × Unit) × (Unit))) => f96_b F131 F132 J x.1) (funext (f96_ll0 k F131 F132))))
theorem f96_ok (k : Nat) (F131 : ((List (List UInt8)) × Int × Unit) → Option ((Int × Unit) × (Unit))) (F132 : ((List Bool) × Bool × Unit) → Option ((Bool × Unit) × (Unit))) (h131 : FnOk Tryz.prog 131 ⟨[.val (.list .str), .val (.int .i64)], [(.int .i64)], F131⟩) (h132 : FnOk Tryz.prog 132 ⟨[.val (.list .bool), .val .bool], [.bool], F132⟩) : FnOk Tryz.prog 96 ⟨[.val (.pair (.list (.pair .str (.int .i64))) (.pair (.list (.pair .str (.list (.int .i64)))) (.pair (.list (.pair (.int .i64) (.pair (.int .i64) (.int .i64)))) (.int .i64))))], [(.int .i64)], fun x => f96_I k F131 F132 x.1⟩ :=
 (fn_ok (an := f96_an) (k := k) follows_mixed tys_ok ⟨look_fn (AllFn.cons h131 (AllFn.cons h132 (AllFn.nil))), look_new AllNew.nil⟩ Tryz.func96 rfl rfl rfl).of (funext (f96_eq k F131 F132))
/-! joinlearn/schema.attributes -/
abbrev f95_cx (F131 : ((List (List UInt8)) × Int × Unit) → Option ((Int × Unit) × (Unit))) : Cx := ⟨look tys, look [(131, ⟨[.val (.list .str), .val (.int .i64)], [(.int .i64)], F131⟩)], 35, look [], [], []⟩
def f95_an : Ann := ⟨look [(0, ⟨[3, 8, 9, 10], [300], []⟩)], look []⟩
abbrev f95_Vl0 : Type := (List ((List UInt8) × Int)) × Int × Int × (List (List UInt8))
def f95_Tl0 (v : f95_Vl0) : Nat → LV := tbl [(3, .c (.own 300 0 .full)), (8, .c (.s (.list (.pair .str (.int .i64))) v.1)), (9, .c (.s (.int .i64) v.2.1)), (10, .c (.s (.int .i64) v.2.2.1))]
def f95_Hl0 (v : f95_Vl0) : Nat → Option VO := tblH [(300, some ⟨0, .row .str v.2.2.2, false⟩)]

def f95_bl0 (F131 : ((List (List UInt8)) × Int × Unit) → Option ((Int × Unit) × (Unit))) (Jl0 : f95_Vl0 → Option ((Int × Unit) × (Unit))) : f95_Vl0 → Option ((Int × Unit) × (Unit)) := fun (x1, x2, x3, l4) =>
 bif (decide (x3 < x2)) then (rd x1 x3 fun y5 =>
 chk (roomFor (l4.length + 1) 16) <|
 Option.bind (F131 ((l4 ++ ([y5.1] : List (List UInt8))), x3, ())) fun r6 =>
 bif (r6.1.1 != 0) then (some ((r6.1.1, ()), ()))
 else (bif (decide (y5.2 < 1)) then (some ((7, ()), ()))
 else (bif (decide (y5.2 > 3)) then (some ((7, ()), ()))
 else (Jl0 (x1, x2, (w64 (x3 + 1)), (l4 ++ ([y5.1] : List (List UInt8))))))))
 else (some ((0, ()), ()))
def f95_b (F131 : ((List (List UInt8)) × Int × Unit) → Option ((Int × Unit) × (Unit))) (Jl0 : f95_Vl0 → Option ((Int × Unit) × (Unit))) (a0 : ((List ((List UInt8) × Int)) × ((List ((List UInt8) × (List Int))) × ((List (Int × (Int × Int))) × Int)))) : Option ((Int × Unit) × (Unit)) :=
 Jl0 (a0.1, (a0.1.length : Int), 0, ([] : List (List UInt8)))
def f95_Ll0 (k : Nat) (F131 : ((List (List UInt8)) × Int × Unit) → Option ((Int × Unit) × (Unit)))  : f95_Vl0 → Option ((Int × Unit) × (Unit)) := loopI (fun Jl0 => f95_bl0 F131 Jl0) k
def f95_I (k : Nat) (F131 : ((List (List UInt8)) × Int × Unit) → Option ((Int × Unit) × (Unit))) (a0 : ((List ((List UInt8) × Int)) × ((List ((List UInt8) × (List Int))) × ((List (Int × (Int × Int))) × Int)))) : Option ((Int × Unit) × (Unit)) := f95_b F131 (f95_Ll0 k F131) a0
theorem f95_el0 (k : Nat) (F131 : ((List (List UInt8)) × Int × Unit) → Option ((Int × Unit) × (Unit))) (Al0 : Jump ((Int × Unit) × (Unit))) (v : f95_Vl0) : rawBody (f95_cx F131) f95_an k (bodyOf Tryz.f95) [1, 1, 0, 1, 0] [] (vend (f95_cx F131) Tryz.f95 [.val (.pair (.list (.pair .str (.int .i64))) (.pair (.list (.pair .str (.list (.int .i64)))) (.pair (.list (.pair (.int .i64) (.pair (.int .i64) (.int .i64)))) (.int .i64))))] [(.int .i64)]) Al0 (f95_Tl0 v) (f95_Hl0 v) =
 f95_bl0 F131 (fun v => Al0 (f95_Tl0 v) (f95_Hl0 v)) v := by kernel_rfl
theorem f95_ll0 (k : Nat) (F131 : ((List (List UInt8)) × Int × Unit) → Option ((Int × Unit) × (Unit))) (v : f95_Vl0) : rawLoop (f95_cx F131) f95_an k (bodyOf Tryz.f95) [1, 1, 0, 1, 0] [] (vend (f95_cx F131) Tryz.f95 [.val (.pair (.list (.pair .str (.int .i64))) (.pair (.list (.pair .str (.list (.int .i64)))) (.pair (.list (.pair (.int .i64) (.pair (.int .i64) (.int .i64)))) (.int .i64))))] [(.int .i64)]) k (f95_Tl0 v) (f95_Hl0 v) = f95_Ll0 k F131 v :=
 rawLoop_eq (bI := fun Jl0 => f95_bl0 F131 Jl0) f95_Tl0 f95_Hl0 (fun Al0 v => (f95_el0 k F131 Al0 v)) k v
theorem f95_e (k : Nat) (F131 : ((List (List UInt8)) × Int × Unit) → Option ((Int × Unit) × (Unit))) (x : (((List ((List UInt8) × Int)) × ((List ((List UInt8) × (List Int))) × ((List (Int × (Int × Int))) × Int))) × Unit)) : vfun (f95_cx F131) f95_an k Tryz.f95 [.val (.pair (.list (.pair .str (.int .i64))) (.pair (.list (.pair .str (.list (.int .i64)))) (.pair (.list (.pair (.int .i64) (.pair (.int .i64) (.int .i64)))) (.int .i64))))] [(.int .i64)] x =
 f95_b F131 (fun v => rawLoop (f95_cx F131) f95_an k (bodyOf Tryz.f95) [1, 1, 0, 1, 0] [] (vend (f95_cx F131) Tryz.f95 [.val (.pair (.list (.pair .str (.int .i64))) (.pair (.list (.pair .str (.list (.int .i64)))) (.pair (.list (.pair (.int .i64) (.pair (.int .i64) (.int .i64)))) (.int .i64))))] [(.int .i64)]) k (f95_Tl0 v) (f95_Hl0 v)) x.1 := by kernel_rfl
theorem f95_eq (k : Nat) (F131 : ((List (List UInt8)) × Int × Unit) → Option ((Int × Unit) × (Unit))) (x : (((List ((List UInt8) × Int)) × ((List ((List UInt8) × (List Int))) × ((List (Int × (Int × Int))) × Int))) × Unit)) : vfun (f95_cx F131) f95_an k Tryz.f95 [.val (.pair (.list (.pair .str (.int .i64))) (.pair (.list (.pair .str (.list (.int .i64)))) (.pair (.list (.pair (.int .i64) (.pair (.int .i64) (.int .i64)))) (.int .i64))))] [(.int .i64)] x = f95_I k F131 x.1 :=
 ((f95_e k F131 x).trans (congrArg (fun (J : f95_Vl0 → Option ((Int × Unit) × (Unit))) => f95_b F131 J x.1) (funext (f95_ll0 k F131))))
theorem f95_ok (k : Nat) (F131 : ((List (List UInt8)) × Int × Unit) → Option ((Int × Unit) × (Unit))) (h131 : FnOk Tryz.prog 131 ⟨[.val (.list .str), .val (.int .i64)], [(.int .i64)], F131⟩) : FnOk Tryz.prog 95 ⟨[.val (.pair (.list (.pair .str (.int .i64))) (.pair (.list (.pair .str (.list (.int .i64)))) (.pair (.list (.pair (.int .i64) (.pair (.int .i64) (.int .i64)))) (.int .i64))))], [(.int .i64)], fun x => f95_I k F131 x.1⟩ :=
 (fn_ok (an := f95_an) (k := k) follows_mixed tys_ok ⟨look_fn (AllFn.cons h131 (AllFn.nil)), look_new AllNew.nil⟩ Tryz.func95 rfl rfl rfl).of (funext (f95_eq k F131))
/-! slices.Compact[[]string,string] -/
abbrev f94_cx : Cx := ⟨look tys, look [], 61, look [], [], []⟩
def f94_an : Ann := ⟨look [(0, ⟨[0, 3], [], []⟩), (2, ⟨[0, 3, 4, 5], [], []⟩)], look []⟩
abbrev f94_Vl0 : Type := (List (List UInt8)) × Int
def f94_Tl0 (v : f94_Vl0) : Nat → LV := tbl [(0, .c (.s (.list .str) v.1)), (3, .c (.s (.int .i64) v.2))]
def f94_Hl0 (v : f94_Vl0) : Nat → Option VO := tblH []

abbrev f94_Vl2 : Type := (List (List UInt8)) × Int × (List (List UInt8)) × Int
def f94_Tl2 (v : f94_Vl2) : Nat → LV := tbl [(0, .c (.s (.list .str) v.1)), (3, .c (.s (.int .i64) v.2.1)), (4, .c (.s (.list .str) v.2.2.1)), (5, .c (.s (.int .i64) v.2.2.2))]
def f94_Hl2 (v : f94_Vl2) : Nat → Option VO := tblH []

def f94_bl0 (Jl0 : f94_Vl0 → Option (((List (List UInt8)) × Unit) × (Unit))) (Jl2 : f94_Vl2 → Option (((List (List UInt8)) × Unit) × (Unit))) : f94_Vl0 → Option (((List (List UInt8)) × Unit) × (Unit)) := fun (x1, x2) =>
 bif (decide (x2 < (x1.length : Int))) then (rd x1 x2 fun y3 =>
 rd x1 (w64 (x2 - 1)) fun y4 =>
 bif (y3 == y4) then (chk ((decide (0 ≤ x2)) && (decide (x2.toNat ≤ x1.length))) <|
 Jl2 (x1, x2, (x1.drop x2.toNat), 1))
 else (Jl0 (x1, (w64 (x2 + 1)))))
 else (some ((x1, ()), ()))
def f94_bl2 (Jl2 : f94_Vl2 → Option (((List (List UInt8)) × Unit) × (Unit))) : f94_Vl2 → Option (((List (List UInt8)) × Unit) × (Unit)) := fun (x5, x6, x7, x8) =>
 bif (decide (x8 < (x7.length : Int))) then (rd x7 x8 fun y9 =>
 rd x7 (w64 (x8 - 1)) fun y10 =>
 bif (!(y9 == y10)) then (rd x7 x8 fun y11 =>
 rd x5 x6 fun y12 =>
 none)
 else (Jl2 (x5, x6, x7, (w64 (x8 + 1)))))
 else (chk ((decide (0 ≤ x6)) && (decide (x6.toNat ≤ x5.length))) <|
 none)
def f94_b (Jl0 : f94_Vl0 → Option (((List (List UInt8)) × Unit) × (Unit))) (a0 : (List (List UInt8))) : Option (((List (List UInt8)) × Unit) × (Unit)) :=
 bif (decide ((a0.length : Int) < 2)) then (some ((a0, ()), ()))
 else (Jl0 (a0, 1))
def f94_Ll2 (k : Nat) (Jl0 : f94_Vl0 → Option (((List (List UInt8)) × Unit) × (Unit))) : f94_Vl2 → Option (((List (List UInt8)) × Unit) × (Unit)) := loopI (fun Jl2 => f94_bl2 Jl2) k
def f94_Ll0 (k : Nat)  : f94_Vl0 → Option (((List (List UInt8)) × Unit) × (Unit)) := loopI (fun Jl0 => f94_bl0 Jl0 (f94_Ll2 k Jl0)) k
def f94_I (k : Nat) (a0 : (List (List UInt8))) : Option (((List (List UInt8)) × Unit) × (Unit)) := f94_b (f94_Ll0 k) a0
theorem f94_el2 (k : Nat) (Al0 : Jump (((List (List UInt8)) × Unit) × (Unit))) (Al2 : Jump (((List (List UInt8)) × Unit) × (Unit))) (v : f94_Vl2) : rawBody (f94_cx) f94_an k (bodyOf Tryz.f94) [1, 1, 0, 1, 0, 0, 1, 0, 0, 1, 0, 1, 0, 1, 0] [Al0] (vend (f94_cx) Tryz.f94 [.val (.list .str)] [(.list .str)]) Al2 (f94_Tl2 v) (f94_Hl2 v) =
 f94_bl2 (fun v => Al2 (f94_Tl2 v) (f94_Hl2 v)) v := by kernel_rfl
theorem f94_ll2 (k : Nat) (Al0 : Jump (((List (List UInt8)) × Unit) × (Unit))) (v : f94_Vl2) : rawLoop (f94_cx) f94_an k (bodyOf Tryz.f94) [1, 1, 0, 1, 0, 0, 1, 0, 0, 1, 0, 1, 0, 1, 0] [Al0] (vend (f94_cx) Tryz.f94 [.val (.list .str)] [(.list .str)]) k (f94_Tl2 v) (f94_Hl2 v) = f94_Ll2 k (fun v => Al0 (f94_Tl0 v) (f94_Hl0 v)) v :=
 rawLoop_eq (bI := fun Jl2 => f94_bl2 Jl2) f94_Tl2 f94_Hl2 (fun Al2 v => (f94_el2 k Al0 Al2 v)) k v
theorem f94_el0 (k : Nat) (Al0 : Jump (((List (List UInt8)) × Unit) × (Unit))) (v : f94_Vl0) : rawBody (f94_cx) f94_an k (bodyOf Tryz.f94) [1, 1, 0, 1, 0] [] (vend (f94_cx) Tryz.f94 [.val (.list .str)] [(.list .str)]) Al0 (f94_Tl0 v) (f94_Hl0 v) =
 f94_bl0 (fun v => Al0 (f94_Tl0 v) (f94_Hl0 v)) (fun v => rawLoop (f94_cx) f94_an k (bodyOf Tryz.f94) [1, 1, 0, 1, 0, 0, 1, 0, 0, 1, 0, 1, 0, 1, 0] [Al0] (vend (f94_cx) Tryz.f94 [.val (.list .str)] [(.list .str)]) k (f94_Tl2 v) (f94_Hl2 v)) v := by kernel_rfl
theorem f94_ll0 (k : Nat) (v : f94_Vl0) : rawLoop (f94_cx) f94_an k (bodyOf Tryz.f94) [1, 1, 0, 1, 0] [] (vend (f94_cx) Tryz.f94 [.val (.list .str)] [(.list .str)]) k (f94_Tl0 v) (f94_Hl0 v) = f94_Ll0 k v :=
 rawLoop_eq (bI := fun Jl0 => f94_bl0 Jl0 (f94_Ll2 k Jl0)) f94_Tl0 f94_Hl0 (fun Al0 v => ((f94_el0 k Al0 v).trans (congrArg (fun (J : f94_Vl2 → Option (((List (List UInt8)) × Unit) × (Unit))) => f94_bl0 (fun v => Al0 (f94_Tl0 v) (f94_Hl0 v)) J v) (funext (f94_ll2 k Al0))))) k v
theorem f94_e (k : Nat) (x : ((List (List UInt8)) × Unit)) : vfun (f94_cx) f94_an k Tryz.f94 [.val (.list .str)] [(.list .str)] x =
 f94_b (fun v => rawLoop (f94_cx) f94_an k (bodyOf Tryz.f94) [1, 1, 0, 1, 0] [] (vend (f94_cx) Tryz.f94 [.val (.list .str)] [(.list .str)]) k (f94_Tl0 v) (f94_Hl0 v)) x.1 := by kernel_rfl
theorem f94_eq (k : Nat) (x : ((List (List UInt8)) × Unit)) : vfun (f94_cx) f94_an k Tryz.f94 [.val (.list .str)] [(.list .str)] x = f94_I k x.1 :=
 ((f94_e k x).trans (congrArg (fun (J : f94_Vl0 → Option (((List (List UInt8)) × Unit) × (Unit))) => f94_b J x.1) (funext (f94_ll0 k))))
theorem f94_ok (k : Nat) : FnOk Tryz.prog 94 ⟨[.val (.list .str)], [(.list .str)], fun x => f94_I k x.1⟩ :=
 (fn_ok (an := f94_an) (k := k) follows_mixed tys_ok ⟨look_fn AllFn.nil, look_new AllNew.nil⟩ Tryz.func94 rfl rfl rfl).of (funext (f94_eq k))
/-! slices.Sort[[]string,string] -/
abbrev f93_cx (F130 : (Int × Unit) → Option ((Int × Unit) × (Unit))) (F129 : ((List (List UInt8)) × Int × Int × Int × Unit) → Option ((Unit) × (Unit))) : Cx := ⟨look tys, look [(130, ⟨[.val (.int .u64)], [(.int .i64)], F130⟩), (129, ⟨[.val (.list .str), .val (.int .i64), .val (.int .i64), .val (.int .i64)], [], F129⟩)], 11, look [], [], []⟩
def f93_an : Ann := ⟨look [], look []⟩
def f93_b (F130 : (Int × Unit) → Option ((Int × Unit) × (Unit))) (F129 : ((List (List UInt8)) × Int × Int × Int × Unit) → Option ((Unit) × (Unit)))  (a0 : (List (List UInt8))) : Option ((Unit) × (Unit)) :=
 Option.bind (F130 ((IntKind.wrap .u64 ((a0.length : Int))), ())) fun r1 =>
 Option.bind (F129 (a0, 0, (a0.length : Int), r1.1.1, ())) fun r2 =>
 some ((()), ())
def f93_I (k : Nat) (F130 : (Int × Unit) → Option ((Int × Unit) × (Unit))) (F129 : ((List (List UInt8)) × Int × Int × Int × Unit) → Option ((Unit) × (Unit))) (a0 : (List (List UInt8))) : Option ((Unit) × (Unit)) := f93_b F130 F129 a0
theorem f93_eq (k : Nat) (F130 : (Int × Unit) → Option ((Int × Unit) × (Unit))) (F129 : ((List (List UInt8)) × Int × Int × Int × Unit) → Option ((Unit) × (Unit))) (x : ((List (List UInt8)) × Unit)) : vfun (f93_cx F130 F129) f93_an k Tryz.f93 [.val (.list .str)] [] x = f93_I k F130 F129 x.1 := by kernel_rfl
theorem f93_ok (k : Nat) (F130 : (Int × Unit) → Option ((Int × Unit) × (Unit))) (F129 : ((List (List UInt8)) × Int × Int × Int × Unit) → Option ((Unit) × (Unit))) (h130 : FnOk Tryz.prog 130 ⟨[.val (.int .u64)], [(.int .i64)], F130⟩) (h129 : FnOk Tryz.prog 129 ⟨[.val (.list .str), .val (.int .i64), .val (.int .i64), .val (.int .i64)], [], F129⟩) : FnOk Tryz.prog 93 ⟨[.val (.list .str)], [], fun x => f93_I k F130 F129 x.1⟩ :=
 (fn_ok (an := f93_an) (k := k) follows_mixed tys_ok ⟨look_fn (AllFn.cons h130 (AllFn.cons h129 (AllFn.nil))), look_new AllNew.nil⟩ Tryz.func93 rfl rfl rfl).of (funext (f93_eq k F130 F129))
/-! slices.Clone[[]joinlearn/api.Test,joinlearn/api.Test] -/
abbrev f92_cx : Cx := ⟨look tys, look [], 8, look [], [], []⟩
def f92_an : Ann := ⟨look [], look []⟩
def f92_b  (a0 : (List (Int × (Int × (List UInt8))))) : Option (((List (Int × (Int × (List UInt8)))) × Unit) × (Unit)) :=
 bif (List.isEmpty a0) then (none)
 else (chk (roomFor (0 + a0.length) 32) <|
 some ((a0, ()), ()))
def f92_I (k : Nat) (a0 : (List (Int × (Int × (List UInt8))))) : Option (((List (Int × (Int × (List UInt8)))) × Unit) × (Unit)) := f92_b a0
theorem f92_eq (k : Nat) (x : ((List (Int × (Int × (List UInt8)))) × Unit)) : vfun (f92_cx) f92_an k Tryz.f92 [.val (.list (.pair (.int .i64) (.pair (.int .i64) .str)))] [(.list (.pair (.int .i64) (.pair (.int .i64) .str)))] x = f92_I k x.1 := by kernel_rfl
theorem f92_ok (k : Nat) : FnOk Tryz.prog 92 ⟨[.val (.list (.pair (.int .i64) (.pair (.int .i64) .str)))], [(.list (.pair (.int .i64) (.pair (.int .i64) .str)))], fun x => f92_I k x.1⟩ :=
 (fn_ok (an := f92_an) (k := k) follows_mixed tys_ok ⟨look_fn AllFn.nil, look_new AllNew.nil⟩ Tryz.func92 rfl rfl rfl).of (funext (f92_eq k))
/-! joinlearn/rational.Compare -/
abbrev f91_cx (F126 : ((List (List UInt8)) × Unit) → Option ((Bool × Unit) × (Unit))) (F127 : ((List UInt8) × Unit) → Option ((((Bool × (List Int)) × (Bool × (List Int))) × Unit) × (Unit))) (F128 : (((Bool × (List Int)) × (Bool × (List Int))) × ((Bool × (List Int)) × (Bool × (List Int))) × Unit) → Option ((Int × Unit) × (Unit))) : Cx := ⟨look tys, look [(126, ⟨[.val (.list .str)], [.bool], F126⟩), (127, ⟨[.val .str], [(.pair (.pair .bool (.list (.int .u64))) (.pair .bool (.list (.int .u64))))], F127⟩), (128, ⟨[.val (.pair (.pair .bool (.list (.int .u64))) (.pair .bool (.list (.int .u64)))), .val (.pair (.pair .bool (.list (.int .u64))) (.pair .bool (.list (.int .u64))))], [(.int .i64)], F128⟩)], 15, look [], [], []⟩
def f91_an : Ann := ⟨look [], look []⟩
def f91_b (F126 : ((List (List UInt8)) × Unit) → Option ((Bool × Unit) × (Unit))) (F127 : ((List UInt8) × Unit) → Option ((((Bool × (List Int)) × (Bool × (List Int))) × Unit) × (Unit))) (F128 : (((Bool × (List Int)) × (Bool × (List Int))) × ((Bool × (List Int)) × (Bool × (List Int))) × Unit) → Option ((Int × Unit) × (Unit)))  (a0 : (List UInt8)) (a1 : (List UInt8)) : Option ((Int × Unit) × (Unit)) :=
 Option.bind (F126 (([a0, a1] : List (List UInt8)), ())) fun r1 =>
 bif (!r1.1.1) then (some ((0, ()), ()))
 else (Option.bind (F127 (a0, ())) fun r2 =>
 Option.bind (F127 (a1, ())) fun r3 =>
 Option.bind (F128 (r2.1.1, r3.1.1, ())) fun r4 =>
 some ((r4.1.1, ()), ()))
def f91_I (k : Nat) (F126 : ((List (List UInt8)) × Unit) → Option ((Bool × Unit) × (Unit))) (F127 : ((List UInt8) × Unit) → Option ((((Bool × (List Int)) × (Bool × (List Int))) × Unit) × (Unit))) (F128 : (((Bool × (List Int)) × (Bool × (List Int))) × ((Bool × (List Int)) × (Bool × (List Int))) × Unit) → Option ((Int × Unit) × (Unit))) (a0 : (List UInt8)) (a1 : (List UInt8)) : Option ((Int × Unit) × (Unit)) := f91_b F126 F127 F128 a0 a1
theorem f91_eq (k : Nat) (F126 : ((List (List UInt8)) × Unit) → Option ((Bool × Unit) × (Unit))) (F127 : ((List UInt8) × Unit) → Option ((((Bool × (List Int)) × (Bool × (List Int))) × Unit) × (Unit))) (F128 : (((Bool × (List Int)) × (Bool × (List Int))) × ((Bool × (List Int)) × (Bool × (List Int))) × Unit) → Option ((Int × Unit) × (Unit))) (x : ((List UInt8) × (List UInt8) × Unit)) : vfun (f91_cx F126 F127 F128) f91_an k Tryz.f91 [.val .str, .val .str] [(.int .i64)] x = f91_I k F126 F127 F128 x.1 x.2.1 := by kernel_rfl
theorem f91_ok (k : Nat) (F126 : ((List (List UInt8)) × Unit) → Option ((Bool × Unit) × (Unit))) (F127 : ((List UInt8) × Unit) → Option ((((Bool × (List Int)) × (Bool × (List Int))) × Unit) × (Unit))) (F128 : (((Bool × (List Int)) × (Bool × (List Int))) × ((Bool × (List Int)) × (Bool × (List Int))) × Unit) → Option ((Int × Unit) × (Unit))) (h126 : FnOk Tryz.prog 126 ⟨[.val (.list .str)], [.bool], F126⟩) (h127 : FnOk Tryz.prog 127 ⟨[.val .str], [(.pair (.pair .bool (.list (.int .u64))) (.pair .bool (.list (.int .u64))))], F127⟩) (h128 : FnOk Tryz.prog 128 ⟨[.val (.pair (.pair .bool (.list (.int .u64))) (.pair .bool (.list (.int .u64)))), .val (.pair (.pair .bool (.list (.int .u64))) (.pair .bool (.list (.int .u64))))], [(.int .i64)], F128⟩) : FnOk Tryz.prog 91 ⟨[.val .str, .val .str], [(.int .i64)], fun x => f91_I k F126 F127 F128 x.1 x.2.1⟩ :=
 (fn_ok (an := f91_an) (k := k) follows_mixed tys_ok ⟨look_fn (AllFn.cons h126 (AllFn.cons h127 (AllFn.cons h128 (AllFn.nil)))), look_new AllNew.nil⟩ Tryz.func91 rfl rfl rfl).of (funext (f91_eq k F126 F127 F128))
end Go.JL
