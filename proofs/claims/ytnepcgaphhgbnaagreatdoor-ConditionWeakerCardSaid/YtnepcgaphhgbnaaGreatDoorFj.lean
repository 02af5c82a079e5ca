/- Functions of the program as plain Lean functions. Printed by a program of mine; checked by the kernel. -/
import Derived.Test.YtnepcgaphhgbnaaGreatDoorFa
set_option linter.unusedVariables false
set_option maxRecDepth 100000
namespace Go.JL
open Go.Proofs
/-! joinlearn/condition.all -/
abbrev f90_cx (F51 : ((Int × (Int × (List UInt8))) × Unit) → Option (((Option (Nat × (Int × (Int × (List UInt8))))) × Unit) × (Unit))) (F82 : ((Int × (Int × (List UInt8))) × (List UInt8) × Unit) → Option ((Bool × Unit) × (Unit))) (F83 : ((Int × (Int × (List UInt8))) × (List UInt8) × Unit) → Option ((Bool × Unit) × (Unit))) (F84 : ((Int × (Int × (List UInt8))) × (List UInt8) × Unit) → Option ((Bool × Unit) × (Unit))) (F85 : ((Int × (Int × (List UInt8))) × (List UInt8) × Unit) → Option ((Bool × Unit) × (Unit))) : Cx := ⟨look tys, look [(51, ⟨[.val (.pair (.int .i64) (.pair (.int .i64) .str))], [(.fn (.one (.pair (.int .i64) (.pair (.int .i64) .str))))], F51⟩), (82, ⟨[.val (.one (.pair (.int .i64) (.pair (.int .i64) .str))), .val .str], [.bool], F82⟩), (83, ⟨[.val (.one (.pair (.int .i64) (.pair (.int .i64) .str))), .val .str], [.bool], F83⟩), (84, ⟨[.val (.one (.pair (.int .i64) (.pair (.int .i64) .str))), .val .str], [.bool], F84⟩), (85, ⟨[.val (.one (.pair (.int .i64) (.pair (.int .i64) .str))), .val .str], [.bool], F85⟩)], 19, look [], [82, 83, 84, 85], []⟩
def f90_an : Ann := ⟨look [(0, ⟨[1, 7, 8, 9], [], []⟩)], look []⟩
abbrev f90_Vl0 : Type := (List UInt8) × (List (Int × (Int × (List UInt8)))) × Int × Int
def f90_Tl0 (v : f90_Vl0) : Nat → LV := tbl [(1, .c (.s .str v.1)), (7, .c (.s (.list (.pair (.int .i64) (.pair (.int .i64) .str))) v.2.1)), (8, .c (.s (.int .i64) v.2.2.1)), (9, .c (.s (.int .i64) v.2.2.2))]
def f90_Hl0 (v : f90_Vl0) : Nat → Option VO := tblH []

def f90_bl0 (F51 : ((Int × (Int × (List UInt8))) × Unit) → Option (((Option (Nat × (Int × (Int × (List UInt8))))) × Unit) × (Unit))) (F82 : ((Int × (Int × (List UInt8))) × (List UInt8) × Unit) → Option ((Bool × Unit) × (Unit))) (F83 : ((Int × (Int × (List UInt8))) × (List UInt8) × Unit) → Option ((Bool × Unit) × (Unit))) (F84 : ((Int × (Int × (List UInt8))) × (List UInt8) × Unit) → Option ((Bool × Unit) × (Unit))) (F85 : ((Int × (Int × (List UInt8))) × (List UInt8) × Unit) → Option ((Bool × Unit) × (Unit))) (Jl0 : f90_Vl0 → Option ((Bool × Unit) × (Unit))) : f90_Vl0 → Option ((Bool × Unit) × (Unit)) := fun (x1, x2, x3, x4) =>
 bif (decide (x4 < x3)) then (rd x2 x4 fun y5 =>
 Option.bind (F51 (y5, ())) fun r6 =>
 Option.bind r6.1.1 fun p7 =>
 bif p7.1 == 82 then (Option.bind (F82 (p7.2, x1, ())) fun r8 =>
 bif (!r8.1.1) then (some ((false, ()), ()))
 else (Jl0 (x1, x2, x3, (w64 (x4 + 1)))))
 else (bif p7.1 == 83 then (Option.bind (F83 (p7.2, x1, ())) fun r9 =>
 bif (!r9.1.1) then (some ((false, ()), ()))
 else (Jl0 (x1, x2, x3, (w64 (x4 + 1)))))
 else (bif p7.1 == 84 then (Option.bind (F84 (p7.2, x1, ())) fun r10 =>
 bif (!r10.1.1) then (some ((false, ()), ()))
 else (Jl0 (x1, x2, x3, (w64 (x4 + 1)))))
 else (bif p7.1 == 85 then (Option.bind (F85 (p7.2, x1, ())) fun r11 =>
 bif (!r11.1.1) then (some ((false, ()), ()))
 else (Jl0 (x1, x2, x3, (w64 (x4 + 1)))))
 else (none)))))
 else (some ((true, ()), ()))
def f90_b (F51 : ((Int × (Int × (List UInt8))) × Unit) → Option (((Option (Nat × (Int × (Int × (List UInt8))))) × Unit) × (Unit))) (F82 : ((Int × (Int × (List UInt8))) × (List UInt8) × Unit) → Option ((Bool × Unit) × (Unit))) (F83 : ((Int × (Int × (List UInt8))) × (List UInt8) × Unit) → Option ((Bool × Unit) × (Unit))) (F84 : ((Int × (Int × (List UInt8))) × (List UInt8) × Unit) → Option ((Bool × Unit) × (Unit))) (F85 : ((Int × (Int × (List UInt8))) × (List UInt8) × Unit) → Option ((Bool × Unit) × (Unit))) (Jl0 : f90_Vl0 → Option ((Bool × Unit) × (Unit))) (a0 : (List (Int × (Int × (List UInt8))))) (a1 : (List UInt8)) : Option ((Bool × Unit) × (Unit)) :=
 Jl0 (a1, a0, (a0.length : Int), 0)
def f90_Ll0 (k : Nat) (F51 : ((Int × (Int × (List UInt8))) × Unit) → Option (((Option (Nat × (Int × (Int × (List UInt8))))) × Unit) × (Unit))) (F82 : ((Int × (Int × (List UInt8))) × (List UInt8) × Unit) → Option ((Bool × Unit) × (Unit))) (F83 : ((Int × (Int × (List UInt8))) × (List UInt8) × Unit) → Option ((Bool × Unit) × (Unit))) (F84 : ((Int × (Int × (List UInt8))) × (List UInt8) × Unit) → Option ((Bool × Unit) × (Unit))) (F85 : ((Int × (Int × (List UInt8))) × (List UInt8) × Unit) → Option ((Bool × Unit) × (Unit)))  : f90_Vl0 → Option ((Bool × Unit) × (Unit)) := loopI (fun Jl0 => f90_bl0 F51 F82 F83 F84 F85 Jl0) k
def f90_I (k : Nat) (F51 : ((Int × (Int × (List UInt8))) × Unit) → Option (((Option (Nat × (Int × (Int × (List UInt8))))) × Unit) × (Unit))) (F82 : ((Int × (Int × (List UInt8))) × (List UInt8) × Unit) → Option ((Bool × Unit) × (Unit))) (F83 : ((Int × (Int × (List UInt8))) × (List UInt8) × Unit) → Option ((Bool × Unit) × (Unit))) (F84 : ((Int × (Int × (List UInt8))) × (List UInt8) × Unit) → Option ((Bool × Unit) × (Unit))) (F85 : ((Int × (Int × (List UInt8))) × (List UInt8) × Unit) → Option ((Bool × Unit) × (Unit))) (a0 : (List (Int × (Int × (List UInt8))))) (a1 : (List UInt8)) : Option ((Bool × Unit) × (Unit)) := f90_b F51 F82 F83 F84 F85 (f90_Ll0 k F51 F82 F83 F84 F85) a0 a1
theorem f90_el0 (k : Nat) (F51 : ((Int × (Int × (List UInt8))) × Unit) → Option (((Option (Nat × (Int × (Int × (List UInt8))))) × Unit) × (Unit))) (F82 : ((Int × (Int × (List UInt8))) × (List UInt8) × Unit) → Option ((Bool × Unit) × (Unit))) (F83 : ((Int × (Int × (List UInt8))) × (List UInt8) × Unit) → Option ((Bool × Unit) × (Unit))) (F84 : ((Int × (Int × (List UInt8))) × (List UInt8) × Unit) → Option ((Bool × Unit) × (Unit))) (F85 : ((Int × (Int × (List UInt8))) × (List UInt8) × Unit) → Option ((Bool × Unit) × (Unit))) (Al0 : Jump ((Bool × Unit) × (Unit))) (v : f90_Vl0) : rawBody (f90_cx F51 F82 F83 F84 F85) f90_an k (bodyOf Tryz.f90) [1, 0, 1, 0] [] (vend (f90_cx F51 F82 F83 F84 F85) Tryz.f90 [.val (.list (.pair (.int .i64) (.pair (.int .i64) .str))), .val .str] [.bool]) Al0 (f90_Tl0 v) (f90_Hl0 v) =
 f90_bl0 F51 F82 F83 F84 F85 (fun v => Al0 (f90_Tl0 v) (f90_Hl0 v)) v := by kernel_rfl
theorem f90_ll0 (k : Nat) (F51 : ((Int × (Int × (List UInt8))) × Unit) → Option (((Option (Nat × (Int × (Int × (List UInt8))))) × Unit) × (Unit))) (F82 : ((Int × (Int × (List UInt8))) × (List UInt8) × Unit) → Option ((Bool × Unit) × (Unit))) (F83 : ((Int × (Int × (List UInt8))) × (List UInt8) × Unit) → Option ((Bool × Unit) × (Unit))) (F84 : ((Int × (Int × (List UInt8))) × (List UInt8) × Unit) → Option ((Bool × Unit) × (Unit))) (F85 : ((Int × (Int × (List UInt8))) × (List UInt8) × Unit) → Option ((Bool × Unit) × (Unit))) (v : f90_Vl0) : rawLoop (f90_cx F51 F82 F83 F84 F85) f90_an k (bodyOf Tryz.f90) [1, 0, 1, 0] [] (vend (f90_cx F51 F82 F83 F84 F85) Tryz.f90 [.val (.list (.pair (.int .i64) (.pair (.int .i64) .str))), .val .str] [.bool]) k (f90_Tl0 v) (f90_Hl0 v) = f90_Ll0 k F51 F82 F83 F84 F85 v :=
 rawLoop_eq (bI := fun Jl0 => f90_bl0 F51 F82 F83 F84 F85 Jl0) f90_Tl0 f90_Hl0 (fun Al0 v => (f90_el0 k F51 F82 F83 F84 F85 Al0 v)) k v
theorem f90_e (k : Nat) (F51 : ((Int × (Int × (List UInt8))) × Unit) → Option (((Option (Nat × (Int × (Int × (List UInt8))))) × Unit) × (Unit))) (F82 : ((Int × (Int × (List UInt8))) × (List UInt8) × Unit) → Option ((Bool × Unit) × (Unit))) (F83 : ((Int × (Int × (List UInt8))) × (List UInt8) × Unit) → Option ((Bool × Unit) × (Unit))) (F84 : ((Int × (Int × (List UInt8))) × (List UInt8) × Unit) → Option ((Bool × Unit) × (Unit))) (F85 : ((Int × (Int × (List UInt8))) × (List UInt8) × Unit) → Option ((Bool × Unit) × (Unit))) (x : ((List (Int × (Int × (List UInt8)))) × (List UInt8) × Unit)) : vfun (f90_cx F51 F82 F83 F84 F85) f90_an k Tryz.f90 [.val (.list (.pair (.int .i64) (.pair (.int .i64) .str))), .val .str] [.bool] x =
 f90_b F51 F82 F83 F84 F85 (fun v => rawLoop (f90_cx F51 F82 F83 F84 F85) f90_an k (bodyOf Tryz.f90) [1, 0, 1, 0] [] (vend (f90_cx F51 F82 F83 F84 F85) Tryz.f90 [.val (.list (.pair (.int .i64) (.pair (.int .i64) .str))), .val .str] [.bool]) k (f90_Tl0 v) (f90_Hl0 v)) x.1 x.2.1 := by kernel_rfl
theorem f90_eq (k : Nat) (F51 : ((Int × (Int × (List UInt8))) × Unit) → Option (((Option (Nat × (Int × (Int × (List UInt8))))) × Unit) × (Unit))) (F82 : ((Int × (Int × (List UInt8))) × (List UInt8) × Unit) → Option ((Bool × Unit) × (Unit))) (F83 : ((Int × (Int × (List UInt8))) × (List UInt8) × Unit) → Option ((Bool × Unit) × (Unit))) (F84 : ((Int × (Int × (List UInt8))) × (List UInt8) × Unit) → Option ((Bool × Unit) × (Unit))) (F85 : ((Int × (Int × (List UInt8))) × (List UInt8) × Unit) → Option ((Bool × Unit) × (Unit))) (x : ((List (Int × (Int × (List UInt8)))) × (List UInt8) × Unit)) : vfun (f90_cx F51 F82 F83 F84 F85) f90_an k Tryz.f90 [.val (.list (.pair (.int .i64) (.pair (.int .i64) .str))), .val .str] [.bool] x = f90_I k F51 F82 F83 F84 F85 x.1 x.2.1 :=
 ((f90_e k F51 F82 F83 F84 F85 x).trans (congrArg (fun (J : f90_Vl0 → Option ((Bool × Unit) × (Unit))) => f90_b F51 F82 F83 F84 F85 J x.1 x.2.1) (funext (f90_ll0 k F51 F82 F83 F84 F85))))
theorem f90_ok (k : Nat) (F51 : ((Int × (Int × (List UInt8))) × Unit) → Option (((Option (Nat × (Int × (Int × (List UInt8))))) × Unit) × (Unit))) (F82 : ((Int × (Int × (List UInt8))) × (List UInt8) × Unit) → Option ((Bool × Unit) × (Unit))) (F83 : ((Int × (Int × (List UInt8))) × (List UInt8) × Unit) → Option ((Bool × Unit) × (Unit))) (F84 : ((Int × (Int × (List UInt8))) × (List UInt8) × Unit) → Option ((Bool × Unit) × (Unit))) (F85 : ((Int × (Int × (List UInt8))) × (List UInt8) × Unit) → Option ((Bool × Unit) × (Unit))) (h51 : FnOk Tryz.prog 51 ⟨[.val (.pair (.int .i64) (.pair (.int .i64) .str))], [(.fn (.one (.pair (.int .i64) (.pair (.int .i64) .str))))], F51⟩) (h82 : FnOk Tryz.prog 82 ⟨[.val (.one (.pair (.int .i64) (.pair (.int .i64) .str))), .val .str], [.bool], F82⟩) (h83 : FnOk Tryz.prog 83 ⟨[.val (.one (.pair (.int .i64) (.pair (.int .i64) .str))), .val .str], [.bool], F83⟩) (h84 : FnOk Tryz.prog 84 ⟨[.val (.one (.pair (.int .i64) (.pair (.int .i64) .str))), .val .str], [.bool], F84⟩) (h85 : FnOk Tryz.prog 85 ⟨[.val (.one (.pair (.int .i64) (.pair (.int .i64) .str))), .val .str], [.bool], F85⟩) : FnOk Tryz.prog 90 ⟨[.val (.list (.pair (.int .i64) (.pair (.int .i64) .str))), .val .str], [.bool], fun x => f90_I k F51 F82 F83 F84 F85 x.1 x.2.1⟩ :=
 (fn_ok (an := f90_an) (k := k) follows_mixed tys_ok ⟨look_fn (AllFn.cons h51 (AllFn.cons h82 (AllFn.cons h83 (AllFn.cons h84 (AllFn.cons h85 (AllFn.nil)))))), look_new AllNew.nil⟩ Tryz.func90 rfl rfl rfl).of (funext (f90_eq k F51 F82 F83 F84 F85))
/-! (joinlearn/joinlearnref02.Frac).Sign -/
abbrev f89_cx (F125 : (((Bool × (List Int)) × (Bool × (List Int))) × Unit) → Option ((Bool × Unit) × (Unit))) : Cx := ⟨look tys, look [(125, ⟨[.val (.pair (.pair .bool (.list (.int .i64))) (.pair .bool (.list (.int .i64))))], [.bool], F125⟩)], 8, look [], [], []⟩
def f89_an : Ann := ⟨look [], look []⟩
def f89_b (F125 : (((Bool × (List Int)) × (Bool × (List Int))) × Unit) → Option ((Bool × Unit) × (Unit)))  (a0 : ((Bool × (List Int)) × (Bool × (List Int)))) : Option ((Int × Unit) × (Unit)) :=
 bif a0.1.1 then (some (((-1), ()), ()))
 else (Option.bind (F125 (a0, ())) fun r1 =>
 bif r1.1.1 then (some ((0, ()), ()))
 else (some ((1, ()), ())))
def f89_I (k : Nat) (F125 : (((Bool × (List Int)) × (Bool × (List Int))) × Unit) → Option ((Bool × Unit) × (Unit))) (a0 : ((Bool × (List Int)) × (Bool × (List Int)))) : Option ((Int × Unit) × (Unit)) := f89_b F125 a0
theorem f89_eq (k : Nat) (F125 : (((Bool × (List Int)) × (Bool × (List Int))) × Unit) → Option ((Bool × Unit) × (Unit))) (x : (((Bool × (List Int)) × (Bool × (List Int))) × Unit)) : vfun (f89_cx F125) f89_an k Tryz.f89 [.val (.pair (.pair .bool (.list (.int .i64))) (.pair .bool (.list (.int .i64))))] [(.int .i64)] x = f89_I k F125 x.1 := by kernel_rfl
theorem f89_ok (k : Nat) (F125 : (((Bool × (List Int)) × (Bool × (List Int))) × Unit) → Option ((Bool × Unit) × (Unit))) (h125 : FnOk Tryz.prog 125 ⟨[.val (.pair (.pair .bool (.list (.int .i64))) (.pair .bool (.list (.int .i64))))], [.bool], F125⟩) : FnOk Tryz.prog 89 ⟨[.val (.pair (.pair .bool (.list (.int .i64))) (.pair .bool (.list (.int .i64))))], [(.int .i64)], fun x => f89_I k F125 x.1⟩ :=
 (fn_ok (an := f89_an) (k := k) follows_mixed tys_ok ⟨look_fn (AllFn.cons h125 (AllFn.nil)), look_new AllNew.nil⟩ Tryz.func89 rfl rfl rfl).of (funext (f89_eq k F125))
/-! (joinlearn/joinlearnref02.Frac).Sub -/
abbrev f88_cx (F106 : ((Bool × (List Int)) × (Bool × (List Int)) × Unit) → Option (((Bool × (List Int)) × Unit) × (Unit))) (F124 : ((Bool × (List Int)) × (Bool × (List Int)) × Unit) → Option (((Bool × (List Int)) × Unit) × (Unit))) (F123 : ((Bool × (List Int)) × (Bool × (List Int)) × Unit) → Option ((((Bool × (List Int)) × (Bool × (List Int))) × Unit) × (Unit))) : Cx := ⟨look tys, look [(106, ⟨[.val (.pair .bool (.list (.int .i64))), .val (.pair .bool (.list (.int .i64)))], [(.pair .bool (.list (.int .i64)))], F106⟩), (124, ⟨[.val (.pair .bool (.list (.int .i64))), .val (.pair .bool (.list (.int .i64)))], [(.pair .bool (.list (.int .i64)))], F124⟩), (123, ⟨[.val (.pair .bool (.list (.int .i64))), .val (.pair .bool (.list (.int .i64)))], [(.pair (.pair .bool (.list (.int .i64))) (.pair .bool (.list (.int .i64))))], F123⟩)], 22, look [], [], []⟩
def f88_an : Ann := ⟨look [], look []⟩
def f88_b (F106 : ((Bool × (List Int)) × (Bool × (List Int)) × Unit) → Option (((Bool × (List Int)) × Unit) × (Unit))) (F124 : ((Bool × (List Int)) × (Bool × (List Int)) × Unit) → Option (((Bool × (List Int)) × Unit) × (Unit))) (F123 : ((Bool × (List Int)) × (Bool × (List Int)) × Unit) → Option ((((Bool × (List Int)) × (Bool × (List Int))) × Unit) × (Unit)))  (a0 : ((Bool × (List Int)) × (Bool × (List Int)))) (a1 : ((Bool × (List Int)) × (Bool × (List Int)))) : Option ((((Bool × (List Int)) × (Bool × (List Int))) × Unit) × (Unit)) :=
 Option.bind (F106 (a0.1, a1.2, ())) fun r1 =>
 Option.bind (F106 (a1.1, a0.2, ())) fun r2 =>
 Option.bind (F124 (r1.1.1, r2.1.1, ())) fun r3 =>
 Option.bind (F106 (a0.2, a1.2, ())) fun r4 =>
 Option.bind (F123 (r3.1.1, r4.1.1, ())) fun r5 =>
 some ((r5.1.1, ()), ())
def f88_I (k : Nat) (F106 : ((Bool × (List Int)) × (Bool × (List Int)) × Unit) → Option (((Bool × (List Int)) × Unit) × (Unit))) (F124 : ((Bool × (List Int)) × (Bool × (List Int)) × Unit) → Option (((Bool × (List Int)) × Unit) × (Unit))) (F123 : ((Bool × (List Int)) × (Bool × (List Int)) × Unit) → Option ((((Bool × (List Int)) × (Bool × (List Int))) × Unit) × (Unit))) (a0 : ((Bool × (List Int)) × (Bool × (List Int)))) (a1 : ((Bool × (List Int)) × (Bool × (List Int)))) : Option ((((Bool × (List Int)) × (Bool × (List Int))) × Unit) × (Unit)) := f88_b F106 F124 F123 a0 a1
theorem f88_eq (k : Nat) (F106 : ((Bool × (List Int)) × (Bool × (List Int)) × Unit) → Option (((Bool × (List Int)) × Unit) × (Unit))) (F124 : ((Bool × (List Int)) × (Bool × (List Int)) × Unit) → Option (((Bool × (List Int)) × Unit) × (Unit))) (F123 : ((Bool × (List Int)) × (Bool × (List Int)) × Unit) → Option ((((Bool × (List Int)) × (Bool × (List Int))) × Unit) × (Unit))) (x : (((Bool × (List Int)) × (Bool × (List Int))) × ((Bool × (List Int)) × (Bool × (List Int))) × Unit)) : vfun (f88_cx F106 F124 F123) f88_an k Tryz.f88 [.val (.pair (.pair .bool (.list (.int .i64))) (.pair .bool (.list (.int .i64)))), .val (.pair (.pair .bool (.list (.int .i64))) (.pair .bool (.list (.int .i64))))] [(.pair (.pair .bool (.list (.int .i64))) (.pair .bool (.list (.int .i64))))] x = f88_I k F106 F124 F123 x.1 x.2.1 := by kernel_rfl
theorem f88_ok (k : Nat) (F106 : ((Bool × (List Int)) × (Bool × (List Int)) × Unit) → Option (((Bool × (List Int)) × Unit) × (Unit))) (F124 : ((Bool × (List Int)) × (Bool × (List Int)) × Unit) → Option (((Bool × (List Int)) × Unit) × (Unit))) (F123 : ((Bool × (List Int)) × (Bool × (List Int)) × Unit) → Option ((((Bool × (List Int)) × (Bool × (List Int))) × Unit) × (Unit))) (h106 : FnOk Tryz.prog 106 ⟨[.val (.pair .bool (.list (.int .i64))), .val (.pair .bool (.list (.int .i64)))], [(.pair .bool (.list (.int .i64)))], F106⟩) (h124 : FnOk Tryz.prog 124 ⟨[.val (.pair .bool (.list (.int .i64))), .val (.pair .bool (.list (.int .i64)))], [(.pair .bool (.list (.int .i64)))], F124⟩) (h123 : FnOk Tryz.prog 123 ⟨[.val (.pair .bool (.list (.int .i64))), .val (.pair .bool (.list (.int .i64)))], [(.pair (.pair .bool (.list (.int .i64))) (.pair .bool (.list (.int .i64))))], F123⟩) : FnOk Tryz.prog 88 ⟨[.val (.pair (.pair .bool (.list (.int .i64))) (.pair .bool (.list (.int .i64)))), .val (.pair (.pair .bool (.list (.int .i64))) (.pair .bool (.list (.int .i64))))], [(.pair (.pair .bool (.list (.int .i64))) (.pair .bool (.list (.int .i64))))], fun x => f88_I k F106 F124 F123 x.1 x.2.1⟩ :=
 (fn_ok (an := f88_an) (k := k) follows_mixed tys_ok ⟨look_fn (AllFn.cons h106 (AllFn.cons h124 (AllFn.cons h123 (AllFn.nil)))), look_new AllNew.nil⟩ Tryz.func88 rfl rfl rfl).of (funext (f88_eq k F106 F124 F123))
/-! joinlearn/joinlearnref02.Read -/
abbrev f87_cx (F122 : ((List UInt8) × Unit) → Option (((List UInt8) × (List UInt8) × Bool × Unit) × (Unit))) (F109 : ((List UInt8) × Unit) → Option (((Bool × (List Int)) × Unit) × (Unit))) : Cx := ⟨look tys, look [(122, ⟨[.val .str], [.str, .str, .bool], F122⟩), (109, ⟨[.val .str], [(.pair .bool (.list (.int .i64)))], F109⟩)], 17, look [], [], []⟩
def f87_an : Ann := ⟨look [], look []⟩
def f87_b (F122 : ((List UInt8) × Unit) → Option (((List UInt8) × (List UInt8) × Bool × Unit) × (Unit))) (F109 : ((List UInt8) × Unit) → Option (((Bool × (List Int)) × Unit) × (Unit)))  (a0 : (List UInt8)) : Option ((((Bool × (List Int)) × (Bool × (List Int))) × Unit) × (Unit)) :=
 Option.bind (F122 (a0, ())) fun r1 =>
 Option.bind (F109 (r1.1.1, ())) fun r2 =>
 Option.bind (F109 (r1.1.2.1, ())) fun r3 =>
 some (((r2.1.1, r3.1.1), ()), ())
def f87_I (k : Nat) (F122 : ((List UInt8) × Unit) → Option (((List UInt8) × (List UInt8) × Bool × Unit) × (Unit))) (F109 : ((List UInt8) × Unit) → Option (((Bool × (List Int)) × Unit) × (Unit))) (a0 : (List UInt8)) : Option ((((Bool × (List Int)) × (Bool × (List Int))) × Unit) × (Unit)) := f87_b F122 F109 a0
theorem f87_eq (k : Nat) (F122 : ((List UInt8) × Unit) → Option (((List UInt8) × (List UInt8) × Bool × Unit) × (Unit))) (F109 : ((List UInt8) × Unit) → Option (((Bool × (List Int)) × Unit) × (Unit))) (x : ((List UInt8) × Unit)) : vfun (f87_cx F122 F109) f87_an k Tryz.f87 [.val .str] [(.pair (.pair .bool (.list (.int .i64))) (.pair .bool (.list (.int .i64))))] x = f87_I k F122 F109 x.1 := by kernel_rfl
theorem f87_ok (k : Nat) (F122 : ((List UInt8) × Unit) → Option (((List UInt8) × (List UInt8) × Bool × Unit) × (Unit))) (F109 : ((List UInt8) × Unit) → Option (((Bool × (List Int)) × Unit) × (Unit))) (h122 : FnOk Tryz.prog 122 ⟨[.val .str], [.str, .str, .bool], F122⟩) (h109 : FnOk Tryz.prog 109 ⟨[.val .str], [(.pair .bool (.list (.int .i64)))], F109⟩) : FnOk Tryz.prog 87 ⟨[.val .str], [(.pair (.pair .bool (.list (.int .i64))) (.pair .bool (.list (.int .i64))))], fun x => f87_I k F122 F109 x.1⟩ :=
 (fn_ok (an := f87_an) (k := k) follows_mixed tys_ok ⟨look_fn (AllFn.cons h122 (AllFn.cons h109 (AllFn.nil))), look_new AllNew.nil⟩ Tryz.func87 rfl rfl rfl).of (funext (f87_eq k F122 F109))
/-! joinlearn/joinlearnref02.Valid -/
abbrev f86_cx (F121 : ((List UInt8) × Unit) → Option (((List UInt8) × (List UInt8) × Bool × Unit) × (Unit))) : Cx := ⟨look tys, look [(121, ⟨[.val .str], [.str, .str, .bool], F121⟩)], 13, look [], [], []⟩
def f86_an : Ann := ⟨look [], look []⟩
def f86_b (F121 : ((List UInt8) × Unit) → Option (((List UInt8) × (List UInt8) × Bool × Unit) × (Unit)))  (a0 : (List UInt8)) : Option ((Bool × Unit) × (Unit)) :=
 Option.bind (F121 (a0, ())) fun r1 =>
 some ((r1.1.2.2.1, ()), ())
def f86_I (k : Nat) (F121 : ((List UInt8) × Unit) → Option (((List UInt8) × (List UInt8) × Bool × Unit) × (Unit))) (a0 : (List UInt8)) : Option ((Bool × Unit) × (Unit)) := f86_b F121 a0
theorem f86_eq (k : Nat) (F121 : ((List UInt8) × Unit) → Option (((List UInt8) × (List UInt8) × Bool × Unit) × (Unit))) (x : ((List UInt8) × Unit)) : vfun (f86_cx F121) f86_an k Tryz.f86 [.val .str] [.bool] x = f86_I k F121 x.1 := by kernel_rfl
theorem f86_ok (k : Nat) (F121 : ((List UInt8) × Unit) → Option (((List UInt8) × (List UInt8) × Bool × Unit) × (Unit))) (h121 : FnOk Tryz.prog 121 ⟨[.val .str], [.str, .str, .bool], F121⟩) : FnOk Tryz.prog 86 ⟨[.val .str], [.bool], fun x => f86_I k F121 x.1⟩ :=
 (fn_ok (an := f86_an) (k := k) follows_mixed tys_ok ⟨look_fn (AllFn.cons h121 (AllFn.nil)), look_new AllNew.nil⟩ Tryz.func86 rfl rfl rfl).of (funext (f86_eq k F121))
/-! (joinlearn/condition.probe).notEqual -/
abbrev f85_cx : Cx := ⟨look tys, look [], 10, look [], [], []⟩
def f85_an : Ann := ⟨look [], look []⟩
def f85_b  (a0 : (Int × (Int × (List UInt8)))) (a1 : (List UInt8)) : Option ((Bool × Unit) × (Unit)) :=
 some (((!(a1 == a0.2.2)), ()), ())
def f85_I (k : Nat) (a0 : (Int × (Int × (List UInt8)))) (a1 : (List UInt8)) : Option ((Bool × Unit) × (Unit)) := f85_b a0 a1
theorem f85_eq (k : Nat) (x : ((Int × (Int × (List UInt8))) × (List UInt8) × Unit)) : vfun (f85_cx) f85_an k Tryz.f85 [.val (.one (.pair (.int .i64) (.pair (.int .i64) .str))), .val .str] [.bool] x = f85_I k x.1 x.2.1 := by kernel_rfl
theorem f85_ok (k : Nat) : FnOk Tryz.prog 85 ⟨[.val (.one (.pair (.int .i64) (.pair (.int .i64) .str))), .val .str], [.bool], fun x => f85_I k x.1 x.2.1⟩ :=
 (fn_ok (an := f85_an) (k := k) follows_mixed tys_ok ⟨look_fn AllFn.nil, look_new AllNew.nil⟩ Tryz.func85 rfl rfl rfl).of (funext (f85_eq k))
/-! (joinlearn/condition.probe).equal -/
abbrev f84_cx : Cx := ⟨look tys, look [], 10, look [], [], []⟩
def f84_an : Ann := ⟨look [], look []⟩
def f84_b  (a0 : (Int × (Int × (List UInt8)))) (a1 : (List UInt8)) : Option ((Bool × Unit) × (Unit)) :=
 some (((a1 == a0.2.2), ()), ())
def f84_I (k : Nat) (a0 : (Int × (Int × (List UInt8)))) (a1 : (List UInt8)) : Option ((Bool × Unit) × (Unit)) := f84_b a0 a1
theorem f84_eq (k : Nat) (x : ((Int × (Int × (List UInt8))) × (List UInt8) × Unit)) : vfun (f84_cx) f84_an k Tryz.f84 [.val (.one (.pair (.int .i64) (.pair (.int .i64) .str))), .val .str] [.bool] x = f84_I k x.1 x.2.1 := by kernel_rfl
theorem f84_ok (k : Nat) : FnOk Tryz.prog 84 ⟨[.val (.one (.pair (.int .i64) (.pair (.int .i64) .str))), .val .str], [.bool], fun x => f84_I k x.1 x.2.1⟩ :=
 (fn_ok (an := f84_an) (k := k) follows_mixed tys_ok ⟨look_fn AllFn.nil, look_new AllNew.nil⟩ Tryz.func84 rfl rfl rfl).of (funext (f84_eq k))
/-! (joinlearn/condition.probe).notLess -/
abbrev f83_cx (F82 : ((Int × (Int × (List UInt8))) × (List UInt8) × Unit) → Option ((Bool × Unit) × (Unit))) : Cx := ⟨look tys, look [(82, ⟨[.val (.one (.pair (.int .i64) (.pair (.int .i64) .str))), .val .str], [.bool], F82⟩)], 9, look [], [], []⟩
def f83_an : Ann := ⟨look [], look []⟩
def f83_b (F82 : ((Int × (Int × (List UInt8))) × (List UInt8) × Unit) → Option ((Bool × Unit) × (Unit)))  (a0 : (Int × (Int × (List UInt8)))) (a1 : (List UInt8)) : Option ((Bool × Unit) × (Unit)) :=
 Option.bind (F82 (a0, a1, ())) fun r1 =>
 some (((!r1.1.1), ()), ())
def f83_I (k : Nat) (F82 : ((Int × (Int × (List UInt8))) × (List UInt8) × Unit) → Option ((Bool × Unit) × (Unit))) (a0 : (Int × (Int × (List UInt8)))) (a1 : (List UInt8)) : Option ((Bool × Unit) × (Unit)) := f83_b F82 a0 a1
theorem f83_eq (k : Nat) (F82 : ((Int × (Int × (List UInt8))) × (List UInt8) × Unit) → Option ((Bool × Unit) × (Unit))) (x : ((Int × (Int × (List UInt8))) × (List UInt8) × Unit)) : vfun (f83_cx F82) f83_an k Tryz.f83 [.val (.one (.pair (.int .i64) (.pair (.int .i64) .str))), .val .str] [.bool] x = f83_I k F82 x.1 x.2.1 := by kernel_rfl
theorem f83_ok (k : Nat) (F82 : ((Int × (Int × (List UInt8))) × (List UInt8) × Unit) → Option ((Bool × Unit) × (Unit))) (h82 : FnOk Tryz.prog 82 ⟨[.val (.one (.pair (.int .i64) (.pair (.int .i64) .str))), .val .str], [.bool], F82⟩) : FnOk Tryz.prog 83 ⟨[.val (.one (.pair (.int .i64) (.pair (.int .i64) .str))), .val .str], [.bool], fun x => f83_I k F82 x.1 x.2.1⟩ :=
 (fn_ok (an := f83_an) (k := k) follows_mixed tys_ok ⟨look_fn (AllFn.cons h82 (AllFn.nil)), look_new AllNew.nil⟩ Tryz.func83 rfl rfl rfl).of (funext (f83_eq k F82))
/-! (joinlearn/condition.probe).less -/
abbrev f82_cx (F91 : ((List UInt8) × (List UInt8) × Unit) → Option ((Int × Unit) × (Unit))) : Cx := ⟨look tys, look [(91, ⟨[.val .str, .val .str], [(.int .i64)], F91⟩)], 15, look [], [], []⟩
def f82_an : Ann := ⟨look [], look []⟩
def f82_b (F91 : ((List UInt8) × (List UInt8) × Unit) → Option ((Int × Unit) × (Unit)))  (a0 : (Int × (Int × (List UInt8)))) (a1 : (List UInt8)) : Option ((Bool × Unit) × (Unit)) :=
 bif (!(a1 == ([] : List UInt8))) then (Option.bind (F91 (a1, a0.2.2, ())) fun r1 =>
 some (((decide (r1.1.1 < 0)), ()), ()))
 else (some ((false, ()), ()))
def f82_I (k : Nat) (F91 : ((List UInt8) × (List UInt8) × Unit) → Option ((Int × Unit) × (Unit))) (a0 : (Int × (Int × (List UInt8)))) (a1 : (List UInt8)) : Option ((Bool × Unit) × (Unit)) := f82_b F91 a0 a1
theorem f82_eq (k : Nat) (F91 : ((List UInt8) × (List UInt8) × Unit) → Option ((Int × Unit) × (Unit))) (x : ((Int × (Int × (List UInt8))) × (List UInt8) × Unit)) : vfun (f82_cx F91) f82_an k Tryz.f82 [.val (.one (.pair (.int .i64) (.pair (.int .i64) .str))), .val .str] [.bool] x = f82_I k F91 x.1 x.2.1 := by kernel_rfl
theorem f82_ok (k : Nat) (F91 : ((List UInt8) × (List UInt8) × Unit) → Option ((Int × Unit) × (Unit))) (h91 : FnOk Tryz.prog 91 ⟨[.val .str, .val .str], [(.int .i64)], F91⟩) : FnOk Tryz.prog 82 ⟨[.val (.one (.pair (.int .i64) (.pair (.int .i64) .str))), .val .str], [.bool], fun x => f82_I k F91 x.1 x.2.1⟩ :=
 (fn_ok (an := f82_an) (k := k) follows_mixed tys_ok ⟨look_fn (AllFn.cons h91 (AllFn.nil)), look_new AllNew.nil⟩ Tryz.func82 rfl rfl rfl).of (funext (f82_eq k F91))
/-! joinlearn/schema.Value -/
abbrev f81_cx (F117 : ((List UInt8) × Unit) → Option ((Bool × Unit) × (Unit))) (F118 : ((List UInt8) × Unit) → Option (((List UInt8) × (List UInt8) × Bool × Unit) × (Unit))) (F119 : ((List UInt8) × Unit) → Option ((Int × Bool × Unit) × (Unit))) (F120 : ((List UInt8) × Unit) → Option ((Bool × Unit) × (Unit))) : Cx := ⟨look tys, look [(117, ⟨[.val .str], [.bool], F117⟩), (118, ⟨[.val .str], [.str, .str, .bool], F118⟩), (119, ⟨[.val .str], [(.int .i64), .bool], F119⟩), (120, ⟨[.val .str], [.bool], F120⟩)], 58, look [], [], []⟩
def f81_an : Ann := ⟨look [], look []⟩
def f81_b (F117 : ((List UInt8) × Unit) → Option ((Bool × Unit) × (Unit))) (F118 : ((List UInt8) × Unit) → Option (((List UInt8) × (List UInt8) × Bool × Unit) × (Unit))) (F119 : ((List UInt8) × Unit) → Option ((Int × Bool × Unit) × (Unit))) (F120 : ((List UInt8) × Unit) → Option ((Bool × Unit) × (Unit)))  (a0 : ((List UInt8) × Int)) (a1 : (List UInt8)) : Option ((Bool × Unit) × (Unit)) :=
 bif (a0.2 == 1) then (bif (a1 == ([] : List UInt8)) then (some ((true, ()), ()))
 else (Option.bind (F117 (a1, ())) fun r1 =>
 some ((r1.1.1, ()), ())))
 else (bif (a0.2 == 2) then (Option.bind (F118 (a1, ())) fun r2 =>
 Option.bind (F119 (r2.1.2.1, ())) fun r3 =>
 bif (a1 == ([] : List UInt8)) then (some ((true, ()), ()))
 else (bif r2.1.2.2.1 then (Option.bind (F117 (r2.1.1, ())) fun r4 =>
 bif r4.1.1 then (bif (decide (r3.1.1 ≥ 1)) then (some (((decide (r3.1.1 ≤ 12)), ()), ()))
 else (some ((false, ()), ())))
 else (some ((false, ()), ())))
 else (some ((false, ()), ()))))
 else (bif (a0.2 == 3) then (bif (a1 == ([] : List UInt8)) then (some ((true, ()), ()))
 else (Option.bind (F120 (a1, ())) fun r5 =>
 some ((r5.1.1, ()), ())))
 else (some ((false, ()), ()))))
def f81_I (k : Nat) (F117 : ((List UInt8) × Unit) → Option ((Bool × Unit) × (Unit))) (F118 : ((List UInt8) × Unit) → Option (((List UInt8) × (List UInt8) × Bool × Unit) × (Unit))) (F119 : ((List UInt8) × Unit) → Option ((Int × Bool × Unit) × (Unit))) (F120 : ((List UInt8) × Unit) → Option ((Bool × Unit) × (Unit))) (a0 : ((List UInt8) × Int)) (a1 : (List UInt8)) : Option ((Bool × Unit) × (Unit)) := f81_b F117 F118 F119 F120 a0 a1
theorem f81_eq (k : Nat) (F117 : ((List UInt8) × Unit) → Option ((Bool × Unit) × (Unit))) (F118 : ((List UInt8) × Unit) → Option (((List UInt8) × (List UInt8) × Bool × Unit) × (Unit))) (F119 : ((List UInt8) × Unit) → Option ((Int × Bool × Unit) × (Unit))) (F120 : ((List UInt8) × Unit) → Option ((Bool × Unit) × (Unit))) (x : (((List UInt8) × Int) × (List UInt8) × Unit)) : vfun (f81_cx F117 F118 F119 F120) f81_an k Tryz.f81 [.val (.pair .str (.int .i64)), .val .str] [.bool] x = f81_I k F117 F118 F119 F120 x.1 x.2.1 := by kernel_rfl
theorem f81_ok (k : Nat) (F117 : ((List UInt8) × Unit) → Option ((Bool × Unit) × (Unit))) (F118 : ((List UInt8) × Unit) → Option (((List UInt8) × (List UInt8) × Bool × Unit) × (Unit))) (F119 : ((List UInt8) × Unit) → Option ((Int × Bool × Unit) × (Unit))) (F120 : ((List UInt8) × Unit) → Option ((Bool × Unit) × (Unit))) (h117 : FnOk Tryz.prog 117 ⟨[.val .str], [.bool], F117⟩) (h118 : FnOk Tryz.prog 118 ⟨[.val .str], [.str, .str, .bool], F118⟩) (h119 : FnOk Tryz.prog 119 ⟨[.val .str], [(.int .i64), .bool], F119⟩) (h120 : FnOk Tryz.prog 120 ⟨[.val .str], [.bool], F120⟩) : FnOk Tryz.prog 81 ⟨[.val (.pair .str (.int .i64)), .val .str], [.bool], fun x => f81_I k F117 F118 F119 F120 x.1 x.2.1⟩ :=
 (fn_ok (an := f81_an) (k := k) follows_mixed tys_ok ⟨look_fn (AllFn.cons h117 (AllFn.cons h118 (AllFn.cons h119 (AllFn.cons h120 (AllFn.nil))))), look_new AllNew.nil⟩ Tryz.func81 rfl rfl rfl).of (funext (f81_eq k F117 F118 F119 F120))
/-! joinlearn/condition.valid -/
abbrev f58_cx (F81 : (((List UInt8) × Int) × (List UInt8) × Unit) → Option ((Bool × Unit) × (Unit))) : Cx := ⟨look tys, look [(81, ⟨[.val (.pair .str (.int .i64)), .val .str], [.bool], F81⟩)], 49, look [], [], []⟩
def f58_an : Ann := ⟨look [], look []⟩
def f58_b (F81 : (((List UInt8) × Int) × (List UInt8) × Unit) → Option ((Bool × Unit) × (Unit)))  (a0 : ((List ((List UInt8) × Int)) × ((List ((List UInt8) × (List Int))) × ((List (Int × (Int × Int))) × Int)))) (a1 : (Int × (Int × (List UInt8)))) : Option ((Bool × Unit) × (Unit)) :=
 bif (decide (a1.1 < 0)) then (some ((false, ()), ()))
 else (bif (decide (a1.1 ≥ (a0.1.length : Int))) then (some ((false, ()), ()))
 else (rd a0.1 a1.1 fun y1 =>
 Option.bind (F81 (y1, a1.2.2, ())) fun r2 =>
 bif (!r2.1.1) then (some ((false, ()), ()))
 else (bif (a1.2.1 == 3) then (bif (a1.2.1 == 3) then (some ((true, ()), ()))
 else (bif (a1.2.1 == 1) then (bif (a1.2.1 == 1) then (bif (!(a1.2.2 == ([] : List UInt8))) then (rd a0.1 a1.1 fun y3 =>
 some (((y3.2 != 3), ()), ()))
 else (some ((false, ()), ())))
 else (some ((false, ()), ())))
 else (bif (a1.2.1 == 2) then (bif (!(a1.2.2 == ([] : List UInt8))) then (rd a0.1 a1.1 fun y4 =>
 some (((y4.2 != 3), ()), ()))
 else (some ((false, ()), ())))
 else (some ((false, ()), ())))))
 else (bif (a1.2.1 == 4) then (some ((true, ()), ()))
 else (bif (a1.2.1 == 1) then (bif (a1.2.1 == 1) then (bif (!(a1.2.2 == ([] : List UInt8))) then (rd a0.1 a1.1 fun y5 =>
 some (((y5.2 != 3), ()), ()))
 else (some ((false, ()), ())))
 else (some ((false, ()), ())))
 else (bif (a1.2.1 == 2) then (bif (!(a1.2.2 == ([] : List UInt8))) then (rd a0.1 a1.1 fun y6 =>
 some (((y6.2 != 3), ()), ()))
 else (some ((false, ()), ())))
 else (some ((false, ()), ()))))))))
def f58_I (k : Nat) (F81 : (((List UInt8) × Int) × (List UInt8) × Unit) → Option ((Bool × Unit) × (Unit))) (a0 : ((List ((List UInt8) × Int)) × ((List ((List UInt8) × (List Int))) × ((List (Int × (Int × Int))) × Int)))) (a1 : (Int × (Int × (List UInt8)))) : Option ((Bool × Unit) × (Unit)) := f58_b F81 a0 a1
theorem f58_eq (k : Nat) (F81 : (((List UInt8) × Int) × (List UInt8) × Unit) → Option ((Bool × Unit) × (Unit))) (x : (((List ((List UInt8) × Int)) × ((List ((List UInt8) × (List Int))) × ((List (Int × (Int × Int))) × Int))) × (Int × (Int × (List UInt8))) × Unit)) : vfun (f58_cx F81) f58_an k Tryz.f58 [.val (.pair (.list (.pair .str (.int .i64))) (.pair (.list (.pair .str (.list (.int .i64)))) (.pair (.list (.pair (.int .i64) (.pair (.int .i64) (.int .i64)))) (.int .i64)))), .val (.pair (.int .i64) (.pair (.int .i64) .str))] [.bool] x = f58_I k F81 x.1 x.2.1 := by kernel_rfl
theorem f58_ok (k : Nat) (F81 : (((List UInt8) × Int) × (List UInt8) × Unit) → Option ((Bool × Unit) × (Unit))) (h81 : FnOk Tryz.prog 81 ⟨[.val (.pair .str (.int .i64)), .val .str], [.bool], F81⟩) : FnOk Tryz.prog 58 ⟨[.val (.pair (.list (.pair .str (.int .i64))) (.pair (.list (.pair .str (.list (.int .i64)))) (.pair (.list (.pair (.int .i64) (.pair (.int .i64) (.int .i64)))) (.int .i64)))), .val (.pair (.int .i64) (.pair (.int .i64) .str))], [.bool], fun x => f58_I k F81 x.1 x.2.1⟩ :=
 (fn_ok (an := f58_an) (k := k) follows_mixed tys_ok ⟨look_fn (AllFn.cons h81 (AllFn.nil)), look_new AllNew.nil⟩ Tryz.func58 rfl rfl rfl).of (funext (f58_eq k F81))
/-! joinlearn/schema.Check -/
abbrev f56_cx (F95 : (((List ((List UInt8) × Int)) × ((List ((List UInt8) × (List Int))) × ((List (Int × (Int × Int))) × Int))) × Unit) → Option ((Int × Unit) × (Unit))) (F96 : (((List ((List UInt8) × Int)) × ((List ((List UInt8) × (List Int))) × ((List (Int × (Int × Int))) × Int))) × Unit) → Option ((Int × Unit) × (Unit))) (F97 : (((List ((List UInt8) × Int)) × ((List ((List UInt8) × (List Int))) × ((List (Int × (Int × Int))) × Int))) × Unit) → Option ((Int × Unit) × (Unit))) : Cx := ⟨look tys, look [(95, ⟨[.val (.pair (.list (.pair .str (.int .i64))) (.pair (.list (.pair .str (.list (.int .i64)))) (.pair (.list (.pair (.int .i64) (.pair (.int .i64) (.int .i64)))) (.int .i64))))], [(.int .i64)], F95⟩), (96, ⟨[.val (.pair (.list (.pair .str (.int .i64))) (.pair (.list (.pair .str (.list (.int .i64)))) (.pair (.list (.pair (.int .i64) (.pair (.int .i64) (.int .i64)))) (.int .i64))))], [(.int .i64)], F96⟩), (97, ⟨[.val (.pair (.list (.pair .str (.int .i64))) (.pair (.list (.pair .str (.list (.int .i64)))) (.pair (.list (.pair (.int .i64) (.pair (.int .i64) (.int .i64)))) (.int .i64))))], [(.int .i64)], F97⟩)], 73, look [], [], []⟩
def f56_an : Ann := ⟨look [(0, ⟨[1, 34, 35, 36], [100, 3400], []⟩)], look []⟩
def f56_b (F95 : (((List ((List UInt8) × Int)) × ((List ((List UInt8) × (List Int))) × ((List (Int × (Int × Int))) × Int))) × Unit) → Option ((Int × Unit) × (Unit))) (F96 : (((List ((List UInt8) × Int)) × ((List ((List UInt8) × (List Int))) × ((List (Int × (Int × Int))) × Int))) × Unit) → Option ((Int × Unit) × (Unit))) (F97 : (((List ((List UInt8) × Int)) × ((List ((List UInt8) × (List Int))) × ((List (Int × (Int × Int))) × Int))) × Unit) → Option ((Int × Unit) × (Unit)))  (a0 : ((List ((List UInt8) × Int)) × ((List ((List UInt8) × (List Int))) × ((List (Int × (Int × Int))) × Int)))) : Option ((Int × Unit) × (Unit)) :=
 bif ((a0.1.length : Int) == 0) then (some ((3, ()), ()))
 else (bif (decide ((a0.1.length : Int) > 12)) then (some ((3, ()), ()))
 else (bif ((a0.2.1.length : Int) == 0) then (some ((3, ()), ()))
 else (bif (decide ((a0.2.1.length : Int) > 6)) then (some ((3, ()), ()))
 else (bif (decide ((a0.2.2.1.length : Int) > 8)) then (some ((3, ()), ()))
 else (Option.bind (F95 (a0, ())) fun r1 =>
 bif (r1.1.1 != 0) then (some ((r1.1.1, ()), ()))
 else (Option.bind (F96 (a0, ())) fun r2 =>
 bif (r2.1.1 != 0) then (some ((r2.1.1, ()), ()))
 else (Option.bind (F97 (a0, ())) fun r3 =>
 bif (r3.1.1 != 0) then (some ((r3.1.1, ()), ()))
 else (bif (decide (a0.2.2.2 < (-1))) then (some ((2, ()), ()))
 else (bif (decide (a0.2.2.2 ≥ (a0.1.length : Int))) then (some ((2, ()), ()))
 else (bif (decide (a0.2.2.2 ≥ 0)) then (rd a0.1 a0.2.2.2 fun y4 =>
 bif (y4.2 != 2) then (some ((7, ()), ()))
 else (some ((0, ()), ())))
 else (some ((0, ()), ()))))))))))))
def f56_I (k : Nat) (F95 : (((List ((List UInt8) × Int)) × ((List ((List UInt8) × (List Int))) × ((List (Int × (Int × Int))) × Int))) × Unit) → Option ((Int × Unit) × (Unit))) (F96 : (((List ((List UInt8) × Int)) × ((List ((List UInt8) × (List Int))) × ((List (Int × (Int × Int))) × Int))) × Unit) → Option ((Int × Unit) × (Unit))) (F97 : (((List ((List UInt8) × Int)) × ((List ((List UInt8) × (List Int))) × ((List (Int × (Int × Int))) × Int))) × Unit) → Option ((Int × Unit) × (Unit))) (a0 : ((List ((List UInt8) × Int)) × ((List ((List UInt8) × (List Int))) × ((List (Int × (Int × Int))) × Int)))) : Option ((Int × Unit) × (Unit)) := f56_b F95 F96 F97 a0
theorem f56_eq (k : Nat) (F95 : (((List ((List UInt8) × Int)) × ((List ((List UInt8) × (List Int))) × ((List (Int × (Int × Int))) × Int))) × Unit) → Option ((Int × Unit) × (Unit))) (F96 : (((List ((List UInt8) × Int)) × ((List ((List UInt8) × (List Int))) × ((List (Int × (Int × Int))) × Int))) × Unit) → Option ((Int × Unit) × (Unit))) (F97 : (((List ((List UInt8) × Int)) × ((List ((List UInt8) × (List Int))) × ((List (Int × (Int × Int))) × Int))) × Unit) → Option ((Int × Unit) × (Unit))) (x : (((List ((List UInt8) × Int)) × ((List ((List UInt8) × (List Int))) × ((List (Int × (Int × Int))) × Int))) × Unit)) : vfun (f56_cx F95 F96 F97) f56_an (k + 16) Tryz.f56 [.val (.pair (.list (.pair .str (.int .i64))) (.pair (.list (.pair .str (.list (.int .i64)))) (.pair (.list (.pair (.int .i64) (.pair (.int .i64) (.int .i64)))) (.int .i64))))] [(.int .i64)] x = f56_I k F95 F96 F97 x.1 := by kernel_rfl
theorem f56_ok (k : Nat) (F95 : (((List ((List UInt8) × Int)) × ((List ((List UInt8) × (List Int))) × ((List (Int × (Int × Int))) × Int))) × Unit) → Option ((Int × Unit) × (Unit))) (F96 : (((List ((List UInt8) × Int)) × ((List ((List UInt8) × (List Int))) × ((List (Int × (Int × Int))) × Int))) × Unit) → Option ((Int × Unit) × (Unit))) (F97 : (((List ((List UInt8) × Int)) × ((List ((List UInt8) × (List Int))) × ((List (Int × (Int × Int))) × Int))) × Unit) → Option ((Int × Unit) × (Unit))) (h95 : FnOk Tryz.prog 95 ⟨[.val (.pair (.list (.pair .str (.int .i64))) (.pair (.list (.pair .str (.list (.int .i64)))) (.pair (.list (.pair (.int .i64) (.pair (.int .i64) (.int .i64)))) (.int .i64))))], [(.int .i64)], F95⟩) (h96 : FnOk Tryz.prog 96 ⟨[.val (.pair (.list (.pair .str (.int .i64))) (.pair (.list (.pair .str (.list (.int .i64)))) (.pair (.list (.pair (.int .i64) (.pair (.int .i64) (.int .i64)))) (.int .i64))))], [(.int .i64)], F96⟩) (h97 : FnOk Tryz.prog 97 ⟨[.val (.pair (.list (.pair .str (.int .i64))) (.pair (.list (.pair .str (.list (.int .i64)))) (.pair (.list (.pair (.int .i64) (.pair (.int .i64) (.int .i64)))) (.int .i64))))], [(.int .i64)], F97⟩) : FnOk Tryz.prog 56 ⟨[.val (.pair (.list (.pair .str (.int .i64))) (.pair (.list (.pair .str (.list (.int .i64)))) (.pair (.list (.pair (.int .i64) (.pair (.int .i64) (.int .i64)))) (.int .i64))))], [(.int .i64)], fun x => f56_I k F95 F96 F97 x.1⟩ :=
 (fn_ok (an := f56_an) (k := (k + 16)) follows_mixed tys_ok ⟨look_fn (AllFn.cons h95 (AllFn.cons h96 (AllFn.cons h97 (AllFn.nil)))), look_new AllNew.nil⟩ Tryz.func56 rfl rfl rfl).of (funext (f56_eq k F95 F96 F97))
/-! joinlearn/condition.simple -/
abbrev f53_cx (F90 : ((List (Int × (Int × (List UInt8)))) × (List UInt8) × Unit) → Option ((Bool × Unit) × (Unit))) (F91 : ((List UInt8) × (List UInt8) × Unit) → Option ((Int × Unit) × (Unit))) (F92 : ((List (Int × (Int × (List UInt8)))) × Unit) → Option (((List (Int × (Int × (List UInt8)))) × Unit) × (Unit))) (F93 : ((List (List UInt8)) × Unit) → Option ((Unit) × (Unit))) (F94 : ((List (List UInt8)) × Unit) → Option (((List (List UInt8)) × Unit) × (Unit))) : Cx := ⟨look tys, look [(90, ⟨[.val (.list (.pair (.int .i64) (.pair (.int .i64) .str))), .val .str], [.bool], F90⟩), (91, ⟨[.val .str, .val .str], [(.int .i64)], F91⟩), (92, ⟨[.val (.list (.pair (.int .i64) (.pair (.int .i64) .str)))], [(.list (.pair (.int .i64) (.pair (.int .i64) .str)))], F92⟩), (93, ⟨[.val (.list .str)], [], F93⟩), (94, ⟨[.val (.list .str)], [(.list .str)], F94⟩)], 129, look [], [], []⟩
def f53_an : Ann := ⟨look [(0, ⟨[0, 4, 5, 12, 13, 14], [400, 401, 402, 500], [(400, 0, 401, (.pair (.int .i64) (.pair (.int .i64) .str))), (400, 1, 402, (.pair (.int .i64) (.pair (.int .i64) .str)))]⟩), (3, ⟨[0, 8, 9, 109, 110, 111], [401], []⟩)], look []⟩
/-! joinlearn/joinlearnref02.Compare -/
abbrev f52_cx (F86 : ((List UInt8) × Unit) → Option ((Bool × Unit) × (Unit))) (F87 : ((List UInt8) × Unit) → Option ((((Bool × (List Int)) × (Bool × (List Int))) × Unit) × (Unit))) (F88 : (((Bool × (List Int)) × (Bool × (List Int))) × ((Bool × (List Int)) × (Bool × (List Int))) × Unit) → Option ((((Bool × (List Int)) × (Bool × (List Int))) × Unit) × (Unit))) (F89 : (((Bool × (List Int)) × (Bool × (List Int))) × Unit) → Option ((Int × Unit) × (Unit))) : Cx := ⟨look tys, look [(86, ⟨[.val .str], [.bool], F86⟩), (87, ⟨[.val .str], [(.pair (.pair .bool (.list (.int .i64))) (.pair .bool (.list (.int .i64))))], F87⟩), (88, ⟨[.val (.pair (.pair .bool (.list (.int .i64))) (.pair .bool (.list (.int .i64)))), .val (.pair (.pair .bool (.list (.int .i64))) (.pair .bool (.list (.int .i64))))], [(.pair (.pair .bool (.list (.int .i64))) (.pair .bool (.list (.int .i64))))], F88⟩), (89, ⟨[.val (.pair (.pair .bool (.list (.int .i64))) (.pair .bool (.list (.int .i64))))], [(.int .i64)], F89⟩)], 19, look [], [], []⟩
def f52_an : Ann := ⟨look [], look []⟩
def f52_b (F86 : ((List UInt8) × Unit) → Option ((Bool × Unit) × (Unit))) (F87 : ((List UInt8) × Unit) → Option ((((Bool × (List Int)) × (Bool × (List Int))) × Unit) × (Unit))) (F88 : (((Bool × (List Int)) × (Bool × (List Int))) × ((Bool × (List Int)) × (Bool × (List Int))) × Unit) → Option ((((Bool × (List Int)) × (Bool × (List Int))) × Unit) × (Unit))) (F89 : (((Bool × (List Int)) × (Bool × (List Int))) × Unit) → Option ((Int × Unit) × (Unit)))  (a0 : (List UInt8)) (a1 : (List UInt8)) : Option ((Int × Unit) × (Unit)) :=
 Option.bind (F86 (a0, ())) fun r1 =>
 bif (!r1.1.1) then (some ((0, ()), ()))
 else (Option.bind (F86 (a1, ())) fun r2 =>
 bif (!r2.1.1) then (some ((0, ()), ()))
 else (Option.bind (F87 (a0, ())) fun r3 =>
 Option.bind (F87 (a1, ())) fun r4 =>
 Option.bind (F88 (r3.1.1, r4.1.1, ())) fun r5 =>
 Option.bind (F89 (r5.1.1, ())) fun r6 =>
 some ((r6.1.1, ()), ())))
def f52_I (k : Nat) (F86 : ((List UInt8) × Unit) → Option ((Bool × Unit) × (Unit))) (F87 : ((List UInt8) × Unit) → Option ((((Bool × (List Int)) × (Bool × (List Int))) × Unit) × (Unit))) (F88 : (((Bool × (List Int)) × (Bool × (List Int))) × ((Bool × (List Int)) × (Bool × (List Int))) × Unit) → Option ((((Bool × (List Int)) × (Bool × (List Int))) × Unit) × (Unit))) (F89 : (((Bool × (List Int)) × (Bool × (List Int))) × Unit) → Option ((Int × Unit) × (Unit))) (a0 : (List UInt8)) (a1 : (List UInt8)) : Option ((Int × Unit) × (Unit)) := f52_b F86 F87 F88 F89 a0 a1
theorem f52_eq (k : Nat) (F86 : ((List UInt8) × Unit) → Option ((Bool × Unit) × (Unit))) (F87 : ((List UInt8) × Unit) → Option ((((Bool × (List Int)) × (Bool × (List Int))) × Unit) × (Unit))) (F88 : (((Bool × (List Int)) × (Bool × (List Int))) × ((Bool × (List Int)) × (Bool × (List Int))) × Unit) → Option ((((Bool × (List Int)) × (Bool × (List Int))) × Unit) × (Unit))) (F89 : (((Bool × (List Int)) × (Bool × (List Int))) × Unit) → Option ((Int × Unit) × (Unit))) (x : ((List UInt8) × (List UInt8) × Unit)) : vfun (f52_cx F86 F87 F88 F89) f52_an k Tryz.f52 [.val .str, .val .str] [(.int .i64)] x = f52_I k F86 F87 F88 F89 x.1 x.2.1 := by kernel_rfl
theorem f52_ok (k : Nat) (F86 : ((List UInt8) × Unit) → Option ((Bool × Unit) × (Unit))) (F87 : ((List UInt8) × Unit) → Option ((((Bool × (List Int)) × (Bool × (List Int))) × Unit) × (Unit))) (F88 : (((Bool × (List Int)) × (Bool × (List Int))) × ((Bool × (List Int)) × (Bool × (List Int))) × Unit) → Option ((((Bool × (List Int)) × (Bool × (List Int))) × Unit) × (Unit))) (F89 : (((Bool × (List Int)) × (Bool × (List Int))) × Unit) → Option ((Int × Unit) × (Unit))) (h86 : FnOk Tryz.prog 86 ⟨[.val .str], [.bool], F86⟩) (h87 : FnOk Tryz.prog 87 ⟨[.val .str], [(.pair (.pair .bool (.list (.int .i64))) (.pair .bool (.list (.int .i64))))], F87⟩) (h88 : FnOk Tryz.prog 88 ⟨[.val (.pair (.pair .bool (.list (.int .i64))) (.pair .bool (.list (.int .i64)))), .val (.pair (.pair .bool (.list (.int .i64))) (.pair .bool (.list (.int .i64))))], [(.pair (.pair .bool (.list (.int .i64))) (.pair .bool (.list (.int .i64))))], F88⟩) (h89 : FnOk Tryz.prog 89 ⟨[.val (.pair (.pair .bool (.list (.int .i64))) (.pair .bool (.list (.int .i64))))], [(.int .i64)], F89⟩) : FnOk Tryz.prog 52 ⟨[.val .str, .val .str], [(.int .i64)], fun x => f52_I k F86 F87 F88 F89 x.1 x.2.1⟩ :=
 (fn_ok (an := f52_an) (k := k) follows_mixed tys_ok ⟨look_fn (AllFn.cons h86 (AllFn.cons h87 (AllFn.cons h88 (AllFn.cons h89 (AllFn.nil))))), look_new AllNew.nil⟩ Tryz.func52 rfl rfl rfl).of (funext (f52_eq k F86 F87 F88 F89))
/-! joinlearn/condition.tuple -/
abbrev f50_cx (F81 : (((List UInt8) × Int) × (List UInt8) × Unit) → Option ((Bool × Unit) × (Unit))) : Cx := ⟨look tys, look [(81, ⟨[.val (.pair .str (.int .i64)), .val .str], [.bool], F81⟩)], 29, look [], [], []⟩
def f50_an : Ann := ⟨look [(0, ⟨[2, 13, 14, 15], [200], []⟩)], look []⟩
abbrev f50_Vl0 : Type := (List (List UInt8)) × Int × Int × (List ((List UInt8) × Int)) × (List ((List UInt8) × (List Int))) × (List (Int × (Int × Int))) × Int
def f50_Tl0 (v : f50_Vl0) : Nat → LV := tbl [(2, .c (.ptr 200 0 0)), (13, .c (.s (.list .str) v.1)), (14, .c (.s (.int .i64) v.2.1)), (15, .c (.s (.int .i64) v.2.2.1))]
def f50_Hl0 (v : f50_Vl0) : Nat → Option VO := tblH [(200, some ⟨0, .cells [.s (.list (.pair .str (.int .i64))) v.2.2.2.1, .s (.list (.pair .str (.list (.int .i64)))) v.2.2.2.2.1, .s (.list (.pair (.int .i64) (.pair (.int .i64) (.int .i64)))) v.2.2.2.2.2.1, .s (.int .i64) v.2.2.2.2.2.2], false⟩)]

def f50_bl0 (F81 : (((List UInt8) × Int) × (List UInt8) × Unit) → Option ((Bool × Unit) × (Unit))) (Jl0 : f50_Vl0 → Option ((Bool × Unit) × (Unit))) : f50_Vl0 → Option ((Bool × Unit) × (Unit)) := fun (x1, x2, x3, x4, x5, x6, x7) =>
 bif (decide (x3 < x2)) then (rd x1 x3 fun y8 =>
 rd x4 x3 fun y9 =>
 Option.bind (F81 (y9, y8, ())) fun r10 =>
 bif (!r10.1.1) then (some ((false, ()), ()))
 else (Jl0 (x1, x2, (w64 (x3 + 1)), x4, x5, x6, x7)))
 else (some ((true, ()), ()))
def f50_b (F81 : (((List UInt8) × Int) × (List UInt8) × Unit) → Option ((Bool × Unit) × (Unit))) (Jl0 : f50_Vl0 → Option ((Bool × Unit) × (Unit))) (a0 : ((List ((List UInt8) × Int)) × ((List ((List UInt8) × (List Int))) × ((List (Int × (Int × Int))) × Int)))) (a1 : (List (List UInt8))) : Option ((Bool × Unit) × (Unit)) :=
 bif ((a1.length : Int) != (a0.1.length : Int)) then (some ((false, ()), ()))
 else (Jl0 (a1, (a1.length : Int), 0, a0.1, a0.2.1, a0.2.2.1, a0.2.2.2))
def f50_Ll0 (k : Nat) (F81 : (((List UInt8) × Int) × (List UInt8) × Unit) → Option ((Bool × Unit) × (Unit)))  : f50_Vl0 → Option ((Bool × Unit) × (Unit)) := loopI (fun Jl0 => f50_bl0 F81 Jl0) k
def f50_I (k : Nat) (F81 : (((List UInt8) × Int) × (List UInt8) × Unit) → Option ((Bool × Unit) × (Unit))) (a0 : ((List ((List UInt8) × Int)) × ((List ((List UInt8) × (List Int))) × ((List (Int × (Int × Int))) × Int)))) (a1 : (List (List UInt8))) : Option ((Bool × Unit) × (Unit)) := f50_b F81 (f50_Ll0 k F81) a0 a1
theorem f50_el0 (k : Nat) (F81 : (((List UInt8) × Int) × (List UInt8) × Unit) → Option ((Bool × Unit) × (Unit))) (Al0 : Jump ((Bool × Unit) × (Unit))) (v : f50_Vl0) : rawBody (f50_cx F81) f50_an k (bodyOf Tryz.f50) [1, 1, 0, 1, 0] [] (vend (f50_cx F81) Tryz.f50 [.val (.pair (.list (.pair .str (.int .i64))) (.pair (.list (.pair .str (.list (.int .i64)))) (.pair (.list (.pair (.int .i64) (.pair (.int .i64) (.int .i64)))) (.int .i64)))), .val (.list .str)] [.bool]) Al0 (f50_Tl0 v) (f50_Hl0 v) =
 f50_bl0 F81 (fun v => Al0 (f50_Tl0 v) (f50_Hl0 v)) v := by kernel_rfl
theorem f50_ll0 (k : Nat) (F81 : (((List UInt8) × Int) × (List UInt8) × Unit) → Option ((Bool × Unit) × (Unit))) (v : f50_Vl0) : rawLoop (f50_cx F81) f50_an k (bodyOf Tryz.f50) [1, 1, 0, 1, 0] [] (vend (f50_cx F81) Tryz.f50 [.val (.pair (.list (.pair .str (.int .i64))) (.pair (.list (.pair .str (.list (.int .i64)))) (.pair (.list (.pair (.int .i64) (.pair (.int .i64) (.int .i64)))) (.int .i64)))), .val (.list .str)] [.bool]) k (f50_Tl0 v) (f50_Hl0 v) = f50_Ll0 k F81 v :=
 rawLoop_eq (bI := fun Jl0 => f50_bl0 F81 Jl0) f50_Tl0 f50_Hl0 (fun Al0 v => (f50_el0 k F81 Al0 v)) k v
theorem f50_e (k : Nat) (F81 : (((List UInt8) × Int) × (List UInt8) × Unit) → Option ((Bool × Unit) × (Unit))) (x : (((List ((List UInt8) × Int)) × ((List ((List UInt8) × (List Int))) × ((List (Int × (Int × Int))) × Int))) × (List (List UInt8)) × Unit)) : vfun (f50_cx F81) f50_an k Tryz.f50 [.val (.pair (.list (.pair .str (.int .i64))) (.pair (.list (.pair .str (.list (.int .i64)))) (.pair (.list (.pair (.int .i64) (.pair (.int .i64) (.int .i64)))) (.int .i64)))), .val (.list .str)] [.bool] x =
 f50_b F81 (fun v => rawLoop (f50_cx F81) f50_an k (bodyOf Tryz.f50) [1, 1, 0, 1, 0] [] (vend (f50_cx F81) Tryz.f50 [.val (.pair (.list (.pair .str (.int .i64))) (.pair (.list (.pair .str (.list (.int .i64)))) (.pair (.list (.pair (.int .i64) (.pair (.int .i64) (.int .i64)))) (.int .i64)))), .val (.list .str)] [.bool]) k (f50_Tl0 v) (f50_Hl0 v)) x.1 x.2.1 := by kernel_rfl
theorem f50_eq (k : Nat) (F81 : (((List UInt8) × Int) × (List UInt8) × Unit) → Option ((Bool × Unit) × (Unit))) (x : (((List ((List UInt8) × Int)) × ((List ((List UInt8) × (List Int))) × ((List (Int × (Int × Int))) × Int))) × (List (List UInt8)) × Unit)) : vfun (f50_cx F81) f50_an k Tryz.f50 [.val (.pair (.list (.pair .str (.int .i64))) (.pair (.list (.pair .str (.list (.int .i64)))) (.pair (.list (.pair (.int .i64) (.pair (.int .i64) (.int .i64)))) (.int .i64)))), .val (.list .str)] [.bool] x = f50_I k F81 x.1 x.2.1 :=
 ((f50_e k F81 x).trans (congrArg (fun (J : f50_Vl0 → Option ((Bool × Unit) × (Unit))) => f50_b F81 J x.1 x.2.1) (funext (f50_ll0 k F81))))
theorem f50_ok (k : Nat) (F81 : (((List UInt8) × Int) × (List UInt8) × Unit) → Option ((Bool × Unit) × (Unit))) (h81 : FnOk Tryz.prog 81 ⟨[.val (.pair .str (.int .i64)), .val .str], [.bool], F81⟩) : FnOk Tryz.prog 50 ⟨[.val (.pair (.list (.pair .str (.int .i64))) (.pair (.list (.pair .str (.list (.int .i64)))) (.pair (.list (.pair (.int .i64) (.pair (.int .i64) (.int .i64)))) (.int .i64)))), .val (.list .str)], [.bool], fun x => f50_I k F81 x.1 x.2.1⟩ :=
 (fn_ok (an := f50_an) (k := k) follows_mixed tys_ok ⟨look_fn (AllFn.cons h81 (AllFn.nil)), look_new AllNew.nil⟩ Tryz.func50 rfl rfl rfl).of (funext (f50_eq k F81))
end Go.JL
