/- Functions of the program as plain Lean functions. Printed by a program of mine; checked by the kernel. -/
import Derived.Test.YtnepcgaphhgbnaaGreatDoorFa
set_option linter.unusedVariables false
set_option maxRecDepth 100000
namespace Go.JL
open Go.Proofs
/-! (joinlearn/limbs.Number).Gcd -/
abbrev f174_cx (F199 : ((List Int) × (List Int) × Unit) → Option (((List Int) × Unit) × (Unit))) (F186 : (Bool × (List Int) × Unit) → Option (((Bool × (List Int)) × Unit) × (Unit))) : Cx := ⟨look tys, look [(199, ⟨[.val (.list (.int .u64)), .val (.list (.int .u64))], [(.list (.int .u64))], F199⟩), (186, ⟨[.val .bool, .val (.list (.int .u64))], [(.pair .bool (.list (.int .u64)))], F186⟩)], 11, look [], [], []⟩
def f174_an : Ann := ⟨look [], look []⟩
def f174_b (F199 : ((List Int) × (List Int) × Unit) → Option (((List Int) × Unit) × (Unit))) (F186 : (Bool × (List Int) × Unit) → Option (((Bool × (List Int)) × Unit) × (Unit)))  (a0 : (Bool × (List Int))) (a1 : (Bool × (List Int))) : Option (((Bool × (List Int)) × Unit) × (Unit)) :=
 Option.bind (F199 (a0.2, a1.2, ())) fun r1 =>
 Option.bind (F186 (false, r1.1.1, ())) fun r2 =>
 some ((r2.1.1, ()), ())
def f174_I (k : Nat) (F199 : ((List Int) × (List Int) × Unit) → Option (((List Int) × Unit) × (Unit))) (F186 : (Bool × (List Int) × Unit) → Option (((Bool × (List Int)) × Unit) × (Unit))) (a0 : (Bool × (List Int))) (a1 : (Bool × (List Int))) : Option (((Bool × (List Int)) × Unit) × (Unit)) := f174_b F199 F186 a0 a1
theorem f174_eq (k : Nat) (F199 : ((List Int) × (List Int) × Unit) → Option (((List Int) × Unit) × (Unit))) (F186 : (Bool × (List Int) × Unit) → Option (((Bool × (List Int)) × Unit) × (Unit))) (x : ((Bool × (List Int)) × (Bool × (List Int)) × Unit)) : vfun (f174_cx F199 F186) f174_an k Tryz.f174 [.val (.pair .bool (.list (.int .u64))), .val (.pair .bool (.list (.int .u64)))] [(.pair .bool (.list (.int .u64)))] x = f174_I k F199 F186 x.1 x.2.1 := by kernel_rfl
theorem f174_ok (k : Nat) (F199 : ((List Int) × (List Int) × Unit) → Option (((List Int) × Unit) × (Unit))) (F186 : (Bool × (List Int) × Unit) → Option (((Bool × (List Int)) × Unit) × (Unit))) (h199 : FnOk Tryz.prog 199 ⟨[.val (.list (.int .u64)), .val (.list (.int .u64))], [(.list (.int .u64))], F199⟩) (h186 : FnOk Tryz.prog 186 ⟨[.val .bool, .val (.list (.int .u64))], [(.pair .bool (.list (.int .u64)))], F186⟩) : FnOk Tryz.prog 174 ⟨[.val (.pair .bool (.list (.int .u64))), .val (.pair .bool (.list (.int .u64)))], [(.pair .bool (.list (.int .u64)))], fun x => f174_I k F199 F186 x.1 x.2.1⟩ :=
 (fn_ok (an := f174_an) (k := k) follows_mixed tys_ok ⟨look_fn (AllFn.cons h199 (AllFn.cons h186 (AllFn.nil))), look_new AllNew.nil⟩ Tryz.func174 rfl rfl rfl).of (funext (f174_eq k F199 F186))
/-! joinlearn/integer.Compare -/
abbrev f173_cx (F144 : ((List UInt8) × Unit) → Option ((Bool × Unit) × (Unit))) (F145 : ((List UInt8) × Unit) → Option (((Bool × (List Int)) × Unit) × (Unit))) (F156 : ((Bool × (List Int)) × (Bool × (List Int)) × Unit) → Option ((Int × Unit) × (Unit))) : Cx := ⟨look tys, look [(144, ⟨[.val .str], [.bool], F144⟩), (145, ⟨[.val .str], [(.pair .bool (.list (.int .u64)))], F145⟩), (156, ⟨[.val (.pair .bool (.list (.int .u64))), .val (.pair .bool (.list (.int .u64)))], [(.int .i64)], F156⟩)], 18, look [], [], []⟩
def f173_an : Ann := ⟨look [], look []⟩
def f173_b (F144 : ((List UInt8) × Unit) → Option ((Bool × Unit) × (Unit))) (F145 : ((List UInt8) × Unit) → Option (((Bool × (List Int)) × Unit) × (Unit))) (F156 : ((Bool × (List Int)) × (Bool × (List Int)) × Unit) → Option ((Int × Unit) × (Unit)))  (a0 : (List UInt8)) (a1 : (List UInt8)) : Option ((Int × Unit) × (Unit)) :=
 Option.bind (F144 (a0, ())) fun r1 =>
 bif (!r1.1.1) then (some ((0, ()), ()))
 else (Option.bind (F144 (a1, ())) fun r2 =>
 bif (!r2.1.1) then (some ((0, ()), ()))
 else (Option.bind (F145 (a0, ())) fun r3 =>
 Option.bind (F145 (a1, ())) fun r4 =>
 Option.bind (F156 (r3.1.1, r4.1.1, ())) fun r5 =>
 some ((r5.1.1, ()), ())))
def f173_I (k : Nat) (F144 : ((List UInt8) × Unit) → Option ((Bool × Unit) × (Unit))) (F145 : ((List UInt8) × Unit) → Option (((Bool × (List Int)) × Unit) × (Unit))) (F156 : ((Bool × (List Int)) × (Bool × (List Int)) × Unit) → Option ((Int × Unit) × (Unit))) (a0 : (List UInt8)) (a1 : (List UInt8)) : Option ((Int × Unit) × (Unit)) := f173_b F144 F145 F156 a0 a1
theorem f173_eq (k : Nat) (F144 : ((List UInt8) × Unit) → Option ((Bool × Unit) × (Unit))) (F145 : ((List UInt8) × Unit) → Option (((Bool × (List Int)) × Unit) × (Unit))) (F156 : ((Bool × (List Int)) × (Bool × (List Int)) × Unit) → Option ((Int × Unit) × (Unit))) (x : ((List UInt8) × (List UInt8) × Unit)) : vfun (f173_cx F144 F145 F156) f173_an k Tryz.f173 [.val .str, .val .str] [(.int .i64)] x = f173_I k F144 F145 F156 x.1 x.2.1 := by kernel_rfl
theorem f173_ok (k : Nat) (F144 : ((List UInt8) × Unit) → Option ((Bool × Unit) × (Unit))) (F145 : ((List UInt8) × Unit) → Option (((Bool × (List Int)) × Unit) × (Unit))) (F156 : ((Bool × (List Int)) × (Bool × (List Int)) × Unit) → Option ((Int × Unit) × (Unit))) (h144 : FnOk Tryz.prog 144 ⟨[.val .str], [.bool], F144⟩) (h145 : FnOk Tryz.prog 145 ⟨[.val .str], [(.pair .bool (.list (.int .u64)))], F145⟩) (h156 : FnOk Tryz.prog 156 ⟨[.val (.pair .bool (.list (.int .u64))), .val (.pair .bool (.list (.int .u64)))], [(.int .i64)], F156⟩) : FnOk Tryz.prog 173 ⟨[.val .str, .val .str], [(.int .i64)], fun x => f173_I k F144 F145 F156 x.1 x.2.1⟩ :=
 (fn_ok (an := f173_an) (k := k) follows_mixed tys_ok ⟨look_fn (AllFn.cons h144 (AllFn.cons h145 (AllFn.cons h156 (AllFn.nil)))), look_new AllNew.nil⟩ Tryz.func173 rfl rfl rfl).of (funext (f173_eq k F144 F145 F156))
/-! slices.IndexFunc[[]joinlearn/api.Feature,joinlearn/api.Feature] -/
abbrev f170_cx (F134 : ((Int × (Int × Int)) × (Int × (Int × Int)) × Unit) → Option ((Bool × Unit) × ((Int × (Int × Int)) × Unit))) : Cx := ⟨look tys, look [(134, ⟨[.val (.pair (.int .i64) (.pair (.int .i64) (.int .i64))), .ptr (.pair (.int .i64) (.pair (.int .i64) (.int .i64)))], [.bool], F134⟩)], 19, look [], [], []⟩
def f170_an : Ann := ⟨look [(0, ⟨[0, 1, 7, 8], [1000100], []⟩)], look []⟩
abbrev f170_Vl0 : Type := (List (Int × (Int × Int))) × Int × Int × Int × Int × Int
def f170_Tl0 (v : f170_Vl0) : Nat → LV := tbl [(0, .c (.s (.list (.pair (.int .i64) (.pair (.int .i64) (.int .i64)))) v.1)), (1, .c (.clo 134 [(1000100, 0)])), (7, .c (.s (.int .i64) v.2.1)), (8, .c (.s (.int .i64) v.2.2.1))]
def f170_Hl0 (v : f170_Vl0) : Nat → Option VO := tblH [(1000100, some ⟨0, .cells [.s (.int .i64) v.2.2.2.1, .s (.int .i64) v.2.2.2.2.1, .s (.int .i64) v.2.2.2.2.2], false⟩)]

def f170_bl0 (F134 : ((Int × (Int × Int)) × (Int × (Int × Int)) × Unit) → Option ((Bool × Unit) × ((Int × (Int × Int)) × Unit))) (Jl0 : f170_Vl0 → Option ((Int × Unit) × (((Int × (Int × Int)) × Unit) × Unit))) : f170_Vl0 → Option ((Int × Unit) × (((Int × (Int × Int)) × Unit) × Unit)) := fun (x1, x2, x3, x4, x5, x6) =>
 bif (decide (x3 < x2)) then (rd x1 x3 fun y7 =>
 Option.bind (F134 (y7, (x4, x5, x6), ())) fun r8 =>
 bif r8.1.1 then (some ((x3, ()), (r8.2.1, ()), ()))
 else (Jl0 (x1, x2, (w64 (x3 + 1)), r8.2.1.1, r8.2.1.2.1, r8.2.1.2.2)))
 else (some (((-1), ()), ((x4, x5, x6), ()), ()))
def f170_b (F134 : ((Int × (Int × Int)) × (Int × (Int × Int)) × Unit) → Option ((Bool × Unit) × ((Int × (Int × Int)) × Unit))) (Jl0 : f170_Vl0 → Option ((Int × Unit) × (((Int × (Int × Int)) × Unit) × Unit))) (a0 : (List (Int × (Int × Int)))) (a1_0 : (Int × (Int × Int))) : Option ((Int × Unit) × (((Int × (Int × Int)) × Unit) × Unit)) :=
 Jl0 (a0, (a0.length : Int), 0, a1_0.1, a1_0.2.1, a1_0.2.2)
def f170_Ll0 (k : Nat) (F134 : ((Int × (Int × Int)) × (Int × (Int × Int)) × Unit) → Option ((Bool × Unit) × ((Int × (Int × Int)) × Unit)))  : f170_Vl0 → Option ((Int × Unit) × (((Int × (Int × Int)) × Unit) × Unit)) := loopI (fun Jl0 => f170_bl0 F134 Jl0) k
def f170_I (k : Nat) (F134 : ((Int × (Int × Int)) × (Int × (Int × Int)) × Unit) → Option ((Bool × Unit) × ((Int × (Int × Int)) × Unit))) (a0 : (List (Int × (Int × Int)))) (a1_0 : (Int × (Int × Int))) : Option ((Int × Unit) × (((Int × (Int × Int)) × Unit) × Unit)) := f170_b F134 (f170_Ll0 k F134) a0 a1_0
theorem f170_el0 (k : Nat) (F134 : ((Int × (Int × Int)) × (Int × (Int × Int)) × Unit) → Option ((Bool × Unit) × ((Int × (Int × Int)) × Unit))) (Al0 : Jump ((Int × Unit) × (((Int × (Int × Int)) × Unit) × Unit))) (v : f170_Vl0) : rawBody (f170_cx F134) f170_an k (bodyOf Tryz.f170) [1, 0, 1, 0] [] (vend (f170_cx F134) Tryz.f170 [.val (.list (.pair (.int .i64) (.pair (.int .i64) (.int .i64)))), .clo 134 [(.pair (.int .i64) (.pair (.int .i64) (.int .i64)))]] [(.int .i64)]) Al0 (f170_Tl0 v) (f170_Hl0 v) =
 f170_bl0 F134 (fun v => Al0 (f170_Tl0 v) (f170_Hl0 v)) v := by kernel_rfl
theorem f170_ll0 (k : Nat) (F134 : ((Int × (Int × Int)) × (Int × (Int × Int)) × Unit) → Option ((Bool × Unit) × ((Int × (Int × Int)) × Unit))) (v : f170_Vl0) : rawLoop (f170_cx F134) f170_an k (bodyOf Tryz.f170) [1, 0, 1, 0] [] (vend (f170_cx F134) Tryz.f170 [.val (.list (.pair (.int .i64) (.pair (.int .i64) (.int .i64)))), .clo 134 [(.pair (.int .i64) (.pair (.int .i64) (.int .i64)))]] [(.int .i64)]) k (f170_Tl0 v) (f170_Hl0 v) = f170_Ll0 k F134 v :=
 rawLoop_eq (bI := fun Jl0 => f170_bl0 F134 Jl0) f170_Tl0 f170_Hl0 (fun Al0 v => (f170_el0 k F134 Al0 v)) k v
theorem f170_e (k : Nat) (F134 : ((Int × (Int × Int)) × (Int × (Int × Int)) × Unit) → Option ((Bool × Unit) × ((Int × (Int × Int)) × Unit))) (x : ((List (Int × (Int × Int))) × ((Int × (Int × Int)) × Unit) × Unit)) : vfun (f170_cx F134) f170_an k Tryz.f170 [.val (.list (.pair (.int .i64) (.pair (.int .i64) (.int .i64)))), .clo 134 [(.pair (.int .i64) (.pair (.int .i64) (.int .i64)))]] [(.int .i64)] x =
 f170_b F134 (fun v => rawLoop (f170_cx F134) f170_an k (bodyOf Tryz.f170) [1, 0, 1, 0] [] (vend (f170_cx F134) Tryz.f170 [.val (.list (.pair (.int .i64) (.pair (.int .i64) (.int .i64)))), .clo 134 [(.pair (.int .i64) (.pair (.int .i64) (.int .i64)))]] [(.int .i64)]) k (f170_Tl0 v) (f170_Hl0 v)) x.1 x.2.1.1 := by kernel_rfl
theorem f170_eq (k : Nat) (F134 : ((Int × (Int × Int)) × (Int × (Int × Int)) × Unit) → Option ((Bool × Unit) × ((Int × (Int × Int)) × Unit))) (x : ((List (Int × (Int × Int))) × ((Int × (Int × Int)) × Unit) × Unit)) : vfun (f170_cx F134) f170_an k Tryz.f170 [.val (.list (.pair (.int .i64) (.pair (.int .i64) (.int .i64)))), .clo 134 [(.pair (.int .i64) (.pair (.int .i64) (.int .i64)))]] [(.int .i64)] x = f170_I k F134 x.1 x.2.1.1 :=
 ((f170_e k F134 x).trans (congrArg (fun (J : f170_Vl0 → Option ((Int × Unit) × (((Int × (Int × Int)) × Unit) × Unit))) => f170_b F134 J x.1 x.2.1.1) (funext (f170_ll0 k F134))))
theorem f170_ok (k : Nat) (F134 : ((Int × (Int × Int)) × (Int × (Int × Int)) × Unit) → Option ((Bool × Unit) × ((Int × (Int × Int)) × Unit))) (h134 : FnOk Tryz.prog 134 ⟨[.val (.pair (.int .i64) (.pair (.int .i64) (.int .i64))), .ptr (.pair (.int .i64) (.pair (.int .i64) (.int .i64)))], [.bool], F134⟩) : FnOk Tryz.prog 170 ⟨[.val (.list (.pair (.int .i64) (.pair (.int .i64) (.int .i64)))), .clo 134 [(.pair (.int .i64) (.pair (.int .i64) (.int .i64)))]], [(.int .i64)], fun x => f170_I k F134 x.1 x.2.1.1⟩ :=
 (fn_ok (an := f170_an) (k := k) follows_mixed tys_ok ⟨look_fn (AllFn.cons h134 (AllFn.nil)), look_new AllNew.nil⟩ Tryz.func170 rfl rfl rfl).of (funext (f170_eq k F134))
/-! slices.Index[[]bool,bool] -/
abbrev f169_cx : Cx := ⟨look tys, look [], 19, look [], [], []⟩
def f169_an : Ann := ⟨look [(0, ⟨[0, 1, 7, 8], [], []⟩)], look []⟩
abbrev f169_Vl0 : Type := (List Bool) × Bool × Int × Int
def f169_Tl0 (v : f169_Vl0) : Nat → LV := tbl [(0, .c (.s (.list .bool) v.1)), (1, .c (.s .bool v.2.1)), (7, .c (.s (.int .i64) v.2.2.1)), (8, .c (.s (.int .i64) v.2.2.2))]
def f169_Hl0 (v : f169_Vl0) : Nat → Option VO := tblH []

def f169_bl0 (Jl0 : f169_Vl0 → Option ((Int × Unit) × (Unit))) : f169_Vl0 → Option ((Int × Unit) × (Unit)) := fun (x1, x2, x3, x4) =>
 bif (decide (x4 < x3)) then (rd x1 x4 fun y5 =>
 bif (x2 == y5) then (some ((x4, ()), ()))
 else (Jl0 (x1, x2, x3, (w64 (x4 + 1)))))
 else (some (((-1), ()), ()))
def f169_b (Jl0 : f169_Vl0 → Option ((Int × Unit) × (Unit))) (a0 : (List Bool)) (a1 : Bool) : Option ((Int × Unit) × (Unit)) :=
 Jl0 (a0, a1, (a0.length : Int), 0)
def f169_Ll0 (k : Nat)  : f169_Vl0 → Option ((Int × Unit) × (Unit)) := loopI (fun Jl0 => f169_bl0 Jl0) k
def f169_I (k : Nat) (a0 : (List Bool)) (a1 : Bool) : Option ((Int × Unit) × (Unit)) := f169_b (f169_Ll0 k) a0 a1
theorem f169_el0 (k : Nat) (Al0 : Jump ((Int × Unit) × (Unit))) (v : f169_Vl0) : rawBody (f169_cx) f169_an k (bodyOf Tryz.f169) [1, 0, 1, 0] [] (vend (f169_cx) Tryz.f169 [.val (.list .bool), .val .bool] [(.int .i64)]) Al0 (f169_Tl0 v) (f169_Hl0 v) =
 f169_bl0 (fun v => Al0 (f169_Tl0 v) (f169_Hl0 v)) v := by kernel_rfl
theorem f169_ll0 (k : Nat) (v : f169_Vl0) : rawLoop (f169_cx) f169_an k (bodyOf Tryz.f169) [1, 0, 1, 0] [] (vend (f169_cx) Tryz.f169 [.val (.list .bool), .val .bool] [(.int .i64)]) k (f169_Tl0 v) (f169_Hl0 v) = f169_Ll0 k v :=
 rawLoop_eq (bI := fun Jl0 => f169_bl0 Jl0) f169_Tl0 f169_Hl0 (fun Al0 v => (f169_el0 k Al0 v)) k v
theorem f169_e (k : Nat) (x : ((List Bool) × Bool × Unit)) : vfun (f169_cx) f169_an k Tryz.f169 [.val (.list .bool), .val .bool] [(.int .i64)] x =
 f169_b (fun v => rawLoop (f169_cx) f169_an k (bodyOf Tryz.f169) [1, 0, 1, 0] [] (vend (f169_cx) Tryz.f169 [.val (.list .bool), .val .bool] [(.int .i64)]) k (f169_Tl0 v) (f169_Hl0 v)) x.1 x.2.1 := by kernel_rfl
theorem f169_eq (k : Nat) (x : ((List Bool) × Bool × Unit)) : vfun (f169_cx) f169_an k Tryz.f169 [.val (.list .bool), .val .bool] [(.int .i64)] x = f169_I k x.1 x.2.1 :=
 ((f169_e k x).trans (congrArg (fun (J : f169_Vl0 → Option ((Int × Unit) × (Unit))) => f169_b J x.1 x.2.1) (funext (f169_ll0 k))))
theorem f169_ok (k : Nat) : FnOk Tryz.prog 169 ⟨[.val (.list .bool), .val .bool], [(.int .i64)], fun x => f169_I k x.1 x.2.1⟩ :=
 (fn_ok (an := f169_an) (k := k) follows_mixed tys_ok ⟨look_fn AllFn.nil, look_new AllNew.nil⟩ Tryz.func169 rfl rfl rfl).of (funext (f169_eq k))
/-! slices.Contains[[]string,string] -/
abbrev f168_cx (F197 : ((List (List UInt8)) × (List UInt8) × Unit) → Option ((Int × Unit) × (Unit))) : Cx := ⟨look tys, look [(197, ⟨[.val (.list .str), .val .str], [(.int .i64)], F197⟩)], 9, look [], [], []⟩
def f168_an : Ann := ⟨look [], look []⟩
def f168_b (F197 : ((List (List UInt8)) × (List UInt8) × Unit) → Option ((Int × Unit) × (Unit)))  (a0 : (List (List UInt8))) (a1 : (List UInt8)) : Option ((Bool × Unit) × (Unit)) :=
 Option.bind (F197 (a0, a1, ())) fun r1 =>
 some (((decide (r1.1.1 ≥ 0)), ()), ())
def f168_I (k : Nat) (F197 : ((List (List UInt8)) × (List UInt8) × Unit) → Option ((Int × Unit) × (Unit))) (a0 : (List (List UInt8))) (a1 : (List UInt8)) : Option ((Bool × Unit) × (Unit)) := f168_b F197 a0 a1
theorem f168_eq (k : Nat) (F197 : ((List (List UInt8)) × (List UInt8) × Unit) → Option ((Int × Unit) × (Unit))) (x : ((List (List UInt8)) × (List UInt8) × Unit)) : vfun (f168_cx F197) f168_an k Tryz.f168 [.val (.list .str), .val .str] [.bool] x = f168_I k F197 x.1 x.2.1 := by kernel_rfl
theorem f168_ok (k : Nat) (F197 : ((List (List UInt8)) × (List UInt8) × Unit) → Option ((Int × Unit) × (Unit))) (h197 : FnOk Tryz.prog 197 ⟨[.val (.list .str), .val .str], [(.int .i64)], F197⟩) : FnOk Tryz.prog 168 ⟨[.val (.list .str), .val .str], [.bool], fun x => f168_I k F197 x.1 x.2.1⟩ :=
 (fn_ok (an := f168_an) (k := k) follows_mixed tys_ok ⟨look_fn (AllFn.cons h197 (AllFn.nil)), look_new AllNew.nil⟩ Tryz.func168 rfl rfl rfl).of (funext (f168_eq k F197))
/-! math/bits.Len64 -/
abbrev f167_cx : Cx := ⟨look tys, look [], 25, look [], [], []⟩
def f167_an : Ann := ⟨look [], look []⟩
def f167_b  (a0 : Int) : Option ((Int × Unit) × (Unit)) :=
 bif (decide (a0 ≥ 4294967296)) then (bif (decide ((Int.fdiv a0 (2 ^ 32)) ≥ 65536)) then (bif (decide ((Int.fdiv (Int.fdiv a0 (2 ^ 32)) (2 ^ 16)) ≥ 256)) then (rd ([0, 1, 2, 2, 3, 3, 3, 3, 4, 4, 4, 4, 4, 4, 4, 4, 5, 5, 5, 5, 5, 5, 5, 5, 5, 5, 5, 5, 5, 5, 5, 5, 6, 6, 6, 6, 6, 6, 6, 6, 6, 6, 6, 6, 6, 6, 6, 6, 6, 6, 6, 6, 6, 6, 6, 6, 6, 6, 6, 6, 6, 6, 6, 6, 7, 7, 7, 7, 7, 7, 7, 7, 7, 7, 7, 7, 7, 7, 7, 7, 7, 7, 7, 7, 7, 7, 7, 7, 7, 7, 7, 7, 7, 7, 7, 7, 7, 7, 7, 7, 7, 7, 7, 7, 7, 7, 7, 7, 7, 7, 7, 7, 7, 7, 7, 7, 7, 7, 7, 7, 7, 7, 7, 7, 7, 7, 7, 7, 8, 8, 8, 8, 8, 8, 8, 8, 8, 8, 8, 8, 8, 8, 8, 8, 8, 8, 8, 8, 8, 8, 8, 8, 8, 8, 8, 8, 8, 8, 8, 8, 8, 8, 8, 8, 8, 8, 8, 8, 8, 8, 8, 8, 8, 8, 8, 8, 8, 8, 8, 8, 8, 8, 8, 8, 8, 8, 8, 8, 8, 8, 8, 8, 8, 8, 8, 8, 8, 8, 8, 8, 8, 8, 8, 8, 8, 8, 8, 8, 8, 8, 8, 8, 8, 8, 8, 8, 8, 8, 8, 8, 8, 8, 8, 8, 8, 8, 8, 8, 8, 8, 8, 8, 8, 8, 8, 8, 8, 8, 8, 8, 8, 8, 8, 8, 8, 8, 8, 8, 8, 8, 8, 8, 8, 8, 8, 8] : List UInt8) (IntKind.wrap .u8 ((Int.fdiv (Int.fdiv (Int.fdiv a0 (2 ^ 32)) (2 ^ 16)) (2 ^ 8)))) fun y1 =>
 some (((w64 (56 + (w64 ((y1.toNat : Int))))), ()), ()))
 else (rd ([0, 1, 2, 2, 3, 3, 3, 3, 4, 4, 4, 4, 4, 4, 4, 4, 5, 5, 5, 5, 5, 5, 5, 5, 5, 5, 5, 5, 5, 5, 5, 5, 6, 6, 6, 6, 6, 6, 6, 6, 6, 6, 6, 6, 6, 6, 6, 6, 6, 6, 6, 6, 6, 6, 6, 6, 6, 6, 6, 6, 6, 6, 6, 6, 7, 7, 7, 7, 7, 7, 7, 7, 7, 7, 7, 7, 7, 7, 7, 7, 7, 7, 7, 7, 7, 7, 7, 7, 7, 7, 7, 7, 7, 7, 7, 7, 7, 7, 7, 7, 7, 7, 7, 7, 7, 7, 7, 7, 7, 7, 7, 7, 7, 7, 7, 7, 7, 7, 7, 7, 7, 7, 7, 7, 7, 7, 7, 7, 8, 8, 8, 8, 8, 8, 8, 8, 8, 8, 8, 8, 8, 8, 8, 8, 8, 8, 8, 8, 8, 8, 8, 8, 8, 8, 8, 8, 8, 8, 8, 8, 8, 8, 8, 8, 8, 8, 8, 8, 8, 8, 8, 8, 8, 8, 8, 8, 8, 8, 8, 8, 8, 8, 8, 8, 8, 8, 8, 8, 8, 8, 8, 8, 8, 8, 8, 8, 8, 8, 8, 8, 8, 8, 8, 8, 8, 8, 8, 8, 8, 8, 8, 8, 8, 8, 8, 8, 8, 8, 8, 8, 8, 8, 8, 8, 8, 8, 8, 8, 8, 8, 8, 8, 8, 8, 8, 8, 8, 8, 8, 8, 8, 8, 8, 8, 8, 8, 8, 8, 8, 8, 8, 8, 8, 8, 8, 8] : List UInt8) (IntKind.wrap .u8 ((Int.fdiv (Int.fdiv a0 (2 ^ 32)) (2 ^ 16)))) fun y2 =>
 some (((w64 (48 + (w64 ((y2.toNat : Int))))), ()), ())))
 else (bif (decide ((Int.fdiv a0 (2 ^ 32)) ≥ 256)) then (rd ([0, 1, 2, 2, 3, 3, 3, 3, 4, 4, 4, 4, 4, 4, 4, 4, 5, 5, 5, 5, 5, 5, 5, 5, 5, 5, 5, 5, 5, 5, 5, 5, 6, 6, 6, 6, 6, 6, 6, 6, 6, 6, 6, 6, 6, 6, 6, 6, 6, 6, 6, 6, 6, 6, 6, 6, 6, 6, 6, 6, 6, 6, 6, 6, 7, 7, 7, 7, 7, 7, 7, 7, 7, 7, 7, 7, 7, 7, 7, 7, 7, 7, 7, 7, 7, 7, 7, 7, 7, 7, 7, 7, 7, 7, 7, 7, 7, 7, 7, 7, 7, 7, 7, 7, 7, 7, 7, 7, 7, 7, 7, 7, 7, 7, 7, 7, 7, 7, 7, 7, 7, 7, 7, 7, 7, 7, 7, 7, 8, 8, 8, 8, 8, 8, 8, 8, 8, 8, 8, 8, 8, 8, 8, 8, 8, 8, 8, 8, 8, 8, 8, 8, 8, 8, 8, 8, 8, 8, 8, 8, 8, 8, 8, 8, 8, 8, 8, 8, 8, 8, 8, 8, 8, 8, 8, 8, 8, 8, 8, 8, 8, 8, 8, 8, 8, 8, 8, 8, 8, 8, 8, 8, 8, 8, 8, 8, 8, 8, 8, 8, 8, 8, 8, 8, 8, 8, 8, 8, 8, 8, 8, 8, 8, 8, 8, 8, 8, 8, 8, 8, 8, 8, 8, 8, 8, 8, 8, 8, 8, 8, 8, 8, 8, 8, 8, 8, 8, 8, 8, 8, 8, 8, 8, 8, 8, 8, 8, 8, 8, 8, 8, 8, 8, 8, 8, 8] : List UInt8) (IntKind.wrap .u8 ((Int.fdiv (Int.fdiv a0 (2 ^ 32)) (2 ^ 8)))) fun y3 =>
 some (((w64 (40 + (w64 ((y3.toNat : Int))))), ()), ()))
 else (rd ([0, 1, 2, 2, 3, 3, 3, 3, 4, 4, 4, 4, 4, 4, 4, 4, 5, 5, 5, 5, 5, 5, 5, 5, 5, 5, 5, 5, 5, 5, 5, 5, 6, 6, 6, 6, 6, 6, 6, 6, 6, 6, 6, 6, 6, 6, 6, 6, 6, 6, 6, 6, 6, 6, 6, 6, 6, 6, 6, 6, 6, 6, 6, 6, 7, 7, 7, 7, 7, 7, 7, 7, 7, 7, 7, 7, 7, 7, 7, 7, 7, 7, 7, 7, 7, 7, 7, 7, 7, 7, 7, 7, 7, 7, 7, 7, 7, 7, 7, 7, 7, 7, 7, 7, 7, 7, 7, 7, 7, 7, 7, 7, 7, 7, 7, 7, 7, 7, 7, 7, 7, 7, 7, 7, 7, 7, 7, 7, 8, 8, 8, 8, 8, 8, 8, 8, 8, 8, 8, 8, 8, 8, 8, 8, 8, 8, 8, 8, 8, 8, 8, 8, 8, 8, 8, 8, 8, 8, 8, 8, 8, 8, 8, 8, 8, 8, 8, 8, 8, 8, 8, 8, 8, 8, 8, 8, 8, 8, 8, 8, 8, 8, 8, 8, 8, 8, 8, 8, 8, 8, 8, 8, 8, 8, 8, 8, 8, 8, 8, 8, 8, 8, 8, 8, 8, 8, 8, 8, 8, 8, 8, 8, 8, 8, 8, 8, 8, 8, 8, 8, 8, 8, 8, 8, 8, 8, 8, 8, 8, 8, 8, 8, 8, 8, 8, 8, 8, 8, 8, 8, 8, 8, 8, 8, 8, 8, 8, 8, 8, 8, 8, 8, 8, 8, 8, 8] : List UInt8) (IntKind.wrap .u8 ((Int.fdiv a0 (2 ^ 32)))) fun y4 =>
 some (((w64 (32 + (w64 ((y4.toNat : Int))))), ()), ()))))
 else (bif (decide (a0 ≥ 65536)) then (bif (decide ((Int.fdiv a0 (2 ^ 16)) ≥ 256)) then (rd ([0, 1, 2, 2, 3, 3, 3, 3, 4, 4, 4, 4, 4, 4, 4, 4, 5, 5, 5, 5, 5, 5, 5, 5, 5, 5, 5, 5, 5, 5, 5, 5, 6, 6, 6, 6, 6, 6, 6, 6, 6, 6, 6, 6, 6, 6, 6, 6, 6, 6, 6, 6, 6, 6, 6, 6, 6, 6, 6, 6, 6, 6, 6, 6, 7, 7, 7, 7, 7, 7, 7, 7, 7, 7, 7, 7, 7, 7, 7, 7, 7, 7, 7, 7, 7, 7, 7, 7, 7, 7, 7, 7, 7, 7, 7, 7, 7, 7, 7, 7, 7, 7, 7, 7, 7, 7, 7, 7, 7, 7, 7, 7, 7, 7, 7, 7, 7, 7, 7, 7, 7, 7, 7, 7, 7, 7, 7, 7, 8, 8, 8, 8, 8, 8, 8, 8, 8, 8, 8, 8, 8, 8, 8, 8, 8, 8, 8, 8, 8, 8, 8, 8, 8, 8, 8, 8, 8, 8, 8, 8, 8, 8, 8, 8, 8, 8, 8, 8, 8, 8, 8, 8, 8, 8, 8, 8, 8, 8, 8, 8, 8, 8, 8, 8, 8, 8, 8, 8, 8, 8, 8, 8, 8, 8, 8, 8, 8, 8, 8, 8, 8, 8, 8, 8, 8, 8, 8, 8, 8, 8, 8, 8, 8, 8, 8, 8, 8, 8, 8, 8, 8, 8, 8, 8, 8, 8, 8, 8, 8, 8, 8, 8, 8, 8, 8, 8, 8, 8, 8, 8, 8, 8, 8, 8, 8, 8, 8, 8, 8, 8, 8, 8, 8, 8, 8, 8] : List UInt8) (IntKind.wrap .u8 ((Int.fdiv (Int.fdiv a0 (2 ^ 16)) (2 ^ 8)))) fun y5 =>
 some (((w64 (24 + (w64 ((y5.toNat : Int))))), ()), ()))
 else (rd ([0, 1, 2, 2, 3, 3, 3, 3, 4, 4, 4, 4, 4, 4, 4, 4, 5, 5, 5, 5, 5, 5, 5, 5, 5, 5, 5, 5, 5, 5, 5, 5, 6, 6, 6, 6, 6, 6, 6, 6, 6, 6, 6, 6, 6, 6, 6, 6, 6, 6, 6, 6, 6, 6, 6, 6, 6, 6, 6, 6, 6, 6, 6, 6, 7, 7, 7, 7, 7, 7, 7, 7, 7, 7, 7, 7, 7, 7, 7, 7, 7, 7, 7, 7, 7, 7, 7, 7, 7, 7, 7, 7, 7, 7, 7, 7, 7, 7, 7, 7, 7, 7, 7, 7, 7, 7, 7, 7, 7, 7, 7, 7, 7, 7, 7, 7, 7, 7, 7, 7, 7, 7, 7, 7, 7, 7, 7, 7, 8, 8, 8, 8, 8, 8, 8, 8, 8, 8, 8, 8, 8, 8, 8, 8, 8, 8, 8, 8, 8, 8, 8, 8, 8, 8, 8, 8, 8, 8, 8, 8, 8, 8, 8, 8, 8, 8, 8, 8, 8, 8, 8, 8, 8, 8, 8, 8, 8, 8, 8, 8, 8, 8, 8, 8, 8, 8, 8, 8, 8, 8, 8, 8, 8, 8, 8, 8, 8, 8, 8, 8, 8, 8, 8, 8, 8, 8, 8, 8, 8, 8, 8, 8, 8, 8, 8, 8, 8, 8, 8, 8, 8, 8, 8, 8, 8, 8, 8, 8, 8, 8, 8, 8, 8, 8, 8, 8, 8, 8, 8, 8, 8, 8, 8, 8, 8, 8, 8, 8, 8, 8, 8, 8, 8, 8, 8, 8] : List UInt8) (IntKind.wrap .u8 ((Int.fdiv a0 (2 ^ 16)))) fun y6 =>
 some (((w64 (16 + (w64 ((y6.toNat : Int))))), ()), ())))
 else (bif (decide (a0 ≥ 256)) then (rd ([0, 1, 2, 2, 3, 3, 3, 3, 4, 4, 4, 4, 4, 4, 4, 4, 5, 5, 5, 5, 5, 5, 5, 5, 5, 5, 5, 5, 5, 5, 5, 5, 6, 6, 6, 6, 6, 6, 6, 6, 6, 6, 6, 6, 6, 6, 6, 6, 6, 6, 6, 6, 6, 6, 6, 6, 6, 6, 6, 6, 6, 6, 6, 6, 7, 7, 7, 7, 7, 7, 7, 7, 7, 7, 7, 7, 7, 7, 7, 7, 7, 7, 7, 7, 7, 7, 7, 7, 7, 7, 7, 7, 7, 7, 7, 7, 7, 7, 7, 7, 7, 7, 7, 7, 7, 7, 7, 7, 7, 7, 7, 7, 7, 7, 7, 7, 7, 7, 7, 7, 7, 7, 7, 7, 7, 7, 7, 7, 8, 8, 8, 8, 8, 8, 8, 8, 8, 8, 8, 8, 8, 8, 8, 8, 8, 8, 8, 8, 8, 8, 8, 8, 8, 8, 8, 8, 8, 8, 8, 8, 8, 8, 8, 8, 8, 8, 8, 8, 8, 8, 8, 8, 8, 8, 8, 8, 8, 8, 8, 8, 8, 8, 8, 8, 8, 8, 8, 8, 8, 8, 8, 8, 8, 8, 8, 8, 8, 8, 8, 8, 8, 8, 8, 8, 8, 8, 8, 8, 8, 8, 8, 8, 8, 8, 8, 8, 8, 8, 8, 8, 8, 8, 8, 8, 8, 8, 8, 8, 8, 8, 8, 8, 8, 8, 8, 8, 8, 8, 8, 8, 8, 8, 8, 8, 8, 8, 8, 8, 8, 8, 8, 8, 8, 8, 8, 8] : List UInt8) (IntKind.wrap .u8 ((Int.fdiv a0 (2 ^ 8)))) fun y7 =>
 some (((w64 (8 + (w64 ((y7.toNat : Int))))), ()), ()))
 else (rd ([0, 1, 2, 2, 3, 3, 3, 3, 4, 4, 4, 4, 4, 4, 4, 4, 5, 5, 5, 5, 5, 5, 5, 5, 5, 5, 5, 5, 5, 5, 5, 5, 6, 6, 6, 6, 6, 6, 6, 6, 6, 6, 6, 6, 6, 6, 6, 6, 6, 6, 6, 6, 6, 6, 6, 6, 6, 6, 6, 6, 6, 6, 6, 6, 7, 7, 7, 7, 7, 7, 7, 7, 7, 7, 7, 7, 7, 7, 7, 7, 7, 7, 7, 7, 7, 7, 7, 7, 7, 7, 7, 7, 7, 7, 7, 7, 7, 7, 7, 7, 7, 7, 7, 7, 7, 7, 7, 7, 7, 7, 7, 7, 7, 7, 7, 7, 7, 7, 7, 7, 7, 7, 7, 7, 7, 7, 7, 7, 8, 8, 8, 8, 8, 8, 8, 8, 8, 8, 8, 8, 8, 8, 8, 8, 8, 8, 8, 8, 8, 8, 8, 8, 8, 8, 8, 8, 8, 8, 8, 8, 8, 8, 8, 8, 8, 8, 8, 8, 8, 8, 8, 8, 8, 8, 8, 8, 8, 8, 8, 8, 8, 8, 8, 8, 8, 8, 8, 8, 8, 8, 8, 8, 8, 8, 8, 8, 8, 8, 8, 8, 8, 8, 8, 8, 8, 8, 8, 8, 8, 8, 8, 8, 8, 8, 8, 8, 8, 8, 8, 8, 8, 8, 8, 8, 8, 8, 8, 8, 8, 8, 8, 8, 8, 8, 8, 8, 8, 8, 8, 8, 8, 8, 8, 8, 8, 8, 8, 8, 8, 8, 8, 8, 8, 8, 8, 8] : List UInt8) (IntKind.wrap .u8 (a0)) fun y8 =>
 some (((w64 (0 + (w64 ((y8.toNat : Int))))), ()), ()))))
def f167_I (k : Nat) (a0 : Int) : Option ((Int × Unit) × (Unit)) := f167_b a0
theorem f167_eq (k : Nat) (x : (Int × Unit)) : vfun (f167_cx) f167_an k Tryz.f167 [.val (.int .u64)] [(.int .i64)] x = f167_I k x.1 := by kernel_rfl
theorem f167_ok (k : Nat) : FnOk Tryz.prog 167 ⟨[.val (.int .u64)], [(.int .i64)], fun x => f167_I k x.1⟩ :=
 (fn_ok (an := f167_an) (k := k) follows_mixed tys_ok ⟨look_fn AllFn.nil, look_new AllNew.nil⟩ Tryz.func167 rfl rfl rfl).of (funext (f167_eq k))
/-! cmp.Less[string] -/
abbrev f163_cx (F196 : ((List UInt8) × Unit) → Option ((Bool × Unit) × (Unit))) : Cx := ⟨look tys, look [(196, ⟨[.val .str], [.bool], F196⟩)], 17, look [], [], []⟩
def f163_an : Ann := ⟨look [], look []⟩
def f163_b (F196 : ((List UInt8) × Unit) → Option ((Bool × Unit) × (Unit)))  (a0 : (List UInt8)) (a1 : (List UInt8)) : Option ((Bool × Unit) × (Unit)) :=
 Option.bind (F196 (a0, ())) fun r1 =>
 bif r1.1.1 then (Option.bind (F196 (a1, ())) fun r2 =>
 bif (!r2.1.1) then (some ((true, ()), ()))
 else (some (((Op.bytesLess a0 a1), ()), ())))
 else (some (((Op.bytesLess a0 a1), ()), ()))
def f163_I (k : Nat) (F196 : ((List UInt8) × Unit) → Option ((Bool × Unit) × (Unit))) (a0 : (List UInt8)) (a1 : (List UInt8)) : Option ((Bool × Unit) × (Unit)) := f163_b F196 a0 a1
theorem f163_eq (k : Nat) (F196 : ((List UInt8) × Unit) → Option ((Bool × Unit) × (Unit))) (x : ((List UInt8) × (List UInt8) × Unit)) : vfun (f163_cx F196) f163_an k Tryz.f163 [.val .str, .val .str] [.bool] x = f163_I k F196 x.1 x.2.1 := by kernel_rfl
theorem f163_ok (k : Nat) (F196 : ((List UInt8) × Unit) → Option ((Bool × Unit) × (Unit))) (h196 : FnOk Tryz.prog 196 ⟨[.val .str], [.bool], F196⟩) : FnOk Tryz.prog 163 ⟨[.val .str, .val .str], [.bool], fun x => f163_I k F196 x.1 x.2.1⟩ :=
 (fn_ok (an := f163_an) (k := k) follows_mixed tys_ok ⟨look_fn (AllFn.cons h196 (AllFn.nil)), look_new AllNew.nil⟩ Tryz.func163 rfl rfl rfl).of (funext (f163_eq k F196))
/-! slices.insertionSortOrdered[string] -/
abbrev f157_cx (F163 : ((List UInt8) × (List UInt8) × Unit) → Option ((Bool × Unit) × (Unit))) : Cx := ⟨look tys, look [(163, ⟨[.val .str, .val .str], [.bool], F163⟩)], 49, look [], [], []⟩
def f157_an : Ann := ⟨look [(0, ⟨[0, 1, 2, 6], [], []⟩), (2, ⟨[0, 1, 2, 6, 7], [], []⟩)], look []⟩
abbrev f157_Vl0 : Type := (List (List UInt8)) × Int × Int × Int
def f157_Tl0 (v : f157_Vl0) : Nat → LV := tbl [(0, .c (.s (.list .str) v.1)), (1, .c (.s (.int .i64) v.2.1)), (2, .c (.s (.int .i64) v.2.2.1)), (6, .c (.s (.int .i64) v.2.2.2))]
def f157_Hl0 (v : f157_Vl0) : Nat → Option VO := tblH []

abbrev f157_Vl2 : Type := (List (List UInt8)) × Int × Int × Int × Int
def f157_Tl2 (v : f157_Vl2) : Nat → LV := tbl [(0, .c (.s (.list .str) v.1)), (1, .c (.s (.int .i64) v.2.1)), (2, .c (.s (.int .i64) v.2.2.1)), (6, .c (.s (.int .i64) v.2.2.2.1)), (7, .c (.s (.int .i64) v.2.2.2.2))]
def f157_Hl2 (v : f157_Vl2) : Nat → Option VO := tblH []

def f157_bl0 (F163 : ((List UInt8) × (List UInt8) × Unit) → Option ((Bool × Unit) × (Unit))) (Jl2 : f157_Vl2 → Option ((Unit) × (Unit))) : f157_Vl0 → Option ((Unit) × (Unit)) := fun (x1, x2, x3, x4) =>
 bif (decide (x4 < x3)) then (Jl2 (x1, x2, x3, x4, x4))
 else (some ((()), ()))
def f157_bl2 (F163 : ((List UInt8) × (List UInt8) × Unit) → Option ((Bool × Unit) × (Unit))) (Jl0 : f157_Vl0 → Option ((Unit) × (Unit))) : f157_Vl2 → Option ((Unit) × (Unit)) := fun (x5, x6, x7, x8, x9) =>
 bif (decide (x9 > x6)) then (rd x5 x9 fun y10 =>
 rd x5 (w64 (x9 - 1)) fun y11 =>
 Option.bind (F163 (y10, y11, ())) fun r12 =>
 bif r12.1.1 then (rd x5 (w64 (x9 - 1)) fun y13 =>
 rd x5 x9 fun y14 =>
 rd x5 x9 fun y15 =>
 none)
 else (Jl0 (x5, x6, x7, (w64 (x8 + 1)))))
 else (Jl0 (x5, x6, x7, (w64 (x8 + 1))))
def f157_b (F163 : ((List UInt8) × (List UInt8) × Unit) → Option ((Bool × Unit) × (Unit))) (Jl0 : f157_Vl0 → Option ((Unit) × (Unit))) (a0 : (List (List UInt8))) (a1 : Int) (a2 : Int) : Option ((Unit) × (Unit)) :=
 Jl0 (a0, a1, a2, (w64 (a1 + 1)))
def f157_Ll2 (k : Nat) (F163 : ((List UInt8) × (List UInt8) × Unit) → Option ((Bool × Unit) × (Unit))) (Jl0 : f157_Vl0 → Option ((Unit) × (Unit))) : f157_Vl2 → Option ((Unit) × (Unit)) := loopI (fun Jl2 => f157_bl2 F163 Jl0) k
def f157_Ll0 (k : Nat) (F163 : ((List UInt8) × (List UInt8) × Unit) → Option ((Bool × Unit) × (Unit)))  : f157_Vl0 → Option ((Unit) × (Unit)) := loopI (fun Jl0 => f157_bl0 F163 (f157_Ll2 k F163 Jl0)) k
def f157_I (k : Nat) (F163 : ((List UInt8) × (List UInt8) × Unit) → Option ((Bool × Unit) × (Unit))) (a0 : (List (List UInt8))) (a1 : Int) (a2 : Int) : Option ((Unit) × (Unit)) := f157_b F163 (f157_Ll0 k F163) a0 a1 a2
theorem f157_el2 (k : Nat) (F163 : ((List UInt8) × (List UInt8) × Unit) → Option ((Bool × Unit) × (Unit))) (Al0 : Jump ((Unit) × (Unit))) (Al2 : Jump ((Unit) × (Unit))) (v : f157_Vl2) : rawBody (f157_cx F163) f157_an k (bodyOf Tryz.f157) [1, 0, 0, 1, 0, 0, 1, 0] [Al0] (vend (f157_cx F163) Tryz.f157 [.val (.list .str), .val (.int .i64), .val (.int .i64)] []) Al2 (f157_Tl2 v) (f157_Hl2 v) =
 f157_bl2 F163 (fun v => Al0 (f157_Tl0 v) (f157_Hl0 v)) v := by kernel_rfl
theorem f157_ll2 (k : Nat) (F163 : ((List UInt8) × (List UInt8) × Unit) → Option ((Bool × Unit) × (Unit))) (Al0 : Jump ((Unit) × (Unit))) (v : f157_Vl2) : rawLoop (f157_cx F163) f157_an k (bodyOf Tryz.f157) [1, 0, 0, 1, 0, 0, 1, 0] [Al0] (vend (f157_cx F163) Tryz.f157 [.val (.list .str), .val (.int .i64), .val (.int .i64)] []) k (f157_Tl2 v) (f157_Hl2 v) = f157_Ll2 k F163 (fun v => Al0 (f157_Tl0 v) (f157_Hl0 v)) v :=
 rawLoop_eq (bI := fun Jl2 => f157_bl2 F163 (fun v => Al0 (f157_Tl0 v) (f157_Hl0 v))) f157_Tl2 f157_Hl2 (fun Al2 v => (f157_el2 k F163 Al0 Al2 v)) k v
theorem f157_el0 (k : Nat) (F163 : ((List UInt8) × (List UInt8) × Unit) → Option ((Bool × Unit) × (Unit))) (Al0 : Jump ((Unit) × (Unit))) (v : f157_Vl0) : rawBody (f157_cx F163) f157_an k (bodyOf Tryz.f157) [1, 0] [] (vend (f157_cx F163) Tryz.f157 [.val (.list .str), .val (.int .i64), .val (.int .i64)] []) Al0 (f157_Tl0 v) (f157_Hl0 v) =
 f157_bl0 F163 (fun v => rawLoop (f157_cx F163) f157_an k (bodyOf Tryz.f157) [1, 0, 0, 1, 0, 0, 1, 0] [Al0] (vend (f157_cx F163) Tryz.f157 [.val (.list .str), .val (.int .i64), .val (.int .i64)] []) k (f157_Tl2 v) (f157_Hl2 v)) v := by kernel_rfl
theorem f157_ll0 (k : Nat) (F163 : ((List UInt8) × (List UInt8) × Unit) → Option ((Bool × Unit) × (Unit))) (v : f157_Vl0) : rawLoop (f157_cx F163) f157_an k (bodyOf Tryz.f157) [1, 0] [] (vend (f157_cx F163) Tryz.f157 [.val (.list .str), .val (.int .i64), .val (.int .i64)] []) k (f157_Tl0 v) (f157_Hl0 v) = f157_Ll0 k F163 v :=
 rawLoop_eq (bI := fun Jl0 => f157_bl0 F163 (f157_Ll2 k F163 Jl0)) f157_Tl0 f157_Hl0 (fun Al0 v => ((f157_el0 k F163 Al0 v).trans (congrArg (fun (J : f157_Vl2 → Option ((Unit) × (Unit))) => f157_bl0 F163 J v) (funext (f157_ll2 k F163 Al0))))) k v
theorem f157_e (k : Nat) (F163 : ((List UInt8) × (List UInt8) × Unit) → Option ((Bool × Unit) × (Unit))) (x : ((List (List UInt8)) × Int × Int × Unit)) : vfun (f157_cx F163) f157_an k Tryz.f157 [.val (.list .str), .val (.int .i64), .val (.int .i64)] [] x =
 f157_b F163 (fun v => rawLoop (f157_cx F163) f157_an k (bodyOf Tryz.f157) [1, 0] [] (vend (f157_cx F163) Tryz.f157 [.val (.list .str), .val (.int .i64), .val (.int .i64)] []) k (f157_Tl0 v) (f157_Hl0 v)) x.1 x.2.1 x.2.2.1 := by kernel_rfl
theorem f157_eq (k : Nat) (F163 : ((List UInt8) × (List UInt8) × Unit) → Option ((Bool × Unit) × (Unit))) (x : ((List (List UInt8)) × Int × Int × Unit)) : vfun (f157_cx F163) f157_an k Tryz.f157 [.val (.list .str), .val (.int .i64), .val (.int .i64)] [] x = f157_I k F163 x.1 x.2.1 x.2.2.1 :=
 ((f157_e k F163 x).trans (congrArg (fun (J : f157_Vl0 → Option ((Unit) × (Unit))) => f157_b F163 J x.1 x.2.1 x.2.2.1) (funext (f157_ll0 k F163))))
theorem f157_ok (k : Nat) (F163 : ((List UInt8) × (List UInt8) × Unit) → Option ((Bool × Unit) × (Unit))) (h163 : FnOk Tryz.prog 163 ⟨[.val .str, .val .str], [.bool], F163⟩) : FnOk Tryz.prog 157 ⟨[.val (.list .str), .val (.int .i64), .val (.int .i64)], [], fun x => f157_I k F163 x.1 x.2.1 x.2.2.1⟩ :=
 (fn_ok (an := f157_an) (k := k) follows_mixed tys_ok ⟨look_fn (AllFn.cons h163 (AllFn.nil)), look_new AllNew.nil⟩ Tryz.func157 rfl rfl rfl).of (funext (f157_eq k F163))
/-! (joinlearn/limbs.Number).Compare -/
abbrev f156_cx (F189 : ((Bool × (List Int)) × (Bool × (List Int)) × Unit) → Option (((Bool × (List Int)) × Unit) × (Unit))) (F190 : ((Bool × (List Int)) × Unit) → Option ((Int × Unit) × (Unit))) : Cx := ⟨look tys, look [(189, ⟨[.val (.pair .bool (.list (.int .u64))), .val (.pair .bool (.list (.int .u64)))], [(.pair .bool (.list (.int .u64)))], F189⟩), (190, ⟨[.val (.pair .bool (.list (.int .u64)))], [(.int .i64)], F190⟩)], 9, look [], [], []⟩
def f156_an : Ann := ⟨look [], look []⟩
def f156_b (F189 : ((Bool × (List Int)) × (Bool × (List Int)) × Unit) → Option (((Bool × (List Int)) × Unit) × (Unit))) (F190 : ((Bool × (List Int)) × Unit) → Option ((Int × Unit) × (Unit)))  (a0 : (Bool × (List Int))) (a1 : (Bool × (List Int))) : Option ((Int × Unit) × (Unit)) :=
 Option.bind (F189 (a0, a1, ())) fun r1 =>
 Option.bind (F190 (r1.1.1, ())) fun r2 =>
 some ((r2.1.1, ()), ())
def f156_I (k : Nat) (F189 : ((Bool × (List Int)) × (Bool × (List Int)) × Unit) → Option (((Bool × (List Int)) × Unit) × (Unit))) (F190 : ((Bool × (List Int)) × Unit) → Option ((Int × Unit) × (Unit))) (a0 : (Bool × (List Int))) (a1 : (Bool × (List Int))) : Option ((Int × Unit) × (Unit)) := f156_b F189 F190 a0 a1
theorem f156_eq (k : Nat) (F189 : ((Bool × (List Int)) × (Bool × (List Int)) × Unit) → Option (((Bool × (List Int)) × Unit) × (Unit))) (F190 : ((Bool × (List Int)) × Unit) → Option ((Int × Unit) × (Unit))) (x : ((Bool × (List Int)) × (Bool × (List Int)) × Unit)) : vfun (f156_cx F189 F190) f156_an k Tryz.f156 [.val (.pair .bool (.list (.int .u64))), .val (.pair .bool (.list (.int .u64)))] [(.int .i64)] x = f156_I k F189 F190 x.1 x.2.1 := by kernel_rfl
theorem f156_ok (k : Nat) (F189 : ((Bool × (List Int)) × (Bool × (List Int)) × Unit) → Option (((Bool × (List Int)) × Unit) × (Unit))) (F190 : ((Bool × (List Int)) × Unit) → Option ((Int × Unit) × (Unit))) (h189 : FnOk Tryz.prog 189 ⟨[.val (.pair .bool (.list (.int .u64))), .val (.pair .bool (.list (.int .u64)))], [(.pair .bool (.list (.int .u64)))], F189⟩) (h190 : FnOk Tryz.prog 190 ⟨[.val (.pair .bool (.list (.int .u64)))], [(.int .i64)], F190⟩) : FnOk Tryz.prog 156 ⟨[.val (.pair .bool (.list (.int .u64))), .val (.pair .bool (.list (.int .u64)))], [(.int .i64)], fun x => f156_I k F189 F190 x.1 x.2.1⟩ :=
 (fn_ok (an := f156_an) (k := k) follows_mixed tys_ok ⟨look_fn (AllFn.cons h189 (AllFn.cons h190 (AllFn.nil))), look_new AllNew.nil⟩ Tryz.func156 rfl rfl rfl).of (funext (f156_eq k F189 F190))
/-! (joinlearn/limbs.Number).Mul -/
abbrev f155_cx (F188 : ((List Int) × (List Int) × Unit) → Option (((List Int) × Unit) × (Unit))) (F186 : (Bool × (List Int) × Unit) → Option (((Bool × (List Int)) × Unit) × (Unit))) : Cx := ⟨look tys, look [(188, ⟨[.val (.list (.int .u64)), .val (.list (.int .u64))], [(.list (.int .u64))], F188⟩), (186, ⟨[.val .bool, .val (.list (.int .u64))], [(.pair .bool (.list (.int .u64)))], F186⟩)], 16, look [], [], []⟩
def f155_an : Ann := ⟨look [], look []⟩
def f155_b (F188 : ((List Int) × (List Int) × Unit) → Option (((List Int) × Unit) × (Unit))) (F186 : (Bool × (List Int) × Unit) → Option (((Bool × (List Int)) × Unit) × (Unit)))  (a0 : (Bool × (List Int))) (a1 : (Bool × (List Int))) : Option (((Bool × (List Int)) × Unit) × (Unit)) :=
 Option.bind (F188 (a0.2, a1.2, ())) fun r1 =>
 Option.bind (F186 ((!(a0.1 == a1.1)), r1.1.1, ())) fun r2 =>
 some ((r2.1.1, ()), ())
def f155_I (k : Nat) (F188 : ((List Int) × (List Int) × Unit) → Option (((List Int) × Unit) × (Unit))) (F186 : (Bool × (List Int) × Unit) → Option (((Bool × (List Int)) × Unit) × (Unit))) (a0 : (Bool × (List Int))) (a1 : (Bool × (List Int))) : Option (((Bool × (List Int)) × Unit) × (Unit)) := f155_b F188 F186 a0 a1
theorem f155_eq (k : Nat) (F188 : ((List Int) × (List Int) × Unit) → Option (((List Int) × Unit) × (Unit))) (F186 : (Bool × (List Int) × Unit) → Option (((Bool × (List Int)) × Unit) × (Unit))) (x : ((Bool × (List Int)) × (Bool × (List Int)) × Unit)) : vfun (f155_cx F188 F186) f155_an k Tryz.f155 [.val (.pair .bool (.list (.int .u64))), .val (.pair .bool (.list (.int .u64)))] [(.pair .bool (.list (.int .u64)))] x = f155_I k F188 F186 x.1 x.2.1 := by kernel_rfl
theorem f155_ok (k : Nat) (F188 : ((List Int) × (List Int) × Unit) → Option (((List Int) × Unit) × (Unit))) (F186 : (Bool × (List Int) × Unit) → Option (((Bool × (List Int)) × Unit) × (Unit))) (h188 : FnOk Tryz.prog 188 ⟨[.val (.list (.int .u64)), .val (.list (.int .u64))], [(.list (.int .u64))], F188⟩) (h186 : FnOk Tryz.prog 186 ⟨[.val .bool, .val (.list (.int .u64))], [(.pair .bool (.list (.int .u64)))], F186⟩) : FnOk Tryz.prog 155 ⟨[.val (.pair .bool (.list (.int .u64))), .val (.pair .bool (.list (.int .u64)))], [(.pair .bool (.list (.int .u64)))], fun x => f155_I k F188 F186 x.1 x.2.1⟩ :=
 (fn_ok (an := f155_an) (k := k) follows_mixed tys_ok ⟨look_fn (AllFn.cons h188 (AllFn.cons h186 (AllFn.nil))), look_new AllNew.nil⟩ Tryz.func155 rfl rfl rfl).of (funext (f155_eq k F188 F186))
/-! joinlearn/limbs.Read -/
abbrev f154_cx (F184 : ((List UInt8) × (List UInt8) × Unit) → Option (((List UInt8) × Bool × Unit) × (Unit))) (F185 : ((List UInt8) × Int × Int × Unit) → Option ((Int × (Option (Nat × Bool)) × Unit) × (Unit))) (F187 : ((List Int) × Unit) → Option (((List Int) × Unit) × (Unit))) (F186 : (Bool × (List Int) × Unit) → Option (((Bool × (List Int)) × Unit) × (Unit))) : Cx := ⟨look tys, look [(184, ⟨[.val .str, .val .str], [.str, .bool], F184⟩), (185, ⟨[.val .str, .val (.int .i64), .val (.int .i64)], [(.int .u64), (.fn .bool)], F185⟩), (187, ⟨[.val (.list (.int .u64))], [(.list (.int .u64))], F187⟩), (186, ⟨[.val .bool, .val (.list (.int .u64))], [(.pair .bool (.list (.int .u64)))], F186⟩)], 38, look [], [], []⟩
def f154_an : Ann := ⟨look [(0, ⟨[2, 3, 4, 5, 6], [200, 202, 500], []⟩)], look []⟩
abbrev f154_Vl0 : Type := (List UInt8) × Bool × Int × Bool × (List Int) × (List Int)
def f154_Tl0 (v : f154_Vl0) : Nat → LV := tbl [(2, .c (.ptr 200 0 0)), (3, .c (.s .str v.1)), (4, .c (.s .bool v.2.1)), (5, .c (.own 500 0 .full)), (6, .c (.s (.int .i64) v.2.2.1))]
def f154_Hl0 (v : f154_Vl0) : Nat → Option VO := tblH [(200, some ⟨0, .cells [.s .bool v.2.2.2.1, .own 202 0 .full], false⟩), (202, some ⟨0, .row (.int .u64) v.2.2.2.2.1, false⟩), (500, some ⟨0, .row (.int .u64) v.2.2.2.2.2, false⟩)]

def f154_bl0 (F184 : ((List UInt8) × (List UInt8) × Unit) → Option (((List UInt8) × Bool × Unit) × (Unit))) (F185 : ((List UInt8) × Int × Int × Unit) → Option ((Int × (Option (Nat × Bool)) × Unit) × (Unit))) (F187 : ((List Int) × Unit) → Option (((List Int) × Unit) × (Unit))) (F186 : (Bool × (List Int) × Unit) → Option (((Bool × (List Int)) × Unit) × (Unit))) (Jl0 : f154_Vl0 → Option (((Bool × (List Int)) × Unit) × (Unit))) : f154_Vl0 → Option (((Bool × (List Int)) × Unit) × (Unit)) := fun (x2, x3, x4, x5, l6, l7) =>
 bif (decide (x4 > 0)) then (chk ((decide (0 ≤ (if (w64 (x4 - 9)) > 0 then (w64 (x4 - 9)) else 0))) && ((decide ((if (w64 (x4 - 9)) > 0 then (w64 (x4 - 9)) else 0) ≤ x4)) && (decide (x4.toNat ≤ x2.length)))) <|
 Option.bind (F185 (((x2.take x4.toNat).drop (if (w64 (x4 - 9)) > 0 then (w64 (x4 - 9)) else 0).toNat), 10, 64, ())) fun r8 =>
 chk (roomFor (l7.length + 1) 8) <|
 Jl0 (x2, x3, (w64 (x4 - 9)), x5, l6, (l7 ++ ([r8.1.1] : List Int))))
 else (Option.bind (F187 (l7, ())) fun r9 =>
 Option.bind (F186 (x3, r9.1.1, ())) fun r10 =>
 some ((r10.1.1, ()), ()))
def f154_b (F184 : ((List UInt8) × (List UInt8) × Unit) → Option (((List UInt8) × Bool × Unit) × (Unit))) (F185 : ((List UInt8) × Int × Int × Unit) → Option ((Int × (Option (Nat × Bool)) × Unit) × (Unit))) (F187 : ((List Int) × Unit) → Option (((List Int) × Unit) × (Unit))) (F186 : (Bool × (List Int) × Unit) → Option (((Bool × (List Int)) × Unit) × (Unit))) (Jl0 : f154_Vl0 → Option (((Bool × (List Int)) × Unit) × (Unit))) (a0 : (List UInt8)) : Option (((Bool × (List Int)) × Unit) × (Unit)) :=
 Option.bind (F184 (a0, ([45] : List UInt8), ())) fun r1 =>
 Jl0 (r1.1.1, r1.1.2.1, (r1.1.1.length : Int), false, ([] : List Int), ([] : List Int))
def f154_Ll0 (k : Nat) (F184 : ((List UInt8) × (List UInt8) × Unit) → Option (((List UInt8) × Bool × Unit) × (Unit))) (F185 : ((List UInt8) × Int × Int × Unit) → Option ((Int × (Option (Nat × Bool)) × Unit) × (Unit))) (F187 : ((List Int) × Unit) → Option (((List Int) × Unit) × (Unit))) (F186 : (Bool × (List Int) × Unit) → Option (((Bool × (List Int)) × Unit) × (Unit)))  : f154_Vl0 → Option (((Bool × (List Int)) × Unit) × (Unit)) := loopI (fun Jl0 => f154_bl0 F184 F185 F187 F186 Jl0) k
def f154_I (k : Nat) (F184 : ((List UInt8) × (List UInt8) × Unit) → Option (((List UInt8) × Bool × Unit) × (Unit))) (F185 : ((List UInt8) × Int × Int × Unit) → Option ((Int × (Option (Nat × Bool)) × Unit) × (Unit))) (F187 : ((List Int) × Unit) → Option (((List Int) × Unit) × (Unit))) (F186 : (Bool × (List Int) × Unit) → Option (((Bool × (List Int)) × Unit) × (Unit))) (a0 : (List UInt8)) : Option (((Bool × (List Int)) × Unit) × (Unit)) := f154_b F184 F185 F187 F186 (f154_Ll0 k F184 F185 F187 F186) a0
theorem f154_el0 (k : Nat) (F184 : ((List UInt8) × (List UInt8) × Unit) → Option (((List UInt8) × Bool × Unit) × (Unit))) (F185 : ((List UInt8) × Int × Int × Unit) → Option ((Int × (Option (Nat × Bool)) × Unit) × (Unit))) (F187 : ((List Int) × Unit) → Option (((List Int) × Unit) × (Unit))) (F186 : (Bool × (List Int) × Unit) → Option (((Bool × (List Int)) × Unit) × (Unit))) (Al0 : Jump (((Bool × (List Int)) × Unit) × (Unit))) (v : f154_Vl0) : rawBody (f154_cx F184 F185 F187 F186) f154_an k (bodyOf Tryz.f154) [1, 1, 1, 0, 1, 0] [] (vend (f154_cx F184 F185 F187 F186) Tryz.f154 [.val .str] [(.pair .bool (.list (.int .u64)))]) Al0 (f154_Tl0 v) (f154_Hl0 v) =
 f154_bl0 F184 F185 F187 F186 (fun v => Al0 (f154_Tl0 v) (f154_Hl0 v)) v := by kernel_rfl
theorem f154_ll0 (k : Nat) (F184 : ((List UInt8) × (List UInt8) × Unit) → Option (((List UInt8) × Bool × Unit) × (Unit))) (F185 : ((List UInt8) × Int × Int × Unit) → Option ((Int × (Option (Nat × Bool)) × Unit) × (Unit))) (F187 : ((List Int) × Unit) → Option (((List Int) × Unit) × (Unit))) (F186 : (Bool × (List Int) × Unit) → Option (((Bool × (List Int)) × Unit) × (Unit))) (v : f154_Vl0) : rawLoop (f154_cx F184 F185 F187 F186) f154_an k (bodyOf Tryz.f154) [1, 1, 1, 0, 1, 0] [] (vend (f154_cx F184 F185 F187 F186) Tryz.f154 [.val .str] [(.pair .bool (.list (.int .u64)))]) k (f154_Tl0 v) (f154_Hl0 v) = f154_Ll0 k F184 F185 F187 F186 v :=
 rawLoop_eq (bI := fun Jl0 => f154_bl0 F184 F185 F187 F186 Jl0) f154_Tl0 f154_Hl0 (fun Al0 v => (f154_el0 k F184 F185 F187 F186 Al0 v)) k v
theorem f154_e (k : Nat) (F184 : ((List UInt8) × (List UInt8) × Unit) → Option (((List UInt8) × Bool × Unit) × (Unit))) (F185 : ((List UInt8) × Int × Int × Unit) → Option ((Int × (Option (Nat × Bool)) × Unit) × (Unit))) (F187 : ((List Int) × Unit) → Option (((List Int) × Unit) × (Unit))) (F186 : (Bool × (List Int) × Unit) → Option (((Bool × (List Int)) × Unit) × (Unit))) (x : ((List UInt8) × Unit)) : vfun (f154_cx F184 F185 F187 F186) f154_an k Tryz.f154 [.val .str] [(.pair .bool (.list (.int .u64)))] x =
 f154_b F184 F185 F187 F186 (fun v => rawLoop (f154_cx F184 F185 F187 F186) f154_an k (bodyOf Tryz.f154) [1, 1, 1, 0, 1, 0] [] (vend (f154_cx F184 F185 F187 F186) Tryz.f154 [.val .str] [(.pair .bool (.list (.int .u64)))]) k (f154_Tl0 v) (f154_Hl0 v)) x.1 := by kernel_rfl
theorem f154_eq (k : Nat) (F184 : ((List UInt8) × (List UInt8) × Unit) → Option (((List UInt8) × Bool × Unit) × (Unit))) (F185 : ((List UInt8) × Int × Int × Unit) → Option ((Int × (Option (Nat × Bool)) × Unit) × (Unit))) (F187 : ((List Int) × Unit) → Option (((List Int) × Unit) × (Unit))) (F186 : (Bool × (List Int) × Unit) → Option (((Bool × (List Int)) × Unit) × (Unit))) (x : ((List UInt8) × Unit)) : vfun (f154_cx F184 F185 F187 F186) f154_an k Tryz.f154 [.val .str] [(.pair .bool (.list (.int .u64)))] x = f154_I k F184 F185 F187 F186 x.1 :=
 ((f154_e k F184 F185 F187 F186 x).trans (congrArg (fun (J : f154_Vl0 → Option (((Bool × (List Int)) × Unit) × (Unit))) => f154_b F184 F185 F187 F186 J x.1) (funext (f154_ll0 k F184 F185 F187 F186))))
theorem f154_ok (k : Nat) (F184 : ((List UInt8) × (List UInt8) × Unit) → Option (((List UInt8) × Bool × Unit) × (Unit))) (F185 : ((List UInt8) × Int × Int × Unit) → Option ((Int × (Option (Nat × Bool)) × Unit) × (Unit))) (F187 : ((List Int) × Unit) → Option (((List Int) × Unit) × (Unit))) (F186 : (Bool × (List Int) × Unit) → Option (((Bool × (List Int)) × Unit) × (Unit))) (h184 : FnOk Tryz.prog 184 ⟨[.val .str, .val .str], [.str, .bool], F184⟩) (h185 : FnOk Tryz.prog 185 ⟨[.val .str, .val (.int .i64), .val (.int .i64)], [(.int .u64), (.fn .bool)], F185⟩) (h187 : FnOk Tryz.prog 187 ⟨[.val (.list (.int .u64))], [(.list (.int .u64))], F187⟩) (h186 : FnOk Tryz.prog 186 ⟨[.val .bool, .val (.list (.int .u64))], [(.pair .bool (.list (.int .u64)))], F186⟩) : FnOk Tryz.prog 154 ⟨[.val .str], [(.pair .bool (.list (.int .u64)))], fun x => f154_I k F184 F185 F187 F186 x.1⟩ :=
 (fn_ok (an := f154_an) (k := k) follows_mixed tys_ok ⟨look_fn (AllFn.cons h184 (AllFn.cons h185 (AllFn.cons h187 (AllFn.cons h186 (AllFn.nil))))), look_new AllNew.nil⟩ Tryz.func154 rfl rfl rfl).of (funext (f154_eq k F184 F185 F187 F186))
/-! joinlearn/rational.valid$1 -/
abbrev f153_cx (F142 : ((List UInt8) × Unit) → Option ((Bool × Unit) × (Unit))) : Cx := ⟨look tys, look [(142, ⟨[.val .str], [.bool], F142⟩)], 6, look [], [], []⟩
def f153_an : Ann := ⟨look [], look []⟩
def f153_b (F142 : ((List UInt8) × Unit) → Option ((Bool × Unit) × (Unit)))  (a0 : (List UInt8)) : Option ((Bool × Unit) × (Unit)) :=
 Option.bind (F142 (a0, ())) fun r1 =>
 some (((!r1.1.1), ()), ())
def f153_I (k : Nat) (F142 : ((List UInt8) × Unit) → Option ((Bool × Unit) × (Unit))) (a0 : (List UInt8)) : Option ((Bool × Unit) × (Unit)) := f153_b F142 a0
theorem f153_eq (k : Nat) (F142 : ((List UInt8) × Unit) → Option ((Bool × Unit) × (Unit))) (x : ((List UInt8) × Unit)) : vfun (f153_cx F142) f153_an k Tryz.f153 [.val .str] [.bool] x = f153_I k F142 x.1 := by kernel_rfl
theorem f153_ok (k : Nat) (F142 : ((List UInt8) × Unit) → Option ((Bool × Unit) × (Unit))) (h142 : FnOk Tryz.prog 142 ⟨[.val .str], [.bool], F142⟩) : FnOk Tryz.prog 153 ⟨[.val .str], [.bool], fun x => f153_I k F142 x.1⟩ :=
 (fn_ok (an := f153_an) (k := k) follows_mixed tys_ok ⟨look_fn (AllFn.cons h142 (AllFn.nil)), look_new AllNew.nil⟩ Tryz.func153 rfl rfl rfl).of (funext (f153_eq k F142))
/-! slices.ContainsFunc[[]joinlearn/api.Rat,joinlearn/api.Rat] -/
abbrev f152_cx (F183 : ((List (List UInt8)) × (Option (Nat × Unit)) × Unit) → Option ((Int × Unit) × (Unit))) : Cx := ⟨look tys, look [(183, ⟨[.val (.list .str), .val (.fn .unit)], [(.int .i64)], F183⟩)], 9, look [], [], []⟩
def f152_an : Ann := ⟨look [], look []⟩
def f152_b (F183 : ((List (List UInt8)) × (Option (Nat × Unit)) × Unit) → Option ((Int × Unit) × (Unit)))  (a0 : (List (List UInt8))) (a1 : (Option (Nat × Unit))) : Option ((Bool × Unit) × (Unit)) :=
 Option.bind (F183 (a0, a1, ())) fun r1 =>
 some (((decide (r1.1.1 ≥ 0)), ()), ())
def f152_I (k : Nat) (F183 : ((List (List UInt8)) × (Option (Nat × Unit)) × Unit) → Option ((Int × Unit) × (Unit))) (a0 : (List (List UInt8))) (a1 : (Option (Nat × Unit))) : Option ((Bool × Unit) × (Unit)) := f152_b F183 a0 a1
theorem f152_eq (k : Nat) (F183 : ((List (List UInt8)) × (Option (Nat × Unit)) × Unit) → Option ((Int × Unit) × (Unit))) (x : ((List (List UInt8)) × (Option (Nat × Unit)) × Unit)) : vfun (f152_cx F183) f152_an k Tryz.f152 [.val (.list .str), .val (.fn .unit)] [.bool] x = f152_I k F183 x.1 x.2.1 := by kernel_rfl
theorem f152_ok (k : Nat) (F183 : ((List (List UInt8)) × (Option (Nat × Unit)) × Unit) → Option ((Int × Unit) × (Unit))) (h183 : FnOk Tryz.prog 183 ⟨[.val (.list .str), .val (.fn .unit)], [(.int .i64)], F183⟩) : FnOk Tryz.prog 152 ⟨[.val (.list .str), .val (.fn .unit)], [.bool], fun x => f152_I k F183 x.1 x.2.1⟩ :=
 (fn_ok (an := f152_an) (k := k) follows_mixed tys_ok ⟨look_fn (AllFn.cons h183 (AllFn.nil)), look_new AllNew.nil⟩ Tryz.func152 rfl rfl rfl).of (funext (f152_eq k F183))
/-! (joinlearn/joinlearnref01.Big).Add -/
abbrev f151_cx (F182 : ((List Int) × (List Int) × Unit) → Option (((List Int) × Unit) × (Unit))) (F136 : ((Bool × (List Int)) × Unit) → Option (((Bool × (List Int)) × Unit) × (Unit))) (F138 : ((List Int) × (List Int) × Unit) → Option ((Int × Unit) × (Unit))) (F181 : ((List Int) × (List Int) × Unit) → Option (((List Int) × Unit) × (Unit))) : Cx := ⟨look tys, look [(182, ⟨[.val (.list (.int .i64)), .val (.list (.int .i64))], [(.list (.int .i64))], F182⟩), (136, ⟨[.val (.pair .bool (.list (.int .i64)))], [(.pair .bool (.list (.int .i64)))], F136⟩), (138, ⟨[.val (.list (.int .i64)), .val (.list (.int .i64))], [(.int .i64)], F138⟩), (181, ⟨[.val (.list (.int .i64)), .val (.list (.int .i64))], [(.list (.int .i64))], F181⟩)], 43, look [], [], []⟩
def f151_an : Ann := ⟨look [], look []⟩
def f151_b (F182 : ((List Int) × (List Int) × Unit) → Option (((List Int) × Unit) × (Unit))) (F136 : ((Bool × (List Int)) × Unit) → Option (((Bool × (List Int)) × Unit) × (Unit))) (F138 : ((List Int) × (List Int) × Unit) → Option ((Int × Unit) × (Unit))) (F181 : ((List Int) × (List Int) × Unit) → Option (((List Int) × Unit) × (Unit)))  (a0 : (Bool × (List Int))) (a1 : (Bool × (List Int))) : Option (((Bool × (List Int)) × Unit) × (Unit)) :=
 bif (a0.1 == a1.1) then (Option.bind (F182 (a0.2, a1.2, ())) fun r1 =>
 Option.bind (F136 ((a0.1, r1.1.1), ())) fun r2 =>
 some ((r2.1.1, ()), ()))
 else (Option.bind (F138 (a0.2, a1.2, ())) fun r3 =>
 bif (decide (r3.1.1 ≥ 0)) then (Option.bind (F181 (a0.2, a1.2, ())) fun r4 =>
 Option.bind (F136 ((a0.1, r4.1.1), ())) fun r5 =>
 some ((r5.1.1, ()), ()))
 else (Option.bind (F181 (a1.2, a0.2, ())) fun r6 =>
 Option.bind (F136 ((a1.1, r6.1.1), ())) fun r7 =>
 some ((r7.1.1, ()), ())))
def f151_I (k : Nat) (F182 : ((List Int) × (List Int) × Unit) → Option (((List Int) × Unit) × (Unit))) (F136 : ((Bool × (List Int)) × Unit) → Option (((Bool × (List Int)) × Unit) × (Unit))) (F138 : ((List Int) × (List Int) × Unit) → Option ((Int × Unit) × (Unit))) (F181 : ((List Int) × (List Int) × Unit) → Option (((List Int) × Unit) × (Unit))) (a0 : (Bool × (List Int))) (a1 : (Bool × (List Int))) : Option (((Bool × (List Int)) × Unit) × (Unit)) := f151_b F182 F136 F138 F181 a0 a1
theorem f151_eq (k : Nat) (F182 : ((List Int) × (List Int) × Unit) → Option (((List Int) × Unit) × (Unit))) (F136 : ((Bool × (List Int)) × Unit) → Option (((Bool × (List Int)) × Unit) × (Unit))) (F138 : ((List Int) × (List Int) × Unit) → Option ((Int × Unit) × (Unit))) (F181 : ((List Int) × (List Int) × Unit) → Option (((List Int) × Unit) × (Unit))) (x : ((Bool × (List Int)) × (Bool × (List Int)) × Unit)) : vfun (f151_cx F182 F136 F138 F181) f151_an k Tryz.f151 [.val (.pair .bool (.list (.int .i64))), .val (.pair .bool (.list (.int .i64)))] [(.pair .bool (.list (.int .i64)))] x = f151_I k F182 F136 F138 F181 x.1 x.2.1 := by kernel_rfl
theorem f151_ok (k : Nat) (F182 : ((List Int) × (List Int) × Unit) → Option (((List Int) × Unit) × (Unit))) (F136 : ((Bool × (List Int)) × Unit) → Option (((Bool × (List Int)) × Unit) × (Unit))) (F138 : ((List Int) × (List Int) × Unit) → Option ((Int × Unit) × (Unit))) (F181 : ((List Int) × (List Int) × Unit) → Option (((List Int) × Unit) × (Unit))) (h182 : FnOk Tryz.prog 182 ⟨[.val (.list (.int .i64)), .val (.list (.int .i64))], [(.list (.int .i64))], F182⟩) (h136 : FnOk Tryz.prog 136 ⟨[.val (.pair .bool (.list (.int .i64)))], [(.pair .bool (.list (.int .i64)))], F136⟩) (h138 : FnOk Tryz.prog 138 ⟨[.val (.list (.int .i64)), .val (.list (.int .i64))], [(.int .i64)], F138⟩) (h181 : FnOk Tryz.prog 181 ⟨[.val (.list (.int .i64)), .val (.list (.int .i64))], [(.list (.int .i64))], F181⟩) : FnOk Tryz.prog 151 ⟨[.val (.pair .bool (.list (.int .i64))), .val (.pair .bool (.list (.int .i64)))], [(.pair .bool (.list (.int .i64)))], fun x => f151_I k F182 F136 F138 F181 x.1 x.2.1⟩ :=
 (fn_ok (an := f151_an) (k := k) follows_mixed tys_ok ⟨look_fn (AllFn.cons h182 (AllFn.cons h136 (AllFn.cons h138 (AllFn.cons h181 (AllFn.nil))))), look_new AllNew.nil⟩ Tryz.func151 rfl rfl rfl).of (funext (f151_eq k F182 F136 F138 F181))
/-! (joinlearn/joinlearnref01.Big).Minus -/
abbrev f150_cx : Cx := ⟨look tys, look [], 14, look [], [], []⟩
def f150_an : Ann := ⟨look [], look []⟩
def f150_b  (a0 : (Bool × (List Int))) : Option (((Bool × (List Int)) × Unit) × (Unit)) :=
 bif (!a0.1) then (some ((((decide ((a0.2.length : Int) > 0)), a0.2), ()), ()))
 else (some (((false, a0.2), ()), ()))
def f150_I (k : Nat) (a0 : (Bool × (List Int))) : Option (((Bool × (List Int)) × Unit) × (Unit)) := f150_b a0
theorem f150_eq (k : Nat) (x : ((Bool × (List Int)) × Unit)) : vfun (f150_cx) f150_an k Tryz.f150 [.val (.pair .bool (.list (.int .i64)))] [(.pair .bool (.list (.int .i64)))] x = f150_I k x.1 := by kernel_rfl
theorem f150_ok (k : Nat) : FnOk Tryz.prog 150 ⟨[.val (.pair .bool (.list (.int .i64)))], [(.pair .bool (.list (.int .i64)))], fun x => f150_I k x.1⟩ :=
 (fn_ok (an := f150_an) (k := k) follows_mixed tys_ok ⟨look_fn AllFn.nil, look_new AllNew.nil⟩ Tryz.func150 rfl rfl rfl).of (funext (f150_eq k))
end Go.JL
