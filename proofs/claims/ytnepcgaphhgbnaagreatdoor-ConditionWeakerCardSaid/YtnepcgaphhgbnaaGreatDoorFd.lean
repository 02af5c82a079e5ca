/- Functions of the program as plain Lean functions. Printed by a program of mine; checked by the kernel. -/
import Derived.Test.YtnepcgaphhgbnaaGreatDoorFa
set_option linter.unusedVariables false
set_option maxRecDepth 100000
namespace Go.JL
open Go.Proofs
/-! slices.Index[[]string,string] -/
abbrev f197_cx : Cx := ⟨look tys, look [], 19, look [], [], []⟩
def f197_an : Ann := ⟨look [(0, ⟨[0, 1, 7, 8], [], []⟩)], look []⟩
abbrev f197_Vl0 : Type := (List (List UInt8)) × (List UInt8) × Int × Int
def f197_Tl0 (v : f197_Vl0) : Nat → LV := tbl [(0, .c (.s (.list .str) v.1)), (1, .c (.s .str v.2.1)), (7, .c (.s (.int .i64) v.2.2.1)), (8, .c (.s (.int .i64) v.2.2.2))]
def f197_Hl0 (v : f197_Vl0) : Nat → Option VO := tblH []

def f197_bl0 (Jl0 : f197_Vl0 → Option ((Int × Unit) × (Unit))) : f197_Vl0 → Option ((Int × Unit) × (Unit)) := fun (x1, x2, x3, x4) =>
 bif (decide (x4 < x3)) then (rd x1 x4 fun y5 =>
 bif (x2 == y5) then (some ((x4, ()), ()))
 else (Jl0 (x1, x2, x3, (w64 (x4 + 1)))))
 else (some (((-1), ()), ()))
def f197_b (Jl0 : f197_Vl0 → Option ((Int × Unit) × (Unit))) (a0 : (List (List UInt8))) (a1 : (List UInt8)) : Option ((Int × Unit) × (Unit)) :=
 Jl0 (a0, a1, (a0.length : Int), 0)
def f197_Ll0 (k : Nat)  : f197_Vl0 → Option ((Int × Unit) × (Unit)) := loopI (fun Jl0 => f197_bl0 Jl0) k
def f197_I (k : Nat) (a0 : (List (List UInt8))) (a1 : (List UInt8)) : Option ((Int × Unit) × (Unit)) := f197_b (f197_Ll0 k) a0 a1
theorem f197_el0 (k : Nat) (Al0 : Jump ((Int × Unit) × (Unit))) (v : f197_Vl0) : rawBody (f197_cx) f197_an k (bodyOf Tryz.f197) [1, 0, 1, 0] [] (vend (f197_cx) Tryz.f197 [.val (.list .str), .val .str] [(.int .i64)]) Al0 (f197_Tl0 v) (f197_Hl0 v) =
 f197_bl0 (fun v => Al0 (f197_Tl0 v) (f197_Hl0 v)) v := by kernel_rfl
theorem f197_ll0 (k : Nat) (v : f197_Vl0) : rawLoop (f197_cx) f197_an k (bodyOf Tryz.f197) [1, 0, 1, 0] [] (vend (f197_cx) Tryz.f197 [.val (.list .str), .val .str] [(.int .i64)]) k (f197_Tl0 v) (f197_Hl0 v) = f197_Ll0 k v :=
 rawLoop_eq (bI := fun Jl0 => f197_bl0 Jl0) f197_Tl0 f197_Hl0 (fun Al0 v => (f197_el0 k Al0 v)) k v
theorem f197_e (k : Nat) (x : ((List (List UInt8)) × (List UInt8) × Unit)) : vfun (f197_cx) f197_an k Tryz.f197 [.val (.list .str), .val .str] [(.int .i64)] x =
 f197_b (fun v => rawLoop (f197_cx) f197_an k (bodyOf Tryz.f197) [1, 0, 1, 0] [] (vend (f197_cx) Tryz.f197 [.val (.list .str), .val .str] [(.int .i64)]) k (f197_Tl0 v) (f197_Hl0 v)) x.1 x.2.1 := by kernel_rfl
theorem f197_eq (k : Nat) (x : ((List (List UInt8)) × (List UInt8) × Unit)) : vfun (f197_cx) f197_an k Tryz.f197 [.val (.list .str), .val .str] [(.int .i64)] x = f197_I k x.1 x.2.1 :=
 ((f197_e k x).trans (congrArg (fun (J : f197_Vl0 → Option ((Int × Unit) × (Unit))) => f197_b J x.1 x.2.1) (funext (f197_ll0 k))))
theorem f197_ok (k : Nat) : FnOk Tryz.prog 197 ⟨[.val (.list .str), .val .str], [(.int .i64)], fun x => f197_I k x.1 x.2.1⟩ :=
 (fn_ok (an := f197_an) (k := k) follows_mixed tys_ok ⟨look_fn AllFn.nil, look_new AllNew.nil⟩ Tryz.func197 rfl rfl rfl).of (funext (f197_eq k))
/-! cmp.isNaN[string] -/
abbrev f196_cx : Cx := ⟨look tys, look [], 6, look [], [], []⟩
def f196_an : Ann := ⟨look [], look []⟩
def f196_b  (a0 : (List UInt8)) : Option ((Bool × Unit) × (Unit)) :=
 some (((!(a0 == a0)), ()), ())
def f196_I (k : Nat) (a0 : (List UInt8)) : Option ((Bool × Unit) × (Unit)) := f196_b a0
theorem f196_eq (k : Nat) (x : ((List UInt8) × Unit)) : vfun (f196_cx) f196_an k Tryz.f196 [.val .str] [.bool] x = f196_I k x.1 := by kernel_rfl
theorem f196_ok (k : Nat) : FnOk Tryz.prog 196 ⟨[.val .str], [.bool], fun x => f196_I k x.1⟩ :=
 (fn_ok (an := f196_an) (k := k) follows_mixed tys_ok ⟨look_fn AllFn.nil, look_new AllNew.nil⟩ Tryz.func196 rfl rfl rfl).of (funext (f196_eq k))
/-! (joinlearn/limbs.Number).Sign -/
abbrev f190_cx : Cx := ⟨look tys, look [], 11, look [], [], []⟩
def f190_an : Ann := ⟨look [], look []⟩
def f190_b  (a0 : (Bool × (List Int))) : Option ((Int × Unit) × (Unit)) :=
 bif a0.1 then (some (((-1), ()), ()))
 else (bif (decide ((a0.2.length : Int) > 0)) then (some ((1, ()), ()))
 else (some ((0, ()), ())))
def f190_I (k : Nat) (a0 : (Bool × (List Int))) : Option ((Int × Unit) × (Unit)) := f190_b a0
theorem f190_eq (k : Nat) (x : ((Bool × (List Int)) × Unit)) : vfun (f190_cx) f190_an k Tryz.f190 [.val (.pair .bool (.list (.int .u64)))] [(.int .i64)] x = f190_I k x.1 := by kernel_rfl
theorem f190_ok (k : Nat) : FnOk Tryz.prog 190 ⟨[.val (.pair .bool (.list (.int .u64)))], [(.int .i64)], fun x => f190_I k x.1⟩ :=
 (fn_ok (an := f190_an) (k := k) follows_mixed tys_ok ⟨look_fn AllFn.nil, look_new AllNew.nil⟩ Tryz.func190 rfl rfl rfl).of (funext (f190_eq k))
/-! (joinlearn/limbs.Number).Sub -/
abbrev f189_cx (F206 : ((Bool × (List Int)) × Unit) → Option (((Bool × (List Int)) × Unit) × (Unit))) (F205 : ((Bool × (List Int)) × (Bool × (List Int)) × Unit) → Option (((Bool × (List Int)) × Unit) × (Unit))) : Cx := ⟨look tys, look [(206, ⟨[.val (.pair .bool (.list (.int .u64)))], [(.pair .bool (.list (.int .u64)))], F206⟩), (205, ⟨[.val (.pair .bool (.list (.int .u64))), .val (.pair .bool (.list (.int .u64)))], [(.pair .bool (.list (.int .u64)))], F205⟩)], 9, look [], [], []⟩
def f189_an : Ann := ⟨look [], look []⟩
def f189_b (F206 : ((Bool × (List Int)) × Unit) → Option (((Bool × (List Int)) × Unit) × (Unit))) (F205 : ((Bool × (List Int)) × (Bool × (List Int)) × Unit) → Option (((Bool × (List Int)) × Unit) × (Unit)))  (a0 : (Bool × (List Int))) (a1 : (Bool × (List Int))) : Option (((Bool × (List Int)) × Unit) × (Unit)) :=
 Option.bind (F206 (a1, ())) fun r1 =>
 Option.bind (F205 (a0, r1.1.1, ())) fun r2 =>
 some ((r2.1.1, ()), ())
def f189_I (k : Nat) (F206 : ((Bool × (List Int)) × Unit) → Option (((Bool × (List Int)) × Unit) × (Unit))) (F205 : ((Bool × (List Int)) × (Bool × (List Int)) × Unit) → Option (((Bool × (List Int)) × Unit) × (Unit))) (a0 : (Bool × (List Int))) (a1 : (Bool × (List Int))) : Option (((Bool × (List Int)) × Unit) × (Unit)) := f189_b F206 F205 a0 a1
theorem f189_eq (k : Nat) (F206 : ((Bool × (List Int)) × Unit) → Option (((Bool × (List Int)) × Unit) × (Unit))) (F205 : ((Bool × (List Int)) × (Bool × (List Int)) × Unit) → Option (((Bool × (List Int)) × Unit) × (Unit))) (x : ((Bool × (List Int)) × (Bool × (List Int)) × Unit)) : vfun (f189_cx F206 F205) f189_an k Tryz.f189 [.val (.pair .bool (.list (.int .u64))), .val (.pair .bool (.list (.int .u64)))] [(.pair .bool (.list (.int .u64)))] x = f189_I k F206 F205 x.1 x.2.1 := by kernel_rfl
theorem f189_ok (k : Nat) (F206 : ((Bool × (List Int)) × Unit) → Option (((Bool × (List Int)) × Unit) × (Unit))) (F205 : ((Bool × (List Int)) × (Bool × (List Int)) × Unit) → Option (((Bool × (List Int)) × Unit) × (Unit))) (h206 : FnOk Tryz.prog 206 ⟨[.val (.pair .bool (.list (.int .u64)))], [(.pair .bool (.list (.int .u64)))], F206⟩) (h205 : FnOk Tryz.prog 205 ⟨[.val (.pair .bool (.list (.int .u64))), .val (.pair .bool (.list (.int .u64)))], [(.pair .bool (.list (.int .u64)))], F205⟩) : FnOk Tryz.prog 189 ⟨[.val (.pair .bool (.list (.int .u64))), .val (.pair .bool (.list (.int .u64)))], [(.pair .bool (.list (.int .u64)))], fun x => f189_I k F206 F205 x.1 x.2.1⟩ :=
 (fn_ok (an := f189_an) (k := k) follows_mixed tys_ok ⟨look_fn (AllFn.cons h206 (AllFn.cons h205 (AllFn.nil))), look_new AllNew.nil⟩ Tryz.func189 rfl rfl rfl).of (funext (f189_eq k F206 F205))
/-! (joinlearn/limbs.natural).mul -/
abbrev f188_cx (F187 : ((List Int) × Unit) → Option (((List Int) × Unit) × (Unit))) : Cx := ⟨look tys, look [(187, ⟨[.val (.list (.int .u64))], [(.list (.int .u64))], F187⟩)], 67, look [], [], []⟩
def f188_an : Ann := ⟨look [(0, ⟨[1, 5, 18, 19, 20], [1700], []⟩), (2, ⟨[1, 5, 6, 7, 8, 18, 19, 20, 25, 26, 27], [1700], []⟩)], look []⟩
abbrev f188_Vl0 : Type := (List Int) × (List Int) × Int × Int × (List Int)
def f188_Tl0 (v : f188_Vl0) : Nat → LV := tbl [(1, .c (.s (.list (.int .u64)) v.1)), (5, .c (.own 1700 0 .full)), (18, .c (.s (.list (.int .u64)) v.2.1)), (19, .c (.s (.int .i64) v.2.2.1)), (20, .c (.s (.int .i64) v.2.2.2.1))]
def f188_Hl0 (v : f188_Vl0) : Nat → Option VO := tblH [(1700, some ⟨0, .row (.int .u64) v.2.2.2.2, false⟩)]

abbrev f188_Vl2 : Type := (List Int) × Int × Int × Int × (List Int) × Int × Int × (List Int) × Int × Int × (List Int)
def f188_Tl2 (v : f188_Vl2) : Nat → LV := tbl [(1, .c (.s (.list (.int .u64)) v.1)), (5, .c (.own 1700 0 .full)), (6, .c (.s (.int .i64) v.2.1)), (7, .c (.s (.int .u64) v.2.2.1)), (8, .c (.s (.int .u64) v.2.2.2.1)), (18, .c (.s (.list (.int .u64)) v.2.2.2.2.1)), (19, .c (.s (.int .i64) v.2.2.2.2.2.1)), (20, .c (.s (.int .i64) v.2.2.2.2.2.2.1)), (25, .c (.s (.list (.int .u64)) v.2.2.2.2.2.2.2.1)), (26, .c (.s (.int .i64) v.2.2.2.2.2.2.2.2.1)), (27, .c (.s (.int .i64) v.2.2.2.2.2.2.2.2.2.1))]
def f188_Hl2 (v : f188_Vl2) : Nat → Option VO := tblH [(1700, some ⟨0, .row (.int .u64) v.2.2.2.2.2.2.2.2.2.2, false⟩)]

def f188_bl0 (F187 : ((List Int) × Unit) → Option (((List Int) × Unit) × (Unit))) (Jl2 : f188_Vl2 → Option (((List Int) × Unit) × (Unit))) : f188_Vl0 → Option (((List Int) × Unit) × (Unit)) := fun (x1, x2, x3, x4, l5) =>
 bif (decide (x4 < x3)) then (rd x2 x4 fun y6 =>
 Jl2 (x1, x4, y6, 0, x2, x3, x4, x1, (x1.length : Int), 0, l5))
 else (Option.bind (F187 (l5, ())) fun r18 =>
 some ((r18.1.1, ()), ()))
def f188_bl2 (F187 : ((List Int) × Unit) → Option (((List Int) × Unit) × (Unit))) (Jl0 : f188_Vl0 → Option (((List Int) × Unit) × (Unit))) (Jl2 : f188_Vl2 → Option (((List Int) × Unit) × (Unit))) : f188_Vl2 → Option (((List Int) × Unit) × (Unit)) := fun (x7, x8, x9, x10, x11, x12, x13, x14, x15, x16, l17) =>
 bif (decide (x16 < x15)) then (rd x14 x16 fun y19 =>
 chk (decide (0 ≤ (w64 (x8 + x16)))) <|
 chk (decide ((w64 (x8 + x16)).toNat < l17.length)) <|
 Option.bind l17[(w64 (x8 + x16)).toNat]? fun y20 =>
 chk (decide (0 ≤ (w64 (x8 + x16)))) <|
 chk (decide ((w64 (x8 + x16)).toNat < l17.length)) <|
 Option.bind l17[(w64 (x8 + x16)).toNat]? fun y21 =>
 Jl2 (x7, x8, x9, (IntKind.wrap .u64 ((IntKind.wrap .u64 ((IntKind.wrap .u64 (y20 + (IntKind.wrap .u64 (x9 * y19)))) + x10)).tdiv 1000000000)), x11, x12, x13, x14, x15, (w64 (x16 + 1)), (l17.set (w64 (x8 + x16)).toNat ((IntKind.wrap .u64 ((IntKind.wrap .u64 (y20 + (IntKind.wrap .u64 (x9 * y19)))) + x10)).tmod 1000000000))))
 else (chk (decide (0 ≤ (w64 (x8 + (x7.length : Int))))) <|
 chk (decide ((w64 (x8 + (x7.length : Int))).toNat < l17.length)) <|
 Option.bind l17[(w64 (x8 + (x7.length : Int))).toNat]? fun y22 =>
 chk (decide (0 ≤ (w64 (x8 + (x7.length : Int))))) <|
 chk (decide ((w64 (x8 + (x7.length : Int))).toNat < l17.length)) <|
 Option.bind l17[(w64 (x8 + (x7.length : Int))).toNat]? fun y23 =>
 Jl0 (x7, x11, x12, (w64 (x13 + 1)), (l17.set (w64 (x8 + (x7.length : Int))).toNat (IntKind.wrap .u64 (y22 + x10)))))
def f188_b (F187 : ((List Int) × Unit) → Option (((List Int) × Unit) × (Unit))) (Jl0 : f188_Vl0 → Option (((List Int) × Unit) × (Unit))) (a0 : (List Int)) (a1 : (List Int)) : Option (((List Int) × Unit) × (Unit)) :=
 chk ((decide (0 ≤ (w64 ((a0.length : Int) + (a1.length : Int))))) && (decide (8 * (w64 ((a0.length : Int) + (a1.length : Int))).toNat ≤ 140737488355328))) <|
 Jl0 (a1, a0, (a0.length : Int), 0, (List.replicate (w64 ((a0.length : Int) + (a1.length : Int))).toNat (0 : Int)))
def f188_Ll2 (k : Nat) (F187 : ((List Int) × Unit) → Option (((List Int) × Unit) × (Unit))) (Jl0 : f188_Vl0 → Option (((List Int) × Unit) × (Unit))) : f188_Vl2 → Option (((List Int) × Unit) × (Unit)) := loopI (fun Jl2 => f188_bl2 F187 Jl0 Jl2) k
def f188_Ll0 (k : Nat) (F187 : ((List Int) × Unit) → Option (((List Int) × Unit) × (Unit)))  : f188_Vl0 → Option (((List Int) × Unit) × (Unit)) := loopI (fun Jl0 => f188_bl0 F187 (f188_Ll2 k F187 Jl0)) k
def f188_I (k : Nat) (F187 : ((List Int) × Unit) → Option (((List Int) × Unit) × (Unit))) (a0 : (List Int)) (a1 : (List Int)) : Option (((List Int) × Unit) × (Unit)) := f188_b F187 (f188_Ll0 k F187) a0 a1
theorem f188_el2 (k : Nat) (F187 : ((List Int) × Unit) → Option (((List Int) × Unit) × (Unit))) (Al0 : Jump (((List Int) × Unit) × (Unit))) (Al2 : Jump (((List Int) × Unit) × (Unit))) (v : f188_Vl2) : rawBody (f188_cx F187) f188_an k (bodyOf Tryz.f188) [1, 1, 0, 1, 0, 0, 1, 1, 0, 0, 1, 1, 0, 1, 0] [Al0] (vend (f188_cx F187) Tryz.f188 [.val (.list (.int .u64)), .val (.list (.int .u64))] [(.list (.int .u64))]) Al2 (f188_Tl2 v) (f188_Hl2 v) =
 f188_bl2 F187 (fun v => Al0 (f188_Tl0 v) (f188_Hl0 v)) (fun v => Al2 (f188_Tl2 v) (f188_Hl2 v)) v := by kernel_rfl
theorem f188_ll2 (k : Nat) (F187 : ((List Int) × Unit) → Option (((List Int) × Unit) × (Unit))) (Al0 : Jump (((List Int) × Unit) × (Unit))) (v : f188_Vl2) : rawLoop (f188_cx F187) f188_an k (bodyOf Tryz.f188) [1, 1, 0, 1, 0, 0, 1, 1, 0, 0, 1, 1, 0, 1, 0] [Al0] (vend (f188_cx F187) Tryz.f188 [.val (.list (.int .u64)), .val (.list (.int .u64))] [(.list (.int .u64))]) k (f188_Tl2 v) (f188_Hl2 v) = f188_Ll2 k F187 (fun v => Al0 (f188_Tl0 v) (f188_Hl0 v)) v :=
 rawLoop_eq (bI := fun Jl2 => f188_bl2 F187 (fun v => Al0 (f188_Tl0 v) (f188_Hl0 v)) Jl2) f188_Tl2 f188_Hl2 (fun Al2 v => (f188_el2 k F187 Al0 Al2 v)) k v
theorem f188_el0 (k : Nat) (F187 : ((List Int) × Unit) → Option (((List Int) × Unit) × (Unit))) (Al0 : Jump (((List Int) × Unit) × (Unit))) (v : f188_Vl0) : rawBody (f188_cx F187) f188_an k (bodyOf Tryz.f188) [1, 1, 0, 1, 0] [] (vend (f188_cx F187) Tryz.f188 [.val (.list (.int .u64)), .val (.list (.int .u64))] [(.list (.int .u64))]) Al0 (f188_Tl0 v) (f188_Hl0 v) =
 f188_bl0 F187 (fun v => rawLoop (f188_cx F187) f188_an k (bodyOf Tryz.f188) [1, 1, 0, 1, 0, 0, 1, 1, 0, 0, 1, 1, 0, 1, 0] [Al0] (vend (f188_cx F187) Tryz.f188 [.val (.list (.int .u64)), .val (.list (.int .u64))] [(.list (.int .u64))]) k (f188_Tl2 v) (f188_Hl2 v)) v := by kernel_rfl
theorem f188_ll0 (k : Nat) (F187 : ((List Int) × Unit) → Option (((List Int) × Unit) × (Unit))) (v : f188_Vl0) : rawLoop (f188_cx F187) f188_an k (bodyOf Tryz.f188) [1, 1, 0, 1, 0] [] (vend (f188_cx F187) Tryz.f188 [.val (.list (.int .u64)), .val (.list (.int .u64))] [(.list (.int .u64))]) k (f188_Tl0 v) (f188_Hl0 v) = f188_Ll0 k F187 v :=
 rawLoop_eq (bI := fun Jl0 => f188_bl0 F187 (f188_Ll2 k F187 Jl0)) f188_Tl0 f188_Hl0 (fun Al0 v => ((f188_el0 k F187 Al0 v).trans (congrArg (fun (J : f188_Vl2 → Option (((List Int) × Unit) × (Unit))) => f188_bl0 F187 J v) (funext (f188_ll2 k F187 Al0))))) k v
theorem f188_e (k : Nat) (F187 : ((List Int) × Unit) → Option (((List Int) × Unit) × (Unit))) (x : ((List Int) × (List Int) × Unit)) : vfun (f188_cx F187) f188_an k Tryz.f188 [.val (.list (.int .u64)), .val (.list (.int .u64))] [(.list (.int .u64))] x =
 f188_b F187 (fun v => rawLoop (f188_cx F187) f188_an k (bodyOf Tryz.f188) [1, 1, 0, 1, 0] [] (vend (f188_cx F187) Tryz.f188 [.val (.list (.int .u64)), .val (.list (.int .u64))] [(.list (.int .u64))]) k (f188_Tl0 v) (f188_Hl0 v)) x.1 x.2.1 := by kernel_rfl
theorem f188_eq (k : Nat) (F187 : ((List Int) × Unit) → Option (((List Int) × Unit) × (Unit))) (x : ((List Int) × (List Int) × Unit)) : vfun (f188_cx F187) f188_an k Tryz.f188 [.val (.list (.int .u64)), .val (.list (.int .u64))] [(.list (.int .u64))] x = f188_I k F187 x.1 x.2.1 :=
 ((f188_e k F187 x).trans (congrArg (fun (J : f188_Vl0 → Option (((List Int) × Unit) × (Unit))) => f188_b F187 J x.1 x.2.1) (funext (f188_ll0 k F187))))
theorem f188_ok (k : Nat) (F187 : ((List Int) × Unit) → Option (((List Int) × Unit) × (Unit))) (h187 : FnOk Tryz.prog 187 ⟨[.val (.list (.int .u64))], [(.list (.int .u64))], F187⟩) : FnOk Tryz.prog 188 ⟨[.val (.list (.int .u64)), .val (.list (.int .u64))], [(.list (.int .u64))], fun x => f188_I k F187 x.1 x.2.1⟩ :=
 (fn_ok (an := f188_an) (k := k) follows_mixed tys_ok ⟨look_fn (AllFn.cons h187 (AllFn.nil)), look_new AllNew.nil⟩ Tryz.func188 rfl rfl rfl).of (funext (f188_eq k F187))
/-! (joinlearn/limbs.natural).trim -/
abbrev f187_cx : Cx := ⟨look tys, look [], 21, look [], [], []⟩
def f187_an : Ann := ⟨look [(0, ⟨[0, 3], [], []⟩)], look []⟩
abbrev f187_Vl0 : Type := (List Int) × Int
def f187_Tl0 (v : f187_Vl0) : Nat → LV := tbl [(0, .c (.s (.list (.int .u64)) v.1)), (3, .c (.s (.int .i64) v.2))]
def f187_Hl0 (v : f187_Vl0) : Nat → Option VO := tblH []

def f187_bl0 (Jl0 : f187_Vl0 → Option (((List Int) × Unit) × (Unit))) : f187_Vl0 → Option (((List Int) × Unit) × (Unit)) := fun (x1, x2) =>
 bif (decide (x2 > 0)) then (rd x1 (w64 (x2 - 1)) fun y3 =>
 bif (y3 == 0) then (Jl0 (x1, (w64 (x2 - 1))))
 else (chk ((decide (0 ≤ x2)) && (decide (x2.toNat ≤ x1.length))) <|
 some (((x1.take x2.toNat), ()), ())))
 else (chk ((decide (0 ≤ x2)) && (decide (x2.toNat ≤ x1.length))) <|
 some (((x1.take x2.toNat), ()), ()))
def f187_b (Jl0 : f187_Vl0 → Option (((List Int) × Unit) × (Unit))) (a0 : (List Int)) : Option (((List Int) × Unit) × (Unit)) :=
 Jl0 (a0, (a0.length : Int))
def f187_Ll0 (k : Nat)  : f187_Vl0 → Option (((List Int) × Unit) × (Unit)) := loopI (fun Jl0 => f187_bl0 Jl0) k
def f187_I (k : Nat) (a0 : (List Int)) : Option (((List Int) × Unit) × (Unit)) := f187_b (f187_Ll0 k) a0
theorem f187_el0 (k : Nat) (Al0 : Jump (((List Int) × Unit) × (Unit))) (v : f187_Vl0) : rawBody (f187_cx) f187_an k (bodyOf Tryz.f187) [1, 1, 0, 0] [] (vend (f187_cx) Tryz.f187 [.val (.list (.int .u64))] [(.list (.int .u64))]) Al0 (f187_Tl0 v) (f187_Hl0 v) =
 f187_bl0 (fun v => Al0 (f187_Tl0 v) (f187_Hl0 v)) v := by kernel_rfl
theorem f187_ll0 (k : Nat) (v : f187_Vl0) : rawLoop (f187_cx) f187_an k (bodyOf Tryz.f187) [1, 1, 0, 0] [] (vend (f187_cx) Tryz.f187 [.val (.list (.int .u64))] [(.list (.int .u64))]) k (f187_Tl0 v) (f187_Hl0 v) = f187_Ll0 k v :=
 rawLoop_eq (bI := fun Jl0 => f187_bl0 Jl0) f187_Tl0 f187_Hl0 (fun Al0 v => (f187_el0 k Al0 v)) k v
theorem f187_e (k : Nat) (x : ((List Int) × Unit)) : vfun (f187_cx) f187_an k Tryz.f187 [.val (.list (.int .u64))] [(.list (.int .u64))] x =
 f187_b (fun v => rawLoop (f187_cx) f187_an k (bodyOf Tryz.f187) [1, 1, 0, 0] [] (vend (f187_cx) Tryz.f187 [.val (.list (.int .u64))] [(.list (.int .u64))]) k (f187_Tl0 v) (f187_Hl0 v)) x.1 := by kernel_rfl
theorem f187_eq (k : Nat) (x : ((List Int) × Unit)) : vfun (f187_cx) f187_an k Tryz.f187 [.val (.list (.int .u64))] [(.list (.int .u64))] x = f187_I k x.1 :=
 ((f187_e k x).trans (congrArg (fun (J : f187_Vl0 → Option (((List Int) × Unit) × (Unit))) => f187_b J x.1) (funext (f187_ll0 k))))
theorem f187_ok (k : Nat) : FnOk Tryz.prog 187 ⟨[.val (.list (.int .u64))], [(.list (.int .u64))], fun x => f187_I k x.1⟩ :=
 (fn_ok (an := f187_an) (k := k) follows_mixed tys_ok ⟨look_fn AllFn.nil, look_new AllNew.nil⟩ Tryz.func187 rfl rfl rfl).of (funext (f187_eq k))
/-! joinlearn/limbs.number -/
abbrev f186_cx : Cx := ⟨look tys, look [], 13, look [], [], []⟩
def f186_an : Ann := ⟨look [], look []⟩
def f186_b  (a0 : Bool) (a1 : (List Int)) : Option (((Bool × (List Int)) × Unit) × (Unit)) :=
 bif a0 then (some ((((decide ((a1.length : Int) > 0)), a1), ()), ()))
 else (some (((false, a1), ()), ()))
def f186_I (k : Nat) (a0 : Bool) (a1 : (List Int)) : Option (((Bool × (List Int)) × Unit) × (Unit)) := f186_b a0 a1
theorem f186_eq (k : Nat) (x : (Bool × (List Int) × Unit)) : vfun (f186_cx) f186_an k Tryz.f186 [.val .bool, .val (.list (.int .u64))] [(.pair .bool (.list (.int .u64)))] x = f186_I k x.1 x.2.1 := by kernel_rfl
theorem f186_ok (k : Nat) : FnOk Tryz.prog 186 ⟨[.val .bool, .val (.list (.int .u64))], [(.pair .bool (.list (.int .u64)))], fun x => f186_I k x.1 x.2.1⟩ :=
 (fn_ok (an := f186_an) (k := k) follows_mixed tys_ok ⟨look_fn AllFn.nil, look_new AllNew.nil⟩ Tryz.func186 rfl rfl rfl).of (funext (f186_eq k))
/-! strconv.ParseUint -/
abbrev f185_cx (F203 : ((List UInt8) × Int × Int × Unit) → Option ((Int × (Option (Nat × Bool)) × Unit) × (Unit))) : Cx := ⟨look tys, look [(203, ⟨[.val .str, .val (.int .i64), .val (.int .i64)], [(.int .u64), (.fn .bool)], F203⟩)], 26, look [], [], []⟩
def f185_an : Ann := ⟨look [], look []⟩
def f185_b (F203 : ((List UInt8) × Int × Int × Unit) → Option ((Int × (Option (Nat × Bool)) × Unit) × (Unit)))  (a0 : (List UInt8)) (a1 : Int) (a2 : Int) : Option ((Int × (Option (Nat × Bool)) × Unit) × (Unit)) :=
 Option.bind (F203 (a0, a1, a2, ())) fun r1 =>
 chk (Option.isNone r1.1.2.1) <|
 some ((r1.1.1, none, ()), ())
def f185_I (k : Nat) (F203 : ((List UInt8) × Int × Int × Unit) → Option ((Int × (Option (Nat × Bool)) × Unit) × (Unit))) (a0 : (List UInt8)) (a1 : Int) (a2 : Int) : Option ((Int × (Option (Nat × Bool)) × Unit) × (Unit)) := f185_b F203 a0 a1 a2
theorem f185_eq (k : Nat) (F203 : ((List UInt8) × Int × Int × Unit) → Option ((Int × (Option (Nat × Bool)) × Unit) × (Unit))) (x : ((List UInt8) × Int × Int × Unit)) : vfun (f185_cx F203) f185_an k Tryz.f185 [.val .str, .val (.int .i64), .val (.int .i64)] [(.int .u64), (.fn .bool)] x = f185_I k F203 x.1 x.2.1 x.2.2.1 := by kernel_rfl
theorem f185_ok (k : Nat) (F203 : ((List UInt8) × Int × Int × Unit) → Option ((Int × (Option (Nat × Bool)) × Unit) × (Unit))) (h203 : FnOk Tryz.prog 203 ⟨[.val .str, .val (.int .i64), .val (.int .i64)], [(.int .u64), (.fn .bool)], F203⟩) : FnOk Tryz.prog 185 ⟨[.val .str, .val (.int .i64), .val (.int .i64)], [(.int .u64), (.fn .bool)], fun x => f185_I k F203 x.1 x.2.1 x.2.2.1⟩ :=
 (fn_ok (an := f185_an) (k := k) follows_mixed tys_ok ⟨look_fn (AllFn.cons h203 (AllFn.nil)), look_new AllNew.nil⟩ Tryz.func185 rfl rfl rfl).of (funext (f185_eq k F203))
/-! strings.CutPrefix -/
abbrev f184_cx (F202 : ((List UInt8) × (List UInt8) × Unit) → Option (((List UInt8) × Bool × Unit) × (Unit))) : Cx := ⟨look tys, look [(202, ⟨[.val .str, .val .str], [.str, .bool], F202⟩)], 11, look [], [], []⟩
def f184_an : Ann := ⟨look [], look []⟩
def f184_b (F202 : ((List UInt8) × (List UInt8) × Unit) → Option (((List UInt8) × Bool × Unit) × (Unit)))  (a0 : (List UInt8)) (a1 : (List UInt8)) : Option (((List UInt8) × Bool × Unit) × (Unit)) :=
 Option.bind (F202 (a0, a1, ())) fun r1 =>
 some ((r1.1.1, r1.1.2.1, ()), ())
def f184_I (k : Nat) (F202 : ((List UInt8) × (List UInt8) × Unit) → Option (((List UInt8) × Bool × Unit) × (Unit))) (a0 : (List UInt8)) (a1 : (List UInt8)) : Option (((List UInt8) × Bool × Unit) × (Unit)) := f184_b F202 a0 a1
theorem f184_eq (k : Nat) (F202 : ((List UInt8) × (List UInt8) × Unit) → Option (((List UInt8) × Bool × Unit) × (Unit))) (x : ((List UInt8) × (List UInt8) × Unit)) : vfun (f184_cx F202) f184_an k Tryz.f184 [.val .str, .val .str] [.str, .bool] x = f184_I k F202 x.1 x.2.1 := by kernel_rfl
theorem f184_ok (k : Nat) (F202 : ((List UInt8) × (List UInt8) × Unit) → Option (((List UInt8) × Bool × Unit) × (Unit))) (h202 : FnOk Tryz.prog 202 ⟨[.val .str, .val .str], [.str, .bool], F202⟩) : FnOk Tryz.prog 184 ⟨[.val .str, .val .str], [.str, .bool], fun x => f184_I k F202 x.1 x.2.1⟩ :=
 (fn_ok (an := f184_an) (k := k) follows_mixed tys_ok ⟨look_fn (AllFn.cons h202 (AllFn.nil)), look_new AllNew.nil⟩ Tryz.func184 rfl rfl rfl).of (funext (f184_eq k F202))
/-! slices.IndexFunc[[]joinlearn/api.Rat,joinlearn/api.Rat] -/
abbrev f183_cx (F153 : ((List UInt8) × Unit) → Option ((Bool × Unit) × (Unit))) : Cx := ⟨look tys, look [(153, ⟨[.val .str], [.bool], F153⟩)], 19, look [], [], [153]⟩
def f183_an : Ann := ⟨look [(0, ⟨[0, 1, 7, 8], [], []⟩)], look []⟩
abbrev f183_Vl0 : Type := (List (List UInt8)) × (Option (Nat × Unit)) × Int × Int
def f183_Tl0 (v : f183_Vl0) : Nat → LV := tbl [(0, .c (.s (.list .str) v.1)), (1, .c (.s (.fn .unit) v.2.1)), (7, .c (.s (.int .i64) v.2.2.1)), (8, .c (.s (.int .i64) v.2.2.2))]
def f183_Hl0 (v : f183_Vl0) : Nat → Option VO := tblH []

def f183_bl0 (F153 : ((List UInt8) × Unit) → Option ((Bool × Unit) × (Unit))) (Jl0 : f183_Vl0 → Option ((Int × Unit) × (Unit))) : f183_Vl0 → Option ((Int × Unit) × (Unit)) := fun (x1, x2, x3, x4) =>
 bif (decide (x4 < x3)) then (rd x1 x4 fun y5 =>
 Option.bind x2 fun p6 =>
 bif p6.1 == 153 then (Option.bind (F153 (y5, ())) fun r7 =>
 bif r7.1.1 then (some ((x4, ()), ()))
 else (Jl0 (x1, x2, x3, (w64 (x4 + 1)))))
 else (none))
 else (some (((-1), ()), ()))
def f183_b (F153 : ((List UInt8) × Unit) → Option ((Bool × Unit) × (Unit))) (Jl0 : f183_Vl0 → Option ((Int × Unit) × (Unit))) (a0 : (List (List UInt8))) (a1 : (Option (Nat × Unit))) : Option ((Int × Unit) × (Unit)) :=
 Jl0 (a0, a1, (a0.length : Int), 0)
def f183_Ll0 (k : Nat) (F153 : ((List UInt8) × Unit) → Option ((Bool × Unit) × (Unit)))  : f183_Vl0 → Option ((Int × Unit) × (Unit)) := loopI (fun Jl0 => f183_bl0 F153 Jl0) k
def f183_I (k : Nat) (F153 : ((List UInt8) × Unit) → Option ((Bool × Unit) × (Unit))) (a0 : (List (List UInt8))) (a1 : (Option (Nat × Unit))) : Option ((Int × Unit) × (Unit)) := f183_b F153 (f183_Ll0 k F153) a0 a1
theorem f183_el0 (k : Nat) (F153 : ((List UInt8) × Unit) → Option ((Bool × Unit) × (Unit))) (Al0 : Jump ((Int × Unit) × (Unit))) (v : f183_Vl0) : rawBody (f183_cx F153) f183_an k (bodyOf Tryz.f183) [1, 0, 1, 0] [] (vend (f183_cx F153) Tryz.f183 [.val (.list .str), .val (.fn .unit)] [(.int .i64)]) Al0 (f183_Tl0 v) (f183_Hl0 v) =
 f183_bl0 F153 (fun v => Al0 (f183_Tl0 v) (f183_Hl0 v)) v := by kernel_rfl
theorem f183_ll0 (k : Nat) (F153 : ((List UInt8) × Unit) → Option ((Bool × Unit) × (Unit))) (v : f183_Vl0) : rawLoop (f183_cx F153) f183_an k (bodyOf Tryz.f183) [1, 0, 1, 0] [] (vend (f183_cx F153) Tryz.f183 [.val (.list .str), .val (.fn .unit)] [(.int .i64)]) k (f183_Tl0 v) (f183_Hl0 v) = f183_Ll0 k F153 v :=
 rawLoop_eq (bI := fun Jl0 => f183_bl0 F153 Jl0) f183_Tl0 f183_Hl0 (fun Al0 v => (f183_el0 k F153 Al0 v)) k v
theorem f183_e (k : Nat) (F153 : ((List UInt8) × Unit) → Option ((Bool × Unit) × (Unit))) (x : ((List (List UInt8)) × (Option (Nat × Unit)) × Unit)) : vfun (f183_cx F153) f183_an k Tryz.f183 [.val (.list .str), .val (.fn .unit)] [(.int .i64)] x =
 f183_b F153 (fun v => rawLoop (f183_cx F153) f183_an k (bodyOf Tryz.f183) [1, 0, 1, 0] [] (vend (f183_cx F153) Tryz.f183 [.val (.list .str), .val (.fn .unit)] [(.int .i64)]) k (f183_Tl0 v) (f183_Hl0 v)) x.1 x.2.1 := by kernel_rfl
theorem f183_eq (k : Nat) (F153 : ((List UInt8) × Unit) → Option ((Bool × Unit) × (Unit))) (x : ((List (List UInt8)) × (Option (Nat × Unit)) × Unit)) : vfun (f183_cx F153) f183_an k Tryz.f183 [.val (.list .str), .val (.fn .unit)] [(.int .i64)] x = f183_I k F153 x.1 x.2.1 :=
 ((f183_e k F153 x).trans (congrArg (fun (J : f183_Vl0 → Option ((Int × Unit) × (Unit))) => f183_b F153 J x.1 x.2.1) (funext (f183_ll0 k F153))))
theorem f183_ok (k : Nat) (F153 : ((List UInt8) × Unit) → Option ((Bool × Unit) × (Unit))) (h153 : FnOk Tryz.prog 153 ⟨[.val .str], [.bool], F153⟩) : FnOk Tryz.prog 183 ⟨[.val (.list .str), .val (.fn .unit)], [(.int .i64)], fun x => f183_I k F153 x.1 x.2.1⟩ :=
 (fn_ok (an := f183_an) (k := k) follows_mixed tys_ok ⟨look_fn (AllFn.cons h153 (AllFn.nil)), look_new AllNew.nil⟩ Tryz.func183 rfl rfl rfl).of (funext (f183_eq k F153))
/-! joinlearn/joinlearnref01.plus -/
abbrev f182_cx : Cx := ⟨look tys, look [], 52, look [], [], []⟩
def f182_an : Ann := ⟨look [(0, ⟨[0, 1, 5, 6, 7], [500], []⟩)], look []⟩
abbrev f182_Vl0 : Type := (List Int) × (List Int) × Int × Int × (List Int)
def f182_Tl0 (v : f182_Vl0) : Nat → LV := tbl [(0, .c (.s (.list (.int .i64)) v.1)), (1, .c (.s (.list (.int .i64)) v.2.1)), (5, .c (.own 500 0 .full)), (6, .c (.s (.int .i64) v.2.2.1)), (7, .c (.s (.int .i64) v.2.2.2.1))]
def f182_Hl0 (v : f182_Vl0) : Nat → Option VO := tblH [(500, some ⟨0, .row (.int .i64) v.2.2.2.2, false⟩)]

def f182_bl0 (Jl0 : f182_Vl0 → Option (((List Int) × Unit) × (Unit))) : f182_Vl0 → Option (((List Int) × Unit) × (Unit)) := fun (x1, x2, x3, x4, l5) =>
 bif (decide (x4 < (x1.length : Int))) then (bif (decide (x4 < (x1.length : Int))) then (rd x1 x4 fun y6 =>
 bif (decide (x4 < (x2.length : Int))) then (rd x2 x4 fun y7 =>
 chk (roomFor (l5.length + 1) 8) <|
 Jl0 (x1, x2, (w64 ((w64 ((w64 (x3 + y6)) + y7)).tdiv 1000000000)), (w64 (x4 + 1)), (l5 ++ ([((w64 ((w64 (x3 + y6)) + y7)).tmod 1000000000)] : List Int))))
 else (chk (roomFor (l5.length + 1) 8) <|
 Jl0 (x1, x2, (w64 ((w64 (x3 + y6)).tdiv 1000000000)), (w64 (x4 + 1)), (l5 ++ ([((w64 (x3 + y6)).tmod 1000000000)] : List Int)))))
 else (bif (decide (x4 < (x2.length : Int))) then (rd x2 x4 fun y8 =>
 chk (roomFor (l5.length + 1) 8) <|
 Jl0 (x1, x2, (w64 ((w64 (x3 + y8)).tdiv 1000000000)), (w64 (x4 + 1)), (l5 ++ ([((w64 (x3 + y8)).tmod 1000000000)] : List Int))))
 else (chk (roomFor (l5.length + 1) 8) <|
 Jl0 (x1, x2, (w64 (x3.tdiv 1000000000)), (w64 (x4 + 1)), (l5 ++ ([(x3.tmod 1000000000)] : List Int))))))
 else (bif (decide (x4 < (x2.length : Int))) then (bif (decide (x4 < (x1.length : Int))) then (rd x1 x4 fun y9 =>
 bif (decide (x4 < (x2.length : Int))) then (rd x2 x4 fun y10 =>
 chk (roomFor (l5.length + 1) 8) <|
 Jl0 (x1, x2, (w64 ((w64 ((w64 (x3 + y9)) + y10)).tdiv 1000000000)), (w64 (x4 + 1)), (l5 ++ ([((w64 ((w64 (x3 + y9)) + y10)).tmod 1000000000)] : List Int))))
 else (chk (roomFor (l5.length + 1) 8) <|
 Jl0 (x1, x2, (w64 ((w64 (x3 + y9)).tdiv 1000000000)), (w64 (x4 + 1)), (l5 ++ ([((w64 (x3 + y9)).tmod 1000000000)] : List Int)))))
 else (bif (decide (x4 < (x2.length : Int))) then (rd x2 x4 fun y11 =>
 chk (roomFor (l5.length + 1) 8) <|
 Jl0 (x1, x2, (w64 ((w64 (x3 + y11)).tdiv 1000000000)), (w64 (x4 + 1)), (l5 ++ ([((w64 (x3 + y11)).tmod 1000000000)] : List Int))))
 else (chk (roomFor (l5.length + 1) 8) <|
 Jl0 (x1, x2, (w64 (x3.tdiv 1000000000)), (w64 (x4 + 1)), (l5 ++ ([(x3.tmod 1000000000)] : List Int))))))
 else (bif (decide (x3 > 0)) then (bif (decide (x4 < (x1.length : Int))) then (rd x1 x4 fun y12 =>
 bif (decide (x4 < (x2.length : Int))) then (rd x2 x4 fun y13 =>
 chk (roomFor (l5.length + 1) 8) <|
 Jl0 (x1, x2, (w64 ((w64 ((w64 (x3 + y12)) + y13)).tdiv 1000000000)), (w64 (x4 + 1)), (l5 ++ ([((w64 ((w64 (x3 + y12)) + y13)).tmod 1000000000)] : List Int))))
 else (chk (roomFor (l5.length + 1) 8) <|
 Jl0 (x1, x2, (w64 ((w64 (x3 + y12)).tdiv 1000000000)), (w64 (x4 + 1)), (l5 ++ ([((w64 (x3 + y12)).tmod 1000000000)] : List Int)))))
 else (bif (decide (x4 < (x2.length : Int))) then (rd x2 x4 fun y14 =>
 chk (roomFor (l5.length + 1) 8) <|
 Jl0 (x1, x2, (w64 ((w64 (x3 + y14)).tdiv 1000000000)), (w64 (x4 + 1)), (l5 ++ ([((w64 (x3 + y14)).tmod 1000000000)] : List Int))))
 else (chk (roomFor (l5.length + 1) 8) <|
 Jl0 (x1, x2, (w64 (x3.tdiv 1000000000)), (w64 (x4 + 1)), (l5 ++ ([(x3.tmod 1000000000)] : List Int))))))
 else (some ((l5, ()), ()))))
def f182_b (Jl0 : f182_Vl0 → Option (((List Int) × Unit) × (Unit))) (a0 : (List Int)) (a1 : (List Int)) : Option (((List Int) × Unit) × (Unit)) :=
 Jl0 (a0, a1, 0, 0, ([] : List Int))
def f182_Ll0 (k : Nat)  : f182_Vl0 → Option (((List Int) × Unit) × (Unit)) := loopI (fun Jl0 => f182_bl0 Jl0) k
def f182_I (k : Nat) (a0 : (List Int)) (a1 : (List Int)) : Option (((List Int) × Unit) × (Unit)) := f182_b (f182_Ll0 k) a0 a1
theorem f182_el0 (k : Nat) (Al0 : Jump (((List Int) × Unit) × (Unit))) (v : f182_Vl0) : rawBody (f182_cx) f182_an k (bodyOf Tryz.f182) [1, 1, 1, 0, 1, 0] [] (vend (f182_cx) Tryz.f182 [.val (.list (.int .i64)), .val (.list (.int .i64))] [(.list (.int .i64))]) Al0 (f182_Tl0 v) (f182_Hl0 v) =
 f182_bl0 (fun v => Al0 (f182_Tl0 v) (f182_Hl0 v)) v := by kernel_rfl
theorem f182_ll0 (k : Nat) (v : f182_Vl0) : rawLoop (f182_cx) f182_an k (bodyOf Tryz.f182) [1, 1, 1, 0, 1, 0] [] (vend (f182_cx) Tryz.f182 [.val (.list (.int .i64)), .val (.list (.int .i64))] [(.list (.int .i64))]) k (f182_Tl0 v) (f182_Hl0 v) = f182_Ll0 k v :=
 rawLoop_eq (bI := fun Jl0 => f182_bl0 Jl0) f182_Tl0 f182_Hl0 (fun Al0 v => (f182_el0 k Al0 v)) k v
theorem f182_e (k : Nat) (x : ((List Int) × (List Int) × Unit)) : vfun (f182_cx) f182_an k Tryz.f182 [.val (.list (.int .i64)), .val (.list (.int .i64))] [(.list (.int .i64))] x =
 f182_b (fun v => rawLoop (f182_cx) f182_an k (bodyOf Tryz.f182) [1, 1, 1, 0, 1, 0] [] (vend (f182_cx) Tryz.f182 [.val (.list (.int .i64)), .val (.list (.int .i64))] [(.list (.int .i64))]) k (f182_Tl0 v) (f182_Hl0 v)) x.1 x.2.1 := by kernel_rfl
theorem f182_eq (k : Nat) (x : ((List Int) × (List Int) × Unit)) : vfun (f182_cx) f182_an k Tryz.f182 [.val (.list (.int .i64)), .val (.list (.int .i64))] [(.list (.int .i64))] x = f182_I k x.1 x.2.1 :=
 ((f182_e k x).trans (congrArg (fun (J : f182_Vl0 → Option (((List Int) × Unit) × (Unit))) => f182_b J x.1 x.2.1) (funext (f182_ll0 k))))
theorem f182_ok (k : Nat) : FnOk Tryz.prog 182 ⟨[.val (.list (.int .i64)), .val (.list (.int .i64))], [(.list (.int .i64))], fun x => f182_I k x.1 x.2.1⟩ :=
 (fn_ok (an := f182_an) (k := k) follows_mixed tys_ok ⟨look_fn AllFn.nil, look_new AllNew.nil⟩ Tryz.func182 rfl rfl rfl).of (funext (f182_eq k))
/-! joinlearn/joinlearnref01.minus -/
abbrev f181_cx : Cx := ⟨look tys, look [], 48, look [], [], []⟩
def f181_an : Ann := ⟨look [(0, ⟨[1, 5, 6], [800], []⟩)], look []⟩
abbrev f181_Vl0 : Type := (List Int) × Int × (List Int)
def f181_Tl0 (v : f181_Vl0) : Nat → LV := tbl [(1, .c (.s (.list (.int .i64)) v.1)), (5, .c (.own 800 0 .full)), (6, .c (.s (.int .i64) v.2.1))]
def f181_Hl0 (v : f181_Vl0) : Nat → Option VO := tblH [(800, some ⟨0, .row (.int .i64) v.2.2, false⟩)]

def f181_bl0 (Jl0 : f181_Vl0 → Option (((List Int) × Unit) × (Unit))) : f181_Vl0 → Option (((List Int) × Unit) × (Unit)) := fun (x1, x2, l3) =>
 bif (decide (x2 < (l3.length : Int))) then (bif (decide (x2 < (x1.length : Int))) then (chk (decide (0 ≤ x2)) <|
 chk (decide (x2.toNat < l3.length)) <|
 Option.bind l3[x2.toNat]? fun y4 =>
 rd x1 x2 fun y5 =>
 chk (decide (0 ≤ x2)) <|
 chk (decide (x2.toNat < l3.length)) <|
 Option.bind l3[x2.toNat]? fun y6 =>
 chk (decide (0 ≤ x2)) <|
 chk (decide (x2.toNat < (l3.set x2.toNat (w64 (y4 - y5))).length)) <|
 Option.bind (l3.set x2.toNat (w64 (y4 - y5)))[x2.toNat]? fun y7 =>
 bif (decide (y7 < 0)) then (chk (decide (0 ≤ x2)) <|
 chk (decide (x2.toNat < (l3.set x2.toNat (w64 (y4 - y5))).length)) <|
 Option.bind (l3.set x2.toNat (w64 (y4 - y5)))[x2.toNat]? fun y8 =>
 chk (decide (0 ≤ x2)) <|
 chk (decide (x2.toNat < (l3.set x2.toNat (w64 (y4 - y5))).length)) <|
 Option.bind (l3.set x2.toNat (w64 (y4 - y5)))[x2.toNat]? fun y9 =>
 chk (decide (0 ≤ (w64 (x2 + 1)))) <|
 chk (decide ((w64 (x2 + 1)).toNat < ((l3.set x2.toNat (w64 (y4 - y5))).set x2.toNat (w64 (y8 + 1000000000))).length)) <|
 Option.bind ((l3.set x2.toNat (w64 (y4 - y5))).set x2.toNat (w64 (y8 + 1000000000)))[(w64 (x2 + 1)).toNat]? fun y10 =>
 chk (decide (0 ≤ (w64 (x2 + 1)))) <|
 chk (decide ((w64 (x2 + 1)).toNat < ((l3.set x2.toNat (w64 (y4 - y5))).set x2.toNat (w64 (y8 + 1000000000))).length)) <|
 Option.bind ((l3.set x2.toNat (w64 (y4 - y5))).set x2.toNat (w64 (y8 + 1000000000)))[(w64 (x2 + 1)).toNat]? fun y11 =>
 Jl0 (x1, (w64 (x2 + 1)), (((l3.set x2.toNat (w64 (y4 - y5))).set x2.toNat (w64 (y8 + 1000000000))).set (w64 (x2 + 1)).toNat (w64 (y10 - 1)))))
 else (Jl0 (x1, (w64 (x2 + 1)), (l3.set x2.toNat (w64 (y4 - y5))))))
 else (chk (decide (0 ≤ x2)) <|
 chk (decide (x2.toNat < l3.length)) <|
 Option.bind l3[x2.toNat]? fun y12 =>
 bif (decide (y12 < 0)) then (chk (decide (0 ≤ x2)) <|
 chk (decide (x2.toNat < l3.length)) <|
 Option.bind l3[x2.toNat]? fun y13 =>
 chk (decide (0 ≤ x2)) <|
 chk (decide (x2.toNat < l3.length)) <|
 Option.bind l3[x2.toNat]? fun y14 =>
 chk (decide (0 ≤ (w64 (x2 + 1)))) <|
 chk (decide ((w64 (x2 + 1)).toNat < (l3.set x2.toNat (w64 (y13 + 1000000000))).length)) <|
 Option.bind (l3.set x2.toNat (w64 (y13 + 1000000000)))[(w64 (x2 + 1)).toNat]? fun y15 =>
 chk (decide (0 ≤ (w64 (x2 + 1)))) <|
 chk (decide ((w64 (x2 + 1)).toNat < (l3.set x2.toNat (w64 (y13 + 1000000000))).length)) <|
 Option.bind (l3.set x2.toNat (w64 (y13 + 1000000000)))[(w64 (x2 + 1)).toNat]? fun y16 =>
 Jl0 (x1, (w64 (x2 + 1)), ((l3.set x2.toNat (w64 (y13 + 1000000000))).set (w64 (x2 + 1)).toNat (w64 (y15 - 1)))))
 else (Jl0 (x1, (w64 (x2 + 1)), l3))))
 else (some ((l3, ()), ()))
def f181_b (Jl0 : f181_Vl0 → Option (((List Int) × Unit) × (Unit))) (a0 : (List Int)) (a1 : (List Int)) : Option (((List Int) × Unit) × (Unit)) :=
 chk (roomFor (a0.length) 8) <|
 Jl0 (a1, 0, a0)
def f181_Ll0 (k : Nat)  : f181_Vl0 → Option (((List Int) × Unit) × (Unit)) := loopI (fun Jl0 => f181_bl0 Jl0) k
def f181_I (k : Nat) (a0 : (List Int)) (a1 : (List Int)) : Option (((List Int) × Unit) × (Unit)) := f181_b (f181_Ll0 k) a0 a1
theorem f181_el0 (k : Nat) (Al0 : Jump (((List Int) × Unit) × (Unit))) (v : f181_Vl0) : rawBody (f181_cx) f181_an k (bodyOf Tryz.f181) [1, 1, 0, 1, 0] [] (vend (f181_cx) Tryz.f181 [.val (.list (.int .i64)), .val (.list (.int .i64))] [(.list (.int .i64))]) Al0 (f181_Tl0 v) (f181_Hl0 v) =
 f181_bl0 (fun v => Al0 (f181_Tl0 v) (f181_Hl0 v)) v := by kernel_rfl
theorem f181_ll0 (k : Nat) (v : f181_Vl0) : rawLoop (f181_cx) f181_an k (bodyOf Tryz.f181) [1, 1, 0, 1, 0] [] (vend (f181_cx) Tryz.f181 [.val (.list (.int .i64)), .val (.list (.int .i64))] [(.list (.int .i64))]) k (f181_Tl0 v) (f181_Hl0 v) = f181_Ll0 k v :=
 rawLoop_eq (bI := fun Jl0 => f181_bl0 Jl0) f181_Tl0 f181_Hl0 (fun Al0 v => (f181_el0 k Al0 v)) k v
theorem f181_e (k : Nat) (x : ((List Int) × (List Int) × Unit)) : vfun (f181_cx) f181_an k Tryz.f181 [.val (.list (.int .i64)), .val (.list (.int .i64))] [(.list (.int .i64))] x =
 f181_b (fun v => rawLoop (f181_cx) f181_an k (bodyOf Tryz.f181) [1, 1, 0, 1, 0] [] (vend (f181_cx) Tryz.f181 [.val (.list (.int .i64)), .val (.list (.int .i64))] [(.list (.int .i64))]) k (f181_Tl0 v) (f181_Hl0 v)) x.1 x.2.1 := by kernel_rfl
theorem f181_eq (k : Nat) (x : ((List Int) × (List Int) × Unit)) : vfun (f181_cx) f181_an k Tryz.f181 [.val (.list (.int .i64)), .val (.list (.int .i64))] [(.list (.int .i64))] x = f181_I k x.1 x.2.1 :=
 ((f181_e k x).trans (congrArg (fun (J : f181_Vl0 → Option (((List Int) × Unit) × (Unit))) => f181_b J x.1 x.2.1) (funext (f181_ll0 k))))
theorem f181_ok (k : Nat) : FnOk Tryz.prog 181 ⟨[.val (.list (.int .i64)), .val (.list (.int .i64))], [(.list (.int .i64))], fun x => f181_I k x.1 x.2.1⟩ :=
 (fn_ok (an := f181_an) (k := k) follows_mixed tys_ok ⟨look_fn AllFn.nil, look_new AllNew.nil⟩ Tryz.func181 rfl rfl rfl).of (funext (f181_eq k))
/-! joinlearn/joinlearnref01.times -/
abbrev f180_cx (F136 : ((Bool × (List Int)) × Unit) → Option (((Bool × (List Int)) × Unit) × (Unit))) : Cx := ⟨look tys, look [(136, ⟨[.val (.pair .bool (.list (.int .i64)))], [(.pair .bool (.list (.int .i64)))], F136⟩)], 41, look [], [], []⟩
def f180_an : Ann := ⟨look [(0, ⟨[0, 1, 5, 6, 7], [500], []⟩)], look []⟩
abbrev f180_Vl0 : Type := (List Int) × Int × Int × Int × (List Int)
def f180_Tl0 (v : f180_Vl0) : Nat → LV := tbl [(0, .c (.s (.list (.int .i64)) v.1)), (1, .c (.s (.int .i64) v.2.1)), (5, .c (.own 500 0 .full)), (6, .c (.s (.int .i64) v.2.2.1)), (7, .c (.s (.int .i64) v.2.2.2.1))]
def f180_Hl0 (v : f180_Vl0) : Nat → Option VO := tblH [(500, some ⟨0, .row (.int .i64) v.2.2.2.2, false⟩)]

def f180_bl0 (F136 : ((Bool × (List Int)) × Unit) → Option (((Bool × (List Int)) × Unit) × (Unit))) (Jl0 : f180_Vl0 → Option (((List Int) × Unit) × (Unit))) : f180_Vl0 → Option (((List Int) × Unit) × (Unit)) := fun (x1, x2, x3, x4, l5) =>
 bif (decide (x4 < (x1.length : Int))) then (bif (decide (x4 < (x1.length : Int))) then (rd x1 x4 fun y6 =>
 chk (roomFor (l5.length + 1) 8) <|
 Jl0 (x1, x2, (w64 ((w64 (x3 + (w64 (y6 * x2)))).tdiv 1000000000)), (w64 (x4 + 1)), (l5 ++ ([((w64 (x3 + (w64 (y6 * x2)))).tmod 1000000000)] : List Int))))
 else (chk (roomFor (l5.length + 1) 8) <|
 Jl0 (x1, x2, (w64 (x3.tdiv 1000000000)), (w64 (x4 + 1)), (l5 ++ ([(x3.tmod 1000000000)] : List Int)))))
 else (bif (decide (x3 > 0)) then (bif (decide (x4 < (x1.length : Int))) then (rd x1 x4 fun y7 =>
 chk (roomFor (l5.length + 1) 8) <|
 Jl0 (x1, x2, (w64 ((w64 (x3 + (w64 (y7 * x2)))).tdiv 1000000000)), (w64 (x4 + 1)), (l5 ++ ([((w64 (x3 + (w64 (y7 * x2)))).tmod 1000000000)] : List Int))))
 else (chk (roomFor (l5.length + 1) 8) <|
 Jl0 (x1, x2, (w64 (x3.tdiv 1000000000)), (w64 (x4 + 1)), (l5 ++ ([(x3.tmod 1000000000)] : List Int)))))
 else (Option.bind (F136 ((false, l5), ())) fun r8 =>
 some ((r8.1.1.2, ()), ())))
def f180_b (F136 : ((Bool × (List Int)) × Unit) → Option (((Bool × (List Int)) × Unit) × (Unit))) (Jl0 : f180_Vl0 → Option (((List Int) × Unit) × (Unit))) (a0 : (List Int)) (a1 : Int) : Option (((List Int) × Unit) × (Unit)) :=
 Jl0 (a0, a1, 0, 0, ([] : List Int))
def f180_Ll0 (k : Nat) (F136 : ((Bool × (List Int)) × Unit) → Option (((Bool × (List Int)) × Unit) × (Unit)))  : f180_Vl0 → Option (((List Int) × Unit) × (Unit)) := loopI (fun Jl0 => f180_bl0 F136 Jl0) k
def f180_I (k : Nat) (F136 : ((Bool × (List Int)) × Unit) → Option (((Bool × (List Int)) × Unit) × (Unit))) (a0 : (List Int)) (a1 : Int) : Option (((List Int) × Unit) × (Unit)) := f180_b F136 (f180_Ll0 k F136) a0 a1
theorem f180_el0 (k : Nat) (F136 : ((Bool × (List Int)) × Unit) → Option (((Bool × (List Int)) × Unit) × (Unit))) (Al0 : Jump (((List Int) × Unit) × (Unit))) (v : f180_Vl0) : rawBody (f180_cx F136) f180_an k (bodyOf Tryz.f180) [1, 1, 1, 0, 1, 0] [] (vend (f180_cx F136) Tryz.f180 [.val (.list (.int .i64)), .val (.int .i64)] [(.list (.int .i64))]) Al0 (f180_Tl0 v) (f180_Hl0 v) =
 f180_bl0 F136 (fun v => Al0 (f180_Tl0 v) (f180_Hl0 v)) v := by kernel_rfl
theorem f180_ll0 (k : Nat) (F136 : ((Bool × (List Int)) × Unit) → Option (((Bool × (List Int)) × Unit) × (Unit))) (v : f180_Vl0) : rawLoop (f180_cx F136) f180_an k (bodyOf Tryz.f180) [1, 1, 1, 0, 1, 0] [] (vend (f180_cx F136) Tryz.f180 [.val (.list (.int .i64)), .val (.int .i64)] [(.list (.int .i64))]) k (f180_Tl0 v) (f180_Hl0 v) = f180_Ll0 k F136 v :=
 rawLoop_eq (bI := fun Jl0 => f180_bl0 F136 Jl0) f180_Tl0 f180_Hl0 (fun Al0 v => (f180_el0 k F136 Al0 v)) k v
theorem f180_e (k : Nat) (F136 : ((Bool × (List Int)) × Unit) → Option (((Bool × (List Int)) × Unit) × (Unit))) (x : ((List Int) × Int × Unit)) : vfun (f180_cx F136) f180_an k Tryz.f180 [.val (.list (.int .i64)), .val (.int .i64)] [(.list (.int .i64))] x =
 f180_b F136 (fun v => rawLoop (f180_cx F136) f180_an k (bodyOf Tryz.f180) [1, 1, 1, 0, 1, 0] [] (vend (f180_cx F136) Tryz.f180 [.val (.list (.int .i64)), .val (.int .i64)] [(.list (.int .i64))]) k (f180_Tl0 v) (f180_Hl0 v)) x.1 x.2.1 := by kernel_rfl
theorem f180_eq (k : Nat) (F136 : ((Bool × (List Int)) × Unit) → Option (((Bool × (List Int)) × Unit) × (Unit))) (x : ((List Int) × Int × Unit)) : vfun (f180_cx F136) f180_an k Tryz.f180 [.val (.list (.int .i64)), .val (.int .i64)] [(.list (.int .i64))] x = f180_I k F136 x.1 x.2.1 :=
 ((f180_e k F136 x).trans (congrArg (fun (J : f180_Vl0 → Option (((List Int) × Unit) × (Unit))) => f180_b F136 J x.1 x.2.1) (funext (f180_ll0 k F136))))
theorem f180_ok (k : Nat) (F136 : ((Bool × (List Int)) × Unit) → Option (((Bool × (List Int)) × Unit) × (Unit))) (h136 : FnOk Tryz.prog 136 ⟨[.val (.pair .bool (.list (.int .i64)))], [(.pair .bool (.list (.int .i64)))], F136⟩) : FnOk Tryz.prog 180 ⟨[.val (.list (.int .i64)), .val (.int .i64)], [(.list (.int .i64))], fun x => f180_I k F136 x.1 x.2.1⟩ :=
 (fn_ok (an := f180_an) (k := k) follows_mixed tys_ok ⟨look_fn (AllFn.cons h136 (AllFn.nil)), look_new AllNew.nil⟩ Tryz.func180 rfl rfl rfl).of (funext (f180_eq k F136))
/-! (joinlearn/limbs.natural).small -/
abbrev f179_cx (F178 : ((List Int) × Int × Unit) → Option ((Int × Unit) × (Unit))) : Cx := ⟨look tys, look [(178, ⟨[.val (.list (.int .u64)), .val (.int .i64)], [(.int .u64)], F178⟩)], 9, look [], [], []⟩
def f179_an : Ann := ⟨look [], look []⟩
def f179_b (F178 : ((List Int) × Int × Unit) → Option ((Int × Unit) × (Unit)))  (a0 : (List Int)) : Option ((Int × Unit) × (Unit)) :=
 Option.bind (F178 (a0, 1, ())) fun r1 =>
 Option.bind (F178 (a0, 0, ())) fun r2 =>
 some (((IntKind.wrap .u64 ((IntKind.wrap .u64 (r1.1.1 * 1000000000)) + r2.1.1)), ()), ())
def f179_I (k : Nat) (F178 : ((List Int) × Int × Unit) → Option ((Int × Unit) × (Unit))) (a0 : (List Int)) : Option ((Int × Unit) × (Unit)) := f179_b F178 a0
theorem f179_eq (k : Nat) (F178 : ((List Int) × Int × Unit) → Option ((Int × Unit) × (Unit))) (x : ((List Int) × Unit)) : vfun (f179_cx F178) f179_an k Tryz.f179 [.val (.list (.int .u64))] [(.int .u64)] x = f179_I k F178 x.1 := by kernel_rfl
theorem f179_ok (k : Nat) (F178 : ((List Int) × Int × Unit) → Option ((Int × Unit) × (Unit))) (h178 : FnOk Tryz.prog 178 ⟨[.val (.list (.int .u64)), .val (.int .i64)], [(.int .u64)], F178⟩) : FnOk Tryz.prog 179 ⟨[.val (.list (.int .u64))], [(.int .u64)], fun x => f179_I k F178 x.1⟩ :=
 (fn_ok (an := f179_an) (k := k) follows_mixed tys_ok ⟨look_fn (AllFn.cons h178 (AllFn.nil)), look_new AllNew.nil⟩ Tryz.func179 rfl rfl rfl).of (funext (f179_eq k F178))
/-! (joinlearn/limbs.natural).at -/
abbrev f178_cx : Cx := ⟨look tys, look [], 13, look [], [], []⟩
def f178_an : Ann := ⟨look [], look []⟩
def f178_b  (a0 : (List Int)) (a1 : Int) : Option ((Int × Unit) × (Unit)) :=
 bif (decide (a1 < (a0.length : Int))) then (rd a0 a1 fun y1 =>
 some ((y1, ()), ()))
 else (some ((0, ()), ()))
def f178_I (k : Nat) (a0 : (List Int)) (a1 : Int) : Option ((Int × Unit) × (Unit)) := f178_b a0 a1
theorem f178_eq (k : Nat) (x : ((List Int) × Int × Unit)) : vfun (f178_cx) f178_an k Tryz.f178 [.val (.list (.int .u64)), .val (.int .i64)] [(.int .u64)] x = f178_I k x.1 x.2.1 := by kernel_rfl
theorem f178_ok (k : Nat) : FnOk Tryz.prog 178 ⟨[.val (.list (.int .u64)), .val (.int .i64)], [(.int .u64)], fun x => f178_I k x.1 x.2.1⟩ :=
 (fn_ok (an := f178_an) (k := k) follows_mixed tys_ok ⟨look_fn AllFn.nil, look_new AllNew.nil⟩ Tryz.func178 rfl rfl rfl).of (funext (f178_eq k))
/-! strings.TrimPrefix -/
abbrev f177_cx (F201 : ((List UInt8) × (List UInt8) × Unit) → Option (((List UInt8) × Unit) × (Unit))) : Cx := ⟨look tys, look [(201, ⟨[.val .str, .val .str], [.str], F201⟩)], 8, look [], [], []⟩
def f177_an : Ann := ⟨look [], look []⟩
def f177_b (F201 : ((List UInt8) × (List UInt8) × Unit) → Option (((List UInt8) × Unit) × (Unit)))  (a0 : (List UInt8)) (a1 : (List UInt8)) : Option (((List UInt8) × Unit) × (Unit)) :=
 Option.bind (F201 (a0, a1, ())) fun r1 =>
 some ((r1.1.1, ()), ())
def f177_I (k : Nat) (F201 : ((List UInt8) × (List UInt8) × Unit) → Option (((List UInt8) × Unit) × (Unit))) (a0 : (List UInt8)) (a1 : (List UInt8)) : Option (((List UInt8) × Unit) × (Unit)) := f177_b F201 a0 a1
theorem f177_eq (k : Nat) (F201 : ((List UInt8) × (List UInt8) × Unit) → Option (((List UInt8) × Unit) × (Unit))) (x : ((List UInt8) × (List UInt8) × Unit)) : vfun (f177_cx F201) f177_an k Tryz.f177 [.val .str, .val .str] [.str] x = f177_I k F201 x.1 x.2.1 := by kernel_rfl
theorem f177_ok (k : Nat) (F201 : ((List UInt8) × (List UInt8) × Unit) → Option (((List UInt8) × Unit) × (Unit))) (h201 : FnOk Tryz.prog 201 ⟨[.val .str, .val .str], [.str], F201⟩) : FnOk Tryz.prog 177 ⟨[.val .str, .val .str], [.str], fun x => f177_I k F201 x.1 x.2.1⟩ :=
 (fn_ok (an := f177_an) (k := k) follows_mixed tys_ok ⟨look_fn (AllFn.cons h201 (AllFn.nil)), look_new AllNew.nil⟩ Tryz.func177 rfl rfl rfl).of (funext (f177_eq k F201))
/-! internal/stringslite.Cut -/
abbrev f176_cx (F200 : ((List UInt8) × (List UInt8) × Unit) → Option ((Int × Unit) × (Unit))) : Cx := ⟨look tys, look [(200, ⟨[.val .str, .val .str], [(.int .i64)], F200⟩)], 23, look [], [], []⟩
def f176_an : Ann := ⟨look [], look []⟩
def f176_b (F200 : ((List UInt8) × (List UInt8) × Unit) → Option ((Int × Unit) × (Unit)))  (a0 : (List UInt8)) (a1 : (List UInt8)) : Option (((List UInt8) × (List UInt8) × Bool × Unit) × (Unit)) :=
 Option.bind (F200 (a0, a1, ())) fun r1 =>
 bif (decide (r1.1.1 ≥ 0)) then (chk ((decide (0 ≤ r1.1.1)) && (decide (r1.1.1.toNat ≤ a0.length))) <|
 chk ((decide (0 ≤ (w64 (r1.1.1 + (a1.length : Int))))) && (decide ((w64 (r1.1.1 + (a1.length : Int))).toNat ≤ a0.length))) <|
 some (((a0.take r1.1.1.toNat), (a0.drop (w64 (r1.1.1 + (a1.length : Int))).toNat), true, ()), ()))
 else (some ((a0, ([] : List UInt8), false, ()), ()))
def f176_I (k : Nat) (F200 : ((List UInt8) × (List UInt8) × Unit) → Option ((Int × Unit) × (Unit))) (a0 : (List UInt8)) (a1 : (List UInt8)) : Option (((List UInt8) × (List UInt8) × Bool × Unit) × (Unit)) := f176_b F200 a0 a1
theorem f176_eq (k : Nat) (F200 : ((List UInt8) × (List UInt8) × Unit) → Option ((Int × Unit) × (Unit))) (x : ((List UInt8) × (List UInt8) × Unit)) : vfun (f176_cx F200) f176_an k Tryz.f176 [.val .str, .val .str] [.str, .str, .bool] x = f176_I k F200 x.1 x.2.1 := by kernel_rfl
theorem f176_ok (k : Nat) (F200 : ((List UInt8) × (List UInt8) × Unit) → Option ((Int × Unit) × (Unit))) (h200 : FnOk Tryz.prog 200 ⟨[.val .str, .val .str], [(.int .i64)], F200⟩) : FnOk Tryz.prog 176 ⟨[.val .str, .val .str], [.str, .str, .bool], fun x => f176_I k F200 x.1 x.2.1⟩ :=
 (fn_ok (an := f176_an) (k := k) follows_mixed tys_ok ⟨look_fn (AllFn.cons h200 (AllFn.nil)), look_new AllNew.nil⟩ Tryz.func176 rfl rfl rfl).of (funext (f176_eq k F200))
/-! joinlearn/limbs.Of -/
abbrev f175_cx (F187 : ((List Int) × Unit) → Option (((List Int) × Unit) × (Unit))) (F186 : (Bool × (List Int) × Unit) → Option (((Bool × (List Int)) × Unit) × (Unit))) : Cx := ⟨look tys, look [(187, ⟨[.val (.list (.int .u64))], [(.list (.int .u64))], F187⟩), (186, ⟨[.val .bool, .val (.list (.int .u64))], [(.pair .bool (.list (.int .u64)))], F186⟩)], 23, look [], [], []⟩
def f175_an : Ann := ⟨look [], look []⟩
def f175_b (F187 : ((List Int) × Unit) → Option (((List Int) × Unit) × (Unit))) (F186 : (Bool × (List Int) × Unit) → Option (((Bool × (List Int)) × Unit) × (Unit)))  (a0 : Int) : Option (((Bool × (List Int)) × Unit) × (Unit)) :=
 bif (decide (a0 < 0)) then (Option.bind (F187 (([((IntKind.wrap .u64 (0 - (IntKind.wrap .u64 (a0)))).tmod 1000000000), ((IntKind.wrap .u64 ((IntKind.wrap .u64 (0 - (IntKind.wrap .u64 (a0)))).tdiv 1000000000)).tmod 1000000000), (IntKind.wrap .u64 ((IntKind.wrap .u64 ((IntKind.wrap .u64 (0 - (IntKind.wrap .u64 (a0)))).tdiv 1000000000)).tdiv 1000000000))] : List Int), ())) fun r1 =>
 Option.bind (F186 ((decide (a0 < 0)), r1.1.1, ())) fun r2 =>
 some ((r2.1.1, ()), ()))
 else (Option.bind (F187 (([((IntKind.wrap .u64 (a0)).tmod 1000000000), ((IntKind.wrap .u64 ((IntKind.wrap .u64 (a0)).tdiv 1000000000)).tmod 1000000000), (IntKind.wrap .u64 ((IntKind.wrap .u64 ((IntKind.wrap .u64 (a0)).tdiv 1000000000)).tdiv 1000000000))] : List Int), ())) fun r3 =>
 Option.bind (F186 ((decide (a0 < 0)), r3.1.1, ())) fun r4 =>
 some ((r4.1.1, ()), ()))
def f175_I (k : Nat) (F187 : ((List Int) × Unit) → Option (((List Int) × Unit) × (Unit))) (F186 : (Bool × (List Int) × Unit) → Option (((Bool × (List Int)) × Unit) × (Unit))) (a0 : Int) : Option (((Bool × (List Int)) × Unit) × (Unit)) := f175_b F187 F186 a0
theorem f175_eq (k : Nat) (F187 : ((List Int) × Unit) → Option (((List Int) × Unit) × (Unit))) (F186 : (Bool × (List Int) × Unit) → Option (((Bool × (List Int)) × Unit) × (Unit))) (x : (Int × Unit)) : vfun (f175_cx F187 F186) f175_an k Tryz.f175 [.val (.int .i64)] [(.pair .bool (.list (.int .u64)))] x = f175_I k F187 F186 x.1 := by kernel_rfl
theorem f175_ok (k : Nat) (F187 : ((List Int) × Unit) → Option (((List Int) × Unit) × (Unit))) (F186 : (Bool × (List Int) × Unit) → Option (((Bool × (List Int)) × Unit) × (Unit))) (h187 : FnOk Tryz.prog 187 ⟨[.val (.list (.int .u64))], [(.list (.int .u64))], F187⟩) (h186 : FnOk Tryz.prog 186 ⟨[.val .bool, .val (.list (.int .u64))], [(.pair .bool (.list (.int .u64)))], F186⟩) : FnOk Tryz.prog 175 ⟨[.val (.int .i64)], [(.pair .bool (.list (.int .u64)))], fun x => f175_I k F187 F186 x.1⟩ :=
 (fn_ok (an := f175_an) (k := k) follows_mixed tys_ok ⟨look_fn (AllFn.cons h187 (AllFn.cons h186 (AllFn.nil))), look_new AllNew.nil⟩ Tryz.func175 rfl rfl rfl).of (funext (f175_eq k F187 F186))
end Go.JL
