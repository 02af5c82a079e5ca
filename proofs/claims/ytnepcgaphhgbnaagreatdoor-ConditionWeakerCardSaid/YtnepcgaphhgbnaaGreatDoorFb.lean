/- Functions of the program as plain Lean functions. Printed by a program of mine; checked by the kernel. -/
import Derived.Test.YtnepcgaphhgbnaaGreatDoorFa
set_option linter.unusedVariables false
set_option maxRecDepth 100000
namespace Go.JL
open Go.Proofs
/-! joinlearn/limbs.sign -/
abbrev f231_cx : Cx := ⟨look tys, look [], 9, look [], [], []⟩
def f231_an : Ann := ⟨look [], look []⟩
def f231_b  (a0 : Int) : Option ((Int × Unit) × (Unit)) :=
 bif (decide (a0 < 0)) then (some (((-1), ()), ()))
 else (bif (decide (a0 > 0)) then (some ((1, ()), ()))
 else (some ((0, ()), ())))
def f231_I (k : Nat) (a0 : Int) : Option ((Int × Unit) × (Unit)) := f231_b a0
theorem f231_eq (k : Nat) (x : (Int × Unit)) : vfun (f231_cx) f231_an k Tryz.f231 [.val (.int .i64)] [(.int .i64)] x = f231_I k x.1 := by kernel_rfl
theorem f231_ok (k : Nat) : FnOk Tryz.prog 231 ⟨[.val (.int .i64)], [(.int .i64)], fun x => f231_I k x.1⟩ :=
 (fn_ok (an := f231_an) (k := k) follows_mixed tys_ok ⟨look_fn AllFn.nil, look_new AllNew.nil⟩ Tryz.func231 rfl rfl rfl).of (funext (f231_eq k))
/-! (joinlearn/limbs.natural).short -/
abbrev f224_cx (F187 : ((List Int) × Unit) → Option (((List Int) × Unit) × (Unit))) : Cx := ⟨look tys, look [(187, ⟨[.val (.list (.int .u64))], [(.list (.int .u64))], F187⟩)], 39, look [], [], []⟩
def f224_an : Ann := ⟨look [(0, ⟨[0, 1, 6, 7, 8], [1200], []⟩)], look []⟩
abbrev f224_Vl0 : Type := (List Int) × Int × Int × Int × (List Int)
def f224_Tl0 (v : f224_Vl0) : Nat → LV := tbl [(0, .c (.s (.list (.int .u64)) v.1)), (1, .c (.s (.int .u64) v.2.1)), (6, .c (.own 1200 0 .full)), (7, .c (.s (.int .u64) v.2.2.1)), (8, .c (.s (.int .i64) v.2.2.2.1))]
def f224_Hl0 (v : f224_Vl0) : Nat → Option VO := tblH [(1200, some ⟨0, .row (.int .u64) v.2.2.2.2, false⟩)]

def f224_bl0 (F187 : ((List Int) × Unit) → Option (((List Int) × Unit) × (Unit))) (Jl0 : f224_Vl0 → Option (((List Int) × Int × Unit) × (Unit))) : f224_Vl0 → Option (((List Int) × Int × Unit) × (Unit)) := fun (x1, x2, x3, x4, l5) =>
 bif (decide (x4 ≥ 0)) then (rd x1 x4 fun y6 =>
 bif (decide (x2 = 0)) then (none)
 else (bif (decide (x2 = 0)) then (none)
 else (chk (decide (0 ≤ x4)) <|
 chk (decide (x4.toNat < l5.length)) <|
 Option.bind l5[x4.toNat]? fun y7 =>
 Jl0 (x1, x2, ((IntKind.wrap .u64 ((IntKind.wrap .u64 (x3 * 1000000000)) + y6)).tmod x2), (w64 (x4 - 1)), (l5.set x4.toNat (IntKind.wrap .u64 ((IntKind.wrap .u64 ((IntKind.wrap .u64 (x3 * 1000000000)) + y6)).tdiv x2)))))))
 else (Option.bind (F187 (l5, ())) fun r8 =>
 some ((r8.1.1, x3, ()), ()))
def f224_b (F187 : ((List Int) × Unit) → Option (((List Int) × Unit) × (Unit))) (Jl0 : f224_Vl0 → Option (((List Int) × Int × Unit) × (Unit))) (a0 : (List Int)) (a1 : Int) : Option (((List Int) × Int × Unit) × (Unit)) :=
 chk ((decide (0 ≤ (a0.length : Int))) && (decide (8 * (a0.length : Int).toNat ≤ 140737488355328))) <|
 Jl0 (a0, a1, 0, (w64 ((a0.length : Int) - 1)), (List.replicate (a0.length : Int).toNat (0 : Int)))
def f224_Ll0 (k : Nat) (F187 : ((List Int) × Unit) → Option (((List Int) × Unit) × (Unit)))  : f224_Vl0 → Option (((List Int) × Int × Unit) × (Unit)) := loopI (fun Jl0 => f224_bl0 F187 Jl0) k
def f224_I (k : Nat) (F187 : ((List Int) × Unit) → Option (((List Int) × Unit) × (Unit))) (a0 : (List Int)) (a1 : Int) : Option (((List Int) × Int × Unit) × (Unit)) := f224_b F187 (f224_Ll0 k F187) a0 a1
theorem f224_el0 (k : Nat) (F187 : ((List Int) × Unit) → Option (((List Int) × Unit) × (Unit))) (Al0 : Jump (((List Int) × Int × Unit) × (Unit))) (v : f224_Vl0) : rawBody (f224_cx F187) f224_an k (bodyOf Tryz.f224) [1, 1, 1, 0, 1, 0] [] (vend (f224_cx F187) Tryz.f224 [.val (.list (.int .u64)), .val (.int .u64)] [(.list (.int .u64)), (.int .u64)]) Al0 (f224_Tl0 v) (f224_Hl0 v) =
 f224_bl0 F187 (fun v => Al0 (f224_Tl0 v) (f224_Hl0 v)) v := by kernel_rfl
theorem f224_ll0 (k : Nat) (F187 : ((List Int) × Unit) → Option (((List Int) × Unit) × (Unit))) (v : f224_Vl0) : rawLoop (f224_cx F187) f224_an k (bodyOf Tryz.f224) [1, 1, 1, 0, 1, 0] [] (vend (f224_cx F187) Tryz.f224 [.val (.list (.int .u64)), .val (.int .u64)] [(.list (.int .u64)), (.int .u64)]) k (f224_Tl0 v) (f224_Hl0 v) = f224_Ll0 k F187 v :=
 rawLoop_eq (bI := fun Jl0 => f224_bl0 F187 Jl0) f224_Tl0 f224_Hl0 (fun Al0 v => (f224_el0 k F187 Al0 v)) k v
theorem f224_e (k : Nat) (F187 : ((List Int) × Unit) → Option (((List Int) × Unit) × (Unit))) (x : ((List Int) × Int × Unit)) : vfun (f224_cx F187) f224_an k Tryz.f224 [.val (.list (.int .u64)), .val (.int .u64)] [(.list (.int .u64)), (.int .u64)] x =
 f224_b F187 (fun v => rawLoop (f224_cx F187) f224_an k (bodyOf Tryz.f224) [1, 1, 1, 0, 1, 0] [] (vend (f224_cx F187) Tryz.f224 [.val (.list (.int .u64)), .val (.int .u64)] [(.list (.int .u64)), (.int .u64)]) k (f224_Tl0 v) (f224_Hl0 v)) x.1 x.2.1 := by kernel_rfl
theorem f224_eq (k : Nat) (F187 : ((List Int) × Unit) → Option (((List Int) × Unit) × (Unit))) (x : ((List Int) × Int × Unit)) : vfun (f224_cx F187) f224_an k Tryz.f224 [.val (.list (.int .u64)), .val (.int .u64)] [(.list (.int .u64)), (.int .u64)] x = f224_I k F187 x.1 x.2.1 :=
 ((f224_e k F187 x).trans (congrArg (fun (J : f224_Vl0 → Option (((List Int) × Int × Unit) × (Unit))) => f224_b F187 J x.1 x.2.1) (funext (f224_ll0 k F187))))
theorem f224_ok (k : Nat) (F187 : ((List Int) × Unit) → Option (((List Int) × Unit) × (Unit))) (h187 : FnOk Tryz.prog 187 ⟨[.val (.list (.int .u64))], [(.list (.int .u64))], F187⟩) : FnOk Tryz.prog 224 ⟨[.val (.list (.int .u64)), .val (.int .u64)], [(.list (.int .u64)), (.int .u64)], fun x => f224_I k F187 x.1 x.2.1⟩ :=
 (fn_ok (an := f224_an) (k := k) follows_mixed tys_ok ⟨look_fn (AllFn.cons h187 (AllFn.nil)), look_new AllNew.nil⟩ Tryz.func224 rfl rfl rfl).of (funext (f224_eq k F187))
/-! (joinlearn/limbs.natural).sub -/
abbrev f223_cx (F178 : ((List Int) × Int × Unit) → Option ((Int × Unit) × (Unit))) (F187 : ((List Int) × Unit) → Option (((List Int) × Unit) × (Unit))) : Cx := ⟨look tys, look [(178, ⟨[.val (.list (.int .u64)), .val (.int .i64)], [(.int .u64)], F178⟩), (187, ⟨[.val (.list (.int .u64))], [(.list (.int .u64))], F187⟩)], 39, look [], [], []⟩
def f223_an : Ann := ⟨look [(0, ⟨[0, 1, 5, 6, 13, 14], [1100], []⟩)], look []⟩
abbrev f223_Vl0 : Type := (List Int) × (List Int) × Int × Int × Int × (List Int)
def f223_Tl0 (v : f223_Vl0) : Nat → LV := tbl [(0, .c (.s (.list (.int .u64)) v.1)), (1, .c (.s (.list (.int .u64)) v.2.1)), (5, .c (.own 1100 0 .full)), (6, .c (.s (.int .u64) v.2.2.1)), (13, .c (.s (.int .i64) v.2.2.2.1)), (14, .c (.s (.int .i64) v.2.2.2.2.1))]
def f223_Hl0 (v : f223_Vl0) : Nat → Option VO := tblH [(1100, some ⟨0, .row (.int .u64) v.2.2.2.2.2, false⟩)]

def f223_bl0 (F178 : ((List Int) × Int × Unit) → Option ((Int × Unit) × (Unit))) (F187 : ((List Int) × Unit) → Option (((List Int) × Unit) × (Unit))) (Jl0 : f223_Vl0 → Option (((List Int) × Unit) × (Unit))) : f223_Vl0 → Option (((List Int) × Unit) × (Unit)) := fun (x1, x2, x3, x4, x5, l6) =>
 bif (decide (x5 < x4)) then (rd x1 x5 fun y7 =>
 Option.bind (F178 (x2, x5, ())) fun r8 =>
 chk (decide (0 ≤ x5)) <|
 chk (decide (x5.toNat < l6.length)) <|
 Option.bind l6[x5.toNat]? fun y9 =>
 Jl0 (x1, x2, (IntKind.wrap .u64 (1 - (IntKind.wrap .u64 ((IntKind.wrap .u64 ((IntKind.wrap .u64 ((IntKind.wrap .u64 (y7 + 1000000000)) - r8.1.1)) - x3)).tdiv 1000000000)))), x4, (w64 (x5 + 1)), (l6.set x5.toNat ((IntKind.wrap .u64 ((IntKind.wrap .u64 ((IntKind.wrap .u64 (y7 + 1000000000)) - r8.1.1)) - x3)).tmod 1000000000))))
 else (Option.bind (F187 (l6, ())) fun r10 =>
 some ((r10.1.1, ()), ()))
def f223_b (F178 : ((List Int) × Int × Unit) → Option ((Int × Unit) × (Unit))) (F187 : ((List Int) × Unit) → Option (((List Int) × Unit) × (Unit))) (Jl0 : f223_Vl0 → Option (((List Int) × Unit) × (Unit))) (a0 : (List Int)) (a1 : (List Int)) : Option (((List Int) × Unit) × (Unit)) :=
 chk ((decide (0 ≤ (a0.length : Int))) && (decide (8 * (a0.length : Int).toNat ≤ 140737488355328))) <|
 Jl0 (a0, a1, 0, (a0.length : Int), 0, (List.replicate (a0.length : Int).toNat (0 : Int)))
def f223_Ll0 (k : Nat) (F178 : ((List Int) × Int × Unit) → Option ((Int × Unit) × (Unit))) (F187 : ((List Int) × Unit) → Option (((List Int) × Unit) × (Unit)))  : f223_Vl0 → Option (((List Int) × Unit) × (Unit)) := loopI (fun Jl0 => f223_bl0 F178 F187 Jl0) k
def f223_I (k : Nat) (F178 : ((List Int) × Int × Unit) → Option ((Int × Unit) × (Unit))) (F187 : ((List Int) × Unit) → Option (((List Int) × Unit) × (Unit))) (a0 : (List Int)) (a1 : (List Int)) : Option (((List Int) × Unit) × (Unit)) := f223_b F178 F187 (f223_Ll0 k F178 F187) a0 a1
theorem f223_el0 (k : Nat) (F178 : ((List Int) × Int × Unit) → Option ((Int × Unit) × (Unit))) (F187 : ((List Int) × Unit) → Option (((List Int) × Unit) × (Unit))) (Al0 : Jump (((List Int) × Unit) × (Unit))) (v : f223_Vl0) : rawBody (f223_cx F178 F187) f223_an k (bodyOf Tryz.f223) [1, 1, 1, 0, 1, 0] [] (vend (f223_cx F178 F187) Tryz.f223 [.val (.list (.int .u64)), .val (.list (.int .u64))] [(.list (.int .u64))]) Al0 (f223_Tl0 v) (f223_Hl0 v) =
 f223_bl0 F178 F187 (fun v => Al0 (f223_Tl0 v) (f223_Hl0 v)) v := by kernel_rfl
theorem f223_ll0 (k : Nat) (F178 : ((List Int) × Int × Unit) → Option ((Int × Unit) × (Unit))) (F187 : ((List Int) × Unit) → Option (((List Int) × Unit) × (Unit))) (v : f223_Vl0) : rawLoop (f223_cx F178 F187) f223_an k (bodyOf Tryz.f223) [1, 1, 1, 0, 1, 0] [] (vend (f223_cx F178 F187) Tryz.f223 [.val (.list (.int .u64)), .val (.list (.int .u64))] [(.list (.int .u64))]) k (f223_Tl0 v) (f223_Hl0 v) = f223_Ll0 k F178 F187 v :=
 rawLoop_eq (bI := fun Jl0 => f223_bl0 F178 F187 Jl0) f223_Tl0 f223_Hl0 (fun Al0 v => (f223_el0 k F178 F187 Al0 v)) k v
theorem f223_e (k : Nat) (F178 : ((List Int) × Int × Unit) → Option ((Int × Unit) × (Unit))) (F187 : ((List Int) × Unit) → Option (((List Int) × Unit) × (Unit))) (x : ((List Int) × (List Int) × Unit)) : vfun (f223_cx F178 F187) f223_an k Tryz.f223 [.val (.list (.int .u64)), .val (.list (.int .u64))] [(.list (.int .u64))] x =
 f223_b F178 F187 (fun v => rawLoop (f223_cx F178 F187) f223_an k (bodyOf Tryz.f223) [1, 1, 1, 0, 1, 0] [] (vend (f223_cx F178 F187) Tryz.f223 [.val (.list (.int .u64)), .val (.list (.int .u64))] [(.list (.int .u64))]) k (f223_Tl0 v) (f223_Hl0 v)) x.1 x.2.1 := by kernel_rfl
theorem f223_eq (k : Nat) (F178 : ((List Int) × Int × Unit) → Option ((Int × Unit) × (Unit))) (F187 : ((List Int) × Unit) → Option (((List Int) × Unit) × (Unit))) (x : ((List Int) × (List Int) × Unit)) : vfun (f223_cx F178 F187) f223_an k Tryz.f223 [.val (.list (.int .u64)), .val (.list (.int .u64))] [(.list (.int .u64))] x = f223_I k F178 F187 x.1 x.2.1 :=
 ((f223_e k F178 F187 x).trans (congrArg (fun (J : f223_Vl0 → Option (((List Int) × Unit) × (Unit))) => f223_b F178 F187 J x.1 x.2.1) (funext (f223_ll0 k F178 F187))))
theorem f223_ok (k : Nat) (F178 : ((List Int) × Int × Unit) → Option ((Int × Unit) × (Unit))) (F187 : ((List Int) × Unit) → Option (((List Int) × Unit) × (Unit))) (h178 : FnOk Tryz.prog 178 ⟨[.val (.list (.int .u64)), .val (.int .i64)], [(.int .u64)], F178⟩) (h187 : FnOk Tryz.prog 187 ⟨[.val (.list (.int .u64))], [(.list (.int .u64))], F187⟩) : FnOk Tryz.prog 223 ⟨[.val (.list (.int .u64)), .val (.list (.int .u64))], [(.list (.int .u64))], fun x => f223_I k F178 F187 x.1 x.2.1⟩ :=
 (fn_ok (an := f223_an) (k := k) follows_mixed tys_ok ⟨look_fn (AllFn.cons h178 (AllFn.cons h187 (AllFn.nil))), look_new AllNew.nil⟩ Tryz.func223 rfl rfl rfl).of (funext (f223_eq k F178 F187))
/-! (joinlearn/limbs.natural).compare -/
abbrev f222_cx (F231 : (Int × Unit) → Option ((Int × Unit) × (Unit))) : Cx := ⟨look tys, look [(231, ⟨[.val (.int .i64)], [(.int .i64)], F231⟩)], 42, look [], [], []⟩
def f222_an : Ann := ⟨look [(0, ⟨[0, 1, 5], [], []⟩)], look []⟩
abbrev f222_Vl0 : Type := (List Int) × (List Int) × Int
def f222_Tl0 (v : f222_Vl0) : Nat → LV := tbl [(0, .c (.s (.list (.int .u64)) v.1)), (1, .c (.s (.list (.int .u64)) v.2.1)), (5, .c (.s (.int .i64) v.2.2))]
def f222_Hl0 (v : f222_Vl0) : Nat → Option VO := tblH []

def f222_bl0 (F231 : (Int × Unit) → Option ((Int × Unit) × (Unit))) (Jl0 : f222_Vl0 → Option ((Int × Unit) × (Unit))) : f222_Vl0 → Option ((Int × Unit) × (Unit)) := fun (x2, x3, x4) =>
 bif (decide (x4 ≥ 0)) then (rd x2 x4 fun y5 =>
 rd x3 x4 fun y6 =>
 bif (decide (y5 < y6)) then (some (((-1), ()), ()))
 else (rd x2 x4 fun y7 =>
 rd x3 x4 fun y8 =>
 bif (decide (y7 > y8)) then (some ((1, ()), ()))
 else (Jl0 (x2, x3, (w64 (x4 - 1))))))
 else (some ((0, ()), ()))
def f222_b (F231 : (Int × Unit) → Option ((Int × Unit) × (Unit))) (Jl0 : f222_Vl0 → Option ((Int × Unit) × (Unit))) (a0 : (List Int)) (a1 : (List Int)) : Option ((Int × Unit) × (Unit)) :=
 bif ((a0.length : Int) != (a1.length : Int)) then (Option.bind (F231 ((w64 ((a0.length : Int) - (a1.length : Int))), ())) fun r1 =>
 some ((r1.1.1, ()), ()))
 else (Jl0 (a0, a1, (w64 ((a0.length : Int) - 1))))
def f222_Ll0 (k : Nat) (F231 : (Int × Unit) → Option ((Int × Unit) × (Unit)))  : f222_Vl0 → Option ((Int × Unit) × (Unit)) := loopI (fun Jl0 => f222_bl0 F231 Jl0) k
def f222_I (k : Nat) (F231 : (Int × Unit) → Option ((Int × Unit) × (Unit))) (a0 : (List Int)) (a1 : (List Int)) : Option ((Int × Unit) × (Unit)) := f222_b F231 (f222_Ll0 k F231) a0 a1
theorem f222_el0 (k : Nat) (F231 : (Int × Unit) → Option ((Int × Unit) × (Unit))) (Al0 : Jump ((Int × Unit) × (Unit))) (v : f222_Vl0) : rawBody (f222_cx F231) f222_an k (bodyOf Tryz.f222) [1, 1, 0, 1, 0] [] (vend (f222_cx F231) Tryz.f222 [.val (.list (.int .u64)), .val (.list (.int .u64))] [(.int .i64)]) Al0 (f222_Tl0 v) (f222_Hl0 v) =
 f222_bl0 F231 (fun v => Al0 (f222_Tl0 v) (f222_Hl0 v)) v := by kernel_rfl
theorem f222_ll0 (k : Nat) (F231 : (Int × Unit) → Option ((Int × Unit) × (Unit))) (v : f222_Vl0) : rawLoop (f222_cx F231) f222_an k (bodyOf Tryz.f222) [1, 1, 0, 1, 0] [] (vend (f222_cx F231) Tryz.f222 [.val (.list (.int .u64)), .val (.list (.int .u64))] [(.int .i64)]) k (f222_Tl0 v) (f222_Hl0 v) = f222_Ll0 k F231 v :=
 rawLoop_eq (bI := fun Jl0 => f222_bl0 F231 Jl0) f222_Tl0 f222_Hl0 (fun Al0 v => (f222_el0 k F231 Al0 v)) k v
theorem f222_e (k : Nat) (F231 : (Int × Unit) → Option ((Int × Unit) × (Unit))) (x : ((List Int) × (List Int) × Unit)) : vfun (f222_cx F231) f222_an k Tryz.f222 [.val (.list (.int .u64)), .val (.list (.int .u64))] [(.int .i64)] x =
 f222_b F231 (fun v => rawLoop (f222_cx F231) f222_an k (bodyOf Tryz.f222) [1, 1, 0, 1, 0] [] (vend (f222_cx F231) Tryz.f222 [.val (.list (.int .u64)), .val (.list (.int .u64))] [(.int .i64)]) k (f222_Tl0 v) (f222_Hl0 v)) x.1 x.2.1 := by kernel_rfl
theorem f222_eq (k : Nat) (F231 : (Int × Unit) → Option ((Int × Unit) × (Unit))) (x : ((List Int) × (List Int) × Unit)) : vfun (f222_cx F231) f222_an k Tryz.f222 [.val (.list (.int .u64)), .val (.list (.int .u64))] [(.int .i64)] x = f222_I k F231 x.1 x.2.1 :=
 ((f222_e k F231 x).trans (congrArg (fun (J : f222_Vl0 → Option ((Int × Unit) × (Unit))) => f222_b F231 J x.1 x.2.1) (funext (f222_ll0 k F231))))
theorem f222_ok (k : Nat) (F231 : (Int × Unit) → Option ((Int × Unit) × (Unit))) (h231 : FnOk Tryz.prog 231 ⟨[.val (.int .i64)], [(.int .i64)], F231⟩) : FnOk Tryz.prog 222 ⟨[.val (.list (.int .u64)), .val (.list (.int .u64))], [(.int .i64)], fun x => f222_I k F231 x.1 x.2.1⟩ :=
 (fn_ok (an := f222_an) (k := k) follows_mixed tys_ok ⟨look_fn (AllFn.cons h231 (AllFn.nil)), look_new AllNew.nil⟩ Tryz.func222 rfl rfl rfl).of (funext (f222_eq k F231))
/-! (joinlearn/limbs.natural).add -/
abbrev f221_cx (F178 : ((List Int) × Int × Unit) → Option ((Int × Unit) × (Unit))) (F187 : ((List Int) × Unit) → Option (((List Int) × Unit) × (Unit))) : Cx := ⟨look tys, look [(178, ⟨[.val (.list (.int .u64)), .val (.int .i64)], [(.int .u64)], F178⟩), (187, ⟨[.val (.list (.int .u64))], [(.list (.int .u64))], F187⟩)], 40, look [], [], []⟩
def f221_an : Ann := ⟨look [(0, ⟨[0, 1, 5, 6, 17, 18], [1500], []⟩)], look []⟩
abbrev f221_Vl0 : Type := (List Int) × (List Int) × Int × Int × Int × (List Int)
def f221_Tl0 (v : f221_Vl0) : Nat → LV := tbl [(0, .c (.s (.list (.int .u64)) v.1)), (1, .c (.s (.list (.int .u64)) v.2.1)), (5, .c (.own 1500 0 .full)), (6, .c (.s (.int .u64) v.2.2.1)), (17, .c (.s (.int .i64) v.2.2.2.1)), (18, .c (.s (.int .i64) v.2.2.2.2.1))]
def f221_Hl0 (v : f221_Vl0) : Nat → Option VO := tblH [(1500, some ⟨0, .row (.int .u64) v.2.2.2.2.2, false⟩)]

def f221_bl0 (F178 : ((List Int) × Int × Unit) → Option ((Int × Unit) × (Unit))) (F187 : ((List Int) × Unit) → Option (((List Int) × Unit) × (Unit))) (Jl0 : f221_Vl0 → Option (((List Int) × Unit) × (Unit))) : f221_Vl0 → Option (((List Int) × Unit) × (Unit)) := fun (x1, x2, x3, x4, x5, l6) =>
 bif (decide (x5 < x4)) then (Option.bind (F178 (x1, x5, ())) fun r7 =>
 Option.bind (F178 (x2, x5, ())) fun r8 =>
 chk (decide (0 ≤ x5)) <|
 chk (decide (x5.toNat < l6.length)) <|
 Option.bind l6[x5.toNat]? fun y9 =>
 Jl0 (x1, x2, (IntKind.wrap .u64 ((IntKind.wrap .u64 ((IntKind.wrap .u64 (r7.1.1 + r8.1.1)) + x3)).tdiv 1000000000)), x4, (w64 (x5 + 1)), (l6.set x5.toNat ((IntKind.wrap .u64 ((IntKind.wrap .u64 (r7.1.1 + r8.1.1)) + x3)).tmod 1000000000))))
 else (Option.bind (F187 (l6, ())) fun r10 =>
 some ((r10.1.1, ()), ()))
def f221_b (F178 : ((List Int) × Int × Unit) → Option ((Int × Unit) × (Unit))) (F187 : ((List Int) × Unit) → Option (((List Int) × Unit) × (Unit))) (Jl0 : f221_Vl0 → Option (((List Int) × Unit) × (Unit))) (a0 : (List Int)) (a1 : (List Int)) : Option (((List Int) × Unit) × (Unit)) :=
 chk ((decide (0 ≤ (w64 ((if (a1.length : Int) > (a0.length : Int) then (a1.length : Int) else (a0.length : Int)) + 1)))) && (decide (8 * (w64 ((if (a1.length : Int) > (a0.length : Int) then (a1.length : Int) else (a0.length : Int)) + 1)).toNat ≤ 140737488355328))) <|
 Jl0 (a0, a1, 0, ((List.replicate (w64 ((if (a1.length : Int) > (a0.length : Int) then (a1.length : Int) else (a0.length : Int)) + 1)).toNat (0 : Int)).length : Int), 0, (List.replicate (w64 ((if (a1.length : Int) > (a0.length : Int) then (a1.length : Int) else (a0.length : Int)) + 1)).toNat (0 : Int)))
def f221_Ll0 (k : Nat) (F178 : ((List Int) × Int × Unit) → Option ((Int × Unit) × (Unit))) (F187 : ((List Int) × Unit) → Option (((List Int) × Unit) × (Unit)))  : f221_Vl0 → Option (((List Int) × Unit) × (Unit)) := loopI (fun Jl0 => f221_bl0 F178 F187 Jl0) k
def f221_I (k : Nat) (F178 : ((List Int) × Int × Unit) → Option ((Int × Unit) × (Unit))) (F187 : ((List Int) × Unit) → Option (((List Int) × Unit) × (Unit))) (a0 : (List Int)) (a1 : (List Int)) : Option (((List Int) × Unit) × (Unit)) := f221_b F178 F187 (f221_Ll0 k F178 F187) a0 a1
theorem f221_el0 (k : Nat) (F178 : ((List Int) × Int × Unit) → Option ((Int × Unit) × (Unit))) (F187 : ((List Int) × Unit) → Option (((List Int) × Unit) × (Unit))) (Al0 : Jump (((List Int) × Unit) × (Unit))) (v : f221_Vl0) : rawBody (f221_cx F178 F187) f221_an k (bodyOf Tryz.f221) [1, 1, 1, 0, 1, 0] [] (vend (f221_cx F178 F187) Tryz.f221 [.val (.list (.int .u64)), .val (.list (.int .u64))] [(.list (.int .u64))]) Al0 (f221_Tl0 v) (f221_Hl0 v) =
 f221_bl0 F178 F187 (fun v => Al0 (f221_Tl0 v) (f221_Hl0 v)) v := by kernel_rfl
theorem f221_ll0 (k : Nat) (F178 : ((List Int) × Int × Unit) → Option ((Int × Unit) × (Unit))) (F187 : ((List Int) × Unit) → Option (((List Int) × Unit) × (Unit))) (v : f221_Vl0) : rawLoop (f221_cx F178 F187) f221_an k (bodyOf Tryz.f221) [1, 1, 1, 0, 1, 0] [] (vend (f221_cx F178 F187) Tryz.f221 [.val (.list (.int .u64)), .val (.list (.int .u64))] [(.list (.int .u64))]) k (f221_Tl0 v) (f221_Hl0 v) = f221_Ll0 k F178 F187 v :=
 rawLoop_eq (bI := fun Jl0 => f221_bl0 F178 F187 Jl0) f221_Tl0 f221_Hl0 (fun Al0 v => (f221_el0 k F178 F187 Al0 v)) k v
theorem f221_e (k : Nat) (F178 : ((List Int) × Int × Unit) → Option ((Int × Unit) × (Unit))) (F187 : ((List Int) × Unit) → Option (((List Int) × Unit) × (Unit))) (x : ((List Int) × (List Int) × Unit)) : vfun (f221_cx F178 F187) f221_an k Tryz.f221 [.val (.list (.int .u64)), .val (.list (.int .u64))] [(.list (.int .u64))] x =
 f221_b F178 F187 (fun v => rawLoop (f221_cx F178 F187) f221_an k (bodyOf Tryz.f221) [1, 1, 1, 0, 1, 0] [] (vend (f221_cx F178 F187) Tryz.f221 [.val (.list (.int .u64)), .val (.list (.int .u64))] [(.list (.int .u64))]) k (f221_Tl0 v) (f221_Hl0 v)) x.1 x.2.1 := by kernel_rfl
theorem f221_eq (k : Nat) (F178 : ((List Int) × Int × Unit) → Option ((Int × Unit) × (Unit))) (F187 : ((List Int) × Unit) → Option (((List Int) × Unit) × (Unit))) (x : ((List Int) × (List Int) × Unit)) : vfun (f221_cx F178 F187) f221_an k Tryz.f221 [.val (.list (.int .u64)), .val (.list (.int .u64))] [(.list (.int .u64))] x = f221_I k F178 F187 x.1 x.2.1 :=
 ((f221_e k F178 F187 x).trans (congrArg (fun (J : f221_Vl0 → Option (((List Int) × Unit) × (Unit))) => f221_b F178 F187 J x.1 x.2.1) (funext (f221_ll0 k F178 F187))))
theorem f221_ok (k : Nat) (F178 : ((List Int) × Int × Unit) → Option ((Int × Unit) × (Unit))) (F187 : ((List Int) × Unit) → Option (((List Int) × Unit) × (Unit))) (h178 : FnOk Tryz.prog 178 ⟨[.val (.list (.int .u64)), .val (.int .i64)], [(.int .u64)], F178⟩) (h187 : FnOk Tryz.prog 187 ⟨[.val (.list (.int .u64))], [(.list (.int .u64))], F187⟩) : FnOk Tryz.prog 221 ⟨[.val (.list (.int .u64)), .val (.list (.int .u64))], [(.list (.int .u64))], fun x => f221_I k F178 F187 x.1 x.2.1⟩ :=
 (fn_ok (an := f221_an) (k := k) follows_mixed tys_ok ⟨look_fn (AllFn.cons h178 (AllFn.cons h187 (AllFn.nil))), look_new AllNew.nil⟩ Tryz.func221 rfl rfl rfl).of (funext (f221_eq k F178 F187))
/-! internal/stringslite.HasPrefix -/
abbrev f214_cx : Cx := ⟨look tys, look [], 18, look [], [], []⟩
def f214_an : Ann := ⟨look [], look []⟩
def f214_b  (a0 : (List UInt8)) (a1 : (List UInt8)) : Option ((Bool × Unit) × (Unit)) :=
 bif (decide ((a0.length : Int) ≥ (a1.length : Int))) then (chk ((decide (0 ≤ (a1.length : Int))) && (decide ((a1.length : Int).toNat ≤ a0.length))) <|
 some ((((a0.take (a1.length : Int).toNat) == a1), ()), ()))
 else (some ((false, ()), ()))
def f214_I (k : Nat) (a0 : (List UInt8)) (a1 : (List UInt8)) : Option ((Bool × Unit) × (Unit)) := f214_b a0 a1
theorem f214_eq (k : Nat) (x : ((List UInt8) × (List UInt8) × Unit)) : vfun (f214_cx) f214_an k Tryz.f214 [.val .str, .val .str] [.bool] x = f214_I k x.1 x.2.1 := by kernel_rfl
theorem f214_ok (k : Nat) : FnOk Tryz.prog 214 ⟨[.val .str, .val .str], [.bool], fun x => f214_I k x.1 x.2.1⟩ :=
 (fn_ok (an := f214_an) (k := k) follows_mixed tys_ok ⟨look_fn AllFn.nil, look_new AllNew.nil⟩ Tryz.func214 rfl rfl rfl).of (funext (f214_eq k))
/-! internal/stringslite.IndexByte -/
abbrev f210_cx (F226 : ((List UInt8) × Int × Unit) → Option ((Int × Unit) × (Unit))) : Cx := ⟨look tys, look [(226, ⟨[.val .str, .val (.int .u8)], [(.int .i64)], F226⟩)], 8, look [], [], []⟩
def f210_an : Ann := ⟨look [], look []⟩
def f210_b (F226 : ((List UInt8) × Int × Unit) → Option ((Int × Unit) × (Unit)))  (a0 : (List UInt8)) (a1 : Int) : Option ((Int × Unit) × (Unit)) :=
 Option.bind (F226 (a0, a1, ())) fun r1 =>
 some ((r1.1.1, ()), ())
def f210_I (k : Nat) (F226 : ((List UInt8) × Int × Unit) → Option ((Int × Unit) × (Unit))) (a0 : (List UInt8)) (a1 : Int) : Option ((Int × Unit) × (Unit)) := f210_b F226 a0 a1
theorem f210_eq (k : Nat) (F226 : ((List UInt8) × Int × Unit) → Option ((Int × Unit) × (Unit))) (x : ((List UInt8) × Int × Unit)) : vfun (f210_cx F226) f210_an k Tryz.f210 [.val .str, .val (.int .u8)] [(.int .i64)] x = f210_I k F226 x.1 x.2.1 := by kernel_rfl
theorem f210_ok (k : Nat) (F226 : ((List UInt8) × Int × Unit) → Option ((Int × Unit) × (Unit))) (h226 : FnOk Tryz.prog 226 ⟨[.val .str, .val (.int .u8)], [(.int .i64)], F226⟩) : FnOk Tryz.prog 210 ⟨[.val .str, .val (.int .u8)], [(.int .i64)], fun x => f210_I k F226 x.1 x.2.1⟩ :=
 (fn_ok (an := f210_an) (k := k) follows_mixed tys_ok ⟨look_fn (AllFn.cons h226 (AllFn.nil)), look_new AllNew.nil⟩ Tryz.func210 rfl rfl rfl).of (funext (f210_eq k F226))
/-! (joinlearn/limbs.natural).divide -/
abbrev f209_cx (F222 : ((List Int) × (List Int) × Unit) → Option ((Int × Unit) × (Unit))) (F224 : ((List Int) × Int × Unit) → Option (((List Int) × Int × Unit) × (Unit))) (F187 : ((List Int) × Unit) → Option (((List Int) × Unit) × (Unit))) (F188 : ((List Int) × (List Int) × Unit) → Option (((List Int) × Unit) × (Unit))) : Cx := ⟨look tys, look [(222, ⟨[.val (.list (.int .u64)), .val (.list (.int .u64))], [(.int .i64)], F222⟩), (224, ⟨[.val (.list (.int .u64)), .val (.int .u64)], [(.list (.int .u64)), (.int .u64)], F224⟩), (187, ⟨[.val (.list (.int .u64))], [(.list (.int .u64))], F187⟩), (188, ⟨[.val (.list (.int .u64)), .val (.list (.int .u64))], [(.list (.int .u64))], F188⟩)], 94, look [], [], []⟩
def f209_an : Ann := ⟨look [], look []⟩
def f209_b (F222 : ((List Int) × (List Int) × Unit) → Option ((Int × Unit) × (Unit))) (F224 : ((List Int) × Int × Unit) → Option (((List Int) × Int × Unit) × (Unit))) (F187 : ((List Int) × Unit) → Option (((List Int) × Unit) × (Unit))) (F188 : ((List Int) × (List Int) × Unit) → Option (((List Int) × Unit) × (Unit)))  (a0 : (List Int)) (a1 : (List Int)) : Option (((List Int) × (List Int) × Unit) × (Unit)) :=
 Option.bind (F222 (a0, a1, ())) fun r1 =>
 bif (decide (r1.1.1 < 0)) then (some ((([] : List Int), a0, ()), ()))
 else (bif ((a1.length : Int) == 1) then (rd a1 0 fun y2 =>
 Option.bind (F224 (a0, y2, ())) fun r3 =>
 Option.bind (F187 (([r3.1.2.1] : List Int), ())) fun r4 =>
 some ((r3.1.1, r4.1.1, ()), ()))
 else (rd a1 (w64 ((a1.length : Int) - 1)) fun y5 =>
 bif (decide ((IntKind.wrap .u64 (y5 + 1)) = 0)) then (none)
 else (chk ((decide (0 ≤ (w64 ((a0.length : Int) + 1)))) && (decide (8 * (w64 ((a0.length : Int) + 1)).toNat ≤ 140737488355328))) <|
 Option.bind (F188 (a1, ([(IntKind.wrap .u64 ((1000000000 : Int).tdiv (IntKind.wrap .u64 (y5 + 1))))] : List Int), ())) fun r6 =>
 Option.bind (F188 (a0, ([(IntKind.wrap .u64 ((1000000000 : Int).tdiv (IntKind.wrap .u64 (y5 + 1))))] : List Int), ())) fun r7 =>
 none)))
def f209_I (k : Nat) (F222 : ((List Int) × (List Int) × Unit) → Option ((Int × Unit) × (Unit))) (F224 : ((List Int) × Int × Unit) → Option (((List Int) × Int × Unit) × (Unit))) (F187 : ((List Int) × Unit) → Option (((List Int) × Unit) × (Unit))) (F188 : ((List Int) × (List Int) × Unit) → Option (((List Int) × Unit) × (Unit))) (a0 : (List Int)) (a1 : (List Int)) : Option (((List Int) × (List Int) × Unit) × (Unit)) := f209_b F222 F224 F187 F188 a0 a1
theorem f209_eq (k : Nat) (F222 : ((List Int) × (List Int) × Unit) → Option ((Int × Unit) × (Unit))) (F224 : ((List Int) × Int × Unit) → Option (((List Int) × Int × Unit) × (Unit))) (F187 : ((List Int) × Unit) → Option (((List Int) × Unit) × (Unit))) (F188 : ((List Int) × (List Int) × Unit) → Option (((List Int) × Unit) × (Unit))) (x : ((List Int) × (List Int) × Unit)) : vfun (f209_cx F222 F224 F187 F188) f209_an k Tryz.f209 [.val (.list (.int .u64)), .val (.list (.int .u64))] [(.list (.int .u64)), (.list (.int .u64))] x = f209_I k F222 F224 F187 F188 x.1 x.2.1 := by kernel_rfl
theorem f209_ok (k : Nat) (F222 : ((List Int) × (List Int) × Unit) → Option ((Int × Unit) × (Unit))) (F224 : ((List Int) × Int × Unit) → Option (((List Int) × Int × Unit) × (Unit))) (F187 : ((List Int) × Unit) → Option (((List Int) × Unit) × (Unit))) (F188 : ((List Int) × (List Int) × Unit) → Option (((List Int) × Unit) × (Unit))) (h222 : FnOk Tryz.prog 222 ⟨[.val (.list (.int .u64)), .val (.list (.int .u64))], [(.int .i64)], F222⟩) (h224 : FnOk Tryz.prog 224 ⟨[.val (.list (.int .u64)), .val (.int .u64)], [(.list (.int .u64)), (.int .u64)], F224⟩) (h187 : FnOk Tryz.prog 187 ⟨[.val (.list (.int .u64))], [(.list (.int .u64))], F187⟩) (h188 : FnOk Tryz.prog 188 ⟨[.val (.list (.int .u64)), .val (.list (.int .u64))], [(.list (.int .u64))], F188⟩) : FnOk Tryz.prog 209 ⟨[.val (.list (.int .u64)), .val (.list (.int .u64))], [(.list (.int .u64)), (.list (.int .u64))], fun x => f209_I k F222 F224 F187 F188 x.1 x.2.1⟩ :=
 (fn_ok (an := f209_an) (k := k) follows_mixed tys_ok ⟨look_fn (AllFn.cons h222 (AllFn.cons h224 (AllFn.cons h187 (AllFn.cons h188 (AllFn.nil))))), look_new AllNew.nil⟩ Tryz.func209 rfl rfl rfl).of (funext (f209_eq k F222 F224 F187 F188))
/-! (joinlearn/limbs.Number).Neg -/
abbrev f206_cx (F186 : (Bool × (List Int) × Unit) → Option (((Bool × (List Int)) × Unit) × (Unit))) : Cx := ⟨look tys, look [(186, ⟨[.val .bool, .val (.list (.int .u64))], [(.pair .bool (.list (.int .u64)))], F186⟩)], 9, look [], [], []⟩
def f206_an : Ann := ⟨look [], look []⟩
def f206_b (F186 : (Bool × (List Int) × Unit) → Option (((Bool × (List Int)) × Unit) × (Unit)))  (a0 : (Bool × (List Int))) : Option (((Bool × (List Int)) × Unit) × (Unit)) :=
 Option.bind (F186 ((!a0.1), a0.2, ())) fun r1 =>
 some ((r1.1.1, ()), ())
def f206_I (k : Nat) (F186 : (Bool × (List Int) × Unit) → Option (((Bool × (List Int)) × Unit) × (Unit))) (a0 : (Bool × (List Int))) : Option (((Bool × (List Int)) × Unit) × (Unit)) := f206_b F186 a0
theorem f206_eq (k : Nat) (F186 : (Bool × (List Int) × Unit) → Option (((Bool × (List Int)) × Unit) × (Unit))) (x : ((Bool × (List Int)) × Unit)) : vfun (f206_cx F186) f206_an k Tryz.f206 [.val (.pair .bool (.list (.int .u64)))] [(.pair .bool (.list (.int .u64)))] x = f206_I k F186 x.1 := by kernel_rfl
theorem f206_ok (k : Nat) (F186 : (Bool × (List Int) × Unit) → Option (((Bool × (List Int)) × Unit) × (Unit))) (h186 : FnOk Tryz.prog 186 ⟨[.val .bool, .val (.list (.int .u64))], [(.pair .bool (.list (.int .u64)))], F186⟩) : FnOk Tryz.prog 206 ⟨[.val (.pair .bool (.list (.int .u64)))], [(.pair .bool (.list (.int .u64)))], fun x => f206_I k F186 x.1⟩ :=
 (fn_ok (an := f206_an) (k := k) follows_mixed tys_ok ⟨look_fn (AllFn.cons h186 (AllFn.nil)), look_new AllNew.nil⟩ Tryz.func206 rfl rfl rfl).of (funext (f206_eq k F186))
/-! (joinlearn/limbs.Number).Add -/
abbrev f205_cx (F221 : ((List Int) × (List Int) × Unit) → Option (((List Int) × Unit) × (Unit))) (F186 : (Bool × (List Int) × Unit) → Option (((Bool × (List Int)) × Unit) × (Unit))) (F222 : ((List Int) × (List Int) × Unit) → Option ((Int × Unit) × (Unit))) (F223 : ((List Int) × (List Int) × Unit) → Option (((List Int) × Unit) × (Unit))) : Cx := ⟨look tys, look [(221, ⟨[.val (.list (.int .u64)), .val (.list (.int .u64))], [(.list (.int .u64))], F221⟩), (186, ⟨[.val .bool, .val (.list (.int .u64))], [(.pair .bool (.list (.int .u64)))], F186⟩), (222, ⟨[.val (.list (.int .u64)), .val (.list (.int .u64))], [(.int .i64)], F222⟩), (223, ⟨[.val (.list (.int .u64)), .val (.list (.int .u64))], [(.list (.int .u64))], F223⟩)], 42, look [], [], []⟩
def f205_an : Ann := ⟨look [], look []⟩
def f205_b (F221 : ((List Int) × (List Int) × Unit) → Option (((List Int) × Unit) × (Unit))) (F186 : (Bool × (List Int) × Unit) → Option (((Bool × (List Int)) × Unit) × (Unit))) (F222 : ((List Int) × (List Int) × Unit) → Option ((Int × Unit) × (Unit))) (F223 : ((List Int) × (List Int) × Unit) → Option (((List Int) × Unit) × (Unit)))  (a0 : (Bool × (List Int))) (a1 : (Bool × (List Int))) : Option (((Bool × (List Int)) × Unit) × (Unit)) :=
 bif (a0.1 == a1.1) then (Option.bind (F221 (a0.2, a1.2, ())) fun r1 =>
 Option.bind (F186 (a0.1, r1.1.1, ())) fun r2 =>
 some ((r2.1.1, ()), ()))
 else (Option.bind (F222 (a0.2, a1.2, ())) fun r3 =>
 bif (decide (r3.1.1 ≥ 0)) then (Option.bind (F223 (a0.2, a1.2, ())) fun r4 =>
 Option.bind (F186 (a0.1, r4.1.1, ())) fun r5 =>
 some ((r5.1.1, ()), ()))
 else (Option.bind (F223 (a1.2, a0.2, ())) fun r6 =>
 Option.bind (F186 (a1.1, r6.1.1, ())) fun r7 =>
 some ((r7.1.1, ()), ())))
def f205_I (k : Nat) (F221 : ((List Int) × (List Int) × Unit) → Option (((List Int) × Unit) × (Unit))) (F186 : (Bool × (List Int) × Unit) → Option (((Bool × (List Int)) × Unit) × (Unit))) (F222 : ((List Int) × (List Int) × Unit) → Option ((Int × Unit) × (Unit))) (F223 : ((List Int) × (List Int) × Unit) → Option (((List Int) × Unit) × (Unit))) (a0 : (Bool × (List Int))) (a1 : (Bool × (List Int))) : Option (((Bool × (List Int)) × Unit) × (Unit)) := f205_b F221 F186 F222 F223 a0 a1
theorem f205_eq (k : Nat) (F221 : ((List Int) × (List Int) × Unit) → Option (((List Int) × Unit) × (Unit))) (F186 : (Bool × (List Int) × Unit) → Option (((Bool × (List Int)) × Unit) × (Unit))) (F222 : ((List Int) × (List Int) × Unit) → Option ((Int × Unit) × (Unit))) (F223 : ((List Int) × (List Int) × Unit) → Option (((List Int) × Unit) × (Unit))) (x : ((Bool × (List Int)) × (Bool × (List Int)) × Unit)) : vfun (f205_cx F221 F186 F222 F223) f205_an k Tryz.f205 [.val (.pair .bool (.list (.int .u64))), .val (.pair .bool (.list (.int .u64)))] [(.pair .bool (.list (.int .u64)))] x = f205_I k F221 F186 F222 F223 x.1 x.2.1 := by kernel_rfl
theorem f205_ok (k : Nat) (F221 : ((List Int) × (List Int) × Unit) → Option (((List Int) × Unit) × (Unit))) (F186 : (Bool × (List Int) × Unit) → Option (((Bool × (List Int)) × Unit) × (Unit))) (F222 : ((List Int) × (List Int) × Unit) → Option ((Int × Unit) × (Unit))) (F223 : ((List Int) × (List Int) × Unit) → Option (((List Int) × Unit) × (Unit))) (h221 : FnOk Tryz.prog 221 ⟨[.val (.list (.int .u64)), .val (.list (.int .u64))], [(.list (.int .u64))], F221⟩) (h186 : FnOk Tryz.prog 186 ⟨[.val .bool, .val (.list (.int .u64))], [(.pair .bool (.list (.int .u64)))], F186⟩) (h222 : FnOk Tryz.prog 222 ⟨[.val (.list (.int .u64)), .val (.list (.int .u64))], [(.int .i64)], F222⟩) (h223 : FnOk Tryz.prog 223 ⟨[.val (.list (.int .u64)), .val (.list (.int .u64))], [(.list (.int .u64))], F223⟩) : FnOk Tryz.prog 205 ⟨[.val (.pair .bool (.list (.int .u64))), .val (.pair .bool (.list (.int .u64)))], [(.pair .bool (.list (.int .u64)))], fun x => f205_I k F221 F186 F222 F223 x.1 x.2.1⟩ :=
 (fn_ok (an := f205_an) (k := k) follows_mixed tys_ok ⟨look_fn (AllFn.cons h221 (AllFn.cons h186 (AllFn.cons h222 (AllFn.cons h223 (AllFn.nil))))), look_new AllNew.nil⟩ Tryz.func205 rfl rfl rfl).of (funext (f205_eq k F221 F186 F222 F223))
end Go.JL
