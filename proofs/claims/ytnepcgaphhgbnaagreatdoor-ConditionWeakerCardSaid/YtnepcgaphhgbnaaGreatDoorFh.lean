/- Functions of the program as plain Lean functions. Printed by a program of mine; checked by the kernel. -/
import Derived.Test.YtnepcgaphhgbnaaGreatDoorFa
set_option linter.unusedVariables false
set_option maxRecDepth 100000
namespace Go.JL
open Go.Proofs
/-! joinlearn/joinlearnref02.New -/
abbrev f123_cx (F148 : (Int × Unit) → Option ((((Bool × (List Int)) × (Bool × (List Int))) × Unit) × (Unit))) (F147 : ((Bool × (List Int)) × (Bool × (List Int)) × Unit) → Option (((Bool × (List Int)) × Unit) × (Unit))) (F149 : ((Bool × (List Int)) × (Bool × (List Int)) × Unit) → Option (((Bool × (List Int)) × (Bool × (List Int)) × Unit) × (Unit))) (F150 : ((Bool × (List Int)) × Unit) → Option (((Bool × (List Int)) × Unit) × (Unit))) : Cx := ⟨look tys, look [(148, ⟨[.val (.int .i64)], [(.pair (.pair .bool (.list (.int .i64))) (.pair .bool (.list (.int .i64))))], F148⟩), (147, ⟨[.val (.pair .bool (.list (.int .i64))), .val (.pair .bool (.list (.int .i64)))], [(.pair .bool (.list (.int .i64)))], F147⟩), (149, ⟨[.val (.pair .bool (.list (.int .i64))), .val (.pair .bool (.list (.int .i64)))], [(.pair .bool (.list (.int .i64))), (.pair .bool (.list (.int .i64)))], F149⟩), (150, ⟨[.val (.pair .bool (.list (.int .i64)))], [(.pair .bool (.list (.int .i64)))], F150⟩)], 39, look [], [], []⟩
def f123_an : Ann := ⟨look [], look []⟩
def f123_b (F148 : (Int × Unit) → Option ((((Bool × (List Int)) × (Bool × (List Int))) × Unit) × (Unit))) (F147 : ((Bool × (List Int)) × (Bool × (List Int)) × Unit) → Option (((Bool × (List Int)) × Unit) × (Unit))) (F149 : ((Bool × (List Int)) × (Bool × (List Int)) × Unit) → Option (((Bool × (List Int)) × (Bool × (List Int)) × Unit) × (Unit))) (F150 : ((Bool × (List Int)) × Unit) → Option (((Bool × (List Int)) × Unit) × (Unit)))  (a0 : (Bool × (List Int))) (a1 : (Bool × (List Int))) : Option ((((Bool × (List Int)) × (Bool × (List Int))) × Unit) × (Unit)) :=
 bif ((a1.2.length : Int) == 0) then (Option.bind (F148 (0, ())) fun r1 =>
 some ((r1.1.1, ()), ()))
 else (Option.bind (F147 (a0, a1, ())) fun r2 =>
 Option.bind (F149 (a0, r2.1.1, ())) fun r3 =>
 Option.bind (F149 (a1, r2.1.1, ())) fun r4 =>
 bif r4.1.1.1 then (Option.bind (F150 (r3.1.1, ())) fun r5 =>
 Option.bind (F150 (r4.1.1, ())) fun r6 =>
 some (((r5.1.1, r6.1.1), ()), ()))
 else (some (((r3.1.1, r4.1.1), ()), ())))
def f123_I (k : Nat) (F148 : (Int × Unit) → Option ((((Bool × (List Int)) × (Bool × (List Int))) × Unit) × (Unit))) (F147 : ((Bool × (List Int)) × (Bool × (List Int)) × Unit) → Option (((Bool × (List Int)) × Unit) × (Unit))) (F149 : ((Bool × (List Int)) × (Bool × (List Int)) × Unit) → Option (((Bool × (List Int)) × (Bool × (List Int)) × Unit) × (Unit))) (F150 : ((Bool × (List Int)) × Unit) → Option (((Bool × (List Int)) × Unit) × (Unit))) (a0 : (Bool × (List Int))) (a1 : (Bool × (List Int))) : Option ((((Bool × (List Int)) × (Bool × (List Int))) × Unit) × (Unit)) := f123_b F148 F147 F149 F150 a0 a1
theorem f123_eq (k : Nat) (F148 : (Int × Unit) → Option ((((Bool × (List Int)) × (Bool × (List Int))) × Unit) × (Unit))) (F147 : ((Bool × (List Int)) × (Bool × (List Int)) × Unit) → Option (((Bool × (List Int)) × Unit) × (Unit))) (F149 : ((Bool × (List Int)) × (Bool × (List Int)) × Unit) → Option (((Bool × (List Int)) × (Bool × (List Int)) × Unit) × (Unit))) (F150 : ((Bool × (List Int)) × Unit) → Option (((Bool × (List Int)) × Unit) × (Unit))) (x : ((Bool × (List Int)) × (Bool × (List Int)) × Unit)) : vfun (f123_cx F148 F147 F149 F150) f123_an k Tryz.f123 [.val (.pair .bool (.list (.int .i64))), .val (.pair .bool (.list (.int .i64)))] [(.pair (.pair .bool (.list (.int .i64))) (.pair .bool (.list (.int .i64))))] x = f123_I k F148 F147 F149 F150 x.1 x.2.1 := by kernel_rfl
theorem f123_ok (k : Nat) (F148 : (Int × Unit) → Option ((((Bool × (List Int)) × (Bool × (List Int))) × Unit) × (Unit))) (F147 : ((Bool × (List Int)) × (Bool × (List Int)) × Unit) → Option (((Bool × (List Int)) × Unit) × (Unit))) (F149 : ((Bool × (List Int)) × (Bool × (List Int)) × Unit) → Option (((Bool × (List Int)) × (Bool × (List Int)) × Unit) × (Unit))) (F150 : ((Bool × (List Int)) × Unit) → Option (((Bool × (List Int)) × Unit) × (Unit))) (h148 : FnOk Tryz.prog 148 ⟨[.val (.int .i64)], [(.pair (.pair .bool (.list (.int .i64))) (.pair .bool (.list (.int .i64))))], F148⟩) (h147 : FnOk Tryz.prog 147 ⟨[.val (.pair .bool (.list (.int .i64))), .val (.pair .bool (.list (.int .i64)))], [(.pair .bool (.list (.int .i64)))], F147⟩) (h149 : FnOk Tryz.prog 149 ⟨[.val (.pair .bool (.list (.int .i64))), .val (.pair .bool (.list (.int .i64)))], [(.pair .bool (.list (.int .i64))), (.pair .bool (.list (.int .i64)))], F149⟩) (h150 : FnOk Tryz.prog 150 ⟨[.val (.pair .bool (.list (.int .i64)))], [(.pair .bool (.list (.int .i64)))], F150⟩) : FnOk Tryz.prog 123 ⟨[.val (.pair .bool (.list (.int .i64))), .val (.pair .bool (.list (.int .i64)))], [(.pair (.pair .bool (.list (.int .i64))) (.pair .bool (.list (.int .i64))))], fun x => f123_I k F148 F147 F149 F150 x.1 x.2.1⟩ :=
 (fn_ok (an := f123_an) (k := k) follows_mixed tys_ok ⟨look_fn (AllFn.cons h148 (AllFn.cons h147 (AllFn.cons h149 (AllFn.cons h150 (AllFn.nil))))), look_new AllNew.nil⟩ Tryz.func123 rfl rfl rfl).of (funext (f123_eq k F148 F147 F149 F150))
/-! joinlearn/joinlearnref02.split -/
abbrev f122_cx : Cx := ⟨look tys, look [], 24, look [], [], []⟩
def f122_an : Ann := ⟨look [(0, ⟨[0, 5], [], []⟩)], look []⟩
abbrev f122_Vl0 : Type := (List UInt8) × Int
def f122_Tl0 (v : f122_Vl0) : Nat → LV := tbl [(0, .c (.s .str v.1)), (5, .c (.s (.int .i64) v.2))]
def f122_Hl0 (v : f122_Vl0) : Nat → Option VO := tblH []

def f122_bl0 (Jl0 : f122_Vl0 → Option (((List UInt8) × (List UInt8) × Bool × Unit) × (Unit))) : f122_Vl0 → Option (((List UInt8) × (List UInt8) × Bool × Unit) × (Unit)) := fun (x1, x2) =>
 bif (decide (x2 < (x1.length : Int))) then (rd x1 x2 fun y3 =>
 bif ((y3.toNat : Int) == 47) then (chk ((decide (0 ≤ x2)) && (decide (x2.toNat ≤ x1.length))) <|
 chk ((decide (0 ≤ (w64 (x2 + 1)))) && (decide ((w64 (x2 + 1)).toNat ≤ x1.length))) <|
 some (((x1.take x2.toNat), (x1.drop (w64 (x2 + 1)).toNat), true, ()), ()))
 else (Jl0 (x1, (w64 (x2 + 1)))))
 else (some ((x1, ([49] : List UInt8), false, ()), ()))
def f122_b (Jl0 : f122_Vl0 → Option (((List UInt8) × (List UInt8) × Bool × Unit) × (Unit))) (a0 : (List UInt8)) : Option (((List UInt8) × (List UInt8) × Bool × Unit) × (Unit)) :=
 Jl0 (a0, 0)
def f122_Ll0 (k : Nat)  : f122_Vl0 → Option (((List UInt8) × (List UInt8) × Bool × Unit) × (Unit)) := loopI (fun Jl0 => f122_bl0 Jl0) k
def f122_I (k : Nat) (a0 : (List UInt8)) : Option (((List UInt8) × (List UInt8) × Bool × Unit) × (Unit)) := f122_b (f122_Ll0 k) a0
theorem f122_el0 (k : Nat) (Al0 : Jump (((List UInt8) × (List UInt8) × Bool × Unit) × (Unit))) (v : f122_Vl0) : rawBody (f122_cx) f122_an k (bodyOf Tryz.f122) [1, 0, 1, 0] [] (vend (f122_cx) Tryz.f122 [.val .str] [.str, .str, .bool]) Al0 (f122_Tl0 v) (f122_Hl0 v) =
 f122_bl0 (fun v => Al0 (f122_Tl0 v) (f122_Hl0 v)) v := by kernel_rfl
theorem f122_ll0 (k : Nat) (v : f122_Vl0) : rawLoop (f122_cx) f122_an k (bodyOf Tryz.f122) [1, 0, 1, 0] [] (vend (f122_cx) Tryz.f122 [.val .str] [.str, .str, .bool]) k (f122_Tl0 v) (f122_Hl0 v) = f122_Ll0 k v :=
 rawLoop_eq (bI := fun Jl0 => f122_bl0 Jl0) f122_Tl0 f122_Hl0 (fun Al0 v => (f122_el0 k Al0 v)) k v
theorem f122_e (k : Nat) (x : ((List UInt8) × Unit)) : vfun (f122_cx) f122_an k Tryz.f122 [.val .str] [.str, .str, .bool] x =
 f122_b (fun v => rawLoop (f122_cx) f122_an k (bodyOf Tryz.f122) [1, 0, 1, 0] [] (vend (f122_cx) Tryz.f122 [.val .str] [.str, .str, .bool]) k (f122_Tl0 v) (f122_Hl0 v)) x.1 := by kernel_rfl
theorem f122_eq (k : Nat) (x : ((List UInt8) × Unit)) : vfun (f122_cx) f122_an k Tryz.f122 [.val .str] [.str, .str, .bool] x = f122_I k x.1 :=
 ((f122_e k x).trans (congrArg (fun (J : f122_Vl0 → Option (((List UInt8) × (List UInt8) × Bool × Unit) × (Unit))) => f122_b J x.1) (funext (f122_ll0 k))))
theorem f122_ok (k : Nat) : FnOk Tryz.prog 122 ⟨[.val .str], [.str, .str, .bool], fun x => f122_I k x.1⟩ :=
 (fn_ok (an := f122_an) (k := k) follows_mixed tys_ok ⟨look_fn AllFn.nil, look_new AllNew.nil⟩ Tryz.func122 rfl rfl rfl).of (funext (f122_eq k))
/-! joinlearn/joinlearnref02.Parts -/
abbrev f121_cx (F122 : ((List UInt8) × Unit) → Option (((List UInt8) × (List UInt8) × Bool × Unit) × (Unit))) (F108 : ((List UInt8) × Unit) → Option ((Bool × Unit) × (Unit))) (F109 : ((List UInt8) × Unit) → Option (((Bool × (List Int)) × Unit) × (Unit))) (F147 : ((Bool × (List Int)) × (Bool × (List Int)) × Unit) → Option (((Bool × (List Int)) × Unit) × (Unit))) (F111 : ((Bool × (List Int)) × Unit) → Option (((List UInt8) × Unit) × (Unit))) : Cx := ⟨look tys, look [(122, ⟨[.val .str], [.str, .str, .bool], F122⟩), (108, ⟨[.val .str], [.bool], F108⟩), (109, ⟨[.val .str], [(.pair .bool (.list (.int .i64)))], F109⟩), (147, ⟨[.val (.pair .bool (.list (.int .i64))), .val (.pair .bool (.list (.int .i64)))], [(.pair .bool (.list (.int .i64)))], F147⟩), (111, ⟨[.val (.pair .bool (.list (.int .i64)))], [.str], F111⟩)], 54, look [], [], []⟩
def f121_an : Ann := ⟨look [], look []⟩
def f121_b (F122 : ((List UInt8) × Unit) → Option (((List UInt8) × (List UInt8) × Bool × Unit) × (Unit))) (F108 : ((List UInt8) × Unit) → Option ((Bool × Unit) × (Unit))) (F109 : ((List UInt8) × Unit) → Option (((Bool × (List Int)) × Unit) × (Unit))) (F147 : ((Bool × (List Int)) × (Bool × (List Int)) × Unit) → Option (((Bool × (List Int)) × Unit) × (Unit))) (F111 : ((Bool × (List Int)) × Unit) → Option (((List UInt8) × Unit) × (Unit)))  (a0 : (List UInt8)) : Option (((List UInt8) × (List UInt8) × Bool × Unit) × (Unit)) :=
 bif (decide ((a0.length : Int) > 802)) then (some ((([] : List UInt8), ([] : List UInt8), false, ()), ()))
 else (Option.bind (F122 (a0, ())) fun r1 =>
 Option.bind (F108 (r1.1.1, ())) fun r2 =>
 bif (!r2.1.1) then (some ((([] : List UInt8), ([] : List UInt8), false, ()), ()))
 else (Option.bind (F108 (r1.1.2.1, ())) fun r3 =>
 bif (!r3.1.1) then (some ((([] : List UInt8), ([] : List UInt8), false, ()), ()))
 else (bif r1.1.2.2.1 then (bif (r1.1.1 == ([48] : List UInt8)) then (some ((([] : List UInt8), ([] : List UInt8), false, ()), ()))
 else (bif (r1.1.2.1 == ([49] : List UInt8)) then (some ((([] : List UInt8), ([] : List UInt8), false, ()), ()))
 else (bif (r1.1.2.1 == ([48] : List UInt8)) then (some ((([] : List UInt8), ([] : List UInt8), false, ()), ()))
 else (rd r1.1.2.1 0 fun y4 =>
 bif ((y4.toNat : Int) == 45) then (some ((([] : List UInt8), ([] : List UInt8), false, ()), ()))
 else (Option.bind (F109 (r1.1.1, ())) fun r5 =>
 Option.bind (F109 (r1.1.2.1, ())) fun r6 =>
 Option.bind (F147 (r5.1.1, r6.1.1, ())) fun r7 =>
 Option.bind (F111 (r7.1.1, ())) fun r8 =>
 bif (!(r8.1.1 == ([49] : List UInt8))) then (some ((([] : List UInt8), ([] : List UInt8), false, ()), ()))
 else (some ((r1.1.1, r1.1.2.1, true, ()), ())))))))
 else (some ((r1.1.1, r1.1.2.1, true, ()), ())))))
def f121_I (k : Nat) (F122 : ((List UInt8) × Unit) → Option (((List UInt8) × (List UInt8) × Bool × Unit) × (Unit))) (F108 : ((List UInt8) × Unit) → Option ((Bool × Unit) × (Unit))) (F109 : ((List UInt8) × Unit) → Option (((Bool × (List Int)) × Unit) × (Unit))) (F147 : ((Bool × (List Int)) × (Bool × (List Int)) × Unit) → Option (((Bool × (List Int)) × Unit) × (Unit))) (F111 : ((Bool × (List Int)) × Unit) → Option (((List UInt8) × Unit) × (Unit))) (a0 : (List UInt8)) : Option (((List UInt8) × (List UInt8) × Bool × Unit) × (Unit)) := f121_b F122 F108 F109 F147 F111 a0
theorem f121_eq (k : Nat) (F122 : ((List UInt8) × Unit) → Option (((List UInt8) × (List UInt8) × Bool × Unit) × (Unit))) (F108 : ((List UInt8) × Unit) → Option ((Bool × Unit) × (Unit))) (F109 : ((List UInt8) × Unit) → Option (((Bool × (List Int)) × Unit) × (Unit))) (F147 : ((Bool × (List Int)) × (Bool × (List Int)) × Unit) → Option (((Bool × (List Int)) × Unit) × (Unit))) (F111 : ((Bool × (List Int)) × Unit) → Option (((List UInt8) × Unit) × (Unit))) (x : ((List UInt8) × Unit)) : vfun (f121_cx F122 F108 F109 F147 F111) f121_an k Tryz.f121 [.val .str] [.str, .str, .bool] x = f121_I k F122 F108 F109 F147 F111 x.1 := by kernel_rfl
theorem f121_ok (k : Nat) (F122 : ((List UInt8) × Unit) → Option (((List UInt8) × (List UInt8) × Bool × Unit) × (Unit))) (F108 : ((List UInt8) × Unit) → Option ((Bool × Unit) × (Unit))) (F109 : ((List UInt8) × Unit) → Option (((Bool × (List Int)) × Unit) × (Unit))) (F147 : ((Bool × (List Int)) × (Bool × (List Int)) × Unit) → Option (((Bool × (List Int)) × Unit) × (Unit))) (F111 : ((Bool × (List Int)) × Unit) → Option (((List UInt8) × Unit) × (Unit))) (h122 : FnOk Tryz.prog 122 ⟨[.val .str], [.str, .str, .bool], F122⟩) (h108 : FnOk Tryz.prog 108 ⟨[.val .str], [.bool], F108⟩) (h109 : FnOk Tryz.prog 109 ⟨[.val .str], [(.pair .bool (.list (.int .i64)))], F109⟩) (h147 : FnOk Tryz.prog 147 ⟨[.val (.pair .bool (.list (.int .i64))), .val (.pair .bool (.list (.int .i64)))], [(.pair .bool (.list (.int .i64)))], F147⟩) (h111 : FnOk Tryz.prog 111 ⟨[.val (.pair .bool (.list (.int .i64)))], [.str], F111⟩) : FnOk Tryz.prog 121 ⟨[.val .str], [.str, .str, .bool], fun x => f121_I k F122 F108 F109 F147 F111 x.1⟩ :=
 (fn_ok (an := f121_an) (k := k) follows_mixed tys_ok ⟨look_fn (AllFn.cons h122 (AllFn.cons h108 (AllFn.cons h109 (AllFn.cons h147 (AllFn.cons h111 (AllFn.nil)))))), look_new AllNew.nil⟩ Tryz.func121 rfl rfl rfl).of (funext (f121_eq k F122 F108 F109 F147 F111))
/-! joinlearn/schema.Word -/
abbrev f120_cx : Cx := ⟨look tys, look [], 47, look [], [], []⟩
def f120_an : Ann := ⟨look [(0, ⟨[0, 7, 8, 9], [], []⟩)], look []⟩
/-! joinlearn/integer.Small -/
abbrev f119_cx (F144 : ((List UInt8) × Unit) → Option ((Bool × Unit) × (Unit))) (F145 : ((List UInt8) × Unit) → Option (((Bool × (List Int)) × Unit) × (Unit))) (F146 : ((Bool × (List Int)) × Unit) → Option ((Int × Bool × Unit) × (Unit))) : Cx := ⟨look tys, look [(144, ⟨[.val .str], [.bool], F144⟩), (145, ⟨[.val .str], [(.pair .bool (.list (.int .u64)))], F145⟩), (146, ⟨[.val (.pair .bool (.list (.int .u64)))], [(.int .i64), .bool], F146⟩)], 12, look [], [], []⟩
def f119_an : Ann := ⟨look [], look []⟩
def f119_b (F144 : ((List UInt8) × Unit) → Option ((Bool × Unit) × (Unit))) (F145 : ((List UInt8) × Unit) → Option (((Bool × (List Int)) × Unit) × (Unit))) (F146 : ((Bool × (List Int)) × Unit) → Option ((Int × Bool × Unit) × (Unit)))  (a0 : (List UInt8)) : Option ((Int × Bool × Unit) × (Unit)) :=
 Option.bind (F144 (a0, ())) fun r1 =>
 bif (!r1.1.1) then (some ((0, false, ()), ()))
 else (Option.bind (F145 (a0, ())) fun r2 =>
 Option.bind (F146 (r2.1.1, ())) fun r3 =>
 some ((r3.1.1, r3.1.2.1, ()), ()))
def f119_I (k : Nat) (F144 : ((List UInt8) × Unit) → Option ((Bool × Unit) × (Unit))) (F145 : ((List UInt8) × Unit) → Option (((Bool × (List Int)) × Unit) × (Unit))) (F146 : ((Bool × (List Int)) × Unit) → Option ((Int × Bool × Unit) × (Unit))) (a0 : (List UInt8)) : Option ((Int × Bool × Unit) × (Unit)) := f119_b F144 F145 F146 a0
theorem f119_eq (k : Nat) (F144 : ((List UInt8) × Unit) → Option ((Bool × Unit) × (Unit))) (F145 : ((List UInt8) × Unit) → Option (((Bool × (List Int)) × Unit) × (Unit))) (F146 : ((Bool × (List Int)) × Unit) → Option ((Int × Bool × Unit) × (Unit))) (x : ((List UInt8) × Unit)) : vfun (f119_cx F144 F145 F146) f119_an k Tryz.f119 [.val .str] [(.int .i64), .bool] x = f119_I k F144 F145 F146 x.1 := by kernel_rfl
theorem f119_ok (k : Nat) (F144 : ((List UInt8) × Unit) → Option ((Bool × Unit) × (Unit))) (F145 : ((List UInt8) × Unit) → Option (((Bool × (List Int)) × Unit) × (Unit))) (F146 : ((Bool × (List Int)) × Unit) → Option ((Int × Bool × Unit) × (Unit))) (h144 : FnOk Tryz.prog 144 ⟨[.val .str], [.bool], F144⟩) (h145 : FnOk Tryz.prog 145 ⟨[.val .str], [(.pair .bool (.list (.int .u64)))], F145⟩) (h146 : FnOk Tryz.prog 146 ⟨[.val (.pair .bool (.list (.int .u64)))], [(.int .i64), .bool], F146⟩) : FnOk Tryz.prog 119 ⟨[.val .str], [(.int .i64), .bool], fun x => f119_I k F144 F145 F146 x.1⟩ :=
 (fn_ok (an := f119_an) (k := k) follows_mixed tys_ok ⟨look_fn (AllFn.cons h144 (AllFn.cons h145 (AllFn.cons h146 (AllFn.nil)))), look_new AllNew.nil⟩ Tryz.func119 rfl rfl rfl).of (funext (f119_eq k F144 F145 F146))
/-! joinlearn/rational.Parts -/
abbrev f118_cx (F142 : ((List UInt8) × Unit) → Option ((Bool × Unit) × (Unit))) (F143 : ((List UInt8) × (List UInt8) × Unit) → Option (((List UInt8) × (List UInt8) × Bool × Unit) × (Unit))) : Cx := ⟨look tys, look [(142, ⟨[.val .str], [.bool], F142⟩), (143, ⟨[.val .str, .val .str], [.str, .str, .bool], F143⟩)], 21, look [], [], []⟩
def f118_an : Ann := ⟨look [], look []⟩
def f118_b (F142 : ((List UInt8) × Unit) → Option ((Bool × Unit) × (Unit))) (F143 : ((List UInt8) × (List UInt8) × Unit) → Option (((List UInt8) × (List UInt8) × Bool × Unit) × (Unit)))  (a0 : (List UInt8)) : Option (((List UInt8) × (List UInt8) × Bool × Unit) × (Unit)) :=
 Option.bind (F142 (a0, ())) fun r1 =>
 bif (!r1.1.1) then (some ((([] : List UInt8), ([] : List UInt8), false, ()), ()))
 else (Option.bind (F143 (a0, ([47] : List UInt8), ())) fun r2 =>
 bif (!r2.1.2.2.1) then (some ((r2.1.1, ([49] : List UInt8), true, ()), ()))
 else (some ((r2.1.1, r2.1.2.1, true, ()), ())))
def f118_I (k : Nat) (F142 : ((List UInt8) × Unit) → Option ((Bool × Unit) × (Unit))) (F143 : ((List UInt8) × (List UInt8) × Unit) → Option (((List UInt8) × (List UInt8) × Bool × Unit) × (Unit))) (a0 : (List UInt8)) : Option (((List UInt8) × (List UInt8) × Bool × Unit) × (Unit)) := f118_b F142 F143 a0
theorem f118_eq (k : Nat) (F142 : ((List UInt8) × Unit) → Option ((Bool × Unit) × (Unit))) (F143 : ((List UInt8) × (List UInt8) × Unit) → Option (((List UInt8) × (List UInt8) × Bool × Unit) × (Unit))) (x : ((List UInt8) × Unit)) : vfun (f118_cx F142 F143) f118_an k Tryz.f118 [.val .str] [.str, .str, .bool] x = f118_I k F142 F143 x.1 := by kernel_rfl
theorem f118_ok (k : Nat) (F142 : ((List UInt8) × Unit) → Option ((Bool × Unit) × (Unit))) (F143 : ((List UInt8) × (List UInt8) × Unit) → Option (((List UInt8) × (List UInt8) × Bool × Unit) × (Unit))) (h142 : FnOk Tryz.prog 142 ⟨[.val .str], [.bool], F142⟩) (h143 : FnOk Tryz.prog 143 ⟨[.val .str, .val .str], [.str, .str, .bool], F143⟩) : FnOk Tryz.prog 118 ⟨[.val .str], [.str, .str, .bool], fun x => f118_I k F142 F143 x.1⟩ :=
 (fn_ok (an := f118_an) (k := k) follows_mixed tys_ok ⟨look_fn (AllFn.cons h142 (AllFn.cons h143 (AllFn.nil))), look_new AllNew.nil⟩ Tryz.func118 rfl rfl rfl).of (funext (f118_eq k F142 F143))
/-! joinlearn/schema.bounded -/
abbrev f117_cx (F119 : ((List UInt8) × Unit) → Option ((Int × Bool × Unit) × (Unit))) : Cx := ⟨look tys, look [(119, ⟨[.val .str], [(.int .i64), .bool], F119⟩)], 19, look [], [], []⟩
def f117_an : Ann := ⟨look [], look []⟩
def f117_b (F119 : ((List UInt8) × Unit) → Option ((Int × Bool × Unit) × (Unit)))  (a0 : (List UInt8)) : Option ((Bool × Unit) × (Unit)) :=
 Option.bind (F119 (a0, ())) fun r1 =>
 bif r1.1.2.1 then (bif (decide (r1.1.1 ≥ (-1000000000))) then (some (((decide (r1.1.1 ≤ 1000000000)), ()), ()))
 else (some ((false, ()), ())))
 else (some ((false, ()), ()))
def f117_I (k : Nat) (F119 : ((List UInt8) × Unit) → Option ((Int × Bool × Unit) × (Unit))) (a0 : (List UInt8)) : Option ((Bool × Unit) × (Unit)) := f117_b F119 a0
theorem f117_eq (k : Nat) (F119 : ((List UInt8) × Unit) → Option ((Int × Bool × Unit) × (Unit))) (x : ((List UInt8) × Unit)) : vfun (f117_cx F119) f117_an k Tryz.f117 [.val .str] [.bool] x = f117_I k F119 x.1 := by kernel_rfl
theorem f117_ok (k : Nat) (F119 : ((List UInt8) × Unit) → Option ((Int × Bool × Unit) × (Unit))) (h119 : FnOk Tryz.prog 119 ⟨[.val .str], [(.int .i64), .bool], F119⟩) : FnOk Tryz.prog 117 ⟨[.val .str], [.bool], fun x => f117_I k F119 x.1⟩ :=
 (fn_ok (an := f117_an) (k := k) follows_mixed tys_ok ⟨look_fn (AllFn.cons h119 (AllFn.nil)), look_new AllNew.nil⟩ Tryz.func117 rfl rfl rfl).of (funext (f117_eq k F119))
/-! (joinlearn/joinlearnref01.Big).Text -/
abbrev f111_cx : Cx := ⟨look tys, look [], 81, look [], [], []⟩
def f111_an : Ann := ⟨look [(0, ⟨[1, 3, 4], [100, 300], []⟩), (2, ⟨[1, 3, 4, 5, 6], [100, 300], []⟩), (4, ⟨[1, 3], [100], []⟩), (6, ⟨[3, 7, 8], [], []⟩)], look []⟩
abbrev f111_Vl0 : Type := Int × Bool × (List Int) × (List Int)
def f111_Tl0 (v : f111_Vl0) : Nat → LV := tbl [(1, .c (.ptr 100 0 0)), (3, .c (.own 300 0 .full)), (4, .c (.s (.int .i64) v.1))]
def f111_Hl0 (v : f111_Vl0) : Nat → Option VO := tblH [(100, some ⟨0, .cells [.s .bool v.2.1, .s (.list (.int .i64)) v.2.2.1], false⟩), (300, some ⟨0, .row (.int .u8) v.2.2.2, false⟩)]

abbrev f111_Vl2 : Type := Int × Int × Int × Bool × (List Int) × (List Int)
def f111_Tl2 (v : f111_Vl2) : Nat → LV := tbl [(1, .c (.ptr 100 0 0)), (3, .c (.own 300 0 .full)), (4, .c (.s (.int .i64) v.1)), (5, .c (.s (.int .i64) v.2.1)), (6, .c (.s (.int .i64) v.2.2.1))]
def f111_Hl2 (v : f111_Vl2) : Nat → Option VO := tblH [(100, some ⟨0, .cells [.s .bool v.2.2.2.1, .s (.list (.int .i64)) v.2.2.2.2.1], false⟩), (300, some ⟨0, .row (.int .u8) v.2.2.2.2.2, false⟩)]

abbrev f111_Vl4 : Type := (List Int) × Bool × (List Int)
def f111_Tl4 (v : f111_Vl4) : Nat → LV := tbl [(1, .c (.ptr 100 0 0)), (3, .c (.s (.list (.int .u8)) v.1))]
def f111_Hl4 (v : f111_Vl4) : Nat → Option VO := tblH [(100, some ⟨0, .cells [.s .bool v.2.1, .s (.list (.int .i64)) v.2.2], false⟩)]

abbrev f111_Vl6 : Type := (List Int) × Int × Int
def f111_Tl6 (v : f111_Vl6) : Nat → LV := tbl [(3, .c (.s (.list (.int .u8)) v.1)), (7, .c (.s (.int .i64) v.2.1)), (8, .c (.s (.int .i64) v.2.2))]
def f111_Hl6 (v : f111_Vl6) : Nat → Option VO := tblH []

def f111_bl0 (Jl2 : f111_Vl2 → Option (((List UInt8) × Unit) × (Unit))) (Jl4 : f111_Vl4 → Option (((List UInt8) × Unit) × (Unit))) : f111_Vl0 → Option (((List UInt8) × Unit) × (Unit)) := fun (x1, x2, x3, l4) =>
 bif (decide (x1 < (x3.length : Int))) then (rd x3 x1 fun y5 =>
 Jl2 (x1, y5, 0, x2, x3, l4))
 else (Jl4 (l4, x2, x3))
def f111_bl2 (Jl0 : f111_Vl0 → Option (((List UInt8) × Unit) × (Unit))) (Jl2 : f111_Vl2 → Option (((List UInt8) × Unit) × (Unit))) : f111_Vl2 → Option (((List UInt8) × Unit) × (Unit)) := fun (x6, x7, x8, x9, x10, l11) =>
 bif (decide (x8 < 9)) then (chk (roomFor (l11.length + 1) 1) <|
 Jl2 (x6, (w64 (x7.tdiv 10)), (w64 (x8 + 1)), x9, x10, (l11 ++ ([(IntKind.wrap .u8 ((w64 (48 + (x7.tmod 10)))))] : List Int))))
 else (Jl0 ((w64 (x6 + 1)), x9, x10, l11))
def f111_bl4 (Jl4 : f111_Vl4 → Option (((List UInt8) × Unit) × (Unit))) (Jl6 : f111_Vl6 → Option (((List UInt8) × Unit) × (Unit))) : f111_Vl4 → Option (((List UInt8) × Unit) × (Unit)) := fun (x12, x13, x14) =>
 rd x12 (w64 ((x12.length : Int) - 1)) fun y15 =>
 bif (y15 == 48) then (chk ((decide (0 ≤ (w64 ((x12.length : Int) - 1)))) && (decide ((w64 ((x12.length : Int) - 1)).toNat ≤ x12.length))) <|
 Jl4 ((x12.take (w64 ((x12.length : Int) - 1)).toNat), x13, x14))
 else (bif x13 then (none)
 else (Jl6 (x12, 0, (w64 ((x12.length : Int) - 1)))))
def f111_bl6  : f111_Vl6 → Option (((List UInt8) × Unit) × (Unit)) := fun (x16, x17, x18) =>
 bif (decide (x17 < x18)) then (rd x16 x18 fun y19 =>
 rd x16 x17 fun y20 =>
 rd x16 x17 fun y21 =>
 none)
 else (some (((x16.map fun n => UInt8.ofNat n.toNat), ()), ()))
def f111_b (Jl0 : f111_Vl0 → Option (((List UInt8) × Unit) × (Unit))) (a0 : (Bool × (List Int))) : Option (((List UInt8) × Unit) × (Unit)) :=
 bif ((a0.2.length : Int) == 0) then (some ((([48] : List UInt8), ()), ()))
 else (Jl0 (0, a0.1, a0.2, ([] : List Int)))
def f111_Ll6 (k : Nat)  : f111_Vl6 → Option (((List UInt8) × Unit) × (Unit)) := loopI (fun Jl6 => f111_bl6) k
def f111_Ll4 (k : Nat)  : f111_Vl4 → Option (((List UInt8) × Unit) × (Unit)) := loopI (fun Jl4 => f111_bl4 Jl4 (f111_Ll6 k)) k
def f111_Ll2 (k : Nat) (Jl0 : f111_Vl0 → Option (((List UInt8) × Unit) × (Unit))) : f111_Vl2 → Option (((List UInt8) × Unit) × (Unit)) := loopI (fun Jl2 => f111_bl2 Jl0 Jl2) k
def f111_Ll0 (k : Nat)  : f111_Vl0 → Option (((List UInt8) × Unit) × (Unit)) := loopI (fun Jl0 => f111_bl0 (f111_Ll2 k Jl0) (f111_Ll4 k)) k
def f111_I (k : Nat) (a0 : (Bool × (List Int))) : Option (((List UInt8) × Unit) × (Unit)) := f111_b (f111_Ll0 k) a0
theorem f111_el6 (k : Nat) (Al6 : Jump (((List UInt8) × Unit) × (Unit))) (v : f111_Vl6) : rawBody (f111_cx) f111_an k (bodyOf Tryz.f111) [1, 1, 1, 1, 1, 1, 0, 1, 0] [] (vend (f111_cx) Tryz.f111 [.val (.pair .bool (.list (.int .i64)))] [.str]) Al6 (f111_Tl6 v) (f111_Hl6 v) =
 f111_bl6 v := by kernel_rfl
theorem f111_ll6 (k : Nat) (v : f111_Vl6) : rawLoop (f111_cx) f111_an k (bodyOf Tryz.f111) [1, 1, 1, 1, 1, 1, 0, 1, 0] [] (vend (f111_cx) Tryz.f111 [.val (.pair .bool (.list (.int .i64)))] [.str]) k (f111_Tl6 v) (f111_Hl6 v) = f111_Ll6 k v :=
 rawLoop_eq (bI := fun Jl6 => f111_bl6) f111_Tl6 f111_Hl6 (fun Al6 v => (f111_el6 k Al6 v)) k v
theorem f111_el4 (k : Nat) (Al4 : Jump (((List UInt8) × Unit) × (Unit))) (v : f111_Vl4) : rawBody (f111_cx) f111_an k (bodyOf Tryz.f111) [1, 1, 1, 1, 0, 0] [] (vend (f111_cx) Tryz.f111 [.val (.pair .bool (.list (.int .i64)))] [.str]) Al4 (f111_Tl4 v) (f111_Hl4 v) =
 f111_bl4 (fun v => Al4 (f111_Tl4 v) (f111_Hl4 v)) (fun v => rawLoop (f111_cx) f111_an k (bodyOf Tryz.f111) [1, 1, 1, 1, 1, 1, 0, 1, 0] [] (vend (f111_cx) Tryz.f111 [.val (.pair .bool (.list (.int .i64)))] [.str]) k (f111_Tl6 v) (f111_Hl6 v)) v := by kernel_rfl
theorem f111_ll4 (k : Nat) (v : f111_Vl4) : rawLoop (f111_cx) f111_an k (bodyOf Tryz.f111) [1, 1, 1, 1, 0, 0] [] (vend (f111_cx) Tryz.f111 [.val (.pair .bool (.list (.int .i64)))] [.str]) k (f111_Tl4 v) (f111_Hl4 v) = f111_Ll4 k v :=
 rawLoop_eq (bI := fun Jl4 => f111_bl4 Jl4 (f111_Ll6 k)) f111_Tl4 f111_Hl4 (fun Al4 v => ((f111_el4 k Al4 v).trans (congrArg (fun (J : f111_Vl6 → Option (((List UInt8) × Unit) × (Unit))) => f111_bl4 (fun v => Al4 (f111_Tl4 v) (f111_Hl4 v)) J v) (funext (f111_ll6 k))))) k v
theorem f111_el2 (k : Nat) (Al0 : Jump (((List UInt8) × Unit) × (Unit))) (Al2 : Jump (((List UInt8) × Unit) × (Unit))) (v : f111_Vl2) : rawBody (f111_cx) f111_an k (bodyOf Tryz.f111) [1, 1, 1, 0, 1, 0, 0, 1, 0, 0, 1, 1, 0] [Al0] (vend (f111_cx) Tryz.f111 [.val (.pair .bool (.list (.int .i64)))] [.str]) Al2 (f111_Tl2 v) (f111_Hl2 v) =
 f111_bl2 (fun v => Al0 (f111_Tl0 v) (f111_Hl0 v)) (fun v => Al2 (f111_Tl2 v) (f111_Hl2 v)) v := by kernel_rfl
theorem f111_ll2 (k : Nat) (Al0 : Jump (((List UInt8) × Unit) × (Unit))) (v : f111_Vl2) : rawLoop (f111_cx) f111_an k (bodyOf Tryz.f111) [1, 1, 1, 0, 1, 0, 0, 1, 0, 0, 1, 1, 0] [Al0] (vend (f111_cx) Tryz.f111 [.val (.pair .bool (.list (.int .i64)))] [.str]) k (f111_Tl2 v) (f111_Hl2 v) = f111_Ll2 k (fun v => Al0 (f111_Tl0 v) (f111_Hl0 v)) v :=
 rawLoop_eq (bI := fun Jl2 => f111_bl2 (fun v => Al0 (f111_Tl0 v) (f111_Hl0 v)) Jl2) f111_Tl2 f111_Hl2 (fun Al2 v => (f111_el2 k Al0 Al2 v)) k v
theorem f111_el0 (k : Nat) (Al0 : Jump (((List UInt8) × Unit) × (Unit))) (v : f111_Vl0) : rawBody (f111_cx) f111_an k (bodyOf Tryz.f111) [1, 1, 1, 0, 1, 0] [] (vend (f111_cx) Tryz.f111 [.val (.pair .bool (.list (.int .i64)))] [.str]) Al0 (f111_Tl0 v) (f111_Hl0 v) =
 f111_bl0 (fun v => rawLoop (f111_cx) f111_an k (bodyOf Tryz.f111) [1, 1, 1, 0, 1, 0, 0, 1, 0, 0, 1, 1, 0] [Al0] (vend (f111_cx) Tryz.f111 [.val (.pair .bool (.list (.int .i64)))] [.str]) k (f111_Tl2 v) (f111_Hl2 v)) (fun v => rawLoop (f111_cx) f111_an k (bodyOf Tryz.f111) [1, 1, 1, 1, 0, 0] [] (vend (f111_cx) Tryz.f111 [.val (.pair .bool (.list (.int .i64)))] [.str]) k (f111_Tl4 v) (f111_Hl4 v)) v := by kernel_rfl
theorem f111_ll0 (k : Nat) (v : f111_Vl0) : rawLoop (f111_cx) f111_an k (bodyOf Tryz.f111) [1, 1, 1, 0, 1, 0] [] (vend (f111_cx) Tryz.f111 [.val (.pair .bool (.list (.int .i64)))] [.str]) k (f111_Tl0 v) (f111_Hl0 v) = f111_Ll0 k v :=
 rawLoop_eq (bI := fun Jl0 => f111_bl0 (f111_Ll2 k Jl0) (f111_Ll4 k)) f111_Tl0 f111_Hl0 (fun Al0 v => (((f111_el0 k Al0 v).trans (congrArg (fun (J : f111_Vl2 → Option (((List UInt8) × Unit) × (Unit))) => f111_bl0 J (fun v => rawLoop (f111_cx) f111_an k (bodyOf Tryz.f111) [1, 1, 1, 1, 0, 0] [] (vend (f111_cx) Tryz.f111 [.val (.pair .bool (.list (.int .i64)))] [.str]) k (f111_Tl4 v) (f111_Hl4 v)) v) (funext (f111_ll2 k Al0)))).trans (congrArg (fun (J : f111_Vl4 → Option (((List UInt8) × Unit) × (Unit))) => f111_bl0 (f111_Ll2 k (fun v => Al0 (f111_Tl0 v) (f111_Hl0 v))) J v) (funext (f111_ll4 k))))) k v
theorem f111_e (k : Nat) (x : ((Bool × (List Int)) × Unit)) : vfun (f111_cx) f111_an k Tryz.f111 [.val (.pair .bool (.list (.int .i64)))] [.str] x =
 f111_b (fun v => rawLoop (f111_cx) f111_an k (bodyOf Tryz.f111) [1, 1, 1, 0, 1, 0] [] (vend (f111_cx) Tryz.f111 [.val (.pair .bool (.list (.int .i64)))] [.str]) k (f111_Tl0 v) (f111_Hl0 v)) x.1 := by kernel_rfl
theorem f111_eq (k : Nat) (x : ((Bool × (List Int)) × Unit)) : vfun (f111_cx) f111_an k Tryz.f111 [.val (.pair .bool (.list (.int .i64)))] [.str] x = f111_I k x.1 :=
 ((f111_e k x).trans (congrArg (fun (J : f111_Vl0 → Option (((List UInt8) × Unit) × (Unit))) => f111_b J x.1) (funext (f111_ll0 k))))
theorem f111_ok (k : Nat) : FnOk Tryz.prog 111 ⟨[.val (.pair .bool (.list (.int .i64)))], [.str], fun x => f111_I k x.1⟩ :=
 (fn_ok (an := f111_an) (k := k) follows_mixed tys_ok ⟨look_fn AllFn.nil, look_new AllNew.nil⟩ Tryz.func111 rfl rfl rfl).of (funext (f111_eq k))
/-! joinlearn/joinlearnref01.Read -/
abbrev f109_cx (F136 : ((Bool × (List Int)) × Unit) → Option (((Bool × (List Int)) × Unit) × (Unit))) : Cx := ⟨look tys, look [(136, ⟨[.val (.pair .bool (.list (.int .i64)))], [(.pair .bool (.list (.int .i64)))], F136⟩)], 53, look [], [], []⟩
def f109_an : Ann := ⟨look [(0, ⟨[2, 3, 4], [200, 202, 400, 402], [(400, 1, 402, (.int .i64))]⟩), (2, ⟨[2, 3, 4, 5, 6, 7], [200, 202, 400, 402], []⟩)], look []⟩
abbrev f109_Vl0 : Type := (List UInt8) × Bool × (List Int) × Bool × (List Int)
def f109_Tl0 (v : f109_Vl0) : Nat → LV := tbl [(2, .c (.ptr 200 0 0)), (3, .c (.s .str v.1)), (4, .c (.ptr 400 0 0))]
def f109_Hl0 (v : f109_Vl0) : Nat → Option VO := tblH [(200, some ⟨0, .cells [.s .bool v.2.1, .own 202 0 .full], false⟩), (202, some ⟨0, .row (.int .i64) v.2.2.1, false⟩), (400, some ⟨0, .cells [.s .bool v.2.2.2.1, .own 402 0 .full], false⟩), (402, some ⟨0, .row (.int .i64) v.2.2.2.2, false⟩)]

abbrev f109_Vl2 : Type := (List UInt8) × Int × Int × Int × Bool × (List Int) × Bool × (List Int)
def f109_Tl2 (v : f109_Vl2) : Nat → LV := tbl [(2, .c (.ptr 200 0 0)), (3, .c (.s .str v.1)), (4, .c (.ptr 400 0 0)), (5, .c (.s (.int .i64) v.2.1)), (6, .c (.s (.int .i64) v.2.2.1)), (7, .c (.s (.int .i64) v.2.2.2.1))]
def f109_Hl2 (v : f109_Vl2) : Nat → Option VO := tblH [(200, some ⟨0, .cells [.s .bool v.2.2.2.2.1, .own 202 0 .full], false⟩), (202, some ⟨0, .row (.int .i64) v.2.2.2.2.2.1, false⟩), (400, some ⟨0, .cells [.s .bool v.2.2.2.2.2.2.1, .own 402 0 .full], false⟩), (402, some ⟨0, .row (.int .i64) v.2.2.2.2.2.2.2, false⟩)]

def f109_bl0 (F136 : ((Bool × (List Int)) × Unit) → Option (((Bool × (List Int)) × Unit) × (Unit))) (Jl2 : f109_Vl2 → Option (((Bool × (List Int)) × Unit) × (Unit))) : f109_Vl0 → Option (((Bool × (List Int)) × Unit) × (Unit)) := fun (x2, x3, l4, x5, l6) =>
 bif (decide ((x2.length : Int) > 0)) then (Jl2 (x2, (if (w64 ((x2.length : Int) - 9)) > 0 then (w64 ((x2.length : Int) - 9)) else 0), 0, (if (w64 ((x2.length : Int) - 9)) > 0 then (w64 ((x2.length : Int) - 9)) else 0), x3, l4, x5, l6))
 else (Option.bind (F136 ((x5, l6), ())) fun r15 =>
 some ((r15.1.1, ()), ()))
def f109_bl2 (F136 : ((Bool × (List Int)) × Unit) → Option (((Bool × (List Int)) × Unit) × (Unit))) (Jl0 : f109_Vl0 → Option (((Bool × (List Int)) × Unit) × (Unit))) (Jl2 : f109_Vl2 → Option (((Bool × (List Int)) × Unit) × (Unit))) : f109_Vl2 → Option (((Bool × (List Int)) × Unit) × (Unit)) := fun (x7, x8, x9, x10, x11, l12, x13, l14) =>
 bif (decide (x10 < (x7.length : Int))) then (rd x7 x10 fun y16 =>
 Jl2 (x7, x8, (w64 ((w64 (10 * x9)) + (w64 ((IntKind.wrap .u8 ((y16.toNat : Int) - 48)))))), (w64 (x10 + 1)), x11, l12, x13, l14))
 else (chk (roomFor (l14.length + 1) 8) <|
 chk ((decide (0 ≤ x8)) && (decide (x8.toNat ≤ x7.length))) <|
 Jl0 ((x7.take x8.toNat), x11, l12, x13, (l14 ++ ([x9] : List Int))))
def f109_b (F136 : ((Bool × (List Int)) × Unit) → Option (((Bool × (List Int)) × Unit) × (Unit))) (Jl0 : f109_Vl0 → Option (((Bool × (List Int)) × Unit) × (Unit))) (a0 : (List UInt8)) : Option (((Bool × (List Int)) × Unit) × (Unit)) :=
 bif (!(a0 == ([] : List UInt8))) then (rd a0 0 fun y1 =>
 bif ((y1.toNat : Int) == 45) then (chk (decide (1 ≤ a0.length)) <|
 Jl0 ((a0.drop 1), false, ([] : List Int), true, ([] : List Int)))
 else (Jl0 (a0, false, ([] : List Int), false, ([] : List Int))))
 else (Jl0 (a0, false, ([] : List Int), false, ([] : List Int)))
def f109_Ll2 (k : Nat) (F136 : ((Bool × (List Int)) × Unit) → Option (((Bool × (List Int)) × Unit) × (Unit))) (Jl0 : f109_Vl0 → Option (((Bool × (List Int)) × Unit) × (Unit))) : f109_Vl2 → Option (((Bool × (List Int)) × Unit) × (Unit)) := loopI (fun Jl2 => f109_bl2 F136 Jl0 Jl2) k
def f109_Ll0 (k : Nat) (F136 : ((Bool × (List Int)) × Unit) → Option (((Bool × (List Int)) × Unit) × (Unit)))  : f109_Vl0 → Option (((Bool × (List Int)) × Unit) × (Unit)) := loopI (fun Jl0 => f109_bl0 F136 (f109_Ll2 k F136 Jl0)) k
def f109_I (k : Nat) (F136 : ((Bool × (List Int)) × Unit) → Option (((Bool × (List Int)) × Unit) × (Unit))) (a0 : (List UInt8)) : Option (((Bool × (List Int)) × Unit) × (Unit)) := f109_b F136 (f109_Ll0 k F136) a0
theorem f109_el2 (k : Nat) (F136 : ((Bool × (List Int)) × Unit) → Option (((Bool × (List Int)) × Unit) × (Unit))) (Al0 : Jump (((Bool × (List Int)) × Unit) × (Unit))) (Al2 : Jump (((Bool × (List Int)) × Unit) × (Unit))) (v : f109_Vl2) : rawBody (f109_cx F136) f109_an k (bodyOf Tryz.f109) [1, 1, 1, 1, 0, 0, 0, 1, 0, 1, 1, 0, 1, 0] [Al0] (vend (f109_cx F136) Tryz.f109 [.val .str] [(.pair .bool (.list (.int .i64)))]) Al2 (f109_Tl2 v) (f109_Hl2 v) =
 f109_bl2 F136 (fun v => Al0 (f109_Tl0 v) (f109_Hl0 v)) (fun v => Al2 (f109_Tl2 v) (f109_Hl2 v)) v := by kernel_rfl
theorem f109_ll2 (k : Nat) (F136 : ((Bool × (List Int)) × Unit) → Option (((Bool × (List Int)) × Unit) × (Unit))) (Al0 : Jump (((Bool × (List Int)) × Unit) × (Unit))) (v : f109_Vl2) : rawLoop (f109_cx F136) f109_an k (bodyOf Tryz.f109) [1, 1, 1, 1, 0, 0, 0, 1, 0, 1, 1, 0, 1, 0] [Al0] (vend (f109_cx F136) Tryz.f109 [.val .str] [(.pair .bool (.list (.int .i64)))]) k (f109_Tl2 v) (f109_Hl2 v) = f109_Ll2 k F136 (fun v => Al0 (f109_Tl0 v) (f109_Hl0 v)) v :=
 rawLoop_eq (bI := fun Jl2 => f109_bl2 F136 (fun v => Al0 (f109_Tl0 v) (f109_Hl0 v)) Jl2) f109_Tl2 f109_Hl2 (fun Al2 v => (f109_el2 k F136 Al0 Al2 v)) k v
theorem f109_el0 (k : Nat) (F136 : ((Bool × (List Int)) × Unit) → Option (((Bool × (List Int)) × Unit) × (Unit))) (Al0 : Jump (((Bool × (List Int)) × Unit) × (Unit))) (v : f109_Vl0) : rawBody (f109_cx F136) f109_an k (bodyOf Tryz.f109) [1, 1, 1, 1, 0, 0] [] (vend (f109_cx F136) Tryz.f109 [.val .str] [(.pair .bool (.list (.int .i64)))]) Al0 (f109_Tl0 v) (f109_Hl0 v) =
 f109_bl0 F136 (fun v => rawLoop (f109_cx F136) f109_an k (bodyOf Tryz.f109) [1, 1, 1, 1, 0, 0, 0, 1, 0, 1, 1, 0, 1, 0] [Al0] (vend (f109_cx F136) Tryz.f109 [.val .str] [(.pair .bool (.list (.int .i64)))]) k (f109_Tl2 v) (f109_Hl2 v)) v := by kernel_rfl
theorem f109_ll0 (k : Nat) (F136 : ((Bool × (List Int)) × Unit) → Option (((Bool × (List Int)) × Unit) × (Unit))) (v : f109_Vl0) : rawLoop (f109_cx F136) f109_an k (bodyOf Tryz.f109) [1, 1, 1, 1, 0, 0] [] (vend (f109_cx F136) Tryz.f109 [.val .str] [(.pair .bool (.list (.int .i64)))]) k (f109_Tl0 v) (f109_Hl0 v) = f109_Ll0 k F136 v :=
 rawLoop_eq (bI := fun Jl0 => f109_bl0 F136 (f109_Ll2 k F136 Jl0)) f109_Tl0 f109_Hl0 (fun Al0 v => ((f109_el0 k F136 Al0 v).trans (congrArg (fun (J : f109_Vl2 → Option (((Bool × (List Int)) × Unit) × (Unit))) => f109_bl0 F136 J v) (funext (f109_ll2 k F136 Al0))))) k v
theorem f109_e (k : Nat) (F136 : ((Bool × (List Int)) × Unit) → Option (((Bool × (List Int)) × Unit) × (Unit))) (x : ((List UInt8) × Unit)) : vfun (f109_cx F136) f109_an k Tryz.f109 [.val .str] [(.pair .bool (.list (.int .i64)))] x =
 f109_b F136 (fun v => rawLoop (f109_cx F136) f109_an k (bodyOf Tryz.f109) [1, 1, 1, 1, 0, 0] [] (vend (f109_cx F136) Tryz.f109 [.val .str] [(.pair .bool (.list (.int .i64)))]) k (f109_Tl0 v) (f109_Hl0 v)) x.1 := by kernel_rfl
theorem f109_eq (k : Nat) (F136 : ((Bool × (List Int)) × Unit) → Option (((Bool × (List Int)) × Unit) × (Unit))) (x : ((List UInt8) × Unit)) : vfun (f109_cx F136) f109_an k Tryz.f109 [.val .str] [(.pair .bool (.list (.int .i64)))] x = f109_I k F136 x.1 :=
 ((f109_e k F136 x).trans (congrArg (fun (J : f109_Vl0 → Option (((Bool × (List Int)) × Unit) × (Unit))) => f109_b F136 J x.1) (funext (f109_ll0 k F136))))
theorem f109_ok (k : Nat) (F136 : ((Bool × (List Int)) × Unit) → Option (((Bool × (List Int)) × Unit) × (Unit))) (h136 : FnOk Tryz.prog 136 ⟨[.val (.pair .bool (.list (.int .i64)))], [(.pair .bool (.list (.int .i64)))], F136⟩) : FnOk Tryz.prog 109 ⟨[.val .str], [(.pair .bool (.list (.int .i64)))], fun x => f109_I k F136 x.1⟩ :=
 (fn_ok (an := f109_an) (k := k) follows_mixed tys_ok ⟨look_fn (AllFn.cons h136 (AllFn.nil)), look_new AllNew.nil⟩ Tryz.func109 rfl rfl rfl).of (funext (f109_eq k F136))
/-! joinlearn/joinlearnref01.Valid -/
abbrev f108_cx : Cx := ⟨look tys, look [], 47, look [], [], []⟩
def f108_an : Ann := ⟨look [(0, ⟨[3, 4], [], []⟩)], look []⟩
abbrev f108_Vl0 : Type := (List UInt8) × Int
def f108_Tl0 (v : f108_Vl0) : Nat → LV := tbl [(3, .c (.s .str v.1)), (4, .c (.s (.int .i64) v.2))]
def f108_Hl0 (v : f108_Vl0) : Nat → Option VO := tblH []

def f108_bl0 (Jl0 : f108_Vl0 → Option ((Bool × Unit) × (Unit))) : f108_Vl0 → Option ((Bool × Unit) × (Unit)) := fun (x3, x4) =>
 bif (decide (x4 < (x3.length : Int))) then (rd x3 x4 fun y7 =>
 bif (decide ((y7.toNat : Int) < 48)) then (some ((false, ()), ()))
 else (rd x3 x4 fun y8 =>
 bif (decide ((y8.toNat : Int) > 57)) then (some ((false, ()), ()))
 else (Jl0 (x3, (w64 (x4 + 1))))))
 else (some ((true, ()), ()))
def f108_b (Jl0 : f108_Vl0 → Option ((Bool × Unit) × (Unit))) (a0 : (List UInt8)) : Option ((Bool × Unit) × (Unit)) :=
 bif (a0 == ([48] : List UInt8)) then (some ((true, ()), ()))
 else (bif (decide ((a0.length : Int) > 0)) then (rd a0 0 fun y1 =>
 bif ((y1.toNat : Int) == 45) then (chk (decide (1 ≤ a0.length)) <|
 bif (((a0.drop 1).length : Int) == 0) then (some ((false, ()), ()))
 else (bif (decide (((a0.drop 1).length : Int) > 400)) then (some ((false, ()), ()))
 else (rd (a0.drop 1) 0 fun y2 =>
 bif ((y2.toNat : Int) == 48) then (some ((false, ()), ()))
 else (Jl0 ((a0.drop 1), 0)))))
 else (bif ((a0.length : Int) == 0) then (some ((false, ()), ()))
 else (bif (decide ((a0.length : Int) > 400)) then (some ((false, ()), ()))
 else (rd a0 0 fun y5 =>
 bif ((y5.toNat : Int) == 48) then (some ((false, ()), ()))
 else (Jl0 (a0, 0))))))
 else (bif ((a0.length : Int) == 0) then (some ((false, ()), ()))
 else (bif (decide ((a0.length : Int) > 400)) then (some ((false, ()), ()))
 else (rd a0 0 fun y6 =>
 bif ((y6.toNat : Int) == 48) then (some ((false, ()), ()))
 else (Jl0 (a0, 0))))))
def f108_Ll0 (k : Nat)  : f108_Vl0 → Option ((Bool × Unit) × (Unit)) := loopI (fun Jl0 => f108_bl0 Jl0) k
def f108_I (k : Nat) (a0 : (List UInt8)) : Option ((Bool × Unit) × (Unit)) := f108_b (f108_Ll0 k) a0
theorem f108_el0 (k : Nat) (Al0 : Jump ((Bool × Unit) × (Unit))) (v : f108_Vl0) : rawBody (f108_cx) f108_an k (bodyOf Tryz.f108) [1, 1, 1, 1, 1, 0, 1, 0] [] (vend (f108_cx) Tryz.f108 [.val .str] [.bool]) Al0 (f108_Tl0 v) (f108_Hl0 v) =
 f108_bl0 (fun v => Al0 (f108_Tl0 v) (f108_Hl0 v)) v := by kernel_rfl
theorem f108_ll0 (k : Nat) (v : f108_Vl0) : rawLoop (f108_cx) f108_an k (bodyOf Tryz.f108) [1, 1, 1, 1, 1, 0, 1, 0] [] (vend (f108_cx) Tryz.f108 [.val .str] [.bool]) k (f108_Tl0 v) (f108_Hl0 v) = f108_Ll0 k v :=
 rawLoop_eq (bI := fun Jl0 => f108_bl0 Jl0) f108_Tl0 f108_Hl0 (fun Al0 v => (f108_el0 k Al0 v)) k v
theorem f108_e (k : Nat) (x : ((List UInt8) × Unit)) : vfun (f108_cx) f108_an k Tryz.f108 [.val .str] [.bool] x =
 f108_b (fun v => rawLoop (f108_cx) f108_an k (bodyOf Tryz.f108) [1, 1, 1, 1, 1, 0, 1, 0] [] (vend (f108_cx) Tryz.f108 [.val .str] [.bool]) k (f108_Tl0 v) (f108_Hl0 v)) x.1 := by kernel_rfl
theorem f108_eq (k : Nat) (x : ((List UInt8) × Unit)) : vfun (f108_cx) f108_an k Tryz.f108 [.val .str] [.bool] x = f108_I k x.1 :=
 ((f108_e k x).trans (congrArg (fun (J : f108_Vl0 → Option ((Bool × Unit) × (Unit))) => f108_b J x.1) (funext (f108_ll0 k))))
theorem f108_ok (k : Nat) : FnOk Tryz.prog 108 ⟨[.val .str], [.bool], fun x => f108_I k x.1⟩ :=
 (fn_ok (an := f108_an) (k := k) follows_mixed tys_ok ⟨look_fn AllFn.nil, look_new AllNew.nil⟩ Tryz.func108 rfl rfl rfl).of (funext (f108_eq k))
/-! (joinlearn/joinlearnref01.Big).Mul -/
abbrev f106_cx (F136 : ((Bool × (List Int)) × Unit) → Option (((Bool × (List Int)) × Unit) × (Unit))) : Cx := ⟨look tys, look [(136, ⟨[.val (.pair .bool (.list (.int .i64)))], [(.pair .bool (.list (.int .i64)))], F136⟩)], 79, look [], [], []⟩
def f106_an : Ann := ⟨look [(0, ⟨[2, 3, 4, 5, 6], [200, 300, 400, 402, 1700], []⟩), (2, ⟨[2, 3, 4, 5, 6, 7, 8], [200, 300, 400, 402, 1700], []⟩)], look []⟩
abbrev f106_Vl0 : Type := Int × Bool × (List Int) × Bool × (List Int) × Bool × (List Int) × (List Int)
def f106_Tl0 (v : f106_Vl0) : Nat → LV := tbl [(2, .c (.ptr 200 0 0)), (3, .c (.ptr 300 0 0)), (4, .c (.ptr 400 0 0)), (5, .c (.own 1700 0 .full)), (6, .c (.s (.int .i64) v.1))]
def f106_Hl0 (v : f106_Vl0) : Nat → Option VO := tblH [(200, some ⟨0, .cells [.s .bool v.2.1, .s (.list (.int .i64)) v.2.2.1], false⟩), (300, some ⟨0, .cells [.s .bool v.2.2.2.1, .s (.list (.int .i64)) v.2.2.2.2.1], false⟩), (400, some ⟨0, .cells [.s .bool v.2.2.2.2.2.1, .own 402 0 .full], false⟩), (402, some ⟨0, .row (.int .i64) v.2.2.2.2.2.2.1, false⟩), (1700, some ⟨0, .row (.int .i64) v.2.2.2.2.2.2.2, false⟩)]

abbrev f106_Vl2 : Type := Int × Int × Int × Bool × (List Int) × Bool × (List Int) × Bool × (List Int) × (List Int)
def f106_Tl2 (v : f106_Vl2) : Nat → LV := tbl [(2, .c (.ptr 200 0 0)), (3, .c (.ptr 300 0 0)), (4, .c (.ptr 400 0 0)), (5, .c (.own 1700 0 .full)), (6, .c (.s (.int .i64) v.1)), (7, .c (.s (.int .i64) v.2.1)), (8, .c (.s (.int .i64) v.2.2.1))]
def f106_Hl2 (v : f106_Vl2) : Nat → Option VO := tblH [(200, some ⟨0, .cells [.s .bool v.2.2.2.1, .s (.list (.int .i64)) v.2.2.2.2.1], false⟩), (300, some ⟨0, .cells [.s .bool v.2.2.2.2.2.1, .s (.list (.int .i64)) v.2.2.2.2.2.2.1], false⟩), (400, some ⟨0, .cells [.s .bool v.2.2.2.2.2.2.2.1, .own 402 0 .full], false⟩), (402, some ⟨0, .row (.int .i64) v.2.2.2.2.2.2.2.2.1, false⟩), (1700, some ⟨0, .row (.int .i64) v.2.2.2.2.2.2.2.2.2, false⟩)]

def f106_bl0 (F136 : ((Bool × (List Int)) × Unit) → Option (((Bool × (List Int)) × Unit) × (Unit))) (Jl2 : f106_Vl2 → Option (((Bool × (List Int)) × Unit) × (Unit))) : f106_Vl0 → Option (((Bool × (List Int)) × Unit) × (Unit)) := fun (x1, x2, x3, x4, x5, x6, l7, l8) =>
 bif (decide (x1 < (x3.length : Int))) then (Jl2 (x1, 0, 0, x2, x3, x4, x5, x6, l7, l8))
 else (Option.bind (F136 (((!(x2 == x4)), l8), ())) fun r19 =>
 some ((r19.1.1, ()), ()))
def f106_bl2 (F136 : ((Bool × (List Int)) × Unit) → Option (((Bool × (List Int)) × Unit) × (Unit))) (Jl0 : f106_Vl0 → Option (((Bool × (List Int)) × Unit) × (Unit))) (Jl2 : f106_Vl2 → Option (((Bool × (List Int)) × Unit) × (Unit))) : f106_Vl2 → Option (((Bool × (List Int)) × Unit) × (Unit)) := fun (x9, x10, x11, x12, x13, x14, x15, x16, l17, l18) =>
 bif (decide (x11 < (x15.length : Int))) then (chk (decide (0 ≤ (w64 (x9 + x11)))) <|
 chk (decide ((w64 (x9 + x11)).toNat < l18.length)) <|
 Option.bind l18[(w64 (x9 + x11)).toNat]? fun y20 =>
 bif (decide (x11 < (x15.length : Int))) then (rd x13 x9 fun y21 =>
 rd x15 x11 fun y22 =>
 chk (decide (0 ≤ (w64 (x9 + x11)))) <|
 chk (decide ((w64 (x9 + x11)).toNat < l18.length)) <|
 Option.bind l18[(w64 (x9 + x11)).toNat]? fun y23 =>
 Jl2 (x9, (w64 ((w64 ((w64 (x10 + y20)) + (w64 (y21 * y22)))).tdiv 1000000000)), (w64 (x11 + 1)), x12, x13, x14, x15, x16, l17, (l18.set (w64 (x9 + x11)).toNat ((w64 ((w64 (x10 + y20)) + (w64 (y21 * y22)))).tmod 1000000000))))
 else (chk (decide (0 ≤ (w64 (x9 + x11)))) <|
 chk (decide ((w64 (x9 + x11)).toNat < l18.length)) <|
 Option.bind l18[(w64 (x9 + x11)).toNat]? fun y24 =>
 Jl2 (x9, (w64 ((w64 (x10 + y20)).tdiv 1000000000)), (w64 (x11 + 1)), x12, x13, x14, x15, x16, l17, (l18.set (w64 (x9 + x11)).toNat ((w64 (x10 + y20)).tmod 1000000000)))))
 else (bif (decide (x10 > 0)) then (chk (decide (0 ≤ (w64 (x9 + x11)))) <|
 chk (decide ((w64 (x9 + x11)).toNat < l18.length)) <|
 Option.bind l18[(w64 (x9 + x11)).toNat]? fun y25 =>
 bif (decide (x11 < (x15.length : Int))) then (rd x13 x9 fun y26 =>
 rd x15 x11 fun y27 =>
 chk (decide (0 ≤ (w64 (x9 + x11)))) <|
 chk (decide ((w64 (x9 + x11)).toNat < l18.length)) <|
 Option.bind l18[(w64 (x9 + x11)).toNat]? fun y28 =>
 Jl2 (x9, (w64 ((w64 ((w64 (x10 + y25)) + (w64 (y26 * y27)))).tdiv 1000000000)), (w64 (x11 + 1)), x12, x13, x14, x15, x16, l17, (l18.set (w64 (x9 + x11)).toNat ((w64 ((w64 (x10 + y25)) + (w64 (y26 * y27)))).tmod 1000000000))))
 else (chk (decide (0 ≤ (w64 (x9 + x11)))) <|
 chk (decide ((w64 (x9 + x11)).toNat < l18.length)) <|
 Option.bind l18[(w64 (x9 + x11)).toNat]? fun y29 =>
 Jl2 (x9, (w64 ((w64 (x10 + y25)).tdiv 1000000000)), (w64 (x11 + 1)), x12, x13, x14, x15, x16, l17, (l18.set (w64 (x9 + x11)).toNat ((w64 (x10 + y25)).tmod 1000000000)))))
 else (Jl0 ((w64 (x9 + 1)), x12, x13, x14, x15, x16, l17, l18)))
def f106_b (F136 : ((Bool × (List Int)) × Unit) → Option (((Bool × (List Int)) × Unit) × (Unit))) (Jl0 : f106_Vl0 → Option (((Bool × (List Int)) × Unit) × (Unit))) (a0 : (Bool × (List Int))) (a1 : (Bool × (List Int))) : Option (((Bool × (List Int)) × Unit) × (Unit)) :=
 chk ((decide (0 ≤ (w64 ((w64 ((a0.2.length : Int) + (a1.2.length : Int))) + 1)))) && (decide (8 * (w64 ((w64 ((a0.2.length : Int) + (a1.2.length : Int))) + 1)).toNat ≤ 140737488355328))) <|
 Jl0 (0, a0.1, a0.2, a1.1, a1.2, false, ([] : List Int), (List.replicate (w64 ((w64 ((a0.2.length : Int) + (a1.2.length : Int))) + 1)).toNat (0 : Int)))
def f106_Ll2 (k : Nat) (F136 : ((Bool × (List Int)) × Unit) → Option (((Bool × (List Int)) × Unit) × (Unit))) (Jl0 : f106_Vl0 → Option (((Bool × (List Int)) × Unit) × (Unit))) : f106_Vl2 → Option (((Bool × (List Int)) × Unit) × (Unit)) := loopI (fun Jl2 => f106_bl2 F136 Jl0 Jl2) k
def f106_Ll0 (k : Nat) (F136 : ((Bool × (List Int)) × Unit) → Option (((Bool × (List Int)) × Unit) × (Unit)))  : f106_Vl0 → Option (((Bool × (List Int)) × Unit) × (Unit)) := loopI (fun Jl0 => f106_bl0 F136 (f106_Ll2 k F136 Jl0)) k
def f106_I (k : Nat) (F136 : ((Bool × (List Int)) × Unit) → Option (((Bool × (List Int)) × Unit) × (Unit))) (a0 : (Bool × (List Int))) (a1 : (Bool × (List Int))) : Option (((Bool × (List Int)) × Unit) × (Unit)) := f106_b F136 (f106_Ll0 k F136) a0 a1
theorem f106_el2 (k : Nat) (F136 : ((Bool × (List Int)) × Unit) → Option (((Bool × (List Int)) × Unit) × (Unit))) (Al0 : Jump (((Bool × (List Int)) × Unit) × (Unit))) (Al2 : Jump (((Bool × (List Int)) × Unit) × (Unit))) (v : f106_Vl2) : rawBody (f106_cx F136) f106_an k (bodyOf Tryz.f106) [1, 1, 0, 1, 0, 0, 1, 0, 0, 1, 1, 0] [Al0] (vend (f106_cx F136) Tryz.f106 [.val (.pair .bool (.list (.int .i64))), .val (.pair .bool (.list (.int .i64)))] [(.pair .bool (.list (.int .i64)))]) Al2 (f106_Tl2 v) (f106_Hl2 v) =
 f106_bl2 F136 (fun v => Al0 (f106_Tl0 v) (f106_Hl0 v)) (fun v => Al2 (f106_Tl2 v) (f106_Hl2 v)) v := by kernel_rfl
theorem f106_ll2 (k : Nat) (F136 : ((Bool × (List Int)) × Unit) → Option (((Bool × (List Int)) × Unit) × (Unit))) (Al0 : Jump (((Bool × (List Int)) × Unit) × (Unit))) (v : f106_Vl2) : rawLoop (f106_cx F136) f106_an k (bodyOf Tryz.f106) [1, 1, 0, 1, 0, 0, 1, 0, 0, 1, 1, 0] [Al0] (vend (f106_cx F136) Tryz.f106 [.val (.pair .bool (.list (.int .i64))), .val (.pair .bool (.list (.int .i64)))] [(.pair .bool (.list (.int .i64)))]) k (f106_Tl2 v) (f106_Hl2 v) = f106_Ll2 k F136 (fun v => Al0 (f106_Tl0 v) (f106_Hl0 v)) v :=
 rawLoop_eq (bI := fun Jl2 => f106_bl2 F136 (fun v => Al0 (f106_Tl0 v) (f106_Hl0 v)) Jl2) f106_Tl2 f106_Hl2 (fun Al2 v => (f106_el2 k F136 Al0 Al2 v)) k v
theorem f106_el0 (k : Nat) (F136 : ((Bool × (List Int)) × Unit) → Option (((Bool × (List Int)) × Unit) × (Unit))) (Al0 : Jump (((Bool × (List Int)) × Unit) × (Unit))) (v : f106_Vl0) : rawBody (f106_cx F136) f106_an k (bodyOf Tryz.f106) [1, 1, 0, 1, 0] [] (vend (f106_cx F136) Tryz.f106 [.val (.pair .bool (.list (.int .i64))), .val (.pair .bool (.list (.int .i64)))] [(.pair .bool (.list (.int .i64)))]) Al0 (f106_Tl0 v) (f106_Hl0 v) =
 f106_bl0 F136 (fun v => rawLoop (f106_cx F136) f106_an k (bodyOf Tryz.f106) [1, 1, 0, 1, 0, 0, 1, 0, 0, 1, 1, 0] [Al0] (vend (f106_cx F136) Tryz.f106 [.val (.pair .bool (.list (.int .i64))), .val (.pair .bool (.list (.int .i64)))] [(.pair .bool (.list (.int .i64)))]) k (f106_Tl2 v) (f106_Hl2 v)) v := by kernel_rfl
theorem f106_ll0 (k : Nat) (F136 : ((Bool × (List Int)) × Unit) → Option (((Bool × (List Int)) × Unit) × (Unit))) (v : f106_Vl0) : rawLoop (f106_cx F136) f106_an k (bodyOf Tryz.f106) [1, 1, 0, 1, 0] [] (vend (f106_cx F136) Tryz.f106 [.val (.pair .bool (.list (.int .i64))), .val (.pair .bool (.list (.int .i64)))] [(.pair .bool (.list (.int .i64)))]) k (f106_Tl0 v) (f106_Hl0 v) = f106_Ll0 k F136 v :=
 rawLoop_eq (bI := fun Jl0 => f106_bl0 F136 (f106_Ll2 k F136 Jl0)) f106_Tl0 f106_Hl0 (fun Al0 v => ((f106_el0 k F136 Al0 v).trans (congrArg (fun (J : f106_Vl2 → Option (((Bool × (List Int)) × Unit) × (Unit))) => f106_bl0 F136 J v) (funext (f106_ll2 k F136 Al0))))) k v
theorem f106_e (k : Nat) (F136 : ((Bool × (List Int)) × Unit) → Option (((Bool × (List Int)) × Unit) × (Unit))) (x : ((Bool × (List Int)) × (Bool × (List Int)) × Unit)) : vfun (f106_cx F136) f106_an k Tryz.f106 [.val (.pair .bool (.list (.int .i64))), .val (.pair .bool (.list (.int .i64)))] [(.pair .bool (.list (.int .i64)))] x =
 f106_b F136 (fun v => rawLoop (f106_cx F136) f106_an k (bodyOf Tryz.f106) [1, 1, 0, 1, 0] [] (vend (f106_cx F136) Tryz.f106 [.val (.pair .bool (.list (.int .i64))), .val (.pair .bool (.list (.int .i64)))] [(.pair .bool (.list (.int .i64)))]) k (f106_Tl0 v) (f106_Hl0 v)) x.1 x.2.1 := by kernel_rfl
theorem f106_eq (k : Nat) (F136 : ((Bool × (List Int)) × Unit) → Option (((Bool × (List Int)) × Unit) × (Unit))) (x : ((Bool × (List Int)) × (Bool × (List Int)) × Unit)) : vfun (f106_cx F136) f106_an k Tryz.f106 [.val (.pair .bool (.list (.int .i64))), .val (.pair .bool (.list (.int .i64)))] [(.pair .bool (.list (.int .i64)))] x = f106_I k F136 x.1 x.2.1 :=
 ((f106_e k F136 x).trans (congrArg (fun (J : f106_Vl0 → Option (((Bool × (List Int)) × Unit) × (Unit))) => f106_b F136 J x.1 x.2.1) (funext (f106_ll0 k F136))))
theorem f106_ok (k : Nat) (F136 : ((Bool × (List Int)) × Unit) → Option (((Bool × (List Int)) × Unit) × (Unit))) (h136 : FnOk Tryz.prog 136 ⟨[.val (.pair .bool (.list (.int .i64)))], [(.pair .bool (.list (.int .i64)))], F136⟩) : FnOk Tryz.prog 106 ⟨[.val (.pair .bool (.list (.int .i64))), .val (.pair .bool (.list (.int .i64)))], [(.pair .bool (.list (.int .i64)))], fun x => f106_I k F136 x.1 x.2.1⟩ :=
 (fn_ok (an := f106_an) (k := k) follows_mixed tys_ok ⟨look_fn (AllFn.cons h136 (AllFn.nil)), look_new AllNew.nil⟩ Tryz.func106 rfl rfl rfl).of (funext (f106_eq k F136))
end Go.JL
