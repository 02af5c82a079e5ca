/- The functions' contracts put together. Printed by a program of mine. -/
import Derived.Test.YtnepcgaphhgbnaaGreatDoorHb
import Derived.Test.YtnepcgaphhgbnaaGreatDoorFb
import Derived.Test.YtnepcgaphhgbnaaGreatDoorFc
import Derived.Test.YtnepcgaphhgbnaaGreatDoorFd
import Derived.Test.YtnepcgaphhgbnaaGreatDoorFe
import Derived.Test.YtnepcgaphhgbnaaGreatDoorFf
import Derived.Test.YtnepcgaphhgbnaaGreatDoorFg
import Derived.Test.YtnepcgaphhgbnaaGreatDoorFh
import Derived.Test.YtnepcgaphhgbnaaGreatDoorFi
import Derived.Test.YtnepcgaphhgbnaaGreatDoorFj
import Derived.Test.YtnepcgaphhgbnaaGreatDoorFk
import Derived.Test.YtnepcgaphhgbnaaGreatDoorFl
import Derived.Test.YtnepcgaphhgbnaaGreatDoorFm
import Derived.Test.YtnepcgaphhgbnaaGreatDoorFn
set_option linter.unusedVariables false
set_option maxRecDepth 100000
namespace Go.JL
open Go.Proofs
theorem clone92_ok : FnOk Tryz.prog 92 ⟨[.val (.list testC)], [.list testC], fun x => cloneI (c := testC) 32 x⟩ := clone_of Tryz.func92 rfl rfl clone_walk (f92_ok 60) (fun x r hne hx => by
  show f92_b x.1 = some r
  unfold f92_b
  rw [hne]
  simp only [cond_false, Nat.zero_add]
  exact hx)
noncomputable def C11 : ((List Int) × Unit) → Option ((Bool × Unit) × (Unit)) := fun x => f11_I 60 x.1
theorem c11_ok : FnOk Tryz.prog 11 ⟨[.val (.list (.int .i64))], [.bool], C11⟩ := f11_ok 60
noncomputable def C120 : ((List UInt8) × Unit) → Option ((Bool × Unit) × (Unit)) := fun x => vfun (f120_cx) f120_an 60 Tryz.f120 [.val .str] [.bool] x
theorem c120_ok : FnOk Tryz.prog 120 ⟨[.val .str], [.bool], C120⟩ := fn_ok (an := f120_an) (k := 60) follows_mixed tys_ok ⟨(look_fn (AllFn.nil)), look_new AllNew.nil⟩ Tryz.func120 rfl rfl rfl
noncomputable def C197 : ((List (List UInt8)) × (List UInt8) × Unit) → Option ((Int × Unit) × (Unit)) := fun x => f197_I 60 x.1 x.2.1
theorem c197_ok : FnOk Tryz.prog 197 ⟨[.val (.list .str), .val .str], [(.int .i64)], C197⟩ := f197_ok 60
noncomputable def C168 : ((List (List UInt8)) × (List UInt8) × Unit) → Option ((Bool × Unit) × (Unit)) := fun x => f168_I 60 C197 x.1 x.2.1
theorem c168_ok : FnOk Tryz.prog 168 ⟨[.val (.list .str), .val .str], [.bool], C168⟩ := f168_ok 60 C197 c197_ok
noncomputable def C131 : ((List (List UInt8)) × Int × Unit) → Option ((Int × Unit) × (Unit)) := fun x => f131_I 60 C120 C168 x.1 x.2.1
theorem c131_ok : FnOk Tryz.prog 131 ⟨[.val (.list .str), .val (.int .i64)], [(.int .i64)], C131⟩ := f131_ok 60 C120 C168 c120_ok c168_ok
noncomputable def C95 : (((List ((List UInt8) × Int)) × ((List ((List UInt8) × (List Int))) × ((List (Int × (Int × Int))) × Int))) × Unit) → Option ((Int × Unit) × (Unit)) := fun x => f95_I 60 C131 x.1
theorem c95_ok : FnOk Tryz.prog 95 ⟨[.val (.pair (.list (.pair .str (.int .i64))) (.pair (.list (.pair .str (.list (.int .i64)))) (.pair (.list (.pair (.int .i64) (.pair (.int .i64) (.int .i64)))) (.int .i64))))], [(.int .i64)], C95⟩ := f95_ok 60 C131 c131_ok
noncomputable def C169 : ((List Bool) × Bool × Unit) → Option ((Int × Unit) × (Unit)) := fun x => f169_I 60 x.1 x.2.1
theorem c169_ok : FnOk Tryz.prog 169 ⟨[.val (.list .bool), .val .bool], [(.int .i64)], C169⟩ := f169_ok 60
noncomputable def C132 : ((List Bool) × Bool × Unit) → Option ((Bool × Unit) × (Unit)) := fun x => f132_I 60 C169 x.1 x.2.1
theorem c132_ok : FnOk Tryz.prog 132 ⟨[.val (.list .bool), .val .bool], [.bool], C132⟩ := f132_ok 60 C169 c169_ok
noncomputable def C96 : (((List ((List UInt8) × Int)) × ((List ((List UInt8) × (List Int))) × ((List (Int × (Int × Int))) × Int))) × Unit) → Option ((Int × Unit) × (Unit)) := fun x => f96_I 60 C131 C132 x.1
theorem c96_ok : FnOk Tryz.prog 96 ⟨[.val (.pair (.list (.pair .str (.int .i64))) (.pair (.list (.pair .str (.list (.int .i64)))) (.pair (.list (.pair (.int .i64) (.pair (.int .i64) (.int .i64)))) (.int .i64))))], [(.int .i64)], C96⟩ := f96_ok 60 C131 C132 c131_ok c132_ok
noncomputable def C134 : ((Int × (Int × Int)) × (Int × (Int × Int)) × Unit) → Option ((Bool × Unit) × ((Int × (Int × Int)) × Unit)) := fun x => f134_I 60 x.1 x.2.1
theorem c134_ok : FnOk Tryz.prog 134 ⟨[.val (.pair (.int .i64) (.pair (.int .i64) (.int .i64))), .ptr (.pair (.int .i64) (.pair (.int .i64) (.int .i64)))], [.bool], C134⟩ := f134_ok 60
noncomputable def C170 : ((List (Int × (Int × Int))) × ((Int × (Int × Int)) × Unit) × Unit) → Option ((Int × Unit) × (((Int × (Int × Int)) × Unit) × Unit)) := fun x => f170_I 60 C134 x.1 x.2.1.1
theorem c170_ok : FnOk Tryz.prog 170 ⟨[.val (.list (.pair (.int .i64) (.pair (.int .i64) (.int .i64)))), .clo 134 [(.pair (.int .i64) (.pair (.int .i64) (.int .i64)))]], [(.int .i64)], C170⟩ := f170_ok 60 C134 c134_ok
noncomputable def C133 : ((List (Int × (Int × Int))) × ((Int × (Int × Int)) × Unit) × Unit) → Option ((Bool × Unit) × (((Int × (Int × Int)) × Unit) × Unit)) := fun x => f133_I 60 C170 x.1 x.2.1.1
theorem c133_ok : FnOk Tryz.prog 133 ⟨[.val (.list (.pair (.int .i64) (.pair (.int .i64) (.int .i64)))), .clo 134 [(.pair (.int .i64) (.pair (.int .i64) (.int .i64)))]], [.bool], C133⟩ := f133_ok 60 C170 c170_ok
noncomputable def C97 : (((List ((List UInt8) × Int)) × ((List ((List UInt8) × (List Int))) × ((List (Int × (Int × Int))) × Int))) × Unit) → Option ((Int × Unit) × (Unit)) := fun x => f97_I 60 C133 x.1
theorem c97_ok : FnOk Tryz.prog 97 ⟨[.val (.pair (.list (.pair .str (.int .i64))) (.pair (.list (.pair .str (.list (.int .i64)))) (.pair (.list (.pair (.int .i64) (.pair (.int .i64) (.int .i64)))) (.int .i64))))], [(.int .i64)], C97⟩ := f97_ok 60 C133 c133_ok
noncomputable def C56 : (((List ((List UInt8) × Int)) × ((List ((List UInt8) × (List Int))) × ((List (Int × (Int × Int))) × Int))) × Unit) → Option ((Int × Unit) × (Unit)) := fun x => f56_I 60 C95 C96 C97 x.1
theorem c56_ok : FnOk Tryz.prog 56 ⟨[.val (.pair (.list (.pair .str (.int .i64))) (.pair (.list (.pair .str (.list (.int .i64)))) (.pair (.list (.pair (.int .i64) (.pair (.int .i64) (.int .i64)))) (.int .i64))))], [(.int .i64)], C56⟩ := f56_ok 60 C95 C96 C97 c95_ok c96_ok c97_ok
noncomputable def C214 : ((List UInt8) × (List UInt8) × Unit) → Option ((Bool × Unit) × (Unit)) := fun x => f214_I 60 x.1 x.2.1
theorem c214_ok : FnOk Tryz.prog 214 ⟨[.val .str, .val .str], [.bool], C214⟩ := f214_ok 60
noncomputable def C201 : ((List UInt8) × (List UInt8) × Unit) → Option (((List UInt8) × Unit) × (Unit)) := fun x => f201_I 60 C214 x.1 x.2.1
theorem c201_ok : FnOk Tryz.prog 201 ⟨[.val .str, .val .str], [.str], C201⟩ := f201_ok 60 C214 c214_ok
noncomputable def C177 : ((List UInt8) × (List UInt8) × Unit) → Option (((List UInt8) × Unit) × (Unit)) := fun x => f177_I 60 C201 x.1 x.2.1
theorem c177_ok : FnOk Tryz.prog 177 ⟨[.val .str, .val .str], [.str], C177⟩ := f177_ok 60 C201 c201_ok
noncomputable def C144 : ((List UInt8) × Unit) → Option ((Bool × Unit) × (Unit)) := fun x => f144_I 60 C177 x.1
theorem c144_ok : FnOk Tryz.prog 144 ⟨[.val .str], [.bool], C144⟩ := f144_ok 60 C177 c177_ok
noncomputable def C202 : ((List UInt8) × (List UInt8) × Unit) → Option (((List UInt8) × Bool × Unit) × (Unit)) := fun x => f202_I 60 C214 x.1 x.2.1
theorem c202_ok : FnOk Tryz.prog 202 ⟨[.val .str, .val .str], [.str, .bool], C202⟩ := f202_ok 60 C214 c214_ok
noncomputable def C184 : ((List UInt8) × (List UInt8) × Unit) → Option (((List UInt8) × Bool × Unit) × (Unit)) := fun x => f184_I 60 C202 x.1 x.2.1
theorem c184_ok : FnOk Tryz.prog 184 ⟨[.val .str, .val .str], [.str, .bool], C184⟩ := f184_ok 60 C202 c202_ok
noncomputable def C215 : (Int × Unit) → Option ((Int × Unit) × (Unit)) := fun _ => none
theorem c215_ok : FnOk Tryz.prog 215 ⟨[.val (.int .u8)], [(.int .u8)], C215⟩ := fun _ _ h => by cases h
noncomputable def C216 : ((List UInt8) × Unit) → Option ((Bool × Unit) × (Unit)) := fun _ => none
theorem c216_ok : FnOk Tryz.prog 216 ⟨[.val .str], [.bool], C216⟩ := fun _ _ h => by cases h
noncomputable def C203 : ((List UInt8) × Int × Int × Unit) → Option ((Int × (Option (Nat × Bool)) × Unit) × (Unit)) := fun x => f203_I 60 C215 C216 x.1 x.2.1 x.2.2.1
theorem c203_ok : FnOk Tryz.prog 203 ⟨[.val .str, .val (.int .i64), .val (.int .i64)], [(.int .u64), (.fn .bool)], C203⟩ := f203_ok 60 C215 C216 c215_ok c216_ok
noncomputable def C185 : ((List UInt8) × Int × Int × Unit) → Option ((Int × (Option (Nat × Bool)) × Unit) × (Unit)) := fun x => f185_I 60 C203 x.1 x.2.1 x.2.2.1
theorem c185_ok : FnOk Tryz.prog 185 ⟨[.val .str, .val (.int .i64), .val (.int .i64)], [(.int .u64), (.fn .bool)], C185⟩ := f185_ok 60 C203 c203_ok
noncomputable def C187 : ((List Int) × Unit) → Option (((List Int) × Unit) × (Unit)) := fun x => f187_I 60 x.1
theorem c187_ok : FnOk Tryz.prog 187 ⟨[.val (.list (.int .u64))], [(.list (.int .u64))], C187⟩ := f187_ok 60
noncomputable def C186 : (Bool × (List Int) × Unit) → Option (((Bool × (List Int)) × Unit) × (Unit)) := fun x => f186_I 60 x.1 x.2.1
theorem c186_ok : FnOk Tryz.prog 186 ⟨[.val .bool, .val (.list (.int .u64))], [(.pair .bool (.list (.int .u64)))], C186⟩ := f186_ok 60
noncomputable def C154 : ((List UInt8) × Unit) → Option (((Bool × (List Int)) × Unit) × (Unit)) := fun x => f154_I 60 C184 C185 C187 C186 x.1
theorem c154_ok : FnOk Tryz.prog 154 ⟨[.val .str], [(.pair .bool (.list (.int .u64)))], C154⟩ := f154_ok 60 C184 C185 C187 C186 c184_ok c185_ok c187_ok c186_ok
noncomputable def C145 : ((List UInt8) × Unit) → Option (((Bool × (List Int)) × Unit) × (Unit)) := fun x => f145_I 60 C154 x.1
theorem c145_ok : FnOk Tryz.prog 145 ⟨[.val .str], [(.pair .bool (.list (.int .u64)))], C145⟩ := f145_ok 60 C154 c154_ok
noncomputable def C178 : ((List Int) × Int × Unit) → Option ((Int × Unit) × (Unit)) := fun x => f178_I 60 x.1 x.2.1
theorem c178_ok : FnOk Tryz.prog 178 ⟨[.val (.list (.int .u64)), .val (.int .i64)], [(.int .u64)], C178⟩ := f178_ok 60
noncomputable def C179 : ((List Int) × Unit) → Option ((Int × Unit) × (Unit)) := fun x => f179_I 60 C178 x.1
theorem c179_ok : FnOk Tryz.prog 179 ⟨[.val (.list (.int .u64))], [(.int .u64)], C179⟩ := f179_ok 60 C178 c178_ok
noncomputable def C146 : ((Bool × (List Int)) × Unit) → Option ((Int × Bool × Unit) × (Unit)) := fun x => f146_I 60 C178 C179 x.1
theorem c146_ok : FnOk Tryz.prog 146 ⟨[.val (.pair .bool (.list (.int .u64)))], [(.int .i64), .bool], C146⟩ := f146_ok 60 C178 C179 c178_ok c179_ok
noncomputable def C119 : ((List UInt8) × Unit) → Option ((Int × Bool × Unit) × (Unit)) := fun x => f119_I 60 C144 C145 C146 x.1
theorem c119_ok : FnOk Tryz.prog 119 ⟨[.val .str], [(.int .i64), .bool], C119⟩ := f119_ok 60 C144 C145 C146 c144_ok c145_ok c146_ok
noncomputable def C117 : ((List UInt8) × Unit) → Option ((Bool × Unit) × (Unit)) := fun x => f117_I 60 C119 x.1
theorem c117_ok : FnOk Tryz.prog 117 ⟨[.val .str], [.bool], C117⟩ := f117_ok 60 C119 c119_ok
noncomputable def C226 : ((List UInt8) × Int × Unit) → Option ((Int × Unit) × (Unit)) := fun x => some ((Lib.indexByte x.1 x.2.1.toNat.toUInt8, ()), ())
theorem c226_ok : FnOk Tryz.prog 226 ⟨[.val .str, .val (.int .u8)], [(.int .i64)], C226⟩ := index_ok
noncomputable def C210 : ((List UInt8) × Int × Unit) → Option ((Int × Unit) × (Unit)) := fun x => f210_I 60 C226 x.1 x.2.1
theorem c210_ok : FnOk Tryz.prog 210 ⟨[.val .str, .val (.int .u8)], [(.int .i64)], C210⟩ := f210_ok 60 C226 c226_ok
noncomputable def C200 : ((List UInt8) × (List UInt8) × Unit) → Option ((Int × Unit) × (Unit)) := fun x => f200_I 60 C210 x.1 x.2.1
theorem c200_ok : FnOk Tryz.prog 200 ⟨[.val .str, .val .str], [(.int .i64)], C200⟩ := f200_ok 60 C210 c210_ok
noncomputable def C176 : ((List UInt8) × (List UInt8) × Unit) → Option (((List UInt8) × (List UInt8) × Bool × Unit) × (Unit)) := fun x => f176_I 60 C200 x.1 x.2.1
theorem c176_ok : FnOk Tryz.prog 176 ⟨[.val .str, .val .str], [.str, .str, .bool], C176⟩ := f176_ok 60 C200 c200_ok
noncomputable def C143 : ((List UInt8) × (List UInt8) × Unit) → Option (((List UInt8) × (List UInt8) × Bool × Unit) × (Unit)) := fun x => f143_I 60 C176 x.1 x.2.1
theorem c143_ok : FnOk Tryz.prog 143 ⟨[.val .str, .val .str], [.str, .str, .bool], C143⟩ := f143_ok 60 C176 c176_ok
noncomputable def C206 : ((Bool × (List Int)) × Unit) → Option (((Bool × (List Int)) × Unit) × (Unit)) := fun x => f206_I 60 C186 x.1
theorem c206_ok : FnOk Tryz.prog 206 ⟨[.val (.pair .bool (.list (.int .u64)))], [(.pair .bool (.list (.int .u64)))], C206⟩ := f206_ok 60 C186 c186_ok
noncomputable def C221 : ((List Int) × (List Int) × Unit) → Option (((List Int) × Unit) × (Unit)) := fun x => f221_I 60 C178 C187 x.1 x.2.1
theorem c221_ok : FnOk Tryz.prog 221 ⟨[.val (.list (.int .u64)), .val (.list (.int .u64))], [(.list (.int .u64))], C221⟩ := f221_ok 60 C178 C187 c178_ok c187_ok
noncomputable def C231 : (Int × Unit) → Option ((Int × Unit) × (Unit)) := fun x => f231_I 60 x.1
theorem c231_ok : FnOk Tryz.prog 231 ⟨[.val (.int .i64)], [(.int .i64)], C231⟩ := f231_ok 60
noncomputable def C222 : ((List Int) × (List Int) × Unit) → Option ((Int × Unit) × (Unit)) := fun x => f222_I 60 C231 x.1 x.2.1
theorem c222_ok : FnOk Tryz.prog 222 ⟨[.val (.list (.int .u64)), .val (.list (.int .u64))], [(.int .i64)], C222⟩ := f222_ok 60 C231 c231_ok
noncomputable def C223 : ((List Int) × (List Int) × Unit) → Option (((List Int) × Unit) × (Unit)) := fun x => f223_I 60 C178 C187 x.1 x.2.1
theorem c223_ok : FnOk Tryz.prog 223 ⟨[.val (.list (.int .u64)), .val (.list (.int .u64))], [(.list (.int .u64))], C223⟩ := f223_ok 60 C178 C187 c178_ok c187_ok
noncomputable def C205 : ((Bool × (List Int)) × (Bool × (List Int)) × Unit) → Option (((Bool × (List Int)) × Unit) × (Unit)) := fun x => f205_I 60 C221 C186 C222 C223 x.1 x.2.1
theorem c205_ok : FnOk Tryz.prog 205 ⟨[.val (.pair .bool (.list (.int .u64))), .val (.pair .bool (.list (.int .u64)))], [(.pair .bool (.list (.int .u64)))], C205⟩ := f205_ok 60 C221 C186 C222 C223 c221_ok c186_ok c222_ok c223_ok
noncomputable def C189 : ((Bool × (List Int)) × (Bool × (List Int)) × Unit) → Option (((Bool × (List Int)) × Unit) × (Unit)) := fun x => f189_I 60 C206 C205 x.1 x.2.1
theorem c189_ok : FnOk Tryz.prog 189 ⟨[.val (.pair .bool (.list (.int .u64))), .val (.pair .bool (.list (.int .u64)))], [(.pair .bool (.list (.int .u64)))], C189⟩ := f189_ok 60 C206 C205 c206_ok c205_ok
noncomputable def C190 : ((Bool × (List Int)) × Unit) → Option ((Int × Unit) × (Unit)) := fun x => f190_I 60 x.1
theorem c190_ok : FnOk Tryz.prog 190 ⟨[.val (.pair .bool (.list (.int .u64)))], [(.int .i64)], C190⟩ := f190_ok 60
noncomputable def C156 : ((Bool × (List Int)) × (Bool × (List Int)) × Unit) → Option ((Int × Unit) × (Unit)) := fun x => f156_I 60 C189 C190 x.1 x.2.1
theorem c156_ok : FnOk Tryz.prog 156 ⟨[.val (.pair .bool (.list (.int .u64))), .val (.pair .bool (.list (.int .u64)))], [(.int .i64)], C156⟩ := f156_ok 60 C189 C190 c189_ok c190_ok
noncomputable def C173 : ((List UInt8) × (List UInt8) × Unit) → Option ((Int × Unit) × (Unit)) := fun x => f173_I 60 C144 C145 C156 x.1 x.2.1
theorem c173_ok : FnOk Tryz.prog 173 ⟨[.val .str, .val .str], [(.int .i64)], C173⟩ := f173_ok 60 C144 C145 C156 c144_ok c145_ok c156_ok
noncomputable def C224 : ((List Int) × Int × Unit) → Option (((List Int) × Int × Unit) × (Unit)) := fun x => f224_I 60 C187 x.1 x.2.1
theorem c224_ok : FnOk Tryz.prog 224 ⟨[.val (.list (.int .u64)), .val (.int .u64)], [(.list (.int .u64)), (.int .u64)], C224⟩ := f224_ok 60 C187 c187_ok
noncomputable def C188 : ((List Int) × (List Int) × Unit) → Option (((List Int) × Unit) × (Unit)) := fun x => f188_I 60 C187 x.1 x.2.1
theorem c188_ok : FnOk Tryz.prog 188 ⟨[.val (.list (.int .u64)), .val (.list (.int .u64))], [(.list (.int .u64))], C188⟩ := f188_ok 60 C187 c187_ok
noncomputable def C209 : ((List Int) × (List Int) × Unit) → Option (((List Int) × (List Int) × Unit) × (Unit)) := fun x => f209_I 60 C222 C224 C187 C188 x.1 x.2.1
theorem c209_ok : FnOk Tryz.prog 209 ⟨[.val (.list (.int .u64)), .val (.list (.int .u64))], [(.list (.int .u64)), (.list (.int .u64))], C209⟩ := f209_ok 60 C222 C224 C187 C188 c222_ok c224_ok c187_ok c188_ok
noncomputable def C199 : ((List Int) × (List Int) × Unit) → Option (((List Int) × Unit) × (Unit)) := fun x => f199_I 60 C209 C179 C187 x.1 x.2.1
theorem c199_ok : FnOk Tryz.prog 199 ⟨[.val (.list (.int .u64)), .val (.list (.int .u64))], [(.list (.int .u64))], C199⟩ := f199_ok 60 C209 C179 C187 c209_ok c179_ok c187_ok
noncomputable def C174 : ((Bool × (List Int)) × (Bool × (List Int)) × Unit) → Option (((Bool × (List Int)) × Unit) × (Unit)) := fun x => f174_I 60 C199 C186 x.1 x.2.1
theorem c174_ok : FnOk Tryz.prog 174 ⟨[.val (.pair .bool (.list (.int .u64))), .val (.pair .bool (.list (.int .u64)))], [(.pair .bool (.list (.int .u64)))], C174⟩ := f174_ok 60 C199 C186 c199_ok c186_ok
noncomputable def C175 : (Int × Unit) → Option (((Bool × (List Int)) × Unit) × (Unit)) := fun x => f175_I 60 C187 C186 x.1
theorem c175_ok : FnOk Tryz.prog 175 ⟨[.val (.int .i64)], [(.pair .bool (.list (.int .u64)))], C175⟩ := f175_ok 60 C187 C186 c187_ok c186_ok
noncomputable def C142 : ((List UInt8) × Unit) → Option ((Bool × Unit) × (Unit)) := fun x => f142_I 60 C143 C144 C173 C154 C174 C175 C156 x.1
theorem c142_ok : FnOk Tryz.prog 142 ⟨[.val .str], [.bool], C142⟩ := f142_ok 60 C143 C144 C173 C154 C174 C175 C156 c143_ok c144_ok c173_ok c154_ok c174_ok c175_ok c156_ok
noncomputable def C118 : ((List UInt8) × Unit) → Option (((List UInt8) × (List UInt8) × Bool × Unit) × (Unit)) := fun x => f118_I 60 C142 C143 x.1
theorem c118_ok : FnOk Tryz.prog 118 ⟨[.val .str], [.str, .str, .bool], C118⟩ := f118_ok 60 C142 C143 c142_ok c143_ok
noncomputable def C81 : (((List UInt8) × Int) × (List UInt8) × Unit) → Option ((Bool × Unit) × (Unit)) := fun x => f81_I 60 C117 C118 C119 C120 x.1 x.2.1
theorem c81_ok : FnOk Tryz.prog 81 ⟨[.val (.pair .str (.int .i64)), .val .str], [.bool], C81⟩ := f81_ok 60 C117 C118 C119 C120 c117_ok c118_ok c119_ok c120_ok
noncomputable def C58 : (((List ((List UInt8) × Int)) × ((List ((List UInt8) × (List Int))) × ((List (Int × (Int × Int))) × Int))) × (Int × (Int × (List UInt8))) × Unit) → Option ((Bool × Unit) × (Unit)) := fun x => f58_I 60 C81 x.1 x.2.1
theorem c58_ok : FnOk Tryz.prog 58 ⟨[.val (.pair (.list (.pair .str (.int .i64))) (.pair (.list (.pair .str (.list (.int .i64)))) (.pair (.list (.pair (.int .i64) (.pair (.int .i64) (.int .i64)))) (.int .i64)))), .val (.pair (.int .i64) (.pair (.int .i64) .str))], [.bool], C58⟩ := f58_ok 60 C81 c81_ok
noncomputable def C24 : (((List ((List UInt8) × Int)) × ((List ((List UInt8) × (List Int))) × ((List (Int × (Int × Int))) × Int))) × (List (Int × (Int × (List UInt8)))) × Unit) → Option ((Int × Unit) × (Unit)) := fun x => f24_I 60 C56 C58 x.1 x.2.1
theorem c24_ok : FnOk Tryz.prog 24 ⟨[.val (.pair (.list (.pair .str (.int .i64))) (.pair (.list (.pair .str (.list (.int .i64)))) (.pair (.list (.pair (.int .i64) (.pair (.int .i64) (.int .i64)))) (.int .i64)))), .val (.list (.pair (.int .i64) (.pair (.int .i64) .str)))], [(.int .i64)], C24⟩ := f24_ok 60 C56 C58 c56_ok c58_ok
noncomputable def C51 : ((Int × (Int × (List UInt8))) × Unit) → Option (((Option (Nat × (Int × (Int × (List UInt8))))) × Unit) × (Unit)) := fun x => ofI x
theorem c51_ok : FnOk Tryz.prog 51 ⟨[.val (.pair (.int .i64) (.pair (.int .i64) .str))], [(.fn (.one (.pair (.int .i64) (.pair (.int .i64) .str))))], C51⟩ := of_ok
noncomputable def C153 : ((List UInt8) × Unit) → Option ((Bool × Unit) × (Unit)) := fun x => f153_I 60 C142 x.1
theorem c153_ok : FnOk Tryz.prog 153 ⟨[.val .str], [.bool], C153⟩ := f153_ok 60 C142 c142_ok
noncomputable def C183 : ((List (List UInt8)) × (Option (Nat × Unit)) × Unit) → Option ((Int × Unit) × (Unit)) := fun x => f183_I 60 C153 x.1 x.2.1
theorem c183_ok : FnOk Tryz.prog 183 ⟨[.val (.list .str), .val (.fn .unit)], [(.int .i64)], C183⟩ := f183_ok 60 C153 c153_ok
noncomputable def C152 : ((List (List UInt8)) × (Option (Nat × Unit)) × Unit) → Option ((Bool × Unit) × (Unit)) := fun x => f152_I 60 C183 x.1 x.2.1
theorem c152_ok : FnOk Tryz.prog 152 ⟨[.val (.list .str), .val (.fn .unit)], [.bool], C152⟩ := f152_ok 60 C183 c183_ok
noncomputable def C126 : ((List (List UInt8)) × Unit) → Option ((Bool × Unit) × (Unit)) := fun x => f126_I 60 C152 x.1
theorem c126_ok : FnOk Tryz.prog 126 ⟨[.val (.list .str)], [.bool], C126⟩ := f126_ok 60 C152 c152_ok
noncomputable def C127 : ((List UInt8) × Unit) → Option ((((Bool × (List Int)) × (Bool × (List Int))) × Unit) × (Unit)) := fun x => f127_I 60 C143 C154 x.1
theorem c127_ok : FnOk Tryz.prog 127 ⟨[.val .str], [(.pair (.pair .bool (.list (.int .u64))) (.pair .bool (.list (.int .u64))))], C127⟩ := f127_ok 60 C143 C154 c143_ok c154_ok
noncomputable def C155 : ((Bool × (List Int)) × (Bool × (List Int)) × Unit) → Option (((Bool × (List Int)) × Unit) × (Unit)) := fun x => f155_I 60 C188 C186 x.1 x.2.1
theorem c155_ok : FnOk Tryz.prog 155 ⟨[.val (.pair .bool (.list (.int .u64))), .val (.pair .bool (.list (.int .u64)))], [(.pair .bool (.list (.int .u64)))], C155⟩ := f155_ok 60 C188 C186 c188_ok c186_ok
noncomputable def C128 : (((Bool × (List Int)) × (Bool × (List Int))) × ((Bool × (List Int)) × (Bool × (List Int))) × Unit) → Option ((Int × Unit) × (Unit)) := fun x => f128_I 60 C155 C156 x.1 x.2.1
theorem c128_ok : FnOk Tryz.prog 128 ⟨[.val (.pair (.pair .bool (.list (.int .u64))) (.pair .bool (.list (.int .u64)))), .val (.pair (.pair .bool (.list (.int .u64))) (.pair .bool (.list (.int .u64))))], [(.int .i64)], C128⟩ := f128_ok 60 C155 C156 c155_ok c156_ok
noncomputable def C91 : ((List UInt8) × (List UInt8) × Unit) → Option ((Int × Unit) × (Unit)) := fun x => f91_I 60 C126 C127 C128 x.1 x.2.1
theorem c91_ok : FnOk Tryz.prog 91 ⟨[.val .str, .val .str], [(.int .i64)], C91⟩ := f91_ok 60 C126 C127 C128 c126_ok c127_ok c128_ok
noncomputable def C82 : ((Int × (Int × (List UInt8))) × (List UInt8) × Unit) → Option ((Bool × Unit) × (Unit)) := fun x => f82_I 60 C91 x.1 x.2.1
theorem c82_ok : FnOk Tryz.prog 82 ⟨[.val (.one (.pair (.int .i64) (.pair (.int .i64) .str))), .val .str], [.bool], C82⟩ := f82_ok 60 C91 c91_ok
noncomputable def C83 : ((Int × (Int × (List UInt8))) × (List UInt8) × Unit) → Option ((Bool × Unit) × (Unit)) := fun x => f83_I 60 C82 x.1 x.2.1
theorem c83_ok : FnOk Tryz.prog 83 ⟨[.val (.one (.pair (.int .i64) (.pair (.int .i64) .str))), .val .str], [.bool], C83⟩ := f83_ok 60 C82 c82_ok
noncomputable def C84 : ((Int × (Int × (List UInt8))) × (List UInt8) × Unit) → Option ((Bool × Unit) × (Unit)) := fun x => f84_I 60 x.1 x.2.1
theorem c84_ok : FnOk Tryz.prog 84 ⟨[.val (.one (.pair (.int .i64) (.pair (.int .i64) .str))), .val .str], [.bool], C84⟩ := f84_ok 60
noncomputable def C85 : ((Int × (Int × (List UInt8))) × (List UInt8) × Unit) → Option ((Bool × Unit) × (Unit)) := fun x => f85_I 60 x.1 x.2.1
theorem c85_ok : FnOk Tryz.prog 85 ⟨[.val (.one (.pair (.int .i64) (.pair (.int .i64) .str))), .val .str], [.bool], C85⟩ := f85_ok 60
noncomputable def C90 : ((List (Int × (Int × (List UInt8)))) × (List UInt8) × Unit) → Option ((Bool × Unit) × (Unit)) := fun x => f90_I 60 C51 C82 C83 C84 C85 x.1 x.2.1
theorem c90_ok : FnOk Tryz.prog 90 ⟨[.val (.list (.pair (.int .i64) (.pair (.int .i64) .str))), .val .str], [.bool], C90⟩ := f90_ok 60 C51 C82 C83 C84 C85 c51_ok c82_ok c83_ok c84_ok c85_ok
noncomputable def C92 : ((List (Int × (Int × (List UInt8)))) × Unit) → Option (((List (Int × (Int × (List UInt8)))) × Unit) × (Unit)) := fun x => cloneI (c := testC) 32 x
theorem c92_ok : FnOk Tryz.prog 92 ⟨[.val (.list (.pair (.int .i64) (.pair (.int .i64) .str)))], [(.list (.pair (.int .i64) (.pair (.int .i64) .str)))], C92⟩ := clone92_ok
noncomputable def C167 : (Int × Unit) → Option ((Int × Unit) × (Unit)) := fun x => f167_I 60 x.1
theorem c167_ok : FnOk Tryz.prog 167 ⟨[.val (.int .u64)], [(.int .i64)], C167⟩ := f167_ok 60
noncomputable def C130 : (Int × Unit) → Option ((Int × Unit) × (Unit)) := fun x => f130_I 60 C167 x.1
theorem c130_ok : FnOk Tryz.prog 130 ⟨[.val (.int .u64)], [(.int .i64)], C130⟩ := f130_ok 60 C167 c167_ok
noncomputable def C196 : ((List UInt8) × Unit) → Option ((Bool × Unit) × (Unit)) := fun x => f196_I 60 x.1
theorem c196_ok : FnOk Tryz.prog 196 ⟨[.val .str], [.bool], C196⟩ := f196_ok 60
noncomputable def C163 : ((List UInt8) × (List UInt8) × Unit) → Option ((Bool × Unit) × (Unit)) := fun x => f163_I 60 C196 x.1 x.2.1
theorem c163_ok : FnOk Tryz.prog 163 ⟨[.val .str, .val .str], [.bool], C163⟩ := f163_ok 60 C196 c196_ok
noncomputable def C157 : ((List (List UInt8)) × Int × Int × Unit) → Option ((Unit) × (Unit)) := fun x => f157_I 60 C163 x.1 x.2.1 x.2.2.1
theorem c157_ok : FnOk Tryz.prog 157 ⟨[.val (.list .str), .val (.int .i64), .val (.int .i64)], [], C157⟩ := f157_ok 60 C163 c163_ok
noncomputable def C158 : ((List (List UInt8)) × Int × Int × Unit) → Option ((Unit) × (Unit)) := fun _ => none
theorem c158_ok : FnOk Tryz.prog 158 ⟨[.val (.list .str), .val (.int .i64), .val (.int .i64)], [], C158⟩ := fun _ _ h => by cases h
noncomputable def C159 : ((List (List UInt8)) × Int × Int × Unit) → Option ((Unit) × (Unit)) := fun _ => none
theorem c159_ok : FnOk Tryz.prog 159 ⟨[.val (.list .str), .val (.int .i64), .val (.int .i64)], [], C159⟩ := fun _ _ h => by cases h
noncomputable def C160 : ((List (List UInt8)) × Int × Int × Unit) → Option ((Int × Int × Unit) × (Unit)) := fun _ => none
theorem c160_ok : FnOk Tryz.prog 160 ⟨[.val (.list .str), .val (.int .i64), .val (.int .i64)], [(.int .i64), (.int .i64)], C160⟩ := fun _ _ h => by cases h
noncomputable def C161 : ((List (List UInt8)) × Int × Int × Unit) → Option ((Unit) × (Unit)) := fun _ => none
theorem c161_ok : FnOk Tryz.prog 161 ⟨[.val (.list .str), .val (.int .i64), .val (.int .i64)], [], C161⟩ := fun _ _ h => by cases h
noncomputable def C162 : ((List (List UInt8)) × Int × Int × Unit) → Option ((Bool × Unit) × (Unit)) := fun _ => none
theorem c162_ok : FnOk Tryz.prog 162 ⟨[.val (.list .str), .val (.int .i64), .val (.int .i64)], [.bool], C162⟩ := fun _ _ h => by cases h
noncomputable def C164 : ((List (List UInt8)) × Int × Int × Int × Unit) → Option ((Int × Unit) × (Unit)) := fun _ => none
theorem c164_ok : FnOk Tryz.prog 164 ⟨[.val (.list .str), .val (.int .i64), .val (.int .i64), .val (.int .i64)], [(.int .i64)], C164⟩ := fun _ _ h => by cases h
noncomputable def C165 : ((List (List UInt8)) × Int × Int × Int × Unit) → Option ((Int × Bool × Unit) × (Unit)) := fun _ => none
theorem c165_ok : FnOk Tryz.prog 165 ⟨[.val (.list .str), .val (.int .i64), .val (.int .i64), .val (.int .i64)], [(.int .i64), .bool], C165⟩ := fun _ _ h => by cases h
noncomputable def C129 : ((List (List UInt8)) × Int × Int × Int × Unit) → Option ((Unit) × (Unit)) := fun x => f129_I 60 C157 C158 C159 C160 C161 C162 C163 C164 C165 (fun _ => none) x.1 x.2.1 x.2.2.1 x.2.2.2.1
theorem c129_ok : FnOk Tryz.prog 129 ⟨[.val (.list .str), .val (.int .i64), .val (.int .i64), .val (.int .i64)], [], C129⟩ := f129_ok 60 C157 C158 C159 C160 C161 C162 C163 C164 C165 (fun _ => none) c157_ok c158_ok c159_ok c160_ok c161_ok c162_ok c163_ok c164_ok c165_ok (fun _ _ h => by cases h)
noncomputable def C93 : ((List (List UInt8)) × Unit) → Option ((Unit) × (Unit)) := fun x => f93_I 60 C130 C129 x.1
theorem c93_ok : FnOk Tryz.prog 93 ⟨[.val (.list .str)], [], C93⟩ := f93_ok 60 C130 C129 c130_ok c129_ok
noncomputable def C94 : ((List (List UInt8)) × Unit) → Option (((List (List UInt8)) × Unit) × (Unit)) := fun x => f94_I 60 x.1
theorem c94_ok : FnOk Tryz.prog 94 ⟨[.val (.list .str)], [(.list .str)], C94⟩ := f94_ok 60
noncomputable def C53 : ((List (Int × (Int × (List UInt8)))) × Unit) → Option (((List (Int × (Int × (List UInt8)))) × Bool × Unit) × (Unit)) := fun x => vfun (f53_cx C90 C91 C92 C93 C94) f53_an 60 Tryz.f53 [.val (.list (.pair (.int .i64) (.pair (.int .i64) .str)))] [(.list (.pair (.int .i64) (.pair (.int .i64) .str))), .bool] x
theorem c53_ok : FnOk Tryz.prog 53 ⟨[.val (.list (.pair (.int .i64) (.pair (.int .i64) .str)))], [(.list (.pair (.int .i64) (.pair (.int .i64) .str))), .bool], C53⟩ := fn_ok (an := f53_an) (k := 60) follows_mixed tys_ok ⟨(look_fn (AllFn.cons c90_ok (AllFn.cons c91_ok (AllFn.cons c92_ok (AllFn.cons c93_ok (AllFn.cons c94_ok (AllFn.nil))))))), look_new AllNew.nil⟩ Tryz.func53 rfl rfl rfl
noncomputable def C20 : (((List ((List UInt8) × Int)) × ((List ((List UInt8) × (List Int))) × ((List (Int × (Int × Int))) × Int))) × (List (Int × (Int × (List UInt8)))) × Unit) → Option (((List (Int × (Int × (List UInt8)))) × Bool × Unit) × (Unit)) := fun x => f20_I 60 C24 C53 x.1 x.2.1
theorem c20_ok : FnOk Tryz.prog 20 ⟨[.val (.pair (.list (.pair .str (.int .i64))) (.pair (.list (.pair .str (.list (.int .i64)))) (.pair (.list (.pair (.int .i64) (.pair (.int .i64) (.int .i64)))) (.int .i64)))), .val (.list (.pair (.int .i64) (.pair (.int .i64) .str)))], [(.list (.pair (.int .i64) (.pair (.int .i64) .str))), .bool], C20⟩ := f20_ok 60 C24 C53 c24_ok c53_ok
noncomputable def C50 : (((List ((List UInt8) × Int)) × ((List ((List UInt8) × (List Int))) × ((List (Int × (Int × Int))) × Int))) × (List (List UInt8)) × Unit) → Option ((Bool × Unit) × (Unit)) := fun x => f50_I 60 C81 x.1 x.2.1
theorem c50_ok : FnOk Tryz.prog 50 ⟨[.val (.pair (.list (.pair .str (.int .i64))) (.pair (.list (.pair .str (.list (.int .i64)))) (.pair (.list (.pair (.int .i64) (.pair (.int .i64) (.int .i64)))) (.int .i64)))), .val (.list .str)], [.bool], C50⟩ := f50_ok 60 C81 c81_ok
noncomputable def C18 : (((List ((List UInt8) × Int)) × ((List ((List UInt8) × (List Int))) × ((List (Int × (Int × Int))) × Int))) × (List (Int × (Int × (List UInt8)))) × (List (List UInt8)) × Unit) → Option ((Bool × Unit) × (Unit)) := fun x => f18_I 60 C24 C50 C51 C82 C83 C84 C85 x.1 x.2.1 x.2.2.1
theorem c18_ok : FnOk Tryz.prog 18 ⟨[.val (.pair (.list (.pair .str (.int .i64))) (.pair (.list (.pair .str (.list (.int .i64)))) (.pair (.list (.pair (.int .i64) (.pair (.int .i64) (.int .i64)))) (.int .i64)))), .val (.list (.pair (.int .i64) (.pair (.int .i64) .str))), .val (.list .str)], [.bool], C18⟩ := f18_ok 60 C24 C50 C51 C82 C83 C84 C85 c24_ok c50_ok c51_ok c82_ok c83_ok c84_ok c85_ok
noncomputable def C12 : (Unit) → Option ((Bool × Unit) × (Unit)) := fun x => f12_I 60 C20 C18
theorem c12_ok : FnOk Tryz.prog 12 ⟨[], [.bool], C12⟩ := f12_ok 60 C20 C18 c20_ok c18_ok
noncomputable def C48 : (Int × Int × Unit) → Option ((Int × Unit) × (Unit)) := fun x => f48_I 60 x.1 x.2.1
theorem c48_ok : FnOk Tryz.prog 48 ⟨[.val (.int .i64), .val (.int .i64)], [(.int .i64)], C48⟩ := f48_ok 60
noncomputable def C16 : (((List Int) × Int) × Int × Unit) → Option ((Int × Unit) × (((List Int) × Int) × Unit)) := fun x => f16_I 60 C48 x.1 x.2.1
theorem c16_ok : FnOk Tryz.prog 16 ⟨[.ptr (.pair (.list (.int .i64)) (.int .i64)), .val (.int .i64)], [(.int .i64)], C16⟩ := f16_ok 60 C48 c48_ok
noncomputable def C43 : (((List Int) × Int) × Int × Int × Unit) → Option ((Int × Unit) × (((List Int) × Int) × Unit)) := fun x => f43_I 60 C16 x.1 x.2.1 x.2.2.1
theorem c43_ok : FnOk Tryz.prog 43 ⟨[.ptr (.pair (.list (.int .i64)) (.int .i64)), .val (.int .i64), .val (.int .i64)], [(.int .i64)], C43⟩ := f43_ok 60 C16 c16_ok
noncomputable def C46 : ((List UInt8) × Int × Unit) → Option (((List UInt8) × Unit) × (Unit)) := fun x => f46_I 60 x.1 x.2.1
theorem c46_ok : FnOk Tryz.prog 46 ⟨[.val .str, .val (.int .i64)], [.str], C46⟩ := f46_ok 60
noncomputable def C47 : (((List Int) × Int) × (List Int) × Unit) → Option ((Int × Unit) × (((List Int) × Int) × Unit)) := fun x => f47_I 60 C16 x.1 x.2.1
theorem c47_ok : FnOk Tryz.prog 47 ⟨[.ptr (.pair (.list (.int .i64)) (.int .i64)), .val (.list (.int .i64))], [(.int .i64)], C47⟩ := f47_ok 60 C16 c16_ok
noncomputable def C14 : (((List Int) × Int) × Int × Unit) → Option ((((List ((List UInt8) × Int)) × ((List ((List UInt8) × (List Int))) × ((List (Int × (Int × Int))) × Int))) × Unit) × (((List Int) × Int) × Unit)) := fun x => f14_I 60 C43 C16 C46 C47 x.1 x.2.1
theorem c14_ok : FnOk Tryz.prog 14 ⟨[.ptr (.pair (.list (.int .i64)) (.int .i64)), .val (.int .i64)], [(.pair (.list (.pair .str (.int .i64))) (.pair (.list (.pair .str (.list (.int .i64)))) (.pair (.list (.pair (.int .i64) (.pair (.int .i64) (.int .i64)))) (.int .i64))))], C14⟩ := f14_ok 60 C43 C16 C46 C47 c43_ok c16_ok c46_ok c47_ok
noncomputable def C49 : (((List Int) × Int) × ((List UInt8) × Int) × Unit) → Option (((List UInt8) × Unit) × (((List Int) × Int) × Unit)) := fun x => f49_I 60 C16 x.1 x.2.1
theorem c49_ok : FnOk Tryz.prog 49 ⟨[.ptr (.pair (.list (.int .i64)) (.int .i64)), .val (.pair .str (.int .i64))], [.str], C49⟩ := f49_ok 60 C16 c16_ok
noncomputable def C32 : (((List Int) × Int) × ((List ((List UInt8) × Int)) × ((List ((List UInt8) × (List Int))) × ((List (Int × (Int × Int))) × Int))) × Unit) → Option (((Int × (Int × (List UInt8))) × Unit) × (((List Int) × Int) × Unit)) := fun x => f32_I 60 C16 C43 C49 x.1 x.2.1
theorem c32_ok : FnOk Tryz.prog 32 ⟨[.ptr (.pair (.list (.int .i64)) (.int .i64)), .val (.pair (.list (.pair .str (.int .i64))) (.pair (.list (.pair .str (.list (.int .i64)))) (.pair (.list (.pair (.int .i64) (.pair (.int .i64) (.int .i64)))) (.int .i64))))], [(.pair (.int .i64) (.pair (.int .i64) .str))], C32⟩ := f32_ok 60 C16 C43 C49 c16_ok c43_ok c49_ok
noncomputable def C15 : (((List Int) × Int) × ((List ((List UInt8) × Int)) × ((List ((List UInt8) × (List Int))) × ((List (Int × (Int × Int))) × Int))) × Int × Unit) → Option (((List (Int × (Int × (List UInt8)))) × Unit) × (((List Int) × Int) × Unit)) := fun x => f15_I 60 C16 C32 x.1 x.2.1 x.2.2.1
theorem c15_ok : FnOk Tryz.prog 15 ⟨[.ptr (.pair (.list (.int .i64)) (.int .i64)), .val (.pair (.list (.pair .str (.int .i64))) (.pair (.list (.pair .str (.list (.int .i64)))) (.pair (.list (.pair (.int .i64) (.pair (.int .i64) (.int .i64)))) (.int .i64)))), .val (.int .i64)], [(.list (.pair (.int .i64) (.pair (.int .i64) .str)))], C15⟩ := f15_ok 60 C16 C32 c16_ok c32_ok
noncomputable def C17 : (((List Int) × Int) × ((List ((List UInt8) × Int)) × ((List ((List UInt8) × (List Int))) × ((List (Int × (Int × Int))) × Int))) × Unit) → Option (((List (List UInt8)) × Unit) × (((List Int) × Int) × Unit)) := fun x => f17_I 60 C49 x.1 x.2.1
theorem c17_ok : FnOk Tryz.prog 17 ⟨[.ptr (.pair (.list (.int .i64)) (.int .i64)), .val (.pair (.list (.pair .str (.int .i64))) (.pair (.list (.pair .str (.list (.int .i64)))) (.pair (.list (.pair (.int .i64) (.pair (.int .i64) (.int .i64)))) (.int .i64))))], [(.list .str)], C17⟩ := f17_ok 60 C49 c49_ok
noncomputable def C122 : ((List UInt8) × Unit) → Option (((List UInt8) × (List UInt8) × Bool × Unit) × (Unit)) := fun x => f122_I 60 x.1
theorem c122_ok : FnOk Tryz.prog 122 ⟨[.val .str], [.str, .str, .bool], C122⟩ := f122_ok 60
noncomputable def C108 : ((List UInt8) × Unit) → Option ((Bool × Unit) × (Unit)) := fun x => f108_I 60 x.1
theorem c108_ok : FnOk Tryz.prog 108 ⟨[.val .str], [.bool], C108⟩ := f108_ok 60
noncomputable def C136 : ((Bool × (List Int)) × Unit) → Option (((Bool × (List Int)) × Unit) × (Unit)) := fun x => f136_I 60 x.1
theorem c136_ok : FnOk Tryz.prog 136 ⟨[.val (.pair .bool (.list (.int .i64)))], [(.pair .bool (.list (.int .i64)))], C136⟩ := f136_ok 60
noncomputable def C109 : ((List UInt8) × Unit) → Option (((Bool × (List Int)) × Unit) × (Unit)) := fun x => f109_I 60 C136 x.1
theorem c109_ok : FnOk Tryz.prog 109 ⟨[.val .str], [(.pair .bool (.list (.int .i64)))], C109⟩ := f109_ok 60 C136 c136_ok
noncomputable def C138 : ((List Int) × (List Int) × Unit) → Option ((Int × Unit) × (Unit)) := fun x => f138_I 60 x.1 x.2.1
theorem c138_ok : FnOk Tryz.prog 138 ⟨[.val (.list (.int .i64)), .val (.list (.int .i64))], [(.int .i64)], C138⟩ := f138_ok 60
noncomputable def C180 : ((List Int) × Int × Unit) → Option (((List Int) × Unit) × (Unit)) := fun x => f180_I 60 C136 x.1 x.2.1
theorem c180_ok : FnOk Tryz.prog 180 ⟨[.val (.list (.int .i64)), .val (.int .i64)], [(.list (.int .i64))], C180⟩ := f180_ok 60 C136 c136_ok
noncomputable def C181 : ((List Int) × (List Int) × Unit) → Option (((List Int) × Unit) × (Unit)) := fun x => f181_I 60 x.1 x.2.1
theorem c181_ok : FnOk Tryz.prog 181 ⟨[.val (.list (.int .i64)), .val (.list (.int .i64))], [(.list (.int .i64))], C181⟩ := f181_ok 60
noncomputable def C149 : ((Bool × (List Int)) × (Bool × (List Int)) × Unit) → Option (((Bool × (List Int)) × (Bool × (List Int)) × Unit) × (Unit)) := fun x => f149_I 60 C136 C138 C180 C181 x.1 x.2.1
theorem c149_ok : FnOk Tryz.prog 149 ⟨[.val (.pair .bool (.list (.int .i64))), .val (.pair .bool (.list (.int .i64)))], [(.pair .bool (.list (.int .i64))), (.pair .bool (.list (.int .i64)))], C149⟩ := f149_ok 60 C136 C138 C180 C181 c136_ok c138_ok c180_ok c181_ok
noncomputable def C147 : ((Bool × (List Int)) × (Bool × (List Int)) × Unit) → Option (((Bool × (List Int)) × Unit) × (Unit)) := fun x => f147_I 60 C149 x.1 x.2.1
theorem c147_ok : FnOk Tryz.prog 147 ⟨[.val (.pair .bool (.list (.int .i64))), .val (.pair .bool (.list (.int .i64)))], [(.pair .bool (.list (.int .i64)))], C147⟩ := f147_ok 60 C149 c149_ok
noncomputable def C111 : ((Bool × (List Int)) × Unit) → Option (((List UInt8) × Unit) × (Unit)) := fun x => f111_I 60 x.1
theorem c111_ok : FnOk Tryz.prog 111 ⟨[.val (.pair .bool (.list (.int .i64)))], [.str], C111⟩ := f111_ok 60
noncomputable def C121 : ((List UInt8) × Unit) → Option (((List UInt8) × (List UInt8) × Bool × Unit) × (Unit)) := fun x => f121_I 60 C122 C108 C109 C147 C111 x.1
theorem c121_ok : FnOk Tryz.prog 121 ⟨[.val .str], [.str, .str, .bool], C121⟩ := f121_ok 60 C122 C108 C109 C147 C111 c122_ok c108_ok c109_ok c147_ok c111_ok
noncomputable def C86 : ((List UInt8) × Unit) → Option ((Bool × Unit) × (Unit)) := fun x => f86_I 60 C121 x.1
theorem c86_ok : FnOk Tryz.prog 86 ⟨[.val .str], [.bool], C86⟩ := f86_ok 60 C121 c121_ok
noncomputable def C87 : ((List UInt8) × Unit) → Option ((((Bool × (List Int)) × (Bool × (List Int))) × Unit) × (Unit)) := fun x => f87_I 60 C122 C109 x.1
theorem c87_ok : FnOk Tryz.prog 87 ⟨[.val .str], [(.pair (.pair .bool (.list (.int .i64))) (.pair .bool (.list (.int .i64))))], C87⟩ := f87_ok 60 C122 C109 c122_ok c109_ok
noncomputable def C106 : ((Bool × (List Int)) × (Bool × (List Int)) × Unit) → Option (((Bool × (List Int)) × Unit) × (Unit)) := fun x => f106_I 60 C136 x.1 x.2.1
theorem c106_ok : FnOk Tryz.prog 106 ⟨[.val (.pair .bool (.list (.int .i64))), .val (.pair .bool (.list (.int .i64)))], [(.pair .bool (.list (.int .i64)))], C106⟩ := f106_ok 60 C136 c136_ok
noncomputable def C150 : ((Bool × (List Int)) × Unit) → Option (((Bool × (List Int)) × Unit) × (Unit)) := fun x => f150_I 60 x.1
theorem c150_ok : FnOk Tryz.prog 150 ⟨[.val (.pair .bool (.list (.int .i64)))], [(.pair .bool (.list (.int .i64)))], C150⟩ := f150_ok 60
noncomputable def C182 : ((List Int) × (List Int) × Unit) → Option (((List Int) × Unit) × (Unit)) := fun x => f182_I 60 x.1 x.2.1
theorem c182_ok : FnOk Tryz.prog 182 ⟨[.val (.list (.int .i64)), .val (.list (.int .i64))], [(.list (.int .i64))], C182⟩ := f182_ok 60
noncomputable def C151 : ((Bool × (List Int)) × (Bool × (List Int)) × Unit) → Option (((Bool × (List Int)) × Unit) × (Unit)) := fun x => f151_I 60 C182 C136 C138 C181 x.1 x.2.1
theorem c151_ok : FnOk Tryz.prog 151 ⟨[.val (.pair .bool (.list (.int .i64))), .val (.pair .bool (.list (.int .i64)))], [(.pair .bool (.list (.int .i64)))], C151⟩ := f151_ok 60 C182 C136 C138 C181 c182_ok c136_ok c138_ok c181_ok
noncomputable def C124 : ((Bool × (List Int)) × (Bool × (List Int)) × Unit) → Option (((Bool × (List Int)) × Unit) × (Unit)) := fun x => f124_I 60 C150 C151 x.1 x.2.1
theorem c124_ok : FnOk Tryz.prog 124 ⟨[.val (.pair .bool (.list (.int .i64))), .val (.pair .bool (.list (.int .i64)))], [(.pair .bool (.list (.int .i64)))], C124⟩ := f124_ok 60 C150 C151 c150_ok c151_ok
noncomputable def C105 : (Int × Unit) → Option (((Bool × (List Int)) × Unit) × (Unit)) := fun x => f105_I 60 x.1
theorem c105_ok : FnOk Tryz.prog 105 ⟨[.val (.int .i64)], [(.pair .bool (.list (.int .i64)))], C105⟩ := f105_ok 60
noncomputable def C148 : (Int × Unit) → Option ((((Bool × (List Int)) × (Bool × (List Int))) × Unit) × (Unit)) := fun x => f148_I 60 C105 x.1
theorem c148_ok : FnOk Tryz.prog 148 ⟨[.val (.int .i64)], [(.pair (.pair .bool (.list (.int .i64))) (.pair .bool (.list (.int .i64))))], C148⟩ := f148_ok 60 C105 c105_ok
noncomputable def C123 : ((Bool × (List Int)) × (Bool × (List Int)) × Unit) → Option ((((Bool × (List Int)) × (Bool × (List Int))) × Unit) × (Unit)) := fun x => f123_I 60 C148 C147 C149 C150 x.1 x.2.1
theorem c123_ok : FnOk Tryz.prog 123 ⟨[.val (.pair .bool (.list (.int .i64))), .val (.pair .bool (.list (.int .i64)))], [(.pair (.pair .bool (.list (.int .i64))) (.pair .bool (.list (.int .i64))))], C123⟩ := f123_ok 60 C148 C147 C149 C150 c148_ok c147_ok c149_ok c150_ok
noncomputable def C88 : (((Bool × (List Int)) × (Bool × (List Int))) × ((Bool × (List Int)) × (Bool × (List Int))) × Unit) → Option ((((Bool × (List Int)) × (Bool × (List Int))) × Unit) × (Unit)) := fun x => f88_I 60 C106 C124 C123 x.1 x.2.1
theorem c88_ok : FnOk Tryz.prog 88 ⟨[.val (.pair (.pair .bool (.list (.int .i64))) (.pair .bool (.list (.int .i64)))), .val (.pair (.pair .bool (.list (.int .i64))) (.pair .bool (.list (.int .i64))))], [(.pair (.pair .bool (.list (.int .i64))) (.pair .bool (.list (.int .i64))))], C88⟩ := f88_ok 60 C106 C124 C123 c106_ok c124_ok c123_ok
noncomputable def C125 : (((Bool × (List Int)) × (Bool × (List Int))) × Unit) → Option ((Bool × Unit) × (Unit)) := fun x => f125_I 60 x.1
theorem c125_ok : FnOk Tryz.prog 125 ⟨[.val (.pair (.pair .bool (.list (.int .i64))) (.pair .bool (.list (.int .i64))))], [.bool], C125⟩ := f125_ok 60
noncomputable def C89 : (((Bool × (List Int)) × (Bool × (List Int))) × Unit) → Option ((Int × Unit) × (Unit)) := fun x => f89_I 60 C125 x.1
theorem c89_ok : FnOk Tryz.prog 89 ⟨[.val (.pair (.pair .bool (.list (.int .i64))) (.pair .bool (.list (.int .i64))))], [(.int .i64)], C89⟩ := f89_ok 60 C125 c125_ok
noncomputable def C52 : ((List UInt8) × (List UInt8) × Unit) → Option ((Int × Unit) × (Unit)) := fun x => f52_I 60 C86 C87 C88 C89 x.1 x.2.1
theorem c52_ok : FnOk Tryz.prog 52 ⟨[.val .str, .val .str], [(.int .i64)], C52⟩ := f52_ok 60 C86 C87 C88 C89 c86_ok c87_ok c88_ok c89_ok
noncomputable def C19 : ((Int × (Int × (List UInt8))) × (List UInt8) × Unit) → Option ((Bool × Unit) × (Unit)) := fun x => f19_I 60 C52 x.1 x.2.1
theorem c19_ok : FnOk Tryz.prog 19 ⟨[.val (.pair (.int .i64) (.pair (.int .i64) .str)), .val .str], [.bool], C19⟩ := f19_ok 60 C52 c52_ok
noncomputable def M13 : ((List Int) × Unit) → Option ((List Int) × Int) := fun x => n13_I 60 x.1
theorem m13_ok : NewOk Tryz.prog 13 ⟨[.val (.list (.int .i64))], (.pair (.list (.int .i64)) (.int .i64)), M13⟩ := n13_ok 60
noncomputable def C3 : ((List Int) × Unit) → Option ((Bool × Unit) × (Unit)) := fun x => f3_I 60 C11 C12 C14 C15 C16 C17 C18 C19 M13 x.1
theorem c3_ok : FnOk Tryz.prog 3 ⟨[.val (.list (.int .i64))], [.bool], C3⟩ := f3_ok 60 C11 C12 C14 C15 C16 C17 C18 C19 M13 c11_ok c12_ok c14_ok c15_ok c16_ok c17_ok c18_ok c19_ok m13_ok
end Go.JL
