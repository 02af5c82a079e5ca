/- Contracts by hand: a body-less function of the library; slices.Clone of an empty slice. -/
import Derived.Test.YtnepcgaphhgbnaaGreatDoorHa
set_option linter.unusedVariables false
set_option linter.unusedSimpArgs false
set_option maxRecDepth 100000
namespace Go.JL
open Go Go.Proofs
theorem VR.str {M : Mem} {x : El .str} {v : Value} (h : VR M .str x v) : v = .string ⟨(x : List UInt8).toArray⟩ := by
  have h := h.toLV (β := fun _ => none) (H := fun _ => none)
  exact linv_str h
theorem VR.int {M : Mem} {k : IntKind} {x : El (.int k)} {v : Value} (h : VR M (.int k) x v) : v = .int k x := by
  have h := h.toLV (β := fun _ => none) (H := fun _ => none)
  exact linv_int h
theorem VR.mkInt (M : Mem) (k : IntKind) (n : Int) : VR M (.int k) n (.int k n) := ⟨rfl, ⟨fun h => (by cases h), fun ⟨_, h⟩ => (by cases h)⟩, rfl⟩
theorem index_ok : FnOk Tryz.prog 226 ⟨[.val .str, .val (.int .u8)], [.int .i64], fun x => some ((Lib.indexByte x.1 x.2.1.toNat.toUInt8, ()), ())⟩ := by
  intro x r hF w M vs bs hmem hin hnd
  cases hF
  cases vs with
  | nil => exact hin.elim
  | cons v vs =>
  obtain ⟨hv, hin⟩ := hin
  cases vs with
  | nil => exact hin.elim
  | cons u vs =>
  obtain ⟨hu, hin⟩ := hin
  cases vs with
  | cons _ _ => exact (by cases bs <;> exact hin.elim)
  | nil =>
  cases bs with
  | cons _ _ => exact hin.elim
  | nil =>
  have hv := VR.str hv
  have hu := VR.int hu
  subst hv; subst hu
  intro o a next Q hnext
  rw [run_callFunc_extern Tryz.func226 rfl rfl (by kernel_rfl) (e := Extern.BytealgIndexByte.indexByte) (by kernel_rfl), Lib.run_indexByteString]
  simp only [Result.andThen_ok, Oper.upon_value]
  exact hnext _ _ ⟨M, Mem.le.refl _, hmem, fun _ _ h => .inl h, ⟨[_], ⟨VR.mkInt _ _ _, trivial⟩, rfl⟩, trivial, ⟨rfl, rfl, rfl, Nat.le_refl _, fun _ _ _ => rfl⟩⟩
def NilPost (w : World) (e : Ending) (w' : World) : Prop := ∃ A cap, e = .returned (.slice A 0 cap) ∧ ∃ os : List Obj, w' = os.foldl World.alloc w
theorem run_nil_eq {t e : Nat} (he : Tryz.prog.underlying t = some (.slice e)) (A : Option Addr) (len cap : Nat) (w : World) : (binOp .eql t (.slice A len cap) (.slice none 0 0)).run Tryz.prog w = .ok (.bool A.isNone) w := by
  have main : (Op.equal t (.slice A len cap) (.slice none 0 0)).run Tryz.prog w = .ok A.isNone w := by
    show (Op.equalIn (9999 + 1) t (.slice A len cap) (.slice none 0 0)).run Tryz.prog w = _
    unfold Op.equalIn
    cases A <;> simp only [Sem.run_bind, run_underlying he, Result.andThen_ok, Sem.run_pure, Option.isNone]
  simp [binOp, main]
theorem clone_walk (A : Option Addr) (cap : Nat) (w : World) : Calls Tryz.prog 92 #[.slice A 0 cap] w (NilPost w) := by
  have hq := fun w => run_nil_eq (t := 33) (e := 42) (by kernel_rfl) A 0 cap w
  cases A with
  | none =>
    simp only [Option.isNone] at hq
    go_enter Tryz.func92, Tryz.ntmps92
    go_wp2
    refine ⟨rfl, _, ?_, ⟨none, 0, rfl, [], rfl⟩⟩
    unfold results
    rw [Tryz.results92]
    simp [Sem.run_bind]
  | some ad =>
    simp only [Option.isNone] at hq
    go_enter Tryz.func92, Tryz.ntmps92
    go_wp2
    refine ⟨rfl, _, ?_, ⟨some ⟨w.heap.size, 0, none⟩, 0, rfl, [.cells #[] 42], rfl⟩⟩
    unfold results
    rw [Tryz.results92]
    simp [Sem.run_bind]
theorem cell_allocs {x : Addr} {v : Value} : ∀ (os : List Obj) {w : World}, w.cell? x = some v → (os.foldl World.alloc w).cell? x = some v
  | [], _, h => h
  | o :: os, _, h => cell_allocs os (cell_alloc h o)
theorem ext_allocs : ∀ (os : List Obj) (w : World), ExtB [] w (os.foldl World.alloc w)
  | [], _ => ⟨rfl, rfl, rfl, Nat.le_refl _, fun _ _ _ => rfl⟩
  | o :: os, w => (ext_alloc w o).trans0 (ext_allocs os _)
/-- A copy of a slice: the same elements. -/
def cloneI {c : TC} (bytes : Nat) (x : El (.list c) × Unit) : Option ((El (.list c) × Unit) × Unit) := chk (roomFor (List.length x.1) bytes) (some ((x.1, ()), ()))
theorem clone_of {f : Nat} {fn : Func} {b : Code} {c : TC} {bytes : Nat} (hf : Tryz.prog.funcs[f]? = some fn) (hname : (fn.name == "runtime.NumGoroutine") = false) (hb : fn.body = some b)
    (walk : ∀ (A : Option Addr) (cap : Nat) (w : World), Calls Tryz.prog f #[.slice A 0 cap] w (NilPost w))
    {F : El (.list c) × Unit → Option ((El (.list c) × Unit) × Unit)} (h : FnOk Tryz.prog f ⟨[.val (.list c)], [.list c], F⟩) (hF : ∀ x r, List.isEmpty x.1 = false → cloneI bytes x = some r → F x = some r) :
    FnOk Tryz.prog f ⟨[.val (.list c)], [.list c], fun x => cloneI bytes x⟩ := by
  intro x r hx w M vs bs hmem hin hnd
  have hx : cloneI bytes x = some r := hx
  cases hem : List.isEmpty x.1 with
  | false => exact h x r (hF x r hem hx) w M vs bs hmem hin hnd
  | true =>
    cases vs with
    | nil => exact hin.elim
    | cons v vs =>
    obtain ⟨hv, hin⟩ := hin
    cases vs with
    | cons _ _ => exact (by cases bs <;> exact hin.elim)
    | nil =>
    cases bs with
    | cons _ _ => exact hin.elim
    | nil =>
    have hv := hv.toLV (β := fun _ => none) (H := fun _ => none)
    obtain ⟨_, A, cap, h0, _, _⟩ := hv
    have h0 : some v = _ := h0
    injection h0 with h0
    have hl : List.length x.1 = 0 := by rw [List.isEmpty_iff] at hem; rw [hem]; rfl
    rw [hl] at h0
    subst h0
    have hr : r.1.1 = [] := by
      unfold cloneI chk at hx
      simp only [Bool.cond_eq_ite] at hx
      split at hx
      · injection hx with hx; rw [← hx]; rw [List.isEmpty_iff] at hem; exact hem
      · cases hx
    intro o a next Q hnext
    rw [run_enter hf hname hb, Oper.upon_enter]
    refine Calls.mono (walk A cap w) fun e w' he => ?_
    obtain ⟨A', cap', rfl, os, rfl⟩ := he
    refine hnext _ _ ⟨M, Mem.le.refl _, fun y u hu => cell_allocs os (hmem y u hu), fun _ _ h => .inl h, ⟨[_], ⟨?_, trivial⟩, rfl⟩, trivial, ext_allocs os w⟩
    refine ⟨rfl, ⟨fun h => (by cases h), fun ⟨_, h⟩ => (by cases h)⟩, ?_⟩
    rw [hr]
    exact ⟨A', cap', rfl, Nat.zero_le _, fun i y hy => by simp at hy⟩
end Go.JL
