/- Contracts by hand: a map literal of method values; a body-less function of the library. -/
import Derived.Test.YtnepcgaphhgbnaaGreatDoorFa
import Derived.WalkKit
import Derived.WalkSpells
import Derived.Carry
import Derived.WideMake
import Derived.Lib.Bytealg
set_option linter.unusedVariables false
set_option linter.unusedSimpArgs false
set_option maxRecDepth 100000
namespace Go.JL
open Go Go.Proofs
theorem heap_last (W : World) (o : Obj) : (W.alloc o).heap[W.heap.size]? = some o := heap_alloc_new W o
theorem set_last (W : World) (o o' : Obj) : ({ W.alloc o with heap := (W.alloc o).heap.setIfInBounds W.heap.size o' } : World) = W.alloc o' := by
  simp only [World.alloc]
  congr 1
  apply Array.ext'
  simp
theorem under_map : Tryz.prog.underlying 124 = some (.map 3 84) := by kernel_rfl
theorem under_int : Tryz.prog.underlying 3 = some (.int .i64) := by kernel_rfl
theorem run_put (W : World) (es : Array MapEntry) (clock : Nat) (n : Int) (v : Value) (h : Instr.findNow (.int .i64) (.int .i64 n) es.toList 0 = some none) :
    (Instr.mapUpdate 124 (.map (some W.heap.size)) (.int .i64 n) v).run Tryz.prog (W.alloc (.map es clock)) = .ok () (W.alloc (.map (es.push { key := .int .i64 n, val := v, born := clock }) (clock + 1))) := by
  have hb := heap_last W (.map es clock)
  have hc : (Instr.checkKey false 10000 3 (.int .i64 n)).run Tryz.prog (W.alloc (.map es clock)) = .ok () (W.alloc (.map es clock)) := MapKept.run_checkKey (k := .int .i64 n) under_int (by simp [MapKept.IsKey]) false 9999
  simp [Instr.mapUpdate, run_underlying under_map, MapKept.run_getObj_map hb, hc, MapKept.run_findKey under_int h, MapKept.run_setObj_map _ hb, Result.andThen]
  exact set_last W _ _
theorem run_get (W : World) (es : Array MapEntry) (clock : Nat) (n : Int) (v : Value) (i : Nat) (h : Instr.findNow (.int .i64) (.int .i64 n) es.toList 0 = some (some (i, v))) :
    (Instr.lookup 124 (.map (some W.heap.size)) (.int .i64 n) false).run Tryz.prog (W.alloc (.map es clock)) = .ok v (W.alloc (.map es clock)) := by
  have hb := heap_last W (.map es clock)
  have hc : (Instr.checkKey es.isEmpty 10000 3 (.int .i64 n)).run Tryz.prog (W.alloc (.map es clock)) = .ok () (W.alloc (.map es clock)) := MapKept.run_checkKey (k := .int .i64 n) under_int (by simp [MapKept.IsKey]) _ 9999
  simp [Instr.lookup, run_underlying under_map, MapKept.run_getObj_map hb, hc, MapKept.run_findKey under_int h, Result.andThen]
theorem run_miss (W : World) (es : Array MapEntry) (clock : Nat) (n : Int) (h : Instr.findNow (.int .i64) (.int .i64 n) es.toList 0 = some none) :
    (Instr.lookup 124 (.map (some W.heap.size)) (.int .i64 n) false).run Tryz.prog (W.alloc (.map es clock)) = .ok .nilFunc (W.alloc (.map es clock)) := by
  have hb := heap_last W (.map es clock)
  have hc : (Instr.checkKey es.isEmpty 10000 3 (.int .i64 n)).run Tryz.prog (W.alloc (.map es clock)) = .ok () (W.alloc (.map es clock)) := MapKept.run_checkKey (k := .int .i64 n) under_int (by simp [MapKept.IsKey]) _ 9999
  have hz : (zeroValue 84).run Tryz.prog (W.alloc (.map es clock)) = .ok .nilFunc (W.alloc (.map es clock)) := by kernel_rfl
  simp [Instr.lookup, run_underlying under_map, MapKept.run_getObj_map hb, hc, MapKept.run_findKey under_int h, hz, Result.andThen]

def ofV (d : Value) (k : Int) : Value := if k = 1 then .func (.func 82) #[d] #[] else if k = 2 then .func (.func 83) #[d] #[] else if k = 3 then .func (.func 84) #[d] #[] else if k = 4 then .func (.func 85) #[d] #[] else .nilFunc
def ofEs (d : Value) : Array MapEntry := #[⟨.int .i64 1, .func (.func 82) #[d] #[], 0⟩, ⟨.int .i64 2, .func (.func 83) #[d] #[], 1⟩, ⟨.int .i64 3, .func (.func 84) #[d] #[], 2⟩, ⟨.int .i64 4, .func (.func 85) #[d] #[], 3⟩]
theorem run_of (W : World) (d : Value) (k : Int) : (Instr.lookup 124 (.map (some W.heap.size)) (.int .i64 k) false).run Tryz.prog (W.alloc (.map (ofEs d) 4)) = .ok (ofV d k) (W.alloc (.map (ofEs d) 4)) := by
  unfold ofV
  split
  · rename_i h; subst h; exact run_get W _ 4 1 _ 0 rfl
  · split
    · rename_i h; subst h; exact run_get W _ 4 2 _ 1 rfl
    · split
      · rename_i h; subst h; exact run_get W _ 4 3 _ 2 rfl
      · split
        · rename_i h; subst h; exact run_get W _ 4 4 _ 3 rfl
        · rename_i h1 h2 h3 h4
          refine run_miss W _ 4 k ?_
          have e : ∀ n : Int, k ≠ n → (k == n) = false := fun n h => by simpa using h
          simp [ofEs, Instr.findNow, Instr.sameNow, e _ h1, e _ h2, e _ h3, e _ h4]

def OfPost (w : World) (d : Value) (k : Int) (e : Ending) (w' : World) : Prop := e = .returned (ofV d k) ∧ ∃ o1 o2 o3, w' = ((w.alloc o1).alloc o2).alloc o3
theorem of_walk (a k : Int) (s : ByteArray) (w : World) : Calls Tryz.prog 51 #[.agg #[.int .i64 a, .int .i64 k, .string s]] w (OfPost w (.agg #[.int .i64 a, .int .i64 k, .string s]) k) := by
  have hmm := fun w => RowKit.run_makeMap (P := Tryz.prog) 124 w
  have p1 := fun (W : World) v => run_put W #[] 0 1 v rfl
  have p2 := fun (W : World) v1 v => run_put W #[⟨.int .i64 1, v1, 0⟩] 1 2 v rfl
  have p3 := fun (W : World) v1 v2 v => run_put W #[⟨.int .i64 1, v1, 0⟩, ⟨.int .i64 2, v2, 1⟩] 2 3 v rfl
  have p4 := fun (W : World) v1 v2 v3 v => run_put W #[⟨.int .i64 1, v1, 0⟩, ⟨.int .i64 2, v2, 1⟩, ⟨.int .i64 3, v3, 2⟩] 3 4 v rfl
  have g := fun (W : World) d => run_of W d k
  have W0 := (w.alloc (.cells #[.int .i64 a, .int .i64 k, .string s] 42)).alloc (.cells #[.int .i64 a, .int .i64 k, .string s] 123)
  have q1 := p1 ((w.alloc (.cells #[.int .i64 a, .int .i64 k, .string s] 42)).alloc (.cells #[.int .i64 a, .int .i64 k, .string s] 123))
  have q2 := p2 ((w.alloc (.cells #[.int .i64 a, .int .i64 k, .string s] 42)).alloc (.cells #[.int .i64 a, .int .i64 k, .string s] 123))
  have q3 := p3 ((w.alloc (.cells #[.int .i64 a, .int .i64 k, .string s] 42)).alloc (.cells #[.int .i64 a, .int .i64 k, .string s] 123))
  have q4 := p4 ((w.alloc (.cells #[.int .i64 a, .int .i64 k, .string s] 42)).alloc (.cells #[.int .i64 a, .int .i64 k, .string s] 123))
  have qg := g ((w.alloc (.cells #[.int .i64 a, .int .i64 k, .string s] 42)).alloc (.cells #[.int .i64 a, .int .i64 k, .string s] 123)) (.agg #[.int .i64 a, .int .i64 k, .string s])
  simp only [ofEs] at qg
  have hsz : ((w.alloc (.cells #[.int .i64 a, .int .i64 k, .string s] 42)).alloc (.cells #[.int .i64 a, .int .i64 k, .string s] 123)).heap.size = w.heap.size + 1 + 1 := by simp only [World.alloc, Array.size_push]
  rw [hsz] at q1 q2 q3 q4 qg
  simp only [List.push_toArray, List.cons_append, List.nil_append, Nat.zero_add, Nat.reduceAdd] at q1 q2 q3 q4
  clear p1 p2 p3 p4 g hsz W0
  go_enter Tryz.func51, Tryz.ntmps51
  go_wp2
  refine ⟨rfl, ofV (.agg #[.int .i64 a, .int .i64 k, .string s]) k, ?_, rfl, _, _, _, rfl⟩
  unfold results
  rw [Tryz.results51]
  simp [Sem.run_bind]
/-- Three new blocks change nothing that was there. -/
theorem cell_alloc {w : World} {x : Addr} {v : Value} (h : w.cell? x = some v) (o : Obj) : (w.alloc o).cell? x = some v := by
  have hlt := block_lt_of_cell h
  rw [World.cell?_of_block (w := w) (heap_alloc_old w o hlt)]
  exact h
theorem ext_alloc (w : World) (o : Obj) : ExtB [] w (w.alloc o) := ⟨rfl, rfl, rfl, by simp only [World.alloc, Array.size_push]; omega, fun b hb _ => heap_alloc_old w o hb⟩
theorem ExtB.trans0 {a b c : World} (h1 : ExtB [] a b) (h2 : ExtB [] b c) : ExtB [] a c :=
  ⟨h2.os.trans h1.os, h2.tape.trans h1.tape, h2.output.trans h1.output, Nat.le_trans h1.size h2.size, fun x hx hn => (h2.block x (Nat.lt_of_lt_of_le hx h1.size) hn).trans (h1.block x hx hn)⟩

abbrev testC : TC := .pair (.int .i64) (.pair (.int .i64) .str)
def ofI (x : El testC × Unit) : Option ((Option (Nat × El testC) × Unit) × Unit) :=
  some (((if x.1.2.1 = 1 then some (82, x.1) else if x.1.2.1 = 2 then some (83, x.1) else if x.1.2.1 = 3 then some (84, x.1) else if x.1.2.1 = 4 then some (85, x.1) else none), ()), ())
theorem VR.test {M : Mem} {x : El testC} {v : Value} (h : VR M testC x v) : v = .agg #[.int .i64 x.1, .int .i64 x.2.1, .string ⟨(x.2.2 : List UInt8).toArray⟩] := by
  obtain ⟨h1, h2, h3, h4, h5⟩ := h
  obtain ⟨vs, rfl⟩ := h2.1 rfl
  have h1 : vs.size = 3 := h1
  have h3 : vs[0]? = some _ := h3
  have h4 : vs[1]? = some _ := h4
  have h5 : vs[2]? = some _ := h5
  congr 1
  apply Array.ext (by simp [h1])
  intro i hi1 hi2
  have hi : i < 3 := by omega
  match i, hi with
  | 0, _ => rw [Array.getElem?_eq_getElem (by omega)] at h3; injection h3
  | 1, _ => rw [Array.getElem?_eq_getElem (by omega)] at h4; injection h4
  | 2, _ => rw [Array.getElem?_eq_getElem (by omega)] at h5; injection h5
theorem of_ok : FnOk Tryz.prog 51 ⟨[.val testC], [.fn (.one testC)], fun x => ofI x⟩ := by
  intro x r hF w M vs bs hmem hin hnd
  have hF : ofI x = some r := hF
  cases vs with
  | nil => exact hin.elim
  | cons v vs =>
  obtain ⟨hv, hin⟩ := hin
  cases vs with
  | cons _ _ => exact (by cases bs <;> exact hin.elim)
  | nil =>
  cases bs with
  | cons _ _ => exact hin.elim
  | nil =>
  have hv0 := hv
  have hv := VR.test hv
  subst hv
  intro o a next Q hnext
  rw [run_enter Tryz.func51 rfl rfl, Oper.upon_enter]
  refine Calls.mono (of_walk x.1.1 x.1.2.1 ⟨(x.1.2.2 : List UInt8).toArray⟩ w) fun e w' he => ?_
  obtain ⟨rfl, o1, o2, o3, rfl⟩ := he
  refine hnext _ _ ⟨M, Mem.le.refl _, fun y u hu => cell_alloc (cell_alloc (cell_alloc (hmem y u hu) _) _) _, fun _ _ h => .inl h, ?_, ?_, ((ext_alloc _ _).trans0 (ext_alloc _ _)).trans0 (ext_alloc _ _)⟩
  · refine ⟨[_], ?_, rfl⟩
    have hc : r.1 = ((if x.1.2.1 = 1 then some (82, x.1) else if x.1.2.1 = 2 then some (83, x.1) else if x.1.2.1 = 3 then some (84, x.1) else if x.1.2.1 = 4 then some (85, x.1) else none), ()) := by
      unfold ofI at hF
      injection hF with hF
      rw [← hF]
    rw [hc]
    refine ⟨?_, trivial⟩
    have fn : ∀ g : Nat, VR M (.fn (.one testC)) (some (g, x.1)) (.func (.func g) #[.agg #[.int .i64 x.1.1, .int .i64 x.1.2.1, .string ⟨(x.1.2.2 : List UInt8).toArray⟩]] #[]) := fun g =>
      ⟨rfl, ⟨fun h => (by cases h), fun ⟨_, h⟩ => (by cases h)⟩, .inr ⟨fun h => (by cases h), _, rfl, hv0.1, hv0.2.1, hv0.2.2⟩⟩
    show VR M (.fn (.one testC)) _ (ofV _ x.1.2.1)
    unfold ofV
    by_cases h1 : x.1.2.1 = 1
    · simp only [if_pos h1]; exact fn 82
    · simp only [if_neg h1]
      by_cases h2 : x.1.2.1 = 2
      · simp only [if_pos h2]; exact fn 83
      · simp only [if_neg h2]
        by_cases h3 : x.1.2.1 = 3
        · simp only [if_pos h3]; exact fn 84
        · simp only [if_neg h3]
          by_cases h4 : x.1.2.1 = 4
          · simp only [if_pos h4]; exact fn 85
          · simp only [if_neg h4]; exact ⟨rfl, ⟨fun h => (by cases h), fun ⟨_, h⟩ => (by cases h)⟩, rfl⟩
  · trivial
end Go.JL
