/- THE CARD OF ConditionWeaker: for every list of numbers the law answers true, and the list reads afterwards as it read before: from the contract of function 3 and the plain law. -/
import Derived.Test.YtnepcgaphhgbnaaGreatDoorCards
import Derived.Test.YtnepcgaphhgbnaaGreatDoorTie
import Derived.Test.YtnepcgaphhgbnaaGreatDoorLf
import Derived.WalkKit
import Derived.ProofKit
import Derived.OpenShut
import Derived.Deep.DeepHandedRow
import Derived.Deep.DeepWitnessRowRef
import Derived.ChangeSlices
import Derived.Carry
import Derived.LaidMore
set_option linter.unusedVariables false
set_option linter.unusedSimpArgs false
namespace Go.JL

/-- A call that runs comes back with the value that it gives. -/
theorem Runs.calls {P : Program} {f : Nat} {fn : Func} {c : Code} {args : Array Value} {w : World} {R : Value → World → Prop} (h : Runs P f args w R) (hf : P.funcs[f]? = some fn) (hname : (fn.name == "runtime.NumGoroutine") = false) (hb : fn.body = some c) :
    Calls P f args w fun e w' => ∃ v, e = .returned v ∧ R v w' := by
  have h1 := h ⟨some 0, .move (.tmp 0), 0, "", #[], none⟩ ⟨#[undef], []⟩ (fun a' w' => R (a'.tmps.getD 0 undef) w') (fun _ _ _ => False) (fun v w' hv => by simpa [Act.put] using hv)
  rw [run_enter hf hname hb, Oper.upon_enter] at h1
  refine h1.mono fun e w' he => ?_
  cases e with
  | returned v => exact ⟨v, rfl, by simpa [Act.put] using he⟩
  | panicked ch => exact he.elim
  | outgrown => obtain ⟨_, _, hq⟩ := he; exact hq.elim

end Go.JL
set_option maxRecDepth 100000
namespace Go.Proofs.YtnepcgaphhgbnaaGreatDoor.conditionWeaker
open Go.ChangeShapes Go.WideShapes Go.ChangeAt Go.RowKit Go.JL

theorem own : ownKnob Tryz.prog.godebug = none := by kernel_rfl
theorem laidOut : laidOutB Tryz.prog = true := by kernel_rfl
theorem cells3 : Tryz.prog.cellsOf 3 = 1 := by kernel_rfl

/-- WHAT THE FUNCTION DOES AT A LIST THAT LIES IN THE CALLER's MEMORY. -/
theorem walk (W : World) (t : List Int) (A : Option Addr) (cap : Nat) (hcap : t.length ≤ cap) (hel : ∀ (i : Nat) x, t[i]? = some x → ∃ ad, A = some ad ∧ W.cell? (ad.add i) = some (.int .i64 x)) :
    Calls Tryz.prog 3 #[.slice A t.length cap] W fun e W' => e = .returned (.bool true) ∧ Below W.heap.size W W' := by
  obtain ⟨r, hr, hyes⟩ := weaker_ok t
  have hargs : ArgsIn (fun x => W.cell? x) W [.val (.list (.int .i64))] (t, ()) [.slice A t.length cap] [] := by
    refine ⟨⟨rfl, ⟨fun h => (by cases h), fun ⟨_, h⟩ => (by cases h)⟩, A, cap, rfl, hcap, fun i x hx => ?_⟩, trivial⟩
    obtain ⟨ad, ha, hc⟩ := hel i x hx
    refine ⟨ad, ha, ?_⟩
    show W.cell? (ad.add (i * 1 + 0)) = _
    simpa using hc
  have hb : ∃ c, Tryz.f3.body = some c := by
    cases h : Tryz.f3.body with
    | none => exact absurd h (by intro h; cases h)
    | some c => exact ⟨c, rfl⟩
  obtain ⟨c, hb⟩ := hb
  have h := (c3_ok (t, ()) r hr W (fun x => W.cell? x) [.slice A t.length cap] [] (fun _ _ h => h) hargs List.nodup_nil).calls Tryz.func3 rfl hb
  refine Calls.mono h fun e W' he => ?_
  obtain ⟨v, rfl, M', _, _, _, ⟨vs, hvs, rfl⟩, _, hx⟩ := he
  obtain ⟨⟨b, u⟩, io⟩ := r
  have hyes : b = true := hyes
  subst hyes
  match vs, hvs with
  | [v], ⟨hv, _⟩ =>
    have hv0 : v.cells[0]? = some (.bool true) := hv.2.2
    have hno : ¬ ∃ us, v = .agg us := fun h => by have := hv.2.1.2 h; cases this
    have hcs : v.cells = #[v] := by cases v <;> first | rfl | exact (hno ⟨_, rfl⟩).elim
    rw [hcs] at hv0
    have e : v = .bool true := by simpa using hv0
    subst e
    exact ⟨rfl, hx.os, hx.tape, hx.output, hx.size, fun k hk => hx.block k hk (by simp)⟩

/-- FOR EVERY ARGUMENT AND EVERY WORLD. -/
theorem contract (H : Type) (enc : TypeId × Value → H) (W : World) (base : Nat) (args : Array Value) (ds gs : List (DataW H)) (before : List MemPlace)
    (hval : ∀ (j : Nat) t v, Tryz.f3.params[j]? = some t → args[j]? = some v → Value.okWide Tryz.prog W .any base t v)
    (hW : DataW.Whole enc Tryz.prog Tryz.f3.params.toList Rows.conditionWeakerSpec.vars false W args.toList ds gs before) :
    Calls Tryz.prog 3 args W fun e W' => ∃ v, e = .returned v ∧ Rows.conditionWeakerSpec.post enc Tryz.prog Tryz.f3 false true false false W args v W' := by
  have hW' := hW
  obtain ⟨p, q, hA0, hV, rfl, _, _⟩ := hW
  have hA : DataW.TrodAll enc Tryz.prog W 0 (fun _ => true) true Tryz.f3.params.toList args.toList ds p := hA0
  rw [Tryz.params3] at hA hval
  obtain ⟨v0, d0, rfl, rfl, h0⟩ := trodAll_one hA
  obtain ⟨rfl, rfl⟩ := trodVars_none hV
  obtain ⟨a0, len, cap, rfl⟩ := okWide_slice Tryz.underlying22 (hval 0 22 v0 rfl rfl)
  have h0k := h0
  obtain ⟨fuel, hf⟩ := h0
  clear hA0
  simp only [List.append_nil] at hW'
  have hlt : ∀ x ∈ p, x.block < W.heap.size := fun x hx => by simpa using hW'.lt x hx
  have close : Calls Tryz.prog 3 #[.slice a0 len cap] W (fun e W' => e = .returned (.bool true) ∧ Below W.heap.size W W') →
      Calls Tryz.prog 3 #[.slice a0 len cap] W fun e W' => ∃ v, e = .returned v ∧ Rows.conditionWeakerSpec.post enc Tryz.prog Tryz.f3 false true false false W #[.slice a0 len cap] v W' := by
    intro h
    refine Calls.mono h fun e W' ⟨he, hb⟩ => ?_
    subst he
    refine ⟨_, rfl, _, _, _, [], p, [], hW', trodAll_mk1 (shut_bool Tryz.underlying4 true), ?_, rfl, hb.frame _, fun h => by cases h⟩
    exact trodAll_mk1 (Below.trod laidOut (by kernel_rfl) (of_decide_eq_true (by kernel_rfl)) h0k hb hlt)
  rcases open_ints Tryz.underlying22 Tryz.underlying3 cells3 hf with ⟨hcs, hx⟩ | ⟨a, len', cap', zs, hcs, _, hl, hm, hz, hx, hcell, hwz⟩
  · simp [Value.cells] at hcs
    obtain ⟨rfl, rfl, rfl⟩ := hcs
    exact close (walk W [] none 0 (Nat.le_refl _) (fun i x hx => by cases hx))
  · simp [Value.cells] at hcs
    obtain ⟨rfl, rfl, rfl⟩ := hcs
    simp only [if_true] at hz
    have hlen : (zs.take len).length = len := by simp; omega
    have h := walk W (zs.take len) (some a) cap (by omega) (fun i x hx => ⟨a, rfl, by
      obtain ⟨h1, h2⟩ := List.getElem?_eq_some_iff.1 hx
      have hi : i < zs.length := by omega
      rw [hcell i hi]
      have : zs.getD i 0 = x := by
        rw [← h2, List.getElem_take]
        simp [List.getD_eq_getElem?_getD, hi]
      rw [this]⟩)
    rw [hlen] at h
    exact close h

/-- A WORLD FOR THE WITNESS: the one that the start-up of the listed variables leaves. -/
noncomputable def laidWorld (os : Os) : World := World.doorLaid Tryz.prog 64 os
theorem laid_met (os : Os) : laidMetH Tryz.prog Rows.conditionWeakerRow.laid ((laidWorld os).forCall (fun _ _ => 0) ⟨#[], #[.slice none 0 0], []⟩).memory :=
  laidMetH_of_parts3 (fuel := 8) (laidMet_of_run' 8 (by kernel_rfl) (by kernel_rfl)) (by kernel_rfl) (by kernel_rfl)
theorem reads (os : Os) {H : Type} (enc : TypeId × Value → H) : ∃ places, DataW.whole enc Tryz.prog ((laidWorld os).forCall (fun _ _ => 0) ⟨#[], #[.slice none 0 0], []⟩).memory Tryz.f3.params.toList Rows.conditionWeakerSpec.vars false #[Value.slice none 0 0].toList 8 = some ([.nil], [], places) :=
  ⟨[], by kernel_rfl⟩

theorem lifted (os : Os) (started : os.Started) (H : Type) (enc : TypeId × Value → H) (F : Stop.Interp) :
    ReturnsInHanded {} Tryz.checked os 3 .any ((OpenSpec.ofChange Rows.conditionWeakerSpec).preRow enc Tryz.prog Tryz.f3 Rows.conditionWeakerRow.domain false Rows.conditionWeakerRow.laid) (((OpenSpec.ofChange Rows.conditionWeakerSpec).at F).post enc Tryz.prog Tryz.f3 false true false false) := by
  obtain ⟨places, hx⟩ := reads os enc
  refine returnsInHanded_of_row (C := Tryz.checked) (s := OpenSpec.ofChange Rows.conditionWeakerSpec) own started (by kernel_rfl) Tryz.func3
    (witness_row_atRef (enc := enc) (C := Tryz.checked) false (laidWorld os) #[.slice none 0 0] rfl (by kernel_rfl) (by kernel_rfl) (by kernel_rfl)
      (OpenSpec.preRow_of_cond 8 hx (by kernel_rfl) (fun k hk => by cases hk) (by kernel_rfl) (laid_met os))) ?_
  intro W base args ds gs before hval hW _ _ _ _ _ _
  exact contract H enc W base args ds gs before hval hW

theorem said : Rows.ConditionWeakerSaid :=
  OpenClaim.holds_of_cond 3 Tryz.f3 rfl rfl rfl rfl rfl rfl rfl ⟨rfl, rfl, rfl, rfl, rfl⟩ rfl rfl rfl rfl rfl (by kernel_rfl) Tryz.func3 (by kernel_rfl)
    (of_decide_eq_true (by kernel_rfl)) (by unfold Func.isWrapper; first | (rw [if_pos (by decide +kernel)]; kernel_rfl) | (rw [if_neg (by decide +kernel)]; exact ⟨rfl, rfl⟩))
    (fun os started H enc _ F => by rw [OpenClaim.pre_eq_preRow]; exact lifted os started H enc F)

theorem plain (f : FuncId) (fn : Func) (hf : Tryz.pinned.checked.prog.funcNamed "joinlearn/joinlearnlaw22.ConditionWeaker" = some f) (hfn : Tryz.pinned.checked.prog.funcs[f]? = some fn) :
    true = Tryz.pinned.checked.prog.looks [] ∧ ∀ (j : Nat) t, fn.params[j]? = some t → Tryz.pinned.checked.prog.wantsStandIn t = false := by
  obtain rfl : f = 3 := Option.some.inj ((show Tryz.prog.funcNamed "joinlearn/joinlearnlaw22.ConditionWeaker" = some 3 by kernel_rfl).symm.trans hf) |>.symm
  obtain rfl : fn = Tryz.f3 := (Option.some.inj (Tryz.func3.symm.trans hfn)).symm
  refine ⟨by kernel_rfl, fun j t ht => ?_⟩
  rw [Tryz.params3] at ht
  obtain rfl : t = 22 := by simpa using Array.mem_of_getElem? ht
  exact (show Tryz.prog.wantsStandIn 22 = false by kernel_rfl)

/-- THE CARD. -/
theorem card : Rows.ConditionWeakerCardSaid :=
  Claim7.holds_tied_plain_at .later [] _ _ _ _ said (fun _ h => by cases h) (by kernel_rfl) (fun _ h => by cases h) conditionWeaker_row_tie rfl ⟨rfl, rfl⟩ (by kernel_rfl) rfl plain (by kernel_rfl)
#print axioms card
end Go.Proofs.YtnepcgaphhgbnaaGreatDoor.conditionWeaker
