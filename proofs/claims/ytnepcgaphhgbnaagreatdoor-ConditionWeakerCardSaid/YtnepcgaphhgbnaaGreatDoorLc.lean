/- Plain laws, part 3: a condition on tuples: what Holds comes to. -/
import Derived.Test.YtnepcgaphhgbnaaGreatDoorLb
set_option linter.unusedVariables false
set_option maxRecDepth 100000
namespace Go.JL
theorem c170_tot (l : List (Int × Int × Int)) (g : Int × Int × Int) (h : l.length ≤ 50) : Ok (C170 (l, (g, ()), ())) Any := by
  show Ok (f170_b C134 (loopI (fun J => f170_bl0 C134 J) 60) l g) _
  unfold f170_b
  refine Ok.loop (fun v => v.1 = l ∧ v.2.1 = (l.length : Int) ∧ 0 ≤ v.2.2.1 ∧ v.2.2.1 ≤ (l.length : Int)) (fun v => l.length - v.2.2.1.toNat) ?_ 60 _ ⟨rfl, rfl, Int.le_refl _, Int.natCast_nonneg _⟩ (by simp only; omega)
  rintro again ⟨x1, x2, x3, x4, x5, x6⟩ ⟨h1, h2, h3, h4⟩ ih
  simp only at h1 h2 h3 h4
  subst h1; subst h2
  unfold f170_bl0
  refine Ok.bif (fun hc => ?_) (fun _ => Ok.some trivial)
  have hc := of_decide_eq_true hc
  rw [show w64 (x3 + 1) = x3 + 1 from w64_eq (by omega)]
  refine Ok.rd h3 hc fun y _ _ => ?_
  show Ok (Option.bind (Option.some (((y.1 == (x4, x5, x6).1), ()), (x4, x5, x6), ())) _) _
  refine Ok.eq rfl (Ok.bif (fun _ => Ok.some trivial) (fun _ => ih _ ⟨rfl, rfl, ?_, ?_⟩ ?_)) <;> simp only <;> omega
theorem c133_tot (l : List (Int × Int × Int)) (g : Int × Int × Int) (h : l.length ≤ 50) : Ok (C133 (l, (g, ()), ())) Any := by
  show Ok (f133_b C170 l g) _
  unfold f133_b
  exact Ok.bind (c170_tot l g h) fun r _ => Ok.some trivial
theorem c97_tot {x : Sch} (h : SInv x) : Ok (C97 (x, ())) Any := by
  show Ok (f97_b C133 (loopI (fun J => f97_bl0 C133 J) 60) x) _
  unfold f97_b
  have hf := h.f2
  refine Ok.loop (fun v => v.1 = x.2.2.1 ∧ v.2.1 = (x.2.2.1.length : Int) ∧ 0 ≤ v.2.2.1 ∧ v.2.2.1 ≤ (x.2.2.1.length : Int) ∧ v.2.2.2.1 = x.1 ∧ v.2.2.2.2.2.1 = x.2.2.1) (fun v => x.2.2.1.length - v.2.2.1.toNat) ?_ 60 _ ⟨rfl, rfl, Int.le_refl _, Int.natCast_nonneg _, rfl, rfl⟩ (by simp only; omega)
  rintro again ⟨x1, x2, x3, x4, x5, x6, x7⟩ ⟨h1, h2, h3, h4, h5, h6⟩ ih
  simp only at h1 h2 h3 h4 h5 h6
  subst h1; subst h2; subst h5; subst h6
  unfold f97_bl0
  refine Ok.bif (fun hc => ?_) (fun _ => Ok.some trivial)
  have hc := of_decide_eq_true hc
  rw [show w64 (x3 + 1) = x3 + 1 from w64_eq (by omega)]
  refine Ok.rd h3 hc fun y _ _ => Ok.bif (fun _ => Ok.some trivial) (fun ha => Ok.bif (fun _ => Ok.some trivial) (fun hb => ?_))
  have ha := of_decide_eq_false ha
  have hb := of_decide_eq_false hb
  have hchk : (decide (0 ≤ x3) && decide (x3.toNat ≤ x.2.2.1.length)) = true := by simp only [Bool.and_eq_true, decide_eq_true_eq]; omega
  have hnext : Ok (again (x.2.2.1, (x.2.2.1.length : Int), x3 + 1, x.1, x5, x.2.2.1, x7)) Any := ih _ ⟨rfl, rfl, (by simp only; omega), (by simp only; omega), rfl, rfl⟩ (by simp only; omega)
  have hcall : ∀ f : ((Bool × Unit) × ((Int × Int × Int) × Unit) × Unit) → Option ((Int × Unit) × Unit), (∀ r, Ok (f r) Any) → Ok (Option.bind (C133 (List.take x3.toNat x.2.2.1, (y, ()), ())) f) Any := fun f hf' => Ok.bind (c133_tot _ _ (by rw [List.length_take]; omega)) fun r _ => hf' r
  refine Ok.rd (by omega) (by omega) fun z _ _ => ?_
  repeat' first
    | exact hnext
    | exact Ok.some trivial
    | refine Ok.chk hchk ?_
    | refine hcall _ fun r => ?_
    | refine Ok.bif (fun _ => ?_) (fun _ => ?_)
theorem c56_tot {x : Sch} (h : SInv x) : Ok (C56 (x, ())) Any := by
  show Ok (f56_b C95 C96 C97 x) _
  unfold f56_b
  have st : ∀ {b : Bool} {o r : Option ((Int × Unit) × Unit)}, Ok o Any → (b = false → Ok r Any) → Ok (bif b then o else r) Any := fun h1 h2 => Ok.bif (fun _ => h1) h2
  refine st (Ok.some trivial) fun _ => st (Ok.some trivial) fun _ => st (Ok.some trivial) fun _ => st (Ok.some trivial) fun _ => st (Ok.some trivial) fun _ => ?_
  refine Ok.bind (c95_tot h) fun r _ => st (Ok.some trivial) fun _ => Ok.bind (c96_tot h) fun r _ => st (Ok.some trivial) fun _ => Ok.bind (c97_tot h) fun r _ => st (Ok.some trivial) fun _ => ?_
  refine st (Ok.some trivial) fun _ => st (Ok.some trivial) fun h1 => Ok.bif (fun h2 => ?_) (fun _ => Ok.some trivial)
  have h1 := of_decide_eq_false h1
  have h2 := of_decide_eq_true h2
  exact Ok.rd h2 (by omega) fun y _ _ => st (Ok.some trivial) fun _ => Ok.some trivial

/-! ### What the values come to: by the kernel -/
theorem c81_name (nm : Str) (k : Int) (v : Str) : C81 ((nm, k), v, ()) = C81 (([], k), v, ()) := rfl
theorem c82_test (a k : Int) (w v : Str) : C82 ((a, k, w), v, ()) = C82 ((0, 1, w), v, ()) := rfl
def isB (o : Option ((Bool × Unit) × Unit)) : Bool := o.isSome
def kinds : List Int := [1, 2, 3]
theorem c81_all : (kinds.all fun k => (vals k).all fun v => C81 (([], k), v, ()) == Option.some ((true, ()), ())) = true := by kernel_rfl
theorem c82_all : ([1, 2].all fun k => (vals k).all fun w => w.isEmpty || (vals k).all fun v => (C82 ((0, 1, w), v, ())).isSome) = true := by kernel_rfl
theorem c82_less : ([1, 2].all fun k => (vals k).all fun v => match C82 ((0, 1, [49]), v, ()), C82 ((0, 1, [50]), v, ()) with
    | Option.some ((a, _), _), Option.some ((b, _), _) => !a || b
    | _, _ => false) = true := by kernel_rfl
end Go.JL
