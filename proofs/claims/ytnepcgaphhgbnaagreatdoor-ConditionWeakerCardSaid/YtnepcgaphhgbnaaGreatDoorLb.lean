/- Plain laws, part 2: checking a schema comes to an end. -/
import Derived.Test.YtnepcgaphhgbnaaGreatDoorLa
set_option linter.unusedVariables false
set_option maxRecDepth 100000
namespace Go.JL
def Any {α : Type} (_ : α) : Prop := True
def good (nm : Str) : Prop := Ok (C120 (nm, ())) Any
structure SInv (x : Sch) : Prop where
  a1 : 1 ≤ x.1.length
  a2 : x.1.length ≤ 12
  an : ∀ a ∈ x.1, good a.1 ∧ (a.2 = 1 ∨ a.2 = 2 ∨ a.2 = 3)
  r2 : x.2.1.length ≤ 12
  rn : ∀ r ∈ x.2.1, good r.1 ∧ r.2.length ≤ 20
  f2 : x.2.2.1.length ≤ 20

theorem c197_tot (l : List Str) (s : Str) (h : l.length ≤ 50) : Ok (C197 (l, s, ())) Any := by
  show Ok (f197_b (loopI (fun J => f197_bl0 J) 60) l s) _
  unfold f197_b
  refine Ok.loop (fun v => v.1 = l ∧ v.2.2.1 = (l.length : Int) ∧ 0 ≤ v.2.2.2 ∧ v.2.2.2 ≤ (l.length : Int)) (fun v => l.length - v.2.2.2.toNat) ?_ 60 _ ⟨rfl, rfl, Int.le_refl _, Int.natCast_nonneg _⟩ (by simp only; omega)
  rintro again ⟨x1, x2, x3, x4⟩ ⟨h1, h2, h3, h4⟩ ih
  simp only at h1 h2 h3 h4
  subst h1; subst h2
  unfold f197_bl0
  refine Ok.bif (fun hc => ?_) (fun _ => Ok.some trivial)
  have hc := of_decide_eq_true hc
  have e : w64 (x4 + 1) = x4 + 1 := w64_eq (by omega)
  rw [e]
  refine Ok.rd h3 hc fun y _ _ => Ok.bif (fun _ => Ok.some trivial) (fun _ => ih _ ⟨rfl, rfl, ?_, ?_⟩ ?_) <;> simp only <;> omega
theorem c168_tot (l : List Str) (s : Str) (h : l.length ≤ 50) : Ok (C168 (l, s, ())) Any := by
  show Ok (f168_b C197 l s) _
  unfold f168_b
  exact Ok.bind (c197_tot l s h) fun r _ => Ok.some trivial
theorem c131_tot (l : List Str) (i : Int) (h : l.length ≤ 50) (h0 : 0 ≤ i) (h1 : i < (l.length : Int)) (hg : ∀ s ∈ l, good s) : Ok (C131 (l, i, ())) Any := by
  show Ok (f131_b C120 C168 l i) _
  unfold f131_b
  refine Ok.rd h0 h1 fun y _ hy => Ok.bind (hg y hy) fun r _ => Ok.bif (fun _ => Ok.some trivial) (fun _ => ?_)
  refine Ok.chk ?_ (Ok.rd h0 h1 fun y _ hy => Ok.bind (c168_tot _ _ ?_) fun r _ => Ok.bif (fun _ => Ok.some trivial) (fun _ => Ok.some trivial))
  · simp only [Bool.and_eq_true, decide_eq_true_eq]; omega
  · rw [List.length_take]; omega
theorem c95_tot {x : Sch} (h : SInv x) : Ok (C95 (x, ())) Any := by
  show Ok (f95_b C131 (loopI (fun J => f95_bl0 C131 J) 60) x) _
  unfold f95_b
  have hl := h.a2
  refine Ok.loop (fun v => v.1 = x.1 ∧ v.2.1 = (x.1.length : Int) ∧ 0 ≤ v.2.2.1 ∧ v.2.2.1 ≤ (x.1.length : Int) ∧ (v.2.2.2.length : Int) = v.2.2.1 ∧ ∀ s ∈ v.2.2.2, good s) (fun v => x.1.length - v.2.2.1.toNat) ?_ 60 _ ⟨rfl, rfl, Int.le_refl _, Int.natCast_nonneg _, rfl, fun s hs => by cases hs⟩ (by simp only; omega)
  rintro again ⟨x1, x2, x3, l4⟩ ⟨h1, h2, h3, h4, h5, h6⟩ ih
  simp only at h1 h2 h3 h4 h5 h6
  subst h1; subst h2
  unfold f95_bl0
  refine Ok.bif (fun hc => ?_) (fun _ => Ok.some trivial)
  have hc := of_decide_eq_true hc
  have e : w64 (x3 + 1) = x3 + 1 := w64_eq (by omega)
  rw [e]
  refine Ok.rd h3 hc fun y _ hy => Ok.chk (room (by omega)) ?_
  have hg : ∀ s ∈ l4 ++ [y.1], good s := by
    intro s hs
    rcases List.mem_append.1 hs with hs | hs
    · exact h6 s hs
    · rw [List.mem_singleton] at hs; subst hs; exact (h.an y hy).1
  refine Ok.bind (c131_tot _ _ (by simp; omega) h3 (by simp; omega) hg) fun r _ => Ok.bif (fun _ => Ok.some trivial) (fun _ => Ok.bif (fun _ => Ok.some trivial) (fun _ => Ok.bif (fun _ => Ok.some trivial) (fun _ => ih _ ⟨rfl, rfl, ?_, ?_, ?_, hg⟩ ?_)))
  · simp only; omega
  · simp only; omega
  · simp; omega
  · simp only; omega
theorem c169_tot (l : List Bool) (s : Bool) (h : l.length ≤ 50) : Ok (C169 (l, s, ())) Any := by
  show Ok (f169_b (loopI (fun J => f169_bl0 J) 60) l s) _
  unfold f169_b
  refine Ok.loop (fun v => v.1 = l ∧ v.2.2.1 = (l.length : Int) ∧ 0 ≤ v.2.2.2 ∧ v.2.2.2 ≤ (l.length : Int)) (fun v => l.length - v.2.2.2.toNat) ?_ 60 _ ⟨rfl, rfl, Int.le_refl _, Int.natCast_nonneg _⟩ (by simp only; omega)
  rintro again ⟨x1, x2, x3, x4⟩ ⟨h1, h2, h3, h4⟩ ih
  simp only at h1 h2 h3 h4
  subst h1; subst h2
  unfold f169_bl0
  refine Ok.bif (fun hc => ?_) (fun _ => Ok.some trivial)
  have hc := of_decide_eq_true hc
  have e : w64 (x4 + 1) = x4 + 1 := w64_eq (by omega)
  rw [e]
  refine Ok.rd h3 hc fun y _ _ => Ok.bif (fun _ => Ok.some trivial) (fun _ => ih _ ⟨rfl, rfl, ?_, ?_⟩ ?_) <;> simp only <;> omega
theorem c132_tot (l : List Bool) (s : Bool) (h : l.length ≤ 50) : Ok (C132 (l, s, ())) Any := by
  show Ok (f132_b C169 l s) _
  unfold f132_b
  exact Ok.bind (c169_tot l s h) fun r _ => Ok.some trivial
theorem c96_tot {x : Sch} (h : SInv x) : Ok (C96 (x, ())) Any := by
  have hl := h.a2
  have hr := h.r2
  -- the third loop
  have L4 : ∀ (J0 : f96_Vl0 → Option ((Int × Unit) × Unit)) (v : f96_Vl4), v.2.2.2.2.2.2.1.length ≤ 20 → 1 ≤ v.1 → (v.2.2.2.1 : Int) < 100 → Ok (J0 (v.2.1, v.2.2.1, w64 (v.2.2.2.1 + 1), v.2.2.2.2.1, v.2.2.2.2.2.2.2)) Any → Ok (f96_Ll4 60 C131 C132 J0 v) Any := by
    rintro J0 ⟨z1, z2, z3, z4, z5, z6, z7, z8⟩ hz hz1 hz4 hJ
    simp only at hz hz1 hz4 hJ
    refine Ok.loop (fun v => v.2 = (z2, z3, z4, z5, z6, z7, z8) ∧ 1 ≤ v.1) (fun v => 30 - v.1.toNat) ?_ 60 _ ⟨rfl, hz1⟩ (by simp only; omega)
    rintro again ⟨y1, y2⟩ ⟨g1, g2⟩ ih
    simp only at g1 g2
    subst g1
    unfold f96_bl4
    refine Ok.bif (fun hc => ?_) (fun _ => hJ)
    have hc := of_decide_eq_true hc
    rw [show w64 (y1 - 1) = y1 - 1 from w64_eq (by omega), show w64 (y1 + 1) = y1 + 1 from w64_eq (by omega)]
    refine Ok.rd (by omega) hc fun a _ _ => Ok.rd (by omega) (by omega) fun b _ _ => Ok.bif (fun _ => Ok.some trivial) (fun _ => ih _ ⟨rfl, ?_⟩ ?_) <;> simp only <;> omega
  have L2 : ∀ (J0 : f96_Vl0 → Option ((Int × Unit) × Unit)) (z8 : List (Str × List Int)) (z9 z10 : Int) (z11 : List Int) (z12 z13 : Int) (z14 : List Str) (z15 : Str) (z16 : List Int) (z17 : List Bool), z11.length ≤ 20 → z16.length ≤ 20 → z12 = (z11.length : Int) → z13 = 0 → z10 < 100 →
      (∀ l, List.length l = z17.length → Ok (J0 (z8, z9, w64 (z10 + 1), z14, l)) Any) → Ok (f96_Ll2 60 C131 C132 J0 (z8, z9, z10, z11, z12, z13, z14, z15, z16, z17)) Any := by
    intro J0 z8 z9 z10 z11 z12 z13 z14 z15 z16 z17 h11 h16 h12 h13 h10 hJ
    refine Ok.loop (fun v => v.1 = z8 ∧ v.2.1 = z9 ∧ v.2.2.1 = z10 ∧ v.2.2.2.1 = z11 ∧ v.2.2.2.2.1 = (z11.length : Int) ∧ 0 ≤ v.2.2.2.2.2.1 ∧ v.2.2.2.2.2.1 ≤ (z11.length : Int) ∧ v.2.2.2.2.2.2.1 = z14 ∧ v.2.2.2.2.2.2.2.2.1 = z16 ∧ List.length v.2.2.2.2.2.2.2.2.2 = z17.length) (fun v => z11.length - v.2.2.2.2.2.1.toNat) ?_ 60 _
      ⟨rfl, rfl, rfl, rfl, h12, by simp only [h13]; exact Int.le_refl _, by simp only [h13]; exact Int.natCast_nonneg _, rfl, rfl, rfl⟩ (by simp only; omega)
    rintro again ⟨y8, y9, y10, y11, y12, y13, y14, y15, y16, y17⟩ ⟨g1, g2, g3, g4, g5, g6, g7, g8, g9, g10⟩ ih
    simp only at g1 g2 g3 g4 g5 g6 g7 g8 g9 g10
    subst g1; subst g2; subst g3; subst g4; subst g5; subst g8; subst g9
    unfold f96_bl2
    refine Ok.bif (fun hc => ?_) (fun _ => L4 J0 _ h16 (Int.le_refl _) h10 (hJ _ g10))
    have hc := of_decide_eq_true hc
    rw [show w64 (y13 + 1) = y13 + 1 from w64_eq (by omega)]
    refine Ok.rd g6 hc fun a _ _ => Ok.bif (fun _ => Ok.some trivial) (fun ha => Ok.bif (fun _ => Ok.some trivial) (fun hb => ?_))
    have ha := of_decide_eq_false ha
    have hb := of_decide_eq_false hb
    refine Ok.chk (decide_eq_true (by omega)) (Ok.chk (decide_eq_true (by omega)) (Ok.get (by omega) fun y _ _ => ih _ ⟨rfl, rfl, rfl, rfl, rfl, ?_, ?_, rfl, rfl, ?_⟩ ?_))
    · simp only; omega
    · simp only; omega
    · simp only [List.length_set]; exact g10
    · simp only; omega
  show Ok (f96_b C131 C132 (loopI (fun J => f96_bl0 C131 C132 (f96_Ll2 60 C131 C132 J)) 60) x) _
  unfold f96_b
  refine Ok.chk (by simp only [Bool.and_eq_true, decide_eq_true_eq]; omega) ?_
  refine Ok.loop (fun v => v.1 = x.2.1 ∧ v.2.1 = (x.2.1.length : Int) ∧ 0 ≤ v.2.2.1 ∧ v.2.2.1 ≤ (x.2.1.length : Int) ∧ (v.2.2.2.1.length : Int) = v.2.2.1 ∧ (∀ s ∈ v.2.2.2.1, good s) ∧ v.2.2.2.2.length ≤ 20) (fun v => x.2.1.length - v.2.2.1.toNat) ?_ 60 _ ⟨rfl, rfl, Int.le_refl _, Int.natCast_nonneg _, rfl, (fun s hs => by cases hs), by simp; omega⟩ (by simp only; omega)
  rintro again ⟨x1, x2, x3, l4, l5⟩ ⟨h1, h2, h3, h4, h5, h6, h7⟩ ih
  simp only at h1 h2 h3 h4 h5 h6 h7
  subst h1; subst h2
  unfold f96_bl0
  refine Ok.bif (fun hc => ?_) (fun _ => Ok.bind (c132_tot _ _ (by omega)) fun r _ => Ok.bif (fun _ => Ok.some trivial) (fun _ => Ok.some trivial))
  have hc := of_decide_eq_true hc
  refine Ok.rd h3 hc fun y _ hy => Ok.chk (room (by omega)) ?_
  have hg : ∀ s ∈ l4 ++ [y.1], good s := by
    intro s hs
    rcases List.mem_append.1 hs with hs | hs
    · exact h6 s hs
    · rw [List.mem_singleton] at hs; subst hs; exact (h.rn y hy).1
  refine Ok.bind (c131_tot _ _ (by simp; omega) h3 (by simp; omega) hg) fun r _ => Ok.bif (fun _ => Ok.some trivial) (fun _ => Ok.bif (fun _ => Ok.some trivial) (fun _ => ?_))
  refine L2 again _ _ _ _ _ _ _ _ _ _ (h.rn y hy).2 (h.rn y hy).2 rfl rfl (by omega) fun l hl' => ?_
  rw [show w64 (x3 + 1) = x3 + 1 from w64_eq (by omega)]
  refine ih _ ⟨rfl, rfl, ?_, ?_, ?_, hg, ?_⟩ ?_
  · simp only; omega
  · simp only; omega
  · simp; omega
  · simp only; omega
  · simp only; omega
end Go.JL
