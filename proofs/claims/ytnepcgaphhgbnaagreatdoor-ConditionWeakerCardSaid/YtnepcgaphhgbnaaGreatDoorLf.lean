/- Plain laws, part 6: whatever satisfies all of some tests satisfies each part of them. -/
import Derived.Test.YtnepcgaphhgbnaaGreatDoorLe
set_option linter.unusedVariables false
set_option maxRecDepth 100000
namespace Go.JL
theorem sane_ok : C12 () = Option.some ((true, ()), ()) := by kernel_rfl
theorem new_src {t : List Int} (h : t.length ≤ 600) : Ok (M13 (t, ())) SI := by
  show Ok (n13_b t) _
  unfold n13_b
  rw [if_neg (show ¬ 600 < (t.length : Int) by omega)]
  refine Ok.chk (by simp only [Bool.and_eq_true, decide_eq_true_eq]; omega) (Ok.some ⟨Int.le_refl _, ?_⟩)
  simp only [List.length_take]
  omega
theorem HB_split (x : Sch) (l : List Tst) (k : Nat) (v : List Str) : HB x l v = (HB x (l.take k) v && HB x (l.drop k) v) := by
  unfold HB
  have e : ∀ p : Tst → Bool, l.all p = ((l.take k).all p && (l.drop k).all p) := by
    intro p
    rw [← List.all_append, List.take_append_drop]
  rw [e (vb x), e (fun t => hb t v)]
  cases (eOf x == 0) <;> cases (l.take k).all (vb x) <;> cases (l.drop k).all (vb x) <;> cases tb x v <;> cases ((l.take k).all fun t => hb t v) <;> cases ((l.drop k).all fun t => hb t v) <;> rfl
theorem take_T {x : Sch} {l : List Tst} (h : ∀ t ∈ l, TInv x t) (k : Nat) : ∀ t ∈ l.take k, TInv x t := fun t ht => h t (List.mem_of_mem_take ht)
theorem drop_T {x : Sch} {l : List Tst} (h : ∀ t ∈ l, TInv x t) (k : Nat) : ∀ t ∈ l.drop k, TInv x t := fun t ht => h t (List.mem_of_mem_drop ht)
theorem less_T {x : Sch} (hx : SInv x) {a : Int} (h0 : 0 ≤ a) {y : Str × Int} (hy : x.1[a.toNat]? = Option.some y) (h12 : y.2 = 1 ∨ y.2 = 2) {w : Str} (hw : w ∈ vals y.2) (hne : w ≠ []) : TInv x (a, 1, w) :=
  ⟨h0, y, hy, .inr ⟨.inl rfl, h12, hw, hne⟩⟩
theorem vb_less {x : Sch} (hx : SInv x) {a : Int} (h0 : 0 ≤ a) {y : Str × Int} (hy : x.1[a.toNat]? = Option.some y) (h12 : y.2 = 1 ∨ y.2 = 2) : vb x (a, 1, [50]) = true := by
  have hlt : a.toNat < x.1.length := (List.getElem?_eq_some_iff.1 hy).1
  have hmem : y ∈ x.1 := List.mem_of_getElem? hy
  have h : Ok (C58 (x, (a, 1, [50]), ())) (fun r => r.1.1 = true) := by
    show Ok (f58_b C81 x (a, 1, [50])) _
    unfold f58_b
    refine Ok.bif (fun h => ?_) (fun _ => Ok.bif (fun h => ?_) (fun _ => Ok.rd h0 (by simp only; omega) fun z hz _ => ?_))
    · have h := of_decide_eq_true h
      simp only at h; omega
    · have h := of_decide_eq_true h
      simp only at h; omega
    have hz : x.1[a.toNat]? = Option.some z := hz
    rw [hy] at hz; cases hz
    refine Ok.eq (value_tot (hx.an y hmem).2 (two_in h12)) ?_
    show Ok (rd x.1 a fun y3 => Option.some (((y3.2 != 3), ()), ())) _
    refine Ok.rd h0 (by omega) fun z hz _ => Ok.some ?_
    rw [hy] at hz; cases hz
    show (y.2 != 3) = true
    rcases h12 with h | h <;> rw [h] <;> rfl
  obtain ⟨r, h1, h2⟩ := h
  unfold vb JL.bOf
  rw [h1]
  exact h2
theorem low_high {x : Sch} (hx : SInv x) {v : List Str} (hv : TupInv x v) {a : Int} (h0 : 0 ≤ a) {y : Str × Int} (hy : x.1[a.toNat]? = Option.some y) (h12 : y.2 = 1 ∨ y.2 = 2) (h : HB x [(a, 1, [49])] v = true) : HB x [(a, 1, [50])] v = true := by
  have hlt : a.toNat < x.1.length := (List.getElem?_eq_some_iff.1 hy).1
  have hvl : a.toNat < v.length := by rw [hv.len]; exact hlt
  have hw : v[a.toNat]? = Option.some v[a.toNat] := List.getElem?_eq_getElem hvl
  have hin : v[a.toNat] ∈ vals y.2 := hv.el _ y _ hy hw
  unfold HB at h ⊢
  simp only [List.all_cons, List.all_nil, Bool.and_true, Bool.and_eq_true] at h ⊢
  obtain ⟨⟨g1, g2⟩, g3, g4⟩ := h
  refine ⟨⟨g1, vb_less hx h0 hy h12⟩, g3, ?_⟩
  unfold hb at g4 ⊢
  have e : v.getD a.toNat [] = v[a.toNat] := by rw [List.getD_eq_getElem?_getD, hw]; rfl
  simp only [e] at g4 ⊢
  have hk' : y.2 ∈ ([1, 2] : List Int) := by rcases h12 with h | h <;> simp [h]
  have hl := List.all_eq_true.1 (List.all_eq_true.1 c82_less y.2 hk') v[a.toNat] hin
  have e1 : hold (a, 1, [49]) v[a.toNat] = C82 ((0, 1, [49]), v[a.toNat], ()) := by unfold hold; rw [if_pos rfl]; exact c82_test a 1 [49] _
  have e2 : hold (a, 1, [50]) v[a.toNat] = C82 ((0, 1, [50]), v[a.toNat], ()) := by unfold hold; rw [if_pos rfl]; exact c82_test a 1 [50] _
  rw [e1] at g4
  rw [e2]
  revert g4 hl
  generalize C82 ((0, 1, [49]), v[a.toNat], ()) = o1
  generalize C82 ((0, 1, [50]), v[a.toNat], ()) = o2
  intro g4 hl
  cases o1 with
  | none => cases hl
  | some r1 =>
    cases o2 with
    | none => cases hl
    | some r2 =>
      obtain ⟨⟨b1, _⟩, _⟩ := r1
      obtain ⟨⟨b2, _⟩, _⟩ := r2
      have g4 : b1 = true := g4
      have hl : (!b1 || b2) = true := hl
      show b2 = true
      rw [g4] at hl
      simpa using hl
abbrev Yes (r : (Bool × Unit) × Unit) : Prop := r.1.1 = true
theorem one_low (a : Int) : C19 ((a, 1, [49]), [], ()) = Option.some ((false, ()), ()) := rfl
theorem inner_ok {x : Sch} (hx : SInv x) {v : List Str} (hv : TupInv x v) (J0 : f3_Vl0 → Option ((Bool × Unit) × Unit)) (l : List Tst) (k n : Int) (s : Src) (hJ : Ok (J0 (l, k, w64 (n + 1), x.1, x.2.1, x.2.2.1, x.2.2.2, s)) Yes) :
    Ok (f3_Ll2 60 C11 C12 C14 C15 C16 C17 C18 C19 M13 J0 (l, k, n, v, x.1, (x.1.length : Int), 0, x.1, x.2.1, x.2.2.1, x.2.2.2, s)) Yes := by
  have hla := hx.a2
  refine Ok.loop (fun u => (u.1, u.2.1, u.2.2.1, u.2.2.2.1, u.2.2.2.2.1, u.2.2.2.2.2.1) = (l, k, n, v, x.1, (x.1.length : Int)) ∧ 0 ≤ u.2.2.2.2.2.2.1 ∧ u.2.2.2.2.2.2.1 ≤ (x.1.length : Int) ∧ u.2.2.2.2.2.2.2 = (x.1, x.2.1, x.2.2.1, x.2.2.2, s)) (fun u => x.1.length - u.2.2.2.2.2.2.1.toNat) ?_ 60 _
    ⟨rfl, Int.le_refl _, Int.natCast_nonneg _, rfl⟩ (by simp only; omega)
  rintro again ⟨x20, x21, x22, x23, x24, x25, x26, x27, x28, x29, x30, x31, x32⟩ ⟨h1, h2, h3, h4⟩ ih
  simp only [Prod.mk.injEq] at h1 h2 h3 h4
  obtain ⟨e1, e2, e3, e4, e5, e6⟩ := h1
  obtain ⟨e7, e8, e9, e10, e11⟩ := h4
  subst e1; subst e2; subst e3; subst e4; subst e5; subst e6; subst e7; subst e8; subst e9; subst e10; subst e11
  unfold f3_bl2
  dsimp only
  refine Ok.bif (fun hc => ?_) (fun _ => hJ)
  have hc := of_decide_eq_true hc
  rw [show w64 (x26 + 1) = x26 + 1 from w64_eq (by omega)]
  have next : Ok (again (x20, x21, x22, x23, x.1, (x.1.length : Int), x26 + 1, x.1, x.2.1, x.2.2.1, x.2.2.2, x31, x32)) Yes := ih _ ⟨rfl, (by simp only; omega), (by simp only; omega), rfl⟩ (by simp only; omega)
  refine Ok.rd h2 hc fun y hy hmem => Ok.bif (fun _ => next) (fun hk => ?_)
  have hk : ¬ y.2 = 3 := by simpa using hk
  have h12 : y.2 = 1 ∨ y.2 = 2 := by have := (hx.an y hmem).2; omega
  have tl : ∀ t ∈ [((x26, 1, [49]) : Tst)], TInv x t := fun t ht => by
    rw [List.mem_singleton] at ht; subst ht
    exact less_T hx h2 hy h12 (one_in h12) (by simp)
  have th : ∀ t ∈ [((x26, 1, [50]) : Tst)], TInv x t := fun t ht => by
    rw [List.mem_singleton] at ht; subst ht
    exact less_T hx h2 hy h12 (two_in h12) (by simp)
  have tail : Ok (Option.bind (C19 ((x26, 1, [49]), [], ())) fun r37 => bif r37.1.1 then Option.some ((false, ()), ()) else again (x20, x21, x22, x23, x.1, (x.1.length : Int), x26 + 1, x.1, x.2.1, x.2.2.1, x.2.2.2, x31, x32)) Yes :=
    Ok.eq (one_low x26) (Ok.bif (fun h => by cases h) (fun _ => next))
  refine Ok.bind (holds_ok hx (by simp) tl hv) fun r hr => Ok.bif (fun h1 => ?_) (fun _ => tail)
  rw [hr] at h1
  refine Ok.bind (holds_ok hx (by simp) th hv) fun r2 hr2 => Ok.bif (fun h => ?_) (fun _ => tail)
  rw [hr2, low_high hx hv h2 hy h12 h1] at h
  cases h
/-- FOR EVERY LIST OF NUMBERS THE LAW ANSWERS true. -/
theorem weaker_ok (t : List Int) : Ok (C3 (t, ())) Yes := by
  show Ok (f3_b C11 C12 C14 C15 C16 C17 C18 C19 M13 (loopI (fun J0 => f3_bl0 C11 C12 C14 C15 C16 C17 C18 C19 M13 (f3_Ll2 60 C11 C12 C14 C15 C16 C17 C18 C19 M13 J0)) 60) t) _
  unfold f3_b
  have hl : C11 (t, ()) = Option.some ((decide ((t.length : Int) ≤ 600), ()), ()) := rfl
  refine Ok.eq hl (Ok.bif (fun _ => Ok.eq sane_ok (Ok.some rfl)) (fun h => ?_))
  have h : (t.length : Int) ≤ 600 := by simpa using h
  refine Ok.bind (new_src (by omega)) fun s hs => Ok.bind (schema_ok hs (by omega) (by omega)) fun r4 hr4 => Ok.bind (tests_ok hr4.2 hr4.1 (by omega) (by omega)) fun r5 hr5 => ?_
  obtain ⟨⟨q1, q2⟩, q3⟩ := hr5
  rw [show w64 ((r5.1.1.length : Int) + 1) = (r5.1.1.length : Int) + 1 from w64_eq (by omega)]
  refine Ok.bind (n_ok q3 (by omega) (by omega)) fun r6 hr6 => ?_
  obtain ⟨⟨p1, p2⟩, p3⟩ := hr6
  obtain ⟨hx, _⟩ := hr4
  generalize r4.1.1 = x at hx q2 ⊢
  generalize r5.1.1 = l at q1 q2 p2 ⊢
  generalize r6.1.1 = k at p1 p2 ⊢
  generalize r6.2.1 = s6 at p3 ⊢
  refine Ok.loop (fun u => (u.1, u.2.1) = (l, k) ∧ 0 ≤ u.2.2.1 ∧ u.2.2.1 ≤ 10 ∧ (u.2.2.2.1, u.2.2.2.2.1, u.2.2.2.2.2.1, u.2.2.2.2.2.2.1) = x ∧ SI u.2.2.2.2.2.2.2) (fun u => 10 - u.2.2.1.toNat) ?_ 60 _ ⟨rfl, Int.le_refl _, (by simp only; omega), rfl, p3⟩ (by simp only; omega)
  rintro again ⟨x7, x8, x9, x10, x11, x12, x13, x14, x15⟩ ⟨h1, h2, h3, h4, h5⟩ ih
  simp only [Prod.mk.injEq] at h1 h2 h3 h4 h5
  obtain ⟨e1, e2⟩ := h1
  subst e1; subst e2
  unfold f3_bl0
  dsimp only
  rw [h4]
  refine Ok.bif (fun hc => ?_) (fun _ => Ok.eq sane_ok (Ok.some rfl))
  have hc := of_decide_eq_true hc
  have hchk : (decide (0 ≤ x8) && decide (x8.toNat ≤ x7.length)) = true := by simp only [Bool.and_eq_true, decide_eq_true_eq]; omega
  refine Ok.bind (tuple_ok h5 hx) fun r16 hr16 => ?_
  obtain ⟨hv, hs16⟩ := hr16
  have go : Ok (f3_Ll2 60 C11 C12 C14 C15 C16 C17 C18 C19 M13 again (x7, x8, x9, r16.1.1, x10, (x10.length : Int), 0, x10, x11, x12, x13, r16.2.1.1, r16.2.1.2)) Yes := by
    have e10 : x10 = x.1 := by rw [← h4]
    have e11 : x11 = x.2.1 := by rw [← h4]
    have e12 : x12 = x.2.2.1 := by rw [← h4]
    have e13 : x13 = x.2.2.2 := by rw [← h4]
    rw [e10, e11, e12, e13]
    refine inner_ok hx hv again _ _ _ _ ?_
    rw [show w64 (x9 + 1) = x9 + 1 from w64_eq (by omega)]
    exact ih _ ⟨rfl, (by simp only; omega), (by simp only; omega), rfl, hs16⟩ (by simp only; omega)
  have hsp := HB_split x x7 x8.toNat r16.1.1
  have h20 : x7.length ≤ 20 := by omega
  refine Ok.bind (holds_ok hx h20 q2 hv) fun r17 hr17 => Ok.chk hchk (Ok.bind (holds_ok hx (by rw [List.length_take]; omega) (take_T q2 _) hv) fun r18 hr18 => Ok.bif (fun h18 => Ok.chk hchk (Ok.bind (holds_ok hx (by rw [List.length_drop]; omega) (drop_T q2 _) hv) fun r19 hr19 => Ok.bif (fun h => ?_) (fun _ => go))) (fun h18 => Ok.bif (fun h => ?_) (fun _ => go)))
  · rw [hr18] at h18
    rw [h18, Bool.true_and] at hsp
    rw [hr17, hr19, hsp] at h
    simp at h
  · rw [hr18] at h18
    rw [h18, Bool.false_and] at hsp
    rw [hr17, hsp] at h
    simp at h
end Go.JL
