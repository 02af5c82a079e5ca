/- Plain laws, part 4: tests and tuples that are made; what Holds comes to. -/
import Derived.Test.YtnepcgaphhgbnaaGreatDoorLc
set_option linter.unusedVariables false
set_option maxRecDepth 100000
namespace Go.JL
theorem all_snoc {α : Type} {l : List α} {p : α → Bool} {i : Nat} {y : α} (hy : l[i]? = some y) : (l.take (i + 1)).all p = ((l.take i).all p && p y) := by
  rw [List.take_add_one, List.all_append, hy]
  simp
theorem all_false {α : Type} {l : List α} {p : α → Bool} {y : α} (hy : y ∈ l) (hp : p y = false) : l.all p = false := by
  cases h : l.all p with
  | false => rfl
  | true =>
    have := List.all_eq_true.1 h y hy
    rw [hp] at this; cases this

/-! ### Tuples -/
structure TupInv (x : Sch) (v : List Str) : Prop where
  len : v.length = x.1.length
  el : ∀ (i : Nat) (a : Str × Int) (w : Str), x.1[i]? = some a → v[i]? = some w → w ∈ vals a.2
theorem tuple_ok {s : Src} (hs : SI s) {x : Sch} (hx : SInv x) : Ok (C17 (s, x, ())) (fun r => TupInv x r.1.1 ∧ SI r.2.1) := by
  show Ok (f17_b C49 (loopI (fun J => f17_bl0 C49 J) 60) s x) _
  unfold f17_b
  have hl := hx.a2
  refine Ok.loop (fun v => v.1 = x.1 ∧ v.2.1 = (x.1.length : Int) ∧ 0 ≤ v.2.2.1 ∧ v.2.2.1 ≤ (x.1.length : Int) ∧ (v.2.2.2.1.length : Int) = v.2.2.1 ∧ (∀ (i : Nat) (a : Str × Int) (w : Str), x.1[i]? = some a → v.2.2.2.1[i]? = some w → w ∈ vals a.2) ∧ SI v.2.2.2.2) (fun v => x.1.length - v.2.2.1.toNat) ?_ 60 _
    ⟨rfl, rfl, Int.le_refl _, Int.natCast_nonneg _, rfl, (fun i a w _ h => by simp at h), hs⟩ (by simp only; omega)
  rintro again ⟨x1, x2, x3, l4, x5⟩ ⟨h1, h2, h3, h4, h5, h6, h7⟩ ih
  simp only at h1 h2 h3 h4 h5 h6 h7
  subst h1; subst h2
  unfold f17_bl0
  refine Ok.bif (fun hc => ?_) (fun hc => Ok.some ⟨⟨?_, h6⟩, h7⟩)
  · have hc := of_decide_eq_true hc
    rw [show w64 (x3 + 1) = x3 + 1 from w64_eq (by omega)]
    refine Ok.rd h3 hc fun y hy _ => Ok.bind (value_ok h7 y) fun r hr => Ok.chk (room (by omega)) (ih _ ⟨rfl, rfl, ?_, ?_, ?_, ?_, hr.2⟩ ?_)
    · simp only; omega
    · simp only; omega
    · simp; omega
    · intro i a w ha hw
      simp only at hw
      rcases Nat.lt_or_ge i l4.length with hi | hi
      · rw [List.getElem?_append_left hi] at hw
        exact h6 i a w ha hw
      · rw [List.getElem?_append_right hi] at hw
        have hi' : i = l4.length := by
          have := (List.getElem?_eq_some_iff.1 hw).1
          simp at this; omega
        subst hi'
        simp at hw
        subst hw
        have e : x3.toNat = l4.length := by omega
        rw [e] at hy
        rw [ha] at hy
        cases hy
        exact hr.1
    · simp only; omega
  · have hc := of_decide_eq_false hc
    simp only
    omega

/-! ### Tests -/
def TInv (x : Sch) (t : Tst) : Prop := 0 ≤ t.1 ∧ ∃ a, x.1[t.1.toNat]? = some a ∧ ((t.2.1 = 3 ∨ t.2.1 = 4) ∧ t.2.2 ∈ vals a.2 ∨ (t.2.1 = 1 ∨ t.2.1 = 2) ∧ (a.2 = 1 ∨ a.2 = 2) ∧ t.2.2 ∈ vals a.2 ∧ t.2.2 ≠ [])
theorem one_in {k : Int} (h : k = 1 ∨ k = 2) : ([49] : Str) ∈ vals k := by
  rcases h with rfl | rfl <;> simp [vals]
theorem two_in {k : Int} (h : k = 1 ∨ k = 2) : ([50] : Str) ∈ vals k := by
  rcases h with rfl | rfl <;> simp [vals]
theorem test_ok {s : Src} (hs : SI s) {x : Sch} (hx : SInv x) : Ok (C32 (s, x, ())) (fun r => TInv x r.1.1 ∧ SI r.2.1) := by
  show Ok (f32_b C16 C43 C49 s x) _
  unfold f32_b
  have hl1 := hx.a1
  have hl2 := hx.a2
  refine Ok.bind (n_ok hs (by omega) (by omega)) fun r1 hr1 => Ok.bind (range_ok hr1.2 (by omega) (by omega) (by omega)) fun r2 hr2 => ?_
  refine Ok.rd hr1.1.1 hr1.1.2 fun y hy hmem => Ok.bind (value_ok hr2.2 y) fun r4 hr4 => Ok.rd hr1.1.1 hr1.1.2 fun y5 hy5 _ => ?_
  have e5 : y5 = y := by rw [hy] at hy5; cases hy5; rfl
  subst e5
  obtain ⟨⟨q1, q2⟩, q3⟩ := hr2
  have hk := (hx.an y5 hmem).2
  have hw : w64 (r2.1.1 + 2) = r2.1.1 + 2 := w64_eq (by omega)
  rw [hw]
  have hi := hr1.1.1
  refine Ok.bif (fun h3 => ?_) (fun h3 => ?_)
  · have h3 : y5.2 = 3 := by simpa using h3
    refine Ok.bif (fun h => ?_) (fun h => ?_)
    · have h := of_decide_eq_true h
      refine Ok.bif (fun hc => ?_) (fun _ => Ok.some ⟨⟨hi, y5, hy, .inl ⟨?_, hr4.1⟩⟩, hr4.2⟩)
      · have hc := of_decide_eq_true hc
        omega
      · simp only; omega
    · have h := of_decide_eq_false h
      refine Ok.bif (fun hc => ?_) (fun _ => Ok.some ⟨⟨hi, y5, hy, .inl ⟨?_, hr4.1⟩⟩, hr4.2⟩)
      · have hc := of_decide_eq_true hc
        omega
      · simp only; omega
  · have h3 : ¬ y5.2 = 3 := by simpa using h3
    have hk12 : y5.2 = 1 ∨ y5.2 = 2 := by omega
    refine Ok.bif (fun h => ?_) (fun h => Ok.some ⟨⟨hi, y5, hy, .inl ⟨?_, hr4.1⟩⟩, hr4.2⟩)
    · have h := of_decide_eq_true h
      refine Ok.bif (fun hc => Ok.some ⟨⟨hi, y5, hy, .inr ⟨?_, hk12, one_in hk12, by simp⟩⟩, hr4.2⟩) (fun hc => Ok.some ⟨⟨hi, y5, hy, .inr ⟨?_, hk12, hr4.1, ?_⟩⟩, hr4.2⟩)
      · simp only; omega
      · simp only; omega
      · simpa using hc
    · have h := of_decide_eq_false h
      simp only; omega
theorem tests_ok {s : Src} (hs : SI s) {x : Sch} (hx : SInv x) {n : Int} (h0 : 0 ≤ n) (h1 : n ≤ 20) : Ok (C15 (s, x, n, ())) (fun r => ((r.1.1.length : Int) ≤ n ∧ ∀ t ∈ r.1.1, TInv x t) ∧ SI r.2.1) := by
  show Ok (f15_b C16 C32 (loopI (fun J => f15_bl0 C16 C32 J) 60) s x n) _
  unfold f15_b
  rw [show w64 (n + 1) = n + 1 from w64_eq (by omega)]
  refine Ok.bind (n_ok hs (by omega) (by omega)) fun r hr => ?_
  refine Ok.loop (fun v => (v.2.1, v.2.2.1, v.2.2.2.1, v.2.2.2.2.1) = x ∧ 0 ≤ v.1 ∧ v.1 + (v.2.2.2.2.2.1.length : Int) ≤ n ∧ (∀ t ∈ v.2.2.2.2.2.1, TInv x t) ∧ SI v.2.2.2.2.2.2) (fun v => v.1.toNat) ?_ 60 _ ⟨rfl, hr.1.1, (by simp; omega), (fun t ht => by cases ht), hr.2⟩ (by simp only; omega)
  rintro again ⟨x2, x3, x4, x5, x6, l7, x8⟩ ⟨g1, g2, g3, g4, g5⟩ ih
  simp only at g1 g2 g3 g4 g5
  unfold f15_bl0
  refine Ok.bif (fun hc => ?_) (fun hc => Ok.some ⟨⟨by simp only; omega, g4⟩, g5⟩)
  have hc := of_decide_eq_true hc
  rw [show w64 (x2 - 1) = x2 - 1 from w64_eq (by omega)]
  rw [g1]
  refine Ok.bind (test_ok g5 hx) fun t ht => Ok.chk (room (by omega)) (ih _ ⟨g1, ?_, ?_, ?_, ht.2⟩ ?_)
  · simp only; omega
  · simp; omega
  · intro u hu
    rcases List.mem_append.1 hu with hu | hu
    · exact g4 u hu
    · rw [List.mem_singleton] at hu; subst hu; exact ht.1
  · simp only; omega

/-! ### What Holds comes to -/
def bOf (o : Option ((Bool × Unit) × Unit)) : Bool := match o with
  | Option.some ((b, _), _) => b
  | Option.none => false
theorem Ok.bOf {o : Option ((Bool × Unit) × Unit)} (h : Ok o Any) : Ok o (fun r => r.1.1 = JL.bOf o) := by
  obtain ⟨⟨⟨b, _⟩, _⟩, rfl, _⟩ := h
  exact ⟨_, rfl, rfl⟩
noncomputable def eOf (x : Sch) : Int := match C56 (x, ()) with
  | Option.some ((b, _), _) => b
  | Option.none => 0
noncomputable def vb (x : Sch) (t : Tst) : Bool := JL.bOf (C58 (x, t, ()))
noncomputable def tb (x : Sch) (v : List Str) : Bool := JL.bOf (C50 (x, v, ()))
noncomputable def hold (t : Tst) (w : Str) : Option ((Bool × Unit) × Unit) := if t.2.1 = 1 then C82 (t, w, ()) else if t.2.1 = 2 then C83 (t, w, ()) else if t.2.1 = 3 then C84 (t, w, ()) else C85 (t, w, ())
noncomputable def hb (t : Tst) (v : List Str) : Bool := JL.bOf (hold t (v.getD t.1.toNat []))
theorem kinds_in {k : Int} (h : k = 1 ∨ k = 2 ∨ k = 3) : k ∈ kinds := by rcases h with rfl | rfl | rfl <;> simp [kinds]
theorem value_tot {a : Str × Int} (hk : a.2 = 1 ∨ a.2 = 2 ∨ a.2 = 3) {w : Str} (hw : w ∈ vals a.2) : C81 (a, w, ()) = Option.some ((true, ()), ()) := by
  have h := List.all_eq_true.1 (List.all_eq_true.1 c81_all a.2 (kinds_in hk)) w hw
  have e : C81 (a, w, ()) = C81 (([], a.2), w, ()) := c81_name a.1 a.2 w
  rw [e]
  simpa using h
theorem c82_tot {t : Tst} {k : Int} (hk : k = 1 ∨ k = 2) (ht : t.2.2 ∈ vals k) (hne : t.2.2 ≠ []) {w : Str} (hw : w ∈ vals k) : Ok (C82 (t, w, ())) Any := by
  have hk' : k ∈ ([1, 2] : List Int) := by rcases hk with rfl | rfl <;> simp
  have h := List.all_eq_true.1 (List.all_eq_true.1 c82_all k hk') t.2.2 ht
  rw [Bool.or_eq_true] at h
  rcases h with h | h
  · rw [List.isEmpty_iff] at h; exact (hne h).elim
  · have h := List.all_eq_true.1 h w hw
    have e : C82 (t, w, ()) = C82 ((0, 1, t.2.2), w, ()) := c82_test t.1 t.2.1 t.2.2 w
    rw [e]
    obtain ⟨r, hr⟩ := Option.isSome_iff_exists.1 h
    exact ⟨r, hr, trivial⟩
theorem hold_tot {x : Sch} {t : Tst} (ht : TInv x t) {a : Str × Int} (ha : x.1[t.1.toNat]? = some a) {w : Str} (hw : w ∈ vals a.2) : Ok (hold t w) Any := by
  obtain ⟨_, a', ha', h⟩ := ht
  rw [ha] at ha'; cases ha'
  unfold hold
  rcases h with ⟨hk, h⟩ | ⟨hk, h12, h1, h2⟩
  · rw [if_neg (by omega), if_neg (by omega)]
    split
    · exact ⟨_, rfl, trivial⟩
    · exact ⟨_, rfl, trivial⟩
  · have h82 := c82_tot h12 h1 h2 hw
    split
    · exact h82
    · rw [if_pos (by omega)]
      show Ok (f83_b C82 t w) _
      unfold f83_b
      exact Ok.bind h82 fun r _ => Ok.some trivial
theorem valid_tot {x : Sch} (hx : SInv x) {t : Tst} (ht : TInv x t) : Ok (C58 (x, t, ())) Any := by
  obtain ⟨h0, a, ha, h⟩ := ht
  have hlt : t.1.toNat < x.1.length := (List.getElem?_eq_some_iff.1 ha).1
  have hmem : a ∈ x.1 := List.mem_of_getElem? ha
  have hw : t.2.2 ∈ vals a.2 := by rcases h with ⟨_, h⟩ | ⟨_, _, h, _⟩ <;> exact h
  show Ok (f58_b C81 x t) _
  unfold f58_b
  refine Ok.bif (fun _ => Ok.some trivial) (fun _ => Ok.bif (fun _ => Ok.some trivial) (fun _ => Ok.rd h0 (by omega) fun y hy _ => ?_))
  rw [ha] at hy; cases hy
  refine Ok.eq (value_tot (hx.an a hmem).2 hw) ?_
  repeat' first
    | exact Ok.some trivial
    | refine Ok.rd h0 (by omega) fun y _ _ => ?_
    | refine Ok.bif (fun _ => ?_) (fun _ => ?_)
theorem check_ok {x : Sch} (hx : SInv x) {l : List Tst} (hl : l.length ≤ 20) (ht : ∀ t ∈ l, TInv x t) : Ok (C24 (x, l, ())) (fun r => (r.1.1 != 0) = !(eOf x == 0 && l.all (vb x))) := by
  show Ok (f24_b C56 C58 (loopI (fun J => f24_bl0 C56 C58 J) 60) x l) _
  unfold f24_b
  obtain ⟨⟨⟨e, _⟩, _⟩, he, _⟩ := c56_tot hx
  have hee : eOf x = e := by unfold eOf; rw [he]
  refine Ok.eq he (Ok.bif (fun h => Ok.some ?_) (fun h => Ok.bif (fun h => ?_) (fun _ => ?_)))
  · rw [hee]
    have h : (e != 0) = true := h
    have h2 : (e == 0) = false := by simpa using h
    simp [h, h2]
  · have h := of_decide_eq_true h; omega
  have he0 : e = 0 := by simpa using h
  refine Ok.loop (fun v => v.1 = l ∧ v.2.1 = (l.length : Int) ∧ 0 ≤ v.2.2.1 ∧ v.2.2.1 ≤ (l.length : Int) ∧ v.2.2.2 = x ∧ (l.take v.2.2.1.toNat).all (vb x) = true) (fun v => l.length - v.2.2.1.toNat) ?_ 60 _ ⟨rfl, rfl, Int.le_refl _, Int.natCast_nonneg _, rfl, rfl⟩ (by simp only; omega)
  rintro again ⟨x2, x3, x4, x5⟩ ⟨h1, h2, h3, h4, h5, h6⟩ ih
  simp only at h1 h2 h3 h4 h5 h6
  subst h1; subst h2; subst h5
  unfold f24_bl0
  refine Ok.bif (fun hc => ?_) (fun hc => Ok.some ?_)
  · have hc := of_decide_eq_true hc
    rw [show w64 (x4 + 1) = x4 + 1 from w64_eq (by omega)]
    refine Ok.rd h3 hc fun y hy hmem => Ok.bind (valid_tot hx (ht y hmem)).bOf fun r hr => Ok.bif (fun hb => Ok.some ?_) (fun hb => ih _ ⟨rfl, rfl, ?_, ?_, rfl, ?_⟩ ?_)
    · have hv : vb x5 y = false := by show JL.bOf _ = false; rw [← hr]; simpa using hb
      rw [all_false hmem hv]
      simp
    · simp only; omega
    · simp only; omega
    · have hv : vb x5 y = true := by show JL.bOf _ = true; rw [← hr]; simpa using hb
      simp only
      rw [show (x4 + 1).toNat = x4.toNat + 1 by omega, all_snoc hy, h6, hv]
      rfl
    · simp only; omega
  · have hc := of_decide_eq_false hc
    rw [List.take_of_length_le (by omega)] at h6
    rw [hee, he0, h6]
    rfl
theorem tuple_tot {x : Sch} (hx : SInv x) {v : List Str} (hv : TupInv x v) : Ok (C50 (x, v, ())) Any := by
  show Ok (f50_b C81 (loopI (fun J => f50_bl0 C81 J) 60) x v) _
  unfold f50_b
  have hl := hx.a2
  have hlen := hv.len
  refine Ok.bif (fun _ => Ok.some trivial) (fun _ => ?_)
  refine Ok.loop (fun u => u.1 = v ∧ u.2.1 = (v.length : Int) ∧ 0 ≤ u.2.2.1 ∧ u.2.2.1 ≤ (v.length : Int) ∧ u.2.2.2 = x) (fun u => v.length - u.2.2.1.toNat) ?_ 60 _ ⟨rfl, rfl, Int.le_refl _, Int.natCast_nonneg _, rfl⟩ (by simp only; omega)
  rintro again ⟨x1, x2, x3, x4⟩ ⟨h1, h2, h3, h4, h5⟩ ih
  simp only at h1 h2 h3 h4 h5
  subst h1; subst h2; subst h5
  unfold f50_bl0
  refine Ok.bif (fun hc => ?_) (fun hc => Ok.some trivial)
  have hc := of_decide_eq_true hc
  rw [show w64 (x3 + 1) = x3 + 1 from w64_eq (by omega)]
  refine Ok.rd h3 hc fun y hy _ => Ok.rd h3 (by omega) fun a ha hmem => Ok.eq (value_tot (hx.an a hmem).2 (hv.el _ a y ha hy)) (Ok.bif (fun _ => Ok.some trivial) (fun _ => ih _ ⟨rfl, rfl, ?_, ?_, rfl⟩ ?_)) <;> simp only <;> omega
noncomputable def HB (x : Sch) (l : List Tst) (v : List Str) : Bool := (eOf x == 0 && l.all (vb x)) && (tb x v && l.all fun t => hb t v)
theorem holds_ok {x : Sch} (hx : SInv x) {l : List Tst} (hl : l.length ≤ 20) (ht : ∀ t ∈ l, TInv x t) {v : List Str} (hv : TupInv x v) : Ok (C18 (x, l, v, ())) (fun r => r.1.1 = HB x l v) := by
  show Ok (f18_b C24 C50 C51 C82 C83 C84 C85 (loopI (fun J => f18_bl0 C24 C50 C51 C82 C83 C84 C85 J) 60) x l v) _
  unfold f18_b
  refine Ok.bind (check_ok hx hl ht) fun r hr => Ok.bif (fun h => Ok.some ?_) (fun h => Ok.bind (tuple_tot hx hv).bOf fun r2 hr2 => Ok.bif (fun h2 => Ok.some ?_) (fun h2 => ?_))
  · rw [hr] at h
    unfold HB
    rw [Bool.not_eq_true'] at h
    rw [h]; rfl
  · have : tb x v = false := by rw [hr2] at h2; simpa [tb] using h2
    unfold HB
    rw [this]
    simp
  have hA : (eOf x == 0 && l.all (vb x)) = true := by rw [hr] at h; simpa using h
  have hT : tb x v = true := by rw [hr2] at h2; simpa [tb] using h2
  have hHB : HB x l v = l.all fun t => hb t v := by unfold HB; rw [hA, hT]; simp
  refine Ok.loop (fun u => u.1 = v ∧ u.2.1 = l ∧ u.2.2.1 = (l.length : Int) ∧ 0 ≤ u.2.2.2 ∧ u.2.2.2 ≤ (l.length : Int) ∧ ((l.take u.2.2.2.toNat).all fun t => hb t v) = true) (fun u => l.length - u.2.2.2.toNat) ?_ 60 _ ⟨rfl, rfl, rfl, Int.le_refl _, Int.natCast_nonneg _, rfl⟩ (by simp only; omega)
  rintro again ⟨x3, x4, x5, x6⟩ ⟨h1, h2, h3, h4, h5, h6⟩ ih
  simp only at h1 h2 h3 h4 h5 h6
  subst h1; subst h2; subst h3
  unfold f18_bl0
  refine Ok.bif (fun hc => ?_) (fun hc => Ok.some ?_)
  · have hc := of_decide_eq_true hc
    rw [show w64 (x6 + 1) = x6 + 1 from w64_eq (by omega)]
    refine Ok.rd h4 hc fun y hy hmem => ?_
    have hty := ht y hmem
    have hty' := hty
    obtain ⟨g0, a, ga, gk⟩ := hty'
    have hlt : y.1.toNat < x.1.length := (List.getElem?_eq_some_iff.1 ga).1
    have hlen := hv.len
    show Ok (Option.bind (ofI (y, ())) _) _
    unfold ofI
    refine Ok.eq rfl (Ok.rd g0 (by omega) fun w hw _ => ?_)
    have hwv : w ∈ vals a.2 := hv.el _ a w ga hw
    have hh := (hold_tot hty ga hwv).bOf
    have hbe : hb y x3 = JL.bOf (hold y w) := by unfold hb; rw [List.getD_eq_getElem?_getD, hw]; rfl
    rw [← hbe] at hh
    have fin : ∀ r : (Bool × Unit) × Unit, r.1.1 = hb y x3 → Ok (bif !r.1.1 then Option.some ((false, ()), ()) else again (x3, x4, (x4.length : Int), x6 + 1)) (fun r => r.1.1 = HB x x4 x3) := fun r hr => Ok.bif (fun h => Ok.some (by
        rw [hHB, all_false hmem (p := fun t => hb t x3) (by rw [← hr]; simpa using h)])) (fun h => ih _ ⟨rfl, rfl, rfl, (by simp only; omega), (by simp only; omega), (by
        simp only
        rw [show (x6 + 1).toNat = x6.toNat + 1 by omega, all_snoc hy, h6, ← hr]
        simpa using h)⟩ (by simp only; omega))
    have hk4 : y.2.1 = 1 ∨ y.2.1 = 2 ∨ y.2.1 = 3 ∨ y.2.1 = 4 := by omega
    rcases hk4 with k | k | k | k
    · rw [show hold y w = C82 (y, w, ()) by unfold hold; rw [if_pos k]] at hh
      refine Ok.eq (r := (82, y)) (by simp only [k, if_true]) ?_
      show Ok (Option.bind (C82 (y, w, ())) _) _
      exact Ok.bind hh fin
    · rw [show hold y w = C83 (y, w, ()) by unfold hold; rw [if_neg (by omega), if_pos k]] at hh
      refine Ok.eq (r := (83, y)) (by simp [k]) ?_
      show Ok (Option.bind (C83 (y, w, ())) _) _
      exact Ok.bind hh fin
    · rw [show hold y w = C84 (y, w, ()) by unfold hold; rw [if_neg (by omega), if_neg (by omega), if_pos k]] at hh
      refine Ok.eq (r := (84, y)) (by simp [k]) ?_
      have hf : Ok (Option.bind (C84 (y, w, ())) fun r => bif !r.1.1 then Option.some ((false, ()), ()) else again (x3, x4, (x4.length : Int), x6 + 1)) (fun r => r.1.1 = HB x x4 x3) := Ok.bind hh fin
      exact hf
    · rw [show hold y w = C85 (y, w, ()) by unfold hold; rw [if_neg (by omega), if_neg (by omega), if_neg (by omega)]] at hh
      refine Ok.eq (r := (85, y)) (by simp [k]) ?_
      have hf : Ok (Option.bind (C85 (y, w, ())) fun r => bif !r.1.1 then Option.some ((false, ()), ()) else again (x3, x4, (x4.length : Int), x6 + 1)) (fun r => r.1.1 = HB x x4 x3) := Ok.bind hh fin
      exact hf
  · have hc := of_decide_eq_false hc
    rw [List.take_of_length_le (by omega)] at h6
    rw [hHB, h6]
end Go.JL
