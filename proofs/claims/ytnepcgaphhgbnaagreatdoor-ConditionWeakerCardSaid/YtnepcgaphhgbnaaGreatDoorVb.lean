/- The abstract machine over the model's own code, and its soundness: text 2 of 4. No program in sight. -/
import Derived.Test.YtnepcgaphhgbnaaGreatDoorVa
import Derived.Laws.StructEq
import Derived.Laws.BytesString
import Derived.Great.BuildSlice
import Derived.Laws.MakeOwn
import Derived.Deep.AppendSrc
/- The abstract machine, tenth part: parts of structs, literals of structs, minima, conversions, equality of structs. No program in sight. -/
set_option linter.unusedVariables false
set_option linter.unusedSimpArgs false
namespace Go.JL

section
variable {P : Program} {β : Place} {H : Nat → Option VO} {M : Mem}

theorem run_part {t : Nat} {ty : Ty} (h : TyOk P t ty) (cs : Array Value) (l : List CV) (hl : cs.size = l.length) (hc : CellsR β H M (fun i => cs[i]?) l) (off : Nat) (ho : off + ty.size ≤ l.length) (w : World) :
    (ty.d.agg = true → ∃ us : Array Value, (part t cs off).run P w = .ok (.agg us) w ∧ us.size = ty.size ∧ CellsR β H M (fun i => us[i]?) ((l.drop off).take ty.size)) ∧
    (ty.d.agg = false → ∀ x, (l.drop off)[0]? = some x → ∃ u, (part t cs off).run P w = .ok u w ∧ CVR β H M u x) := by
  constructor
  · intro ha
    refine ⟨cs.extract off (off + ty.size), ?_, by simp; omega, ?_⟩
    · simp only [part, Sem.run_bind, h.run_isAgg w, Result.andThen_ok, ha, if_true, h.run_size w, Sem.run_pure]
    · intro i x hx
      rw [List.getElem?_take, List.getElem?_drop] at hx
      split at hx
      · rename_i hi
        obtain ⟨u, h1, h2⟩ := hc _ x hx
        refine ⟨u, ?_, h2⟩
        have h1 : cs[off + i]? = some u := h1
        have hlt : off + i < cs.size := by omega
        rw [Array.getElem?_eq_getElem hlt] at h1
        show (cs.extract off (off + ty.size))[i]? = some u
        rw [Array.getElem?_eq_getElem (by simp; omega), Array.getElem_extract]
        exact h1
      · cases hx
  · intro ha x hx
    rw [List.getElem?_drop] at hx
    obtain ⟨u, h1, h2⟩ := hc _ x hx
    have h1 : cs[off + 0]? = some u := h1
    rw [Nat.add_zero] at h1
    refine ⟨u, ?_, h2⟩
    simp only [part, Sem.run_bind, h.run_isAgg w, Result.andThen_ok, ha, Bool.false_eq_true, if_false, h1, Sem.run_pure]

theorem vfield_ok {cx : Cx} (htt : ∀ t ty, cx.tt t = some ty → TyOk P t ty) {t f : Nat} {x : LV} {v : Value} (hx : LVR β H M v x) (w : World)
    {α : Type} {K : LV → Option α} {r : α} (h : vfield cx t x f K = some r) : Read1 P β H M w (fun γ K => vfield cx t x f K) (Instr.field t v f) := by
  unfold vfield at h
  split at h
  · rename_i ty l hty
    split at h
    · rename_i gs hd
      split at h
      · rename_i off ft hf
        split at h
        · rename_i fty hft
          simp only [Bool.cond_eq_ite, decide_eq_true_eq] at h
          split at h
          · rename_i ho
            obtain ⟨vs, rfl, hs, hc⟩ := hx
            obtain ⟨fs, h1, h2, h3⟩ := (htt t ty hty).under_struct hd
            obtain ⟨fl, e1, e2, e3, e4⟩ := field_of h2 hf
            obtain ⟨p1, p2⟩ := run_part (P := P) (htt ft fty hft) vs l hs hc off ho w
            have hrun : (Instr.field t (.agg vs) f).run P w = (part ft vs off).run P w := by
              simp [Instr.field, run_underlying h1, e1, asAgg, e2, e3]
            split at h
            · rename_i ha
              obtain ⟨us, q1, q2, q3⟩ := p1 ha
              refine ⟨.agg ((l.drop off).take fty.size), .agg us, fun γ K => by simp only [vfield, hty, hd, hf, hft, ho, decide_true, cond_true, ha], ⟨us, rfl, ?_, q3⟩, by rw [hrun]; exact q1⟩
              rw [q2, List.length_take, List.length_drop]; omega
            · rename_i ha
              have ha : fty.d.agg = false := by simpa using ha
              split at h
              · rename_i y hy
                have hy0 : (l.drop off)[0]? = some y := by
                  have := congrArg (fun l : List CV => l[0]?) hy
                  simp only [List.getElem?_take] at this
                  split at this
                  · exact this
                  · simp at this
                obtain ⟨u, q1, q2⟩ := p2 ha y hy0
                exact ⟨.c y, u, fun γ K => by simp only [vfield, hty, hd, hf, hft, ho, decide_true, cond_true, ha, cond_false, hy], q2, by rw [hrun]; exact q1⟩
              · cases h
          · cases h
        · cases h
      · cases h
    · cases h
  · cases h

theorem vextract_ok {x : List (List CV × Bool)} {i : Nat} {v : Value} (hx : LVR β H M v (.tup x)) {p : List CV × Bool} (hp : x[i]? = some p) (w : World) :
    ∃ z, (Instr.extract v i).run P w = .ok z w ∧ (if p.2 then LVR β H M z (.agg p.1) else ∃ y, p.1 = [y] ∧ CVR β H M z y) := by
  obtain ⟨vs, rfl, hs, hc⟩ := hx
  obtain ⟨u, h1, h2⟩ := hc i p hp
  refine ⟨u, by simp [Instr.extract, h1], ?_⟩
  split at h2
  · rename_i hb
    rw [if_pos hb]
    obtain ⟨us, rfl, q1, q2⟩ := h2
    exact ⟨us, rfl, q1, q2⟩
  · rename_i hb
    rw [if_neg hb]
    exact h2

/-! ### Literals -/
theorem foldl_set (off : Nat) : ∀ (vs : List Value) (k : Nat) (cells : Array Value), off + k + vs.length ≤ cells.size →
    ((vs.zipIdx k).foldl (fun cs (p : Value × Nat) => cs.setIfInBounds (off + p.2) p.1) cells).toList = splice cells.toList (off + k) vs
  | [], k, cells, _ => by simp [splice]
  | v :: r, k, cells, h => by
    simp only [List.length_cons] at h
    rw [List.zipIdx_cons, List.foldl_cons, foldl_set off r (k + 1) _ (by simp; omega)]
    simp only [splice, Array.toList_setIfInBounds, List.length_cons]
    apply List.ext_getElem?
    intro i
    simp only [List.getElem?_append, List.getElem?_take, List.getElem?_drop, List.getElem?_set, List.getElem?_cons, List.length_take, List.length_set, Array.length_toList, List.length_cons]
    have e : off + (k + 1) = off + k + 1 := by omega
    simp only [e]
    by_cases h1 : i < off + k
    · simp [h1, show i < off + k + 1 by omega, show min (off + k + 1) cells.size = off + k + 1 by omega, show min (off + k) cells.size = off + k by omega, show off + k ≠ i by omega]
    · by_cases h2 : i = off + k
      · subst h2
        simp [show min (off + k + 1) cells.size = off + k + 1 by omega, show min (off + k) cells.size = off + k by omega, show off + k < cells.size by omega]
      · have h3 : off + k < i := by omega
        simp only [show min (off + k + 1) cells.size = off + k + 1 by omega, show min (off + k) cells.size = off + k by omega, show ¬ i < off + k + 1 by omega, h1, if_false]
        by_cases h4 : i - (off + k + 1) < r.length
        · simp only [h4, if_true, show i - (off + k) < r.length + 1 by omega, show ¬ (i - (off + k) = 0) by omega, if_false]
          congr 1
        · simp only [h4, if_false, show ¬ (i - (off + k) < r.length + 1) by omega]
          rw [if_neg (by omega)]
          congr 1
          omega
theorem CellsR.splice {cs : List Value} {l : List CV} (hl : cs.length = l.length) (h : CellsR β H M (fun i => cs[i]?) l) {vs : List Value} {xs : List CV} (hx : vs.length = xs.length) (hv : CellsR β H M (fun i => vs[i]?) xs) {off : Nat}
    (ho : off + xs.length ≤ l.length) : CellsR β H M (fun i => (JL.splice cs off vs)[i]?) (JL.splice l off xs) := by
  intro i x hi
  simp only [JL.splice, List.getElem?_append, List.length_take, List.getElem?_take, List.getElem?_drop] at hi ⊢
  have e1 : min off cs.length = off := by omega
  have e2 : min off l.length = off := by omega
  rw [e2] at hi
  rw [e1, hx]
  by_cases h1 : i < off
  · simp only [h1, if_true] at hi ⊢
    exact h i x hi
  · simp only [h1, if_false] at hi ⊢
    by_cases h2 : i - off < xs.length
    · simp only [h2, if_true] at hi ⊢
      exact hv _ x hi
    · simp only [h2, if_false] at hi ⊢
      exact h _ x hi
theorem splice_length {γ : Type} (l : List γ) (off : Nat) (xs : List γ) (h : off + xs.length ≤ l.length) : (splice l off xs).length = l.length := by
  simp only [splice, List.length_append, List.length_take, List.length_drop]; omega

/-- The cells of a value. -/
theorem LVR.cells {v : Value} {x : LV} (h : LVR β H M v x) (ha : x.cells.all CV.alive = true) : v.cells.toList.length = x.cells.length ∧ CellsR β H M (fun i => v.cells.toList[i]?) x.cells ∧ (∀ u ∈ v.cells.toList, u.oneCell' = true) ∧ (x.isAgg = true ↔ ∃ vs, v = .agg vs) := by
  cases x with
  | c x =>
    have h : CVR β H M v x := h
    have h1 := CVR.one (by simpa [LV.cells] using ha) h
    rw [cells_one h1]
    refine ⟨rfl, fun i y hy => ?_, by simpa using h1, ?_⟩
    · cases i with
      | zero => simp [LV.cells] at hy; subst hy; exact ⟨v, rfl, h⟩
      | succ i => simp [LV.cells] at hy
    · simp only [LV.isAgg, Bool.false_eq_true, false_iff, not_exists]
      rintro vs rfl
      cases h1
  | agg l =>
    obtain ⟨vs, rfl, h1, h2⟩ := h
    refine ⟨by simpa [Value.cells, LV.cells] using h1, by simpa [Value.cells, LV.cells] using h2, ?_, by simp [LV.isAgg]⟩
    intro u hu
    obtain ⟨i, hi, rfl⟩ := List.getElem_of_mem hu
    have hi' : i < l.length := by simp [Value.cells] at hi; omega
    obtain ⟨u, g1, g2⟩ := h2 i l[i] (List.getElem?_eq_getElem hi')
    have hal : l[i].alive = true := by
      simp only [LV.cells, List.all_eq_true] at ha
      exact ha _ (List.getElem_mem hi')
    have : (Value.agg vs).cells.toList[i] = u := by
      have g1 : vs[i]? = some u := g1
      have hi2 : i < vs.size := by simpa [Value.cells] using hi
      rw [Array.getElem?_eq_getElem hi2] at g1
      injection g1
    rw [this]
    exact CVR.one hal g2
  | tup l => simp [LV.cells, CV.alive] at ha

theorem fill_ok {place : Nat → Option (Nat × Nat)} {pl : List (Nat × Nat)} (hpl : ∀ (i : Nat) (p : Nat × Nat), pl[i]? = some p → place i = some p) :
    ∀ (parts : List (Nat × LV)) (vparts : List (Nat × Value)) (cells : List CV) (cs : Array Value) (out : List CV), (vparts.map (·.1) = parts.map (·.1)) →
      (∀ (i : Nat) (p : Nat × LV) (q : Nat × Value), parts[i]? = some p → vparts[i]? = some q → LVR β H M q.2 p.2) → cs.size = cells.length → CellsR β H M (fun i => cs[i]?) cells → fillV pl cells parts = some out →
      ∃ cs' : Array Value, Instr.fill place cs vparts = some cs' ∧ cs'.size = out.length ∧ out.length = cells.length ∧ CellsR β H M (fun i => cs'[i]?) out
  | [], vparts, cells, cs, out, hm, hv, hs, hc, h => by
    have : vparts = [] := by cases vparts with
      | nil => rfl
      | cons _ _ => simp at hm
    subst this
    simp only [fillV, Option.some.injEq] at h
    subst h
    exact ⟨cs, rfl, hs, rfl, hc⟩
  | (i, x) :: r, vparts, cells, cs, out, hm, hv, hs, hc, h => by
    cases vparts with
    | nil => simp at hm
    | cons q vr =>
      obtain ⟨j, v⟩ := q
      simp only [List.map_cons, List.cons.injEq] at hm
      obtain ⟨rfl, hm⟩ := hm
      simp only [fillV] at h
      split at h
      · rename_i off size hp
        simp only [Bool.cond_eq_ite, Bool.and_eq_true, decide_eq_true_eq] at h
        split at h
        · rename_i hcnd
          obtain ⟨⟨h1, h2⟩, h3⟩ := hcnd
          have hxv := hv 0 (j, x) (j, v) rfl rfl
          obtain ⟨g1, g2, g3, _⟩ := LVR.cells hxv h3
          have hsz : v.cells.size = size := by rw [← h1, ← g1]; simp
          have hfold : (v.cells.zipIdx.foldl (fun cs (p : Value × Nat) => cs.setIfInBounds (off + p.2) p.1) cs).toList = splice cs.toList off v.cells.toList := by
            have := foldl_set off v.cells.toList 0 cs (by simp; omega)
            rw [Nat.add_zero] at this
            rw [← this, ← Array.foldl_toList, Array.toList_zipIdx]
          obtain ⟨cs', e1, e2, e3, e4⟩ := fill_ok hpl r vr (splice cells off x.cells) (v.cells.zipIdx.foldl (fun cs (p : Value × Nat) => cs.setIfInBounds (off + p.2) p.1) cs) out hm
            (fun k p q hp' hq => hv (k + 1) p q (by simpa using hp') (by simpa using hq))
            (by rw [← Array.length_toList, hfold, splice_length _ _ _ (by simp; omega), splice_length _ _ _ (by omega)]; simpa using hs)
            (by
              have := CellsR.splice (β := β) (H := H) (M := M) (cs := cs.toList) (l := cells) (by simpa using hs) (by simpa using hc) (vs := v.cells.toList) (xs := x.cells) g1 g2 (off := off) (by omega)
              rw [← hfold] at this
              simpa using this) h
          refine ⟨cs', ?_, e2, by rw [e3, splice_length _ _ _ (by omega)], e4⟩
          simp only [Instr.fill, hpl j _ hp]
          rw [if_neg (by simp; omega)]
          exact e1
        · cases h
      · cases h
end
end Go.JL
/- The abstract machine, eleventh part: literals of structs, minima, conversions, equality of structs. No program in sight. -/
set_option linter.unusedVariables false
set_option linter.unusedSimpArgs false
namespace Go.JL

section
variable {P : Program} {β : Place} {H : Nat → Option VO} {M : Mem}

theorem places_ok {cx : Cx} (htt : ∀ t ty, cx.tt t = some ty → TyOk P t ty) (w : World) : ∀ (fs : List Field) (pl : List (Nat × Nat)), places cx (fs.map fun f => (f.offset, f.type)) = some pl →
    (fs.mapM fun f => (do pure (f.offset, ← sizeOf f.type) : Sem (Nat × Nat))).run P w = .ok pl w
  | [], pl, h => by
    simp only [places, List.map_nil, Option.some.injEq] at h
    subst h; rfl
  | f :: r, pl, h => by
    simp only [List.map_cons, places] at h
    split at h
    · rename_i ty l h1 h2
      cases h
      have := places_ok htt w r l h2
      simp only [List.mapM_cons, Sem.run_bind, (htt _ _ h1).run_size w, Result.andThen_ok, Sem.run_pure, this]
    · cases h
theorem zB_one {v : Value} {x : CV} (h : zB v x = true) : v.oneCell' = true := by
  unfold zB at h
  split at h <;> first | rfl | cases h
theorem TyOk.run_zero {t : Nat} {ty : Ty} (h : TyOk P t ty) (w : World) : ∃ z, (zeroValue t).run P w = .ok z w ∧ z.cells.size = ty.zero.length ∧ ty.zero.length = ty.size ∧ CellsR β H M (fun i => z.cells[i]?) ty.zero ∧ (ty.d.agg = true ↔ ∃ vs, z = .agg vs) ∧ (∀ u ∈ z.cells.toList, u.oneCell' = true) := by
  obtain ⟨i, d, z, h1, h2, h3, h4, h5, h6, h7, h8, h9, _⟩ := h.facts
  have hz := zsB_ok (β := β) (H := H) (M := M) _ _ h8
  have hs : z.cells.size = ty.zero.length := by simpa using hz.1
  refine ⟨z, by simp [zeroValue, typeInfo, h1, h7], hs, h6, by simpa using hz.2, h9, ?_⟩
  intro u hu
  obtain ⟨j, hj, rfl⟩ := List.getElem_of_mem hu
  have hj' : j < ty.zero.length := by omega
  obtain ⟨u, g1, g2⟩ := hz.2 j ty.zero[j] (List.getElem?_eq_getElem hj')
  have g1 : z.cells.toList[j]? = some u := g1
  rw [List.getElem?_eq_getElem hj] at g1
  injection g1 with g1
  rw [g1]
  have hzb : zB u ty.zero[j] = true := by
    have : ∀ (l : List Value) (xs : List CV), zsB l xs = true → ∀ (j : Nat) (hj : j < l.length) (hx : j < xs.length), zB l[j] xs[j] = true := by
      intro l
      induction l with
      | nil => intro xs _ j hj; simp at hj
      | cons v r ih =>
        intro xs h j hj hx
        cases xs with
        | nil => simp at hx
        | cons x s =>
          simp only [zsB, Bool.and_eq_true] at h
          cases j with
          | zero => exact h.1
          | succ j => exact ih s h.2 j (by simpa using hj) (by simpa using hx)
    have := this _ _ h8 j hj hj'
    rwa [g1] at this
  exact zB_one hzb

/-- the parts of a literal, as values -/
theorem parts_ok {B : Base} {T : Nat → LV} {a : Act} {w : World} (hs : Sim B β M T H a w) (parts : Array (Nat × Operand)) :
    ((parts.map fun p => (p.1, a.eval p.2)).toList.map (·.1) = (parts.toList.map fun p => (p.1, evalO T p.2)).map (·.1)) ∧
    ∀ (i : Nat) (p : Nat × LV) (q : Nat × Value), (parts.toList.map fun p => (p.1, evalO T p.2))[i]? = some p → (parts.map fun p => (p.1, a.eval p.2)).toList[i]? = some q → LVR β H M q.2 p.2 := by
  constructor
  · simp [List.map_map, Function.comp_def]
  · intro i p q hp hq
    simp only [Array.toList_map, List.getElem?_map] at hp hq
    cases h : parts.toList[i]? with
    | none => rw [h] at hp; cases hp
    | some x =>
      rw [h] at hp hq
      simp only [Option.map_some, Option.some.injEq] at hp hq
      subst hp; subst hq
      exact evalO_ok hs x.2

theorem vbuild_ok {cx : Cx} (htt : ∀ t ty, cx.tt t = some ty → TyOk P t ty) {t : Nat} {ty : Ty} (hty : TyOk P t ty) {parts : List (Nat × LV)} {vparts : Array (Nat × Value)} (hm : vparts.toList.map (·.1) = parts.map (·.1))
    (hv : ∀ (i : Nat) (p : Nat × LV) (q : Nat × Value), parts[i]? = some p → vparts.toList[i]? = some q → LVR β H M q.2 p.2) (w : World)
    {α : Type} {K : LV → Option α} {r : α} (h : vbuild cx ty parts K = some r) : Read1 P β H M w (fun γ K => vbuild cx ty parts K) (Instr.build t vparts) := by
  obtain ⟨z, z1, z2, z3, z4, z5, _⟩ := hty.run_zero (β := β) (H := H) (M := M) w
  unfold vbuild at h
  split at h
  · rename_i gs hd
    split at h
    · rename_i pl hpl
      split at h
      · rename_i cells hf
        obtain ⟨fs, h1, h2, h3⟩ := hty.under_struct hd
        obtain ⟨cs', e1, e2, e3, e4⟩ := fill_ok (place := fun (i : Nat) => pl[i]?) (fun i p hp => hp) parts vparts.toList ty.zero z.cells cells hm hv z2 z4 hf
        refine ⟨.agg cells, .agg cs', fun γ K => by simp only [vbuild, hd, hpl, hf], ⟨cs', rfl, e2, e4⟩, ?_⟩
        have hpl' := places_ok htt w fs.toList pl (by rw [h2]; exact hpl)
        have harr : (fs.mapM fun f => (do pure (f.offset, ← sizeOf f.type) : Sem (Nat × Nat))).run P w = .ok pl.toArray w := by
          rw [Array.mapM_eq_mapM_toList, Sem.run_map, hpl']
          rfl
        simp only [Instr.build, Sem.run_bind, z1, Result.andThen_ok, run_underlying h1, harr]
        have : (fun (i : Nat) => pl.toArray[i]?) = fun (i : Nat) => pl[i]? := by funext i; simp
        simp only [this, e1, Sem.run_pure]
      · cases h
    · cases h
  · rename_i n e hd
    split at h
    · rename_i te hte
      split at h
      · rename_i cells hf
        have h1 := hty.under_array hd
        obtain ⟨cs', e1, e2, e3, e4⟩ := fill_ok (place := fun i => some (i * te.size, te.size)) (pl := rowPlaces te.size n) (fun i p hp => by
          simp only [rowPlaces, List.getElem?_map] at hp
          cases hi : (List.range n)[i]? with
          | none => rw [hi] at hp; cases hp
          | some j =>
            rw [hi] at hp
            have : j = i := by
              have := List.getElem?_eq_some_iff.1 hi
              obtain ⟨_, h⟩ := this
              simpa using h.symm
            subst this
            simpa using hp) parts vparts.toList ty.zero z.cells cells hm hv z2 z4 hf
        refine ⟨.agg cells, .agg cs', fun γ K => by simp only [vbuild, hd, hte, hf], ⟨cs', rfl, e2, e4⟩, ?_⟩
        simp only [Instr.build, Sem.run_bind, z1, Result.andThen_ok, run_underlying h1, (htt e te hte).run_size w, e1, Sem.run_pure]
      · cases h
    · cases h
  · cases h

theorem vmin_ok {α : Type} {K : LV → Option α} {r : α} {mx : Bool} {xs : List LV} {vs : Array Value} (h : vmin mx xs K = some r) (hl : vs.size = xs.length) (hv : ∀ (i : Nat) (x : LV) (v : Value), xs[i]? = some x → vs[i]? = some v → LVR β H M v x) (ts : Array TypeId) (t : TypeId) :
    Pure1 P β H M (fun γ K => vmin mx xs K) (if mx then Builtin.max_ ts t vs else Builtin.min_ ts t vs) := by
  unfold vmin at h
  split at h
  · rename_i k a k' b
    obtain ⟨l⟩ := vs
    match l, hl with
    | [v, u], _ =>
      have h1 := linv_int (hv 0 _ _ rfl rfl)
      have h2 := linv_int (hv 1 _ _ rfl rfl)
      subst h1; subst h2
      refine ⟨_, _, fun γ K => by simp only [vmin]; rfl, lmk_int k _, fun w => ?_⟩
      cases mx <;> simp [Builtin.max_, Builtin.min_, Builtin.max2, Builtin.min2]
  · rename_i k a k' b k'' c
    obtain ⟨l⟩ := vs
    match l, hl with
    | [v, u, z], _ =>
      have h1 := linv_int (hv 0 _ _ rfl rfl)
      have h2 := linv_int (hv 1 _ _ rfl rfl)
      have h3 := linv_int (hv 2 _ _ rfl rfl)
      subst h1; subst h2; subst h3
      refine ⟨_, _, fun γ K => by simp only [vmin]; rfl, lmk_int k _, fun w => ?_⟩
      cases mx <;> simp [Builtin.max_, Builtin.min_, Builtin.max2, Builtin.min2]
  · cases h
end
end Go.JL
/- The abstract machine, twelfth part: writes, and what is told as data. No program in sight. -/
set_option linter.unusedVariables false
set_option linter.unusedSimpArgs false
namespace Go.JL

/-! ### Keys -/
theorem upd_same {γ : Type} (f : Nat → γ) (k : Nat) (x : γ) : upd f k x k = x := by simp [upd]
theorem upd_ne {γ : Type} (f : Nat → γ) {k j : Nat} (x : γ) (h : j ≠ k) : upd f k x j = f j := by
  show cond (j == k) x (f j) = f j
  rw [beq_eq_false_iff_ne.2 h]; rfl
theorem updH_not {k : Nat} : ∀ (ups : List (Nat × VO)) (H : Nat → Option VO), (∀ o, (k, o) ∉ ups) → updH H ups k = H k
  | [], _, _ => rfl
  | (j, o) :: r, H, h => by
    show updH (upd H j (some o)) r k = H k
    rw [updH_not r _ (fun o' h' => h o' (List.mem_cons_of_mem _ h'))]
    exact upd_ne _ _ (fun e => h o (by subst e; exact List.mem_cons_self))
theorem updH_cases {k : Nat} {vo : VO} : ∀ (ups : List (Nat × VO)) (H : Nat → Option VO), updH H ups k = some vo → (k, vo) ∈ ups ∨ H k = some vo
  | [], _, h => .inr h
  | (j, o) :: r, H, h => by
    have h : updH (upd H j (some o)) r k = some vo := h
    rcases updH_cases r _ h with h | h
    · exact .inl (List.mem_cons_of_mem _ h)
    · by_cases e : k = j
      · subst e
        rw [upd_same] at h
        cases h
        exact .inl List.mem_cons_self
      · rw [upd_ne _ _ e] at h
        exact .inr h
theorem updH_one (H : Nat → Option VO) (k : Nat) (o : VO) : updH H [(k, o)] = upd H k (some o) := rfl

section
variable {P : Program} {β : Place} {M : Mem} {B : Base} {T : Nat → LV} {H : Nat → Option VO} {a : Act} {w : World}

theorem Sim.drew (h : Sim B β M T H a w) : Sim B β M T H a w.drew :=
  { size := h.size, defs := h.defs, tm := h.tm, inj := h.inj, mem := h.mem, own := h.own, ins := h.ins, le := h.le, new := h.new
    hp := fun k vo hk => (h.hp k vo hk).keep (Keeps.refl _ _) (Mem.le.refl _) rfl (fun _ _ _ => rfl) (fun b n hb hf => by obtain ⟨cs, e, _, _, h4⟩ := (h.hp k vo hk).block hb; exact h4 hf)
    ext := ⟨h.ext.os, h.ext.tape, h.ext.output, h.ext.size, h.ext.block⟩ }

theorem setRow_size (w : World) (g : Nat) (cs : Array Value) : (w.setRow g cs).heap.size = w.heap.size := by simp [World.setRow]

/-- A write into the block of an object. -/
theorem Sim.write (h : Sim B β M T H a w) {k b n : Nat} {vo vo' : VO} {cs' : Array Value} (hk : H k = some vo) (hb : β k = some (b, n)) (hav : ∀ a : Addr, a.block = b → M a = none)
    (hver : vo.v ≤ vo'.v) (hsame : vo'.v = vo.v → sameOb vo.ob vo'.ob) (hob : ObR β (upd H k (some vo')) M (w.setRow b cs') k vo') : Sim B β M T (upd H k (some vo')) a (w.setRow b cs') := by
  have hkeeps : Keeps β β H (upd H k (some vo')) := by
    intro j vj hj
    by_cases e : j = k
    · subst e
      rw [hk] at hj; cases hj
      exact ⟨vo', upd_same _ _ _, hver, fun e => ⟨rfl, hsame e⟩⟩
    · exact ⟨vj, by rw [upd_ne _ _ e]; exact hj, Nat.le_refl _, fun _ => ⟨rfl, sameOb.refl _⟩⟩
  have hlive : ∀ j vj, upd H k (some vo') j = some vj → ∃ vj', H j = some vj' := by
    intro j vj hj
    by_cases e : j = k
    · subst e; exact ⟨vo, hk⟩
    · rw [upd_ne _ _ e] at hj; exact ⟨vj, hj⟩
  refine h.step hkeeps (Mem.le.refl _) ?_ ?_ ?_ ?_ ?_ (fun _ _ h => .inl h) ?_
  · intro j vj hj
    by_cases e : j = k
    · subst e
      rw [upd_same] at hj; cases hj
      exact hob
    · rw [upd_ne _ _ e] at hj
      refine (h.hp j vj hj).keep hkeeps (Mem.le.refl _) rfl (fun b' n' hb' => ?_) (fun b' n' hb' hf => by obtain ⟨cs, e, _, _, h4⟩ := (h.hp j vj hj).block hb'; exact h4 hf)
      exact setRow_other w b b' _ (h.inj j k vj vo b' n' b n hj hk hb' hb e)
  · intro j j' vj vj' b1 n1 b2 n2 hj hj' h1 h2 hne
    obtain ⟨u, hu⟩ := hlive j vj hj
    obtain ⟨u', hu'⟩ := hlive j' vj' hj'
    exact h.inj j j' u u' b1 n1 b2 n2 hu hu' h1 h2 hne
  · intro x v hx
    have hne : x.block ≠ b := fun e => by rw [hav x e] at hx; cases hx
    rw [World.cell?_of_block (w := w) (setRow_other w b x.block _ hne)]
    exact h.mem x v hx
  · intro j vj b' n' hj hb'
    obtain ⟨u, hu⟩ := hlive j vj hj
    exact h.own j u b' n' hu hb'
  · intro j b' vj hio hj
    obtain ⟨u, hu⟩ := hlive j vj hj
    exact h.ins j b' u hio hu
  · refine ⟨h.ext.os, h.ext.tape, h.ext.output, by rw [setRow_size]; exact h.ext.size, fun j hj hn => ?_⟩
    rw [setRow_other w b j _ ?_]
    · exact h.ext.block j hj hn
    · intro e
      subst e
      rcases h.own k vo j n hk hb with h' | h'
      · omega
      · exact hn k h'

/-! ### Told as data -/
/-- What row k holds is known for good. -/
def Cov (β : Place) (H : Nat → Option VO) (M : Mem) (w : World) (k : Nat) : Prop :=
  ∀ v c l fz b n, H k = some ⟨v, .row c l, fz⟩ → β k = some (b, n) → ∀ (j : Nat) (x : Value), j < List.length l * c.size → w.cell? (adr b j) = some x → M (adr b j) = some x
theorem Cov.mono {M M' : Mem} {k : Nat} (h : Cov β H M w k) (hM : M.le M') : Cov β H M' w k :=
  fun v c l fz b n h1 h2 j x h3 h4 => hM _ _ (h v c l fz b n h1 h2 j x h3 h4)

theorem castE_some {c c' : TC} {x : El c} {y : El c'} (h : castE c c' x = some y) : ∃ e : c = c', e ▸ x = y := by
  unfold castE at h
  split at h
  · rename_i e; exact ⟨e, by injection h⟩
  · cases h

theorem row_CR (hs : Sim B β M T H a w) {M' : Mem} (hM : M.le M') {k ver : Nat} {c : TC} {l : List (El c)} {fz : Bool} (hH : H k = some ⟨ver, .row c l, fz⟩) (hc : Cov β H M' w k) {v : Value} {wn : Win} (hr : RowV β k c.size l.length v wn) :
    CR M' (.list c) (wn.on l) (fun o => if o = 0 then some v else none) := by
  have elem : ∀ b n, β k = some (b, n) → ∀ (i : Nat) (x : El c), l[i]? = some x → CR M' c x (fun o => M' (adr b (i * c.size + o))) := by
    intro b n hb i x hx
    obtain ⟨h0, h1⟩ := hs.hp k _ hH
    simp only [hb] at h1
    obtain ⟨cs, e, g1, g2, g3, g4, _, _⟩ := h1
    refine CR.mono hM c x _ _ (fun o u ho hu => ?_) (g4 i x hx)
    have hi : i < l.length := (List.getElem?_eq_some_iff.1 hx).1
    refine hc ver c l fz b n hH hb _ u ?_ (by rw [cell_adr g1]; exact hu)
    have : i * c.size + c.size ≤ l.length * c.size := by rw [← Nat.succ_mul]; exact Nat.mul_le_mul_right _ hi
    show i * c.size + o < List.length l * c.size
    omega
  cases wn with
  | full =>
    simp only [RowV] at hr
    split at hr
    · rename_i b n hb
      obtain ⟨cap, rfl, q1, q2⟩ := hr
      exact ⟨some ⟨b, 0, none⟩, cap, rfl, q1, fun i x hx => ⟨_, rfl, elem b n hb i x hx⟩⟩
    · obtain ⟨rfl, q⟩ := hr
      have : l = [] := List.eq_nil_of_length_eq_zero q
      subst this
      exact ⟨none, 0, rfl, Nat.le_refl _, fun i x hx => by simp [Win.on] at hx⟩
  | pre m =>
    simp only [RowV] at hr
    obtain ⟨hm, hr⟩ := hr
    have hl : (l.take m).length = m := by rw [List.length_take]; omega
    split at hr
    · rename_i b n hb
      obtain ⟨cap, rfl, q1, q2⟩ := hr
      refine ⟨some ⟨b, 0, none⟩, cap, by show some (Value.slice _ _ _) = some (Value.slice _ _ _); rw [show (Win.pre m).on l = l.take m from rfl, hl], by rw [show (Win.pre m).on l = l.take m from rfl, hl]; exact q1, fun i x hx => ⟨_, rfl, elem b n hb i x ?_⟩⟩
      have hx : (l.take m)[i]? = some x := hx
      rw [List.getElem?_take] at hx
      split at hx
      · exact hx
      · cases hx
    · obtain ⟨rfl, q⟩ := hr
      have h0 : l = [] := List.eq_nil_of_length_eq_zero q
      subst h0
      exact ⟨none, 0, by simp [Win.on], by simp [Win.on], fun i x hx => by simp [Win.on] at hx⟩
  | sub o m =>
    simp only [RowV] at hr
    obtain ⟨hm, A, cap, rfl, q1, q2⟩ := hr
    have hl : ((l.drop o).take m).length = m := by rw [List.length_take, List.length_drop]; omega
    refine ⟨A, cap, by show some (Value.slice _ _ _) = some (Value.slice _ _ _); rw [show (Win.sub o m).on l = (l.drop o).take m from rfl, hl], by rw [show (Win.sub o m).on l = (l.drop o).take m from rfl, hl]; exact q1, fun i x hx => ?_⟩
    have hx : ((l.drop o).take m)[i]? = some x := hx
    rw [List.getElem?_take, List.getElem?_drop] at hx
    split at hx
    · rename_i him
      obtain ⟨b, n, hb, rfl⟩ := q2 (by omega)
      refine ⟨_, rfl, ?_⟩
      refine CR.mono (Mem.le.refl _) c x _ _ (fun p u _ hu => ?_) (elem b n hb _ x hx)
      rw [adr_add, ← Nat.add_assoc, ← Nat.add_mul]; exact hu
    · cases hx

theorem toEl_ok (hs : Sim B β M T H a w) {M' : Mem} (hM : M.le M') {c : TC} {cv : CV} {x : El c} (h : toEl H c cv = some x) {v : Value} (hv : CVR β H M v cv) (hc : ∀ k ∈ ownKeys [cv], k < 1000000 → Cov β H M' w k) :
    CR M' c x (fun o => if o = 0 then some v else none) := by
  unfold toEl at h
  split at h
  · rename_i c' y
    obtain ⟨rfl, rfl⟩ := castE_some h
    exact CR.mono hM _ _ _ _ (fun _ _ _ h => h) hv.2
  · split at h
    · have hv : v = .slice none 0 0 := hv
      subst hv
      cases h
      exact ⟨none, 0, rfl, Nat.le_refl _, fun i x hx => by simp at hx⟩
    · cases h
  · rename_i k ver wn
    split at h
    · rename_i v' c' l fz hH
      simp only [Bool.cond_eq_ite, Bool.and_eq_true, beq_iff_eq] at h
      split at h
      · rename_i hvv
        obtain ⟨hvv, hlt⟩ := hvv
        subst hvv
        obtain ⟨rfl, rfl⟩ := castE_some h
        exact row_CR hs hM hH (hc k (by simp [ownKeys]) (by simpa [Nat.blt_eq] using hlt)) (hv.2.2 _ l fz hH)
      · cases h
    · cases h
  · cases h

theorem ownKeys_append : ∀ (l r : List CV), ownKeys (l ++ r) = ownKeys l ++ ownKeys r
  | [], r => rfl
  | x :: l, r => by
    have := ownKeys_append l r
    cases x <;> simp [ownKeys, this]
theorem ownKeys_cons_mem {k : Nat} {x : CV} {l : List CV} (h : k ∈ ownKeys [x] ∨ k ∈ ownKeys l) : k ∈ ownKeys (x :: l) := by
  have := ownKeys_append [x] l
  simp only [List.cons_append, List.nil_append] at this
  rw [this]
  exact List.mem_append.2 h

theorem build_ok (hs : Sim B β M T H a w) {M' : Mem} (hM : M.le M') : ∀ (c : TC) (l : List CV) (x : El c) (rest : List CV), build H c l = some (x, rest) → ∀ rd : Nat → Option Value, CellsR β H M rd l → (∀ k ∈ ownKeys l, k < 1000000 → Cov β H M' w k) →
    CR M' c x rd ∧ rest = l.drop c.size ∧ c.size ≤ l.length := by
  have one : ∀ (c : TC) (v : CV) (r : List CV) (x : El c), toEl H c v = some x → ∀ rd : Nat → Option Value, CellsR β H M rd (v :: r) → (∀ k ∈ ownKeys (v :: r), k < 1000000 → Cov β H M' w k) → (∀ u, rd 0 = some u → CR M' c x (fun o => if o = 0 then some u else none) → CR M' c x rd) → CR M' c x rd := by
    intro c v r x h rd hr hc hfin
    obtain ⟨u, h1, h2⟩ := hr 0 v rfl
    exact hfin u h1 (toEl_ok hs hM h h2 fun k hk => hc k (ownKeys_cons_mem (.inl hk)))
  have fin : ∀ (c : TC), c.isAgg = false → ∀ (x : El c) (rd : Nat → Option Value) (u : Value), rd 0 = some u → CR M' c x (fun o => if o = 0 then some u else none) → CR M' c x rd := by
    intro c hc x rd u hu h
    refine CR.mono (Mem.le.refl _) c x _ _ (fun o v ho hv => ?_) h
    split at hv
    · rename_i h0; subst h0; rw [hu]; exact hv
    · cases hv
  intro c
  induction c with
  | pair p q ihp ihq =>
    intro l x rest h rd hr hc
    simp only [build] at h
    split at h
    · rename_i y r hy
      split at h
      · rename_i z r' hz
        cases h
        obtain ⟨g1, g2, g3⟩ := ihp l y r hy rd hr hc
        subst g2
        obtain ⟨e1, e2, e3⟩ := ihq _ z _ hz _ (hr.drop p.size) (fun k hk => hc k (by
          have := ownKeys_append (l.take p.size) (l.drop p.size)
          rw [List.take_append_drop] at this
          rw [this]; exact List.mem_append.2 (.inr hk)))
        rw [List.length_drop] at e3
        exact ⟨⟨g1, e1⟩, by rw [e2, List.drop_drop]; rfl, by simp only [TC.size]; omega⟩
      · cases h
    · cases h
  | one p ih => intro l x rest h rd hr hc; exact ih l x rest h rd hr hc
  | unit => intro l x rest h rd hr hc; simp only [build, Option.some.injEq, Prod.mk.injEq] at h; exact ⟨trivial, by rw [← h.2]; rfl, Nat.zero_le _⟩
  | bool =>
    intro l x rest h rd hr hc
    cases l with
    | nil => simp [build] at h
    | cons v r =>
      simp only [build] at h
      split at h
      · rename_i y hy; cases h; exact ⟨one _ v _ _ hy rd hr hc (fin _ rfl _ rd), rfl, by simp [TC.size]⟩
      · cases h
  | int k =>
    intro l x rest h rd hr hc
    cases l with
    | nil => simp [build] at h
    | cons v r =>
      simp only [build] at h
      split at h
      · rename_i y hy; cases h; exact ⟨one _ v _ _ hy rd hr hc (fin _ rfl _ rd), rfl, by simp [TC.size]⟩
      · cases h
  | str =>
    intro l x rest h rd hr hc
    cases l with
    | nil => simp [build] at h
    | cons v r =>
      simp only [build] at h
      split at h
      · rename_i y hy; cases h; exact ⟨one _ v _ _ hy rd hr hc (fin _ rfl _ rd), rfl, by simp [TC.size]⟩
      · cases h
  | list c _ =>
    intro l x rest h rd hr hc
    cases l with
    | nil => simp [build] at h
    | cons v r =>
      simp only [build] at h
      split at h
      · rename_i y hy; cases h; exact ⟨one _ v _ _ hy rd hr hc (fin _ rfl _ rd), rfl, by simp [TC.size]⟩
      · cases h
  | fn c _ =>
    intro l x rest h rd hr hc
    cases l with
    | nil => simp [build] at h
    | cons v r =>
      simp only [build] at h
      split at h
      · rename_i y hy; cases h; exact ⟨one _ v _ _ hy rd hr hc (fin _ rfl _ rd), rfl, by simp [TC.size]⟩
      · cases h
theorem buildAll_ok (hs : Sim B β M T H a w) {M' : Mem} (hM : M.le M') {c : TC} {l : List CV} {x : El c} (h : buildAll H c l = some x) {rd : Nat → Option Value} (hr : CellsR β H M rd l) (hc : ∀ k ∈ ownKeys l, k < 1000000 → Cov β H M' w k) :
    CR M' c x rd ∧ l.length = c.size := by
  unfold buildAll at h
  split at h
  · rename_i y hy
    cases h
    obtain ⟨h1, h2, h3⟩ := build_ok hs hM c l _ [] hy rd hr hc
    refine ⟨h1, ?_⟩
    have := congrArg List.length h2
    rw [List.length_drop] at this
    simp at this
    omega
  · cases h
end
end Go.JL
/- The abstract machine, thirteenth part: rows that are never written again, and new objects. No program in sight. -/
set_option linter.unusedVariables false
set_option linter.unusedSimpArgs false
namespace Go.JL

section
variable {P : Program} {β : Place} {M : Mem} {B : Base} {T : Nat → LV} {H : Nat → Option VO} {a : Act} {w : World}

/-! ### A row is frozen -/
theorem Keeps.upd_row {β : Place} {H : Nat → Option VO} {k v : Nat} {c : TC} {l : List (El c)} {fz fz' : Bool} (hk : H k = some ⟨v, .row c l, fz⟩) : Keeps β β H (upd H k (some ⟨v, .row c l, fz'⟩)) := by
  intro j vj hj
  by_cases e : j = k
  · subst e
    rw [hk] at hj; cases hj
    exact ⟨_, upd_same _ _ _, Nat.le_refl _, fun _ => ⟨rfl, rfl, rfl⟩⟩
  · exact ⟨vj, by rw [upd_ne _ _ e]; exact hj, Nat.le_refl _, fun _ => ⟨rfl, sameOb.refl _⟩⟩
open Classical in
theorem Sim.freeze1 (h : Sim B β M T H a w) {k v : Nat} {c : TC} {l : List (El c)} {fz : Bool} (hk : H k = some ⟨v, .row c l, fz⟩) (hlt : k < 1000000) :
    ∃ M', Sim B β M' T (upd H k (some ⟨v, .row c l, true⟩)) a w ∧ M.le M' ∧ Cov β H M' w k := by
  have hkeeps : Keeps β β H (upd H k (some ⟨v, .row c l, true⟩)) := Keeps.upd_row hk
  have hlive : ∀ j vj, upd H k (some ⟨v, .row c l, true⟩) j = some vj → ∃ vj', H j = some vj' := by
    intro j vj hj
    by_cases e : j = k
    · subst e; exact ⟨_, hk⟩
    · rw [upd_ne _ _ e] at hj; exact ⟨vj, hj⟩
  have hob := h.hp k _ hk
  cases hb : β k with
  | none =>
    obtain ⟨h0, h1⟩ := hob
    simp only [hb] at h1
    subst h1
    refine ⟨M, h.step hkeeps (Mem.le.refl _) ?_ ?_ h.mem ?_ ?_ (fun _ _ h => .inl h) h.ext, Mem.le.refl _, ?_⟩
    · intro j vj hj
      by_cases e : j = k
      · subst e
        rw [upd_same] at hj; cases hj
        exact ⟨h0, by simp only [hb]⟩
      · rw [upd_ne _ _ e] at hj
        exact (h.hp j vj hj).keep hkeeps (Mem.le.refl _) rfl (fun _ _ _ => rfl) (fun b' n' hb' hf => by obtain ⟨cs, e, _, _, h4⟩ := (h.hp j vj hj).block hb'; exact h4 hf)
    · intro j j' vj vj' b1 n1 b2 n2 hj hj' h1 h2 hne
      obtain ⟨u, hu⟩ := hlive j vj hj
      obtain ⟨u', hu'⟩ := hlive j' vj' hj'
      exact h.inj j j' u u' b1 n1 b2 n2 hu hu' h1 h2 hne
    · intro j vj b' n' hj hb'
      obtain ⟨u, hu⟩ := hlive j vj hj
      exact h.own j u b' n' hu hb'
    · intro j b' vj hio hj
      obtain ⟨u, hu⟩ := hlive j vj hj
      exact h.ins j b' u hio hu
    · intro v' c' l' fz' b n h1 h2
      rw [hb] at h2; cases h2
  | some p =>
    obtain ⟨b, n⟩ := p
    obtain ⟨h0, h1⟩ := hob
    simp only [hb] at h1
    obtain ⟨cs, e, g1, g2, g3, g4, g5, g6⟩ := h1
    let M' : Mem := fun x => if x.block = b ∧ (∃ j, j < List.length l * c.size ∧ x = adr b j) then w.cell? x else M x
    have hin : ∀ j, j < List.length l * c.size → M' (adr b j) = w.cell? (adr b j) := fun j hj => if_pos ⟨adr_block b j, j, hj, rfl⟩
    have hout : ∀ x : Addr, x.block ≠ b → M' x = M x := fun x hx => if_neg fun h => hx h.1
    have hM : M.le M' := by
      intro x u hx
      show (if _ then _ else _) = _
      split
      · exact h.mem x u hx
      · exact hx
    refine ⟨M', h.step hkeeps hM ?_ ?_ ?_ ?_ ?_ ?_ h.ext, hM, ?_⟩
    · intro j vj hj
      by_cases e' : j = k
      · subst e'
        rw [upd_same] at hj; cases hj
        refine ⟨h0, ?_⟩
        simp only [hb]
        refine ⟨cs, e, g1, g2, g3, fun i x hx => CR.mono hM c x _ _ (fun _ _ _ h => h) (g4 i x hx), fun hf => by simp at hf, fun _ i u hi hu => ?_⟩
        rw [hin i hi, cell_adr g1]; exact hu
      · rw [upd_ne _ _ e'] at hj
        refine (h.hp j vj hj).keep hkeeps hM rfl (fun _ _ _ => rfl) (fun b' n' hb' hf x hx => ?_)
        rw [hout x (by rw [hx]; exact h.inj j k vj _ b' n' b n hj hk hb' hb e')]
        obtain ⟨cs, e, _, _, h4⟩ := (h.hp j vj hj).block hb'
        exact h4 hf x hx
    · intro j j' vj vj' b1 n1 b2 n2 hj hj' h1 h2 hne
      obtain ⟨u, hu⟩ := hlive j vj hj
      obtain ⟨u', hu'⟩ := hlive j' vj' hj'
      exact h.inj j j' u u' b1 n1 b2 n2 hu hu' h1 h2 hne
    · intro x u hx
      have hx : (if _ then _ else _) = _ := hx
      split at hx
      · exact hx
      · exact h.mem x u hx
    · intro j vj b' n' hj hb'
      obtain ⟨u, hu⟩ := hlive j vj hj
      exact h.own j u b' n' hu hb'
    · intro j b' vj hio hj
      obtain ⟨u, hu⟩ := hlive j vj hj
      exact h.ins j b' u hio hu
    · intro x u hx
      have hx : (if _ then _ else _) = _ := hx
      split at hx
      · rename_i hc
        rw [hc.1]
        rcases h.own k _ b n hk hb with h' | h'
        · exact .inr h'
        · have := B.far k b h'; omega
      · exact .inl hx
    · intro v' c' l' fz' b' n' h1 h2 j x hj hx
      rw [hk] at h1; cases h1
      rw [hb] at h2; cases h2
      rw [hin j hj]; exact hx

theorem freeze_upd {k v : Nat} {c : TC} {l : List (El c)} {fz fz' : Bool} (hk : H k = some ⟨v, .row c l, fz⟩) : ∀ ks : List Nat, freeze (upd H k (some ⟨v, .row c l, fz'⟩)) ks = freeze H ks
  | [] => rfl
  | j :: r => by
    have ih := freeze_upd (fz' := fz') hk r
    by_cases e : j = k
    · subst e
      simp only [freeze, upd_same, hk, ih]
    · simp only [freeze, upd_ne _ _ e, ih]
theorem Cov.upd {M' : Mem} {k j v : Nat} {c : TC} {l : List (El c)} {fz fz' : Bool} (hk : H k = some ⟨v, .row c l, fz⟩) (h : Cov β (upd H k (some ⟨v, .row c l, fz'⟩)) M' w j) : Cov β H M' w j := by
  intro v' c' l' f' b n h1 h2
  by_cases e : j = k
  · subst e
    rw [hk] at h1; cases h1
    exact h v c l fz' b n (upd_same _ _ _) h2
  · exact h v' c' l' f' b n (by rw [upd_ne _ _ e]; exact h1) h2
theorem Sim.freezes : ∀ (ks : List Nat) {M : Mem} {H : Nat → Option VO}, Sim B β M T H a w → ∃ M', Sim B β M' T (updH H (freeze H ks)) a w ∧ M.le M' ∧ ∀ k ∈ ks, k < 1000000 → Cov β H M' w k
  | [], M, H, h => ⟨M, h, Mem.le.refl _, fun k hk => by simp at hk⟩
  | k :: r, M, H, h => by
    have skip : freeze H (k :: r) = freeze H r → (k < 1000000 → ∀ M', Cov β H M' w k) → ∃ M', Sim B β M' T (updH H (freeze H (k :: r))) a w ∧ M.le M' ∧ ∀ j ∈ k :: r, j < 1000000 → Cov β H M' w j := by
      intro e hc
      obtain ⟨M', h1, h2, h3⟩ := Sim.freezes r h
      refine ⟨M', by rw [e]; exact h1, h2, fun j hj hl => ?_⟩
      rcases List.mem_cons.1 hj with rfl | hj
      · exact hc hl M'
      · exact h3 j hj hl
    cases hk : H k with
    | none => exact skip (by simp [JL.freeze, hk]) (fun _ M' v c l fz b n h1 => by rw [hk] at h1; cases h1)
    | some vo =>
      obtain ⟨v, ob, fz⟩ := vo
      cases ob with
      | cells l => exact skip (by simp [JL.freeze, hk]) (fun _ M' v c l fz b n h1 => by rw [hk] at h1; cases h1)
      | row c l =>
        cases hb : Nat.blt k 1000000 with
        | false =>
          refine skip (by simp [JL.freeze, hk, hb]) (fun hlt => ?_)
          have : Nat.blt k 1000000 = true := by simpa [Nat.blt_eq] using hlt
          rw [hb] at this; cases this
        | true =>
          have hlt : k < 1000000 := by simpa [Nat.blt_eq] using hb
          obtain ⟨M1, h1, h2, h3⟩ := h.freeze1 hk hlt
          obtain ⟨M', g1, g2, g3⟩ := Sim.freezes r h1
          rw [freeze_upd hk] at g1
          refine ⟨M', by simpa [JL.freeze, hk, hb, updH] using g1, h2.trans g2, fun j hj hl => ?_⟩
          rcases List.mem_cons.1 hj with rfl | hj
          · exact h3.mono g2
          · exact (g3 j hj hl).upd hk

/-! ### New objects -/
theorem Keeps.new {k : Nat} {p : Option (Nat × Nat)} {o : VO} (hk : H k = none) : Keeps β (upd β k p) H (upd H k (some o)) := by
  intro j vj hj
  have e : j ≠ k := fun e => by subst e; rw [hk] at hj; cases hj
  exact ⟨vj, by rw [upd_ne _ _ e]; exact hj, Nat.le_refl _, fun _ => ⟨upd_ne _ _ e, sameOb.refl _⟩⟩
theorem Keeps.newer {k : Nat} {p : Option (Nat × Nat)} {o o' : VO} (hk : H k = some o) (hv : o.v < o'.v) : Keeps β (upd β k p) H (upd H k (some o')) := by
  intro j vj hj
  by_cases e : j = k
  · subst e
    rw [hk] at hj; cases hj
    exact ⟨_, upd_same _ _ _, Nat.le_of_lt hv, fun e => by omega⟩
  · exact ⟨vj, by rw [upd_ne _ _ e]; exact hj, Nat.le_refl _, fun _ => ⟨upd_ne _ _ e, sameOb.refl _⟩⟩
theorem Sim.virt' (h : Sim B β M T H a w) {k v : Nat} {c : TC} (hlt : k < 1000000) (hc : 0 < c.size) (hkeeps : Keeps β (upd β k none) H (upd H k (some ⟨v, .row c [], false⟩))) : Sim B (upd β k none) M T (upd H k (some ⟨v, .row c [], false⟩)) a w := by
  refine h.step hkeeps (Mem.le.refl _) ?_ ?_ h.mem ?_ ?_ (fun _ _ h => .inl h) h.ext
  · intro j vj hj
    by_cases e : j = k
    · subst e
      rw [upd_same] at hj; cases hj
      exact ⟨hc, by simp only [upd_same]⟩
    · rw [upd_ne _ _ e] at hj
      exact (h.hp j vj hj).keep hkeeps (Mem.le.refl _) (upd_ne _ _ e) (fun _ _ _ => rfl) (fun b' n' hb' hf => by obtain ⟨cs, e, _, _, h4⟩ := (h.hp j vj hj).block hb'; exact h4 hf)
  · intro j j' vj vj' b1 n1 b2 n2 hj hj' h1 h2 hne
    by_cases e : j = k
    · subst e; rw [upd_same] at h1; cases h1
    · by_cases e' : j' = k
      · subst e'; rw [upd_same] at h2; cases h2
      · rw [upd_ne _ _ e] at hj h1
        rw [upd_ne _ _ e'] at hj' h2
        exact h.inj j j' vj vj' b1 n1 b2 n2 hj hj' h1 h2 hne
  · intro j vj b' n' hj hb'
    by_cases e : j = k
    · subst e; rw [upd_same] at hb'; cases hb'
    · rw [upd_ne _ _ e] at hj hb'
      exact h.own j vj b' n' hj hb'
  · intro j b' vj hio hj
    have e : j ≠ k := fun e => by have := B.far j b' hio; omega
    rw [upd_ne _ _ e] at hj ⊢
    exact h.ins j b' vj hio hj
theorem Sim.virt (h : Sim B β M T H a w) {k : Nat} {c : TC} (hk : H k = none) (hlt : k < 1000000) (hc : 0 < c.size) : Sim B (upd β k none) M T (upd H k (some ⟨0, .row c [], false⟩)) a w :=
  h.virt' hlt hc (Keeps.new hk)
theorem Sim.memlt (h : Sim B β M T H a w) {x : Addr} {v : Value} (hx : M x = some v) : x.block < w.heap.size := block_lt_of_cell (h.mem x v hx)
theorem Sim.newB' (h : Sim B β M T H a w) {k : Nat} {cs : Array Value} {e : TypeId} {vo : VO} (hlt : k < 1000000) (hkeeps : Keeps β (upd β k (some (w.heap.size, cs.size))) H (upd H k (some vo)))
    (hob : ObR (upd β k (some (w.heap.size, cs.size))) (upd H k (some vo)) M (w.alloc (.cells cs e)) k vo) :
    Sim B (upd β k (some (w.heap.size, cs.size))) M T (upd H k (some vo)) a (w.alloc (.cells cs e)) := by
  refine h.step hkeeps (Mem.le.refl _) ?_ ?_ ?_ ?_ ?_ (fun _ _ h => .inl h) ?_
  · intro j vj hj
    by_cases e : j = k
    · subst e
      rw [upd_same] at hj; cases hj
      exact hob
    · rw [upd_ne _ _ e] at hj
      exact (h.hp j vj hj).keep hkeeps (Mem.le.refl _) (upd_ne _ _ e) (fun b n hb => heap_alloc_old w _ (h.lt hj hb)) (fun b' n' hb' hf => by obtain ⟨cs, e, _, _, h4⟩ := (h.hp j vj hj).block hb'; exact h4 hf)
  · intro j j' vj vj' b1 n1 b2 n2 hj hj' h1 h2 hne
    by_cases e : j = k
    · subst e
      rw [upd_same] at h1; cases h1
      have e' : j' ≠ j := fun e => hne e.symm
      rw [upd_ne _ _ e'] at hj' h2
      have := h.lt hj' h2
      omega
    · rw [upd_ne _ _ e] at hj h1
      by_cases e' : j' = k
      · subst e'
        rw [upd_same] at h2; cases h2
        have := h.lt hj h1
        omega
      · rw [upd_ne _ _ e'] at hj' h2
        exact h.inj j j' vj vj' b1 n1 b2 n2 hj hj' h1 h2 hne
  · intro x v hx
    rw [World.cell?_of_block (w := w) (heap_alloc_old w _ (h.memlt hx))]
    exact h.mem x v hx
  · intro j vj b' n' hj hb'
    by_cases e : j = k
    · subst e; rw [upd_same] at hb'; cases hb'
      exact .inl h.ext.size
    · rw [upd_ne _ _ e] at hj hb'
      exact h.own j vj b' n' hj hb'
  · intro j b' vj hio hj
    have e : j ≠ k := fun e => by have := B.far j b' hio; omega
    rw [upd_ne _ _ e] at hj ⊢
    exact h.ins j b' vj hio hj
  · refine ⟨h.ext.os, h.ext.tape, h.ext.output, ?_, fun j hj hn => ?_⟩
    · have := h.ext.size; simp; omega
    · rw [heap_alloc_old w _ (Nat.lt_of_lt_of_le hj h.ext.size)]
      exact h.ext.block j hj hn
theorem Sim.newB (h : Sim B β M T H a w) {k : Nat} {cs : Array Value} {e : TypeId} {vo : VO} (hk : H k = none) (hlt : k < 1000000)
    (hob : ObR (upd β k (some (w.heap.size, cs.size))) (upd H k (some vo)) M (w.alloc (.cells cs e)) k vo) :
    Sim B (upd β k (some (w.heap.size, cs.size))) M T (upd H k (some vo)) a (w.alloc (.cells cs e)) := h.newB' hlt (Keeps.new hk) hob
/-- Nothing is known of a block that is not there yet. -/
theorem Sim.noMem (h : Sim B β M T H a w) {x : Addr} (hx : x.block = w.heap.size) : M x = none := by
  cases hm : M x with
  | none => rfl
  | some v => have := h.memlt hm; omega
end
end Go.JL
/- The abstract machine, fourteenth part: operations that make objects. No program in sight. -/
set_option linter.unusedVariables false
set_option linter.unusedSimpArgs false
namespace Go.JL

/-- What an operation that changes objects comes to. -/
def Wr (P : Program) (B : Base) (T : Nat → LV) (H : Nat → Option VO) (a : Act) (w : World) (f : (γ : Type) → (LV → List (Nat × VO) → Option γ) → Option γ) (s : Sem Value) : Prop :=
  ∃ lv ups z w', (∀ (γ : Type) (K : LV → List (Nat × VO) → Option γ), f γ K = K lv ups) ∧ RV B T (updH H ups) a w' z lv ∧ s.run P w = .ok z w'

section
variable {P : Program} {β : Place} {M : Mem} {B : Base} {T : Nat → LV} {H : Nat → Option VO} {a : Act} {w : World}

theorem updH_append (H : Nat → Option VO) : ∀ (l r : List (Nat × VO)) , updH H (l ++ r) = updH (updH H l) r
  | [], r => rfl
  | (k, o) :: l, r => updH_append (upd H k (some o)) l r
theorem CellsR.cons {rd : Nat → Option Value} {x : CV} {r : List CV} {u : Value} (h0 : rd 0 = some u) (h1 : CVR β H M u x) (h2 : CellsR β H M (fun o => rd (1 + o)) r) : CellsR β H M rd (x :: r) := by
  intro i y hy
  cases i with
  | zero => simp at hy; subst hy; exact ⟨u, h0, h1⟩
  | succ i => obtain ⟨v, g1, g2⟩ := h2 i y (by simpa using hy); exact ⟨v, by rw [Nat.add_comm]; exact g1, g2⟩
theorem CellsR.tail {rd : Nat → Option Value} {x : CV} {r : List CV} (h : CellsR β H M rd (x :: r)) : CellsR β H M (fun o => rd (1 + o)) r := by
  have := CellsR.drop h 1
  simpa using this

theorem vars_keys (d : Nat) : ∀ (cells : List CV) (cc : List TC) (j : Nat) (k : Nat) (o : VO), (k, o) ∈ (vars d j cells cc).2 → ∃ i, j ≤ i ∧ i < j + cells.length ∧ k = siteKey d i := by
  intro cells
  induction cells with
  | nil => intro cc j k o h; cases cc <;> simp [vars] at h
  | cons x r ih =>
    intro cc j k o h
    cases cc with
    | nil => cases x <;> simp [vars] at h
    | cons c cs =>
      have plain : (k, o) ∈ (vars d (j + 1) r cs).2 → ∃ i, j ≤ i ∧ i < j + (x :: r).length ∧ k = siteKey d i := by
        intro h
        obtain ⟨i, h1, h2, h3⟩ := ih cs (j + 1) k o h
        exact ⟨i, by omega, by simp; omega, h3⟩
      unfold vars at h
      split at h
      · rename_i e1 e2
        cases e1; cases e2
        simp only [Bool.cond_eq_ite] at h
        split at h
        · simp only [List.mem_cons] at h
          rcases h with h | h
          · cases h; refine ⟨_, Nat.le_refl _, ?_, rfl⟩; simp
          · exact plain h
        · exact plain h
      · rename_i e1 e2
        cases e1; cases e2
        exact plain h
      · simp at h
theorem siteKey_lt {d i : Nat} (hd : d < 10000) (hi : i < 100) : siteKey d i < 1000000 := by unfold siteKey; omega
theorem siteKey_inj {d i j : Nat} (h : siteKey d i = siteKey d j) : i = j := by unfold siteKey at h; omega

theorem vars_ok {d : Nat} (hd : d < 10000) : ∀ (cells : List CV) (cc : List TC) (j : Nat) (β : Place) (H : Nat → Option VO) (rd : Nat → Option Value), j + cells.length < 100 → cells.length = cc.length → Sim B β M T H a w →
    (∀ k o, (k, o) ∈ (vars d j cells cc).2 → H k = none) → CellsR β H M rd cells →
    ∃ β', Sim B β' M T (updH H (vars d j cells cc).2) a w ∧ CellsR β' (updH H (vars d j cells cc).2) M rd (vars d j cells cc).1 ∧ (vars d j cells cc).1.length = cells.length ∧ Keeps β β' H (updH H (vars d j cells cc).2) := by
  intro cells
  induction cells with
  | nil =>
    intro cc j β H rd hj hl hs hf hc
    have : vars d j [] cc = ([], []) := by cases cc <;> rfl
    rw [this]
    exact ⟨β, hs, hc, rfl, Keeps.refl _ _⟩
  | cons x r ih =>
    intro cc j β H rd hj hl hs hf hc
    cases cc with
    | nil => simp at hl
    | cons c cs =>
      simp only [List.length_cons] at hj hl
      obtain ⟨u, hu, hx⟩ := hc 0 x rfl
      have plain : vars d j (x :: r) (c :: cs) = (x :: (vars d (j + 1) r cs).1, (vars d (j + 1) r cs).2) →
          ∃ β', Sim B β' M T (updH H (vars d j (x :: r) (c :: cs)).2) a w ∧ CellsR β' (updH H (vars d j (x :: r) (c :: cs)).2) M rd (vars d j (x :: r) (c :: cs)).1 ∧ (vars d j (x :: r) (c :: cs)).1.length = (x :: r).length ∧ Keeps β β' H (updH H (vars d j (x :: r) (c :: cs)).2) := by
        intro e
        rw [e] at hf ⊢
        obtain ⟨β', h1, h2, h3, h4⟩ := ih cs (j + 1) β H (fun o => rd (1 + o)) (by omega) (by omega) hs hf hc.tail
        exact ⟨β', h1, CellsR.cons hu (hx.keep h4 (Mem.le.refl _)) h2, by simp [h3], h4⟩
      by_cases hv : ∃ c', x = .nils ∧ c = .list c' ∧ 0 < c'.size
      · obtain ⟨c', rfl, rfl, hpos⟩ := hv
        have e : vars d j (.nils :: r) (.list c' :: cs) = (.own (siteKey d j) 0 .full :: (vars d (j + 1) r cs).1, (siteKey d j, ⟨0, .row c' [], false⟩) :: (vars d (j + 1) r cs).2) := by
          simp only [vars, hpos, decide_true, cond_true]
        rw [e] at hf ⊢
        have hk : H (siteKey d j) = none := hf _ _ List.mem_cons_self
        have hs1 := hs.virt (c := c') hk (siteKey_lt hd (by omega)) hpos
        have hkeep : Keeps β (upd β (siteKey d j) none) H (upd H (siteKey d j) (some ⟨0, .row c' [], false⟩)) := Keeps.new hk
        obtain ⟨β', h1, h2, h3, h4⟩ := ih cs (j + 1) (upd β (siteKey d j) none) (upd H (siteKey d j) (some ⟨0, .row c' [], false⟩)) (fun o => rd (1 + o)) (by omega) (by omega) hs1 (by
          intro k o hm
          obtain ⟨i, g1, g2, g3⟩ := vars_keys d r cs (j + 1) k o hm
          have hne : k ≠ siteKey d j := by
            intro e
            rw [g3] at e
            have := siteKey_inj e
            omega
          rw [upd_ne _ _ hne]
          exact hf k o (List.mem_cons_of_mem _ hm)) (hc.tail.keep hkeep (Mem.le.refl _) (fun _ _ h => h))
        refine ⟨β', h1, CellsR.cons hu ?_ h2, by simp [h3], ?_⟩
        · have hu0 : u = .slice none 0 0 := hx
          refine CVR.keep (β := upd β (siteKey d j) none) (H := upd H (siteKey d j) (some ⟨0, .row c' [], false⟩)) h4 (Mem.le.refl _) _ ?_
          refine ⟨by rw [hu0]; rfl, ⟨_, upd_same _ _ _, Nat.le_refl _⟩, fun c'' l fz hH => ?_⟩
          rw [upd_same] at hH
          cases hH
          simp only [RowV, upd_same]
          exact ⟨hu0, rfl⟩
        · intro k vo hkv
          obtain ⟨v1, a1, a2, a3⟩ := hkeep k vo hkv
          obtain ⟨v2, b1, b2, b3⟩ := h4 k v1 a1
          refine ⟨v2, b1, Nat.le_trans a2 b2, fun e => ?_⟩
          have e1 : v1.v = vo.v := by omega
          have e2 : v2.v = v1.v := by omega
          obtain ⟨p1, p2⟩ := a3 e1
          obtain ⟨q1, q2⟩ := b3 e2
          refine ⟨q1.trans p1, ?_⟩
          revert p2 q2
          generalize vo.ob = o1; generalize v1.ob = o2; generalize v2.ob = o3
          cases o1 <;> cases o2 <;> cases o3 <;> simp [sameOb]
          intro e1 l1 e2 l2
          exact ⟨e1.trans e2, l1.trans l2⟩
      · refine plain ?_
        cases x <;> try rfl
        cases c <;> try rfl
        rename_i c'
        have : ¬ 0 < c'.size := fun h => hv ⟨c', rfl, rfl, h⟩
        simp only [vars, this, decide_false, cond_false]

theorem freshB_ok : ∀ (ups : List (Nat × VO)), freshB H ups = true → ∀ k o, (k, o) ∈ ups → H k = none
  | [], _, k, o, h => by simp at h
  | (j, p) :: r, hb, k, o, h => by
    simp only [freshB, Bool.and_eq_true] at hb
    rcases List.mem_cons.1 h with h | h
    · cases h
      have := hb.1
      split at this
      · assumption
      · cases this
    · exact freshB_ok r hb.2 k o h

theorem vvar_ok (hs : Sim B β M T H a w) {d : Nat} (hd : d < 10000) {cells : List CV} {cc : List TC} {cs : Array Value} (hl : cs.size = cells.length) (hc : CellsR β H M (fun i => cs[i]?) cells) (e : TypeId)
    {α : Type} {K : LV → List (Nat × VO) → Option α} {r : α} (h : vvar d cells cc H K = some r) {s : Sem Value} (hrun : s.run P w = .ok (.pointer (some ⟨w.heap.size, 0, none⟩)) (w.alloc (.cells cs e))) :
    Wr P B T H a w (fun γ K => vvar d cells cc H K) s := by
  unfold vvar at h
  simp only [Bool.cond_eq_ite] at h
  split at h
  · rename_i hb
    have hb' := hb
    simp only [Bool.and_eq_true, decide_eq_true_eq] at hb
    obtain ⟨⟨h1, h2⟩, h3⟩ := hb
    have hf := freshB_ok _ h1
    obtain ⟨β', g1, g2, g3, g4⟩ := vars_ok (M := M) hd cells cc 1 β H _ (by omega) h2 hs (fun k o hm => hf k o (List.mem_append_left _ hm)) hc
    have hk0 : updH H (vars d 1 cells cc).2 (siteKey d 0) = none := by
      rw [updH_not]
      · exact hf _ _ (List.mem_append_right _ List.mem_cons_self)
      · intro o hm
        obtain ⟨i, q1, q2, q3⟩ := vars_keys d cells cc 1 _ o hm
        have := siteKey_inj q3
        omega
    have hkeep : Keeps β' (upd β' (siteKey d 0) (some (w.heap.size, cs.size))) (updH H (vars d 1 cells cc).2) (upd (updH H (vars d 1 cells cc).2) (siteKey d 0) (some ⟨0, .cells (vars d 1 cells cc).1, false⟩)) := Keeps.new hk0
    have hnew := g1.newB (cs := cs) (e := e) (vo := ⟨0, .cells (vars d 1 cells cc).1, false⟩) hk0 (siteKey_lt hd (by omega)) (by
      refine ⟨rfl, w.heap.size, cs, e, by rw [upd_same, g3, hl], heap_alloc_new w _, by rw [g3, hl], g2.keep hkeep (Mem.le.refl _) (fun _ _ h => h), fun x hx => g1.noMem hx⟩)
    refine ⟨.c (.ptr (siteKey d 0) 0 0), (vars d 1 cells cc).2 ++ [(siteKey d 0, ⟨0, .cells (vars d 1 cells cc).1, false⟩)], _, _, fun γ K => ?_, ?_, hrun⟩
    · simp only [vvar, hb', cond_true]
    · rw [updH_append]
      refine ⟨_, _, hnew, ⟨_, upd_same _ _ _, Nat.le_refl _⟩, _, rfl, fun l fz hH => ?_⟩
      exact ⟨w.heap.size, cs.size, upd_same _ _ _, rfl⟩
  · cases h
theorem run_newVar (P : Program) (t : TypeId) (v : Value) (w : World) : (newVar t v).run P w = .ok ⟨w.heap.size, 0, none⟩ (w.alloc (.cells v.cells t)) := by
  simp [newVar, newRow]
theorem alloc_ok (hs : Sim B β M T H a w) {d : Nat} (hd : d < 10000) {t : Nat} {ty : Ty} (hty : TyOk P t ty)
    {α : Type} {K : LV → List (Nat × VO) → Option α} {r : α} (h : vvar d ty.zero ty.cc H K = some r) : Wr P B T H a w (fun γ K => vvar d ty.zero ty.cc H K) (Instr.alloc t true (.tuple #[])) := by
  obtain ⟨z, z1, z2, z3, z4, z5, z6⟩ := hty.run_zero (β := β) (H := H) (M := M) w
  exact vvar_ok hs hd z2 z4 t h (by simp only [Instr.alloc, Sem.run_bind, z1, Result.andThen_ok, run_newVar, Sem.run_pure])
theorem box_ok (hs : Sim B β M T H a w) {d : Nat} (hd : d < 10000) (t : Nat) {cc : List TC} {x : LV} {v : Value} (hx : LVR β H M v x) (ha : x.cells.all CV.alive = true)
    {α : Type} {K : LV → List (Nat × VO) → Option α} {r : α} (h : vvar d x.cells cc H K = some r) : Wr P B T H a w (fun γ K => vvar d x.cells cc H K) (Instr.box t v) := by
  obtain ⟨h1, h2, _, _⟩ := hx.cells ha
  exact vvar_ok hs hd (by simpa using h1) (by simpa using h2) t h (by simp only [Instr.box, Sem.run_bind, run_newVar, Result.andThen_ok, Sem.run_pure])
end
end Go.JL
/- The abstract machine, fifteenth part: rows that are made and that grow. No program in sight. -/
set_option linter.unusedVariables false
set_option linter.unusedSimpArgs false
namespace Go.JL

section
variable {P : Program} {β : Place} {M : Mem} {B : Base} {T : Nat → LV} {H : Nat → Option VO} {a : Act} {w : World}

/-- The elements of a row lie one behind the other. -/
def Elems (M : Mem) (c : TC) (xs : List (El c)) (rd : Nat → Option Value) : Prop := ∀ (i : Nat) (x : El c), xs[i]? = some x → CR M c x (fun o => rd (i * c.size + o))
theorem place_lt {i n s o : Nat} (hi : i < n) (ho : o < s) : i * s + o < n * s := by
  have : i * s + s ≤ n * s := by rw [← Nat.succ_mul]; exact Nat.mul_le_mul_right _ hi
  omega
theorem Elems.append {c : TC} {xs ys : List (El c)} {r1 r2 rd : Nat → Option Value} (h1 : Elems M c xs r1) (h2 : Elems M c ys r2) (g1 : ∀ j v, j < xs.length * c.size → r1 j = some v → rd j = some v)
    (g2 : ∀ j v, r2 j = some v → rd (xs.length * c.size + j) = some v) : Elems M c (xs ++ ys) rd := by
  intro i x hx
  rcases Nat.lt_or_ge i xs.length with hi | hi
  · rw [List.getElem?_append_left hi] at hx
    exact CR.mono (Mem.le.refl _) c x _ _ (fun o v ho hv => g1 _ v (place_lt hi ho) hv) (h1 i x hx)
  · rw [List.getElem?_append_right hi] at hx
    refine CR.mono (Mem.le.refl _) c x _ _ (fun o v ho hv => ?_) (h2 _ x hx)
    have := g2 _ v hv
    rwa [← Nat.add_assoc, ← Nat.add_mul, Nat.add_sub_cancel' hi] at this
theorem Elems.take {c : TC} {xs : List (El c)} {rd : Nat → Option Value} (h : Elems M c xs rd) (m : Nat) : Elems M c (xs.take m) rd := by
  intro i x hx
  rw [List.getElem?_take] at hx
  split at hx
  · exact h i x hx
  · cases hx
theorem CR.total {c : TC} {x : El c} {rd : Nat → Option Value} (h : CR M c x rd) (o : Nat) (ho : o < c.size) : ∃ u, rd o = some u ∧ u.oneCell' = true := by
  have hc := CR.cells (β := fun _ => none) (H := fun _ => none) c x rd h
  have hl : o < (flat c x).length := by rw [flat_length]; exact ho
  obtain ⟨u, h1, h2⟩ := hc o (flat c x)[o] (List.getElem?_eq_getElem hl)
  refine ⟨u, h1, CVR.one ?_ h2⟩
  have alive : ∀ (c : TC) (x : El c), ∀ y ∈ flat c x, y.alive = true := by
    intro c
    induction c with
    | pair p q ihp ihq => intro x y hy; rw [flat_pair] at hy; exact (List.mem_append.1 hy).elim (ihp _ _) (ihq _ _)
    | one p ih => intro x y hy; exact ih x y hy
    | unit => intro x y hy; simp [flat, flatA] at hy
    | _ => intro x y hy; simp [flat, flatA] at hy; subst hy; rfl
  exact alive c x _ (List.getElem_mem hl)
theorem Elems.collect {c : TC} {xs : List (El c)} {rd : Nat → Option Value} (h : Elems M c xs rd) : ∃ vs : List Value, vs.length = xs.length * c.size ∧ (∀ j v, vs[j]? = some v → rd j = some v) ∧ (∀ u ∈ vs, u.oneCell' = true) ∧ Elems M c xs (fun j => vs[j]?) := by
  have all : ∀ j, j < xs.length * c.size → ∃ u, rd j = some u ∧ u.oneCell' = true := by
    intro j hj
    have hc : 0 < c.size := by rcases Nat.eq_zero_or_pos c.size with h | h; · rw [h] at hj; simp at hj
                               · exact h
    have hi : j / c.size < xs.length := Nat.div_lt_of_lt_mul (by rw [Nat.mul_comm]; exact hj)
    obtain ⟨u, h1, h2⟩ := CR.total (h (j / c.size) xs[j / c.size] (List.getElem?_eq_getElem hi)) (j % c.size) (Nat.mod_lt _ hc)
    have e : j / c.size * c.size + j % c.size = j := by rw [Nat.mul_comm]; exact Nat.div_add_mod j c.size
    simp only [e] at h1
    exact ⟨u, h1, h2⟩
  have coll : ∀ n, (∀ j, j < n → ∃ u, rd j = some u ∧ u.oneCell' = true) → ∃ vs : List Value, vs.length = n ∧ (∀ j v, vs[j]? = some v → rd j = some v) ∧ (∀ u ∈ vs, u.oneCell' = true) := by
    intro n
    induction n with
    | zero => intro _; exact ⟨[], rfl, fun j v h => by simp at h, fun u hu => by simp at hu⟩
    | succ n ih =>
      intro h
      obtain ⟨vs, h1, h2, h3⟩ := ih fun j hj => h j (by omega)
      obtain ⟨u, h4, h5⟩ := h n (by omega)
      refine ⟨vs ++ [u], by simp [h1], fun j v hv => ?_, fun x hx => ?_⟩
      · rcases Nat.lt_or_ge j vs.length with hj | hj
        · rw [List.getElem?_append_left hj] at hv; exact h2 j v hv
        · rw [List.getElem?_append_right hj] at hv
          have : j = n := by
            have := (List.getElem?_eq_some_iff.1 hv).1
            simp at this; omega
          subst this
          simp [h1] at hv; subst hv; exact h4
      · rcases List.mem_append.1 hx with hx | hx
        · exact h3 x hx
        · simp at hx; subst hx; exact h5
  obtain ⟨vs, h1, h2, h3⟩ := coll _ all
  refine ⟨vs, h1, h2, h3, fun i x hx => CR.mono (Mem.le.refl _) c x _ _ (fun o v ho hv => ?_) (h i x hx)⟩
  have hi := (List.getElem?_eq_some_iff.1 hx).1
  have hlt : i * c.size + o < vs.length := by rw [h1]; exact place_lt hi ho
  have := h2 _ _ (List.getElem?_eq_getElem hlt)
  rw [hv] at this
  show vs[i * c.size + o]? = some v
  rw [List.getElem?_eq_getElem hlt, ← this]

/-! ### What a slice yields -/
theorem row_elems (hs : Sim B β M T H a w) {k ver : Nat} {c : TC} {l : List (El c)} {fz : Bool} (hH : H k = some ⟨ver, .row c l, fz⟩) {v : Value} {wn : Win} (hr : RowV β k c.size l.length v wn) :
    ∃ A cap, v = .slice A (wn.on l).length cap ∧ (wn.on l).length ≤ cap ∧ ∀ (i : Nat) (x : El c), (wn.on l)[i]? = some x → ∃ ad, A = some ad ∧ CR M c x (fun o => w.cell? (ad.add (i * c.size + o))) := by
  have elem : ∀ b n, β k = some (b, n) → ∀ (i : Nat) (x : El c), l[i]? = some x → CR M c x (fun o => w.cell? (adr b (i * c.size + o))) := by
    intro b n hb i x hx
    obtain ⟨h0, h1⟩ := hs.hp k _ hH
    simp only [hb] at h1
    obtain ⟨cs, e, g1, g2, g3, g4, _, _⟩ := h1
    refine CR.mono (Mem.le.refl _) c x _ _ (fun o u ho hu => ?_) (g4 i x hx)
    show w.cell? (adr b (i * c.size + o)) = some u
    rw [cell_adr g1]; exact hu
  cases wn with
  | full =>
    simp only [RowV] at hr
    split at hr
    · rename_i b n hb
      obtain ⟨cap, rfl, q1, q2⟩ := hr
      exact ⟨some ⟨b, 0, none⟩, cap, rfl, q1, fun i x hx => ⟨_, rfl, elem b n hb i x hx⟩⟩
    · obtain ⟨rfl, q⟩ := hr
      have : l = [] := List.eq_nil_of_length_eq_zero q
      subst this
      exact ⟨none, 0, rfl, Nat.le_refl _, fun i x hx => by simp [Win.on] at hx⟩
  | pre m =>
    simp only [RowV] at hr
    obtain ⟨hm, hr⟩ := hr
    have hl : (l.take m).length = m := by rw [List.length_take]; omega
    split at hr
    · rename_i b n hb
      obtain ⟨cap, rfl, q1, q2⟩ := hr
      refine ⟨some ⟨b, 0, none⟩, cap, by show Value.slice _ _ _ = Value.slice _ _ _; rw [show (Win.pre m).on l = l.take m from rfl, hl], by rw [show (Win.pre m).on l = l.take m from rfl, hl]; exact q1, fun i x hx => ⟨_, rfl, elem b n hb i x ?_⟩⟩
      have hx : (l.take m)[i]? = some x := hx
      rw [List.getElem?_take] at hx
      split at hx
      · exact hx
      · cases hx
    · obtain ⟨rfl, q⟩ := hr
      have h0 : l = [] := List.eq_nil_of_length_eq_zero q
      subst h0
      exact ⟨none, 0, by simp [Win.on], by simp [Win.on], fun i x hx => by simp [Win.on] at hx⟩
  | sub o m =>
    simp only [RowV] at hr
    obtain ⟨hm, A, cap, rfl, q1, q2⟩ := hr
    have hl : ((l.drop o).take m).length = m := by rw [List.length_take, List.length_drop]; omega
    refine ⟨A, cap, by show Value.slice _ _ _ = Value.slice _ _ _; rw [show (Win.sub o m).on l = (l.drop o).take m from rfl, hl], by rw [show (Win.sub o m).on l = (l.drop o).take m from rfl, hl]; exact q1, fun i x hx => ?_⟩
    have hx : ((l.drop o).take m)[i]? = some x := hx
    rw [List.getElem?_take, List.getElem?_drop] at hx
    split at hx
    · rename_i him
      obtain ⟨b, n, hb, rfl⟩ := q2 (by omega)
      refine ⟨_, rfl, ?_⟩
      refine CR.mono (Mem.le.refl _) c x _ _ (fun p u _ hu => ?_) (elem b n hb _ x hx)
      show w.cell? ((adr b (o * c.size)).add (i * c.size + p)) = some u
      rw [adr_add, ← Nat.add_assoc, ← Nat.add_mul]; exact hu
    · cases hx
theorem elems_ok (hs : Sim B β M T H a w) {c : TC} {cv : CV} {xs : List (El c)} (h : toEl H (.list c) cv = some xs) {v : Value} (hv : CVR β H M v cv) :
    ∃ A cap, v = .slice A xs.length cap ∧ xs.length ≤ cap ∧ ∀ (i : Nat) (x : El c), xs[i]? = some x → ∃ ad, A = some ad ∧ CR M c x (fun o => w.cell? (ad.add (i * c.size + o))) := by
  unfold toEl at h
  split at h
  · rename_i c' y
    obtain ⟨rfl, rfl⟩ := castE_some h
    obtain ⟨A, cap, h1, h2, h3⟩ := hv.2
    have h1 : some v = some _ := h1
    injection h1 with h1
    refine ⟨A, cap, h1, h2, fun i x hx => ?_⟩
    obtain ⟨ad, g1, g2⟩ := h3 i x hx
    exact ⟨ad, g1, CR.mono (Mem.le.refl _) c x _ _ (fun o u _ hu => hs.mem _ _ hu) g2⟩
  · simp only [Option.some.injEq] at h
    have hv : v = .slice none 0 0 := hv
    subst hv; subst h
    exact ⟨none, 0, rfl, Nat.le_refl _, fun i x hx => by simp at hx⟩
  · rename_i k ver wn
    split at h
    · rename_i v' c' l fz hH
      simp only [Bool.cond_eq_ite, Bool.and_eq_true, beq_iff_eq] at h
      split at h
      · rename_i hvv
        obtain ⟨hvv, _⟩ := hvv
        subst hvv
        obtain ⟨e, he⟩ := castE_some h
        cases e
        cases he
        exact row_elems hs hH (hv.2.2 _ l fz hH)
      · cases h
    · cases h
  · cases h
theorem src_ok (hs : Sim B β M T H a w) {c : TC} {y : LV} {ys : List (El c)} (h : elemsOf H c y = some ys) {v : Value} (hv : LVR β H M v y) {tx e' : TypeId} (hk : P.underlying tx = some (.slice e')) :
    ∃ news : List Value, Src P c.size tx v ys.length news w ∧ Elems M c ys (fun j => news[j]?) := by
  cases y with
  | c cv =>
    obtain ⟨A, cap, rfl, h2, h3⟩ := elems_ok hs h hv
    cases A with
    | none =>
      have h0 : ys = [] := by
        cases ys with
        | nil => rfl
        | cons x r => obtain ⟨ad, e, _⟩ := h3 0 x rfl; cases e
      subst h0
      exact ⟨[], Src.ofNil w hk cap, fun i x hx => by simp at hx⟩
    | some ad =>
      have hE : Elems M c ys (fun j => w.cell? (ad.add j)) := by
        intro i x hx
        obtain ⟨ad', e, g⟩ := h3 i x hx
        cases e; exact g
      obtain ⟨news, g1, g2, g3, g4⟩ := hE.collect
      exact ⟨news, Src.ofSlice w hk ad _ cap news g1 g2 g3, g4⟩
  | agg l => cases h
  | tup l => cases h
end
end Go.JL
/- The abstract machine, sixteenth part: append, make, literals of slices. No program in sight. -/
set_option linter.unusedVariables false
set_option linter.unusedSimpArgs false
namespace Go.JL

section
variable {P : Program} {β : Place} {M : Mem} {B : Base} {T : Nat → LV} {H : Nat → Option VO} {a : Act} {w : World}

theorem TyOk.info {t : Nat} {ty : Ty} (h : TyOk P t ty) : ∃ i z, P.info? t = some i ∧ i.size = ty.size ∧ i.bytes = ty.bytes ∧ i.zero = some z ∧ z.cells.size = ty.size := by
  obtain ⟨i, d, z, h1, h2, h3, h4, h5, h6, h7, h8, _⟩ := h.facts
  have := (zsB_ok (β := fun _ => none) (H := fun _ => none) (M := fun _ => none) _ _ h8).1
  refine ⟨i, z, h1, h3, h4, h7, by rw [← h6]; simpa using this⟩

/-- A new row, under a key that is new or that gets a new version. -/
theorem Sim.row (h : Sim B β M T H a w) {k v : Nat} {c : TC} {xs : List (El c)} {cs : Array Value} {e : TypeId} (hlt : k < 1000000) (hc : 0 < c.size) (hkeeps : ∀ p, Keeps β (upd β k p) H (upd H k (some ⟨v, .row c xs, false⟩)))
    (hsz : xs.length * c.size ≤ cs.size) (hE : Elems M c xs (fun j => cs[j]?)) {cap : Nat} (h1 : xs.length ≤ cap) (h2 : cap * c.size ≤ cs.size) :
    RV B T (upd H k (some ⟨v, .row c xs, false⟩)) a (w.alloc (.cells cs e)) (.slice (some ⟨w.heap.size, 0, none⟩) xs.length cap) (.c (.own k v .full)) := by
  have hnew := h.newB' (cs := cs) (e := e) (vo := ⟨v, .row c xs, false⟩) hlt (hkeeps _) (by
    refine ⟨hc, ?_⟩
    simp only [upd_same]
    exact ⟨cs, e, heap_alloc_new w _, rfl, hsz, hE, fun _ x hx => h.noMem hx, fun hf => by cases hf⟩)
  refine ⟨_, _, hnew, rfl, ⟨_, upd_same _ _ _, Nat.le_refl _⟩, fun c' l fz hH => ?_⟩
  rw [upd_same] at hH
  cases hH
  simp only [RowV, upd_same]
  exact ⟨cap, rfl, h1, h2⟩
theorem Sim.row0 (h : Sim B β M T H a w) {k v : Nat} {c : TC} (hlt : k < 1000000) (hc : 0 < c.size) (hkeeps : Keeps β (upd β k none) H (upd H k (some ⟨v, .row c [], false⟩))) :
    RV B T (upd H k (some ⟨v, .row c [], false⟩)) a w (.slice none 0 0) (.c (.own k v .full)) := by
  refine ⟨_, _, h.virt' hlt hc hkeeps, rfl, ⟨_, upd_same _ _ _, Nat.le_refl _⟩, fun c' l fz hH => ?_⟩
  rw [upd_same] at hH
  cases hH
  simp only [RowV, upd_same]
  exact ⟨trivial, rfl⟩

theorem run_append_zero (P : Program) (t tx ty e : TypeId) (i : TypeInfo) (ht : P.underlying t = some (.slice e)) (hi : P.info? e = some i) {x : Value} {news : List Value} {w : World} (hs : Src P i.size tx x 0 news w) :
    (Builtin.append_ #[t, tx] ty #[.slice none 0 0, x]).run P w = .ok (.slice none 0 0) w := by
  rcases hs.kind with ⟨e', hk⟩ | hk <;> simp [Builtin.append_, run_underlying ht, run_underlying hk, sizeOf, typeInfo, hi, hs.len, hs.cells]
theorem run_append_room_row (P : Program) (t tx ty e : TypeId) (i : TypeInfo) (ht : P.underlying t = some (.slice e)) (hi : P.info? e = some i) {x : Value} {n : Nat} {news : List Value} {w : World} (hs : Src P i.size tx x n news w)
    {g sLen sCap : Nat} {cur : Array Value} {et : TypeId} (hg : w.heap[g]? = some (.cells cur et (0, 0))) (hroom : sLen + n ≤ sCap) (hfit : sLen * i.size + news.length ≤ cur.size) :
    (Builtin.append_ #[t, tx] ty #[.slice (some ⟨g, 0, none⟩) sLen sCap, x]).run P w =
      .ok (.slice (some ⟨g, 0, none⟩) (sLen + n) sCap) (w.setRow g (cur.toList.take (sLen * i.size) ++ news ++ cur.toList.drop (sLen * i.size + news.length)).toArray) := by
  have hst := run_storeCells_at P g (sLen * i.size) et news 0 cur w hg (by simpa using hfit) hs.one
  simp only [Nat.add_zero] at hst
  rcases hs.kind with ⟨e', hk⟩ | hk <;> simp [Builtin.append_, run_underlying ht, run_underlying hk, sizeOf, typeInfo, hi, hs.len, hroom, hs.cells, Addr.add_lit, hst]

/-- What append yields, whatever the row was. -/
theorem append_row (hs : Sim B β M T H a w) {t tx ty e : Nat} {te : Ty} (hte : TyOk P e te) (ht : P.underlying t = some (.slice e)) {c : TC} (hsz : c.size = te.size) (hc : 0 < c.size) (hb : 0 < te.bytes)
    {x : Value} {ys : List (El c)} {news : List Value} (hsrc : Src P c.size tx x ys.length news w) (hE : Elems M c ys (fun j => news[j]?))
    {k v : Nat} (hlt : k < 1000000) {xs : List (El c)} (hkeeps : ∀ p, Keeps β (upd β k p) H (upd H k (some ⟨v, .row c (xs ++ ys), false⟩))) (hroom : roomFor (xs.length + ys.length) te.bytes = true) {val : Value}
    (hval : (val = .slice none 0 0 ∧ xs = []) ∨ ∃ b n cap cs et vo, val = .slice (some ⟨b, 0, none⟩) xs.length cap ∧ xs.length ≤ cap ∧ cap * c.size ≤ n ∧ H k = some vo ∧ vo.fz = false ∧ vo.v < v ∧ β k = some (b, n) ∧ w.heap[b]? = some (.cells cs et (0, 0)) ∧ cs.size = n ∧ Elems M c xs (fun j => cs[j]?)) :
    ∃ z w', (Builtin.append_ #[t, tx] ty #[val, x]).run P w = .ok z w' ∧ RV B T (upd H k (some ⟨v, .row c (xs ++ ys), false⟩)) a w' z (.c (.own k v .full)) := by
  obtain ⟨i, zv, i1, i2, i3, i4, i5⟩ := hte.info
  have hi : i.size = c.size := by rw [i2, hsz]
  have hsrc' : Src P i.size tx x ys.length news w := by rw [hi]; exact hsrc
  have hroom : (xs.length + ys.length) * i.bytes ≤ 140737488355328 := by simpa [roomFor, i3] using hroom
  have h63 : ((xs.length + ys.length : Nat) : Int) ≤ 9223372036854775807 := by
    have : (xs.length + ys.length) * 1 ≤ (xs.length + ys.length) * i.bytes := Nat.mul_le_mul_left _ (by omega)
    omega
  have grown : ∀ (base : Option Addr) (cap : Nat) (olds : List Value), val = .slice base xs.length cap → cap < xs.length + ys.length → olds.length = xs.length * c.size → Elems M c xs (fun j => olds[j]?) →
      (Builtin.firstCells i.size xs.length (.slice base xs.length cap)).run P w.drew = .ok olds.toArray w.drew →
      ∃ z w', (Builtin.append_ #[t, tx] ty #[val, x]).run P w = .ok z w' ∧ RV B T (upd H k (some ⟨v, .row c (xs ++ ys), false⟩)) a w' z (.c (.own k v .full)) := by
    intro base cap olds hv hcap holen hEo hf
    have hrun := run_append_grow_src (P := P) w t tx ty e i zv ht i1 i4 base xs.length cap olds hf x ys.length news hsrc' hcap h63 (growslice_fits hcap hroom)
    rw [hv]
    refine ⟨_, _, hrun, ?_⟩
    have hge := grownCap_ge w (xs.length + ys.length) cap e
    have hdrew := hs.drew
    have hlen : (xs ++ ys).length = xs.length + ys.length := List.length_append
    have hcs : ((olds ++ news).toArray ++ Builtin.zeroCells zv.cells (grownCap w (xs.length + ys.length) cap e - (xs.length + ys.length))).size = grownCap w (xs.length + ys.length) cap e * c.size := by
      rw [Array.size_append, size_zeroCells, i5, ← hsz, List.size_toArray, List.length_append, holen, hsrc.newsLen, ← Nat.add_mul, ← Nat.add_mul, Nat.add_sub_cancel' hge]
    have := Sim.row (e := e) hdrew (xs := xs ++ ys) hlt hc hkeeps (cs := (olds ++ news).toArray ++ Builtin.zeroCells zv.cells (grownCap w (xs.length + ys.length) cap e - (xs.length + ys.length)))
      (by rw [hlen, hcs]; exact Nat.mul_le_mul_right _ hge)
      (by
        refine hEo.append hE (fun j u hj hu => ?_) (fun j u hu => ?_)
        · have hu : olds[j]? = some u := hu
          have hj' : j < olds.length := (List.getElem?_eq_some_iff.1 hu).1
          show (_ : Array Value)[j]? = some u
          rw [Array.getElem?_append_left (by simp; omega)]
          simp [List.getElem?_append_left hj', hu]
        · have hu : news[j]? = some u := hu
          have hj' : j < news.length := (List.getElem?_eq_some_iff.1 hu).1
          show (_ : Array Value)[xs.length * c.size + j]? = some u
          rw [← holen, Array.getElem?_append_left (by simp; omega)]
          simp [List.getElem?_append_right, hu])
      (cap := grownCap w (xs.length + ys.length) cap e) (by rw [hlen]; exact hge) (by rw [hcs]; exact Nat.le_refl _)
    rw [hlen] at this
    exact this
  rcases hval with ⟨rfl, rfl⟩ | ⟨b, n, cap, cs, et, vo, rfl, h1, h2, h3, h4, h5, h6, h7, h8, h9⟩
  · rcases Nat.eq_zero_or_pos ys.length with h0 | hpos
    · have : ys = [] := List.eq_nil_of_length_eq_zero h0
      subst this
      exact ⟨_, _, run_append_zero P t tx ty e i ht i1 hsrc', hs.row0 hlt hc (hkeeps none)⟩
    · exact grown none 0 [] rfl (by simpa using hpos) (by simp) (fun i x hx => by simp at hx) (run_firstCells_none _ _ _ _ _)
  · by_cases hfit : xs.length + ys.length ≤ cap
    · have hnl := hsrc.newsLen
      have hin : (xs.length + ys.length) * c.size ≤ cs.size := by rw [h8]; exact Nat.le_trans (Nat.mul_le_mul_right _ hfit) h2
      rw [Nat.add_mul, ← hnl] at hin
      have hrun := run_append_room_row P t tx ty e i ht i1 hsrc' h7 hfit (by rw [hi]; exact hin)
      refine ⟨_, _, hrun, ?_⟩
      rw [hi]
      have hkeep1 := hkeeps (β k)
      have hupd : upd β k (β k) = β := by
        funext j
        by_cases e : j = k
        · subst e; exact upd_same _ _ _
        · exact upd_ne _ _ e
      rw [hupd] at hkeep1
      have hcl : cs.toList.length = cs.size := Array.length_toList
      have hsz' : (cs.toList.take (xs.length * c.size) ++ news ++ cs.toList.drop (xs.length * c.size + news.length)).length = n := by
        simp only [List.length_append, List.length_take, List.length_drop, hcl]; omega
      obtain ⟨cs0, e0, q1, q2, q3⟩ := (hs.hp k vo h3).block h6
      have hw := hs.write (vo' := ⟨v, .row c (xs ++ ys), false⟩) (cs' := (cs.toList.take (xs.length * c.size) ++ news ++ cs.toList.drop (xs.length * c.size + news.length)).toArray) h3 h6 (fun x hx => q3 h4 x hx) (Nat.le_of_lt h5) (fun e => by have e : v = vo.v := e; omega) (by
        refine ⟨hc, ?_⟩
        simp only [h6]
        refine ⟨_, et, setRow_heap w b cs _ et _ h7, by simpa using hsz', ?_, ?_, fun _ => q3 h4, fun hf => by cases hf⟩
        · have : (xs ++ ys).length = xs.length + ys.length := List.length_append
          show (xs ++ ys).length * c.size ≤ n
          rw [this, Nat.add_mul, ← hnl]; omega
        · refine Elems.append h9 hE (fun j u hj hu => ?_) (fun j u hu => ?_)
          · have hu : cs[j]? = some u := hu
            show (_ : Array Value)[j]? = some u
            simp only [List.getElem?_toArray]
            rw [List.append_assoc, List.getElem?_append_left (by rw [List.length_take]; omega), List.getElem?_take, if_pos hj]
            simpa using hu
          · have hu : news[j]? = some u := hu
            have hj' : j < news.length := (List.getElem?_eq_some_iff.1 hu).1
            have hl : (cs.toList.take (xs.length * c.size)).length = xs.length * c.size := by rw [List.length_take]; omega
            show (_ : Array Value)[xs.length * c.size + j]? = some u
            simp only [List.getElem?_toArray]
            rw [List.append_assoc, List.getElem?_append_right (by omega), hl, Nat.add_sub_cancel_left, List.getElem?_append_left hj']
            exact hu)
      refine ⟨β, M, hw, rfl, ⟨_, upd_same _ _ _, Nat.le_refl _⟩, fun c' l fz hH => ?_⟩
      rw [upd_same] at hH
      cases hH
      simp only [RowV, h6]
      exact ⟨cap, by rw [List.length_append], by rw [List.length_append]; exact hfit, h2⟩
    · obtain ⟨olds, g1, g2, g3, g4⟩ := h9.collect
      refine grown (some ⟨b, 0, none⟩) cap olds rfl (by omega) g1 g4 ?_
      rw [hi]
      exact run_firstCells_some w.drew c.size xs.length ⟨b, 0, none⟩ xs.length cap olds g1 (fun j u hu => by
        have := g2 j u hu
        show w.cell? ((⟨b, 0, none⟩ : Addr).add j) = some u
        rw [show (⟨b, 0, none⟩ : Addr).add j = adr b j from rfl, cell_adr h7]; exact this)

theorem vappend_ok (hs : Sim B β M T H a w) {cx : Cx} (htt : ∀ t ty, cx.tt t = some ty → TyOk P t ty) {d : Nat} (hd : d < 10000) {t tx rt ex : Nat} (htx : P.underlying tx = some (.slice ex)) {x y : LV} {v u : Value} (hx : LVR β H M v x) (hy : LVR β H M u y)
    {α : Type} {K : LV → List (Nat × VO) → Option α} {r : α} (h : vappend cx d t x y H K = some r) : Wr P B T H a w (fun γ K => vappend cx d t x y H K) (Builtin.append_ #[t, tx] rt #[v, u]) := by
  unfold vappend at h
  split at h
  · rename_i e sz by_ c z cc eq ht
    split at h
    · rename_i te0 sz' bytes c' z' cc' eq' hte
      have hE := (htt e _ hte)
      have hT := (htt t _ ht).under_slice (e := e) rfl
      simp only [Bool.cond_eq_ite] at h
      split at h
      · rename_i hcnd
        have hcnd' := hcnd
        simp only [Bool.and_eq_true, decide_eq_true_eq] at hcnd
        obtain ⟨⟨⟨rfl, hsz⟩, hpos⟩, hby⟩ := hcnd
        split at h
        · rename_i ys hys
          obtain ⟨news, s1, s2⟩ := src_ok hs hys hy htx
          have hcp : 0 < c.size := by omega
          split at h
          · split at h
            · rename_i hk0
              split at h
              · rename_i hroom
                have hv : v = .slice none 0 0 := hx
                obtain ⟨z, w', g1, g2⟩ := append_row (ty := rt) hs hE hT hsz hcp hby s1 s2 (k := siteKey d 0) (v := 0) (siteKey_lt hd (by omega)) (xs := []) (fun p => Keeps.new hk0) (by simpa using hroom) (val := v) (.inl ⟨hv, rfl⟩)
                refine ⟨_, _, z, w', fun γ K => by simp only [vappend, ht, hte, hsz, hpos, hby, decide_true, Bool.and_self, hys, hk0, hroom, cond_true]; rfl, by rw [updH_one]; exact g2, g1⟩
              · cases h
            · cases h
          · rename_i k ver
            split at h
            · rename_i v' c₁ l hk
              split at h
              · rename_i hcc
                have hcc' := hcc
                simp only [Bool.and_eq_true, beq_iff_eq, Nat.blt_eq] at hcc
                obtain ⟨rfl, hlt⟩ := hcc
                split at h
                · rename_i l' hl'
                  split at h
                  · rename_i hroom
                    obtain ⟨ec, hec⟩ := castE_some hl'
                    cases ec
                    cases hec
                    obtain ⟨_, _, hrow⟩ := hx
                    have hrow := hrow _ l false hk
                    obtain ⟨z, w', g1, g2⟩ := append_row (ty := rt) hs hE hT hsz hcp hby s1 s2 (k := k) (v := ver + 1) hlt (xs := l) (fun p => Keeps.newer hk (Nat.lt_succ_self _)) hroom (val := v) (by
                      obtain ⟨_, hob⟩ := hs.hp k _ hk
                      simp only [RowV] at hrow
                      split at hrow
                      · rename_i b n hb
                        simp only [hb] at hob
                        obtain ⟨cs, et, q1, q2, q3, q4, q5, q6⟩ := hob
                        obtain ⟨cap, r1, r2, r3⟩ := hrow
                        exact .inr ⟨b, n, cap, cs, et, _, r1, r2, r3, hk, rfl, Nat.lt_succ_self _, hb, q1, q2, q4⟩
                      · obtain ⟨r1, r2⟩ := hrow
                        exact .inl ⟨r1, List.eq_nil_of_length_eq_zero r2⟩)
                    refine ⟨_, _, z, w', fun γ K => by simp only [vappend, ht, hte, hsz, hpos, hby, decide_true, Bool.and_self, hys, hk, hcc', hl', hroom, cond_true]; rfl, by rw [updH_one]; exact g2, g1⟩
                  · cases h
                · cases h
              · cases h
            · cases h
          · rename_i k ver m
            split at h
            · rename_i v' c₁ l hk
              split at h
              · rename_i hcc
                have hcc' := hcc
                simp only [Bool.and_eq_true, beq_iff_eq, Nat.blt_eq] at hcc
                obtain ⟨rfl, hlt⟩ := hcc
                split at h
                · rename_i l' hl'
                  split at h
                  · rename_i hroom
                    obtain ⟨ec, hec⟩ := castE_some hl'
                    cases ec
                    cases hec
                    obtain ⟨_, _, hrow⟩ := hx
                    obtain ⟨hm, hrow⟩ := hrow _ l false hk
                    have htl : (l.take m).length = m := by rw [List.length_take]; omega
                    obtain ⟨z, w', g1, g2⟩ := append_row (ty := rt) hs hE hT hsz hcp hby s1 s2 (k := k) (v := ver + 1) hlt (xs := l.take m) (fun p => Keeps.newer hk (Nat.lt_succ_self _)) (by rw [htl]; exact hroom) (val := v) (by
                      obtain ⟨_, hob⟩ := hs.hp k _ hk
                      split at hrow
                      · rename_i b n hb
                        simp only [hb] at hob
                        obtain ⟨cs, et, q1, q2, q3, q4, q5, q6⟩ := hob
                        obtain ⟨cap, r1, r2, r3⟩ := hrow
                        exact .inr ⟨b, n, cap, cs, et, _, by rw [htl]; exact r1, by rw [htl]; exact r2, r3, hk, rfl, Nat.lt_succ_self _, hb, q1, q2, Elems.take q4 m⟩
                      · obtain ⟨r1, r2⟩ := hrow
                        exact .inl ⟨r1, by rw [List.eq_nil_of_length_eq_zero r2]; simp⟩)
                    refine ⟨_, _, z, w', fun γ K => by simp only [vappend, ht, hte, hsz, hpos, hby, decide_true, Bool.and_self, hys, hk, hcc', hl', hroom, cond_true]; rfl, by rw [updH_one]; exact g2, g1⟩
                  · cases h
                · cases h
              · cases h
            · cases h
          · cases h
        · cases h
      · cases h
    · cases h
  · cases h
end
end Go.JL
/- The abstract machine, seventeenth part: make, literals of slices, stores. No program in sight. -/
set_option linter.unusedVariables false
set_option linter.unusedSimpArgs false
namespace Go.JL

section
variable {P : Program} {β : Place} {M : Mem} {B : Base} {T : Nat → LV} {H : Nat → Option VO} {a : Act} {w : World}

theorem freeze_mem : ∀ (ks : List Nat) (k : Nat) (o : VO), (k, o) ∈ freeze H ks → k ∈ ks ∧ ∃ v c l fz, H k = some ⟨v, .row c l, fz⟩ ∧ o = ⟨v, .row c l, true⟩
  | [], k, o, h => by simp [freeze] at h
  | j :: r, k, o, h => by
    have rec' : (k, o) ∈ freeze H r → k ∈ j :: r ∧ ∃ v c l fz, H k = some ⟨v, .row c l, fz⟩ ∧ o = ⟨v, .row c l, true⟩ := fun h => by
      obtain ⟨h1, h2⟩ := freeze_mem r k o h
      exact ⟨List.mem_cons_of_mem _ h1, h2⟩
    unfold freeze at h
    split at h
    · rename_i v c l fz hj
      simp only [Bool.cond_eq_ite] at h
      split at h
      · rcases List.mem_cons.1 h with h | h
        · cases h
          exact ⟨List.mem_cons_self, v, c, l, fz, hj, rfl⟩
        · exact rec' h
      · exact rec' h
    · exact rec' h
theorem freeze_none {ks : List Nat} {k : Nat} (h : H k = none) : updH H (freeze H ks) k = none := by
  rw [updH_not]
  · exact h
  · intro o hm
    obtain ⟨_, v, c, l, fz, h1, _⟩ := freeze_mem ks k o hm
    rw [h] at h1; cases h1
theorem freeze_other {ks : List Nat} {k : Nat} (h : k ∉ ks) : updH H (freeze H ks) k = H k :=
  updH_not _ _ fun o hm => h (freeze_mem ks k o hm).1

theorem buildMany_ok (hs : Sim B β M T H a w) {M' : Mem} (hM : M.le M') {c : TC} : ∀ (n : Nat) (l : List CV) (xs : List (El c)), buildMany H c n l = some xs → ∀ rd : Nat → Option Value, CellsR β H M rd l → (∀ k ∈ ownKeys l, k < 1000000 → Cov β H M' w k) →
    xs.length = n ∧ l.length = n * c.size ∧ Elems M' c xs rd
  | 0, [], xs, h, rd, _, _ => by
    simp only [buildMany, Option.some.injEq] at h
    subst h
    exact ⟨rfl, by simp, fun i x hx => by simp at hx⟩
  | 0, _ :: _, xs, h, _, _, _ => by simp [buildMany] at h
  | n + 1, l, xs, h, rd, hr, hc => by
    simp only [buildMany] at h
    split at h
    · rename_i x r hx
      split at h
      · rename_i ys hys
        simp only [Option.some.injEq] at h
        subst h
        obtain ⟨g1, g2, g3⟩ := build_ok hs hM c l x r hx rd hr hc
        subst g2
        obtain ⟨e1, e2, e3⟩ := buildMany_ok hs hM n _ ys hys _ (hr.drop c.size) (fun k hk => hc k (by
          have := ownKeys_append (l.take c.size) (l.drop c.size)
          rw [List.take_append_drop] at this
          rw [this]; exact List.mem_append.2 (.inr hk)))
        rw [List.length_drop] at e2
        refine ⟨by simp [e1], by rw [Nat.add_mul]; omega, fun i y hy => ?_⟩
        cases i with
        | zero =>
          simp at hy; subst hy
          exact CR.mono (Mem.le.refl _) c _ _ _ (fun o v _ hv => by simpa using hv) g1
        | succ i =>
          have := e3 i y (by simpa using hy)
          refine CR.mono (Mem.le.refl _) c y _ _ (fun o v _ hv => ?_) this
          show rd ((i + 1) * c.size + o) = some v
          rw [← hv]; congr 1; rw [Nat.succ_mul]; omega
      · cases h
    · cases h

theorem repeatL_get {γ : Type} (l : List γ) : ∀ (n i : Nat) (x : γ), (repeatL n l)[i]? = some x → i < n * l.length ∧ l[i % l.length]? = some x
  | 0, i, x, h => by simp [repeatL] at h
  | n + 1, i, x, h => by
    simp only [repeatL] at h
    rcases Nat.lt_or_ge i l.length with hi | hi
    · rw [List.getElem?_append_left hi] at h
      refine ⟨?_, by rw [Nat.mod_eq_of_lt hi]; exact h⟩
      rw [Nat.succ_mul]; omega
    · rw [List.getElem?_append_right hi] at h
      obtain ⟨h1, h2⟩ := repeatL_get l n _ x h
      refine ⟨by rw [Nat.succ_mul]; omega, ?_⟩
      rw [Nat.mod_eq_sub_mod hi]; exact h2
theorem repeatL_length {γ : Type} (l : List γ) : ∀ n, (repeatL n l).length = n * l.length
  | 0 => by simp [repeatL]
  | n + 1 => by simp [repeatL, repeatL_length l n, Nat.succ_mul, Nat.add_comm]

theorem zeros_ok {z : Array Value} {zs : List CV} (hl : z.size = zs.length) (hc : CellsR β H M (fun i => z[i]?) zs) (n : Nat) :
    CellsR β H M (fun i => ((Array.range (n * zs.length)).map (z[· % z.size]!))[i]?) (repeatL n zs) := by
  intro i x hx
  obtain ⟨h1, h2⟩ := repeatL_get zs n i x hx
  obtain ⟨u, g1, g2⟩ := hc _ x h2
  refine ⟨u, ?_, g2⟩
  have g1 : z[i % zs.length]? = some u := g1
  have h3 : i % z.size < z.size := by rw [hl]; have := (Array.getElem?_eq_some_iff.1 g1).1; omega
  simp only [Array.getElem?_map, Array.getElem?_range, h1, if_true, Option.map_some]
  rw [Array.getElem!_eq_getD, Array.getD_eq_getD_getElem?, hl, g1]
  rfl

theorem vbuildSlice_ok (hs : Sim B β M T H a w) {cx : Cx} (htt : ∀ t ty, cx.tt t = some ty → TyOk P t ty) {d : Nat} (hd : d < 10000) {t : Nat} {ty : Ty} (hty : TyOk P t ty) {n : Nat} {parts : List (Nat × LV)} {vparts : Array (Nat × Value)} (hm : vparts.toList.map (·.1) = parts.map (·.1))
    (hv : ∀ (i : Nat) (p : Nat × LV) (q : Nat × Value), parts[i]? = some p → vparts.toList[i]? = some q → LVR β H M q.2 p.2)
    {α : Type} {K : LV → List (Nat × VO) → Option α} {r : α} (h : vbuildSlice cx d ty n parts H K = some r) : Wr P B T H a w (fun γ K => vbuildSlice cx d ty n parts H K) (Instr.buildSlice t n vparts) := by
  unfold vbuildSlice at h
  split at h
  · rename_i e c hd1 hd2
    split at h
    · rename_i te hte
      have hT := hty.under_slice hd1
      simp only [Bool.cond_eq_ite] at h
      split at h
      · rename_i hcnd
        have hcnd' := hcnd
        simp only [Bool.and_eq_true, decide_eq_true_eq] at hcnd
        obtain ⟨⟨⟨hcode, hsz⟩, hpos⟩, hsmall⟩ := hcnd
        split at h
        · rename_i cells hf
          split at h
          · rename_i xs hxs hk0
            obtain ⟨z, z1, z2, z3, z4, z5, z6⟩ := (htt e te hte).run_zero (β := β) (H := H) (M := M) w
            obtain ⟨ie, zv, i1, i2, i3, i4, i5⟩ := (htt e te hte).info
            have hzz : z = zv := by
              have : (zeroValue e).run P w = .ok zv w := by simp [zeroValue, typeInfo, i1, i4]
              rw [z1] at this; cases this; rfl
            subst hzz
            have hzc := zeros_ok (β := β) (H := H) (M := M) (z := z.cells) z2 z4 n
            rw [z3] at hzc
            obtain ⟨cs', e1, e2, e3, e4⟩ := fill_ok (place := fun i => some (i * te.size, te.size)) (pl := rowPlaces te.size n) (fun i p hp => by
              simp only [rowPlaces, List.getElem?_map] at hp
              cases hi : (List.range n)[i]? with
              | none => rw [hi] at hp; cases hp
              | some j =>
                rw [hi] at hp
                have : j = i := by
                  obtain ⟨_, h⟩ := List.getElem?_eq_some_iff.1 hi
                  simpa using h.symm
                subst this
                simpa using hp) parts vparts.toList (repeatL n te.zero) ((Array.range (n * te.size)).map (z.cells[· % z.cells.size]!)) cells hm hv (by rw [repeatL_length, z3]; simp) hzc hf
            obtain ⟨M', m1, m2, m3⟩ := hs.freezes (ownKeys cells)
            obtain ⟨b1, b2, b3⟩ := buildMany_ok hs m2 n cells xs hxs _ e4 m3
            have hcp : 0 < c.size := by omega
            have hrow := m1.row (k := siteKey d 0) (v := 0) (c := c) (xs := xs) (cs := cs') (e := e) (siteKey_lt hd (by omega)) hcp (fun p => Keeps.new (freeze_none hk0)) (by rw [b1, e2, b2]; exact Nat.le_refl _) b3 (cap := n) (by rw [b1]; exact Nat.le_refl _) (by rw [e2, b2]; exact Nat.le_refl _)
            rw [b1] at hrow
            refine ⟨.c (.own (siteKey d 0) 0 .full), freeze H (ownKeys cells) ++ [(siteKey d 0, ⟨0, .row c xs, false⟩)], .slice (some ⟨w.heap.size, 0, none⟩) n n, w.alloc (.cells cs' e), fun γ K => ?_, by rw [updH_append]; exact hrow, ?_⟩
            · simp only [vbuildSlice, hd1, hd2, hte, hcnd', hf, hxs, hk0, cond_true]
            · have hfill : Instr.fill (fun i => some (i * ie.size, ie.size)) ((Array.range (n * ie.size)).map (z.cells[· % z.cells.size]!)) vparts.toList = some cs' := by rw [i2]; exact e1
              by_cases h0 : n * ie.size = 0
              · have hn : n = 0 := by
                  rcases Nat.mul_eq_zero.1 h0 with h | h
                  · exact h
                  · omega
                subst hn
                have he : (Array.map (fun x => z.cells[x % z.cells.size]!) (Array.range (0 * ie.size))) = Array.map (fun x => (#[] : Array Value)[x % (#[] : Array Value).size]!) (Array.range (0 * ie.size)) := by
                  rw [h0]; simp
                rw [he] at hfill
                simp [Instr.buildSlice, run_underlying hT, sizeOf, typeInfo, i1, newRow]
                simp at hfill
                rw [hfill]
                rfl
              · exact run_buildSlice w t e n vparts cs' ie z hT i1 i4 (by rw [i2]; omega) h0 hfill
          · cases h
        · cases h
      · cases h
    · cases h
  · cases h
theorem zsB_noKeys : ∀ (l : List Value) (xs : List CV), zsB l xs = true → ownKeys xs = []
  | [], [], _ => rfl
  | [], _ :: _, h => by simp [zsB] at h
  | _ :: _, [], h => by simp [zsB] at h
  | v :: r, x :: s, h => by
    simp only [zsB, Bool.and_eq_true] at h
    have := zsB_noKeys r s h.2
    cases x <;> simp only [ownKeys, this]
    have h1 := h.1
    simp [zB] at h1
theorem vmake_ok (hs : Sim B β M T H a w) {cx : Cx} (htt : ∀ t ty, cx.tt t = some ty → TyOk P t ty) {d : Nat} (hd : d < 10000) {t : Nat} {ty : Ty} (hty : TyOk P t ty) {x : LV} {v : Value} (hx : LVR β H M v x)
    {α : Type} {K : LV → List (Nat × VO) → Option α} {r : α} (h : vmake cx d ty x H K = some r) : Wr P B T H a w (fun γ K => vmake cx d ty x H K) (Instr.makeSlice t v v) := by
  unfold vmake at h
  split at h
  · rename_i _ _ e c k n hd1 hd2
    have hv := linv_int hx
    subst hv
    split at h
    · rename_i te hte
      have hT := hty.under_slice hd1
      simp only [Bool.cond_eq_ite] at h
      split at h
      · rename_i hcnd
        have hcnd' := hcnd
        simp only [Bool.and_eq_true, decide_eq_true_eq] at hcnd
        obtain ⟨⟨⟨⟨hk, hcode⟩, hsz⟩, hpos⟩, hby⟩ := hcnd
        subst hk
        split at h
        · rename_i zx hzx hk0
          split at h
          · rename_i hn
            have hn' := hn
            simp only [Bool.and_eq_true, decide_eq_true_eq] at hn
            obtain ⟨h0, hroom⟩ := hn
            obtain ⟨i, d1, z, h1, h2, h3, h4, h5, h6, h7, h8, _⟩ := (htt e te hte).facts
            have hz := zsB_ok (β := β) (H := H) (M := M) _ _ h8
            have hzs : z.cells.size = c.size := by rw [← hsz, ← h6]; simpa using hz.1
            have hcr := (buildAll_ok hs (Mem.le.refl _) hzx (rd := fun o => z.cells[o]?) (by simpa using hz.2) (by rw [zsB_noKeys _ _ h8]; intro k hk; cases hk)).1
            have hcp : 0 < c.size := by omega
            have hbytes : (i.bytes : Int) * n ≤ 281474976710656 := by
              have : ((te.bytes * n.toNat : Nat) : Int) ≤ 140737488355328 := by omega
              rw [Int.natCast_mul, Int.toNat_of_nonneg h0, ← h4] at this
              omega
            have hsize : (madeCells z.cells (n.toNat * i.size)).size = n.toNat * c.size := by rw [size_madeCells, h3, hsz]
            have hn63 : @LE.le Int _ n 9223372036854775807 := by
              have : 1 * n.toNat ≤ te.bytes * n.toNat := Nat.mul_le_mul_right _ hby
              omega
            · have hrun := run_make (P := P) w t e i z hT h1 h7 .i64 .i64 n n h0 (Int.le_refl _) hbytes hn63
              have hrow := hs.row (k := siteKey d 0) (v := 0) (c := c) (xs := List.replicate n.toNat zx) (cs := madeCells z.cells (n.toNat * i.size)) (e := e) (siteKey_lt hd (by omega)) hcp (fun p => Keeps.new hk0) (by rw [List.length_replicate, hsize]; exact Nat.le_refl _) (by
                intro j y hy
                rw [List.getElem?_replicate] at hy
                split at hy
                · rename_i hj
                  cases hy
                  refine CR.mono (Mem.le.refl _) c _ _ _ (fun o u ho hu => ?_) hcr
                  have hu : z.cells[o]? = some u := hu
                  show (madeCells z.cells (n.toNat * i.size))[j * c.size + o]? = some u
                  have hlt := place_lt hj ho
                  have hmod : (j * c.size + o) % c.size = o := by rw [Nat.mul_comm, Nat.mul_add_mod]; exact Nat.mod_eq_of_lt ho
                  simp only [madeCells, Array.getElem?_map, Array.getElem?_range, h3, hsz, hlt, if_true, Option.map_some]
                  rw [Array.getElem!_eq_getD, Array.getD_eq_getD_getElem?, hzs, hmod, hu]
                  rfl
                · cases hy) (cap := n.toNat) (by rw [List.length_replicate]; exact Nat.le_refl _) (by rw [hsize]; exact Nat.le_refl _)
              rw [List.length_replicate] at hrow
              refine ⟨.c (.own (siteKey d 0) 0 .full), [(siteKey d 0, ⟨0, .row c (List.replicate n.toNat zx), false⟩)], _, _, fun γ K => ?_, by rw [updH_one]; exact hrow, hrun⟩
              simp only [vmake, hd1, hd2, hte, hcode, hsz, hzx, hk0, hn', cond_true, decide_true, Bool.and_self, hcp, hby]
          · cases h
        · cases h
      · cases h
    · cases h
  · cases h
end
end Go.JL
/- The abstract machine, eighteenth part: stores. No program in sight. -/
set_option linter.unusedVariables false
set_option linter.unusedSimpArgs false
namespace Go.JL

section
variable {P : Program} {β : Place} {M : Mem} {B : Base} {T : Nat → LV} {H : Nat → Option VO} {a : Act} {w : World}

theorem run_storeVar_at {t : Nat} {ty : Ty} (hty : TyOk P t ty) {v : Value} (hl : v.cells.toList.length = ty.size) (h1 : ∀ u ∈ v.cells.toList, u.oneCell' = true) {b off : Nat} {cs : Array Value} {e : TypeId}
    (hg : w.heap[b]? = some (.cells cs e (0, 0))) (hfit : off + ty.size ≤ cs.size) :
    (Instr.storeAt t (.pointer (some (adr b off))) v).run P w = .ok () (w.setRow b (splice cs.toList off v.cells.toList).toArray) := by
  have hst := run_storeCells_at P b off e v.cells.toList 0 cs w hg (by omega) h1
  simp only [Nat.add_zero] at hst
  have hsz : v.cells.size = ty.size := by rw [← hl]; simp
  have hsz' : ¬ (v.cells.size ≠ ty.size) := by simp [hsz]
  simp only [Instr.storeAt, Instr.sureAddr, storeVar, Sem.run_bind, Sem.run_pure, Result.andThen_ok, hty.run_size w, hsz', if_false, adr_eq, hst]
  simp [splice, List.append_assoc]
theorem updH_upd_same (H : Nat → Option VO) (ups : List (Nat × VO)) (k : Nat) (o : VO) : updH H (ups ++ [(k, o)]) = upd (updH H ups) k (some o) := by rw [updH_append]; rfl
theorem ownKeys_flat : ∀ (c : TC) (x : El c), ownKeys (flat c x) = []
  | .pair a b, x => by rw [flat_pair, ownKeys_append, ownKeys_flat a, ownKeys_flat b]; rfl
  | .one a, x => ownKeys_flat a x
  | .unit, _ => rfl
  | .bool, _ => rfl
  | .int _, _ => rfl
  | .str, _ => rfl
  | .list _, _ => rfl
  | .fn _, _ => rfl
theorem ownKeys_sub {k : Nat} (l : List CV) (n : Nat) : (k ∈ ownKeys (l.take n) → k ∈ ownKeys l) ∧ (k ∈ ownKeys (l.drop n) → k ∈ ownKeys l) := by
  have := ownKeys_append (l.take n) (l.drop n)
  rw [List.take_append_drop] at this
  rw [this]
  exact ⟨fun h => List.mem_append.2 (.inl h), fun h => List.mem_append.2 (.inr h)⟩
theorem splice_get {γ : Type} (l : List γ) (off : Nat) (new : List γ) (h : off + new.length ≤ l.length) (j : Nat) :
    (splice l off new)[j]? = if j < off then l[j]? else if j < off + new.length then new[j - off]? else l[j]? := by
  unfold splice
  have hl : (l.take off).length = off := by rw [List.length_take]; omega
  split
  · rename_i h1
    rw [List.getElem?_append_left (by omega), List.getElem?_take, if_pos h1]
  · rename_i h1
    rw [List.getElem?_append_right (by omega), hl]
    split
    · rename_i h2
      rw [List.getElem?_append_left (by omega)]
    · rename_i h2
      rw [List.getElem?_append_right (by omega), List.getElem?_drop]
      congr 1; omega

/-- What a store comes to. -/
def WrU (P : Program) (B : Base) (T : Nat → LV) (H : Nat → Option VO) (a : Act) (w : World) (f : (γ : Type) → (List (Nat × VO) → Option γ) → Option γ) (s : Sem Unit) : Prop :=
  ∃ ups w', (∀ (γ : Type) (K : List (Nat × VO) → Option γ), f γ K = K ups) ∧ R B T (updH H ups) a w' ∧ s.run P w = .ok () w'

theorem vstore_ok (hs : Sim B β M T H a w) {t : Nat} {ty : Ty} (hty : TyOk P t ty) {p x : LV} {vp v : Value} (hp : LVR β H M vp p) (hx : LVR β H M v x)
    {α : Type} {K : List (Nat × VO) → Option α} {r : α} (h : vstore ty p x H K = some r) : WrU P B T H a w (fun γ K => vstore ty p x H K) (Instr.storeAt t vp v) := by
  unfold vstore at h
  simp only [Bool.cond_eq_ite] at h
  split at h
  · rename_i hcnd
    have hcnd' := hcnd
    simp only [Bool.and_eq_true, decide_eq_true_eq] at hcnd
    obtain ⟨hlen, hal⟩ := hcnd
    obtain ⟨x1, x2, x3, _⟩ := hx.cells hal
    split at h
    · rename_i k ver off
      split at h
      · rename_i v' l hk
        split at h
        · rename_i hc2
          have hc2' := hc2
          simp only [Bool.and_eq_true, beq_iff_eq, decide_eq_true_eq] at hc2
          obtain ⟨rfl, hfit⟩ := hc2
          obtain ⟨_, ad, rfl, hpl⟩ := hp
          obtain ⟨b, n, hb, rfl⟩ := hpl l false hk
          obtain ⟨_, b', cs, e, g1, g2, g3, g4, g5⟩ := hs.hp k _ hk
          rw [hb] at g1; cases g1
          have hrun := run_storeVar_at hty (v := v) (by omega) x3 (off := off) g2 (by rw [g3, ← hlen]; exact hfit)
          have hkeep : Keeps β β H (upd H k (some ⟨ver, .cells (splice l off x.cells), false⟩)) := by
            intro j vj hj
            by_cases e : j = k
            · subst e; rw [hk] at hj; cases hj
              exact ⟨_, upd_same _ _ _, Nat.le_refl _, fun _ => ⟨rfl, trivial⟩⟩
            · exact ⟨vj, by rw [upd_ne _ _ e]; exact hj, Nat.le_refl _, fun _ => ⟨rfl, sameOb.refl _⟩⟩
          have hsl : (splice l off x.cells).length = l.length := splice_length _ _ _ hfit
          have hsc : (splice cs.toList off v.cells.toList).length = cs.size := by rw [splice_length _ _ _ (by have hcl : cs.toList.length = cs.size := Array.length_toList; omega)]; simp
          have hw := hs.write (vo' := ⟨ver, .cells (splice l off x.cells), false⟩) (cs' := (splice cs.toList off v.cells.toList).toArray) hk hb g5 (Nat.le_refl _) (fun _ => trivial) (by
            refine ⟨rfl, b, _, e, by rw [hsl]; exact hb, setRow_heap w b cs _ e _ g2, by rw [List.size_toArray, hsc, hsl, g3], ?_, g5⟩
            have := CellsR.splice (β := β) (H := H) (M := M) (cs := cs.toList) (l := l) (by simpa using g3) (by simpa using g4) (vs := v.cells.toList) (xs := x.cells) x1 x2 (off := off) hfit
            exact CellsR.keep hkeep (Mem.le.refl _) (fun o u hu => by simpa using hu) this)
          refine ⟨[(k, ⟨ver, .cells (splice l off x.cells), false⟩)], _, fun γ K => ?_, ⟨β, M, by rw [updH_one]; exact hw⟩, hrun⟩
          simp only [vstore, hcnd', hk, hc2', cond_true]
        · cases h
      · cases h
    · rename_i k ver i j
      split at h
      · rename_i v' c l hk
        split at h
        · rename_i hc2
          have hc2' := hc2
          simp only [Bool.and_eq_true, beq_iff_eq, Bool.not_eq_true'] at hc2
          obtain ⟨rfl, hno⟩ := hc2
          cases hy : l[i]? with
          | none => rw [hy] at h; cases h
          | some y =>
            rw [hy] at h
            simp only [Option.bind] at h
            split at h
            · rename_i z hz
              split at h
              · rename_i hfit
                have hfit' := hfit
                simp only [decide_eq_true_eq] at hfit
                have hno' : k ∉ ownKeys x.cells := by simpa using hno
                obtain ⟨_, ad, rfl, hpl⟩ := hp
                obtain ⟨b, n, hb, rfl⟩ := hpl c l false hk
                obtain ⟨M', m1, m2, m3⟩ := hs.freezes (ownKeys x.cells)
                have hk1 : updH H (freeze H (ownKeys x.cells)) k = some ⟨ver, .row c l, false⟩ := by rw [freeze_other hno']; exact hk
                obtain ⟨q0, hob⟩ := hs.hp k _ hk
                simp only [hb] at hob
                obtain ⟨cs, e, q1, q2, q3, q4, q5, q6⟩ := hob
                have hi : i < l.length := (List.getElem?_eq_some_iff.1 hy).1
                have hrow : i * c.size + c.size ≤ l.length * c.size := by rw [← Nat.succ_mul]; exact Nat.mul_le_mul_right _ hi
                have hin : (i * c.size + j) + v.cells.toList.length ≤ cs.toList.length := by have hcl : cs.toList.length = cs.size := Array.length_toList; omega
                have hrun := run_storeVar_at hty (v := v) (by omega) x3 (off := i * c.size + j) q1 (by have hcl : cs.toList.length = cs.size := Array.length_toList; omega)
                have hget := splice_get cs.toList (i * c.size + j) v.cells.toList hin
                have hav : ∀ a : Addr, a.block = b → M' a = none := by
                  obtain ⟨_, _, _, _, hh⟩ := (m1.hp k _ hk1).block hb
                  exact hh rfl
                have hsc : (splice cs.toList (i * c.size + j) v.cells.toList).length = cs.size := by rw [splice_length _ _ _ hin]; simp
                have hw := m1.write (vo' := ⟨ver, .row c (l.set i z), false⟩) (cs' := (splice cs.toList (i * c.size + j) v.cells.toList).toArray) hk1 hb hav (Nat.le_refl _) (fun _ => ⟨rfl, by simp⟩) (by
                  refine ⟨q0, ?_⟩
                  simp only [hb]
                  refine ⟨_, e, setRow_heap w b cs _ e _ q1, by rw [List.size_toArray, hsc, q2], by rw [List.length_set]; exact q3, ?_, fun _ => hav, fun hf => by cases hf⟩
                  intro i' y' hy'
                  rw [List.getElem?_set] at hy'
                  split at hy'
                  · rename_i hii
                    subst hii
                    cases hy'
                    have hcells : CellsR β H M (fun o => (splice cs.toList (i * c.size + j) v.cells.toList)[i * c.size + o]?) (splice (flat c y) j x.cells) := by
                      intro o q hq
                      have hfl : (flat c y).length = c.size := flat_length c y
                      rw [splice_get _ _ _ (by omega)] at hq
                      simp only [hget]
                      split at hq
                      · rename_i h1
                        have hcr := CR.cells (β := β) (H := H) c y _ (q4 i y hy) o q hq
                        obtain ⟨u, g1, g2⟩ := hcr
                        exact ⟨u, by rw [if_pos (by omega)]; simpa using g1, g2⟩
                      · rename_i h1
                        split at hq
                        · rename_i h2
                          obtain ⟨u, g1, g2⟩ := x2 _ q hq
                          refine ⟨u, ?_, g2⟩
                          rw [if_neg (by omega), if_pos (by omega), ← g1]
                          congr 1; omega
                        · rename_i h2
                          have hcr := CR.cells (β := β) (H := H) c y _ (q4 i y hy) o q hq
                          obtain ⟨u, g1, g2⟩ := hcr
                          refine ⟨u, ?_, g2⟩
                          rw [if_neg (by omega), if_neg (by omega)]; simpa using g1
                    have := (buildAll_ok hs m2 hz hcells (fun q hq => m3 q (by
                      unfold splice at hq
                      rw [ownKeys_append, ownKeys_append] at hq
                      have hfk := ownKeys_flat c y
                      rcases List.mem_append.1 hq with hq | hq
                      · have := (ownKeys_sub (k := q) (flat c y) j).1 hq
                        rw [hfk] at this; cases this
                      · rcases List.mem_append.1 hq with hq | hq
                        · exact hq
                        · have := (ownKeys_sub (k := q) (flat c y) (j + x.cells.length)).2 hq
                          rw [hfk] at this; cases this))).1
                    refine CR.mono (Mem.le.refl _) c _ _ _ (fun o u ho hu => ?_) this
                    simpa using hu
                  · rename_i hii
                    refine CR.mono m2 c y' _ _ (fun o u ho hu => ?_) (q4 i' y' hy')
                    show (_ : Array Value)[i' * c.size + o]? = some u
                    simp only [List.getElem?_toArray, hget]
                    have hu : cs.toList[i' * c.size + o]? = some u := by simpa using hu
                    rcases Nat.lt_or_ge i' i with hlt | hge
                    · have : i' * c.size + c.size ≤ i * c.size := by rw [← Nat.succ_mul]; exact Nat.mul_le_mul_right _ hlt
                      rw [if_pos (by omega)]; exact hu
                    · have : i * c.size + c.size ≤ i' * c.size := by rw [← Nat.succ_mul]; exact Nat.mul_le_mul_right _ (by omega)
                      rw [if_neg (by omega), if_neg (by omega)]; exact hu)
                refine ⟨freeze H (ownKeys x.cells) ++ [(k, ⟨ver, .row c (l.set i z), false⟩)], _, fun γ K => ?_, ⟨β, M', by rw [updH_upd_same]; exact hw⟩, hrun⟩
                simp only [vstore, hcnd', hk, hc2', hy, Option.bind, hz, hfit', cond_true]
              · cases h
            · cases h
        · cases h
      · cases h
    · cases h
  · cases h
end
end Go.JL
