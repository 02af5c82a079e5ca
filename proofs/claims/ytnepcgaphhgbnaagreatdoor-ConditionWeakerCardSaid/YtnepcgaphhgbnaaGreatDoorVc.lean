/- The abstract machine over the model's own code, and its soundness: text 3 of 4. No program in sight. -/
import Derived.Test.YtnepcgaphhgbnaaGreatDoorVb
import Derived.Lib.ConvBytes
import Derived.Laws.BytesString
import Derived.Laws.StructEq
import Derived.LoopN
/- The abstract machine, nineteenth part: conversions, equality, function values. No program in sight. -/
set_option linter.unusedVariables false
set_option linter.unusedSimpArgs false
namespace Go.JL

section
variable {P : Program} {β : Place} {M : Mem} {B : Base} {T : Nat → LV} {H : Nat → Option VO} {a : Act} {w : World}

/-- What nobody may write and is laid down new. -/
theorem Sim.datum (h : Sim B β M T H a w) {w' : World} (hs : w'.heap.size = w.heap.size + 1) (hold : ∀ j, j < w.heap.size → w'.heap[j]? = w.heap[j]?) (ho : w'.os = w.os) (ht : w'.tape = w.tape) (hp : w'.output = w.output) :
    ∃ M', Sim B β M' T H a w' ∧ M.le M' ∧ ∀ o v, w'.cell? (adr w.heap.size o) = some v → M' (adr w.heap.size o) = some v := by
  let M' : Mem := fun x => if x.block = w.heap.size then w'.cell? x else M x
  have hM : M.le M' := by
    intro x v hx
    have := h.memlt hx
    show (if _ then _ else _) = _
    rw [if_neg (by omega)]; exact hx
  refine ⟨M', h.step (Keeps.refl _ _) hM ?_ h.inj ?_ h.own h.ins ?_ ?_, hM, fun o v hv => ?_⟩
  · intro j vj hj
    refine (h.hp j vj hj).keep (Keeps.refl _ _) hM rfl (fun b n hb => hold b (h.lt hj hb)) (fun b n hb hf x hx => ?_)
    obtain ⟨cs, e, _, _, h4⟩ := (h.hp j vj hj).block hb
    have := h.lt hj hb
    show (if _ then _ else _) = _
    rw [if_neg (by omega)]; exact h4 hf x hx
  · intro x v hx
    have hx : (if _ then _ else _) = _ := hx
    split at hx
    · exact hx
    · rw [World.cell?_of_block (w := w) (hold x.block (h.memlt hx))]
      exact h.mem x v hx
  · intro x v hx
    have hx : (if _ then _ else _) = _ := hx
    split at hx
    · rename_i e; exact .inr (by rw [e]; exact h.ext.size)
    · exact .inl hx
  · refine ⟨ho.trans h.ext.os, ht.trans h.ext.tape, hp.trans h.ext.output, by have := h.ext.size; omega, fun j hj hn => ?_⟩
    rw [hold j (Nat.lt_of_lt_of_le hj h.ext.size)]
    exact h.ext.block j hj hn
  · show (if _ then _ else _) = _
    rw [if_pos (adr_block _ _)]; exact hv

theorem foldl_push (ns : List Int) : ∀ (s : ByteArray), ns.foldl (fun r n => r.push (UInt8.ofNat n.toNat)) s = ⟨(s.data.toList ++ ns.map fun n => UInt8.ofNat n.toNat).toArray⟩ := by
  induction ns with
  | nil => intro s; simp
  | cons n r ih =>
    intro s
    rw [List.foldl_cons, ih]
    simp [ByteArray.push]
theorem Wr.of_read {f : (γ : Type) → (LV → Option γ) → Option γ} {s : Sem Value} (hs : Sim B β M T H a w) (h : Read1 P β H M w f s) : Wr P B T H a w (fun γ K => f γ fun v => K v []) s := by
  obtain ⟨lv, z, h1, h2, h3⟩ := h
  exact ⟨lv, [], z, w, fun γ K => h1 γ _, ⟨β, M, hs, h2⟩, h3⟩

theorem vconvert_ok (hs : Sim B β M T H a w) {cx : Cx} (htt : ∀ t ty, cx.tt t = some ty → TyOk P t ty) {s t : Nat} {src dst : Ty} (hsrc : TyOk P s src) (hdst : TyOk P t dst) {x : LV} {v : Value} (hx : LVR β H M v x)
    {α : Type} {K : LV → Option α} {r : α} (h : vconvert cx src dst x H K = some r) : Wr P B T H a w (fun γ K => vconvert cx src dst x H fun v => K v []) (convert s t v) := by
  obtain ⟨_, ds, _, _, hus, _⟩ := hsrc.facts
  unfold vconvert at h
  split at h
  · rename_i k hd
    split at h
    · rename_i k' n
      have hv := linv_int hx
      subst hv
      refine ⟨_, [], .int k (k.wrap n), w, fun γ K => by simp only [vconvert, hd], ⟨β, M, hs, lmk_int k _⟩, ?_⟩
      simp [convert, run_underlying hus, run_underlying (hdst.under_int hd), Conv.intToInt]
    · cases h
  · rename_i hd
    split at h
    · rename_i hsd
      split at h
      · rename_i l
        have hv := linv_str hx
        subst hv
        refine ⟨_, [], .string ⟨l.toArray⟩, w, fun γ K => by simp only [vconvert, hd, hsd], ⟨β, M, hs, lmk_str l⟩, ?_⟩
        simp [convert, run_underlying (hsrc.under_str hsd), run_underlying (hdst.under_str hd)]
      · cases h
    · rename_i e hsd
      split at h
      · rename_i hte
        split at h
        · rename_i l hl
          obtain ⟨te, hte1, hte2⟩ := Option.map_eq_some_iff.1 hte
          have hu8 := (htt e te hte1).under_int hte2
          have hus := hsrc.under_slice hsd
          have hud := hdst.under_str hd
          refine ⟨.c (.s .str (l.map fun n => UInt8.ofNat n.toNat)), [], .string ⟨(l.map fun n => UInt8.ofNat n.toNat).toArray⟩, w, fun γ K => by simp only [vconvert, hd, hsd, hte, hl], ⟨β, M, hs, lmk_str _⟩, ?_⟩
          cases x with
          | c cv =>
            obtain ⟨A, cap, rfl, h2, h3⟩ := elems_ok hs hl hx
            rw [run_convert_bytes_string w s t e A l.length cap hus hu8 hud]
            cases A with
            | none =>
              have h0 : l = [] := by
                cases l with
                | nil => rfl
                | cons x r => obtain ⟨ad, e, _⟩ := h3 0 x rfl; cases e
              subst h0
              rfl
            | some ad =>
              have hload := run_loadCells_list (P := P) w ad (l.map (Value.int .u8)) (fun j u hu => by
                rw [List.getElem?_map] at hu
                cases hj : l[j]? with
                | none => rw [hj] at hu; cases hu
                | some n =>
                  rw [hj] at hu
                  cases hu
                  obtain ⟨ad', e, g⟩ := h3 j n hj
                  cases e
                  have g : w.cell? (ad.add (j * 1 + 0)) = some (.int .u8 n) := g
                  simpa using g)
              rw [List.length_map] at hload
              rw [run_bytesToString w ad l.length cap l hload, foldl_push]
              rfl
          | agg l => cases hl
          | tup l => cases hl
        · cases h
      · cases h
    · cases h
  · rename_i e hd
    split at h
    · rename_i hte
      split at h
      · rename_i l
        have hv := linv_str hx
        subst hv
        obtain ⟨te, hte1, hte2⟩ := Option.map_eq_some_iff.1 hte
        have hu8 := (htt e te hte1).under_int hte2
        have hrun := Lib.run_convert_string_bytes w s t e ⟨l.toArray⟩ hus (hdst.under_slice hd) hu8
        obtain ⟨M', m1, m2, m3⟩ := hs.datum (w' := Lib.bytesWorld w e ⟨l.toArray⟩) (Lib.bytesWorld_size w e _) (Lib.bytesWorld_at_old w e _) rfl rfl rfl
        refine ⟨.c (.s (.list (.int .u8)) (l.map fun b => ((b.toNat : Nat) : Int))), [], _, _, fun γ K => by simp only [vconvert, hd, hte], ⟨β, M', m1, rfl, some ⟨w.heap.size, 0, none⟩, grownCap w (⟨l.toArray⟩ : ByteArray).size 0 e, ?_, ?_, fun i y hy => ⟨_, rfl, ?_⟩⟩, hrun⟩
        · have : (⟨l.toArray⟩ : ByteArray).size = l.length := by simp [ByteArray.size]
          rw [this]
          show some _ = some _
          rw [List.length_map]
        · have : (⟨l.toArray⟩ : ByteArray).size = l.length := by simp [ByteArray.size]
          rw [this, List.length_map]
          exact grownCap_ge w _ _ _
        · have hy : (l.map fun b => ((b.toNat : Nat) : Int))[i]? = some y := hy
          rw [List.getElem?_map] at hy
          cases hj : l[i]? with
          | none => rw [hj] at hy; cases hy
          | some b =>
            rw [hj] at hy
            cases hy
            have hi := (List.getElem?_eq_some_iff.1 hj).1
            have := Lib.bytesWorld_cell w e ⟨l.toArray⟩ i (by simpa [ByteArray.size] using hi)
            have hb : (⟨l.toArray⟩ : ByteArray).data.toList.getD i 0 = b := by simp [List.getD, hj]
            rw [hb] at this
            have h1 := m3 i _ (by rw [adr_eq]; exact this)
            show M' ((adr w.heap.size 0).add (i * 1 + 0)) = some _
            rw [adr_add]
            simpa using h1
      · cases h
    · cases h
  · cases h
end
end Go.JL
/- The abstract machine, twentieth part: equality, function values. No program in sight. -/
set_option linter.unusedVariables false
set_option linter.unusedSimpArgs false
namespace Go.JL

section
variable {P : Program} {β : Place} {M : Mem} {B : Base} {T : Nat → LV} {H : Nat → Option VO} {a : Act} {w : World}

theorem byteArray_beq (a b : List UInt8) : ((⟨a.toArray⟩ : ByteArray).toList == (⟨b.toArray⟩ : ByteArray).toList) = (a == b) := by
  rw [ByteArray.toList_eq, ByteArray.toList_eq]
theorem eqCell_run {cx : Cx} (htt : ∀ t ty, cx.tt t = some ty → TyOk P t ty) {t : Nat} {x y : CV} {r : Bool} (h : eqCell ((cx.tt t).map Ty.d) x y = some r) {u v : Value} (hu : CVR β H M u x) (hv : CVR β H M v y) {cs1 cs2 : Array Value} {off d : Nat} (h1 : cs1[off]? = some u) (h2 : cs2[off]? = some v) (w : World) :
    (part t cs1 off).run P w = .ok u w ∧ (part t cs2 off).run P w = .ok v w ∧ (Op.equalIn (d + 1) t u v).run P w = .ok r w := by
  unfold eqCell at h
  split at h
  · rename_i _ _ _ k0 k a k' b e
    obtain ⟨ty, h3, h4⟩ := Option.map_eq_some_iff.1 e
    have hT := (htt t ty h3).under_int h4
    have e1 := inv_int hu; have e2 := inv_int hv
    subst e1; subst e2
    simp only [Bool.cond_eq_ite, decide_eq_true_eq] at h
    split at h
    · rename_i hk
      subst hk; cases h
      exact ⟨by simp [part, isAgg, run_underlying hT, h1], by simp [part, isAgg, run_underlying hT, h2], run_equalIn_int w d t _ _ _ _ hT⟩
    · cases h
  · rename_i _ _ _ a b e
    obtain ⟨ty, h3, h4⟩ := Option.map_eq_some_iff.1 e
    have hT := (htt t ty h3).under_str h4
    have e1 := inv_str hu; have e2 := inv_str hv
    subst e1; subst e2; cases h
    exact ⟨by simp [part, isAgg, run_underlying hT, h1], by simp [part, isAgg, run_underlying hT, h2], by rw [run_equalIn_string w d t _ _ hT, byteArray_beq]⟩
  · rename_i _ _ _ a b e
    obtain ⟨ty, h3, h4⟩ := Option.map_eq_some_iff.1 e
    have hT := (htt t ty h3).under_bool h4
    have e1 := inv_bool hu; have e2 := inv_bool hv
    subst e1; subst e2; cases h
    exact ⟨by simp [part, isAgg, run_underlying hT, h1], by simp [part, isAgg, run_underlying hT, h2], run_equalIn_bool w d t _ _ hT⟩
  · cases h
theorem eqFs_run {cx : Cx} (htt : ∀ t ty, cx.tt t = some ty → TyOk P t ty) {cs1 cs2 : Array Value} {d : Nat} (w : World) : ∀ (fs : List Field) (i : Nat) (l m : List CV) (r : Bool), (∀ f ∈ fs, f.name ≠ "_") → eqFs cx (fs.map fun f => (f.offset, f.type)) i l m = some r →
    CellsR β H M (fun o => cs1[i + o]?) l → CellsR β H M (fun o => cs2[i + o]?) m → (Op.eqFields (d + 1) cs1 cs2 fs).run P w = .ok r w
  | [], i, l, m, r, _, h, _, _ => by
    cases l <;> cases m <;> simp [eqFs] at h
    subst h; rfl
  | f :: fs, i, l, m, r, hn, h, h1, h2 => by
    cases l with
    | nil => simp [eqFs] at h
    | cons x l =>
      cases m with
      | nil => simp [eqFs] at h
      | cons y m =>
        simp only [List.map_cons, eqFs, Bool.cond_eq_ite, beq_iff_eq] at h
        split at h
        · rename_i hoff
          split at h
          · rename_i a b ha hb
            cases h
            obtain ⟨u, u1, u2⟩ := h1 0 x rfl
            obtain ⟨v, v1, v2⟩ := h2 0 y rfl
            have u1 : cs1[f.offset]? = some u := by rw [hoff]; exact u1
            have v1 : cs2[f.offset]? = some v := by rw [hoff]; exact v1
            obtain ⟨g1, g2, g3⟩ := eqCell_run htt ha u2 v2 u1 v1 (d := d) w
            have ih := eqFs_run (d := d) htt w fs (i + 1) l m b (fun f hf => hn f (List.mem_cons_of_mem _ hf)) hb (by simpa [Nat.add_assoc] using h1.tail) (by simpa [Nat.add_assoc] using h2.tail)
            have hne := hn f List.mem_cons_self
            simp only [Op.eqFields, ne_eq, hne, not_false_eq_true, if_true, Sem.run_bind, g1, g2, g3, Result.andThen_ok]
            cases a
            · simp
            · simpa using ih
          · cases h
        · cases h

theorem vbinA_ok {cx : Cx} (htt : ∀ t ty, cx.tt t = some ty → TyOk P t ty) {op : BinOp} {t : Nat} {x y : LV} {v u : Value} (X Y : Operand) (hv : LVR β H M v x) (hu : LVR β H M u y)
    {α : Type} {K : LV → Option α} {r : α} (h : vbinA cx op t x y K = some r) : Pure1 P β H M (fun γ K => vbinA cx op t x y K) (do eqGuard op t X Y v u; binOp op t v u) := by
  unfold vbinA at h
  split at h
  · rename_i a b
    split at h
    · rename_i ty ht
      split at h
      · rename_i gs hd
        simp only [Bool.cond_eq_ite] at h
        split at h
        · rename_i heq
          split at h
          · rename_i r0 hr0
            have hty := htt t ty ht
            obtain ⟨fs, f1, f2, f3⟩ := hty.under_struct hd
            obtain ⟨_, _, _, _, _, _, _, _, _, _, _, _, hE⟩ := hty.facts
            have hE := hE heq
            simp only [eqB, Bool.and_eq_true, Bool.not_eq_true', f1] at hE
            obtain ⟨⟨e1, e2⟩, e3⟩ := hE
            obtain ⟨vs, rfl, s1, s2⟩ := hv
            obtain ⟨us, rfl, t1, t2⟩ := hu
            have hfo : P.fieldsOf t = fs := by simp [Program.fieldsOf, f1]
            have hrun : ∀ w : World, (Op.equalIn 10000 t (.agg vs) (.agg us)).run P w = .ok r0 w := fun w => by
              rw [run_equalIn_struct w 9999 t vs us (by rw [hfo]; exact f1) e1, hfo]
              refine eqFs_run htt w fs.toList 0 a b r0 (fun f hf => ?_) (by rw [f2]; exact hr0) (by simpa using s2) (by simpa using t2)
              have := List.all_eq_true.1 e2 f hf
              simp only [Bool.and_eq_true] at this
              intro hh
              have h0 := this.1
              rw [hh] at h0
              revert h0
              decide
            split at h
            · refine ⟨.c (.s .bool r0), .bool r0, fun γ K => by simp only [vbinA, ht, hd, heq, cond_true, hr0], lmk_bool r0, fun w => ?_⟩
              simp only [Sem.run_bind, run_eqGuard_agg w _ _ _ _ _ _ e3, Result.andThen_ok, run_eql_struct, hrun w]
            · refine ⟨.c (.s .bool (!r0)), .bool (!r0), fun γ K => by simp only [vbinA, ht, hd, heq, cond_true, hr0], lmk_bool _, fun w => ?_⟩
              simp only [Sem.run_bind, run_eqGuard_agg w _ _ _ _ _ _ e3, Result.andThen_ok, run_neq_struct, hrun w]
            · cases h
          · cases h
        · cases h
      · cases h
    · cases h
  · rename_i a b
    have h1 := linv_bool hv; have h2 := linv_bool hu
    subst h1; subst h2
    split at h
    · rename_i e
      obtain ⟨ty, h3, h4⟩ := Option.map_eq_some_iff.1 e
      have hT := (htt t ty h3).under_bool h4
      split at h
      · refine ⟨.c (.s .bool (a == b)), .bool (a == b), fun γ K => by simp only [vbinA, e], lmk_bool _, fun w => ?_⟩
        simp only [Sem.run_bind, run_guard_other _ t X Y (.bool a) (.bool b) rfl (by simp) w, Result.andThen_ok]
        exact run_eql_bool w t a b hT
      · refine ⟨.c (.s .bool !(a == b)), .bool !(a == b), fun γ K => by simp only [vbinA, e], lmk_bool _, fun w => ?_⟩
        simp only [Sem.run_bind, run_guard_other _ t X Y (.bool a) (.bool b) rfl (by simp) w, Result.andThen_ok]
        simp only [binOp]
        simp [run_equal_bool w t a b hT]
      · cases h
    · cases h
  · rename_i h1 h2
    obtain ⟨lv, z, g1, g2, g3⟩ := vbin_ok t X Y h hv hu
    refine ⟨lv, z, fun γ K => ?_, g2, g3⟩
    refine Eq.trans ?_ (g1 γ K)
    show vbinA cx op t x y K = vbin op x y K
    unfold vbinA
    split
    · rename_i a b; exact (h1 a b rfl rfl).elim
    · rename_i a b; exact (h2 a b rfl rfl).elim
    · rfl
end
end Go.JL
/- The abstract machine, twenty-first part: contracts and calls. No program in sight. -/
set_option linter.unusedVariables false
set_option linter.unusedSimpArgs false
namespace Go.JL

/-- One value of a code. -/
def VR (M : Mem) (c : TC) (x : El c) (v : Value) : Prop := v.cells.size = c.size ∧ (c.isAgg = true ↔ ∃ vs, v = .agg vs) ∧ CR M c x (fun o => v.cells[o]?)
/-- A block that a call may write. -/
def BlockR (M : Mem) (w : World) (c : TC) (x : El c) (b : Nat) : Prop := ∃ cs e, w.heap[b]? = some (.cells cs e (0, 0)) ∧ cs.size = c.size ∧ CR M c x (fun o => cs[o]?) ∧ ∀ a : Addr, a.block = b → M a = none
def TupIn (M : Mem) (w : World) : (cs : List TC) → Tup cs → List Value → List Nat → Prop
  | [], _, [], [] => True
  | c :: cs, x, u :: us, b :: bs => u = .pointer (some (adr b 0)) ∧ BlockR M w c x.1 b ∧ TupIn M w cs x.2 us bs
  | _, _, _, _ => False
def ArgsIn (M : Mem) (w : World) : (ps : List PK) → Args ps → List Value → List Nat → Prop
  | [], _, [], [] => True
  | .val c :: ps, x, v :: vs, bs => VR M c x.1 v ∧ ArgsIn M w ps x.2 vs bs
  | .ptr c :: ps, x, v :: vs, b :: bs => v = .pointer (some (adr b 0)) ∧ BlockR M w c x.1 b ∧ ArgsIn M w ps x.2 vs bs
  | .clo f cs :: ps, x, v :: vs, bs => ∃ us b1 b2, bs = b1 ++ b2 ∧ v = .func (.func f) #[] us.toArray ∧ TupIn M w cs x.1 us b1 ∧ ArgsIn M w ps x.2 vs b2
  | _, _, _, _ => False
def TupOut (M : Mem) (w : World) : (cs : List TC) → Tup cs → List Nat → Prop
  | [], _, _ => True
  | c :: cs, x, b :: bs => BlockR M w c x.1 b ∧ TupOut M w cs x.2 bs
  | _, _, _ => False
def IosOut (M : Mem) (w : World) : (ps : List PK) → Ios ps → List Nat → Prop
  | [], _, _ => True
  | .val _ :: ps, x, bs => IosOut M w ps x bs
  | .ptr c :: ps, x, b :: bs => BlockR M w c x.1 b ∧ IosOut M w ps x.2 bs
  | .clo _ cs :: ps, x, bs => TupOut M w cs x.1 (bs.take cs.length) ∧ IosOut M w ps x.2 (bs.drop cs.length)
  | _, _, _ => False
def TupR (M : Mem) : (rs : List TC) → Tup rs → List Value → Prop
  | [], _, [] => True
  | c :: rs, x, v :: vs => VR M c x.1 v ∧ TupR M rs x.2 vs
  | _, _, _ => False
def resV : List Value → Value
  | [u] => u
  | vs => .tuple vs.toArray
def ResR (M : Mem) (rs : List TC) (x : Tup rs) (v : Value) : Prop := ∃ vs : List Value, TupR M rs x vs ∧ v = resV vs
structure ExtB (bs : List Nat) (w w' : World) : Prop where
  os : w'.os = w.os
  tape : w'.tape = w.tape
  output : w'.output = w.output
  size : w.heap.size ≤ w'.heap.size
  block : ∀ b, b < w.heap.size → b ∉ bs → w'.heap[b]? = w.heap[b]?
/-- What calling a function comes to, whoever calls. -/
def Runs (P : Program) (f : Nat) (args : Array Value) (w : World) (R : Value → World → Prop) : Prop :=
  ∀ (o : Oper) (a : Act) (next : Act → World → Prop) (Q : Exit → Act → World → Prop), (∀ v w', R v w' → next (a.put o.dst v) w') → o.upon P a next Q ((callFunc f args).run P w)
def FnOk (P : Program) (f : Nat) (C : Con) : Prop :=
  ∀ (x : Args C.ps) (r : Tup C.rs × Ios C.ps), C.F x = some r → ∀ (w : World) (M : Mem) (vs : List Value) (bs : List Nat), (∀ a v, M a = some v → w.cell? a = some v) → ArgsIn M w C.ps x vs bs → bs.Nodup →
    Runs P f vs.toArray w fun v w' => ∃ M', M.le M' ∧ (∀ a v, M' a = some v → w'.cell? a = some v) ∧ (∀ a v, M' a = some v → M a = some v ∨ w.heap.size ≤ a.block) ∧ ResR M' C.rs r.1 v ∧ IosOut M' w' C.ps r.2 bs ∧ ExtB bs w w'
/-- A function that gives back a pointer to a new object. -/
def NewOk (P : Program) (f : Nat) (C : NCon) : Prop :=
  ∀ (x : Args C.ps) (y : El C.c), C.F x = some y → ∀ (w : World) (M : Mem) (vs : List Value), (∀ a v, M a = some v → w.cell? a = some v) → ArgsIn M w C.ps x vs [] →
    Runs P f vs.toArray w fun v w' => ∃ M' b, M.le M' ∧ (∀ a v, M' a = some v → w'.cell? a = some v) ∧ (∀ a v, M' a = some v → M a = some v ∨ w.heap.size ≤ a.block) ∧ v = .pointer (some (adr b 0)) ∧ BlockR M' w' C.c y b ∧ w.heap.size ≤ b ∧ ExtB [] w w'
structure CxOk (P : Program) (cx : Cx) : Prop where
  g : ∀ f C, cx.G f = some C → FnOk P f C
  n : ∀ f C, cx.N f = some C → NewOk P f C

section
variable {P : Program} {β : Place} {M : Mem} {B : Base} {T : Nat → LV} {H : Nat → Option VO} {a : Act} {w : World}

theorem VR.toLV {c : TC} {x : El c} {v : Value} (h : VR M c x v) : LVR β H M v (toLV c x) := by
  obtain ⟨h1, h2, h3⟩ := h
  have agg : c.isAgg = true → LVR β H M v (.agg (flat c x)) := fun hc => by
    obtain ⟨vs, rfl⟩ := h2.1 hc
    exact ⟨vs, rfl, by rw [flat_length]; exact h1, CR.cells c x _ h3⟩
  have one : c.isAgg = false → LVR β H M v (.c (.s c x)) := fun hc => by
    have hno : ¬ ∃ vs, v = .agg vs := fun h => by rw [h2.2 h] at hc; cases hc
    refine ⟨hc, CR.mono (Mem.le.refl _) c x _ _ (fun o u ho hu => ?_) h3⟩
    have hcs : v.cells = #[v] := by
      cases v <;> first | rfl | exact (hno ⟨_, rfl⟩).elim
    rw [hcs] at hu
    cases o with
    | zero => simpa using hu
    | succ o => simp at hu
  cases c with
  | pair p q => exact agg rfl
  | one p => exact agg rfl
  | unit => exact agg rfl
  | _ => exact one rfl
theorem build_alive : ∀ (c : TC) (l : List CV) (x : El c) (r : List CV), build H c l = some (x, r) → ∃ p, l = p ++ r ∧ p.all CV.alive = true := by
  have tl : ∀ (c : TC) (v : CV) (x : El c), toEl H c v = some x → v.alive = true := by
    intro c v x h
    cases v <;> first | rfl | (unfold toEl at h; cases h)
  intro c
  induction c with
  | pair p q ihp ihq =>
    intro l x r h
    simp only [build] at h
    split at h
    · rename_i y s hy
      split at h
      · rename_i z t hz
        cases h
        obtain ⟨p1, e1, a1⟩ := ihp _ _ _ hy
        obtain ⟨p2, e2, a2⟩ := ihq _ _ _ hz
        exact ⟨p1 ++ p2, by rw [e1, e2, List.append_assoc], by simp [a1, a2]⟩
      · cases h
    · cases h
  | one p ih => intro l x r h; exact ih l x r h
  | unit => intro l x r h; simp only [build, Option.some.injEq, Prod.mk.injEq] at h; exact ⟨[], by simp [h.2], rfl⟩
  | bool => intro l x r h; cases l with
    | nil => simp [build] at h
    | cons v s =>
      simp only [build] at h
      split at h
      · rename_i y hy; cases h; exact ⟨[v], rfl, by simp [tl _ _ _ hy]⟩
      · cases h
  | int k => intro l x r h; cases l with
    | nil => simp [build] at h
    | cons v s =>
      simp only [build] at h
      split at h
      · rename_i y hy; cases h; exact ⟨[v], rfl, by simp [tl _ _ _ hy]⟩
      · cases h
  | str => intro l x r h; cases l with
    | nil => simp [build] at h
    | cons v s =>
      simp only [build] at h
      split at h
      · rename_i y hy; cases h; exact ⟨[v], rfl, by simp [tl _ _ _ hy]⟩
      · cases h
  | list c _ => intro l x r h; cases l with
    | nil => simp [build] at h
    | cons v s =>
      simp only [build] at h
      split at h
      · rename_i y hy; cases h; exact ⟨[v], rfl, by simp [tl _ _ _ hy]⟩
      · cases h
  | fn c _ => intro l x r h; cases l with
    | nil => simp [build] at h
    | cons v s =>
      simp only [build] at h
      split at h
      · rename_i y hy; cases h; exact ⟨[v], rfl, by simp [tl _ _ _ hy]⟩
      · cases h
theorem buildAll_alive {c : TC} {l : List CV} {x : El c} (h : buildAll H c l = some x) : l.all CV.alive = true := by
  unfold buildAll at h
  split at h
  · rename_i y hy
    obtain ⟨p, e, ha⟩ := build_alive c l _ _ hy
    rw [e, List.append_nil]; exact ha
  · cases h
theorem LVR.toVR (hs : Sim B β M T H a w) {M' : Mem} (hM : M.le M') {c : TC} {lv : LV} {x : El c} (h : buildAll H c lv.cells = some x) (hagg : c.isAgg = lv.isAgg) {v : Value} (hv : LVR β H M v lv) (hc : ∀ k ∈ ownKeys lv.cells, k < 1000000 → Cov β H M' w k) : VR M' c x v := by
  obtain ⟨h1, h2, h3, h4⟩ := hv.cells (buildAll_alive h)
  obtain ⟨g1, g2⟩ := buildAll_ok hs hM h h2 hc
  refine ⟨by rw [← g2, ← h1]; simp, by rw [hagg]; exact h4, CR.mono (Mem.le.refl _) c x _ _ (fun o u _ hu => by simpa using hu) g1⟩
end
end Go.JL
/- The abstract machine, twenty-second part: the arguments of a call. No program in sight. -/
set_option linter.unusedVariables false
set_option linter.unusedSimpArgs false
namespace Go.JL

def LVs (β : Place) (H : Nat → Option VO) (M : Mem) : List LV → List Value → Prop
  | [], [] => True
  | x :: xs, v :: vs => LVR β H M v x ∧ LVs β H M xs vs
  | _, _ => False
def Blocks (β : Place) (H : Nat → Option VO) : List Nat → List Nat → Prop
  | [], [] => True
  | k :: ks, b :: bs => (∃ v l, H k = some ⟨v, .cells l, false⟩ ∧ β k = some (b, List.length l)) ∧ Blocks β H ks bs
  | _, _ => False
def BackOk (β : Place) (H : Nat → Option VO) (M' : Mem) (w' : World) (ups : List (Nat × VO)) (ios bs : List Nat) : Prop :=
  (∀ k o, (k, o) ∈ ups → k ∈ ios ∧ ∃ (ver : Nat) (c : TC) (x : El c) (b : Nat) (l : List CV), o = ⟨ver, .cells (flat c x), false⟩ ∧ H k = some ⟨ver, .cells l, false⟩ ∧ l.length = c.size ∧ β k = some (b, l.length) ∧ BlockR M' w' c x b ∧ b ∈ bs) ∧
  (∀ k ∈ ios, ∃ o, (k, o) ∈ ups)

section
variable {P : Program} {β : Place} {M : Mem} {B : Base} {T : Nat → LV} {H : Nat → Option VO} {a : Act} {w : World}

theorem Blocks.append : ∀ {k1 b1 k2 b2 : List Nat}, Blocks β H k1 b1 → Blocks β H k2 b2 → Blocks β H (k1 ++ k2) (b1 ++ b2)
  | [], [], _, _, _, h => h
  | [], _ :: _, _, _, h, _ => h.elim
  | _ :: _, [], _, _, h, _ => h.elim
  | k :: ks, b :: bs, _, _, h, h2 => ⟨h.1, Blocks.append h.2 h2⟩
theorem Blocks.mem : ∀ {ks bs : List Nat}, Blocks β H ks bs → ∀ b ∈ bs, ∃ k ∈ ks, ∃ v l, H k = some ⟨v, .cells l, false⟩ ∧ β k = some (b, List.length l)
  | [], [], _, b, h => by cases h
  | [], _ :: _, h, _, _ => h.elim
  | _ :: _, [], _, _, h => by cases h
  | k :: ks, b :: bs, h, b', hb => by
    rcases List.mem_cons.1 hb with rfl | hb
    · exact ⟨k, List.mem_cons_self, h.1⟩
    · obtain ⟨k', h1, h2⟩ := Blocks.mem h.2 b' hb
      exact ⟨k', List.mem_cons_of_mem _ h1, h2⟩
theorem nodupB_cons {k : Nat} {r : List Nat} (h : nodupB (k :: r) = true) : k ∉ r ∧ nodupB r = true := by
  simp only [nodupB, Bool.and_eq_true, Bool.not_eq_true', List.contains_eq_mem, decide_eq_false_iff_not] at h
  exact h
theorem Blocks.nodup (hs : Sim B β M T H a w) : ∀ {ks bs : List Nat}, Blocks β H ks bs → nodupB ks = true → bs.Nodup
  | [], [], _, _ => List.nodup_nil
  | [], _ :: _, h, _ => h.elim
  | _ :: _, [], h, _ => h.elim
  | k :: ks, b :: bs, h, hn => by
    obtain ⟨h1, h2⟩ := nodupB_cons hn
    refine List.nodup_cons.2 ⟨fun hb => ?_, Blocks.nodup hs h.2 h2⟩
    obtain ⟨k', g1, v', l', g2, g3⟩ := h.2.mem b hb
    obtain ⟨v, l, e1, e2⟩ := h.1
    refine hs.inj k k' _ _ b _ b _ e1 g2 e2 g3 (fun e => h1 (by rw [e]; exact g1)) rfl
theorem BackOk.append {M' : Mem} {w' : World} {u1 u2 : List (Nat × VO)} {i1 i2 b1 b2 : List Nat} (h1 : BackOk β H M' w' u1 i1 b1) (h2 : BackOk β H M' w' u2 i2 b2) : BackOk β H M' w' (u1 ++ u2) (i1 ++ i2) (b1 ++ b2) := by
  constructor
  · intro k o hm
    rcases List.mem_append.1 hm with hm | hm
    · obtain ⟨g1, ver, c, x, b, l, g2, g3, g4, g5, g6, g7⟩ := h1.1 k o hm
      exact ⟨List.mem_append_left _ g1, ver, c, x, b, l, g2, g3, g4, g5, g6, List.mem_append_left _ g7⟩
    · obtain ⟨g1, ver, c, x, b, l, g2, g3, g4, g5, g6, g7⟩ := h2.1 k o hm
      exact ⟨List.mem_append_right _ g1, ver, c, x, b, l, g2, g3, g4, g5, g6, List.mem_append_right _ g7⟩
  · intro k hk
    rcases List.mem_append.1 hk with hk | hk
    · obtain ⟨o, h⟩ := h1.2 k hk; exact ⟨o, List.mem_append_left _ h⟩
    · obtain ⟨o, h⟩ := h2.2 k hk; exact ⟨o, List.mem_append_right _ h⟩
theorem BackOk.nil {M' : Mem} {w' : World} {bs : List Nat} : BackOk β H M' w' [] [] bs := by
  constructor
  · intro k o h; cases h
  · intro k h; cases h
theorem BackOk.one {M' : Mem} {w' : World} {k b ver : Nat} {l : List CV} {c : TC} {x : El c} (h1 : H k = some ⟨ver, .cells l, false⟩) (h2 : β k = some (b, l.length)) (h3 : l.length = c.size) (h4 : BlockR M' w' c x b) :
    BackOk β H M' w' [(k, ⟨ver, .cells (flat c x), false⟩)] [k] [b] :=
  ⟨fun k' o h => by
    rw [List.mem_singleton] at h
    cases h
    exact ⟨List.mem_singleton.2 rfl, ver, c, x, b, l, rfl, h1, h3, h2, h4, List.mem_singleton.2 rfl⟩, fun k' h => by
    rw [List.mem_singleton] at h
    subst h
    exact ⟨_, List.mem_singleton.2 rfl⟩⟩

theorem cell_block (hs : Sim B β M T H a w) {M1 : Mem} (hM : M.le M1) (hnone : ∀ k ver l b n, H k = some ⟨ver, .cells l, false⟩ → β k = some (b, n) → ∀ x : Addr, x.block = b → M1 x = none)
    {k ver : Nat} {l : List CV} (hk : H k = some ⟨ver, .cells l, false⟩) {c : TC} {x : El c} (h : buildAll H c l = some x) (hc : ∀ j ∈ ownKeys l, j < 1000000 → Cov β H M1 w j) :
    ∃ b, β k = some (b, l.length) ∧ l.length = c.size ∧ BlockR M1 w c x b := by
  obtain ⟨_, b, cs, e, g1, g2, g3, g4, g5⟩ := hs.hp k _ hk
  obtain ⟨e1, e2⟩ := buildAll_ok hs hM h g4 hc
  exact ⟨b, g1, e2, cs, e, g2, by rw [g3, e2], e1, hnone k ver l b _ hk g1⟩

theorem toTup_ok (hs : Sim B β M T H a w) {M1 : Mem} (hM : M.le M1) (hnone : ∀ k ver l b n, H k = some ⟨ver, .cells l, false⟩ → β k = some (b, n) → ∀ x : Addr, x.block = b → M1 x = none) :
    ∀ (cs : List TC) (ks : List (Nat × Nat)) (x : Tup cs) (us : List Value), toTup H cs ks = some x → us.length = ks.length →
      (∀ (i : Nat) (p : Nat × Nat) (u : Value), ks[i]? = some p → us[i]? = some u → ∀ l fz, H p.1 = some ⟨p.2, .cells l, fz⟩ → ∃ b n, β p.1 = some (b, n) ∧ u = .pointer (some (adr b 0))) →
      (∀ j ∈ ownKeys (ks.flatMap fun p => cellsOf H p.1), j < 1000000 → Cov β H M1 w j) →
      ∃ bs, TupIn M1 w cs x us bs ∧ Blocks β H (ks.map (·.1)) bs ∧ bs.length = cs.length ∧ ∀ M' w' (y : Tup cs), TupOut M' w' cs y bs → BackOk β H M' w' (backTup ks cs y) (ks.map (·.1)) bs
  | [], [], x, us, h, hl, hp, hc => by
    have : us = [] := List.eq_nil_of_length_eq_zero hl
    subst this
    exact ⟨[], trivial, trivial, rfl, fun M' w' y _ => BackOk.nil⟩
  | [], _ :: _, x, us, h, _, _, _ => by simp [toTup] at h
  | _ :: _, [], x, us, h, _, _, _ => by simp [toTup] at h
  | c :: cs, (k, v) :: ks, x, us, h, hl, hp, hc => by
    cases us with
    | nil => simp at hl
    | cons u us =>
      simp only [toTup] at h
      split at h
      · rename_i v' l hk
        simp only [Bool.cond_eq_ite, beq_iff_eq] at h
        split at h
        · rename_i hv
          subst hv
          split at h
          · rename_i y hy
            split at h
            · rename_i r hr
              cases h
              have hown : ownKeys (((k, v) :: ks).flatMap fun p => cellsOf H p.1) = ownKeys l ++ ownKeys (ks.flatMap fun p => cellsOf H p.1) := by
                rw [List.flatMap_cons, ownKeys_append]; simp [cellsOf, hk]
              rw [hown] at hc
              obtain ⟨b, g1, g2, g3⟩ := cell_block hs hM hnone hk hy (fun j hj => hc j (List.mem_append_left _ hj))
              obtain ⟨bs, e1, e2, e3, e4⟩ := toTup_ok hs hM hnone cs ks r us hr (by simpa using hl) (fun i p u' h1 h2 => hp (i + 1) p u' (by simpa using h1) (by simpa using h2)) (fun j hj => hc j (List.mem_append_right _ hj))
              obtain ⟨b', n', q1, q2⟩ := hp 0 (k, v) u rfl rfl l false hk
              rw [g1] at q1; cases q1
              refine ⟨b :: bs, ⟨q2, g3, e1⟩, ⟨⟨v, l, hk, g1⟩, e2⟩, by simp [e3], fun M' w' y hy => ?_⟩
              exact BackOk.append (BackOk.one hk g1 g2 hy.1) (e4 M' w' y.2 hy.2)
            · cases h
          · cases h
        · cases h
      · cases h

theorem conv_val {c : TC} {ps : List PK} {v : LV} {vs : List LV} {cv : Conv (.val c :: ps)} (h : conv H (.val c :: ps) (v :: vs) = some cv) :
    ∃ x r, c.isAgg = v.isAgg ∧ buildAll H c v.cells = some x ∧ conv H ps vs = some r ∧ cv = ⟨(x, r.args), r.ios, ownKeys v.cells ++ r.own⟩ := by
  simp only [conv, Bool.cond_eq_ite, beq_iff_eq] at h
  split at h
  · rename_i hagg
    split at h
    · rename_i x hx
      split at h
      · rename_i r hr
        cases h
        exact ⟨x, r, hagg, hx, hr, rfl⟩
      · cases h
    · cases h
  · cases h
theorem conv_ptr {c : TC} {ps : List PK} {v : LV} {vs : List LV} {cv : Conv (.ptr c :: ps)} (h : conv H (.ptr c :: ps) (v :: vs) = some cv) :
    ∃ k ver l x r, v = .c (.ptr k ver 0) ∧ H k = some ⟨ver, .cells l, false⟩ ∧ buildAll H c l = some x ∧ conv H ps vs = some r ∧ cv = ⟨(x, r.args), k :: r.ios, ownKeys l ++ r.own⟩ := by
  cases v with
  | agg l => simp [conv] at h
  | tup l => simp [conv] at h
  | c y =>
    cases y with
    | ptr k ver o =>
      cases o with
      | succ o => simp [conv] at h
      | zero =>
        simp only [conv] at h
        split at h
        · rename_i v' l hk
          simp only [Bool.cond_eq_ite, beq_iff_eq] at h
          split at h
          · rename_i hvv
            subst hvv
            split at h
            · rename_i x hx
              split at h
              · rename_i r hr
                cases h
                exact ⟨k, ver, l, x, r, rfl, hk, hx, hr, rfl⟩
              · cases h
            · cases h
          · cases h
        · cases h
    | _ => simp [conv] at h
theorem conv_clo {f : Nat} {cs : List TC} {ps : List PK} {v : LV} {vs : List LV} {cv : Conv (.clo f cs :: ps)} (h : conv H (.clo f cs :: ps) (v :: vs) = some cv) :
    ∃ ks x r, v = .c (.clo f ks) ∧ toTup H cs ks = some x ∧ conv H ps vs = some r ∧ cv = ⟨(x, r.args), ks.map (·.1) ++ r.ios, ownKeys (ks.flatMap fun p => cellsOf H p.1) ++ r.own⟩ := by
  cases v with
  | agg l => simp [conv] at h
  | tup l => simp [conv] at h
  | c y =>
    cases y with
    | clo f' ks =>
      simp only [conv, Bool.cond_eq_ite, beq_iff_eq] at h
      split at h
      · rename_i hff
        subst hff
        split at h
        · rename_i x hx
          split at h
          · rename_i r hr
            cases h
            exact ⟨ks, x, r, rfl, hx, hr, rfl⟩
          · cases h
        · cases h
      · cases h
    | _ => simp [conv] at h

theorem conv_ok (hs : Sim B β M T H a w) {M1 : Mem} (hM : M.le M1) (hnone : ∀ k ver l b n, H k = some ⟨ver, .cells l, false⟩ → β k = some (b, n) → ∀ x : Addr, x.block = b → M1 x = none) :
    ∀ (ps : List PK) (vs : List LV) (vals : List Value) (cv : Conv ps), conv H ps vs = some cv → LVs β H M vs vals → (∀ j ∈ cv.own, j < 1000000 → Cov β H M1 w j) →
      ∃ bs, ArgsIn M1 w ps cv.args vals bs ∧ Blocks β H cv.ios bs ∧ ∀ M' w' (y : Ios ps), IosOut M' w' ps y bs → BackOk β H M' w' (back H ps vs y) cv.ios bs := by
  intro ps
  induction ps with
  | nil =>
    intro vs vals cv h hv hc
    cases vs with
    | cons x xs => simp [conv] at h
    | nil =>
      cases vals with
      | cons _ _ => exact hv.elim
      | nil =>
        simp only [conv, Option.some.injEq] at h
        subst h
        exact ⟨[], trivial, trivial, fun M' w' y _ => BackOk.nil⟩
  | cons p ps ih =>
    intro vs vals cv h hv hc
    cases vs with
    | nil => cases p <;> simp [conv] at h
    | cons v vs' =>
      cases vals with
      | nil => exact hv.elim
      | cons u us =>
        cases p with
        | val c =>
          obtain ⟨x, r, hagg, hx, hr, rfl⟩ := conv_val h
          obtain ⟨bs, e1, e2, e3⟩ := ih vs' us r hr hv.2 (fun j hj => hc j (List.mem_append_right _ hj))
          exact ⟨bs, ⟨LVR.toVR hs hM hx hagg hv.1 (fun j hj => hc j (List.mem_append_left _ hj)), e1⟩, e2, fun M' w' y hy => e3 M' w' y hy⟩
        | ptr c =>
          obtain ⟨k, ver, l, x, r, rfl, hk, hx, hr, rfl⟩ := conv_ptr h
          obtain ⟨bs, e1, e2, e3⟩ := ih vs' us r hr hv.2 (fun j hj => hc j (List.mem_append_right _ hj))
          obtain ⟨b, g1, g2, g3⟩ := cell_block hs hM hnone hk hx (fun j hj => hc j (List.mem_append_left _ hj))
          obtain ⟨_, ad, hu, hpl⟩ := hv.1
          obtain ⟨b', n', q1, q2⟩ := hpl l false hk
          rw [g1] at q1; cases q1
          subst q2
          exact ⟨b :: bs, ⟨hu, g3, e1⟩, ⟨⟨ver, l, hk, g1⟩, e2⟩, fun M' w' y hy => BackOk.append (BackOk.one hk g1 g2 hy.1) (e3 M' w' y.2 hy.2)⟩
        | clo f cs =>
          obtain ⟨ks, x, r, rfl, hx, hr, rfl⟩ := conv_clo h
          obtain ⟨bs, e1, e2, e3⟩ := ih vs' us r hr hv.2 (fun j hj => hc j (List.mem_append_right _ hj))
          obtain ⟨vs0, hu, hsz, hpl⟩ := hv.1
          obtain ⟨b1, t1, t2, t3, t4⟩ := toTup_ok hs hM hnone cs ks x vs0.toList hx (by simpa using hsz) (fun i p u' h1 h2 => by
            obtain ⟨u0, q1, _, ad, q3, q2⟩ := hpl i p h1
            have : u' = u0 := by
              have h2 : vs0.toList[i]? = some u' := h2
              rw [Array.getElem?_toList] at h2
              rw [q1] at h2; injection h2 with h2; exact h2.symm
            subst this
            intro l fz hl
            obtain ⟨b, n, r1, r2⟩ := q2 l fz hl
            exact ⟨b, n, r1, by rw [q3, r2]⟩) (fun j hj => hc j (List.mem_append_left _ hj))
          refine ⟨b1 ++ bs, ⟨vs0.toList, b1, bs, rfl, by simpa using hu, t1, e1⟩, t2.append e2, fun M' w' y hy => ?_⟩
          obtain ⟨y1, y2⟩ := hy
          rw [← t3, List.take_left] at y1
          rw [← t3, List.drop_left] at y2
          exact BackOk.append (t4 M' w' y.1 y1) (e3 M' w' y.2 y2)
end
end Go.JL
/- The abstract machine, twenty-third part: calls. No program in sight. -/
set_option linter.unusedVariables false
set_option linter.unusedSimpArgs false
namespace Go.JL

section
variable {P : Program} {β : Place} {M : Mem} {B : Base} {T : Nat → LV} {H : Nat → Option VO} {a : Act} {w : World}

theorem updH_congr {k : Nat} : ∀ (ups : List (Nat × VO)) {H H' : Nat → Option VO}, H k = H' k → updH H ups k = updH H' ups k
  | [], _, _, h => h
  | (j, o) :: r, H, H', h => by
    refine updH_congr r ?_
    by_cases e : k = j
    · subst e; rw [upd_same, upd_same]
    · rw [upd_ne _ _ e, upd_ne _ _ e]; exact h
theorem updH_in {k : Nat} : ∀ (ups : List (Nat × VO)) (H : Nat → Option VO), (∃ o, (k, o) ∈ ups) → ∃ o, (k, o) ∈ ups ∧ updH H ups k = some o
  | [], H, h => by obtain ⟨o, h⟩ := h; cases h
  | (j, p) :: r, H, h => by
    by_cases hr : ∃ o, (k, o) ∈ r
    · obtain ⟨o, h1, h2⟩ := updH_in r (upd H j (some p)) hr
      exact ⟨o, List.mem_cons_of_mem _ h1, h2⟩
    · obtain ⟨o, h⟩ := h
      rcases List.mem_cons.1 h with h | h
      · cases h
        refine ⟨p, List.mem_cons_self, ?_⟩
        show updH (upd H k (some p)) r k = some p
        rw [updH_not r _ (fun o ho => hr ⟨o, ho⟩), upd_same]
      · exact (hr ⟨o, h⟩).elim

theorem Sim.after (hs : Sim B β M T H a w) {M' : Mem} {w' : World} {ups : List (Nat × VO)} {ios bs : List Nat} (hM : M.le M') (hmem : ∀ a v, M' a = some v → w'.cell? a = some v) (hnew : ∀ a v, M' a = some v → M a = some v ∨ w.heap.size ≤ a.block)
    (hx : ExtB bs w w') (hbl : Blocks β H ios bs) (hb : BackOk β H M' w' ups ios bs) : Sim B β M' T (updH H ups) a w' := by
  have live : ∀ k vo, updH H ups k = some vo → ∃ vo', H k = some vo' := by
    intro k vo h
    rcases updH_cases ups H h with h | h
    · obtain ⟨_, ver, c, x, b, l, _, h3, _⟩ := hb.1 k vo h
      exact ⟨_, h3⟩
    · exact ⟨_, h⟩
  have hkeeps : Keeps β β H (updH H ups) := by
    intro k vo hk
    by_cases hin : ∃ o, (k, o) ∈ ups
    · obtain ⟨o, h1, h2⟩ := updH_in ups H hin
      obtain ⟨_, ver, c, x, b, l, rfl, h3, _⟩ := hb.1 k o h1
      rw [hk] at h3; cases h3
      exact ⟨_, h2, Nat.le_refl _, fun _ => ⟨rfl, trivial⟩⟩
    · exact ⟨vo, by rw [updH_not ups H (fun o ho => hin ⟨o, ho⟩)]; exact hk, Nat.le_refl _, fun _ => ⟨rfl, sameOb.refl _⟩⟩
  refine hs.step hkeeps hM ?_ ?_ hmem ?_ ?_ ?_ ?_
  · intro k vo hk
    by_cases hin : ∃ o, (k, o) ∈ ups
    · obtain ⟨o, h1, h2⟩ := updH_in ups H hin
      rw [h2] at hk; cases hk
      obtain ⟨_, ver, c, x, b, l, rfl, h3, h4, h5, ⟨cs, e, q1, q2, q3, q4⟩, _⟩ := hb.1 k _ h1
      exact ⟨rfl, b, cs, e, by rw [flat_length, ← h4]; exact h5, q1, by rw [flat_length]; exact q2, CR.cells c x _ q3, q4⟩
    · rw [updH_not ups H (fun o ho => hin ⟨o, ho⟩)] at hk
      refine (hs.hp k vo hk).keep hkeeps hM rfl (fun b n hbk => ?_) (fun b n hbk hf x hxb => ?_)
      · refine hx.block b (hs.lt hk hbk) (fun hmemb => ?_)
        obtain ⟨k', g1, v', l', g2, g3⟩ := hbl.mem b hmemb
        exact hs.inj k k' _ _ b n b _ hk g2 hbk g3 (fun e => hin (by rw [e]; exact hb.2 k' g1)) rfl
      · cases hm : M' x with
        | none => rfl
        | some v =>
          rcases hnew x v hm with h | h
          · obtain ⟨cs, e, _, _, h4⟩ := (hs.hp k vo hk).block hbk
            rw [h4 hf x hxb] at h; cases h
          · have := hs.lt hk hbk
            omega
  · intro k k' vo vo' b n b' n' hk hk' h1 h2 hne
    obtain ⟨u, hu⟩ := live k vo hk
    obtain ⟨u', hu'⟩ := live k' vo' hk'
    exact hs.inj k k' u u' b n b' n' hu hu' h1 h2 hne
  · intro k vo b n hk hbk
    obtain ⟨u, hu⟩ := live k vo hk
    exact hs.own k u b n hu hbk
  · intro k b vo hio hk
    obtain ⟨u, hu⟩ := live k vo hk
    exact hs.ins k b u hio hu
  · intro x v hv
    rcases hnew x v hv with h | h
    · exact .inl h
    · exact .inr (Nat.le_trans hs.ext.size h)
  · refine ⟨hx.os.trans hs.ext.os, hx.tape.trans hs.ext.tape, hx.output.trans hs.ext.output, Nat.le_trans hs.ext.size hx.size, fun b hb1 hn => ?_⟩
    rw [hx.block b (Nat.lt_of_lt_of_le hb1 hs.ext.size) (fun hmemb => ?_)]
    · exact hs.ext.block b hb1 hn
    · obtain ⟨k', g1, v', l', g2, g3⟩ := hbl.mem b hmemb
      rcases hs.own k' _ b _ g2 g3 with h | h
      · omega
      · exact hn k' h

theorem TupR.lvs {M : Mem} : ∀ (rs : List TC) (x : Tup rs) (vs : List Value), TupR M rs x vs → vs.length = (tupLV rs x).length ∧ ∀ (i : Nat) (p : List CV × Bool), (tupLV rs x)[i]? = some p → ∃ u, vs[i]? = some u ∧
      (if p.2 then ∃ us : Array Value, u = .agg us ∧ us.size = p.1.length ∧ CellsR β H M (fun i => us[i]?) p.1 else ∃ x, p.1 = [x] ∧ CVR β H M u x)
  | [], x, [], _ => ⟨rfl, fun i p h => by simp [tupLV] at h⟩
  | [], x, _ :: _, h => h.elim
  | c :: rs, x, [], h => h.elim
  | c :: rs, x, v :: vs, h => by
    obtain ⟨h1, h2⟩ := TupR.lvs rs x.2 vs h.2
    refine ⟨by simp [tupLV, h1], fun i p hp => ?_⟩
    cases i with
    | succ i => simpa using h2 i p (by simpa [tupLV] using hp)
    | zero =>
      simp [tupLV] at hp
      subst hp
      refine ⟨v, rfl, ?_⟩
      have hv := h.1.toLV (β := β) (H := H)
      cases c with
      | pair p q => exact hv
      | one p => exact hv
      | unit => exact hv
      | _ => exact ⟨_, rfl, hv⟩
theorem ResR.lv {M : Mem} {rs : List TC} {x : Tup rs} {v : Value} (h : ResR M rs x v) : LVR β H M v (outLV rs x) := by
  obtain ⟨vs, h1, h2⟩ := h
  cases rs with
  | nil =>
    cases vs with
    | nil => exact ⟨#[], h2, rfl, fun i p h => by simp [tupLV] at h⟩
    | cons _ _ => exact h1.elim
  | cons c rs =>
    cases rs with
    | nil =>
      cases vs with
      | nil => exact h1.elim
      | cons u us =>
        cases us with
        | nil =>
          simp only [resV] at h2
          subst h2
          exact h1.1.toLV
        | cons _ _ => exact h1.2.elim
    | cons c' rs =>
      cases vs with
      | nil => exact h1.elim
      | cons u us =>
        cases us with
        | nil => exact h1.2.elim
        | cons u' us =>
          obtain ⟨g1, g2⟩ := TupR.lvs (β := β) (H := H) _ _ _ h1
          exact ⟨(u :: u' :: us).toArray, h2, by simpa using g1, fun i p hp => by simpa using g2 i p hp⟩
theorem VR.noMem {M M' : Mem} {c : TC} {x : El c} {v : Value} (hf : c.flat = true) (h : VR M c x v) : VR M' c x v := ⟨h.1, h.2.1, CR.noMem c x _ hf h.2.2⟩
theorem TupR.noMem {M M' : Mem} : ∀ (rs : List TC) (x : Tup rs) (vs : List Value), rs.all TC.flat = true → TupR M rs x vs → TupR M' rs x vs
  | [], _, [], _, _ => trivial
  | [], _, _ :: _, _, h => h.elim
  | _ :: _, _, [], _, h => h.elim
  | c :: rs, x, v :: vs, hf, h => by
    simp only [List.all_cons, Bool.and_eq_true] at hf
    exact ⟨h.1.noMem hf.1, TupR.noMem rs x.2 vs hf.2 h.2⟩
theorem BlockR.noMem {M M' : Mem} (hM : M'.le M) {c : TC} {x : El c} {b : Nat} (hf : c.flat = true) (h : BlockR M w c x b) : BlockR M' w c x b := by
  obtain ⟨cs, e, h1, h2, h3, h4⟩ := h
  refine ⟨cs, e, h1, h2, CR.noMem c x _ hf h3, fun a ha => ?_⟩
  cases hm : M' a with
  | none => rfl
  | some v => have := hM a v hm; rw [h4 a ha] at this; cases this
theorem TupOut.noMem {M M' : Mem} (hM : M'.le M) : ∀ (cs : List TC) (x : Tup cs) (bs : List Nat), cs.all TC.flat = true → TupOut M w cs x bs → TupOut M' w cs x bs
  | [], _, _, _, _ => by simp [TupOut]
  | c :: cs, x, [], _, h => h.elim
  | c :: cs, x, b :: bs, hf, h => by
    simp only [List.all_cons, Bool.and_eq_true] at hf
    exact ⟨h.1.noMem hM hf.1, TupOut.noMem hM cs x.2 bs hf.2 h.2⟩
theorem IosOut.noMem {M M' : Mem} (hM : M'.le M) : ∀ (ps : List PK) (x : Ios ps) (bs : List Nat), ps.all PK.flat = true → IosOut M w ps x bs → IosOut M' w ps x bs
  | [], _, _, _, _ => by simp [IosOut]
  | .val c :: ps, x, bs, hf, h => by
    simp only [List.all_cons, Bool.and_eq_true] at hf
    exact IosOut.noMem hM ps x bs hf.2 h
  | .ptr c :: ps, x, [], hf, h => h.elim
  | .ptr c :: ps, x, b :: bs, hf, h => by
    simp only [List.all_cons, Bool.and_eq_true] at hf
    exact ⟨h.1.noMem hM hf.1, IosOut.noMem hM ps x.2 bs hf.2 h.2⟩
  | .clo f cs :: ps, x, bs, hf, h => by
    simp only [List.all_cons, Bool.and_eq_true] at hf
    exact ⟨TupOut.noMem hM cs x.1 _ hf.1 h.1, IosOut.noMem hM ps x.2 _ hf.2 h.2⟩

theorem vcall_ok (hs : Sim B β M T H a w) {cx : Cx} (hG : CxOk P cx) {f : Nat} {vs : List LV} {vals : List Value} (hv : LVs β H M vs vals)
    {α : Type} {K : LV → List (Nat × VO) → Option α} {r : α} (h : vcall cx f vs H K = some r) :
    ∃ lv ups, (∀ (γ : Type) (K : LV → List (Nat × VO) → Option γ), vcall cx f vs H K = K lv ups) ∧ Runs P f vals.toArray w (fun z w' => RV B T (updH H ups) a w' z lv) := by
  unfold vcall at h
  split at h
  · cases h
  · rename_i C hC
    split at h
    · cases h
    · rename_i cv hcv
      simp only [Bool.cond_eq_ite] at h
      split at h
      · rename_i hcnd
        have hcnd' := hcnd
        simp only [Bool.and_eq_true] at hcnd
        cases hF : C.F cv.args with
        | none => rw [hF] at h; cases h
        | some out =>
          obtain ⟨M1, m1, m2, m3⟩ := hs.freezes cv.own
          have hsame : ∀ k ver l fz, H k = some ⟨ver, .cells l, fz⟩ → updH H (freeze H cv.own) k = some ⟨ver, .cells l, fz⟩ := by
            intro k ver l fz hk
            rw [updH_not]
            · exact hk
            · intro o hm
              obtain ⟨_, v, c, l', fz', h1, _⟩ := freeze_mem _ k o hm
              rw [hk] at h1; cases h1
          have hnone : ∀ k ver l b n, H k = some ⟨ver, .cells l, false⟩ → β k = some (b, n) → ∀ x : Addr, x.block = b → M1 x = none := by
            intro k ver l b n hk hb x hx
            obtain ⟨_, _, _, _, h4⟩ := (m1.hp k _ (hsame k ver l false hk)).block hb
            exact h4 rfl x hx
          obtain ⟨bs, c1, c2, c3⟩ := conv_ok hs m2 hnone C.ps vs vals cv hcv hv m3
          have hrun := hG.g f C hC cv.args out hF w M1 vals bs m1.mem c1 (c2.nodup hs hcnd.1)
          refine ⟨outLV C.rs out.1, back H C.ps vs out.2 ++ (bif C.rs.all TC.flat && C.ps.all PK.flat then [] else freeze H cv.own), fun γ K => by simp only [vcall, hC, hcv, hcnd', cond_true, hF, Option.bind], ?_⟩
          intro o a' next Q hk
          refine hrun o a' next Q fun z w' hR => hk z w' ?_
          obtain ⟨M', g1, g2, g3, g4, g5, g6⟩ := hR
          cases hfl : (C.rs.all TC.flat && C.ps.all PK.flat) with
          | true =>
            have hfl' := hfl
            simp only [Bool.and_eq_true] at hfl'
            have hle : M.le M' := m2.trans g1
            simp only [cond_true, List.append_nil]
            have hb := c3 M w' out.2 (IosOut.noMem hle _ _ _ hfl'.2 g5)
            obtain ⟨us, u1, u2⟩ := g4
            refine ⟨β, M, hs.after (Mem.le.refl _) (fun x v hx => g2 x v (hle x v hx)) (fun _ _ h => .inl h) g6 c2 hb, ResR.lv ⟨us, TupR.noMem _ _ _ hfl'.1 u1, u2⟩⟩
          | false =>
            simp only [cond_false]
            have hb := c3 M' w' out.2 g5
            have hbl1 : Blocks β (updH H (freeze H cv.own)) cv.ios bs := by
              have : ∀ ks bs : List Nat, Blocks β H ks bs → Blocks β (updH H (freeze H cv.own)) ks bs := by
                intro ks
                induction ks with
                | nil => intro bs h; cases bs with
                  | nil => trivial
                  | cons _ _ => exact h.elim
                | cons k ks ih => intro bs h; cases bs with
                  | nil => exact h.elim
                  | cons b bs =>
                    obtain ⟨⟨v, l, e1, e2⟩, h2⟩ := h
                    exact ⟨⟨v, l, hsame k v l false e1, e2⟩, ih bs h2⟩
              exact this _ _ c2
            have hb1 : BackOk β (updH H (freeze H cv.own)) M' w' (back H C.ps vs out.2) cv.ios bs :=
              ⟨fun k o hm => by
                obtain ⟨q1, ver, c, x, b, l, q2, q3, q4⟩ := hb.1 k o hm
                exact ⟨q1, ver, c, x, b, l, q2, hsame k ver l false q3, q4⟩, hb.2⟩
            have hfin := m1.after g1 g2 g3 g6 hbl1 hb1
            have heq : updH (updH H (freeze H cv.own)) (back H C.ps vs out.2) = updH H (back H C.ps vs out.2 ++ freeze H cv.own) := by
              rw [updH_append]
              funext k
              by_cases hin : ∃ o, (k, o) ∈ back H C.ps vs out.2
              · have hnf : ∀ o, (k, o) ∉ freeze H cv.own := by
                  intro o hm
                  obtain ⟨_, v, c, l, fz, e1, _⟩ := freeze_mem _ k o hm
                  obtain ⟨o', ho'⟩ := hin
                  obtain ⟨_, ver, c', x, b, l', _, q3, _⟩ := hb.1 k o' ho'
                  rw [e1] at q3; cases q3
                rw [updH_not _ (updH H (back H C.ps vs out.2)) hnf]
                exact updH_congr _ (updH_not _ _ hnf)
              · have hnb : ∀ o, (k, o) ∉ back H C.ps vs out.2 := fun o ho => hin ⟨o, ho⟩
                rw [updH_not _ _ hnb]
                exact updH_congr _ (updH_not _ _ hnb).symm
            rw [heq] at hfin
            exact ⟨β, M', hfin, ResR.lv g4⟩
      · cases h
end
end Go.JL
/- The abstract machine, twenty-fourth part: one operation. No program in sight. -/
set_option linter.unusedVariables false
set_option linter.unusedSimpArgs false
namespace Go.JL

/-- What an operation comes to. -/
def OpOk (P : Program) (B : Base) (T : Nat → LV) (H : Nat → Option VO) (a : Act) (w : World) (o : Oper) (f : (γ : Type) → (LV → List (Nat × VO) → Option γ) → Option γ) : Prop :=
  ∃ lv ups, (∀ (γ : Type) (K : LV → List (Nat × VO) → Option γ), f γ K = K lv ups) ∧
    ∀ (next : Act → World → Prop) (Q : Exit → Act → World → Prop), (∀ z w', RV B T (updH H ups) a w' z lv → next (a.put o.dst z) w') → o.wp P a w next Q

section
variable {P : Program} {β : Place} {M : Mem} {B : Base} {T : Nat → LV} {H : Nat → Option VO} {a : Act} {w : World} {o : Oper}
variable {f g : (γ : Type) → (LV → List (Nat × VO) → Option γ) → Option γ}

theorem OpOk.of (h : OpOk P B T H a w o f) (hg : ∀ γ K, g γ K = f γ K) : OpOk P B T H a w o g := by
  obtain ⟨lv, ups, h1, h2⟩ := h
  exact ⟨lv, ups, fun γ K => (hg γ K).trans (h1 γ K), h2⟩
theorem Wr.op {s : Sem Value} (h : Wr P B T H a w f s) (he : execOp a.eval o = (do pure (.value (← s)))) : OpOk P B T H a w o f := by
  obtain ⟨lv, ups, z, w', h1, h2, h3⟩ := h
  refine ⟨lv, ups, h1, fun next Q hk => ?_⟩
  unfold Oper.wp
  rw [he]
  simp only [Sem.run_bind, h3, Result.andThen_ok, Sem.run_pure, Oper.upon_value]
  exact hk z w' h2
theorem Pure1.op {f : (γ : Type) → (LV → Option γ) → Option γ} {s : Sem Value} (hs : Sim B β M T H a w) (h : Pure1 P β H M f s) (he : execOp a.eval o = (do pure (.value (← s)))) : OpOk P B T H a w o (fun γ K => f γ fun v => K v []) :=
  (Wr.of_read hs (h.read w)).op he
theorem Read1.op {f : (γ : Type) → (LV → Option γ) → Option γ} {s : Sem Value} (hs : Sim B β M T H a w) (h : Read1 P β H M w f s) (he : execOp a.eval o = (do pure (.value (← s)))) : OpOk P B T H a w o (fun γ K => f γ fun v => K v []) :=
  (Wr.of_read hs h).op he
theorem WrU.op {f : (γ : Type) → (List (Nat × VO) → Option γ) → Option γ} {s : Sem Unit} (h : WrU P B T H a w f s) (he : execOp a.eval o = (do s; pure .skip)) : OpOk P B T H a w o (fun γ K => f γ fun ups => K dead ups) := by
  obtain ⟨ups, w', h1, ⟨β, M, h2⟩, h3⟩ := h
  refine ⟨dead, ups, fun γ K => h1 γ _, fun next Q hk => ?_⟩
  unfold Oper.wp
  rw [he]
  simp only [Sem.run_bind, h3, Result.andThen_ok, Sem.run_pure, Oper.upon_skip]
  exact hk undef w' ⟨β, M, h2, trivial⟩
theorem val_op (hs : Sim B β M T H a w) {lv : LV} {z : Value} (hz : LVR β H M z lv) (he : execOp a.eval o = pure (.value z)) : OpOk P B T H a w o (fun γ K => K lv []) := by
  refine ⟨lv, [], fun γ K => rfl, fun next Q hk => ?_⟩
  unfold Oper.wp
  rw [he]
  simp only [Sem.run_pure, Oper.upon_value]
  exact hk z w ⟨β, M, hs, hz⟩
theorem LVs.map (hs : Sim B β M T H a w) : ∀ l : List Operand, LVs β H M (l.map (evalO T)) (l.map a.eval)
  | [] => trivial
  | x :: r => ⟨evalO_ok hs x, LVs.map hs r⟩
theorem LVs.append : ∀ {xs ys : List LV} {vs us : List Value}, LVs β H M xs vs → LVs β H M ys us → LVs β H M (xs ++ ys) (vs ++ us)
  | [], _, [], _, _, h => h
  | [], _, _ :: _, _, h, _ => h.elim
  | _ :: _, _, [], _, h, _ => h.elim
  | x :: xs, _, v :: vs, _, h, h2 => ⟨h.1, LVs.append h.2 h2⟩

theorem ptrKeys_ok {T : Nat → LV} : ∀ (l : List Operand) (ks : List (Nat × Nat)), ptrKeys T l = some ks → ks.length = l.length ∧ ∀ (i : Nat) (p : Nat × Nat), ks[i]? = some p → ∃ x, l[i]? = some x ∧ evalO T x = .c (.ptr p.1 p.2 0)
  | [], ks, h => by
    simp only [ptrKeys, Option.some.injEq] at h; subst h
    exact ⟨rfl, fun i p hp => by simp at hp⟩
  | x :: r, ks, h => by
    simp only [ptrKeys] at h
    split at h
    · rename_i p l h1 h2
      cases h
      obtain ⟨e1, e2⟩ := ptrKeys_ok r l h2
      refine ⟨by simp [e1], fun i p hp => ?_⟩
      cases i with
      | succ i => simpa using e2 i p (by simpa using hp)
      | zero =>
        simp at hp; subst hp
        refine ⟨x, rfl, ?_⟩
        unfold ptrKey at h1
        split at h1
        · rename_i k v he
          cases h1
          exact he
        · cases h1
    · cases h

theorem vmakeFunc_ok (hs : Sim B β M T H a w) {cx : Cx} {f : Nat} {first captured : Array Operand} (he : execOp a.eval o = pure (.value (.func (.func f) (first.map a.eval) (captured.map a.eval))))
    {α : Type} {K : LV → List (Nat × VO) → Option α} {r : α} (h : vmakeFunc cx f first.toList captured.toList T H K = some r) : OpOk P B T H a w o (fun γ K => vmakeFunc cx f first.toList captured.toList T H K) := by
  obtain ⟨first⟩ := first
  obtain ⟨captured⟩ := captured
  simp only [List.map_toArray] at he
  simp only at h ⊢
  unfold vmakeFunc at h
  split at h
  · exact val_op hs (lv := .c (.s (.fn .unit) (some (f, ())))) ⟨rfl, .inl ⟨rfl, rfl⟩⟩ he
  · rename_i x
    split at h
    · rename_i C hC
      split at h
      · rename_i c ps hps
        simp only [Bool.cond_eq_ite] at h
        split at h
        · rename_i hcnd
          have hcnd' := hcnd
          simp only [Bool.and_eq_true, decide_eq_true_eq, beq_iff_eq] at hcnd
          obtain ⟨c1, c2⟩ := hcnd
          split at h
          · rename_i y hy
            obtain ⟨M', m1, m2, m3⟩ := hs.freezes (ownKeys (evalO T x).cells)
            have hv := evalO_ok hs x
            obtain ⟨q1, q2, q3⟩ := LVR.toVR hs m2 hy c1 hv m3
            refine ⟨.c (.s (.fn c) (some (f, y))), freeze H (ownKeys (evalO T x).cells), fun γ K => by simp only [vmakeFunc, hC, hps, hcnd', hy, cond_true], fun next Q hk => ?_⟩
            unfold Oper.wp
            rw [he]
            simp only [Sem.run_pure, Oper.upon_value]
            refine hk _ _ ⟨β, M', m1, rfl, .inr ⟨fun e => by subst e; simp [TC.size] at c2, a.eval x, by simp, q1, q2, q3⟩⟩
          · cases h
        · cases h
      · cases h
    · cases h
  · rename_i y l
    split at h
    · rename_i ks hks
      obtain ⟨e2, e3⟩ := ptrKeys_ok _ ks hks
      refine (val_op hs (lv := .c (.clo f ks)) ?_ he).of fun γ K => by simp only [vmakeFunc, hks]
      refine ⟨((y :: l).map a.eval).toArray, by simp, by simpa using e2.symm, fun i p hp => ?_⟩
      obtain ⟨x, x1, x2⟩ := e3 i p hp
      have hv := evalO_ok hs x
      rw [x2] at hv
      obtain ⟨v1, ad, v2, v3⟩ := hv
      exact ⟨a.eval x, by rw [List.getElem?_toArray, List.getElem?_map, x1]; rfl, v1, ad, v2, v3⟩
    · cases h
  · cases h

theorem vmove_ok (hs : Sim B β M T H a w) {cx : Cx} {d t : Nat} (hd : d < 10000) {x : Operand} (he : execOp a.eval o = pure (.value (a.eval x)))
    {α : Type} {K : LV → List (Nat × VO) → Option α} {r : α} (h : vmove cx d t x T H K = some r) : OpOk P B T H a w o (fun γ K => vmove cx d t x T H K) := by
  unfold vmove at h
  cases hx : isNilC x with
  | false => exact (val_op hs (lv := evalO T x) (evalO_ok hs x) he).of fun γ K => by simp only [vmove, hx, cond_false]
  | true =>
    have hxe : x = .const (.slice none 0 0) := by
      unfold isNilC at hx
      split at hx
      · rfl
      · cases hx
    subst hxe
    rw [hx] at h
    simp only [cond_true] at h
    split at h
    · rename_i hk
      split at h
      · rename_i c hc
        simp only [Bool.cond_eq_ite, decide_eq_true_eq] at h
        split at h
        · rename_i hpos
          refine ⟨_, _, fun γ K => by simp only [vmove, hx, hk, hc, hpos, decide_true, cond_true]; rfl, fun next Q hn => ?_⟩
          unfold Oper.wp
          rw [he]
          simp only [Sem.run_pure, Oper.upon_value]
          exact hn _ _ (by rw [updH_one]; exact hs.row0 (siteKey_lt hd (by omega)) hpos (Keeps.new hk))
        · rename_i hpos
          exact (val_op hs (lv := .c .nils) (by rfl) he).of fun γ K => by simp only [vmove, hx, hk, hc, hpos, decide_false, cond_false, cond_true]
      · rename_i hno
        refine (val_op hs (lv := .c .nils) (by rfl) he).of fun γ K => ?_
        simp only [vmove, hx, hk, cond_true]
    · rename_i vo hk
      exact (val_op hs (lv := .c .nils) (by rfl) he).of fun γ K => by simp only [vmove, hx, hk, cond_true]

/-- An object that somebody else has made. -/
theorem Sim.adopt (h : Sim B β M T H a w) {k b n : Nat} {vo : VO} (hk : H k = none) (hlt : k < 1000000) (hb : B.w0.heap.size ≤ b) (hfree : ∀ j vj b' n', H j = some vj → β j = some (b', n') → b' ≠ b)
    (hob : ObR (upd β k (some (b, n))) (upd H k (some vo)) M w k vo) : Sim B (upd β k (some (b, n))) M T (upd H k (some vo)) a w := by
  have hkeeps : Keeps β (upd β k (some (b, n))) H (upd H k (some vo)) := Keeps.new hk
  refine h.step hkeeps (Mem.le.refl _) ?_ ?_ h.mem ?_ ?_ (fun _ _ h => .inl h) h.ext
  · intro j vj hj
    by_cases e : j = k
    · subst e
      rw [upd_same] at hj; cases hj
      exact hob
    · rw [upd_ne _ _ e] at hj
      exact (h.hp j vj hj).keep hkeeps (Mem.le.refl _) (upd_ne _ _ e) (fun b n hb => rfl) (fun b' n' hb' hf => by obtain ⟨cs, e, _, _, h4⟩ := (h.hp j vj hj).block hb'; exact h4 hf)
  · intro j j' vj vj' b1 n1 b2 n2 hj hj' h1 h2 hne
    by_cases e : j = k
    · subst e
      rw [upd_same] at h1; cases h1
      have e' : j' ≠ j := fun e => hne e.symm
      rw [upd_ne _ _ e'] at hj' h2
      exact fun e => hfree j' vj' b2 n2 hj' h2 e.symm
    · rw [upd_ne _ _ e] at hj h1
      by_cases e' : j' = k
      · subst e'
        rw [upd_same] at h2; cases h2
        exact hfree j vj b1 n1 hj h1
      · rw [upd_ne _ _ e'] at hj' h2
        exact h.inj j j' vj vj' b1 n1 b2 n2 hj hj' h1 h2 hne
  · intro j vj b' n' hj hb'
    by_cases e : j = k
    · subst e; rw [upd_same] at hb'; cases hb'
      exact .inl hb
    · rw [upd_ne _ _ e] at hj hb'
      exact h.own j vj b' n' hj hb'
  · intro j b' vj hio hj
    have e : j ≠ k := fun e => by have := B.far j b' hio; omega
    rw [upd_ne _ _ e] at hj ⊢
    exact h.ins j b' vj hio hj
theorem vnew_ok (hs : Sim B β M T H a w) {C : NCon} {f d : Nat} (hN : NewOk P f C) (hd : d < 10000) {vs : List LV} {vals : List Value} (hv : LVs β H M vs vals)
    {α : Type} {K : LV → List (Nat × VO) → Option α} {r : α} (h : vnew C d vs H K = some r) :
    ∃ lv ups, (∀ (γ : Type) (K : LV → List (Nat × VO) → Option γ), vnew C d vs H K = K lv ups) ∧ Runs P f vals.toArray w (fun z w' => RV B T (updH H ups) a w' z lv) := by
  unfold vnew at h
  split at h
  · cases h
  · rename_i cv hcv
    simp only [Bool.cond_eq_ite] at h
    split at h
    · rename_i hio
      have hio' := hio
      rw [List.isEmpty_iff] at hio
      split at h
      · rename_i hk
        cases hF : C.F cv.args with
        | none => rw [hF] at h; cases h
        | some y =>
          obtain ⟨M1, m1, m2, m3⟩ := hs.freezes cv.own
          have hsame : ∀ k ver l fz, H k = some ⟨ver, .cells l, fz⟩ → updH H (freeze H cv.own) k = some ⟨ver, .cells l, fz⟩ := by
            intro k ver l fz hk
            rw [updH_not]
            · exact hk
            · intro o hm
              obtain ⟨_, v, c, l', fz', h1, _⟩ := freeze_mem _ k o hm
              rw [hk] at h1; cases h1
          have hnone : ∀ k ver l b n, H k = some ⟨ver, .cells l, false⟩ → β k = some (b, n) → ∀ x : Addr, x.block = b → M1 x = none := by
            intro k ver l b n hk hb x hx
            obtain ⟨_, _, _, _, h4⟩ := (m1.hp k _ (hsame k ver l false hk)).block hb
            exact h4 rfl x hx
          obtain ⟨bs, c1, c2, c3⟩ := conv_ok hs m2 hnone C.ps vs vals cv hcv hv m3
          rw [hio] at c2
          have hbs : bs = [] := by cases bs with
            | nil => rfl
            | cons _ _ => exact c2.elim
          subst hbs
          have hrun := hN cv.args y hF w M1 vals m1.mem c1
          refine ⟨.c (.ptr (siteKey d 0) 0 0), freeze H cv.own ++ [(siteKey d 0, ⟨0, .cells (flat C.c y), false⟩)], fun γ K => by simp only [vnew, hcv, hio', hk, hF, cond_true, Option.bind], ?_⟩
          intro o a' next Q hn
          refine hrun o a' next Q fun z w' hR => hn z w' ?_
          obtain ⟨M', b, g1, g2, g3, rfl, g5, g6, g7⟩ := hR
          have hfin : Sim B β M' T (updH (updH H (freeze H cv.own)) []) a w' := m1.after (ups := []) (ios := []) (bs := []) g1 g2 g3 g7 trivial ⟨fun k o hm => (by cases hm), fun k hm => (by cases hm)⟩
          have hfin : Sim B β M' T (updH H (freeze H cv.own)) a w' := hfin
          have hk1 : updH H (freeze H cv.own) (siteKey d 0) = none := by
            rw [updH_not]
            · exact hk
            · intro o hm
              obtain ⟨_, v, c, l', fz', h1, _⟩ := freeze_mem _ _ o hm
              rw [hk] at h1; cases h1
          obtain ⟨cs, e, q1, q2, q3, q4⟩ := g5
          have hnew := hfin.adopt (b := b) (n := C.c.size) (vo := ⟨0, .cells (flat C.c y), false⟩) hk1 (siteKey_lt hd (by omega)) (Nat.le_trans hs.ext.size g6) (fun j vj b' n' hj hb' => by
            have := m1.lt hj hb'
            omega) ⟨rfl, b, cs, e, by rw [upd_same, flat_length], q1, by rw [flat_length]; exact q2, CR.cells C.c y _ q3, q4⟩
          rw [updH_append]
          exact ⟨_, _, hnew, ⟨_, upd_same _ _ _, Nat.le_refl _⟩, _, rfl, fun l fz hH => ⟨b, C.c.size, upd_same _ _ _, rfl⟩⟩
      · cases h
    · cases h
theorem vdyn_eq {cx : Cx} {b : TC} {f : Nat} {vs : List LV} : ∀ (l : List Nat) {α : Type} {K : LV → List (Nat × VO) → Option α} {r : α}, vdyn cx b f vs H K l = some r → ∀ (γ : Type) (K : LV → List (Nat × VO) → Option γ), vdyn cx b f vs H K l = vcall cx f vs H K
  | [], _, _, _, h => by cases h
  | g :: l, _, _, _, h => by
    simp only [vdyn, Bool.cond_eq_ite, beq_iff_eq] at h ⊢
    split at h
    · rename_i e
      subst e
      intro γ K
      simp
    · rename_i e
      intro γ K
      rw [if_neg e]
      exact vdyn_eq l h γ K

theorem vcallV_ok (hs : Sim B β M T H a w) {cx : Cx} (hG : CxOk P cx) {F : Operand} {args : Array Operand} (he : execOp a.eval o = (do let d ← Deferred.ofValue (a.eval F) (args.map a.eval); invoke d.target d.args))
    {α : Type} {K : LV → List (Nat × VO) → Option α} {r : α} (h : vcallV cx (evalO T F) (args.toList.map (evalO T)) H K = some r) : OpOk P B T H a w o (fun γ K => vcallV cx (evalO T F) (args.toList.map (evalO T)) H K) := by
  have hF := evalO_ok hs F
  have hargs := LVs.map hs args.toList
  have fin : ∀ (g : Nat) (vals : List Value) (vs : List LV) (K' : (γ : Type) → (LV → List (Nat × VO) → Option γ) → Option γ), execOp a.eval o = callFunc g vals.toArray → LVs β H M vs vals → vcall cx g vs H K = some r → (∀ γ K, K' γ K = vcall cx g vs H K) → OpOk P B T H a w o K' := by
    intro g vals vs K' he' hv hc hK
    obtain ⟨lv, ups, h1, h2⟩ := vcall_ok hs hG hv hc
    refine ⟨lv, ups, fun γ K => (hK γ K).trans (h1 γ K), fun next Q hn => ?_⟩
    unfold Oper.wp
    rw [he']
    exact h2 o a next Q hn
  unfold vcallV at h
  generalize evalO T F = lf at h hF ⊢
  split at h
  · rename_i b y
    obtain ⟨_, hF⟩ := hF
    cases y with
    | none => cases hu : isUnit b <;> (rw [hu] at h; cases h)
    | some p =>
    obtain ⟨g, x⟩ := p
    rcases hF with ⟨hc, hF⟩ | ⟨hc, v, hF, q1, q2, q3⟩
    · subst hc
      have hF : some (a.eval F) = some (.func (.func g) #[] #[]) := hF
      injection hF with hF
      have h : (bif cx.dynu.isEmpty then vcall cx g (args.toList.map (evalO T)) H K else vdyn cx .unit g (args.toList.map (evalO T)) H K cx.dynu) = some r := h
      have hboth : vcall cx g (args.toList.map (evalO T)) H K = some r ∧ ∀ (γ : Type) (K : LV → List (Nat × VO) → Option γ), (bif cx.dynu.isEmpty then vcall cx g (args.toList.map (evalO T)) H K else vdyn cx .unit g (args.toList.map (evalO T)) H K cx.dynu) = vcall cx g (args.toList.map (evalO T)) H K := by
        cases hd : cx.dynu.isEmpty with
        | true => rw [hd] at h; exact ⟨h, fun γ K => rfl⟩
        | false =>
          rw [hd] at h
          have hdyn := vdyn_eq cx.dynu h
          exact ⟨(hdyn _ _).symm.trans h, fun γ K => hdyn γ K⟩
      refine fin g (args.map a.eval).toList _ _ ?_ (by simpa using hargs) hboth.1 (fun γ K => hboth.2 γ K)
      rw [he, hF]
      simp [Deferred.ofValue, invoke]
      congr 1
      apply Array.ext'
      simp
    · have hu : isUnit b = false := by
        cases b <;> first | rfl | exact (hc rfl).elim
      rw [hu] at h
      have h : vdyn cx b g (toLV b x :: args.toList.map (evalO T)) H K cx.dyn = some r := h
      have hdyn := vdyn_eq cx.dyn h
      rw [hdyn] at h
      have hF : some (a.eval F) = some (.func (.func g) #[v] #[]) := hF
      injection hF with hF
      have hv : VR M b x v := ⟨q1, q2, q3⟩
      refine fin g (v :: (args.map a.eval).toList) (toLV b x :: args.toList.map (evalO T)) _ ?_ ?_ h (fun γ K => by simp only [vcallV, hu, cond_false, Option.bind_some]; exact hdyn γ K)
      · rw [he, hF]
        simp [Deferred.ofValue, invoke, Array.append_assoc]
        congr 1
        apply Array.ext'
        simp
      · exact ⟨hv.toLV, by simpa using hargs⟩
  · rename_i g ks
    obtain ⟨us, hF, q1, q2⟩ := hF
    refine fin g ((args.map a.eval).toList ++ us.toList) _ _ ?_ (LVs.append (by simpa using hargs) ?_) h (fun γ K => rfl)
    · rw [he, hF]
      simp [Deferred.ofValue, invoke]
      congr 1
      apply Array.ext'
      simp
    · have : ∀ (ks : List (Nat × Nat)) (us : List Value), us.length = ks.length → (∀ (i : Nat) (p : Nat × Nat), ks[i]? = some p →
          ∃ u, us[i]? = some u ∧ (∃ vo, H p.1 = some vo ∧ p.2 ≤ vo.v) ∧ ∃ ad : Addr, u = .pointer (some ad) ∧ ∀ l fz, H p.1 = some ⟨p.2, .cells l, fz⟩ → ∃ b n, β p.1 = some (b, n) ∧ ad = adr b 0) → LVs β H M (ks.map fun p => .c (.ptr p.1 p.2 0)) us := by
        intro ks
        induction ks with
        | nil => intro us hl _; have : us = [] := List.eq_nil_of_length_eq_zero hl; subst this; exact trivial
        | cons p ks ih =>
          intro us hl hp
          cases us with
          | nil => simp at hl
          | cons u us =>
            obtain ⟨u', r1, r2, r3⟩ := hp 0 p rfl
            cases r1
            exact ⟨⟨r2, r3⟩, ih us (by simpa using hl) (fun i q hq => by simpa using hp (i + 1) q (by simpa using hq))⟩
      exact this ks us.toList (by simpa using q1) (fun i p hp => by obtain ⟨u, r1, r2⟩ := q2 i p hp; exact ⟨u, by simpa using r1, r2⟩)
  · cases h
end
end Go.JL
/- The abstract machine, twenty-fifth part: every operation. No program in sight. -/
set_option linter.unusedVariables false
set_option linter.unusedSimpArgs false
namespace Go.JL

section
variable {P : Program} {β : Place} {M : Mem} {B : Base} {T : Nat → LV} {H : Nat → Option VO} {a : Act} {w : World}

theorem isSlice_ok {cx : Cx} (htt : ∀ t ty, cx.tt t = some ty → TyOk P t ty) {t : Nat} (h : isSlice (cx.tt t) = true) : ∃ e, P.underlying t = some (.slice e) := by
  unfold isSlice at h
  split at h
  · rename_i ty hty
    split at h
    · rename_i e he
      exact ⟨e, (htt t ty hty).under_slice he⟩
    · cases h
  · cases h

theorem vbuiltin_ok (hs : Sim B β M T H a w) {cx : Cx} (htt : ∀ t ty, cx.tt t = some ty → TyOk P t ty) {d : Nat} (hd : d < 10000) {b : Builtin} {ts : Array TypeId} {args : Array Operand} (rt : TypeId) (consts : Array Bool)
    {α : Type} {K : LV → List (Nat × VO) → Option α} {r : α} (h : vbuiltin cx d b ts.toList (args.toList.map (evalO T)) H K = some r) :
    ∃ s, builtin b ts rt consts (args.map a.eval) = (do pure (.value (← s))) ∧ Wr P B T H a w (fun γ K => vbuiltin cx d b ts.toList (args.toList.map (evalO T)) H K) s := by
  obtain ⟨ts⟩ := ts
  obtain ⟨args⟩ := args
  simp only [List.map_toArray] at h ⊢
  have hl := LVs.map hs args
  generalize args.map a.eval = vals at hl ⊢
  generalize args.map (evalO T) = lvs at h hl ⊢
  unfold vbuiltin at h
  split at h
  · rename_i t x
    match vals, hl with
    | [v], hl =>
      split at h
      · rename_i ty hty
        refine ⟨Builtin.len_ #[t] rt #[v], rfl, ?_⟩
        obtain ⟨lv, z, h1, h2, h3⟩ := vlen_ok (htt t ty hty) w hl.1 rt h
        exact ⟨lv, [], z, w, fun γ K => by simp only [vbuiltin, hty]; exact h1 γ _, ⟨β, M, hs, h2⟩, h3⟩
      · cases h
    | [], hl => exact hl.elim
    | _ :: _ :: _, hl => exact hl.2.elim
  · rename_i t t' x y
    match vals, hl with
    | [v, u], hl =>
      simp only [Bool.cond_eq_ite] at h
      split at h
      · rename_i hsl
        obtain ⟨ex, hex⟩ := isSlice_ok htt hsl
        refine ⟨Builtin.append_ #[t, t'] rt #[v, u], rfl, ?_⟩
        obtain ⟨lv, ups, z, w', h1, h2, h3⟩ := vappend_ok (rt := rt) hs htt hd hex hl.1 hl.2.1 h
        exact ⟨lv, ups, z, w', fun γ K => by simp only [vbuiltin, hsl, cond_true]; exact h1 γ K, h2, h3⟩
      · cases h
    | [], hl => exact hl.elim
    | [_], hl => exact hl.2.elim
    | _ :: _ :: _ :: _, hl => exact hl.2.2.elim
  · rename_i ts' xs
    have hp : ∀ (xs : List LV) (vs : List Value), LVs β H M xs vs → vs.length = xs.length ∧ ∀ (i : Nat) (x : LV) (v : Value), xs[i]? = some x → vs[i]? = some v → LVR β H M v x := by
      intro xs
      induction xs with
      | nil => intro vs h; cases vs with
        | nil => exact ⟨rfl, fun i x v h => by simp at h⟩
        | cons _ _ => exact h.elim
      | cons x xs ih => intro vs h; cases vs with
        | nil => exact h.elim
        | cons v vs =>
          obtain ⟨e1, e2⟩ := ih vs h.2
          refine ⟨by simp [e1], fun i y u hy hu => ?_⟩
          cases i with
          | zero => simp at hy hu; subst hy; subst hu; exact h.1
          | succ i => exact e2 i y u (by simpa using hy) (by simpa using hu)
    obtain ⟨e1, e2⟩ := hp _ _ hl
    refine ⟨Builtin.min_ ⟨ts'⟩ rt ⟨vals⟩, rfl, ?_⟩
    obtain ⟨lv, z, h1, h2, h3⟩ := vmin_ok (mx := false) (vs := ⟨vals⟩) h (by simpa using e1) (by simpa using e2) ⟨ts'⟩ rt
    exact ⟨lv, [], z, w, fun γ K => by simp only [vbuiltin]; exact h1 γ _, ⟨β, M, hs, h2⟩, h3 w⟩
  · rename_i ts' xs
    have hp : ∀ (xs : List LV) (vs : List Value), LVs β H M xs vs → vs.length = xs.length ∧ ∀ (i : Nat) (x : LV) (v : Value), xs[i]? = some x → vs[i]? = some v → LVR β H M v x := by
      intro xs
      induction xs with
      | nil => intro vs h; cases vs with
        | nil => exact ⟨rfl, fun i x v h => by simp at h⟩
        | cons _ _ => exact h.elim
      | cons x xs ih => intro vs h; cases vs with
        | nil => exact h.elim
        | cons v vs =>
          obtain ⟨e1, e2⟩ := ih vs h.2
          refine ⟨by simp [e1], fun i y u hy hu => ?_⟩
          cases i with
          | zero => simp at hy hu; subst hy; subst hu; exact h.1
          | succ i => exact e2 i y u (by simpa using hy) (by simpa using hu)
    obtain ⟨e1, e2⟩ := hp _ _ hl
    refine ⟨Builtin.max_ ⟨ts'⟩ rt ⟨vals⟩, rfl, ?_⟩
    obtain ⟨lv, z, h1, h2, h3⟩ := vmin_ok (mx := true) (vs := ⟨vals⟩) h (by simpa using e1) (by simpa using e2) ⟨ts'⟩ rt
    exact ⟨lv, [], z, w, fun γ K => by simp only [vbuiltin]; exact h1 γ _, ⟨β, M, hs, h2⟩, h3 w⟩
  · cases h

theorem TyOk.under_iface {t : Nat} {ty : Ty} (h : TyOk P t ty) (hd : ty.d = .iface) : ∃ ms, P.underlying t = some (.interface ms) := by
  obtain ⟨i, d, z, h1, h2, h3, h4, h5, _⟩ := h.facts
  rw [hd] at h5
  cases d <;> simp [dB] at h5
  exact ⟨_, h2⟩
theorem vnilI_ok {cx : Cx} (htt : ∀ t ty, cx.tt t = some ty → TyOk P t ty) {op : BinOp} {t : Nat} {x : LV} {v : Value} (X : Operand) (hv : LVR β H M v x)
    {α : Type} {K : LV → Option α} {r : α} (h : vnilI cx op t x K = some r) : Pure1 P β H M (fun γ K => vnilI cx op t x K) (do eqGuard op t X (.const .nilIface) v .nilIface; binOp op t v .nilIface) := by
  unfold vnilI at h
  split at h
  · rename_i c e
    simp only [Bool.cond_eq_ite, Bool.and_eq_true] at h
    split at h
    · rename_i hc
      have hc' : (isBoolC c && isIface (cx.tt t)) = true := by simp [hc.1, hc.2]
      have hif : ∃ ms, P.underlying t = some (.interface ms) := by
        have h2 := hc.2
        unfold isIface at h2
        split at h2
        · rename_i ty hty
          split at h2
          · rename_i hd
            exact (htt t ty hty).under_iface hd
          · cases h2
        · cases h2
      obtain ⟨ms, hms⟩ := hif
      have hvn : e.isNone = true → v = .nilIface := by
        intro he
        cases e with
        | some p => cases he
        | none =>
          have hv2 : some v = some (nilOf c) := hv.2
          injection hv2 with hv2
          rw [hv2]
          unfold nilOf
          rw [hc.1]
          rfl
      have hg : ∀ w : World, v = .nilIface → (eqGuard op t X (.const .nilIface) v .nilIface).run P w = .ok () w := by
        intro w hv
        subst hv
        unfold eqGuard
        cases op <;> simp
      have heq : ∀ w : World, (Op.equal t .nilIface .nilIface).run P w = .ok true w := by
        intro w
        show (Op.equalIn (9999 + 1) t .nilIface .nilIface).run P w = .ok true w
        unfold Op.equalIn
        simp only [Sem.run_bind, run_underlying hms, Result.andThen_ok, Sem.run_pure]
      split at h
      · split at h
        · rename_i he
          have := hvn he
          subst this
          refine ⟨.c (.s .bool true), .bool true, fun γ K => by simp only [vnilI, hc', he, cond_true], lmk_bool true, fun w => ?_⟩
          simp only [Sem.run_bind, hg w rfl, Result.andThen_ok]
          simp [binOp, heq]
        · cases h
      · split at h
        · rename_i he
          have := hvn he
          subst this
          refine ⟨.c (.s .bool false), .bool false, fun γ K => by simp only [vnilI, hc', he, cond_true], lmk_bool false, fun w => ?_⟩
          simp only [Sem.run_bind, hg w rfl, Result.andThen_ok]
          simp [binOp, heq]
        · cases h
      · cases h
    · cases h
  · cases h
theorem vnilS_ok {cx : Cx} (htt : ∀ t ty, cx.tt t = some ty → TyOk P t ty) {op : BinOp} {t : Nat} {x : LV} {v : Value} (X : Operand) (hv : LVR β H M v x)
    {α : Type} {K : LV → Option α} {r : α} (h : vnilS cx op t x K = some r) : Pure1 P β H M (fun γ K => vnilS cx op t x K) (do eqGuard op t X (.const (.slice none 0 0)) v (.slice none 0 0); binOp op t v (.slice none 0 0)) := by
  unfold vnilS at h
  simp only [Bool.cond_eq_ite] at h
  split at h
  · rename_i hsl
    obtain ⟨e, he⟩ := isSlice_ok htt hsl
    have main : ∀ (A : Option Addr) (len cap : Nat) (w : World), (Op.equal t (.slice A len cap) (.slice none 0 0)).run P w = .ok A.isNone w := by
      intro A len cap w
      show (Op.equalIn (9999 + 1) t (.slice A len cap) (.slice none 0 0)).run P w = _
      unfold Op.equalIn
      cases A <;> simp only [Sem.run_bind, run_underlying he, Result.andThen_ok, Sem.run_pure, Option.isNone]
    have goE : ∀ (A : Option Addr) (len cap : Nat) (w : World), (do eqGuard .eql t X (.const (.slice none 0 0)) (.slice A len cap) (.slice none 0 0); binOp .eql t (.slice A len cap) (.slice none 0 0)).run P w = .ok (.bool A.isNone) w := by
      intro A len cap w
      simp only [Sem.run_bind, run_guard_other .eql t X (.const (.slice none 0 0)) (.slice A len cap) (.slice none 0 0) rfl (by simp) w, Result.andThen_ok]
      simp [binOp, main]
    have goN : ∀ (A : Option Addr) (len cap : Nat) (w : World), (do eqGuard .neq t X (.const (.slice none 0 0)) (.slice A len cap) (.slice none 0 0); binOp .neq t (.slice A len cap) (.slice none 0 0)).run P w = .ok (.bool !A.isNone) w := by
      intro A len cap w
      simp only [Sem.run_bind, run_guard_other .neq t X (.const (.slice none 0 0)) (.slice A len cap) (.slice none 0 0) rfl (by simp) w, Result.andThen_ok]
      simp [binOp, main]
    split at h
    · have hv : v = .slice none 0 0 := hv
      subst hv
      split at h
      · exact ⟨.c (.s .bool true), .bool true, fun γ K => by simp only [vnilS, hsl, cond_true], lmk_bool true, fun w => goE none 0 0 w⟩
      · exact ⟨.c (.s .bool false), .bool false, fun γ K => by simp only [vnilS, hsl, cond_true], lmk_bool false, fun w => goN none 0 0 w⟩
      · cases h
    · rename_i c l
      obtain ⟨_, A, cap, h0, hc, hl⟩ := hv
      have h0 : some v = _ := h0
      injection h0 with h0
      subst h0
      have hA : List.isEmpty (l : List (El c)) = false → A.isNone = false := by
        intro hne
        cases hll : (l : List (El c)) with
        | nil => rw [hll] at hne; cases hne
        | cons y r =>
          obtain ⟨ad, e, _⟩ := hl 0 y (by rw [hll]; rfl)
          rw [e]; rfl
      split at h
      · cases hem : List.isEmpty (l : List (El c)) with
        | true => rw [hem] at h; cases h
        | false => exact ⟨.c (.s .bool false), .bool false, fun γ K => by simp only [vnilS, hsl, hem, cond_true, cond_false], lmk_bool false, fun w => by rw [goE, hA hem]⟩
      · cases hem : List.isEmpty (l : List (El c)) with
        | true => rw [hem] at h; cases h
        | false => exact ⟨.c (.s .bool true), .bool true, fun γ K => by simp only [vnilS, hsl, hem, cond_true, cond_false], lmk_bool true, fun w => by rw [goN, hA hem]; rfl⟩
      · cases h
    · cases h
  · cases h
theorem makeLen_ok {T : Nat → LV} {n m : Operand} {x : LV} (h : makeLen T n m = some x) : n = m ∧ evalO T n = x := by
  unfold makeLen at h
  split at h
  · split at h
    · rename_i a b
      simp only [Bool.cond_eq_ite, beq_iff_eq] at h
      split at h
      · rename_i e
        subst e; cases h
        exact ⟨rfl, rfl⟩
      · cases h
    · cases h
  · rename_i v
    unfold constLen at h
    split at h
    · rename_i a b
      simp only [Bool.cond_eq_ite, decide_eq_true_eq] at h
      split at h
      · rename_i e
        subst e; cases h
        exact ⟨rfl, rfl⟩
      · cases h
    · cases h
  · cases h
theorem vopB_ok (hs : Sim B β M T H a w) {cx : Cx} (htt : ∀ t ty, cx.tt t = some ty → TyOk P t ty) (hG : CxOk P cx) {o : Oper} (hd : o.dst.getD 0 < 10000)
    {α : Type} {K : LV → List (Nat × VO) → Option α} {r : α} (h : vopB cx o T H K = some r) : OpOk P B T H a w o (fun γ K => vopB cx o T H K) := by
  obtain ⟨dst, op, ty, pos, after, guard⟩ := o
  simp only at hd
  cases op with
  | move x => exact (vmove_ok (o := ⟨dst, .move x, ty, pos, after, guard⟩) hs hd rfl h)
  | assign x => exact (vmove_ok (o := ⟨dst, .assign x, ty, pos, after, guard⟩) hs hd rfl h)
  | pick c x y =>
    simp only [vopB] at h
    exact Pure1.op (o := ⟨dst, .pick c x y, ty, pos, after, guard⟩) hs (vpick_ok h (evalO_ok hs c) (evalO_ok hs x) (evalO_ok hs y)) (by simp [execOp])
  | alloc e =>
    simp only [vopB] at h
    split at h
    · rename_i te hte
      exact ((alloc_ok hs hd (htt e te hte) h).op rfl).of fun γ K => by simp only [vopB, hte]
    · cases h
  | box e x =>
    simp only [vopB] at h
    split at h
    · rename_i te hte
      simp only [Bool.cond_eq_ite] at h
      split at h
      · rename_i hc
        have hc' := hc
        simp only [Bool.and_eq_true] at hc
        exact ((box_ok hs hd e (evalO_ok hs x) hc.2 h).op rfl).of fun γ K => by simp only [vopB, hte, hc', cond_true]
      · cases h
    · cases h
  | build t parts =>
    simp only [vopB] at h
    split at h
    · rename_i te hte
      obtain ⟨p1, p2⟩ := parts_ok hs parts
      exact (Read1.op hs (vbuild_ok htt (htt t te hte) p1 p2 w h) rfl).of fun γ K => by simp only [vopB, hte]
    · cases h
  | buildSlice t n parts =>
    simp only [vopB] at h
    split at h
    · rename_i te hte
      obtain ⟨p1, p2⟩ := parts_ok hs parts
      exact ((vbuildSlice_ok hs htt hd (htt t te hte) p1 p2 h).op rfl).of fun γ K => by simp only [vopB, hte]
    · cases h
  | load t p =>
    simp only [vopB] at h
    split at h
    · rename_i te hte
      exact (Read1.op hs (vload_ok hs (htt t te hte) (evalO_ok hs p) h) rfl).of fun γ K => by simp only [vopB, hte]
    · cases h
  | store t p x =>
    simp only [vopB] at h
    split at h
    · rename_i te hte
      exact (WrU.op (vstore_ok hs (htt t te hte) (evalO_ok hs p) (evalO_ok hs x) h) rfl).of fun γ K => by simp only [vopB, hte]
    · cases h
  | nilCheck x =>
    simp only [vopB] at h
    have hx := evalO_ok hs x
    have hex : ∀ z : Value, (∀ (γ : Type) (k : Value → γ), True) → execOp a.eval ⟨dst, .nilCheck x, ty, pos, after, guard⟩ = execOp a.eval ⟨dst, .nilCheck x, ty, pos, after, guard⟩ := fun _ _ => rfl
    split at h
    · rename_i k v o he
      rw [he] at hx
      obtain ⟨v1, ad, v2, v3⟩ := hx
      refine (val_op (z := a.eval x) hs (lv := .c (.ptr k v o)) ⟨v1, ad, v2, v3⟩ ?_).of fun γ K => by simp only [vopB, he]
      simp only [execOp, v2]
    · rename_i k v i j he
      rw [he] at hx
      obtain ⟨v1, ad, v2, v3⟩ := hx
      refine (val_op (z := a.eval x) hs (lv := .c (.rptr k v i j)) ⟨v1, ad, v2, v3⟩ ?_).of fun γ K => by simp only [vopB, he]
      simp only [execOp, v2]
    · rename_i c y o he
      rw [he] at hx
      obtain ⟨ad, v2, v3⟩ := hx
      refine (val_op (z := a.eval x) hs (lv := .c (.eptr c y o)) ⟨ad, v2, v3⟩ ?_).of fun γ K => by simp only [vopB, he]
      simp only [execOp, v2]
    · rename_i f l he
      rw [he] at hx
      obtain ⟨us, v2, v3, v4⟩ := hx
      refine (val_op (z := a.eval x) hs (lv := .c (.clo f l)) ⟨us, v2, v3, v4⟩ ?_).of fun γ K => by simp only [vopB, he]
      simp only [execOp, v2]
    · cases h
  | binOp op t x y e =>
    simp only [vopB] at h
    cases hny : isNilI y with
    | false =>
      rw [hny] at h
      simp only [cond_false] at h
      cases hnc : isNilC y with
      | false =>
        rw [hnc] at h
        simp only [cond_false] at h
        exact (Pure1.op (o := ⟨dst, .binOp op t x y e, ty, pos, after, guard⟩) hs (vbinA_ok htt x y (evalO_ok hs x) (evalO_ok hs y) h) rfl).of fun γ K => by simp only [vopB, hny, hnc, cond_false]
      | true =>
        rw [hnc] at h
        simp only [cond_true] at h
        have hye : y = .const (.slice none 0 0) := by
          unfold isNilC at hnc
          split at hnc
          · rfl
          · cases hnc
        subst hye
        exact (Pure1.op (o := ⟨dst, .binOp op t x (.const (.slice none 0 0)) e, ty, pos, after, guard⟩) hs (vnilS_ok htt x (evalO_ok hs x) h) rfl).of fun γ K => by simp only [vopB, hny, hnc, cond_false, cond_true]
    | true =>
      rw [hny] at h
      simp only [cond_true] at h
      have hye : y = .const .nilIface := by
        unfold isNilI at hny
        split at hny
        · rfl
        · cases hny
      subst hye
      exact (Pure1.op (o := ⟨dst, .binOp op t x (.const .nilIface) e, ty, pos, after, guard⟩) hs (vnilI_ok htt x (evalO_ok hs x) h) rfl).of fun γ K => by simp only [vopB, hny, cond_true]
  | unOp op t x =>
    simp only [vopB] at h
    exact Pure1.op (o := ⟨dst, .unOp op t x, ty, pos, after, guard⟩) hs (vun_ok h (evalO_ok hs x)) rfl
  | convert src dt x =>
    simp only [vopB] at h
    split at h
    · rename_i s t hs1 ht1
      exact ((vconvert_ok hs htt (htt src s hs1) (htt dt t ht1) (evalO_ok hs x) h).op rfl).of fun γ K => by simp only [vopB, hs1, ht1]
    · cases h
  | makeFunc fn first captured =>
    cases fn with
    | func f => exact vmakeFunc_ok (o := ⟨dst, .makeFunc (.func f) first captured, ty, pos, after, guard⟩) hs rfl h
    | _ => simp [vopB] at h
  | makeSlice t n m =>
    simp only [vopB] at h
    split at h
    · rename_i te x hte hx
      obtain ⟨rfl, hn⟩ := makeLen_ok hx
      have hv := evalO_ok hs n
      rw [hn] at hv
      exact ((vmake_ok hs htt hd (htt t te hte) hv h).op rfl).of fun γ K => by simp only [vopB, hte, hx]
    · cases h
  | slice t x lo hi mx =>
    cases mx with
    | some _ => simp [vopB] at h
    | none =>
      simp only [vopB] at h
      split at h
      · rename_i te hte
        exact (Read1.op hs (vslice_ok hs htt (htt t te hte) (evalO_ok hs x) (vlo := lo.map a.eval) (vhi := hi.map a.eval) (by cases lo with
          | none => trivial
          | some l => exact evalO_ok hs l) (by cases hi with
          | none => trivial
          | some l => exact evalO_ok hs l) h) rfl).of fun γ K => by simp only [vopB, hte]
      · cases h
  | fieldAddr t p f =>
    simp only [vopB] at h
    split at h
    · rename_i te hte
      exact (Read1.op hs (vfieldAddr_ok (htt t te hte) (evalO_ok hs p) w h) rfl).of fun γ K => by simp only [vopB, hte]
    · cases h
  | field t x f =>
    simp only [vopB] at h
    exact Read1.op (o := ⟨dst, .field t x f, ty, pos, after, guard⟩) hs (vfield_ok htt (evalO_ok hs x) w h) rfl
  | indexAddr t x i =>
    simp only [vopB] at h
    split at h
    · rename_i te hte
      exact (Read1.op hs (vindexAddr_ok hs htt (htt t te hte) (evalO_ok hs x) (evalO_ok hs i) h) rfl).of fun γ K => by simp only [vopB, hte]
    · cases h
  | index t x i =>
    simp only [vopB] at h
    split at h
    · rename_i te hte
      exact (Read1.op hs (vindex_ok (htt t te hte) w (evalO_ok hs x) (evalO_ok hs i) h) rfl).of fun γ K => by simp only [vopB, hte]
    · cases h
  | extract x i =>
    simp only [vopB] at h
    split at h
    · rename_i l he
      have hx := evalO_ok hs x
      rw [he] at hx
      have hrun : ∀ (z : Value), (Instr.extract (a.eval x) i).run P w = .ok z w → ∀ lv, LVR β H M z lv → OpOk P B T H a w ⟨dst, .extract x i, ty, pos, after, guard⟩ (fun γ K => K lv []) := fun z hz lv hlv =>
        Wr.op (s := Instr.extract (a.eval x) i) ⟨lv, [], z, w, fun γ K => rfl, ⟨β, M, hs, hlv⟩, hz⟩ rfl
      split at h
      · rename_i y hy
        obtain ⟨z, z1, z2⟩ := vextract_ok hx hy w
        simp only [Bool.false_eq_true, if_false] at z2
        obtain ⟨y', e, z3⟩ := z2
        cases e
        exact (hrun z z1 (.c y) z3).of fun γ K => by simp only [vopB, he, hy]
      · rename_i l' hy
        obtain ⟨z, z1, z2⟩ := vextract_ok hx hy w
        simp only [if_true] at z2
        exact (hrun z z1 (.agg l') z2).of fun γ K => by simp only [vopB, he, hy]
      · cases h
    · cases h
  | call c =>
    simp only [vopB] at h
    split at h
    · rename_i b hb
      obtain ⟨s, s1, s2⟩ := vbuiltin_ok hs htt hd ty (c.args.map fun | .const _ => true | _ => false) h
      refine (s2.op ?_).of fun γ K => by simp only [vopB, hb]
      simp only [execOp, resolve, hb]
      exact s1
    · rename_i F hF
      split at h
      · rename_i C hC
        have hFC := hC
        unfold newOf at hC
        split at hC
        · rename_i f
          obtain ⟨lv, ups, h1, h2⟩ := vnew_ok hs (hG.n f C hC) hd (LVs.map hs c.args.toList) h
          refine ⟨lv, ups, fun γ K => by simp only [vopB, hF, hFC]; exact h1 γ K, fun next Q hn => ?_⟩
          unfold Oper.wp
          have he : execOp a.eval ⟨dst, .call c, ty, pos, after, guard⟩ = callFunc f (c.args.toList.map a.eval).toArray := by
            simp only [execOp, resolve, hF]
            simp [Deferred.ofValue, invoke, Act.eval]
            congr 1
            apply Array.ext'
            simp
          rw [he]
          exact h2 ⟨dst, .call c, ty, pos, after, guard⟩ a next Q hn
        · cases hC
      · rename_i hno
        refine (vcallV_ok (o := ⟨dst, .call c, ty, pos, after, guard⟩) hs hG ?_ h).of fun γ K => by simp only [vopB, hF, hno]
        simp only [execOp, resolve, hF]
    · cases h
  | _ => simp [vopB] at h
theorem vop_ok (hs : Sim B β M T H a w) {cx : Cx} (htt : ∀ t ty, cx.tt t = some ty → TyOk P t ty) (hG : CxOk P cx) {o : Oper}
    {α : Type} {K : LV → List (Nat × VO) → Option α} {r : α} (h : vop cx o T H K = some r) : OpOk P B T H a w o (fun γ K => vop cx o T H K) := by
  unfold vop at h
  cases hd : Nat.blt (o.dst.getD 0) 10000 with
  | false => rw [hd] at h; cases h
  | true =>
    rw [hd] at h
    exact (vopB_ok hs htt hG (by simpa [Nat.blt_eq] using hd) h).of fun γ K => by simp only [vop, hd, cond_true]
end
end Go.JL
/- The abstract machine, part N1: regions in the order of the text, cuts. No program in sight. -/
set_option linter.unusedVariables false
set_option linter.unusedSimpArgs false
namespace Go.JL

section
variable {P : Program} {β : Place} {M : Mem} {B : Base} {T : Nat → LV} {H : Nat → Option VO} {a : Act} {w : World}

theorem RV.put {z : Value} {lv : LV} (h : RV B T H a w z lv) {d : Nat} (hd : d < B.n) : R B (upd T d lv) H (a.put (some d) z) w := by
  obtain ⟨β, M, hs, hz⟩ := h
  refine ⟨β, M, { hs with size := by simpa [Act.put] using hs.size, defs := hs.defs, tm := fun i => ?_ }⟩
  have hsz := hs.size
  by_cases e : i = d
  · subst e
    rw [upd_same]
    have : (a.put (some i) z).tmps.getD i undef = z := by
      simp only [Act.put, Array.getD_eq_getD_getElem?]
      rw [Array.getElem?_setIfInBounds_self_of_lt (by omega)]
      rfl
    rw [this]; exact hz
  · rw [upd_ne _ _ e]
    have : (a.put (some d) z).tmps.getD i undef = a.tmps.getD i undef := by
      simp only [Act.put, Array.getD_eq_getD_getElem?]
      rw [Array.getElem?_setIfInBounds_ne (Ne.symm e)]
    rw [this]; exact hs.tm i
theorem RV.put' {z : Value} {lv : LV} {α : Type} {r : α} {n : Nat} (h : RV B T H a w z lv) (hn : n = B.n) {dst : Option Nat} {K : (Nat → LV) → Option α} (hk : putT n T dst lv K = some r) :
    ∃ T', K T' = some r ∧ R B T' H (a.put dst z) w := by
  cases dst with
  | none =>
    obtain ⟨β, M, hs, _⟩ := h
    exact ⟨T, hk, β, M, hs⟩
  | some d =>
    simp only [putT, Bool.cond_eq_ite, decide_eq_true_eq] at hk
    split at hk
    · rename_i hd
      exact ⟨upd T d lv, hk, h.put (by omega)⟩
    · cases hk

theorem guard_ok (hs : R B T H a w) {ops : Array Oper} {j dj : Nat} {b : Bool} (hj : (ops[j]?).bind (·.dst) = some dj) (hb : T dj = .c (.s .bool b)) : yielded ops a.tmps j = some b := by
  obtain ⟨β, M, hs⟩ := hs
  have h := hs.tm dj
  rw [hb] at h
  have h := linv_bool h
  unfold yielded
  rw [hj]
  simp only [Option.bind_some]
  rw [Array.getD_eq_getD_getElem?] at h
  cases hx : a.tmps[dj]? with
  | none => rw [hx] at h; simp [undef] at h
  | some v => rw [hx] at h; simp at h; subst h; rfl
theorem guard_und (hs : R B T H a w) {ops : Array Oper} {j dj : Nat} (hj : (ops[j]?).bind (·.dst) = some dj) (hb : T dj = .c .und) : yielded ops a.tmps j = none := by
  obtain ⟨β, M, hs⟩ := hs
  have h := hs.tm dj
  rw [hb] at h
  have h : a.tmps.getD dj undef = undef := h
  unfold yielded
  rw [hj]
  simp only [Option.bind_some]
  rw [Array.getD_eq_getD_getElem?] at h
  cases hx : a.tmps[dj]? with
  | none => rfl
  | some v => rw [hx] at h; simp at h; subst h; rfl
theorem upd_self {γ : Type} (f : Nat → γ) (k : Nat) : upd f k (f k) = f := by
  funext j
  by_cases e : j = k
  · subst e; exact upd_same _ _ _
  · exact upd_ne _ _ e

theorem vops_ok {cx : Cx} (htt : ∀ t ty, cx.tt t = some ty → TyOk P t ty) (hG : CxOk P cx) (hn : cx.n = B.n) {α : Type} {r : α} {ops : Array Oper} {Q : Exit → Act → World → Prop} :
    ∀ (l : List Oper) (T : Nat → LV) (H : Nat → Option VO) (a : Act) (w : World) (K : (Nat → LV) → (Nat → Option VO) → Option α), R B T H a w → vops cx ops l T H K = some r →
      (∀ T' H' a' w', R B T' H' a' w' → K T' H' = some r → Q .normal a' w') → wpList P ops Q l a w
  | [], T, H, a, w, K, hR, h, hk => hk T H a w hR h
  | o :: l, T, H, a, w, K, hR, h, hk => by
    have step : ∀ T, R B T H a w → Region.wanted o (yielded ops a.tmps) = true → (vop cx o T H fun v ups => putT cx.n T o.dst v fun T => vops cx ops l T (updH H ups) K) = some r → wpList P ops Q (o :: l) a w := by
      intro T hR hw h
      obtain ⟨β, M, hs⟩ := hR
      obtain ⟨lv, ups, h1, h2⟩ := vop_ok hs htt hG h
      have h := (h1 _ _).symm.trans h
      unfold wpList
      rw [if_pos hw]
      refine .inl (h2 _ Q fun z w' hz => ?_)
      obtain ⟨T', g1, g2⟩ := hz.put' hn h
      exact vops_ok htt hG hn l T' _ _ _ K g2 g1 hk
    unfold vops at h
    split at h
    · rename_i hg
      exact step T hR (by unfold Region.wanted; rw [hg]) h
    · rename_i j want hg
      split at h
      · cases h
      · rename_i dj hdj
        split at h
        · rename_i b hb
          have hy := guard_ok hR hdj hb
          have hT : upd T dj (.c (.s .bool b)) = T := by rw [← hb]; exact upd_self T dj
          have h' : (bif b == want then vop cx o T H fun v ups => putT cx.n T o.dst v fun T => vops cx ops l T (updH H ups) K
            else putT cx.n T o.dst und fun T => vops cx ops l T H K) = some r := by
            cases b
            · simp only [cond_false] at h
              rw [hT] at h
              exact h
            · simp only [cond_true] at h
              rw [hT] at h
              exact h
          simp only [Bool.cond_eq_ite, beq_iff_eq] at h'
          split at h'
          · rename_i hbw
            exact step T hR (by unfold Region.wanted; rw [hg]; simp [hy, hbw]) h'
          · rename_i hbw
            have hw : ¬ Region.wanted o (yielded ops a.tmps) = true := by unfold Region.wanted; rw [hg]; simp [hy, hbw]
            unfold wpList
            rw [if_neg hw]
            obtain ⟨β, M, hs⟩ := hR
            have hz : RV B T H a w undef und := ⟨β, M, hs, rfl⟩
            obtain ⟨T', g1, g2⟩ := hz.put' hn h'
            exact vops_ok htt hG hn l T' _ _ _ K g2 g1 hk
        · rename_i hb
          have hy := guard_und hR hdj hb
          have hw : ¬ Region.wanted o (yielded ops a.tmps) = true := by unfold Region.wanted; rw [hg]; simp [hy]
          unfold wpList
          rw [if_neg hw]
          obtain ⟨β, M, hs⟩ := hR
          have hz : RV B T H a w undef und := ⟨β, M, hs, rfl⟩
          obtain ⟨T', g1, g2⟩ := hz.put' hn h
          exact vops_ok htt hG hn l T' _ _ _ K g2 g1 hk
        · cases h

/-! ### Cuts -/
theorem tbl_map (g : Nat → LV) : ∀ (l : List Nat) (j : Nat), tbl (l.map fun j => (j, g j)) j = if j ∈ l then g j else dead
  | [], j => by simp [tbl]
  | i :: r, j => by
    rw [List.map_cons, tbl, tbl_map g r j]
    by_cases e : j = i
    · subst e; simp
    · have hb : (j == i) = false := by simpa using e
      simp [hb, e]
theorem tblH_map (g : Nat → Option VO) : ∀ (l : List Nat) (k : Nat), tblH (l.map fun k => (k, g k)) k = if k ∈ l then g k else none
  | [], k => by simp [tblH]
  | i :: r, k => by
    rw [List.map_cons, tblH, tblH_map g r k]
    by_cases e : k = i
    · subst e; simp
    · have hb : (k == i) = false := by simpa using e
      simp [hb, e]
theorem mask_some {l : List Nat} {k : Nat} {vo : VO} (h : mask l H k = some vo) : k ∈ l ∧ H k = some vo := by
  unfold mask at h
  simp only [Bool.cond_eq_ite, List.contains_eq_mem, decide_eq_true_eq] at h
  split at h
  · rename_i hk; exact ⟨hk, h⟩
  · cases h

section
variable {H' : Nat → Option VO} {m : List Nat}
theorem renC_ok (hs : Sim B β M T H a w) {M' : Mem} (hM : M.le M') (hcov : ∀ k, k ∉ m → k < 1000000 → Cov β H M' w k) (hH : ∀ k, H' k = if k ∈ m then (H k).map (ren0 m H) else none) {v : Value} : ∀ x : CV, CVR β H M v x → CVR β H' M' v (renC m H x) := by
  have live : ∀ k vo, mask m H k = some vo → H' k = some (ren0 m H vo) := by
    intro k vo h
    obtain ⟨h1, h2⟩ := mask_some h
    rw [hH, if_pos h1, h2]; rfl
  intro x h
  cases x with
  | s c x => exact ⟨h.1, CR.mono hM c x _ _ (fun _ _ _ h => h) h.2⟩
  | nils => exact h
  | own k ver wn =>
    unfold renC
    simp only
    split
    · rename_i vo hk
      simp only [Bool.cond_eq_ite, beq_iff_eq]
      split
      · rename_i hv
        obtain ⟨h1, h2, h3⟩ := h
        refine ⟨h1, ⟨_, live k vo hk, Nat.zero_le _⟩, fun c l fz hc => ?_⟩
        rw [live k vo hk] at hc
        obtain ⟨v0, ob, f0⟩ := vo
        simp only at hv
        subst hv
        cases ob with
        | cells l' => simp [ren0] at hc
        | row c' l' =>
          simp only [ren0, Option.some.injEq, VO.mk.injEq, true_and, Ob.row.injEq] at hc
          obtain ⟨⟨rfl, hl⟩, rfl⟩ := hc
          cases hl
          exact h3 _ _ _ (mask_some hk).2
      · trivial
    · rename_i hmk
      unfold giveUp
      split
      · rename_i v' c l fz hk
        have hkm : k ∉ m := by
          intro hkm
          have : mask m H k = H k := by unfold mask; simp [hkm]
          rw [this, hk] at hmk; cases hmk
        simp only [Bool.cond_eq_ite, Bool.and_eq_true, beq_iff_eq]
        split
        · rename_i hvv
          have htoe : toEl H (.list c) (.own k ver wn) = some (wn.on l) := by
            unfold toEl
            simp only [hk]
            simp [hvv.1, hvv.2, castE]
          exact ⟨rfl, toEl_ok hs hM htoe h fun j hj hlt => hcov j (by simp [ownKeys] at hj; subst hj; exact hkm) hlt⟩
        · trivial
      · trivial
  | ptr k ver off =>
    unfold renC
    simp only
    split
    · rename_i vo hk
      simp only [Bool.cond_eq_ite, beq_iff_eq]
      split
      · rename_i hv
        obtain ⟨h1, ad, h2, h3⟩ := h
        refine ⟨⟨_, live k vo hk, Nat.zero_le _⟩, ad, h2, fun l fz hc => ?_⟩
        rw [live k vo hk] at hc
        obtain ⟨v0, ob, f0⟩ := vo
        simp only at hv
        subst hv
        cases ob with
        | cells l' => exact h3 l' f0 (mask_some hk).2
        | row c' l' => simp [ren0] at hc
      · trivial
    · trivial
  | rptr k ver i j =>
    unfold renC
    simp only
    split
    · rename_i vo hk
      simp only [Bool.cond_eq_ite, beq_iff_eq]
      split
      · rename_i hv
        obtain ⟨h1, ad, h2, h3⟩ := h
        refine ⟨⟨_, live k vo hk, Nat.zero_le _⟩, ad, h2, fun c l fz hc => ?_⟩
        rw [live k vo hk] at hc
        obtain ⟨v0, ob, f0⟩ := vo
        simp only at hv
        subst hv
        cases ob with
        | cells l' => simp [ren0] at hc
        | row c' l' =>
          simp only [ren0, Option.some.injEq, VO.mk.injEq, true_and, Ob.row.injEq] at hc
          obtain ⟨⟨rfl, hl⟩, rfl⟩ := hc
          cases hl
          exact h3 _ _ _ (mask_some hk).2
      · trivial
    · trivial
  | eptr c x o =>
    obtain ⟨ad, h1, h2⟩ := h
    exact ⟨ad, h1, CR.mono hM c x _ _ (fun _ _ _ hv => hM _ _ hv) h2⟩
  | nilp => exact h
  | clo f l =>
    unfold renC
    simp only [Bool.cond_eq_ite]
    split
    · rename_i hall
      obtain ⟨us, h1, h2, h3⟩ := h
      refine ⟨us, h1, by simpa using h2, fun i p hp => ?_⟩
      rw [List.getElem?_map] at hp
      cases hq : l[i]? with
      | none => rw [hq] at hp; cases hp
      | some q =>
        rw [hq] at hp
        cases hp
        obtain ⟨u, g1, g2, ad, g3, g4⟩ := h3 i q hq
        have := List.all_eq_true.1 hall q (List.mem_of_getElem? hq)
        split at this
        · rename_i vo hk
          simp only [beq_iff_eq] at this
          refine ⟨u, g1, ⟨_, live q.1 vo hk, Nat.zero_le _⟩, ad, g3, fun l' fz hc => ?_⟩
          rw [live q.1 vo hk] at hc
          obtain ⟨v0, ob, f0⟩ := vo
          simp only at this
          cases ob with
          | cells l'' => exact g4 l'' f0 (by rw [← this]; exact (mask_some hk).2)
          | row c' l'' => simp [ren0] at hc
        · cases this
    · trivial
  | dead => exact h
  | und => exact h
theorem renCells_ok (hs : Sim B β M T H a w) {M' : Mem} (hM : M.le M') (hcov : ∀ k, k ∉ m → k < 1000000 → Cov β H M' w k) (hH : ∀ k, H' k = if k ∈ m then (H k).map (ren0 m H) else none) {rd : Nat → Option Value} {l : List CV} (h : CellsR β H M rd l) : CellsR β H' M' rd (l.map (renC m H)) := by
  intro i x hx
  rw [List.getElem?_map] at hx
  cases hy : l[i]? with
  | none => rw [hy] at hx; cases hx
  | some y =>
    rw [hy] at hx; cases hx
    obtain ⟨u, h1, h2⟩ := h i y hy
    exact ⟨u, h1, renC_ok hs hM hcov hH y h2⟩
end
theorem others (m : List Nat) (n : Nat) : ∃ ks : List Nat, (∀ k, k ∉ m → k < n → k ∈ ks) ∧ ∀ k ∈ ks, k ∉ m :=
  ⟨(List.range n).filter fun k => !m.contains k, fun k h1 h2 => List.mem_filter.2 ⟨List.mem_range.2 h2, by simpa using h1⟩, fun k hk => by simpa using (List.mem_filter.1 hk).2⟩
theorem Sim.relabel (h : Sim B β M T H a w) {k v : Nat} {l l' : List CV} {fz : Bool} (hk : H k = some ⟨v, .cells l, fz⟩) (hlen : l'.length = l.length)
    (hc : ∀ b cs e, β k = some (b, l.length) → w.heap[b]? = some (.cells cs e (0, 0)) → CellsR β H M (fun i => cs[i]?) l') : Sim B β M T (upd H k (some ⟨v, .cells l', fz⟩)) a w := by
  have hkeeps : Keeps β β H (upd H k (some ⟨v, .cells l', fz⟩)) := by
    intro j vj hj
    by_cases e : j = k
    · subst e
      rw [hk] at hj; cases hj
      exact ⟨_, upd_same _ _ _, Nat.le_refl _, fun _ => ⟨rfl, trivial⟩⟩
    · exact ⟨vj, by rw [upd_ne _ _ e]; exact hj, Nat.le_refl _, fun _ => ⟨rfl, sameOb.refl _⟩⟩
  have live : ∀ j vj, upd H k (some ⟨v, .cells l', fz⟩) j = some vj → ∃ vj', H j = some vj' := by
    intro j vj hj
    by_cases e : j = k
    · subst e; exact ⟨_, hk⟩
    · rw [upd_ne _ _ e] at hj; exact ⟨vj, hj⟩
  refine h.step hkeeps (Mem.le.refl _) ?_ ?_ h.mem ?_ ?_ (fun _ _ h => .inl h) h.ext
  · intro j vj hj
    by_cases e : j = k
    · subst e
      rw [upd_same] at hj; cases hj
      obtain ⟨q1, b, cs, e, q2, q3, q4, q5, q6⟩ := h.hp j _ hk
      exact ⟨q1, b, cs, e, by rw [hlen]; exact q2, q3, by rw [hlen]; exact q4, (hc b cs e q2 q3).keep hkeeps (Mem.le.refl _) (fun _ _ h => h), q6⟩
    · rw [upd_ne _ _ e] at hj
      exact (h.hp j vj hj).keep hkeeps (Mem.le.refl _) rfl (fun _ _ _ => rfl) (fun b' n' hb' hf => by obtain ⟨cs, e, _, _, h4⟩ := (h.hp j vj hj).block hb'; exact h4 hf)
  · intro j j' vj vj' b1 n1 b2 n2 hj hj' h1 h2 hne
    obtain ⟨u, hu⟩ := live j vj hj
    obtain ⟨u', hu'⟩ := live j' vj' hj'
    exact h.inj j j' u u' b1 n1 b2 n2 hu hu' h1 h2 hne
  · intro j vj b' n' hj hb'
    obtain ⟨u, hu⟩ := live j vj hj
    exact h.own j u b' n' hu hb'
  · intro j b' vj hio hj
    obtain ⟨u, hu⟩ := live j vj hj
    exact h.ins j b' u hio hu
theorem Keeps.next {k : Nat} {p : Option (Nat × Nat)} {ob : Ob} {fz : Bool} : Keeps β (upd β k p) H (upd H k (some ⟨nextv H k, ob, fz⟩)) := by
  cases hk : H k with
  | none => exact Keeps.new hk
  | some o => exact Keeps.newer hk (by unfold nextv; rw [hk]; exact Nat.lt_succ_self _)
theorem Sim.move (h : Sim B β M T H a w) {k1 k2 v2 : Nat} {c : TC} {l : List (El c)} {fz : Bool} (hk2 : H k2 = some ⟨v2, .row c l, fz⟩) (hne : k2 ≠ k1) (hlt1 : k1 < 1000000) (hlt2 : k2 < 1000000) :
    Sim B (upd (upd β k1 (β k2)) k2 none) M T (upd (upd H k1 (some ⟨nextv H k1, .row c l, fz⟩)) k2 (some ⟨v2 + 1, .row c [], false⟩)) a w ∧
      Keeps β (upd (upd β k1 (β k2)) k2 none) H (upd (upd H k1 (some ⟨nextv H k1, .row c l, fz⟩)) k2 (some ⟨v2 + 1, .row c [], false⟩)) := by
  have hkeeps : Keeps β (upd (upd β k1 (β k2)) k2 none) H (upd (upd H k1 (some ⟨nextv H k1, .row c l, fz⟩)) k2 (some ⟨v2 + 1, .row c [], false⟩)) := by
    intro j vj hj
    by_cases e2 : j = k2
    · subst e2
      rw [hk2] at hj; cases hj
      exact ⟨_, upd_same _ _ _, by simp, fun e => by simp at e⟩
    · rw [upd_ne _ _ e2, upd_ne _ _ e2]
      exact Keeps.next j vj hj
  refine ⟨h.step hkeeps (Mem.le.refl _) ?_ ?_ h.mem ?_ ?_ (fun _ _ h => .inl h) h.ext, hkeeps⟩
  · intro j vj hj
    by_cases e2 : j = k2
    · subst e2
      rw [upd_same] at hj; cases hj
      exact ⟨(h.hp j _ hk2).1, by simp only [upd_same]⟩
    · rw [upd_ne _ _ e2] at hj
      by_cases e1 : j = k1
      · subst e1
        rw [upd_same] at hj; cases hj
        have ho := h.hp k2 _ hk2
        refine ⟨ho.1, ?_⟩
        have ho2 := ho.2
        simp only [upd_ne _ _ e2, upd_same]
        exact ho2
      · rw [upd_ne _ _ e1] at hj
        exact (h.hp j vj hj).keep hkeeps (Mem.le.refl _) (by rw [upd_ne _ _ e2, upd_ne _ _ e1]) (fun _ _ _ => rfl) (fun b' n' hb' hf => by obtain ⟨cs, e, _, _, h4⟩ := (h.hp j vj hj).block hb'; exact h4 hf)
  · intro j j' vj vj' b1 n1 b2 n2 hj hj' h1 h2 hjj
    have src : ∀ j vj b n, upd (upd H k1 (some ⟨nextv H k1, .row c l, fz⟩)) k2 (some ⟨v2 + 1, .row c [], false⟩) j = some vj → upd (upd β k1 (β k2)) k2 none j = some (b, n) → ∃ i ui, H i = some ui ∧ β i = some (b, n) ∧ ((j = k1 ∧ i = k2) ∨ (j ≠ k1 ∧ i = j ∧ j ≠ k2)) := by
      intro j vj b n hj hb
      by_cases e2 : j = k2
      · subst e2; rw [upd_same] at hb; cases hb
      · rw [upd_ne _ _ e2] at hj hb
        by_cases e1 : j = k1
        · subst e1; rw [upd_same] at hb
          exact ⟨k2, _, hk2, hb, .inl ⟨rfl, rfl⟩⟩
        · rw [upd_ne _ _ e1] at hj hb
          exact ⟨j, vj, hj, hb, .inr ⟨e1, rfl, e2⟩⟩
    obtain ⟨i, ui, g1, g2, g3⟩ := src j vj b1 n1 hj h1
    obtain ⟨i', ui', g1', g2', g3'⟩ := src j' vj' b2 n2 hj' h2
    refine h.inj i i' ui ui' b1 n1 b2 n2 g1 g1' g2 g2' ?_
    rcases g3 with ⟨x1, x2⟩ | ⟨x1, x2, x3⟩ <;> rcases g3' with ⟨y1, y2⟩ | ⟨y1, y2, y3⟩ <;> omega
  · intro j vj b' n' hj hb'
    by_cases e2 : j = k2
    · subst e2; rw [upd_same] at hb'; cases hb'
    · rw [upd_ne _ _ e2] at hj hb'
      by_cases e1 : j = k1
      · subst e1; rw [upd_same] at hb'
        rcases h.own k2 _ b' n' hk2 hb' with g | g
        · exact .inl g
        · have := B.far k2 b' g; omega
      · rw [upd_ne _ _ e1] at hj hb'
        exact h.own j vj b' n' hj hb'
  · intro j b' vj hio hj
    have := B.far j b' hio
    have e1 : j ≠ k1 := fun e => by omega
    have e2 : j ≠ k2 := fun e => by omega
    rw [upd_ne _ _ e2, upd_ne _ _ e1] at hj
    rw [upd_ne _ _ e2, upd_ne _ _ e1]
    exact h.ins j b' vj hio hj
theorem cells_set {rd : Nat → Option Value} {l : List CV} {i : Nat} {x : CV} (h : ∀ j y, j ≠ i → l[j]? = some y → ∃ u, rd j = some u ∧ CVR β H M u y) (hx : i < l.length → ∃ u, rd i = some u ∧ CVR β H M u x) : CellsR β H M rd (l.set i x) := by
  intro j y hy
  by_cases e : j = i
  · subst e
    have hlt : j < l.length := by
      have := (List.getElem?_eq_some_iff.1 hy).1
      simpa using this
    rw [List.getElem?_set_self hlt] at hy
    cases hy
    exact hx hlt
  · rw [List.getElem?_set_ne (Ne.symm e)] at hy
    exact h j y e hy
theorem home_ok (hs : Sim B β M T H a w) (k i k1 : Nat) (c : TC) : ∃ β', Sim B β' M T (home k i k1 c H) a w := by
  unfold home
  split
  · rename_i v l fz hk
    simp only [Bool.cond_eq_ite]
    split
    · rename_i hcnd
      simp only [Bool.and_eq_true, Nat.blt_eq, Bool.not_eq_true', beq_eq_false_iff_ne] at hcnd
      obtain ⟨hlt, hne, hpos⟩ := hcnd
      have hne' : k ≠ k1 := Ne.symm hne
      split
      · rename_i hi
        have h1 := hs.virt' (v := nextv H k1) hlt hpos Keeps.next
        refine ⟨_, h1.relabel (by rw [upd_ne _ _ hne']; exact hk) (by simp) fun b cs e hb hcs => ?_⟩
        obtain ⟨q1, b', cs', e', q2, q3, q4, q5, q6⟩ := hs.hp k _ hk
        have hb' : β k = some (b, l.length) := by rw [upd_ne _ _ hne'] at hb; exact hb
        rw [q2] at hb'; cases hb'
        rw [q3] at hcs; cases hcs
        refine cells_set (fun j y hj hy => ?_) fun _ => ?_
        · obtain ⟨u, u1, u2⟩ := q5 j y hy
          exact ⟨u, u1, u2.keep (Keeps.next (p := none)) (Mem.le.refl _)⟩
        · obtain ⟨u, u1, u2⟩ := q5 i _ hi
          have u2 : u = .slice none 0 0 := u2
          subst u2
          refine ⟨_, u1, rfl, ⟨_, upd_same _ _ _, Nat.le_refl _⟩, fun c' l' fz' hH => ?_⟩
          rw [upd_same] at hH
          cases hH
          simp only [RowV, upd_same]
          exact ⟨trivial, rfl⟩
      · rename_i k2 v2 wn hi
        split
        · exact ⟨β, hs⟩
        · rename_i hcnd2
          simp only [Bool.or_eq_true, beq_iff_eq, Bool.not_eq_true', not_or, Bool.not_eq_false, Nat.blt_eq] at hcnd2
          obtain ⟨⟨hk21, hk2k⟩, hlt2⟩ := hcnd2
          split
          · rename_i v2' c' l' fz' hk2
            split
            · rename_i hvv
              simp only [beq_iff_eq] at hvv
              subst hvv
              obtain ⟨h1, hkeeps⟩ := hs.move hk2 hk21 hlt hlt2
              have hkk : upd (upd H k1 (some ⟨nextv H k1, .row c' l', fz'⟩)) k2 (some ⟨v2 + 1, .row c' [], false⟩) k = some ⟨v, .cells l, fz⟩ := by
                rw [upd_ne _ _ (Ne.symm hk2k), upd_ne _ _ hne']; exact hk
              refine ⟨_, h1.relabel hkk (by simp) fun b cs e hb hcs => ?_⟩
              obtain ⟨q1, b', cs', e', q2, q3, q4, q5, q6⟩ := hs.hp k _ hk
              have hb' : β k = some (b, l.length) := by rw [upd_ne _ _ (Ne.symm hk2k), upd_ne _ _ hne'] at hb; exact hb
              rw [q2] at hb'; cases hb'
              rw [q3] at hcs; cases hcs
              refine cells_set (fun j y hj hy => ?_) fun _ => ?_
              · obtain ⟨u, u1, u2⟩ := q5 j y hy
                exact ⟨u, u1, u2.keep hkeeps (Mem.le.refl _)⟩
              · obtain ⟨u, u1, u2⟩ := q5 i _ hi
                obtain ⟨p1, p2, p3⟩ := u2
                refine ⟨u, u1, p1, ⟨_, by rw [upd_ne _ _ (Ne.symm hk21), upd_same], Nat.le_refl _⟩, fun c'' l'' fz'' hH => ?_⟩
                rw [upd_ne _ _ (Ne.symm hk21), upd_same] at hH
                cases hH
                have hr := p3 _ _ _ hk2
                have hβ : upd (upd β k1 (β k2)) k2 none k1 = β k2 := by rw [upd_ne _ _ (Ne.symm hk21), upd_same]
                cases wn with
                | full => simp only [RowV, hβ] at hr ⊢; exact hr
                | pre m => simp only [RowV, hβ] at hr ⊢; exact hr
                | sub o m => simp only [RowV, hβ] at hr ⊢; exact hr
            · exact ⟨β, hs⟩
          · exact ⟨β, hs⟩
      · exact ⟨β, hs⟩
    · exact ⟨β, hs⟩
  · exact ⟨β, hs⟩
theorem homes_ok : ∀ (z : List (Nat × Nat × Nat × TC)) {H : Nat → Option VO}, R B T H a w → R B T (homes z H) a w
  | [], H, h => h
  | (k, i, k1, c) :: r, H, h => by
    obtain ⟨β, M, hs⟩ := h
    obtain ⟨β', hs'⟩ := home_ok hs k i k1 c
    exact homes_ok r ⟨β', M, hs'⟩
theorem cut0_ok (hR : R B T H a w) (c : An) : R B (cutT0 c T H) (cutH0 c H) a w := by
  obtain ⟨β, M, hs⟩ := hR
  have hH : ∀ k, cutH0 c H k = if k ∈ c.H then (H k).map (ren0 c.H H) else none := fun k => tblH_map _ _ _
  have hT : ∀ j, cutT0 c T H j = if j ∈ c.T then ren c.H H (T j) else dead := fun j => tbl_map _ _ _
  have live : ∀ k vo, cutH0 c H k = some vo → ∃ vo', H k = some vo' ∧ vo = ren0 c.H H vo' ∧ k ∈ c.H := by
    intro k vo h
    rw [hH] at h
    split at h
    · rename_i hkc
      cases hk : H k with
      | none => rw [hk] at h; cases h
      | some vo' => rw [hk] at h; cases h; exact ⟨vo', rfl, rfl, hkc⟩
    · cases h
  obtain ⟨ks, k1, k2⟩ := others c.H 1000000
  obtain ⟨M', m1, m2, m3⟩ := hs.freezes ks
  have hcov : ∀ k, k ∉ c.H → k < 1000000 → Cov β H M' w k := fun k h1 h2 => m3 k (k1 k h1 h2) h2
  have hH1 : ∀ k, k ∈ c.H → updH H (freeze H ks) k = H k := by
    intro k hk
    refine updH_not _ _ fun o hm => ?_
    exact k2 k (freeze_mem _ k o hm).1 hk
  refine ⟨β, M', ⟨hs.size, hs.defs, fun i => ?_, fun k vo hk => ?_, ?_, m1.mem, ?_, ?_, m1.le, m1.new, m1.ext⟩⟩
  · rw [hT]
    split
    · have h := hs.tm i
      cases hx : T i with
      | c x => rw [hx] at h; exact renC_ok hs m2 hcov hH x h
      | agg l =>
        rw [hx] at h
        obtain ⟨vs, h1, h2, h3⟩ := h
        exact ⟨vs, h1, by simpa using h2, renCells_ok hs m2 hcov hH h3⟩
      | tup l => trivial
    · trivial
  · obtain ⟨vo', h1, rfl, hkc⟩ := live k vo hk
    have ho := hs.hp k vo' h1
    have ho1 := m1.hp k vo' ((hH1 k hkc).trans h1)
    obtain ⟨v0, ob, f0⟩ := vo'
    cases ob with
    | cells l =>
      obtain ⟨q1, b, cs, e, q2, q3, q4, q5, q6⟩ := ho
      obtain ⟨_, b', cs', e', r2, r3, _, _, r6⟩ := ho1
      have hbb : b' = b := by rw [q2] at r2; injection r2 with r2; injection r2 with r2 _; exact r2.symm
      subst hbb
      exact ⟨q1, b', cs, e, by simpa using q2, q3, by simpa using q4, renCells_ok hs m2 hcov hH q5, r6⟩
    | row c' l => exact ho1
  · intro k k' vo vo' b n b' n' hk hk' h1 h2 hne
    obtain ⟨u, hu, _⟩ := live k vo hk
    obtain ⟨u', hu', _⟩ := live k' vo' hk'
    exact hs.inj k k' u u' b n b' n' hu hu' h1 h2 hne
  · intro k vo b n hk hb
    obtain ⟨u, hu, _⟩ := live k vo hk
    exact hs.own k u b n hu hb
  · intro k b vo hio hk
    obtain ⟨u, hu, _⟩ := live k vo hk
    exact hs.ins k b u hio hu
theorem cut_ok (hR : R B T H a w) (c : An) : R B (cutT c T H) (cutH c H) a w := cut0_ok (homes_ok c.Z hR) c
end
end Go.JL
/- The abstract machine, part N2: the code of a function. No program in sight. -/
set_option linter.unusedVariables false
set_option linter.unusedSimpArgs false
namespace Go.JL

section
variable {P : Program} {B : Base}

/-- What a region whose order is open must come to. -/
def DrawOk (P : Program) (B : Base) (cx : Cx) : Prop :=
  ∀ (α : Type) (r : α) (id : Nat) (ops : Array Oper) (T : Nat → LV) (H : Nat → Option VO) (a : Act) (w : World) (K : (Nat → LV) → (Nat → Option VO) → Option α) (Q : Exit → Act → World → Prop),
    R B T H a w → (bif Region.lexB .any ops then vopsD cx ops ops.toList T H [] fun T H f => bif feetOk ops f.reverse then K T H else none else none) = some r →
      (∀ T' H' a' w', R B T' H' a' w' → K T' H' = some r → Q .normal a' w') → (Code.region id ops true).wp P Q a w

theorem vrun_ok {cx : Cx} (htt : ∀ t ty, cx.tt t = some ty → TyOk P t ty) (hG : CxOk P cx) (hn : cx.n = B.n) (hD : DrawOk P B cx) (an : Ann) (k : Nat) {α : Type} {r : α} :
    ∀ (c : Code) (i : Nat) (T : Nat → LV) (H : Nat → Option VO) (a : Act) (w : World) (K : Exit → (Nat → LV) → (Nat → Option VO) → Option α) (Q : Exit → Act → World → Prop), R B T H a w → vrun cx an k c i T H K = some r →
      (∀ e T' H' a' w', R B T' H' a' w' → K e T' H' = some r → Q e a' w') → c.wp P Q a w := by
  intro c
  induction c with
  | skip => intro i T H a w K Q hR h hk; exact wp_skip (hk _ _ _ _ _ hR h)
  | region id ops draw =>
    intro i T H a w K Q hR h hk
    cases draw with
    | false => exact wp_region_list (vops_ok htt hG hn ops.toList T H a w _ hR h fun T' H' a' w' h1 h2 => hk _ _ _ _ _ h1 h2)
    | true => exact hD α r id ops T H a w (fun T H => K .normal T H) Q hR h fun T' H' a' w' h1 h2 => hk _ _ _ _ _ h1 h2
  | seq x y ihx ihy =>
    intro i T H a w K Q hR h hk
    refine wp_seq (ihx i T H a w _ _ hR h fun e T' H' a' w' h1 h2 => ?_)
    cases e with
    | normal =>
      simp only at h2
      split at h2
      · exact ihy i _ _ a' w' K Q (cut_ok h1 _) h2 hk
      · exact ihy i _ _ a' w' K Q h1 h2 hk
    | exit id => exact hk _ _ _ _ _ h1 h2
    | goto l => exact hk _ _ _ _ _ h1 h2
    | ret => exact hk _ _ _ _ _ h1 h2
    | panic ch => exact hk _ _ _ _ _ h1 h2
    | outgrown => exact hk _ _ _ _ _ h1 h2
  | cond c x y ihx ihy =>
    intro i T H a w K Q hR h hk
    unfold vrun at h
    split at h
    · rename_i b hb
      have hc : a.eval c = .bool b := by
        obtain ⟨β, M, hs⟩ := hR
        have := evalO_ok hs c
        rw [hb] at this
        exact linv_bool this
      cases b with
      | true => exact wp_cond_true hc (ihx i T H a w K Q hR h hk)
      | false => exact wp_cond_false hc (ihy i T H a w K Q hR h hk)
    · cases h
  | block id c ih =>
    intro i T H a w K Q hR h hk
    refine wp_block (ih id T H a w _ _ hR h fun e T' H' a' w' h1 h2 => ?_)
    cases e with
    | exit j =>
      simp only [Bool.cond_eq_ite, beq_iff_eq] at h2
      show (if j = id then Q .normal a' w' else Q (.exit j) a' w')
      split
      · rename_i hj
        rw [if_pos hj] at h2
        exact hk _ _ _ _ _ h1 h2
      · rename_i hj
        rw [if_neg hj] at h2
        exact hk _ _ _ _ _ h1 h2
    | normal => exact hk _ _ _ _ _ h1 h2
    | goto l => exact hk _ _ _ _ _ h1 h2
    | ret => exact hk _ _ _ _ _ h1 h2
    | panic ch => exact hk _ _ _ _ _ h1 h2
    | outgrown => exact hk _ _ _ _ _ h1 h2
  | loop c ih =>
    intro i T H a w K Q hR h hk
    unfold vrun at h
    split at h
    · rename_i cu hcu
      refine wp_loop_rounds k ?_
      have main : ∀ (k' : Nat) (T : Nat → LV) (H : Nat → Option VO) (a : Act) (w : World), R B T H a w → Nat.rec (motive := fun _ => (Nat → LV) → (Nat → Option VO) → Option α) (fun _ _ => none)
        (fun _ again T H => vrun cx an k c i T H fun e T H => match e with
          | .normal => again (cutT cu T H) (cutH cu H)
          | e => K e T H) k' T H = some r → Code.rounds P c Q k' a w := by
        intro k'
        induction k' with
        | zero => intro T H a w _ h; cases h
        | succ k' ihk =>
          intro T H a w hR h
          rw [rounds_succ]
          refine ih i T H a w _ _ hR h fun e T' H' a' w' h1 h2 => ?_
          cases e with
          | normal => exact ihk _ _ a' w' (cut_ok h1 cu) h2
          | exit id => exact hk _ _ _ _ _ h1 h2
          | goto l => exact hk _ _ _ _ _ h1 h2
          | ret => exact hk _ _ _ _ _ h1 h2
          | panic ch => exact hk _ _ _ _ _ h1 h2
          | outgrown => exact hk _ _ _ _ _ h1 h2
      exact main k _ _ a w (cut_ok hR cu) h
    · cases h
  | exit id => intro i T H a w K Q hR h hk; exact wp_exit (hk _ _ _ _ _ hR h)
  | ret => intro i T H a w K Q hR h hk; exact wp_ret (hk _ _ _ _ _ hR h)
  | _ => intros; rename_i h _; simp [vrun] at h
end
end Go.JL
