/- Plain laws, part 1: what a function comes to, without saying how. -/
import Derived.Test.YtnepcgaphhgbnaaGreatDoorC
import Derived.IntWalk
set_option linter.unusedVariables false
set_option maxRecDepth 100000
namespace Go.JL

/-- It comes to something of which Q holds. -/
def Ok {α : Type} (o : Option α) (Q : α → Prop) : Prop := ∃ r, o = some r ∧ Q r
section
variable {α β V : Type} {R : α → Prop}
theorem Ok.bind {o : Option β} {Q : β → Prop} {f : β → Option α} (h : Ok o Q) (hf : ∀ r, Q r → Ok (f r) R) : Ok (Option.bind o f) R := by
  obtain ⟨r, rfl, hr⟩ := h
  exact hf r hr
theorem Ok.eq {o : Option β} {r : β} {f : β → Option α} (h : o = some r) (hf : Ok (f r) R) : Ok (Option.bind o f) R := by
  rw [h]; exact hf
theorem Ok.bif {b : Bool} {x y : Option α} (h1 : b = true → Ok x R) (h2 : b = false → Ok y R) : Ok (bif b then x else y) R := by
  cases b
  · exact h2 rfl
  · exact h1 rfl
theorem Ok.chk {b : Bool} {x : Option α} (hb : b = true) (h : Ok x R) : Ok (JL.chk b x) R := by
  rw [hb]; exact h
theorem Ok.rd {l : List β} {i : Int} {k : β → Option α} (h0 : 0 ≤ i) (hl : i < (l.length : Int)) (h : ∀ y, l[i.toNat]? = some y → y ∈ l → Ok (k y) R) : Ok (JL.rd l i k) R := by
  have hlt : i.toNat < l.length := by omega
  unfold JL.rd
  rw [show decide (0 ≤ i) = true from decide_eq_true h0, cond_true, List.getElem?_eq_getElem hlt]
  exact h _ (List.getElem?_eq_getElem hlt) (List.getElem_mem hlt)
theorem Ok.get {l : List β} {i : Nat} {k : β → Option α} (hl : i < l.length) (h : ∀ y, l[i]? = some y → y ∈ l → Ok (k y) R) : Ok (Option.bind l[i]? k) R := by
  rw [List.getElem?_eq_getElem hl]
  exact h _ (List.getElem?_eq_getElem hl) (List.getElem_mem hl)
theorem Ok.some {r : α} (h : R r) : Ok (Option.some r) R := ⟨r, rfl, h⟩
theorem Ok.mono {o : Option α} {Q : α → Prop} (h : Ok o Q) (hq : ∀ r, Q r → R r) : Ok o R := by
  obtain ⟨r, h1, h2⟩ := h
  exact ⟨r, h1, hq r h2⟩
theorem Ok.loop {b : (V → Option α) → V → Option α} (I : V → Prop) (m : V → Nat) (h : ∀ again v, I v → (∀ v', I v' → m v' < m v → Ok (again v') R) → Ok (b again v) R) : ∀ (n : Nat) (v : V), I v → m v < n → Ok (loopI b n v) R
  | 0, v, _, hn => by omega
  | n + 1, v, hi, hn => by
    rw [loopI_succ]
    exact h _ v hi fun v' hi' hlt => Ok.loop I m h n v' hi' (by omega)
end
theorem w64_eq {x : Int} (h : -9223372036854775808 ≤ x ∧ x ≤ 9223372036854775807) : w64 x = x := IntWalk.i64_in x h
theorem room {n b : Nat} (h : n * b ≤ 140737488355328) : roomFor n b = true := decide_eq_true h

abbrev Str : Type := List UInt8
abbrev Src : Type := List Int × Int
abbrev Sch : Type := List (Str × Int) × List (Str × List Int) × List (Int × Int × Int) × Int
abbrev Tst : Type := Int × Int × Str

/-! ### Numbers drawn -/
def SI (s : Src) : Prop := 0 ≤ s.2 ∧ s.1.length ≤ 600
theorem mod_ok (x n : Int) (h1 : 1 ≤ n) (h2 : n ≤ 1000) : Ok (C48 (x, n, ())) (fun r => 0 ≤ r.1.1 ∧ r.1.1 < n) := by
  show Ok (f48_b x n) _
  unfold f48_b
  refine Ok.bif (fun h => ?_) (fun _ => Ok.bif (fun h => ?_) (fun _ => Ok.bif (fun h => ?_) (fun _ => Ok.some ?_)))
  · have := of_decide_eq_true h; omega
  · have := of_decide_eq_true h; omega
  · have := of_decide_eq_true h; omega
  · have h3 := Int.tmod_lt_of_pos x (show 0 < n by omega)
    have h4 : -n < x.tmod n := Int.lt_tmod_of_pos x (show 0 < n by omega)
    rw [w64_eq (by omega)]
    exact ⟨Int.tmod_nonneg _ (by omega), Int.tmod_lt_of_pos _ (by omega)⟩
theorem n_ok {s : Src} (hs : SI s) {n : Int} (h1 : 1 ≤ n) (h2 : n ≤ 1000) : Ok (C16 (s, n, ())) (fun r => (0 ≤ r.1.1 ∧ r.1.1 < n) ∧ SI r.2.1) := by
  show Ok (f16_b C48 s n) _
  obtain ⟨hs1, hs2⟩ := hs
  unfold f16_b
  refine Ok.bif (fun h => Ok.some ⟨⟨Int.le_refl _, (by show (0 : Int) < n; omega)⟩, hs1, hs2⟩) (fun h => ?_)
  have h := of_decide_eq_false h
  have e1 : w64 (s.2 + 1) = s.2 + 1 := w64_eq (by omega)
  have e2 : w64 (s.2 + 1 - 1) = s.2 := by rw [w64_eq (by omega)]; omega
  rw [e1, e2]
  refine Ok.rd hs1 (by omega) fun y _ _ => Ok.bind (mod_ok y n h1 h2) fun r hr => Ok.some ⟨hr, ?_, hs2⟩
  show 0 ≤ s.2 + 1
  omega
theorem range_ok {s : Src} (hs : SI s) {lo hi : Int} (h0 : -500 ≤ lo) (h1 : lo ≤ hi) (h2 : hi ≤ 400) : Ok (C43 (s, lo, hi, ())) (fun r => (lo ≤ r.1.1 ∧ r.1.1 ≤ hi) ∧ SI r.2.1) := by
  show Ok (f43_b C16 s lo hi) _
  unfold f43_b
  rw [show w64 (w64 (hi - lo) + 1) = hi - lo + 1 by rw [w64_eq (x := hi - lo) (by omega), w64_eq (by omega)]]
  refine Ok.bind (n_ok hs (by omega) (by omega)) fun r hr => Ok.some ?_
  obtain ⟨⟨g1, g2⟩, g3⟩ := hr
  refine ⟨?_, g3⟩
  simp only
  rw [w64_eq (by omega)]
  omega
theorem pick_ok {s : Src} (hs : SI s) {l : List Int} (h0 : 1 ≤ l.length) (h1 : l.length ≤ 900) : Ok (C47 (s, l, ())) (fun r => r.1.1 ∈ l ∧ SI r.2.1) := by
  show Ok (f47_b C16 s l) _
  unfold f47_b
  refine Ok.bind (n_ok hs (by omega) (by omega)) fun r hr => Ok.rd hr.1.1 hr.1.2 fun y _ hy => Ok.some ⟨hy, hr.2⟩

/-! ### Values -/
def vals (k : Int) : List Str :=
  if k = 3 then [[], [114, 101, 100], [103, 114, 101, 101, 110], [98, 108, 117, 101]]
  else if k = 1 then [[], [49], [50], [49, 48]]
  else [[], [48], [49], [45, 50], [49, 47, 50], [51], [53, 47, 51], [50]]
theorem value_ok {s : Src} (hs : SI s) (a : Str × Int) : Ok (C49 (s, a, ())) (fun r => r.1.1 ∈ vals a.2 ∧ SI r.2.1) := by
  show Ok (f49_b C16 s a) _
  unfold f49_b
  refine Ok.bind (n_ok hs (n := 9) (by omega) (by omega)) fun r hr => ?_
  obtain ⟨⟨g1, g2⟩, g3⟩ := hr
  have t0 : 0 ≤ r.1.1.tmod 3 := Int.tmod_nonneg _ g1
  have t1 : r.1.1.tmod 3 < 3 := Int.tmod_lt_of_pos _ (by omega)
  refine Ok.bif (fun h => Ok.some ⟨?_, g3⟩) (fun h8 => Ok.bif (fun h => ?_) (fun h3 => Ok.bif (fun h => ?_) (fun h1 => ?_)))
  · unfold vals
    split
    · simp
    · split <;> simp
  · have hk : a.2 = 3 := by simpa using h
    refine Ok.chk (decide_eq_true t0) (Ok.chk (decide_eq_true (by omega)) (Ok.get (by simp; omega) fun y _ hy => Ok.some ⟨?_, g3⟩))
    simp only [vals, hk, if_true]
    exact List.mem_cons_of_mem _ hy
  · have hk : a.2 = 1 := by simpa using h
    refine Ok.chk (decide_eq_true t0) (Ok.chk (decide_eq_true (by omega)) (Ok.get (by simp; omega) fun y _ hy => Ok.some ⟨?_, g3⟩))
    simp only [vals, hk]
    exact List.mem_cons_of_mem _ hy
  · have hk3 : ¬ a.2 = 3 := by simpa using h3
    have hk1 : ¬ a.2 = 1 := by simpa using h1
    have h8 : ¬ r.1.1 = 8 := by simpa using h8
    refine Ok.chk (decide_eq_true g1) (Ok.chk (decide_eq_true (by omega)) (Ok.get (by simp; omega) fun y _ hy => Ok.some ⟨?_, g3⟩))
    simp only [vals, hk3, hk1, if_false]
    simp at hy ⊢
    rcases hy with h | h | h | h | h | h | h | h <;> simp [h]
end Go.JL
