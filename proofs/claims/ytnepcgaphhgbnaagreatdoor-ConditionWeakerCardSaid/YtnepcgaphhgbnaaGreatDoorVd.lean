/- The abstract machine over the model's own code, and its soundness: text 4 of 4. No program in sight. -/
import Derived.Test.YtnepcgaphhgbnaaGreatDoorVc
import Derived.Still
import Derived.KernelRfl
/- The abstract machine, part N3: a function's contract. No program in sight. -/
set_option linter.unusedVariables false
set_option linter.unusedSimpArgs false
namespace Go.JL

/-- The keys of what comes in by pointers. -/
def keysOf : List PK → Nat → List Nat
  | [], _ => []
  | .val _ :: ps, i => keysOf ps (i + 1)
  | .ptr _ :: ps, i => ioKey i 0 :: keysOf ps (i + 1)
  | .clo _ cs :: ps, i => (List.range' 0 cs.length).map (ioKey i) ++ keysOf ps (i + 1)
def PK.small : PK → Bool
  | .clo _ cs => Nat.blt cs.length 100
  | _ => true

/-- What came in: under key k lies vo, in block b. -/
inductive Ent (M : Mem) (w : World) : List (Nat × Option VO) → List Nat → Prop
  | nil : Ent M w [] []
  | cons {k : Nat} {c : TC} {x : El c} {b : Nat} {r : List (Nat × Option VO)} {bs : List Nat} : BlockR M w c x b → Ent M w r bs → Ent M w ((k, some ⟨0, .cells (flat c x), false⟩) :: r) (b :: bs)
def plc : List (Nat × Option VO) → List Nat → Place
  | (k, some ⟨_, .cells l, _⟩) :: r, b :: bs => fun j => if j = k then some (b, l.length) else plc r bs j
  | _, _ => fun _ => none

section
variable {P : Program} {M : Mem} {w : World}

theorem Ent.append : ∀ {r1 r2 : List (Nat × Option VO)} {b1 b2 : List Nat}, Ent M w r1 b1 → Ent M w r2 b2 → Ent M w (r1 ++ r2) (b1 ++ b2)
  | [], _, [], _, _, h => h
  | _ :: _, _, _ :: _, _, .cons h1 h2, h => .cons h1 (Ent.append h2 h)
theorem ent_tup (i : Nat) : ∀ (cs : List TC) (j : Nat) (x : Tup cs) (us : List Value) (bs : List Nat), TupIn M w cs x us bs → Ent M w (initTup i cs j x) bs ∧ bs.length = cs.length ∧ us.length = cs.length ∧ (initTup i cs j x).map (·.1) = (List.range' j cs.length).map (ioKey i)
  | [], j, x, [], [], _ => ⟨.nil, rfl, rfl, rfl⟩
  | c :: cs, j, x, u :: us, b :: bs, h => by
    obtain ⟨e1, e2, e3, e4⟩ := ent_tup i cs (j + 1) x.2 us bs h.2.2
    exact ⟨.cons h.2.1 e1, by simp [e2], by simp [e3], by simp [initTup, e4, List.range'_succ]⟩
theorem ent_init : ∀ (ps : List PK) (i : Nat) (x : Args ps) (vs : List Value) (bs : List Nat), ArgsIn M w ps x vs bs → Ent M w (initH ps i x) bs ∧ vs.length = ps.length ∧ (initH ps i x).map (·.1) = keysOf ps i
  | [], i, x, [], [], _ => ⟨.nil, rfl, rfl⟩
  | .val c :: ps, i, x, v :: vs, bs, h => by
    obtain ⟨e1, e2, e3⟩ := ent_init ps (i + 1) x.2 vs bs h.2
    exact ⟨e1, by simp [e2], e3⟩
  | .ptr c :: ps, i, x, v :: vs, b :: bs, h => by
    obtain ⟨e1, e2, e3⟩ := ent_init ps (i + 1) x.2 vs bs h.2.2
    exact ⟨.cons h.2.1 e1, by simp [e2], by simp [initH, keysOf, e3]⟩
  | .clo f cs :: ps, i, x, v :: vs, bs, h => by
    obtain ⟨us, b1, b2, rfl, rfl, h1, h2⟩ := h
    obtain ⟨e1, e2, e3⟩ := ent_init ps (i + 1) x.2 vs b2 h2
    obtain ⟨q1, q2, q3, q4⟩ := ent_tup i cs 0 x.1 us b1 h1
    exact ⟨q1.append e1, by simp [e2], by simp [initH, keysOf, e3, q4]⟩
theorem keysOf_ge : ∀ (ps : List PK) (i : Nat), ∀ k ∈ keysOf ps i, 1000000 + 100 * i ≤ k
  | [], i, k, h => by cases h
  | .val _ :: ps, i, k, h => by have := keysOf_ge ps (i + 1) k h; omega
  | .ptr _ :: ps, i, k, h => by
    rcases List.mem_cons.1 h with rfl | h
    · unfold ioKey; omega
    · have := keysOf_ge ps (i + 1) k h; omega
  | .clo _ cs :: ps, i, k, h => by
    rcases List.mem_append.1 h with h | h
    · obtain ⟨j, _, rfl⟩ := List.mem_map.1 h
      unfold ioKey; omega
    · have := keysOf_ge ps (i + 1) k h; omega
theorem keysOf_nodup : ∀ (ps : List PK) (i : Nat), ps.all PK.small = true → (keysOf ps i).Nodup
  | [], i, _ => List.nodup_nil
  | .val _ :: ps, i, h => keysOf_nodup ps (i + 1) (by simpa [PK.small] using h)
  | .ptr _ :: ps, i, h => by
    refine List.nodup_cons.2 ⟨fun hm => ?_, keysOf_nodup ps (i + 1) (by simpa [PK.small] using h)⟩
    have := keysOf_ge ps (i + 1) _ hm
    unfold ioKey at this; omega
  | .clo _ cs :: ps, i, h => by
    simp only [List.all_cons, Bool.and_eq_true, PK.small, Nat.blt_eq] at h
    refine List.nodup_append.2 ⟨?_, keysOf_nodup ps (i + 1) h.2, ?_⟩
    · exact List.Pairwise.map (ioKey i) (fun a b hab e => hab (by unfold ioKey at e; omega)) List.nodup_range'
    · intro a ha b hb e
      obtain ⟨j, hj, rfl⟩ := List.mem_map.1 ha
      have := keysOf_ge ps (i + 1) b hb
      rw [List.mem_range'] at hj
      obtain ⟨q, hq, rfl⟩ := hj
      unfold ioKey at e; omega

/-! ### The entries as objects -/
theorem tblH_not : ∀ (E : List (Nat × Option VO)) (k : Nat), k ∉ E.map (·.1) → tblH E k = none
  | [], k, _ => by simp [tblH]
  | (j, o) :: r, k, h => by
    simp only [List.map_cons, List.mem_cons, not_or] at h
    have hb : (k == j) = false := by simpa using h.1
    rw [tblH]
    simp only [hb, cond_false]
    exact tblH_not r k h.2
theorem ent_get : ∀ {E : List (Nat × Option VO)} {bs : List Nat}, Ent M w E bs → (E.map (·.1)).Nodup → ∀ k vo, tblH E k = some vo → ∃ (c : TC) (x : El c) (b : Nat), vo = ⟨0, .cells (flat c x), false⟩ ∧ plc E bs k = some (b, (flat c x).length) ∧ BlockR M w c x b ∧ (k, b) ∈ (E.map (·.1)).zip bs
  | [], _, _, _, k, vo, h => by simp [tblH] at h
  | (j, _) :: r, b :: bs, .cons (c := c) (x := x) h1 h2, hn, k, vo, h => by
    simp only [List.map_cons] at hn
    obtain ⟨n1, n2⟩ := List.nodup_cons.1 hn
    rw [tblH] at h
    by_cases e : k = j
    · subst e
      simp only [beq_self_eq_true, cond_true, Option.some.injEq] at h
      subst h
      exact ⟨c, x, b, rfl, by simp [plc], h1, by simp⟩
    · have hb : (k == j) = false := by simpa using e
      simp only [hb, cond_false] at h
      obtain ⟨c', x', b', g1, g2, g3, g4⟩ := ent_get h2 n2 k vo h
      exact ⟨c', x', b', g1, by simp only [plc, if_neg e]; exact g2, g3, by simp only [List.map_cons, List.zip_cons_cons]; exact List.mem_cons_of_mem _ g4⟩
theorem ent_place : ∀ {E : List (Nat × Option VO)} {bs : List Nat}, Ent M w E bs → (E.map (·.1)).Nodup → ∀ k b, (k, b) ∈ (E.map (·.1)).zip bs → (∃ n, plc E bs k = some (b, n)) ∧ ∃ vo, tblH E k = some vo
  | [], _, _, _, k, b, h => by simp at h
  | (j, _) :: r, b0 :: bs, .cons (c := c) (x := x) h1 h2, hn, k, b, h => by
    simp only [List.map_cons] at hn
    obtain ⟨n1, n2⟩ := List.nodup_cons.1 hn
    simp only [List.map_cons, List.zip_cons_cons, List.mem_cons] at h
    rcases h with h | h
    · cases h
      exact ⟨⟨(flat c x).length, by simp [plc]⟩, _, by rw [tblH]; simp only [beq_self_eq_true, cond_true]; rfl⟩
    · have hk : k ∈ r.map (·.1) := (List.of_mem_zip h).1
      have e : k ≠ j := fun e => n1 (by rw [← e]; exact hk)
      have hb : (k == j) = false := by simpa using e
      obtain ⟨⟨n, g1⟩, vo, g2⟩ := ent_place h2 n2 k b h
      exact ⟨⟨n, by simp only [plc, if_neg e]; exact g1⟩, vo, by rw [tblH]; simp only [hb, cond_false]; exact g2⟩
theorem ent_inj : ∀ {E : List (Nat × Option VO)} {bs : List Nat}, bs.Nodup → ∀ k k' b, (k, b) ∈ (E.map (·.1)).zip bs → (k', b) ∈ (E.map (·.1)).zip bs → k = k'
  | [], bs, _, k, k', b, h, _ => by simp at h
  | _ :: _, [], _, k, k', b, h, _ => by simp at h
  | (j, _) :: r, b0 :: bs, hn, k, k', b, h, h' => by
    obtain ⟨n1, n2⟩ := List.nodup_cons.1 hn
    simp only [List.map_cons, List.zip_cons_cons, List.mem_cons] at h h'
    rcases h with h | h <;> rcases h' with h' | h'
    · cases h; cases h'; rfl
    · cases h; exact (n1 (List.of_mem_zip h').2).elim
    · cases h'; exact (n1 (List.of_mem_zip h).2).elim
    · exact ent_inj n2 k k' b h h'

theorem tbl_lt : ∀ (ps : List PK) (i : Nat) (x : Args ps) (j : Nat), j < i → tbl (initT ps i x) j = dead
  | [], i, x, j, _ => by simp [initT, tbl]
  | .val c :: ps, i, x, j, h => by
    have hb : (j == i) = false := by simpa using Nat.ne_of_lt h
    simp only [initT, tbl, hb, cond_false]
    exact tbl_lt ps (i + 1) x.2 j (by omega)
  | .ptr c :: ps, i, x, j, h => by
    have hb : (j == i) = false := by simpa using Nat.ne_of_lt h
    simp only [initT, tbl, hb, cond_false]
    exact tbl_lt ps (i + 1) x.2 j (by omega)
  | .clo f cs :: ps, i, x, j, h => by
    have hb : (j == i) = false := by simpa using Nat.ne_of_lt h
    simp only [initT, tbl, hb, cond_false]
    exact tbl_lt ps (i + 1) x.2 j (by omega)
theorem tup_ptrs {β : Place} {H : Nat → Option VO} (i : Nat) : ∀ (cs : List TC) (j : Nat) (x : Tup cs) (us : List Value) (bs : List Nat), TupIn M w cs x us bs → (∀ p ∈ ((List.range' j cs.length).map (ioKey i)).zip bs, (∃ n, β p.1 = some (p.2, n)) ∧ ∃ vo, H p.1 = some vo) →
    ∀ (q : Nat), q < cs.length → ∃ u, us[q]? = some u ∧ (∃ vo, H (ioKey i (j + q)) = some vo ∧ 0 ≤ vo.v) ∧ ∃ ad : Addr, u = .pointer (some ad) ∧ ∃ b n, β (ioKey i (j + q)) = some (b, n) ∧ ad = adr b 0
  | [], j, x, _, _, _, _, q, hq => by simp at hq
  | c :: cs, j, x, u :: us, b :: bs, h, hz, q, hq => by
    simp only [List.length_cons, List.range'_succ, List.map_cons, List.zip_cons_cons] at hz
    cases q with
    | zero =>
      obtain ⟨⟨n, g1⟩, vo, g2⟩ := hz _ List.mem_cons_self
      exact ⟨u, rfl, ⟨vo, g2, Nat.zero_le _⟩, adr b 0, h.1, b, n, g1, rfl⟩
    | succ q =>
      obtain ⟨u', r1, r2, r3⟩ := tup_ptrs i cs (j + 1) x.2 us bs h.2.2 (fun p hp => hz p (List.mem_cons_of_mem _ hp)) q (by simpa using hq)
      have e : j + 1 + q = j + (q + 1) := by omega
      rw [e] at r2 r3
      exact ⟨u', by simpa using r1, r2, r3⟩
theorem zip_append_sub {l1 l2 b1 b2 : List Nat} (h : l1.length = b1.length) : ∀ p, (p ∈ l1.zip b1 → p ∈ (l1 ++ l2).zip (b1 ++ b2)) ∧ (p ∈ l2.zip b2 → p ∈ (l1 ++ l2).zip (b1 ++ b2)) := by
  intro p
  rw [List.zip_append h]
  exact ⟨fun h => List.mem_append_left _ h, fun h => List.mem_append_right _ h⟩
theorem init_tm {β : Place} {H : Nat → Option VO} : ∀ (ps : List PK) (i : Nat) (x : Args ps) (vs : List Value) (bs : List Nat), ArgsIn M w ps x vs bs → (∀ p ∈ (keysOf ps i).zip bs, (∃ n, β p.1 = some (p.2, n)) ∧ ∃ vo, H p.1 = some vo) →
    ∀ j, LVR β H M (vs.getD j undef) (tbl (initT ps i x) (i + j))
  | [], i, x, [], [], _, _, j => by simp only [initT, tbl]; trivial
  | .val c :: ps, i, x, v :: vs, bs, h, hz, j => by
    simp only [initT, tbl]
    cases j with
    | zero => simp only [Nat.add_zero, beq_self_eq_true, cond_true]; exact h.1.toLV
    | succ j =>
      have hb : (i + (j + 1) == i) = false := by simp
      simp only [hb, cond_false]
      have := init_tm ps (i + 1) x.2 vs bs h.2 hz j
      rw [show i + 1 + j = i + (j + 1) by omega] at this
      simpa using this
  | .ptr c :: ps, i, x, v :: vs, b :: bs, h, hz, j => by
    simp only [keysOf, List.zip_cons_cons] at hz
    simp only [initT, tbl]
    cases j with
    | zero =>
      simp only [Nat.add_zero, beq_self_eq_true, cond_true]
      obtain ⟨⟨n, g1⟩, vo, g2⟩ := hz _ List.mem_cons_self
      exact ⟨⟨vo, g2, Nat.zero_le _⟩, adr b 0, h.1, fun l fz _ => ⟨b, n, g1, rfl⟩⟩
    | succ j =>
      have hb : (i + (j + 1) == i) = false := by simp
      simp only [hb, cond_false]
      have := init_tm ps (i + 1) x.2 vs bs h.2.2 (fun p hp => hz p (List.mem_cons_of_mem _ hp)) j
      rw [show i + 1 + j = i + (j + 1) by omega] at this
      simpa using this
  | .clo f cs :: ps, i, x, v :: vs, bs, h, hz, j => by
    obtain ⟨us, b1, b2, rfl, rfl, h1, h2⟩ := h
    obtain ⟨q1, q2, q3, q4⟩ := ent_tup i cs 0 x.1 us b1 h1
    have hlen : ((List.range' 0 cs.length).map (ioKey i)).length = b1.length := by simp [q2]
    simp only [keysOf] at hz
    simp only [initT, tbl]
    cases j with
    | zero =>
      simp only [Nat.add_zero, beq_self_eq_true, cond_true]
      refine ⟨us.toArray, rfl, by simp [q3], fun q p hp => ?_⟩
      simp only [List.getElem?_map] at hp
      cases hq : (List.range cs.length)[q]? with
      | none => rw [hq] at hp; cases hp
      | some q' =>
        rw [hq] at hp
        cases hp
        obtain ⟨hlt, he⟩ := List.getElem?_eq_some_iff.1 hq
        simp at he hlt
        subst he
        obtain ⟨u, r1, r2, ad, r3, b, n, r4, r5⟩ := tup_ptrs (β := β) (H := H) i cs 0 x.1 us b1 h1 (fun p hp => hz p ((zip_append_sub hlen p).1 hp)) q hlt
        rw [Nat.zero_add] at r2 r4
        exact ⟨u, by simpa using r1, r2, ad, r3, fun l fz _ => ⟨b, n, r4, r5⟩⟩
    | succ j =>
      have hb : (i + (j + 1) == i) = false := by simp
      simp only [hb, cond_false]
      have := init_tm ps (i + 1) x.2 vs b2 h2 (fun p hp => hz p ((zip_append_sub hlen p).2 hp)) j
      rw [show i + 1 + j = i + (j + 1) by omega] at this
      simpa using this
end
end Go.JL
/- The abstract machine, part N4: what a function gives back. No program in sight. -/
set_option linter.unusedVariables false
set_option linter.unusedSimpArgs false
namespace Go.JL

section
variable {P : Program} {β : Place} {M : Mem} {B : Base} {T : Nat → LV} {H : Nat → Option VO} {a : Act} {w : World}

theorem outRs_ok (hs : Sim B β M T H a w) {M' : Mem} (hM : M.le M') (hc : ∀ k, k < 1000000 → Cov β H M' w k) : ∀ (rs : List TC) (lvs : List LV) (vals : List Value) (x : Tup rs), outRs H rs lvs = some x → LVs β H M lvs vals → TupR M' rs x vals
  | [], [], [], x, _, _ => trivial
  | [], [], _ :: _, x, _, h => h.elim
  | [], _ :: _, _, x, h, _ => by simp [outRs] at h
  | _ :: _, [], _, x, h, _ => by simp [outRs] at h
  | c :: rs, v :: vs, [], x, _, h => h.elim
  | c :: rs, v :: vs, u :: us, x, h, hv => by
    simp only [outRs, Bool.cond_eq_ite, beq_iff_eq] at h
    split at h
    · rename_i hagg
      split at h
      · rename_i y hy
        split at h
        · rename_i r hr
          cases h
          exact ⟨LVR.toVR hs hM hy hagg hv.1 (fun k _ hk => hc k hk), outRs_ok hs hM hc rs vs us r hr hv.2⟩
        · cases h
      · cases h
    · cases h
theorem outTup_ok (hs : Sim B β M T H a w) {M' : Mem} (hM : M.le M') (hc : ∀ k, k < 1000000 → Cov β H M' w k) (hnone : ∀ k ver l b n, H k = some ⟨ver, .cells l, false⟩ → β k = some (b, n) → ∀ x : Addr, x.block = b → M' x = none) (i : Nat) :
    ∀ (cs : List TC) (j : Nat) (bs : List Nat) (x : Tup cs), outTup H i cs j = some x → bs.length = cs.length → (∀ p ∈ ((List.range' j cs.length).map (ioKey i)).zip bs, p ∈ B.io) → TupOut M' w cs x bs
  | [], j, bs, x, _, _, _ => by simp [TupOut]
  | c :: cs, j, [], x, _, h, _ => by simp at h
  | c :: cs, j, b :: bs, x, h, hl, hz => by
    simp only [List.length_cons, List.range'_succ, List.map_cons, List.zip_cons_cons] at hz
    simp only [outTup] at h
    split at h
    · rename_i ver l hk
      split at h
      · rename_i y hy
        split at h
        · rename_i r hr
          cases h
          obtain ⟨b', g1, g2, g3⟩ := cell_block hs hM hnone hk hy (fun k _ hk => hc k hk)
          obtain ⟨n, g4⟩ := hs.ins _ b _ (hz _ List.mem_cons_self) hk
          rw [g1] at g4; cases g4
          exact ⟨g3, outTup_ok hs hM hc hnone i cs (j + 1) bs r hr (by simpa using hl) (fun p hp => hz p (List.mem_cons_of_mem _ hp))⟩
        · cases h
      · cases h
    · cases h
theorem outIos_ok (hs : Sim B β M T H a w) {M' : Mem} (hM : M.le M') (hc : ∀ k, k < 1000000 → Cov β H M' w k) (hnone : ∀ k ver l b n, H k = some ⟨ver, .cells l, false⟩ → β k = some (b, n) → ∀ x : Addr, x.block = b → M' x = none) :
    ∀ (ps : List PK) (i : Nat) (bs : List Nat) (x : Ios ps), outIos H ps i = some x → bs.length = (keysOf ps i).length → (∀ p ∈ (keysOf ps i).zip bs, p ∈ B.io) → IosOut M' w ps x bs
  | [], i, bs, x, _, _, _ => by simp [IosOut]
  | .val c :: ps, i, bs, x, h, hl, hz => outIos_ok hs hM hc hnone ps (i + 1) bs x h hl hz
  | .ptr c :: ps, i, [], x, _, h, _ => by simp [keysOf] at h
  | .ptr c :: ps, i, b :: bs, x, h, hl, hz => by
    simp only [keysOf, List.zip_cons_cons] at hz
    simp only [outIos] at h
    split at h
    · rename_i ver l hk
      split at h
      · rename_i y hy
        split at h
        · rename_i r hr
          cases h
          obtain ⟨b', g1, g2, g3⟩ := cell_block hs hM hnone hk hy (fun k _ hk => hc k hk)
          obtain ⟨n, g4⟩ := hs.ins _ b _ (hz _ List.mem_cons_self) hk
          rw [g1] at g4; cases g4
          exact ⟨g3, outIos_ok hs hM hc hnone ps (i + 1) bs r hr (by simpa [keysOf] using hl) (fun p hp => hz p (List.mem_cons_of_mem _ hp))⟩
        · cases h
      · cases h
    · cases h
  | .clo f cs :: ps, i, bs, x, h, hl, hz => by
    simp only [outIos] at h
    split at h
    · rename_i y hy
      split at h
      · rename_i r hr
        cases h
        simp only [keysOf, List.length_append, List.length_map, List.length_range'] at hl
        have hsplit : bs = bs.take cs.length ++ bs.drop cs.length := (List.take_append_drop _ _).symm
        have htl : (bs.take cs.length).length = cs.length := by rw [List.length_take]; omega
        have hlen : ((List.range' 0 cs.length).map (ioKey i)).length = (bs.take cs.length).length := by simp [htl]
        simp only [keysOf] at hz
        rw [hsplit] at hz
        exact ⟨outTup_ok hs hM hc hnone i cs 0 _ y hy htl (fun p hp => hz p ((zip_append_sub hlen p).1 hp)),
          outIos_ok hs hM hc hnone ps (i + 1) _ r hr (by rw [List.length_drop]; omega) (fun p hp => hz p ((zip_append_sub hlen p).2 hp))⟩
      · cases h
    · cases h

theorem resLV_ok (hs : Sim B β M T H a w) {cx : Cx} (htt : ∀ t ty, cx.tt t = some ty → TyOk P t ty) : ∀ (l : List ResultVar) (lvs : List LV), resLV cx T H l = some lvs →
    ∃ vals : List Value, LVs β H M lvs vals ∧ ∀ g : ResultVar → Sem Value, (∀ t, g (.tmp t) = pure (a.tmps.getD t undef)) → (∀ b t, g (.cell b t) = (do loadVar t (← asAddr (a.tmps.getD b undef)))) → (l.mapM g).run P w = .ok vals w
  | [], lvs, h => by
    simp only [resLV, Option.some.injEq] at h
    subst h
    exact ⟨[], trivial, fun g _ _ => rfl⟩
  | .tmp t :: r, lvs, h => by
    simp only [resLV] at h
    split at h
    · rename_i l hl
      cases h
      obtain ⟨vals, h2, h1⟩ := resLV_ok hs htt r l hl
      exact ⟨a.tmps.getD t undef :: vals, ⟨hs.tm t, h2⟩, fun g g1 g2 => by simp only [List.mapM_cons, g1, Sem.run_bind, Sem.run_pure, Result.andThen_ok, h1 g g1 g2]⟩
    · cases h
  | .cell b t :: r, lvs, h => by
    simp only [resLV] at h
    split at h
    · rename_i ty hty
      split at h
      · rename_i v hv
        split at h
        · rename_i l hl
          cases h
          obtain ⟨vals, h2, h1⟩ := resLV_ok hs htt r l hl
          obtain ⟨lv, z, g1, g2, g3⟩ := vload_ok hs (htt t ty hty) (hs.tm b) hv
          have e : some lv = some v := (g1 _ some).symm.trans hv
          cases e
          have hload : (do loadVar t (← asAddr (a.tmps.getD b undef)) : Sem Value).run P w = .ok z w := by
            have hp := hs.tm b
            have : ∃ ad, a.tmps.getD b undef = .pointer (some ad) := by
              unfold vload at hv
              split at hv
              · rename_i k ver off he; rw [he] at hp; obtain ⟨_, ad, h, _⟩ := hp; exact ⟨ad, h⟩
              · rename_i k ver i j he; rw [he] at hp; obtain ⟨_, ad, h, _⟩ := hp; exact ⟨ad, h⟩
              · rename_i c x off he; rw [he] at hp; obtain ⟨ad, h, _⟩ := hp; exact ⟨_, h⟩
              · cases hv
            obtain ⟨ad, had⟩ := this
            rw [had] at g3 ⊢
            simpa [Instr.loadAt, Instr.sureAddr, asAddr] using g3
          refine ⟨z :: vals, ⟨g2, h2⟩, fun g q1 q2 => ?_⟩
          rw [List.mapM_cons, Sem.run_bind, q2, hload]
          simp only [Result.andThen_ok, Sem.run_bind, Sem.run_pure, h1 g q1 q2]
        · cases h
      · cases h
    · cases h
end
end Go.JL
/- The abstract machine, part N5: a function keeps its contract. No program in sight. -/
set_option linter.unusedVariables false
set_option linter.unusedSimpArgs false
namespace Go.JL

section
variable {P : Program}

theorem run_enter {f : FuncId} {fn : Func} {c : Code} (hf : P.funcs[f]? = some fn) (hname : (fn.name == "runtime.NumGoroutine") = false) (hb : fn.body = some c) (args : Array Value) (w : World) :
    (callFunc f args).run P w = .ok (.enter f args) w := by
  have h1 : fn.name ≠ "runtime.NumGoroutine" := by simpa using hname
  simp [callFunc, hf, h1, hb]

theorem vfun_ok {cx : Cx} {an : Ann} {k : Nat} {f : Nat} {fn : Func} {ps : List PK} {rs : List TC} (htt : ∀ t ty, cx.tt t = some ty → TyOk P t ty) (hG : CxOk P cx)
    (hD : ∀ B : Base, cx.n = B.n → DrawOk P B cx) (hf : P.funcs[f]? = some fn) (hname : (fn.name == "runtime.NumGoroutine") = false) (hn : cx.n = fn.ntmps) (hps : (ps.all PK.small && Nat.ble ps.length fn.ntmps) = true) :
    FnOk P f ⟨ps, rs, vfun cx an k fn ps rs⟩ := by
  intro x r hF w M vs bs hmem hin hnd
  have hF : vfun cx an k fn ps rs x = some r := hF
  have hin : ArgsIn M w ps x vs bs := hin
  simp only [Bool.and_eq_true] at hps
  obtain ⟨hsm, hle⟩ := hps
  have hle : ps.length ≤ fn.ntmps := Nat.le_of_ble_eq_true hle
  unfold vfun at hF
  split at hF
  · rename_i c hb
    obtain ⟨hent, hlen, hkeys⟩ := ent_init ps 0 x vs bs hin
    have hknd : ((initH ps 0 x).map (·.1)).Nodup := by rw [hkeys]; exact keysOf_nodup ps 0 hsm
    let io := (keysOf ps 0).zip bs
    let B : Base := ⟨w, M, io, fn.ntmps, fun k b hk => by have := keysOf_ge ps 0 k (List.of_mem_zip hk).1; omega⟩
    let a0 : Act := { tmps := vs.toArray ++ Array.replicate (fn.ntmps - vs.toArray.size) undef, defers := [] }
    have hz : ∀ p ∈ (keysOf ps 0).zip bs, (∃ n, plc (initH ps 0 x) bs p.1 = some (p.2, n)) ∧ ∃ vo, tblH (initH ps 0 x) p.1 = some vo := by
      intro p hp
      exact ent_place hent hknd p.1 p.2 (by rw [hkeys]; exact hp)
    have hs0 : Sim B (plc (initH ps 0 x) bs) M (tbl (initT ps 0 x)) (tblH (initH ps 0 x)) a0 w := by
      refine ⟨?_, rfl, fun i => ?_, fun k vo hk => ?_, ?_, hmem, ?_, ?_, Mem.le.refl _, fun _ _ h => .inl h, Ext.refl _ _⟩
      · show (vs.toArray ++ Array.replicate (fn.ntmps - vs.toArray.size) undef).size = fn.ntmps
        simp; omega
      · have := init_tm (β := plc (initH ps 0 x) bs) (H := tblH (initH ps 0 x)) ps 0 x vs bs hin hz i
        rw [Nat.zero_add] at this
        have e : a0.tmps.getD i undef = vs.getD i undef := by
          show (vs.toArray ++ Array.replicate (fn.ntmps - vs.toArray.size) undef).getD i undef = _
          rw [Array.getD_eq_getD_getElem?, List.getD_eq_getElem?_getD]
          rcases Nat.lt_or_ge i vs.length with hi | hi
          · rw [Array.getElem?_append_left (by simpa using hi)]
            simp
          · rw [Array.getElem?_append_right (by simpa using hi), List.getElem?_eq_none hi]
            rw [Array.getElem?_replicate]
            split <;> rfl
        rw [e]; exact this
      · obtain ⟨c', x', b, rfl, g2, ⟨cs, e, q1, q2, q3, q4⟩, g4⟩ := ent_get hent hknd k vo hk
        exact ⟨rfl, b, cs, e, g2, q1, by rw [flat_length]; exact q2, CR.cells c' x' _ q3, q4⟩
      · intro k k' vo vo' b n b' n' hk hk' h1 h2 hne e
        subst e
        obtain ⟨_, _, b1, _, g2, _, g4⟩ := ent_get hent hknd k vo hk
        obtain ⟨_, _, b2, _, e2, _, e4⟩ := ent_get hent hknd k' vo' hk'
        rw [h1] at g2; cases g2
        rw [h2] at e2; cases e2
        exact hne (ent_inj hnd k k' b g4 e4)
      · intro k vo b n hk hb'
        obtain ⟨_, _, b1, _, g2, _, g4⟩ := ent_get hent hknd k vo hk
        rw [hb'] at g2; cases g2
        rw [hkeys] at g4
        exact .inr g4
      · intro k b vo hio hk
        exact (hz (k, b) hio).1
    intro o a next Q hnext
    rw [run_enter hf hname hb, Oper.upon_enter]
    refine Calls.mono (R := fun e w' => ∃ v, e = .returned v ∧ ∃ M', M.le M' ∧ (∀ a v, M' a = some v → w'.cell? a = some v) ∧ (∀ a v, M' a = some v → M a = some v ∨ w.heap.size ≤ a.block) ∧ ResR M' rs r.1 v ∧ IosOut M' w' ps r.2 bs ∧ ExtB bs w w') (calls_of_wp hf hb ?_) (fun e w' he => ?_)
    · refine vrun_ok htt hG (B := B) hn (hD B hn) an k c 0 _ _ a0 w _ _ ⟨_, _, hs0⟩ hF fun e T' H' a' w' hR hv => ?_
      have main : ∀ T' H' a' w', R B T' H' a' w' → vout cx fn ps rs T' H' = some r → a'.defers = [] ∧ ∃ v, (results fn a'.tmps).run P w' = .ok v w' ∧ ∃ v', Ending.returned v = .returned v' ∧ ∃ M', M.le M' ∧ (∀ a v, M' a = some v → w'.cell? a = some v) ∧ (∀ a v, M' a = some v → M a = some v ∨ w.heap.size ≤ a.block) ∧ ResR M' rs r.1 v' ∧ IosOut M' w' ps r.2 bs ∧ ExtB bs w w' := by
        intro T' H' a' w' hR hv
        obtain ⟨β, M1, hs⟩ := hR
        unfold vout at hv
        split at hv
        · rename_i lvs hlvs
          split at hv
          · rename_i y hy
            split at hv
            · rename_i z hzz
              cases hv
              obtain ⟨M', m1, m2, m3⟩ := hs.freezes (List.range 1000000)
              have hc : ∀ k, k < 1000000 → Cov β H' M' w' k := fun k hk => m3 k (List.mem_range.2 hk) hk
              have hsame : ∀ k ver l fz, H' k = some ⟨ver, .cells l, fz⟩ → updH H' (freeze H' (List.range 1000000)) k = some ⟨ver, .cells l, fz⟩ := by
                intro k ver l fz hk
                rw [updH_not]
                · exact hk
                · intro o hm
                  obtain ⟨_, v, c, l', fz', h1, _⟩ := freeze_mem _ k o hm
                  rw [hk] at h1; cases h1
              have hnone : ∀ k ver l b n, H' k = some ⟨ver, .cells l, false⟩ → β k = some (b, n) → ∀ x : Addr, x.block = b → M' x = none := by
                intro k ver l b n hk hb x hx
                obtain ⟨_, _, _, _, h4⟩ := (m1.hp k _ (hsame k ver l false hk)).block hb
                exact h4 rfl x hx
              obtain ⟨vals, v2, v1⟩ := resLV_ok hs htt fn.results.toList lvs hlvs
              have hT := outRs_ok hs m2 hc rs lvs vals y hy v2
              have hI := outIos_ok hs m2 hc hnone ps 0 bs z hzz (by
                have : ∀ {E : List (Nat × Option VO)} {bs : List Nat}, Ent M w E bs → E.length = bs.length := by
                  intro E bs h
                  induction h with
                  | nil => rfl
                  | cons _ _ ih => simp [ih]
                rw [← hkeys, List.length_map, this hent]) (fun p hp => hp)
              refine ⟨hs.defs, resV vals, ?_, _, rfl, M', hs.le.trans m2, m1.mem, m1.new, ⟨vals, hT, rfl⟩, hI, ?_⟩
              · unfold results
                rw [Sem.run_bind, Array.mapM_eq_mapM_toList, Sem.run_map, v1 _ (fun t => rfl) (fun b t => rfl)]
                simp only [Result.andThen_ok, Sem.run_pure]
                match vals with
                | [] => rfl
                | [u] => rfl
                | _ :: _ :: _ => rfl
              · refine ⟨hs.ext.os, hs.ext.tape, hs.ext.output, hs.ext.size, fun b hb1 hb2 => hs.ext.block b hb1 fun k hk => hb2 (List.of_mem_zip hk).2⟩
            · cases hv
          · cases hv
        · cases hv
      unfold vend at hv
      split at hv
      · exact main _ _ _ _ hR hv
      · exact main _ _ _ _ hR hv
      · cases hv
    · obtain ⟨v, rfl, h⟩ := he
      exact hnext v w' h
  · cases hF
end
end Go.JL
/- The abstract machine, part N6: updates in another order. No program in sight. -/
set_option linter.unusedVariables false
set_option linter.unusedSimpArgs false
namespace Go.JL

section
variable {X : Type}
def applyU (F : Nat → X) : List (Nat × X) → Nat → X
  | [] => F
  | (k, x) :: r => applyU (upd F k x) r
def foldS (S : Nat → Bool) : List (List (Nat × X)) → Nat → (Nat → X) → Nat → X
  | [], _, F => F
  | u :: us, i, F => foldS S us (i + 1) (if S i then applyU F u else F)

theorem applyU_not {k : Nat} : ∀ (u : List (Nat × X)) (F : Nat → X), k ∉ u.map (·.1) → applyU F u k = F k
  | [], _, _ => rfl
  | (j, x) :: r, F, h => by
    simp only [List.map_cons, List.mem_cons, not_or] at h
    show applyU (upd F j x) r k = F k
    rw [applyU_not r _ h.2, upd_ne _ _ h.1]
theorem applyU_congr {k : Nat} : ∀ (u : List (Nat × X)) (F F' : Nat → X), F k = F' k → applyU F u k = applyU F' u k
  | [], _, _, h => h
  | (j, x) :: r, F, F', h => by
    refine applyU_congr r _ _ ?_
    by_cases e : k = j
    · subst e; rw [upd_same, upd_same]
    · rw [upd_ne _ _ e, upd_ne _ _ e]; exact h
theorem applyU_in {k : Nat} : ∀ (u : List (Nat × X)) (F F' : Nat → X), k ∈ u.map (·.1) → applyU F u k = applyU F' u k
  | [], _, _, h => by cases h
  | (j, x) :: r, F, F', h => by
    by_cases hr : k ∈ r.map (·.1)
    · exact applyU_in r _ _ hr
    · have e : k = j := by
        simp only [List.map_cons, List.mem_cons] at h
        exact h.resolve_right hr
      subst e
      exact applyU_congr r _ _ (by rw [upd_same, upd_same])
theorem foldS_agree {k : Nat} {S S' : Nat → Bool} : ∀ (us : List (List (Nat × X))) (i : Nat) (F F' : Nat → X), F k = F' k → (∀ (j : Nat) (u : List (Nat × X)), us[j]? = some u → k ∈ u.map (·.1) → S (i + j) = S' (i + j)) → foldS S us i F k = foldS S' us i F' k
  | [], _, _, _, h, _ => h
  | u :: us, i, F, F', h, hS => by
    refine foldS_agree us (i + 1) _ _ ?_ (fun j u' hu hk => by have := hS (j + 1) u' (by simpa using hu) hk; rwa [show i + (j + 1) = i + 1 + j by omega] at this)
    by_cases hk : k ∈ u.map (·.1)
    · have := hS 0 u rfl hk
      simp only [Nat.add_zero] at this
      rw [this]
      split
      · exact applyU_congr u _ _ h
      · exact h
    · have e1 : applyU F u k = F k := applyU_not u F hk
      have e2 : applyU F' u k = F' k := applyU_not u F' hk
      split <;> split <;> simp only [e1, e2, h]
theorem foldS_still {k : Nat} {S : Nat → Bool} : ∀ (us : List (List (Nat × X))) (i : Nat) (F : Nat → X), (∀ (j : Nat) (u : List (Nat × X)), us[j]? = some u → S (i + j) = true → k ∉ u.map (·.1)) → foldS S us i F k = F k
  | [], _, _, _ => rfl
  | u :: us, i, F, h => by
    show foldS S us (i + 1) (if S i then applyU F u else F) k = F k
    rw [foldS_still us (i + 1) _ (fun j u' hu hs => h (j + 1) u' (by simpa using hu) (by rwa [show i + (j + 1) = i + 1 + j by omega]))]
    split
    · rename_i hi
      exact applyU_not u F (h 0 u rfl (by simpa using hi))
    · rfl
/-- One more, in its place or last: it is the same. -/
theorem foldS_one {S : Nat → Bool} {n : Nat} : ∀ (us : List (List (Nat × X))) (i : Nat) (F : Nat → X) (u : List (Nat × X)), us[n]? = some u → S (i + n) = false →
    (∀ (j : Nat) (u' : List (Nat × X)), n < j → us[j]? = some u' → S (i + j) = true → ∀ k ∈ u.map (·.1), k ∉ u'.map (·.1)) →
    foldS (upd S (i + n) true) us i F = applyU (foldS S us i F) u := by
  intro us i F u hu hS hap
  funext k
  by_cases hk : k ∈ u.map (·.1)
  · induction us generalizing i F n with
    | nil => simp at hu
    | cons v us ih =>
      cases n with
      | zero =>
        simp at hu
        subst hu
        show foldS (upd S (i + 0) true) us (i + 1) (if upd S (i + 0) true i then applyU F v else F) k = _
        have e0 : upd S (i + 0) true i = true := by rw [Nat.add_zero, upd_same]
        rw [e0]
        simp only [if_true]
        rw [foldS_still us (i + 1) _ (fun j u' hu' hs => by
          have hne : i + 1 + j ≠ i + 0 := by omega
          rw [upd_ne _ _ hne] at hs
          exact hap (j + 1) u' (by omega) (by simpa using hu') (by rwa [show i + (j + 1) = i + 1 + j by omega]) k hk)]
        exact applyU_in v _ _ hk
      | succ n =>
        show foldS (upd S (i + (n + 1)) true) us (i + 1) (if upd S (i + (n + 1)) true i then applyU F v else F) k = applyU (foldS S us (i + 1) (if S i then applyU F v else F)) u k
        have hne : i ≠ i + (n + 1) := by omega
        rw [upd_ne _ _ hne, show i + (n + 1) = i + 1 + n by omega]
        exact ih (i + 1) _ (by simpa using hu) (by rw [show i + 1 + n = i + (n + 1) by omega]; exact hS) (fun j u' hj hu' hs => hap (j + 1) u' (by omega) (by simpa using hu') (by rwa [show i + (j + 1) = i + 1 + j by omega]))
  · rw [applyU_not u _ hk]
    refine foldS_agree us i F F rfl (fun j u' hu' hk' => ?_)
    by_cases e : j = n
    · subst e
      rw [hu] at hu'; cases hu'
      exact (hk hk').elim
    · exact upd_ne _ _ (by omega)
theorem foldS_none (us : List (List (Nat × X))) : ∀ (i : Nat) (F : Nat → X), foldS (fun _ => false) us i F = F := by
  induction us with
  | nil => intro i F; rfl
  | cons u us ih => intro i F; exact ih (i + 1) F
end
theorem updH_eq (H : Nat → Option VO) : ∀ ups : List (Nat × VO), updH H ups = applyU H (ups.map fun p => (p.1, some p.2))
  | [] => rfl
  | (k, o) :: r => updH_eq (upd H k (some o)) r
end Go.JL
/- The abstract machine, part N7: an operation looks at what it names alone. No program in sight. -/
set_option linter.unusedVariables false
set_option linter.unusedSimpArgs false
namespace Go.JL

/-- The two states agree on the keys l and on what the objects there name. -/
def Ag (H1 H2 : Nat → Option VO) (l : List Nat) : Prop := ∀ k ∈ l, H1 k = H2 k ∧ ∀ v c f, H1 k = some ⟨v, .cells c, f⟩ → ∀ j ∈ c.flatMap cvKeys, H1 j = H2 j

section
variable {H1 H2 : Nat → Option VO} {α : Type}
theorem own_cv {k : Nat} : ∀ (l : List CV), k ∈ ownKeys l → k ∈ l.flatMap cvKeys
  | [], h => by cases h
  | x :: r, h => by
    rw [List.flatMap_cons]
    have ih := own_cv (k := k) r
    cases x with
    | own j v w =>
      simp only [ownKeys, List.mem_cons] at h
      rcases h with rfl | h
      · exact List.mem_append_left _ (by simp [cvKeys])
      · exact List.mem_append_right _ (ih h)
    | _ => exact List.mem_append_right _ (ih h)
theorem toEl_local {c : TC} {cv : CV} (h : ∀ k ∈ ownKeys [cv], H1 k = H2 k) : toEl H1 c cv = toEl H2 c cv := by
  cases cv with
  | own k v w =>
    have : H1 k = H2 k := h k (by simp [ownKeys])
    simp only [toEl, this]
  | _ => rfl
theorem build_local : ∀ (c : TC) (l : List CV), (∀ k ∈ ownKeys l, H1 k = H2 k) → build H1 c l = build H2 c l := by
  intro c
  induction c with
  | pair p q ihp ihq =>
    intro l h
    simp only [build]
    rw [← ihp l h]
    cases hb : build H1 p l with
    | none => rfl
    | some x =>
      obtain ⟨x, r⟩ := x
      obtain ⟨s, e, _⟩ := build_alive p l x r hb
      simp only
      rw [ihq r (fun k hk => h k (by rw [e, ownKeys_append]; exact List.mem_append_right _ hk))]
  | one p ih => intro l h; exact ih l h
  | unit => intro l h; rfl
  | bool => intro l h; cases l with
    | nil => rfl
    | cons v r => simp only [build]; rw [toEl_local (fun k hk => h k (ownKeys_cons_mem (.inl hk)))]
  | int k => intro l h; cases l with
    | nil => rfl
    | cons v r => simp only [build]; rw [toEl_local (fun k hk => h k (ownKeys_cons_mem (.inl hk)))]
  | str => intro l h; cases l with
    | nil => rfl
    | cons v r => simp only [build]; rw [toEl_local (fun k hk => h k (ownKeys_cons_mem (.inl hk)))]
  | list c _ => intro l h; cases l with
    | nil => rfl
    | cons v r => simp only [build]; rw [toEl_local (fun k hk => h k (ownKeys_cons_mem (.inl hk)))]
  | fn c _ => intro l h; cases l with
    | nil => rfl
    | cons v r => simp only [build]; rw [toEl_local (fun k hk => h k (ownKeys_cons_mem (.inl hk)))]
theorem buildAll_local {c : TC} {l : List CV} (h : ∀ k ∈ ownKeys l, H1 k = H2 k) : buildAll H1 c l = buildAll H2 c l := by
  unfold buildAll; rw [build_local c l h]
theorem buildMany_local {c : TC} : ∀ (n : Nat) (l : List CV), (∀ k ∈ ownKeys l, H1 k = H2 k) → buildMany H1 c n l = buildMany H2 c n l
  | 0, [], _ => rfl
  | 0, _ :: _, _ => rfl
  | n + 1, l, h => by
    simp only [buildMany]
    rw [← build_local c l h]
    cases hb : build H1 c l with
    | none => rfl
    | some x =>
      obtain ⟨x, r⟩ := x
      obtain ⟨s, e, _⟩ := build_alive c l x r hb
      simp only
      rw [buildMany_local n r (fun k hk => h k (by rw [e, ownKeys_append]; exact List.mem_append_right _ hk))]
theorem freeze_local : ∀ (ks : List Nat), (∀ k ∈ ks, H1 k = H2 k) → freeze H1 ks = freeze H2 ks
  | [], _ => rfl
  | k :: r, h => by
    simp only [freeze]
    rw [h k List.mem_cons_self, freeze_local r (fun j hj => h j (List.mem_cons_of_mem _ hj))]
theorem Ag.of {l m : List Nat} (h : Ag H1 H2 l) (hs : ∀ k ∈ m, k ∈ l) : Ag H1 H2 m := fun k hk => h k (hs k hk)
theorem Ag.cells {k : Nat} {l : List Nat} (h : Ag H1 H2 l) (hk : k ∈ l) {v : Nat} {c : List CV} {f : Bool} (hc : H1 k = some ⟨v, .cells c, f⟩) : ∀ j ∈ ownKeys c, H1 j = H2 j :=
  fun j hj => (h k hk).2 v c f hc j (own_cv c hj)
theorem toTup_local : ∀ (cs : List TC) (ks : List (Nat × Nat)), Ag H1 H2 (ks.map (·.1)) → toTup H1 cs ks = toTup H2 cs ks
  | [], [], _ => rfl
  | [], _ :: _, _ => rfl
  | _ :: _, [], _ => rfl
  | c :: cs, (k, v) :: ks, h => by
    simp only [toTup]
    have hk := (h k (by simp)).1
    have hc := fun v c f => h.cells (k := k) (v := v) (c := c) (f := f) (by simp)
    rw [← hk, toTup_local cs ks (h.of fun j hj => List.mem_cons_of_mem _ hj)]
    cases hx : H1 k with
    | none => rfl
    | some vo =>
      obtain ⟨v', ob, f⟩ := vo
      cases ob with
      | row c l => rfl
      | cells l =>
        cases f with
        | true => rfl
        | false =>
          simp only
          rw [buildAll_local (hc _ _ _ hx)]
theorem conv_local : ∀ (ps : List PK) (vs : List LV), Ag H1 H2 (vs.flatMap lvKeys) → conv H1 ps vs = conv H2 ps vs
  | [], [], _ => rfl
  | [], _ :: _, _ => rfl
  | _ :: _, [], _ => by rename_i p ps _; cases p <;> rfl
  | .val c :: ps, v :: vs, h => by
    simp only [conv]
    have hv : ∀ k ∈ ownKeys v.cells, H1 k = H2 k := fun k hk => (h k (by
      rw [List.flatMap_cons]
      refine List.mem_append_left _ ?_
      have := own_cv _ hk
      cases v with
      | c x => simpa [LV.cells, lvKeys] using this
      | agg l => exact this
      | tup l => simp [LV.cells, cvKeys] at this)).1
    rw [buildAll_local hv, conv_local ps vs (h.of fun k hk => by rw [List.flatMap_cons]; exact List.mem_append_right _ hk)]
  | .ptr c :: ps, v :: vs, h => by
    have ih := conv_local ps vs (h.of fun k hk => by rw [List.flatMap_cons]; exact List.mem_append_right _ hk)
    cases v with
    | agg l => rfl
    | tup l => rfl
    | c x =>
      cases x with
      | ptr k ver o =>
        cases o with
        | succ o => rfl
        | zero =>
          have hin : k ∈ ((LV.c (.ptr k ver 0)) :: vs).flatMap lvKeys := by simp [lvKeys, cvKeys]
          have hk := (h k hin).1
          simp only [conv]
          rw [← hk, ih]
          cases hx : H1 k with
          | none => rfl
          | some vo =>
            obtain ⟨v', ob, f⟩ := vo
            cases ob with
            | row c l => rfl
            | cells l =>
              cases f with
              | true => rfl
              | false =>
                simp only
                rw [buildAll_local (h.cells hin hx)]
      | _ => rfl
  | .clo f cs :: ps, v :: vs, h => by
    have ih := conv_local ps vs (h.of fun k hk => by rw [List.flatMap_cons]; exact List.mem_append_right _ hk)
    cases v with
    | agg l => rfl
    | tup l => rfl
    | c x =>
      cases x with
      | clo g ks =>
        have hks : Ag H1 H2 (ks.map (·.1)) := h.of fun k hk => by
          rw [List.flatMap_cons]
          exact List.mem_append_left _ (by simpa [lvKeys, cvKeys] using hk)
        simp only [conv]
        rw [ih, toTup_local cs ks hks]
        have : (ks.flatMap fun p => cellsOf H1 p.1) = ks.flatMap fun p => cellsOf H2 p.1 := by
          have : ∀ ks : List (Nat × Nat), Ag H1 H2 (ks.map (·.1)) → (ks.flatMap fun p => cellsOf H1 p.1) = ks.flatMap fun p => cellsOf H2 p.1 := by
            intro ks
            induction ks with
            | nil => intro _; rfl
            | cons p ks ih =>
              intro h
              rw [List.flatMap_cons, List.flatMap_cons, ih (h.of fun j hj => List.mem_cons_of_mem _ hj)]
              unfold cellsOf
              rw [(h p.1 (by simp)).1]
          exact this ks hks
        rw [this]
      | _ => rfl
theorem back_local : ∀ (ps : List PK) (vs : List LV) (x : Ios ps), back H1 ps vs x = back H2 ps vs x := by
  intro ps
  induction ps with
  | nil => intro vs x; rfl
  | cons p ps ih =>
    intro vs x
    cases vs with
    | nil => cases p <;> rfl
    | cons v vs =>
      cases p with
      | val c => exact ih vs x
      | ptr c =>
        cases v with
        | c y =>
          cases y with
          | ptr k w o => simp only [back]; rw [ih]
          | _ => rfl
        | _ => rfl
      | clo f cs =>
        cases v with
        | c y =>
          cases y with
          | clo g ks => simp only [back]; rw [ih]
          | _ => rfl
        | _ => rfl
theorem conv_own : ∀ (ps : List PK) (vs : List LV) (cv : Conv ps), conv H1 ps vs = some cv → Ag H1 H2 (vs.flatMap lvKeys) → ∀ k ∈ cv.own, H1 k = H2 k := by
  intro ps
  induction ps with
  | nil =>
    intro vs cv h _ k hk
    cases vs with
    | nil => simp only [conv, Option.some.injEq] at h; subst h; cases hk
    | cons _ _ => simp [conv] at h
  | cons p ps ih =>
    intro vs cv h hA k hk
    cases vs with
    | nil => cases p <;> simp [conv] at h
    | cons v vs =>
      have hA' : Ag H1 H2 (vs.flatMap lvKeys) := hA.of fun k hk => by rw [List.flatMap_cons]; exact List.mem_append_right _ hk
      cases p with
      | val c =>
        obtain ⟨x, r, _, _, hr, rfl⟩ := conv_val h
        rcases List.mem_append.1 hk with hk | hk
        · refine (hA k ?_).1
          rw [List.flatMap_cons]
          refine List.mem_append_left _ ?_
          have := own_cv _ hk
          cases v with
          | c x => simpa [LV.cells, lvKeys] using this
          | agg l => exact this
          | tup l => simp [LV.cells, cvKeys] at this
        · exact ih vs r hr hA' k hk
      | ptr c =>
        obtain ⟨k', ver, l, x, r, rfl, hk', _, hr, rfl⟩ := conv_ptr h
        rcases List.mem_append.1 hk with hk | hk
        · exact hA.cells (k := k') (by simp [lvKeys, cvKeys]) hk' k hk
        · exact ih vs r hr hA' k hk
      | clo f cs =>
        obtain ⟨ks, x, r, rfl, _, hr, rfl⟩ := conv_clo h
        rcases List.mem_append.1 hk with hk | hk
        · have hks : Ag H1 H2 (ks.map (·.1)) := hA.of fun k hk => by
            rw [List.flatMap_cons]
            exact List.mem_append_left _ (by simpa [lvKeys, cvKeys] using hk)
          have : ∀ ks : List (Nat × Nat), Ag H1 H2 (ks.map (·.1)) → k ∈ ownKeys (ks.flatMap fun p => cellsOf H1 p.1) → H1 k = H2 k := by
            intro ks
            induction ks with
            | nil => intro _ h; cases h
            | cons p ks ih =>
              intro h hk
              rw [List.flatMap_cons, ownKeys_append] at hk
              rcases List.mem_append.1 hk with hk | hk
              · unfold cellsOf at hk
                split at hk
                · rename_i v l f hp
                  exact h.cells (k := p.1) (by simp) hp k hk
                · cases hk
              · exact ih (h.of fun j hj => List.mem_cons_of_mem _ hj) hk
          exact this ks hks hk
        · exact ih vs r hr hA' k hk
theorem vcall_local {cx : Cx} {f : Nat} {vs : List LV} (h : Ag H1 H2 (vs.flatMap lvKeys)) (K : LV → List (Nat × VO) → Option α) : vcall cx f vs H1 K = vcall cx f vs H2 K := by
  unfold vcall
  cases hC : cx.G f with
  | none => rfl
  | some C =>
    simp only
    rw [← conv_local C.ps vs h]
    cases hcv : conv H1 C.ps vs with
    | none => rfl
    | some cv =>
      simp only
      have hfr : freeze H1 cv.own = freeze H2 cv.own := by
        refine freeze_local _ ?_
        exact conv_own C.ps vs cv hcv h
      rw [hfr]
      have hb : ∀ r, back H1 C.ps vs r = back H2 C.ps vs r := back_local C.ps vs
      simp only [hb]
end
end Go.JL
/- The abstract machine, part N8: every operation looks at what it names alone. No program in sight. -/
set_option linter.unusedVariables false
set_option linter.unusedSimpArgs false
namespace Go.JL

section
variable {P : Program} {H1 H2 : Nat → Option VO} {α : Type}
theorem key_c {k v : Nat} {w : Win} : k ∈ lvKeys (.c (.own k v w)) := by simp [lvKeys, cvKeys]
theorem vload_local {ty : Ty} {p : LV} (h : Ag H1 H2 (lvKeys p)) (K : LV → Option α) : vload ty p H1 K = vload ty p H2 K := by
  cases p with
  | agg l => rfl
  | tup l => rfl
  | c x =>
    cases x with
    | ptr k v o => have := (h k (by simp [lvKeys, cvKeys])).1; simp only [vload, this]
    | rptr k v i j => have := (h k (by simp [lvKeys, cvKeys])).1; simp only [vload, this]
    | _ => rfl
theorem vlen_local {ty : Ty} {p : LV} (h : Ag H1 H2 (lvKeys p)) (K : LV → Option α) : vlen ty p H1 K = vlen ty p H2 K := by
  cases p with
  | agg l => unfold vlen; cases ty.d <;> rfl
  | tup l => unfold vlen; cases ty.d <;> rfl
  | c x =>
    cases x with
    | own k v w => have := (h k key_c).1; unfold vlen; cases ty.d <;> simp only [this]
    | s c x => unfold vlen; cases ty.d <;> cases c <;> rfl
    | _ => unfold vlen; cases ty.d <;> rfl
theorem elemsOf_local {c : TC} {x : LV} (h : Ag H1 H2 (lvKeys x)) : elemsOf H1 c x = elemsOf H2 c x := by
  cases x with
  | agg l => rfl
  | tup l => rfl
  | c x => exact toEl_local fun k hk => (h k (by have := own_cv [x] hk; simpa [lvKeys] using this)).1
theorem vindexAddr_local {cx : Cx} {ty : Ty} {x i : LV} (h : Ag H1 H2 (lvKeys x)) (K : LV → Option α) : vindexAddr cx ty x i H1 K = vindexAddr cx ty x i H2 K := by
  cases x with
  | agg l => unfold vindexAddr; rfl
  | tup l => unfold vindexAddr; rfl
  | c x =>
    cases x with
    | own k v w =>
      have := (h k key_c).1
      unfold vindexAddr
      simp only [this]
    | s c x => unfold vindexAddr; cases c <;> rfl
    | _ => unfold vindexAddr; rfl
theorem vslice_local {cx : Cx} {ty : Ty} {x : LV} {lo hi : Option LV} (h : Ag H1 H2 (lvKeys x)) (K : LV → Option α) : vslice cx ty x lo hi H1 K = vslice cx ty x lo hi H2 K := by
  cases x with
  | agg l => unfold vslice; rfl
  | tup l => unfold vslice; rfl
  | c x =>
    cases x with
    | own k v w =>
      have := (h k key_c).1
      cases w <;> unfold vslice
      · simp only [this]
      · rfl
      · rfl
    | s c x => unfold vslice; cases c <;> rfl
    | _ => unfold vslice; rfl
theorem vappend_local {cx : Cx} {d t : Nat} {x y : LV} (hx : Ag H1 H2 (lvKeys x)) (hy : Ag H1 H2 (lvKeys y)) (h0 : H1 (siteKey d 0) = H2 (siteKey d 0)) (K : LV → List (Nat × VO) → Option α) : vappend cx d t x y H1 K = vappend cx d t x y H2 K := by
  have he : ∀ c, elemsOf H1 c y = elemsOf H2 c y := fun c => elemsOf_local hy
  cases x with
  | agg l => unfold vappend; simp only [he]
  | tup l => unfold vappend; simp only [he]
  | c x =>
    cases x with
    | own k v w =>
      have := (hx k key_c).1
      cases w <;> unfold vappend <;> simp only [he, h0, this]
    | _ => unfold vappend; simp only [he, h0]
theorem vconvert_local {cx : Cx} {s t : Ty} {x : LV} (h : Ag H1 H2 (lvKeys x)) (K : LV → Option α) : vconvert cx s t x H1 K = vconvert cx s t x H2 K := by
  have he : ∀ c, elemsOf H1 c x = elemsOf H2 c x := fun c => elemsOf_local h
  unfold vconvert
  simp only [he]
theorem vmove_local {cx : Cx} {d t : Nat} {x : Operand} {T : Nat → LV} (h0 : H1 (siteKey d 0) = H2 (siteKey d 0)) (K : LV → List (Nat × VO) → Option α) : vmove cx d t x T H1 K = vmove cx d t x T H2 K := by
  unfold vmove
  simp only [h0]
theorem freshB_local : ∀ (ups : List (Nat × VO)), (∀ k o, (k, o) ∈ ups → H1 k = H2 k) → freshB H1 ups = freshB H2 ups
  | [], _ => rfl
  | (k, o) :: r, h => by
    simp only [freshB]
    rw [h k o List.mem_cons_self, freshB_local r (fun k o hk => h k o (List.mem_cons_of_mem _ hk))]
theorem vvar_local {d : Nat} {cells : List CV} {cc : List TC} (h : ∀ i, i < cc.length + 1 → H1 (siteKey d i) = H2 (siteKey d i)) (K : LV → List (Nat × VO) → Option α) : vvar d cells cc H1 K = vvar d cells cc H2 K := by
  by_cases hl : cells.length = cc.length
  · have hfr : freshB H1 ((vars d 1 cells cc).2 ++ [(siteKey d 0, ⟨0, .cells (vars d 1 cells cc).1, false⟩)]) = freshB H2 ((vars d 1 cells cc).2 ++ [(siteKey d 0, ⟨0, .cells (vars d 1 cells cc).1, false⟩)]) := by
      refine freshB_local _ (fun k o hm => ?_)
      rcases List.mem_append.1 hm with hm | hm
      · obtain ⟨i, h1, h2, rfl⟩ := vars_keys d cells cc 1 k o hm
        exact h i (by omega)
      · rw [List.mem_singleton] at hm
        cases hm
        exact h 0 (by omega)
    simp only [vvar, hfr]
  · simp only [vvar, hl, decide_false, Bool.and_false, Bool.false_and, cond_false]
theorem vmake_local {cx : Cx} (htt : ∀ t ty, cx.tt t = some ty → TyOk P t ty) {d : Nat} {ty : Ty} {x : LV} (h0 : H1 (siteKey d 0) = H2 (siteKey d 0)) (K : LV → List (Nat × VO) → Option α) : vmake cx d ty x H1 K = vmake cx d ty x H2 K := by
  have hz : ∀ e te c, cx.tt e = some te → buildAll H1 c te.zero = buildAll H2 c te.zero := by
    intro e te c hte
    refine buildAll_local ?_
    obtain ⟨i, d1, z, _, _, _, _, _, _, _, h8, _⟩ := (htt e te hte).facts
    rw [zsB_noKeys _ _ h8]
    intro k hk; cases hk
  unfold vmake
  split
  · rename_i e c k n _ _
    split
    · rename_i te hte
      rw [hz e te c hte, h0]
    · rfl
  · rfl
theorem fillV_keys {k : Nat} : ∀ (parts : List (Nat × LV)) (pl : List (Nat × Nat)) (cells out : List CV), fillV pl cells parts = some out → k ∈ ownKeys out → k ∈ ownKeys cells ∨ ∃ p ∈ parts, k ∈ ownKeys p.2.cells
  | [], pl, cells, out, h, hk => by
    simp only [fillV, Option.some.injEq] at h
    subst h; exact .inl hk
  | (i, v) :: r, pl, cells, out, h, hk => by
    simp only [fillV] at h
    split at h
    · rename_i off size hp
      simp only [Bool.cond_eq_ite] at h
      split at h
      · rcases fillV_keys r pl _ out h hk with h | ⟨p, h1, h2⟩
        · unfold splice at h
          rw [ownKeys_append, ownKeys_append] at h
          rcases List.mem_append.1 h with h | h
          · exact .inl ((ownKeys_sub cells off).1 h)
          · rcases List.mem_append.1 h with h | h
            · exact .inr ⟨(i, v), List.mem_cons_self, h⟩
            · exact .inl ((ownKeys_sub cells _).2 h)
        · exact .inr ⟨p, List.mem_cons_of_mem _ h1, h2⟩
      · cases h
    · cases h
theorem repeatL_keys {k : Nat} (l : List CV) (hl : ownKeys l = []) : ∀ n, k ∉ ownKeys (repeatL n l)
  | 0, h => by cases h
  | n + 1, h => by
    simp only [repeatL, ownKeys_append, hl, List.nil_append] at h
    exact repeatL_keys l hl n h
theorem lv_own {k : Nat} {v : LV} (h : k ∈ ownKeys v.cells) : k ∈ lvKeys v := by
  have := own_cv _ h
  cases v with
  | c x => simpa [LV.cells, lvKeys] using this
  | agg l => exact this
  | tup l => simp [LV.cells, cvKeys] at this
theorem vbuildSlice_local {cx : Cx} (htt : ∀ t ty, cx.tt t = some ty → TyOk P t ty) {d : Nat} {ty : Ty} {n : Nat} {parts : List (Nat × LV)} (h0 : H1 (siteKey d 0) = H2 (siteKey d 0)) (hp : ∀ p ∈ parts, Ag H1 H2 (lvKeys p.2)) (K : LV → List (Nat × VO) → Option α) :
    vbuildSlice cx d ty n parts H1 K = vbuildSlice cx d ty n parts H2 K := by
  unfold vbuildSlice
  split
  · rename_i e c _ _
    split
    · rename_i te hte
      cases hf : fillV (rowPlaces te.size n) (repeatL n te.zero) parts with
      | none => rfl
      | some cells =>
        have hk : ∀ k ∈ ownKeys cells, H1 k = H2 k := by
          intro k hk
          rcases fillV_keys parts _ _ cells hf hk with h | ⟨p, h1, h2⟩
          · obtain ⟨i, d1, z, _, _, _, _, _, _, _, h8, _⟩ := (htt e te hte).facts
            exact (repeatL_keys _ (zsB_noKeys _ _ h8) n h).elim
          · exact (hp p h1 k (lv_own h2)).1
        simp only
        rw [buildMany_local n cells hk, h0, freeze_local (ownKeys cells) hk]
    · rfl
  · rfl
theorem vstore_local {ty : Ty} {p x : LV} (hp : Ag H1 H2 (lvKeys p)) (hx : Ag H1 H2 (lvKeys x)) (K : List (Nat × VO) → Option α) : vstore ty p x H1 K = vstore ty p x H2 K := by
  have hown : ∀ k ∈ ownKeys x.cells, H1 k = H2 k := fun k hk => (hx k (lv_own hk)).1
  have hfr : freeze H1 (ownKeys x.cells) = freeze H2 (ownKeys x.cells) := freeze_local _ hown
  cases p with
  | agg l => unfold vstore; rfl
  | tup l => unfold vstore; rfl
  | c q =>
    cases q with
    | ptr k v o =>
      have := (hp k (by simp [lvKeys, cvKeys])).1
      unfold vstore
      simp only [this]
    | rptr k v i j =>
      have := (hp k (by simp [lvKeys, cvKeys])).1
      unfold vstore
      simp only [this, hfr]
      split
      · rename_i v' c l hk
        have hb : ∀ y, buildAll H1 c (splice (flat c y) j x.cells) = buildAll H2 c (splice (flat c y) j x.cells) := by
          intro y
          refine buildAll_local fun q hq => ?_
          unfold splice at hq
          rw [ownKeys_append, ownKeys_append] at hq
          have hfk := ownKeys_flat c y
          rcases List.mem_append.1 hq with hq | hq
          · have := (ownKeys_sub (k := q) (flat c y) j).1 hq
            rw [hfk] at this; cases this
          · rcases List.mem_append.1 hq with hq | hq
            · exact hown q hq
            · have := (ownKeys_sub (k := q) (flat c y) (j + x.cells.length)).2 hq
              rw [hfk] at this; cases this
        simp only [hb]
      · rfl
    | _ => unfold vstore; rfl
theorem vmakeFunc_local {cx : Cx} {f : Nat} {first captured : List Operand} {T : Nat → LV} (hx : ∀ x ∈ first, Ag H1 H2 (lvKeys (evalO T x))) (K : LV → List (Nat × VO) → Option α) : vmakeFunc cx f first captured T H1 K = vmakeFunc cx f first captured T H2 K := by
  unfold vmakeFunc
  split
  · rfl
  · rename_i x
    have hown : ∀ k ∈ ownKeys (evalO T x).cells, H1 k = H2 k := fun k hk => (hx x List.mem_cons_self k (lv_own hk)).1
    have hb : ∀ c, buildAll H1 c (evalO T x).cells = buildAll H2 c (evalO T x).cells := fun c => buildAll_local hown
    simp only [hb, freeze_local _ hown]
  · rfl
  · rfl
theorem flat_keys : ∀ (c : TC) (x : El c), (flat c x).flatMap cvKeys = []
  | .pair a b, x => by rw [flat_pair, List.flatMap_append, flat_keys a, flat_keys b]; rfl
  | .one a, x => flat_keys a x
  | .unit, _ => rfl
  | .bool, _ => rfl
  | .int _, _ => rfl
  | .str, _ => rfl
  | .list _, _ => rfl
  | .fn _, _ => rfl
theorem toLV_keys (c : TC) (x : El c) : lvKeys (toLV c x) = [] := by
  have h := flat_keys c x
  cases c <;> first | exact h | rfl
theorem vdyn_local {cx : Cx} {b : TC} {f : Nat} {vs : List LV} (hv : Ag H1 H2 (vs.flatMap lvKeys)) (K : LV → List (Nat × VO) → Option α) : ∀ l : List Nat, vdyn cx b f vs H1 K l = vdyn cx b f vs H2 K l
  | [] => rfl
  | g :: r => by simp only [vdyn]; rw [vcall_local hv K, vdyn_local hv K r]
theorem vnew_local {C : NCon} {d : Nat} {vs : List LV} (h : Ag H1 H2 (vs.flatMap lvKeys)) (h0 : H1 (siteKey d 0) = H2 (siteKey d 0)) (K : LV → List (Nat × VO) → Option α) : vnew C d vs H1 K = vnew C d vs H2 K := by
  unfold vnew
  rw [← conv_local C.ps vs h, h0]
  cases hcv : conv H1 C.ps vs with
  | none => rfl
  | some cv =>
    simp only
    rw [freeze_local _ (conv_own C.ps vs cv hcv h)]
theorem vcallV_local {cx : Cx} {f : LV} {vs : List LV} (hf : Ag H1 H2 (lvKeys f)) (hv : Ag H1 H2 (vs.flatMap lvKeys)) (K : LV → List (Nat × VO) → Option α) : vcallV cx f vs H1 K = vcallV cx f vs H2 K := by
  unfold vcallV
  split
  · rename_i b y
    cases y with
    | none => rfl
    | some p =>
      have h1 := vcall_local (cx := cx) (f := p.1) hv K
      have h3 := vdyn_local (cx := cx) (b := b) (f := p.1) hv K cx.dynu
      have h2 := vdyn_local (cx := cx) (b := b) (f := p.1) (vs := toLV b p.2 :: vs) (by rw [List.flatMap_cons, toLV_keys]; exact hv) K cx.dyn
      show (bif isUnit b then (bif cx.dynu.isEmpty then vcall cx p.1 vs H1 K else vdyn cx b p.1 vs H1 K cx.dynu) else vdyn cx b p.1 (toLV b p.2 :: vs) H1 K cx.dyn) = (bif isUnit b then (bif cx.dynu.isEmpty then vcall cx p.1 vs H2 K else vdyn cx b p.1 vs H2 K cx.dynu) else vdyn cx b p.1 (toLV b p.2 :: vs) H2 K cx.dyn)
      rw [h1, h2, h3]
  · rename_i g ks
    refine vcall_local ?_ K
    intro k hk
    rw [List.flatMap_append] at hk
    rcases List.mem_append.1 hk with hk | hk
    · exact hv k hk
    · refine hf k ?_
      rw [List.mem_flatMap] at hk
      obtain ⟨x, hx, hk⟩ := hk
      obtain ⟨p, hp, rfl⟩ := List.mem_map.1 hx
      simp [lvKeys, cvKeys] at hk
      subst hk
      simp only [lvKeys, cvKeys, List.mem_map]
      exact ⟨p, hp, rfl⟩
  · rfl
theorem vbuiltin_local {cx : Cx} {d : Nat} {b : Builtin} {ts : List TypeId} {vs : List LV} (h0 : H1 (siteKey d 0) = H2 (siteKey d 0)) (hv : ∀ x ∈ vs, Ag H1 H2 (lvKeys x)) (K : LV → List (Nat × VO) → Option α) : vbuiltin cx d b ts vs H1 K = vbuiltin cx d b ts vs H2 K := by
  unfold vbuiltin
  split
  · rename_i t x
    simp only [vlen_local (hv x (by simp))]
  · rename_i t t' x y
    rw [vappend_local (hv x (by simp)) (hv y (by simp)) h0]
  · rfl
  · rfl
  · rfl

theorem foot_Ag {cx : Cx} {o : Oper} {T : Nat → LV} (h : ∀ k ∈ foot cx o T H1, H1 k = H2 k) : Ag H1 H2 (siteKeys cx o ++ named o T) := by
  intro k hk
  refine ⟨h k (List.mem_append_left _ hk), fun v c f hc j hj => h j (List.mem_append_right _ ?_)⟩
  rw [List.mem_flatMap]
  exact ⟨k, hk, by rw [hc]; exact hj⟩
theorem vop_local {cx : Cx} (htt : ∀ t ty, cx.tt t = some ty → TyOk P t ty) {o : Oper} {T : Nat → LV} (h : ∀ k ∈ foot cx o T H1, H1 k = H2 k) (K : LV → List (Nat × VO) → Option α) : vop cx o T H1 K = vop cx o T H2 K := by
  have hA := foot_Ag h
  obtain ⟨dst, op, ty, pos, after, guard⟩ := o
  have ho : quiet op = false → ∀ x ∈ op.operands.toList, Ag H1 H2 (lvKeys (evalO T x)) := fun hq x hx => hA.of fun k hk => List.mem_append_right _ (by
    unfold named
    rw [hq]
    exact List.mem_flatMap.2 ⟨x, hx, hk⟩)
  have h0 : (∀ e, op ≠ .alloc e) → (∀ e x, op ≠ .box e x) → H1 (siteKey (dst.getD 0) 0) = H2 (siteKey (dst.getD 0) 0) := fun h1 h2 => (hA _ (List.mem_append_left _ (by
    unfold siteKeys
    split
    · rename_i e he; exact (h1 _ he).elim
    · rename_i e x he; exact (h2 _ _ he).elim
    · exact List.mem_singleton.2 rfl))).1
  unfold vop
  congr 1
  cases op with
  | move x => exact vmove_local (h0 (by simp) (by simp)) K
  | assign x => exact vmove_local (h0 (by simp) (by simp)) K
  | alloc e =>
    simp only [vopB]
    cases he : cx.tt e with
    | none => rfl
    | some te => exact vvar_local (fun i hi => (hA _ (List.mem_append_left _ (by simp only [siteKeys, he]; exact List.mem_map.2 ⟨i, List.mem_range.2 hi, rfl⟩))).1) K
  | box e x =>
    simp only [vopB]
    cases he : cx.tt e with
    | none => rfl
    | some te =>
      simp only
      rw [vvar_local (fun i hi => (hA _ (List.mem_append_left _ (by simp only [siteKeys, he]; exact List.mem_map.2 ⟨i, List.mem_range.2 hi, rfl⟩))).1) K]
  | buildSlice t n parts =>
    simp only [vopB]
    cases he : cx.tt t with
    | none => rfl
    | some te => exact vbuildSlice_local htt (h0 (by simp) (by simp)) (fun p hp => by
        obtain ⟨q, hq, rfl⟩ := List.mem_map.1 hp
        exact ho rfl q.2 (by simp only [Op.operands]; exact List.mem_map.2 ⟨q, hq, rfl⟩)) K
  | load t p =>
    simp only [vopB]
    cases he : cx.tt t with
    | none => rfl
    | some te => exact vload_local (ho rfl p (by simp [Op.operands])) _
  | store t p x =>
    simp only [vopB]
    cases he : cx.tt t with
    | none => rfl
    | some te => exact vstore_local (ho rfl p (by simp [Op.operands])) (ho rfl x (by simp [Op.operands])) _
  | convert s t x =>
    simp only [vopB]
    cases cx.tt s with
    | none => rfl
    | some ts => cases cx.tt t with
      | none => rfl
      | some te => exact vconvert_local (ho rfl x (by simp [Op.operands])) _
  | makeFunc fn first captured =>
    cases fn with
    | func f => exact vmakeFunc_local (fun x hx => ho rfl x (by simp only [Op.operands, Array.toList_append]; exact List.mem_append_left _ hx)) K
    | _ => rfl
  | makeSlice t n m =>
    simp only [vopB]
    have hm := fun (te : Ty) x => vmake_local (cx := cx) (ty := te) (x := x) htt (h0 (by simp) (by simp)) K
    simp only [hm]
  | slice t x lo hi mx =>
    cases mx with
    | some _ => rfl
    | none =>
      simp only [vopB]
      cases he : cx.tt t with
      | none => rfl
      | some te => exact vslice_local (ho rfl x (by simp [Op.operands])) _
  | indexAddr t x i =>
    simp only [vopB]
    cases he : cx.tt t with
    | none => rfl
    | some te => exact vindexAddr_local (ho rfl x (by simp [Op.operands])) _
  | call c =>
    simp only [vopB]
    have hargs : ∀ x ∈ c.args.toList, Ag H1 H2 (lvKeys (evalO T x)) := fun x hx => ho rfl x (by simp only [Op.operands, Call.operands, Array.toList_append]; exact List.mem_append_right _ hx)
    cases hc : c.callee with
    | builtin b => exact vbuiltin_local (h0 (by simp) (by simp)) (fun y hy => by obtain ⟨x, hx, rfl⟩ := List.mem_map.1 hy; exact hargs x hx) K
    | value F =>
      have hall : Ag H1 H2 ((c.args.toList.map (evalO T)).flatMap lvKeys) := fun k hk => by
        obtain ⟨y, hy, hk⟩ := List.mem_flatMap.1 hk
        obtain ⟨x, hx, rfl⟩ := List.mem_map.1 hy
        exact hargs x hx k hk
      simp only
      cases newOf cx F with
      | some C => exact vnew_local hall (h0 (by simp) (by simp)) K
      | none => exact vcallV_local (ho rfl F (by simp [Op.operands, Call.operands, hc])) hall K
    | invoke r m => rfl
  | _ => rfl

/-- .. and at its operands alone. -/
theorem ptrKeys_localT {T1 T2 : Nat → LV} : ∀ (l : List Operand), (∀ x ∈ l, evalO T1 x = evalO T2 x) → ptrKeys T1 l = ptrKeys T2 l
  | [], _ => rfl
  | x :: r, h => by
    simp only [ptrKeys]
    rw [h x List.mem_cons_self, ptrKeys_localT r (fun y hy => h y (List.mem_cons_of_mem _ hy))]
theorem vmakeFunc_localT {cx : Cx} {f : Nat} {first captured : List Operand} {T1 T2 : Nat → LV} {H : Nat → Option VO} (h1 : ∀ x ∈ first, evalO T1 x = evalO T2 x) (h2 : ∀ x ∈ captured, evalO T1 x = evalO T2 x) (K : LV → List (Nat × VO) → Option α) : vmakeFunc cx f first captured T1 H K = vmakeFunc cx f first captured T2 H K := by
  unfold vmakeFunc
  split
  · rfl
  · rename_i x
    rw [h1 x List.mem_cons_self]
  · rename_i y l
    rw [ptrKeys_localT (y :: l) h2]
  · rfl
theorem vop_localT {cx : Cx} {o : Oper} {T1 T2 : Nat → LV} {H : Nat → Option VO} (h : ∀ x ∈ o.op.operands.toList, evalO T1 x = evalO T2 x) (K : LV → List (Nat × VO) → Option α) : vop cx o T1 H K = vop cx o T2 H K := by
  obtain ⟨dst, op, ty, pos, after, guard⟩ := o
  unfold vop
  congr 1
  simp only at h
  have hparts : ∀ parts : Array (Nat × Operand), (∀ p ∈ parts.toList, evalO T1 p.2 = evalO T2 p.2) → (parts.toList.map fun p => (p.1, evalO T1 p.2)) = parts.toList.map fun p => (p.1, evalO T2 p.2) := fun parts hp => List.map_congr_left fun p hm => by rw [hp p hm]
  cases op with
  | move x => simp only [vopB, vmove]; rw [h x (by simp [Op.operands])]
  | assign x => simp only [vopB, vmove]; rw [h x (by simp [Op.operands])]
  | pick c x y => simp only [vopB]; rw [h c (by simp [Op.operands]), h x (by simp [Op.operands]), h y (by simp [Op.operands])]
  | box e x => simp only [vopB]; rw [h x (by simp [Op.operands])]
  | build t parts => simp only [vopB]; rw [hparts parts (fun p hp => h p.2 (by simp only [Op.operands]; exact List.mem_map.2 ⟨p, hp, rfl⟩))]
  | buildSlice t n parts => simp only [vopB]; rw [hparts parts (fun p hp => h p.2 (by simp only [Op.operands]; exact List.mem_map.2 ⟨p, hp, rfl⟩))]
  | load t p => simp only [vopB]; rw [h p (by simp [Op.operands])]
  | store t p x => simp only [vopB]; rw [h p (by simp [Op.operands]), h x (by simp [Op.operands])]
  | nilCheck x => simp only [vopB]; rw [h x (by simp [Op.operands])]
  | binOp op t x y e => simp only [vopB]; rw [h x (by simp [Op.operands]), h y (by simp [Op.operands])]
  | unOp op t x => simp only [vopB]; rw [h x (by simp [Op.operands])]
  | convert s t x => simp only [vopB]; rw [h x (by simp [Op.operands])]
  | makeFunc fn first captured =>
    cases fn with
    | func f => exact vmakeFunc_localT (fun x hx => h x (by simp only [Op.operands, Array.toList_append]; exact List.mem_append_left _ hx)) (fun x hx => h x (by simp only [Op.operands, Array.toList_append]; exact List.mem_append_right _ hx)) K
    | _ => rfl
  | makeSlice t n m =>
    have hn := h n (by simp [Op.operands])
    have : makeLen T1 n m = makeLen T2 n m := by
      cases n with
      | tmp a =>
        have hn : T1 a = T2 a := hn
        simp only [makeLen, hn]
      | _ => rfl
    simp only [vopB, this]
  | slice t x lo hi mx =>
    cases mx with
    | some _ => rfl
    | none =>
      simp only [vopB]
      rw [h x (by simp [Op.operands])]
      have e1 : lo.map (evalO T1) = lo.map (evalO T2) := by
        cases lo with
        | none => rfl
        | some l => simp only [Option.map_some]; rw [h l (by simp [Op.operands])]
      have e2 : hi.map (evalO T1) = hi.map (evalO T2) := by
        cases hi with
        | none => rfl
        | some l => simp only [Option.map_some]; rw [h l (by simp [Op.operands])]
      rw [e1, e2]
  | fieldAddr t p f => simp only [vopB]; rw [h p (by simp [Op.operands])]
  | field t x f => simp only [vopB]; rw [h x (by simp [Op.operands])]
  | indexAddr t x i => simp only [vopB]; rw [h x (by simp [Op.operands]), h i (by simp [Op.operands])]
  | index t x i => simp only [vopB]; rw [h x (by simp [Op.operands]), h i (by simp [Op.operands])]
  | extract x i => simp only [vopB]; rw [h x (by simp [Op.operands])]
  | call c =>
    have hargs : c.args.toList.map (evalO T1) = c.args.toList.map (evalO T2) := List.map_congr_left fun x hx => h x (by simp only [Op.operands, Call.operands, Array.toList_append]; exact List.mem_append_right _ hx)
    simp only [vopB]
    cases hc : c.callee with
    | builtin b => simp only; rw [hargs]
    | value F => simp only; rw [hargs, h F (by simp [Op.operands, Call.operands, hc])]
    | invoke r m => rfl
  | _ => rfl
theorem foot_localT {cx : Cx} {o : Oper} {T1 T2 : Nat → LV} {H : Nat → Option VO} (h : ∀ x ∈ o.op.operands.toList, evalO T1 x = evalO T2 x) : foot cx o T1 H = foot cx o T2 H := by
  unfold foot named
  have : (o.op.operands.toList.flatMap fun x => lvKeys (evalO T1 x)) = o.op.operands.toList.flatMap fun x => lvKeys (evalO T2 x) := by
    have : ∀ l : List Operand, (∀ x ∈ l, evalO T1 x = evalO T2 x) → (l.flatMap fun x => lvKeys (evalO T1 x)) = l.flatMap fun x => lvKeys (evalO T2 x) := by
      intro l
      induction l with
      | nil => intro _; rfl
      | cons x r ih => intro h; rw [List.flatMap_cons, List.flatMap_cons, h x List.mem_cons_self, ih (fun y hy => h y (List.mem_cons_of_mem _ hy))]
    exact this _ h
  rw [this]
end
end Go.JL
/- The abstract machine, part N9: a region whose order is open. No program in sight. -/
set_option linter.unusedVariables false
set_option linter.unusedSimpArgs false
namespace Go.JL

structure Out where
  lv : LV
  ups : List (Nat × VO)
  foot : List Nat
def dstU (dst : Option Nat) (lv : LV) : List (Nat × LV) := match dst with
  | some d => [(d, lv)]
  | none => []
def wantsA (ops : Array Oper) (o : Oper) (T : Nat → LV) : Option Bool :=
  match o.guard with
  | none => some true
  | some (j, want) => match (ops[j]?).bind (·.dst) with
    | none => none
    | some dj => match T dj with
      | .c (.s .bool b) => some (b == want)
      | .c .und => some false
      | _ => none
/-- The operations in the order of the text, and what each came to. -/
inductive Run (cx : Cx) (ops : Array Oper) : List Oper → (Nat → LV) → (Nat → Option VO) → List Out → (Nat → LV) → (Nat → Option VO) → Prop
  | nil {T H} : Run cx ops [] T H [] T H
  | ran {o l T H lv ups outs T' H'} : wantsA ops o T = some true → (∀ (γ : Type) (K : LV → List (Nat × VO) → Option γ), vop cx o T H K = K lv ups) → (∃ (γ : Type) (K : LV → List (Nat × VO) → Option γ) (r : γ), vop cx o T H K = some r) → (∀ k ∈ ups.map (·.1), k ∈ foot cx o T H) → (∀ d, o.dst = some d → d < cx.n) →
      Run cx ops l (applyU T (dstU o.dst lv)) (updH H ups) outs T' H' → Run cx ops (o :: l) T H (⟨lv, ups, foot cx o T H⟩ :: outs) T' H'
  | skip {o l T H outs T' H'} : wantsA ops o T = some false → (∀ d, o.dst = some d → d < cx.n) → Run cx ops l (applyU T (dstU o.dst und)) H outs T' H' → Run cx ops (o :: l) T H (⟨und, [], []⟩ :: outs) T' H'

section
variable {P : Program} {B : Base}

theorem upon_const {o : Oper} {a : Act} {G : Prop} {x : Result Next} (h : o.upon P a (fun _ _ => G) (fun _ _ _ => G) x) : G := by
  cases x with
  | ok n w' =>
    cases n <;> simp only [Oper.upon] at h <;> first
      | exact h
      | (obtain ⟨e, w'', fr, hR, _⟩ := h []
         cases e with
         | returned v => exact hR
         | panicked c => exact hR
         | outgrown => obtain ⟨_, _, hg⟩ := hR; exact hg)
      | (obtain ⟨v, w'', hR, _⟩ := h default []
         exact hR)
  | halt y w' => cases y <;> simp only [Oper.upon] at h <;> exact h

theorem putT_some {α : Type} {r : α} {n : Nat} {T : Nat → LV} {dst : Option Nat} {lv : LV} {K : (Nat → LV) → Option α} (h : putT n T dst lv K = some r) : K (applyU T (dstU dst lv)) = some r ∧ ∀ d, dst = some d → d < n := by
  cases dst with
  | none => exact ⟨h, fun d hd => by cases hd⟩
  | some d =>
    simp only [putT, Bool.cond_eq_ite, decide_eq_true_eq] at h
    split at h
    · rename_i hd
      exact ⟨h, fun d' e => by cases e; exact hd⟩
    · cases h
theorem RV.putU {T : Nat → LV} {H : Nat → Option VO} {a : Act} {w : World} {z : Value} {lv : LV} (h : RV B T H a w z lv) {dst : Option Nat} (hd : ∀ d, dst = some d → d < B.n) : R B (applyU T (dstU dst lv)) H (a.put dst z) w := by
  cases dst with
  | none => obtain ⟨β, M, hs, _⟩ := h; exact ⟨β, M, hs⟩
  | some d => exact h.put (hd d rfl)

theorem trace_ok {cx : Cx} (htt : ∀ t ty, cx.tt t = some ty → TyOk P t ty) (hG : CxOk P cx) (hn : cx.n = B.n) {α : Type} {r : α} {ops : Array Oper} {G : Prop} :
    ∀ (l : List Oper) (T : Nat → LV) (H : Nat → Option VO) (f : Feet) (a : Act) (w : World) (K : (Nat → LV) → (Nat → Option VO) → Feet → Option α), R B T H a w → vopsD cx ops l T H f K = some r →
      (∀ outs T' H', Run cx ops l T H outs T' H' → K T' H' ((outs.map fun u => (u.foot, u.ups.map (·.1))).reverse ++ f) = some r → G) → G
  | [], T, H, f, a, w, K, hR, h, hg => hg [] T H .nil (by simpa [vopsD] using h)
  | o :: l, T, H, f, a, w, K, hR, h, hg => by
    have run : wantsA ops o T = some true → (vop cx o T H fun v ups => bif (ups.map (·.1)).all (foot cx o T H).contains then
        putT cx.n T o.dst v fun T' => vopsD cx ops l T' (updH H ups) ((foot cx o T H, ups.map (·.1)) :: f) K else none) = some r → G := by
      intro hw h
      obtain ⟨β, M, hs⟩ := hR
      obtain ⟨lv, ups, h1, h2⟩ := vop_ok hs htt hG h
      have hv := h
      have h := (h1 _ _).symm.trans h
      simp only [Bool.cond_eq_ite] at h
      split at h
      · rename_i hall
        obtain ⟨h, hd⟩ := putT_some h
        refine upon_const (h2 (fun _ _ => G) (fun _ _ _ => G) fun z w' hz => ?_)
        refine trace_ok htt hG hn l _ _ _ _ _ K (hz.putU (fun d e => by rw [← hn]; exact hd d e)) h fun outs T' H' hrun hk => ?_
        refine hg _ T' H' (.ran hw h1 ⟨_, _, r, hv⟩ (fun k hk => by
          have := List.all_eq_true.1 hall k hk
          simpa using this) hd hrun) ?_
        simpa using hk
      · cases h
    unfold vopsD at h
    simp only at h
    split at h
    · rename_i hgd
      exact run (by unfold wantsA; rw [hgd]) h
    · rename_i j want hgd
      split at h
      · cases h
      · rename_i dj hdj
        split at h
        · rename_i b hb
          have hT : upd T dj (.c (.s .bool b)) = T := by rw [← hb]; exact upd_self T dj
          have h' : (bif b == want then (vop cx o T H fun v ups => bif (ups.map (·.1)).all (foot cx o T H).contains then
              putT cx.n T o.dst v fun T' => vopsD cx ops l T' (updH H ups) ((foot cx o T H, ups.map (·.1)) :: f) K else none)
            else putT cx.n T o.dst und fun T' => vopsD cx ops l T' H (([], []) :: f) K) = some r := by
            cases b
            · simp only [cond_false] at h
              rw [hT] at h
              exact h
            · simp only [cond_true] at h
              rw [hT] at h
              exact h
          simp only [Bool.cond_eq_ite, beq_iff_eq] at h'
          split at h'
          · rename_i hbw
            exact run (by unfold wantsA; rw [hgd]; simp [hdj, hb, hbw]) (by simpa only [Bool.cond_eq_ite] using h')
          · rename_i hbw
            obtain ⟨h', hd⟩ := putT_some h'
            obtain ⟨β, M, hs⟩ := hR
            have hz : RV B T H a w undef und := ⟨β, M, hs, rfl⟩
            refine trace_ok htt hG hn l _ _ _ _ _ K (hz.putU (fun d e => by rw [← hn]; exact hd d e)) h' fun outs T' H' hrun hk => ?_
            refine hg _ T' H' (.skip (by unfold wantsA; rw [hgd]; simp [hdj, hb, hbw]) hd hrun) ?_
            simpa using hk
        · rename_i hb
          obtain ⟨h', hd⟩ := putT_some h
          obtain ⟨β, M, hs⟩ := hR
          have hz : RV B T H a w undef und := ⟨β, M, hs, rfl⟩
          refine trace_ok htt hG hn l _ _ _ _ _ K (hz.putU (fun d e => by rw [← hn]; exact hd d e)) h' fun outs T' H' hrun hk => ?_
          refine hg _ T' H' (.skip (by unfold wantsA; rw [hgd]; simp [hdj, hb]) hd hrun) ?_
          simpa using hk
        · cases h
end
end Go.JL
/- The abstract machine, part N10: a region whose order is open, in any order. No program in sight. -/
set_option linter.unusedVariables false
set_option linter.unusedSimpArgs false
namespace Go.JL

def UT : List Oper → List Out → List (List (Nat × LV))
  | o :: l, u :: us => dstU o.dst u.lv :: UT l us
  | _, _ => []
def UH : List Out → List (List (Nat × Option VO))
  | [] => []
  | u :: us => (u.ups.map fun p => (p.1, some p.2)) :: UH us

/-- What is known of the operation at its place. -/
def Fact (cx : Cx) (ops : Array Oper) (o : Oper) (u : Out) (T : Nat → LV) (H : Nat → Option VO) : Prop :=
  (∀ d, o.dst = some d → d < cx.n) ∧
  ((wantsA ops o T = some true ∧ (∀ (γ : Type) (K : LV → List (Nat × VO) → Option γ), vop cx o T H K = K u.lv u.ups) ∧ (∃ (γ : Type) (K : LV → List (Nat × VO) → Option γ) (r : γ), vop cx o T H K = some r) ∧ u.foot = foot cx o T H ∧ ∀ k ∈ u.ups.map (·.1), k ∈ u.foot) ∨
   (wantsA ops o T = some false ∧ u.lv = und ∧ u.ups = []))

section
variable {P : Program} {B : Base} {cx : Cx} {ops : Array Oper}

theorem run_len : ∀ {l : List Oper} {T H outs T' H'}, Run cx ops l T H outs T' H' → outs.length = l.length := by
  intro l T H outs T' H' h
  induction h with
  | nil => rfl
  | ran _ _ _ _ _ _ ih => simp [ih]
  | skip _ _ _ ih => simp [ih]
theorem run_end : ∀ {l : List Oper} {T H outs T' H'}, Run cx ops l T H outs T' H' → ∀ (i : Nat) (S : Nat → Bool), (∀ q, q < l.length → S (i + q) = true) → T' = foldS S (UT l outs) i T ∧ H' = foldS S (UH outs) i H := by
  intro l T H outs T' H' h
  induction h with
  | nil => intro i S _; exact ⟨rfl, rfl⟩
  | ran h1 h2 h3 h4 h5 h6 ih =>
    intro i S hS
    have h0 : S i = true := by simpa using hS 0 (by simp)
    obtain ⟨e1, e2⟩ := ih (i + 1) S (fun q hq => by have := hS (q + 1) (by simp; omega); rwa [show i + (q + 1) = i + 1 + q by omega] at this)
    refine ⟨?_, ?_⟩
    · rw [e1]; simp only [UT, foldS, h0, if_true]
    · rw [e2]; simp only [UH, foldS, h0, if_true, updH_eq]
  | skip h1 h2 h3 ih =>
    intro i S hS
    have h0 : S i = true := by simpa using hS 0 (by simp)
    obtain ⟨e1, e2⟩ := ih (i + 1) S (fun q hq => by have := hS (q + 1) (by simp; omega); rwa [show i + (q + 1) = i + 1 + q by omega] at this)
    refine ⟨?_, ?_⟩
    · rw [e1]; simp only [UT, foldS, h0, if_true]
    · rw [e2]; simp only [UH, foldS, h0, if_true, List.map_nil]; rfl
theorem foldS_before {X : Type} (us : List (List (Nat × X))) (i : Nat) (F : Nat → X) : foldS (fun q => decide (q < i + 0)) us i F = F := by
  funext k
  refine foldS_still us i F fun j u _ hs => ?_
  have hs : i + j < i + 0 := of_decide_eq_true hs
  omega
theorem run_at : ∀ {l : List Oper} {T H outs T' H'}, Run cx ops l T H outs T' H' → ∀ (i j : Nat) (o : Oper) (u : Out), l[j]? = some o → outs[j]? = some u →
    Fact cx ops o u (foldS (fun q => decide (q < i + j)) (UT l outs) i T) (foldS (fun q => decide (q < i + j)) (UH outs) i H) := by
  intro l T H outs T' H' h
  induction h with
  | nil => intro i j o u ho; simp at ho
  | ran h1 h2 h3 h4 h5 h6 ih =>
    intro i j o u ho hu
    cases j with
    | zero =>
      simp at ho hu
      subst ho; subst hu
      rw [foldS_before, foldS_before]
      exact ⟨h5, .inl ⟨h1, h2, h3, rfl, h4⟩⟩
    | succ j =>
      have := ih (i + 1) j o u (by simpa using ho) (by simpa using hu)
      rw [show i + 1 + j = i + (j + 1) by omega] at this
      have h0 : decide (i < i + (j + 1)) = true := by simp
      simp only [UT, UH, foldS, h0, if_true, ← updH_eq]
      exact this
  | skip h1 h2 h3 ih =>
    intro i j o u ho hu
    cases j with
    | zero =>
      simp at ho hu
      subst ho; subst hu
      rw [foldS_before, foldS_before]
      exact ⟨h2, .inr ⟨h1, rfl, rfl⟩⟩
    | succ j =>
      have := ih (i + 1) j o u (by simpa using ho) (by simpa using hu)
      rw [show i + 1 + j = i + (j + 1) by omega] at this
      have h0 : decide (i < i + (j + 1)) = true := by simp
      simp only [UT, UH, foldS, h0, if_true, List.map_nil, applyU]
      exact this
end
end Go.JL
/- The abstract machine, part N11: a region whose order is open: any order will do. No program in sight. -/
set_option linter.unusedVariables false
set_option linter.unusedSimpArgs false
namespace Go.JL

/-- How many are still to do. -/
def todo (S : Nat → Bool) : Nat → Nat
  | 0 => 0
  | n + 1 => todo S n + if S n then 0 else 1
theorem todo_false : ∀ n, todo (fun _ => false) n = n
  | 0 => rfl
  | n + 1 => by simp [todo, todo_false n]
theorem todo_zero {S : Nat → Bool} : ∀ n, todo S n = 0 → ∀ q, q < n → S q = true
  | 0, _, q, h => by omega
  | n + 1, h, q, hq => by
    simp only [todo] at h
    rcases Nat.lt_or_ge q n with h' | h'
    · exact todo_zero n (by omega) q h'
    · have : q = n := by omega
      subst this
      cases hs : S q with
      | true => rfl
      | false => rw [hs] at h; simp at h
theorem todo_same {S S' : Nat → Bool} : ∀ n, (∀ q, q < n → S q = S' q) → todo S n = todo S' n
  | 0, _ => rfl
  | n + 1, h => by simp only [todo]; rw [todo_same n (fun q hq => h q (by omega)), h n (by omega)]
theorem todo_one {S : Nat → Bool} {j : Nat} : ∀ n, j < n → S j = false → todo (upd S j true) n + 1 = todo S n
  | 0, h, _ => by omega
  | n + 1, h, hs => by
    simp only [todo]
    by_cases e : n = j
    · subst e
      rw [upd_same, hs, todo_same n (fun q hq => upd_ne S true (by omega : q ≠ n))]
      simp
    · rw [upd_ne _ _ e]
      have := todo_one n (by omega) hs
      omega

section
variable {P : Program} {B : Base} {cx : Cx} {ops : Array Oper} {md : Region.Mode}

theorem lex_all : ∀ (fuel k : Nat) (listed : Array Bool), listed.size = ops.size → (∀ q, q < ops.size → listed.getD q false = decide (q < k)) → k + fuel = ops.size → Region.lexFrom md ops fuel k listed = true →
    ∀ i, k ≤ i → i < ops.size → ∃ L : Array Bool, L.size = ops.size ∧ (∀ q, q < ops.size → L.getD q false = decide (q < i)) ∧ i ∈ Region.ready md ops L ∧ Region.free md ops L i = true
  | 0, k, listed, _, _, hk, _, i, h1, h2 => by omega
  | fuel + 1, k, listed, hsz, hl, hk, h, i, h1, h2 => by
    simp only [Region.lexFrom, Bool.and_eq_true] at h
    obtain ⟨⟨g1, g2⟩, g3⟩ := h
    by_cases e : i = k
    · subst e
      exact ⟨listed, hsz, hl, by simpa using g1, g2⟩
    · refine lex_all fuel (k + 1) _ (by simpa using hsz) (fun q hq => ?_) (by omega) g3 i (by omega) h2
      by_cases e' : k = q
      · subst e'
        simp [hsz, hq]
      · rw [getD_set_ne false e', hl q hq]
        have : (q < k) ↔ (q < k + 1) := by omega
        simp only [this]
theorem lex_pairs (h : Region.lexB md ops = true) : (∀ i j oi oj, ops[i]? = some oi → ops[j]? = some oj → i < j → (∃ e ∈ oj.after, Region.binds md e = true ∧ e.on = i) ∨ oi.apart ops oj = true) ∧
    (∀ j oj, ops[j]? = some oj → ∀ e ∈ oj.after, Region.binds md e = true → e.on < j) := by
  simp only [Region.lexB, Bool.and_eq_true] at h
  have hall := lex_all (md := md) (ops := ops) ops.size 0 (Array.replicate ops.size false) (by simp) (fun q hq => by simp [Array.getElem?_replicate, hq]) (by omega) h.2
  constructor
  · intro i j oi oj hi hj hij
    have hjs : j < ops.size := (Array.getElem?_eq_some_iff.1 hj).1
    obtain ⟨L, l1, l2, l3, l4⟩ := hall i (Nat.zero_le _) (by omega)
    by_cases hw : ∃ e ∈ oj.after, Region.binds md e = true ∧ e.on = i
    · exact .inl hw
    · refine .inr (Region.free_spec hi l4 j oj hj (by omega) ?_ (fun e he hb heq => hw ⟨e, he, hb, heq⟩))
      have := l2 j hjs
      have hlt : j < L.size := by omega
      rw [Array.getD_eq_getD_getElem?, Array.getElem?_eq_getElem hlt] at this ⊢
      simp only [Option.getD_some] at this ⊢
      rw [this]
      exact decide_eq_false (by omega)
  · intro j oj hj e he hb
    have hjs : j < ops.size := (Array.getElem?_eq_some_iff.1 hj).1
    obtain ⟨L, l1, l2, l3, l4⟩ := hall j (Nat.zero_le _) hjs
    obtain ⟨_, o, ho, hr⟩ := mem_ready.1 l3
    rw [hj] at ho; cases ho
    have := hr e he hb
    have hlt : e.on < L.size := by
      rcases Nat.lt_or_ge e.on L.size with h | h
      · exact h
      · rw [Array.getD_eq_getD_getElem?, Array.getElem?_eq_none h] at this; cases this
    have h2 := l2 e.on (by omega)
    rw [this] at h2
    simpa using h2.symm
end
end Go.JL
/- The abstract machine, part N12: a region whose order is open comes to what the order of the text comes to. No program in sight. -/
set_option linter.unusedVariables false
set_option linter.unusedSimpArgs false
namespace Go.JL

section
variable {P : Program} {B : Base} {cx : Cx} {ops : Array Oper} {outs : List Out}

theorem UT_get : ∀ {l : List Oper} {outs : List Out} {j : Nat} {u : List (Nat × LV)}, (UT l outs)[j]? = some u → ∃ o v, l[j]? = some o ∧ outs[j]? = some v ∧ u = dstU o.dst v.lv
  | [], outs, j, u, h => by cases outs <;> simp [UT] at h
  | _ :: _, [], j, u, h => by simp [UT] at h
  | o :: l, v :: us, 0, u, h => by simp [UT] at h; exact ⟨o, v, rfl, rfl, h.symm⟩
  | o :: l, v :: us, j + 1, u, h => by simpa using UT_get (l := l) (outs := us) (j := j) (by simpa [UT] using h)
theorem UT_at : ∀ {l : List Oper} {outs : List Out} {j : Nat} {o : Oper} {v : Out}, l[j]? = some o → outs[j]? = some v → (UT l outs)[j]? = some (dstU o.dst v.lv)
  | [], outs, j, o, v, h, _ => by simp at h
  | _ :: _, [], j, o, v, _, h => by simp at h
  | o' :: l, v' :: us, 0, o, v, h1, h2 => by simp at h1 h2; subst h1; subst h2; rfl
  | o' :: l, v' :: us, j + 1, o, v, h1, h2 => by simpa [UT] using UT_at (l := l) (outs := us) (j := j) (by simpa using h1) (by simpa using h2)
theorem UH_get : ∀ {outs : List Out} {j : Nat}, (UH outs)[j]? = (outs[j]?).map fun u => u.ups.map fun p => (p.1, some p.2)
  | [], j => by simp [UH]
  | u :: us, 0 => rfl
  | u :: us, j + 1 => by simpa [UH] using UH_get (outs := us) (j := j)
theorem UH_keys (u : Out) : (u.ups.map fun p => (p.1, (some p.2 : Option VO))).map (·.1) = u.ups.map (·.1) := by simp [List.map_map, Function.comp_def]
theorem dstU_keys {t : Nat} {dst : Option Nat} {lv : LV} (h : t ∈ (dstU dst lv).map (·.1)) : dst = some t := by
  cases dst with
  | none => simp [dstU] at h
  | some d => simp [dstU] at h; rw [h]

/-- Two operations that do not wait for each other. -/
structure Indep (ops : Array Oper) (oi oj : Oper) (ui uj : Out) : Prop where
  tij : ∀ d, oi.dst = some d → d ∉ oj.looksAt ops
  tji : ∀ d, oj.dst = some d → d ∉ oi.looksAt ops
  tt : ∀ d, oi.dst = some d → oj.dst ≠ some d
  hij : ∀ k ∈ ui.ups.map (·.1), k ∉ uj.foot
  hji : ∀ k ∈ uj.ups.map (·.1), k ∉ ui.foot
theorem Indep.symm {oi oj : Oper} {ui uj : Out} (h : Indep ops oi oj ui uj) : Indep ops oj oi uj ui :=
  ⟨h.tji, h.tij, fun d hd e => h.tt d e hd, h.hji, h.hij⟩
theorem apartB_ok {a b : List Nat} (h : apartB a b = true) : ∀ k ∈ a, k ∉ b := by
  intro k hk
  have := List.all_eq_true.1 h k hk
  simpa using this
theorem waitsT_listed {listed : Nat → Bool} (hc : ∀ i oi, ops[i]? = some oi → listed i = true → ∀ e ∈ oi.after, Region.binds .any e = true → listed e.on = true) : ∀ (n j i : Nat) (o : Oper), ops[j]? = some o →
    (∀ e ∈ o.after, Region.binds .any e = true → listed e.on = true) → waitsT ops n j i = true → listed i = true
  | 0, _, _, _, _, _, h => by cases h
  | n + 1, j, i, o, ho, hw, h => by
    simp only [waitsT, ho, Bool.or_eq_true] at h
    rcases h with h | h
    · unfold waits at h
      obtain ⟨e, he, hb⟩ := Array.any_eq_true'.1 h
      simp only [Bool.and_eq_true, beq_iff_eq] at hb
      rw [← hb.2]
      exact hw e he hb.1
    · obtain ⟨e, he, hb⟩ := Array.any_eq_true'.1 h
      simp only [Bool.and_eq_true] at hb
      have hl := hw e he hb.1
      cases ho2 : ops[e.on]? with
      | none =>
        cases n with
        | zero => cases hb.2
        | succ n =>
          have := hb.2
          simp only [waitsT, ho2] at this
          cases this
      | some o2 => exact waitsT_listed hc n e.on i o2 ho2 (hc e.on o2 ho2 hl) hb.2
theorem indep_ok (hlex : ∀ i j oi oj, ops[i]? = some oi → ops[j]? = some oj → i < j → (∃ e ∈ oj.after, Region.binds .any e = true ∧ e.on = i) ∨ oi.apart ops oj = true) (hfeet : feetOk ops (outs.map fun u => (u.foot, u.ups.map (·.1))) = true)
    {i j : Nat} {oi oj : Oper} {ui uj : Out} (hi : ops[i]? = some oi) (hj : ops[j]? = some oj) (hui : outs[i]? = some ui) (huj : outs[j]? = some uj) (hij : i < j) (hno : ∀ e ∈ oj.after, Region.binds .any e = true → e.on ≠ i) (hnoT : waitsT ops 5 j i = false) : Indep ops oi oj ui uj := by
  have hjs : j < ops.size := (Array.getElem?_eq_some_iff.1 hj).1
  have ha : oi.apart ops oj = true := by
    rcases hlex i j oi oj hi hj hij with ⟨e, he, hb, ho⟩ | h
    · exact (hno e he hb ho).elim
    · exact h
  obtain ⟨a1, a2, a3⟩ := Oper.apart_spec ha
  unfold feetOk at hfeet
  have h1 := List.all_eq_true.1 hfeet j (List.mem_range.2 hjs)
  rw [hj, List.getElem?_map, huj] at h1
  simp only [Option.map_some] at h1
  have h2 := List.all_eq_true.1 h1 i (List.mem_range.2 hij)
  rw [List.getElem?_map, hui] at h2
  simp only [Option.map_some, Bool.or_eq_true, Bool.and_eq_true] at h2
  rcases h2 with ⟨h2, h3⟩ | h2
  · exact ⟨a1, a3, a2, apartB_ok h2, apartB_ok h3⟩
  · rw [hnoT] at h2; cases h2
end
end Go.JL
/- The abstract machine, part N13: regions whose order is open keep the contract. No program in sight. -/
set_option linter.unusedVariables false
set_option linter.unusedSimpArgs false
namespace Go.JL

section
variable {P : Program} {B : Base} {cx : Cx} {ops : Array Oper}

theorem any_ok (htt : ∀ t ty, cx.tt t = some ty → TyOk P t ty) (hG : CxOk P cx) (hn : cx.n = B.n) {T0 T' : Nat → LV} {H0 H' : Nat → Option VO} {outs : List Out} (hrun : Run cx ops ops.toList T0 H0 outs T' H')
    (hlex : Region.lexB .any ops = true) (hfeet : feetOk ops (outs.map fun u => (u.foot, u.ups.map (·.1))) = true) {Q : Exit → Act → World → Prop} (hQ : ∀ a w, R B T' H' a w → Q .normal a w) :
    ∀ (fuel : Nat) (listed : Array Bool) (a : Act) (w : World), listed.size = ops.size → todo (fun q => listed.getD q false) ops.size = fuel →
      (∀ i oi, ops[i]? = some oi → listed.getD i false = true → ∀ e ∈ oi.after, Region.binds .any e = true → listed.getD e.on false = true) →
      R B (foldS (fun q => listed.getD q false) (UT ops.toList outs) 0 T0) (foldS (fun q => listed.getD q false) (UH outs) 0 H0) a w → wpAny P .any ops Q fuel listed a w := by
  obtain ⟨hpair, hback⟩ := lex_pairs hlex
  have hlen : outs.length = ops.size := by rw [run_len hrun]; simp
  have hall : ∀ (listed : Array Bool) (a : Act) (w : World), (∀ q, q < ops.size → listed.getD q false = true) → R B (foldS (fun q => listed.getD q false) (UT ops.toList outs) 0 T0) (foldS (fun q => listed.getD q false) (UH outs) 0 H0) a w → Q .normal a w := by
    intro listed a w h hR
    obtain ⟨e1, e2⟩ := run_end hrun 0 (fun q => listed.getD q false) (fun q hq => by simpa using h q (by simpa using hq))
    rw [← e1, ← e2] at hR
    exact hQ a w hR
  have hready : ∀ listed : Array Bool, listed.size = ops.size → Region.ready .any ops listed = [] → ∀ q, q < ops.size → listed.getD q false = true := by
    intro listed hsz hr q
    induction q using Nat.strongRecOn with
    | _ q ih =>
      intro hq
      cases hs : listed.getD q false with
      | true => rfl
      | false =>
        exfalso
        have hlt : q < listed.size := by omega
        have : q ∈ Region.ready .any ops listed := by
          rw [mem_ready]
          refine ⟨?_, ops[q], Array.getElem?_eq_getElem hq, fun e he hb => ?_⟩
          · rw [Array.getD_eq_getD_getElem?, Array.getElem?_eq_getElem hlt] at hs ⊢
            simpa using hs
          · have := hback q _ (Array.getElem?_eq_getElem hq) e he hb
            exact ih e.on this (by omega)
        rw [hr] at this; cases this
  intro fuel
  induction fuel with
  | zero =>
    intro listed a w hsz hf hc hR
    have h := todo_zero ops.size hf
    refine ⟨?_, hall listed a w h hR⟩
    cases hr : Region.ready .any ops listed with
    | nil => rfl
    | cons q r =>
      exfalso
      have hm : q ∈ Region.ready .any ops listed := by rw [hr]; exact List.mem_cons_self
      obtain ⟨h0, o, ho, _⟩ := mem_ready.1 hm
      have hq : q < ops.size := (Array.getElem?_eq_some_iff.1 ho).1
      have h1 := h q hq
      have hlt : q < listed.size := by omega
      rw [Array.getD_eq_getD_getElem?, Array.getElem?_eq_getElem hlt] at h0 h1
      simp at h0 h1
      rw [h0] at h1; cases h1
  | succ fuel ih =>
    intro listed a w hsz hf hc hR
    refine ⟨fun hr => hall listed a w (hready listed hsz hr) hR, fun j hj => ?_⟩
    obtain ⟨hun, o, ho, hwait⟩ := mem_ready.1 hj
    have hjs : j < ops.size := (Array.getElem?_eq_some_iff.1 ho).1
    have hlt : j < listed.size := by omega
    have hSj : listed.getD j false = false := by
      rw [Array.getD_eq_getD_getElem?, Array.getElem?_eq_getElem hlt] at hun ⊢
      simpa using hun
    have hju : j < outs.length := by omega
    have hu : outs[j]? = some outs[j] := List.getElem?_eq_getElem hju
    generalize outs[j] = u at hu
    have hol : ops.toList[j]? = some o := by simpa using ho
    have hfact := run_at hrun 0 j o u hol hu
    rw [Nat.zero_add] at hfact
    -- whoever was done out of turn is independent of j
    have hind : ∀ q oq uq, ops[q]? = some oq → outs[q]? = some uq → listed.getD q false ≠ decide (q < j) → Indep ops oq o uq u := by
      intro q oq uq hq huq hne
      rcases Nat.lt_trichotomy q j with h | h | h
      · have hd : decide (q < j) = true := decide_eq_true h
        rw [hd] at hne
        refine indep_ok hpair hfeet hq ho huq hu h (fun e he hb heq => hne ?_) ?_
        · rw [← heq]; exact hwait e he hb
        · cases hT : waitsT ops 5 j q with
          | false => rfl
          | true => exact (hne (waitsT_listed (listed := fun q => listed.getD q false) hc 5 j q o ho hwait hT)).elim
      · subst h
        simp [hSj] at hne
      · have hd : decide (q < j) = false := decide_eq_false (by omega)
        rw [hd] at hne
        have hs : listed.getD q false = true := by
          cases hx : listed.getD q false with
          | true => rfl
          | false => exact (hne hx).elim
        refine (indep_ok hpair hfeet ho hq hu huq h (fun e he hb heq => ?_) ?_).symm
        · have := hc q oq hq hs e he hb
          rw [heq, hSj] at this; cases this
        · cases hT : waitsT ops 5 q j with
          | false => rfl
          | true =>
            have := waitsT_listed (listed := fun q => listed.getD q false) hc 5 q j oq hq (hc q oq hq hs) hT
            rw [hSj] at this; cases this
    have hT : ∀ t, t ∈ o.looksAt ops → foldS (fun q => listed.getD q false) (UT ops.toList outs) 0 T0 t = foldS (fun q => decide (q < j)) (UT ops.toList outs) 0 T0 t := by
      intro t ht
      refine foldS_agree _ 0 _ _ rfl fun q v hq hk => ?_
      rw [Nat.zero_add]
      obtain ⟨oq, uq, h1, h2, rfl⟩ := UT_get hq
      have h1 : ops[q]? = some oq := by simpa using h1
      by_cases hne : listed.getD q false = decide (q < j)
      · exact hne
      · exact ((hind q oq uq h1 h2 hne).tij t (dstU_keys hk) ht).elim
    have hH : ∀ k, k ∈ u.foot → foldS (fun q => listed.getD q false) (UH outs) 0 H0 k = foldS (fun q => decide (q < j)) (UH outs) 0 H0 k := by
      intro k hk0
      refine foldS_agree _ 0 _ _ rfl fun q v hq hk => ?_
      rw [Nat.zero_add]
      rw [UH_get] at hq
      cases huq : outs[q]? with
      | none => rw [huq] at hq; cases hq
      | some uq =>
        rw [huq] at hq
        cases hq
        rw [UH_keys] at hk
        have hqs : q < ops.size := by have := (List.getElem?_eq_some_iff.1 huq).1; omega
        by_cases hne : listed.getD q false = decide (q < j)
        · exact hne
        · exact ((hind q ops[q] uq (Array.getElem?_eq_getElem hqs) huq hne).hij k hk hk0).elim
    have hop : ∀ x ∈ o.op.operands.toList, evalO (foldS (fun q => listed.getD q false) (UT ops.toList outs) 0 T0) x = evalO (foldS (fun q => decide (q < j)) (UT ops.toList outs) 0 T0) x := by
      intro x hx
      cases x with
      | tmp t => exact hT t (List.mem_append_left _ (List.mem_filterMap.2 ⟨.tmp t, hx, rfl⟩))
      | _ => rfl
    have hw : wantsA ops o (foldS (fun q => listed.getD q false) (UT ops.toList outs) 0 T0) = wantsA ops o (foldS (fun q => decide (q < j)) (UT ops.toList outs) 0 T0) := by
      unfold wantsA
      cases hg : o.guard with
      | none => rfl
      | some gw =>
        obtain ⟨g, want⟩ := gw
        simp only
        cases hd : (ops[g]?).bind (·.dst) with
        | none => rfl
        | some dj =>
          simp only
          rw [hT dj (List.mem_append_right _ (by simp [hg, hd]))]
    have hclosed : ∀ i oi, ops[i]? = some oi → (listed.setIfInBounds j true).getD i false = true → ∀ e ∈ oi.after, Region.binds .any e = true → (listed.setIfInBounds j true).getD e.on false = true := by
      intro i oi hi hs e he hb
      by_cases hij : j = i
      · subst hij
        rw [ho] at hi; cases hi
        exact getD_set_true (hwait e he hb)
      · rw [getD_set_ne false hij] at hs
        exact getD_set_true (hc i oi hi hs e he hb)
    have hS : (fun q => (listed.setIfInBounds j true).getD q false) = upd (fun q => listed.getD q false) j true := by
      funext q
      by_cases e : q = j
      · subst e; rw [upd_same]; simp [hlt]
      · rw [upd_ne _ _ e, getD_set_ne false (Ne.symm e)]
    have hlater : ∀ q uq, j < q → outs[q]? = some uq → listed.getD q false = true → ∀ oq, ops[q]? = some oq → Indep ops oq o uq u := fun q uq h1 h2 h3 oq h4 =>
      hind q oq uq h4 h2 (by rw [h3]; simp; omega)
    have hnext : ∀ a' w', R B (applyU (foldS (fun q => listed.getD q false) (UT ops.toList outs) 0 T0) (dstU o.dst u.lv)) (updH (foldS (fun q => listed.getD q false) (UH outs) 0 H0) u.ups) a' w' → (u.ups.map (·.1)).all u.foot.contains = true →
        wpAny P .any ops Q fuel (listed.setIfInBounds j true) a' w' := by
      intro a' w' hR' hsub
      refine ih _ a' w' (by simpa using hsz) ?_ hclosed ?_
      · rw [hS]
        have := todo_one (S := fun q => listed.getD q false) (j := j) ops.size hjs hSj
        omega
      · rw [hS]
        have e1 := foldS_one (S := fun q => listed.getD q false) (n := j) (UT ops.toList outs) 0 T0 (dstU o.dst u.lv) (UT_at hol hu) (by simpa using hSj) (fun q v hq hv hs k hk hk' => by
          obtain ⟨oq, uq, h1, h2, rfl⟩ := UT_get hv
          have h1 : ops[q]? = some oq := by simpa using h1
          exact (hlater q uq hq h2 (by simpa using hs) oq h1).tt k (dstU_keys hk') (dstU_keys hk))
        have e2 := foldS_one (S := fun q => listed.getD q false) (n := j) (UH outs) 0 H0 (u.ups.map fun p => (p.1, some p.2)) (by rw [UH_get, hu]; rfl) (by simpa using hSj) (fun q v hq hv hs k hk hk' => by
          rw [UH_get] at hv
          cases huq : outs[q]? with
          | none => rw [huq] at hv; cases hv
          | some uq =>
            rw [huq] at hv
            cases hv
            rw [UH_keys] at hk hk'
            have hqs : q < ops.size := by have := (List.getElem?_eq_some_iff.1 huq).1; omega
            have hi := hlater q uq hq huq (by simpa using hs) ops[q] (Array.getElem?_eq_getElem hqs)
            have := List.all_eq_true.1 hsub k hk
            exact hi.hij k hk' (by simpa using this))
        rw [Nat.zero_add] at e1 e2
        rw [e1, e2, ← updH_eq]
        exact hR'
    obtain ⟨hdn, hfact⟩ := hfact
    unfold wpOp
    rw [ho]
    simp only
    rcases hfact with ⟨f1, f2, ⟨γ, K, r, f3⟩, f4, f5⟩ | ⟨f1, f2, f3⟩
    · rw [← hw] at f1
      have hwant : Region.wanted o (yielded ops a.tmps) = true := by
        unfold wantsA at f1
        unfold Region.wanted
        cases hg : o.guard with
        | none => rfl
        | some gw =>
          obtain ⟨g, want⟩ := gw
          rw [hg] at f1
          simp only at f1
          split at f1
          · cases f1
          · rename_i dj hdj
            split at f1
            · rename_i b hb
              have := guard_ok hR hdj hb
              simp only [Option.some.injEq, beq_iff_eq] at f1
              simp [this, f1]
            · cases f1
            · cases f1
      rw [if_pos hwant]
      obtain ⟨β, M, hs⟩ := hR
      have hsame : ∀ (γ : Type) (K : LV → List (Nat × VO) → Option γ), vop cx o (foldS (fun q => listed.getD q false) (UT ops.toList outs) 0 T0) (foldS (fun q => listed.getD q false) (UH outs) 0 H0) K = vop cx o (foldS (fun q => decide (q < j)) (UT ops.toList outs) 0 T0) (foldS (fun q => decide (q < j)) (UH outs) 0 H0) K := by
        intro γ K
        rw [vop_localT hop K]
        exact (vop_local htt (fun k hk => by rw [← f4] at hk; exact (hH k hk).symm) K).symm
      obtain ⟨lv, ups, g1, g2⟩ := vop_ok hs htt hG ((hsame γ K).trans f3)
      have heq : (lv, ups) = (u.lv, u.ups) := by
        have h1 := g1 (LV × List (Nat × VO)) (fun v us => some (v, us))
        have h2 := f2 (LV × List (Nat × VO)) (fun v us => some (v, us))
        have h3 := hsame (LV × List (Nat × VO)) (fun v us => some (v, us))
        have : some (lv, ups) = some (u.lv, u.ups) := h1.symm.trans (h3.trans h2)
        injection this
      cases heq
      refine .inl (g2 _ Q fun z w' hz => hnext _ w' (hz.putU fun d e => by rw [← hn]; exact hdn d e) ?_)
      exact List.all_eq_true.2 fun k hk => by simpa using f5 k hk
    · rw [← hw] at f1
      have hwant : ¬ Region.wanted o (yielded ops a.tmps) = true := by
        unfold wantsA at f1
        unfold Region.wanted
        cases hg : o.guard with
        | none => rw [hg] at f1; cases f1
        | some gw =>
          obtain ⟨g, want⟩ := gw
          rw [hg] at f1
          simp only at f1
          split at f1
          · cases f1
          · rename_i dj hdj
            split at f1
            · rename_i b hb
              have := guard_ok hR hdj hb
              simp only [Option.some.injEq, beq_eq_false_iff_ne] at f1
              simp [this, f1]
            · rename_i hb
              simp [guard_und hR hdj hb]
            · cases f1
      rw [if_neg hwant]
      obtain ⟨β, M, hs⟩ := hR
      have hz : RV B (foldS (fun q => listed.getD q false) (UT ops.toList outs) 0 T0) (foldS (fun q => listed.getD q false) (UH outs) 0 H0) a w undef und := ⟨β, M, hs, rfl⟩
      refine hnext _ w ?_ (by rw [f3]; rfl)
      rw [f2, f3]
      exact hz.putU fun d e => by rw [← hn]; exact hdn d e
end
end Go.JL
/- The abstract machine, part N14: a function keeps its contract. No program in sight. -/
set_option linter.unusedVariables false
set_option linter.unusedSimpArgs false
namespace Go.JL

section
variable {P : Program} {B : Base} {cx : Cx}
theorem draw_ok (hm : P.follows .mixedOrders = true) (htt : ∀ t ty, cx.tt t = some ty → TyOk P t ty) (hG : CxOk P cx) (hn : cx.n = B.n) : DrawOk P B cx := by
  intro α r id ops T H a w K Q hR h hk
  cases hl : Region.lexB .any ops with
  | false => rw [hl] at h; cases h
  | true =>
    rw [hl] at h
    simp only [cond_true] at h
    refine trace_ok htt hG hn ops.toList T H [] a w _ hR h fun outs T' H' hrun hk' => ?_
    simp only [List.append_nil, List.reverse_reverse, Bool.cond_eq_ite] at hk'
    split at hk'
    · rename_i hf
      refine wp_region_any hm ?_
      obtain ⟨β, M, hs⟩ := hR
      have hS : ∀ q, (Array.replicate ops.size false).getD q false = false := by
        intro q
        rw [Array.getD_eq_getD_getElem?, Array.getElem?_replicate]
        split <;> rfl
      have hfun : (fun q => (Array.replicate ops.size false).getD q false) = fun _ => false := funext hS
      refine any_ok htt hG hn hrun hl hf (fun a w h => hk _ _ _ _ h hk') ops.size _ a _ (by simp) (by rw [hfun]; exact todo_false _) (fun i oi _ hs => by rw [hS] at hs; cases hs) ?_
      rw [hfun, foldS_none, foldS_none]
      exact ⟨β, M, hs.drew⟩
    · cases hk'
theorem fn_ok {an : Ann} {k : Nat} {f : Nat} {fn : Func} {ps : List PK} {rs : List TC} (hm : P.follows .mixedOrders = true) (htt : ∀ t ty, cx.tt t = some ty → TyOk P t ty) (hG : CxOk P cx)
    (hf : P.funcs[f]? = some fn) (hname : (fn.name == "runtime.NumGoroutine") = false) (hn : cx.n = fn.ntmps) (hps : (ps.all PK.small && Nat.ble ps.length fn.ntmps) = true) :
    FnOk P f ⟨ps, rs, vfun cx an k fn ps rs⟩ := vfun_ok htt hG (fun B h => draw_ok hm htt hG h) hf hname hn hps
end
end Go.JL
/- The abstract machine, part N15: a function that gives back a pointer to a new object. No program in sight. -/
set_option linter.unusedVariables false
set_option linter.unusedSimpArgs false
namespace Go.JL

def voutN (cx : Cx) (fn : Func) (c : TC) (T : Nat → LV) (H : Nat → Option VO) : Option (El c) :=
  match resLV cx T H fn.results.toList with
  | some [.c (.ptr k v 0)] => match H k with
    | some ⟨v', .cells l, false⟩ => bif v == v' then buildAll H c l else none
    | _ => none
  | _ => none
def vendN (cx : Cx) (fn : Func) (c : TC) (e : Exit) (T : Nat → LV) (H : Nat → Option VO) : Option (El c) :=
  match e with
  | .normal => voutN cx fn c T H
  | .ret => voutN cx fn c T H
  | _ => none
def vfunN (cx : Cx) (an : Ann) (k : Nat) (fn : Func) (ps : List PK) (c : TC) (x : Args ps) : Option (El c) :=
  match fn.body with
  | some b => vrun cx an k b 0 (tbl (initT ps 0 x)) (tblH (initH ps 0 x)) (vendN cx fn c)
  | none => none

section
variable {P : Program}
theorem new_ok {cx : Cx} {an : Ann} {k : Nat} {f : Nat} {fn : Func} {ps : List PK} {rc : TC} (hm : P.follows .mixedOrders = true) (htt : ∀ t ty, cx.tt t = some ty → TyOk P t ty) (hG : CxOk P cx)
    (hf : P.funcs[f]? = some fn) (hname : (fn.name == "runtime.NumGoroutine") = false) (hn : cx.n = fn.ntmps) (hps : (ps.all PK.small && Nat.ble ps.length fn.ntmps) = true) :
    NewOk P f ⟨ps, rc, vfunN cx an k fn ps rc⟩ := by
  intro x r hF w M vs hmem hin
  have hF : vfunN cx an k fn ps rc x = some r := hF
  have hin : ArgsIn M w ps x vs [] := hin
  have hnd : ([] : List Nat).Nodup := List.nodup_nil
  simp only [Bool.and_eq_true] at hps
  obtain ⟨hsm, hle⟩ := hps
  have hle : ps.length ≤ fn.ntmps := Nat.le_of_ble_eq_true hle
  unfold vfunN at hF
  split at hF
  · rename_i c hb
    obtain ⟨hent, hlen, hkeys⟩ := ent_init ps 0 x vs [] hin
    have hknd : ((initH ps 0 x).map (·.1)).Nodup := by rw [hkeys]; exact keysOf_nodup ps 0 hsm
    let B : Base := ⟨w, M, [], fn.ntmps, fun k b hk => by cases hk⟩
    let a0 : Act := { tmps := vs.toArray ++ Array.replicate (fn.ntmps - vs.toArray.size) undef, defers := [] }
    have hz : ∀ p ∈ (keysOf ps 0).zip ([] : List Nat), (∃ n, plc (initH ps 0 x) [] p.1 = some (p.2, n)) ∧ ∃ vo, tblH (initH ps 0 x) p.1 = some vo := by
      intro p hp
      simp at hp
    have hs0 : Sim B (plc (initH ps 0 x) []) M (tbl (initT ps 0 x)) (tblH (initH ps 0 x)) a0 w := by
      refine ⟨?_, rfl, fun i => ?_, fun k vo hk => ?_, ?_, hmem, ?_, ?_, Mem.le.refl _, fun _ _ h => .inl h, Ext.refl _ _⟩
      · show (vs.toArray ++ Array.replicate (fn.ntmps - vs.toArray.size) undef).size = fn.ntmps
        simp; omega
      · have := init_tm (β := plc (initH ps 0 x) []) (H := tblH (initH ps 0 x)) ps 0 x vs [] hin hz i
        rw [Nat.zero_add] at this
        have e : a0.tmps.getD i undef = vs.getD i undef := by
          show (vs.toArray ++ Array.replicate (fn.ntmps - vs.toArray.size) undef).getD i undef = _
          rw [Array.getD_eq_getD_getElem?, List.getD_eq_getElem?_getD]
          rcases Nat.lt_or_ge i vs.length with hi | hi
          · rw [Array.getElem?_append_left (by simpa using hi)]
            simp
          · rw [Array.getElem?_append_right (by simpa using hi), List.getElem?_eq_none hi]
            rw [Array.getElem?_replicate]
            split <;> rfl
        rw [e]; exact this
      · obtain ⟨c', x', b, rfl, g2, ⟨cs, e, q1, q2, q3, q4⟩, g4⟩ := ent_get hent hknd k vo hk
        simp at g4
      · intro k k' vo vo' b n b' n' hk hk' h1 h2 hne e
        obtain ⟨_, _, b1, _, g2, _, g4⟩ := ent_get hent hknd k vo hk
        simp at g4
      · intro k vo b n hk hb'
        obtain ⟨_, _, b1, _, g2, _, g4⟩ := ent_get hent hknd k vo hk
        simp at g4
      · intro k b vo hio hk
        cases hio
    intro o a next Q hnext
    rw [run_enter hf hname hb, Oper.upon_enter]
    refine Calls.mono (R := fun e w' => ∃ v, e = .returned v ∧ ∃ M' b, M.le M' ∧ (∀ a v, M' a = some v → w'.cell? a = some v) ∧ (∀ a v, M' a = some v → M a = some v ∨ w.heap.size ≤ a.block) ∧ v = .pointer (some (adr b 0)) ∧ BlockR M' w' rc r b ∧ w.heap.size ≤ b ∧ ExtB [] w w') (calls_of_wp hf hb ?_) (fun e w' he => ?_)
    · refine vrun_ok htt hG (B := B) hn (draw_ok hm htt hG hn) an k c 0 _ _ a0 w _ _ ⟨_, _, hs0⟩ hF fun e T' H' a' w' hR hv => ?_
      have main : ∀ T' H' a' w', R B T' H' a' w' → voutN cx fn rc T' H' = some r → a'.defers = [] ∧ ∃ v, (results fn a'.tmps).run P w' = .ok v w' ∧ ∃ v', Ending.returned v = .returned v' ∧ ∃ M' b, M.le M' ∧ (∀ a v, M' a = some v → w'.cell? a = some v) ∧ (∀ a v, M' a = some v → M a = some v ∨ w.heap.size ≤ a.block) ∧ v' = .pointer (some (adr b 0)) ∧ BlockR M' w' rc r b ∧ w.heap.size ≤ b ∧ ExtB [] w w' := by
        intro T' H' a' w' hR hv
        obtain ⟨β, M1, hs⟩ := hR
        unfold voutN at hv
        split at hv
        · rename_i kk ver hlvs
          split at hv
          · rename_i v' l hk
            simp only [Bool.cond_eq_ite, beq_iff_eq] at hv
            split at hv
            · rename_i hvv
              subst hvv
              obtain ⟨M', m1, m2, m3⟩ := hs.freezes (List.range 1000000)
              have hc : ∀ k, k < 1000000 → Cov β H' M' w' k := fun k hk => m3 k (List.mem_range.2 hk) hk
              have hsame : ∀ k ver l fz, H' k = some ⟨ver, .cells l, fz⟩ → updH H' (freeze H' (List.range 1000000)) k = some ⟨ver, .cells l, fz⟩ := by
                intro k ver l fz hk
                rw [updH_not]
                · exact hk
                · intro o hm
                  obtain ⟨_, v, c, l', fz', h1, _⟩ := freeze_mem _ k o hm
                  rw [hk] at h1; cases h1
              have hnone : ∀ k ver l b n, H' k = some ⟨ver, .cells l, false⟩ → β k = some (b, n) → ∀ x : Addr, x.block = b → M' x = none := by
                intro k ver l b n hk hb x hx
                obtain ⟨_, _, _, _, h4⟩ := (m1.hp k _ (hsame k ver l false hk)).block hb
                exact h4 rfl x hx
              obtain ⟨vals, v2, v1⟩ := resLV_ok hs htt fn.results.toList _ hlvs
              obtain ⟨b', g1, g2, g3⟩ := cell_block hs m2 hnone hk hv (fun k _ hk => hc k hk)
              match vals, v2 with
              | [], h => exact h.elim
              | [u], h =>
                obtain ⟨⟨_, ad, rfl, hu⟩, _⟩ := h
                obtain ⟨b, n, e1, e2⟩ := hu l false hk
                rw [g1] at e1; cases e1
                subst e2
                refine ⟨hs.defs, .pointer (some (adr b' 0)), ?_, _, rfl, M', b', hs.le.trans m2, m1.mem, m1.new, rfl, g3, ?_, ?_⟩
                · unfold results
                  rw [Sem.run_bind, Array.mapM_eq_mapM_toList, Sem.run_map, v1 _ (fun t => rfl) (fun b t => rfl)]
                  simp only [Result.andThen_ok, Sem.run_pure]
                  rfl
                · rcases hs.own kk _ b' _ hk g1 with h | h
                  · exact h
                  · cases h
                · exact ⟨hs.ext.os, hs.ext.tape, hs.ext.output, hs.ext.size, fun b hb1 hb2 => hs.ext.block b hb1 fun k hk => by cases hk⟩
              | _ :: _ :: _, h => exact h.2.elim
            · cases hv
          · cases hv
        · cases hv
      unfold vendN at hv
      split at hv
      · exact main _ _ _ _ hR hv
      · exact main _ _ _ _ hR hv
      · cases hv
    · obtain ⟨v, rfl, h⟩ := he
      exact hnext v w' h
  · cases hF
end
end Go.JL
/- The abstract machine, part P1: a function in pieces, cut at its loops. No program in sight. -/
set_option linter.unusedVariables false
namespace Go.JL

def sub : Code → List Nat → Code
  | c, [] => c
  | .seq a b, p :: r => bif p == 0 then sub a r else sub b r
  | .cond _ x y, p :: r => bif p == 0 then sub x r else sub y r
  | .block _ c, _ :: r => sub c r
  | .loop c, _ :: r => sub c r
  | c, _ => c
def idAt : Code → List Nat → Nat → Nat
  | _, [], i => i
  | .seq a b, p :: r, i => bif p == 0 then idAt a r i else idAt b r i
  | .cond _ x y, p :: r, i => bif p == 0 then idAt x r i else idAt y r i
  | .block id c, _ :: r, _ => idAt c r id
  | .loop c, _ :: r, i => idAt c r i
  | _, _, i => i
abbrev Kont (α : Type) := Exit → (Nat → LV) → (Nat → Option VO) → Option α
abbrev Jump (α : Type) := (Nat → LV) → (Nat → Option VO) → Option α

section
variable {α : Type}
/-- What is to do behind the piece of code at a place. 'A': how the loops around it go on, the outermost first. -/
def kAt (cx : Cx) (an : Ann) (k : Nat) : Code → List Nat → Nat → List (Jump α) → Kont α → Kont α
  | _, [], _, _, K => K
  | .seq a b, p :: r, i, A, K => bif p == 0 then kAt cx an k a r i A (fun e T H => match e with
      | .normal => (match an.seqs (headId b) with
        | some c => vrun cx an k b i (cutT c T H) (cutH c H) K
        | none => vrun cx an k b i T H K)
      | e => K e T H) else kAt cx an k b r i A K
  | .cond _ x y, p :: r, i, A, K => bif p == 0 then kAt cx an k x r i A K else kAt cx an k y r i A K
  | .block id c, _ :: r, _, A, K => kAt cx an k c r id A (fun e T H => match e with
      | .exit j => bif j == id then K .normal T H else K (.exit j) T H
      | e => K e T H)
  | .loop c, _ :: r, i, a :: A, K => kAt cx an k c r i A (fun e T H => match e with
      | .normal => (match an.loops i with
        | some s => a (cutT s T H) (cutH s H)
        | none => none)
      | e => K e T H)
  | _, _, _, _, K => K
def bodyOf (fn : Func) : Code := match fn.body with
  | some c => c
  | none => .skip
/-- One round of the loop at a place. -/
def rawBody (cx : Cx) (an : Ann) (k : Nat) (b : Code) (p : List Nat) (A : List (Jump α)) (K : Kont α) (again : Jump α) : Jump α := fun T H =>
  vrun cx an k (sub b (p ++ [0])) (idAt b p 0) T H (kAt cx an k b (p ++ [0]) 0 (A ++ [again]) K)
def rawLoop (cx : Cx) (an : Ann) (k : Nat) (b : Code) (p : List Nat) (A : List (Jump α)) (K : Kont α) (n : Nat) : Jump α :=
  Nat.rec (motive := fun _ => Jump α) (fun _ _ => none) (fun _ again T H => rawBody cx an k b p A K again T H) n
/-- The second half of a sequence at a place. -/
def rawSeq (cx : Cx) (an : Ann) (k : Nat) (b : Code) (p : List Nat) (A : List (Jump α)) (K : Kont α) : Jump α := fun T H =>
  vrun cx an k (sub b p) (idAt b p 0) T H (kAt cx an k b p 0 A K)
/-- A loop over plain data. -/
def loopI {V : Type} (b : (V → Option α) → V → Option α) (n : Nat) : V → Option α :=
  Nat.rec (motive := fun _ => V → Option α) (fun _ => none) (fun _ again => b again) n
theorem loopI_zero {V : Type} (b : (V → Option α) → V → Option α) (v : V) : loopI b 0 v = none := rfl
theorem loopI_succ {V : Type} (b : (V → Option α) → V → Option α) (n : Nat) (v : V) : loopI b (n + 1) v = b (loopI b n) v := rfl
theorem rawLoop_eq {V : Type} {cx : Cx} {an : Ann} {k : Nat} {b : Code} {p : List Nat} {A : List (Jump α)} {K : Kont α} {bI : (V → Option α) → V → Option α} (sT : V → Nat → LV) (sH : V → Nat → Option VO)
    (h : ∀ (again : Jump α) (v : V), rawBody cx an k b p A K again (sT v) (sH v) = bI (fun v => again (sT v) (sH v)) v) : ∀ n v, rawLoop cx an k b p A K n (sT v) (sH v) = loopI bI n v := by
  intro n
  induction n with
  | zero => intro v; rfl
  | succ n ih =>
    intro v
    have e : (fun v => rawLoop cx an k b p A K n (sT v) (sH v)) = loopI bI n := funext ih
    rw [loopI_succ, ← e]
    exact h (rawLoop cx an k b p A K n) v
def chk (b : Bool) (x : Option α) : Option α := bif b then x else none
def rd {β : Type} (l : List β) (i : Int) (k : β → Option α) : Option α := bif decide (0 ≤ i) then Option.bind l[i.toNat]? k else none
end
abbrev w64 (x : Int) : Int := IntKind.wrap .i64 x
def look {β : Type} (l : List (Nat × β)) (i : Nat) : Option β := match l with
  | [] => none
  | (j, v) :: r => bif i == j then some v else look r i

/-- Less is promised. -/
theorem FnOk.le {P : Program} {f : Nat} {ps : List PK} {rs : List TC} {F F' : Args ps → Option (Tup rs × Ios ps)} (h : FnOk P f ⟨ps, rs, F⟩) (hle : ∀ x r, F' x = some r → F x = some r) : FnOk P f ⟨ps, rs, F'⟩ :=
  fun x r hx => h x r (hle x r hx)
theorem FnOk.of {P : Program} {f : Nat} {ps : List PK} {rs : List TC} {F F' : Args ps → Option (Tup rs × Ios ps)} (h : FnOk P f ⟨ps, rs, F⟩) (he : F = F') : FnOk P f ⟨ps, rs, F'⟩ := he ▸ h
theorem NewOk.of {P : Program} {f : Nat} {ps : List PK} {c : TC} {F F' : Args ps → Option (El c)} (h : NewOk P f ⟨ps, c, F⟩) (he : F = F') : NewOk P f ⟨ps, c, F'⟩ := he ▸ h
end Go.JL
/- The abstract machine, part P2: tables of contracts and types. No program in sight. -/
set_option linter.unusedVariables false
namespace Go.JL
def AllFn (P : Program) : List (Nat × Con) → Prop
  | [] => True
  | (f, C) :: r => FnOk P f C ∧ AllFn P r
def AllNew (P : Program) : List (Nat × NCon) → Prop
  | [] => True
  | (f, C) :: r => NewOk P f C ∧ AllNew P r
theorem AllFn.nil {P : Program} : AllFn P [] := trivial
theorem AllFn.cons {P : Program} {f : Nat} {C : Con} {r : List (Nat × Con)} (h : FnOk P f C) (hr : AllFn P r) : AllFn P ((f, C) :: r) := ⟨h, hr⟩
theorem AllNew.nil {P : Program} : AllNew P [] := trivial
theorem AllNew.cons {P : Program} {f : Nat} {C : NCon} {r : List (Nat × NCon)} (h : NewOk P f C) (hr : AllNew P r) : AllNew P ((f, C) :: r) := ⟨h, hr⟩
theorem look_fn {P : Program} : ∀ {l : List (Nat × Con)}, AllFn P l → ∀ f C, look l f = some C → FnOk P f C
  | [], _, f, C, h => by simp [look] at h
  | (g, D) :: r, ha, f, C, h => by
    simp only [look, Bool.cond_eq_ite, beq_iff_eq] at h
    split at h
    · rename_i e
      subst e; cases h
      exact ha.1
    · exact look_fn ha.2 f C h
theorem look_new {P : Program} : ∀ {l : List (Nat × NCon)}, AllNew P l → ∀ f C, look l f = some C → NewOk P f C
  | [], _, f, C, h => by simp [look] at h
  | (g, D) :: r, ha, f, C, h => by
    simp only [look, Bool.cond_eq_ite, beq_iff_eq] at h
    split at h
    · rename_i e
      subst e; cases h
      exact ha.1
    · exact look_new ha.2 f C h
theorem look_ty {P : Program} : ∀ {l : List (Nat × Ty)}, (l.all fun p => tyB P p.1 p.2) = true → ∀ t ty, look l t = some ty → TyOk P t ty
  | [], _, t, ty, h => by simp [look] at h
  | (u, x) :: r, ha, t, ty, h => by
    simp only [List.all_cons, Bool.and_eq_true] at ha
    simp only [look, Bool.cond_eq_ite, beq_iff_eq] at h
    split at h
    · rename_i e
      subst e; cases h
      exact ⟨ha.1⟩
    · exact look_ty ha.2 t ty h
end Go.JL
