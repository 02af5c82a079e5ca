/- Plain laws, part 5: schemas that are made. -/
import Derived.Test.YtnepcgaphhgbnaaGreatDoorLd
set_option linter.unusedVariables false
set_option maxRecDepth 100000
namespace Go.JL
noncomputable def nameB (p : Str) (i : Nat) : Bool := match C46 (p, (i : Int), ()) with
  | Option.some ((nm, _), _) => (C120 (nm, ())).isSome
  | Option.none => false
theorem names_a : ((List.range 12).all fun i => nameB [97] i) = true := by kernel_rfl
theorem names_r : ((List.range 12).all fun i => nameB [114] i) = true := by kernel_rfl
theorem name_ok {p : Str} (hp : ((List.range 12).all fun i => nameB p i) = true) {i : Int} (h0 : 0 ≤ i) (h1 : i < 12) : Ok (C46 (p, i, ())) (fun r => good r.1.1) := by
  have h := List.all_eq_true.1 hp i.toNat (List.mem_range.2 (by omega))
  unfold nameB at h
  rw [show ((i.toNat : Nat) : Int) = i by omega] at h
  split at h
  · rename_i nm a b he
    obtain ⟨r, hr⟩ := Option.isSome_iff_exists.1 h
    exact ⟨_, he, r, hr, trivial⟩
  · cases h
abbrev PostS (r : (Sch × Unit) × Src × Unit) : Prop := SInv r.1.1 ∧ SI r.2.1
structure G0 (M i : Int) (A : List (Str × Int)) (B : List (Str × List Int)) : Prop where
  la : (A.length : Int) ≤ M
  an : ∀ a ∈ A, good a.1 ∧ (a.2 = 1 ∨ a.2 = 2 ∨ a.2 = 3)
  lb : (B.length : Int) = i
  bn : ∀ b ∈ B, good b.1 ∧ b.2.length ≤ 20
  a1 : 1 ≤ i → 1 ≤ A.length
theorem feats_ok {A : List (Str × Int)} {B : List (Str × List Int)} {M i : Int} (hM : M ≤ 12) (hg : G0 M i A B) (hi : 1 ≤ i) (hi3 : i ≤ 3) (x31 : Int) (l32 : List (Str × Int)) (l33 : List (Str × List Int)) (l34 : List (Int × Int × Int)) (x35 : Int) {s : Src} (hs : SI s) :
    Ok (f14_Ll6 60 C43 C16 C46 C47 ((A.length : Int), 0, x31, l32, l33, l34, x35, A, B, [], s)) PostS := by
  have hla := hg.la
  refine Ok.loop (fun v => v.1 = (A.length : Int) ∧ 0 ≤ v.2.1 ∧ v.2.1 ≤ (A.length : Int) ∧ v.2.2.2.2.2.2.2.1 = A ∧ v.2.2.2.2.2.2.2.2.1 = B ∧ (List.length v.2.2.2.2.2.2.2.2.2.1 : Int) ≤ v.2.1 ∧ SI v.2.2.2.2.2.2.2.2.2.2) (fun v => A.length - v.2.1.toNat) ?_ 60 _ ⟨rfl, Int.le_refl _, Int.natCast_nonneg _, rfl, rfl, Int.le_refl _, hs⟩ (by simp only; omega)
  rintro again ⟨x29, x30, x31, l32, l33, l34, x35, l36, l37, l38, x39, x40⟩ ⟨h1, h2, h3, h4, h5, h6, h7⟩ ih
  simp only at h1 h2 h3 h4 h5 h6 h7
  subst h1; subst h4; subst h5
  unfold f14_bl6
  have inv : ∀ F : List (Int × Int × Int), F.length ≤ 20 → SInv (l36, l37, F, x35) := fun F hF => ⟨hg.a1 hi, by show l36.length ≤ 12; omega, hg.an, by have := hg.lb; show l37.length ≤ 12; omega, hg.bn, hF⟩
  refine Ok.bif (fun hc => ?_) (fun hc => ?_)
  · have hc := of_decide_eq_true hc
    rw [show w64 (x30 + 1) = x30 + 1 from w64_eq (by omega)]
    refine Ok.chk (decide_eq_true h2) (Ok.chk (decide_eq_true (by omega)) (Ok.get (by omega) fun y _ _ => ?_))
    have hroom : roomFor (l38.length + 1) 24 = true := room (by omega)
    have next : ∀ (z : Int) (F : List (Int × Int × Int)) (s' : Src), SI s' → (F.length : Int) ≤ x30 + 1 → Ok (again ((l36.length : Int), x30 + 1, x31, l32, l33, l34, z, l36, l37, F, s')) PostS := fun z F s' hs' hF =>
      ih _ ⟨rfl, by simp only; omega, by simp only; omega, rfl, rfl, hF, hs'⟩ (by simp only; omega)
    repeat' first
      | refine Ok.chk hroom ?_
      | refine Ok.bif (fun _ => ?_) (fun _ => ?_)
      | refine Ok.bind (n_ok (by assumption) (by omega) (by omega)) fun r hr => ?_; obtain ⟨_, hsr⟩ := hr
      | exact next _ _ _ (by assumption) (by simp; omega)
      | exact next _ _ _ (by assumption) (by omega)
  · refine Ok.bif (fun h => ?_) (fun _ => Ok.some ⟨inv _ (by omega), h7⟩)
    have h := of_decide_eq_true h
    exact Ok.chk (decide_eq_true (by omega)) (Ok.some ⟨inv _ (by rw [List.length_take]; omega), h7⟩)
theorem attrs_ok {M : Int} (hM1 : 1 ≤ M) (hM : M ≤ 10) (J0 : f14_Vl0 → Option ((Sch × Unit) × Src × Unit)) (n i z1 z3 : Int) (y1 : List (Str × Int)) (y2 : List (Str × List Int)) (y3 : List (Int × Int × Int)) (hi0 : 0 ≤ i) (hi3 : i ≤ 3) {B : List (Str × List Int)}
    (hJ : ∀ A' B' s', G0 M (i + 1) A' B' → SI s' → Ok (J0 (M, n, i + 1, z1, y1, y2, y3, z3, A', B', s')) PostS) :
    ∀ (k : Int) (A : List (Str × Int)) (L : List Int) (s : Src), G0 M i A B → SI s → 0 ≤ k → k ≤ 2 → L.length ≤ A.length → Ok (f14_Ll4 60 C43 C16 C46 C47 J0 (M, n, i, k, z1, y1, y2, y3, z3, A, B, L, s)) PostS := by
  intro k A L s hg hs hk0 hk2 hL
  have hla := hg.la
  refine Ok.loop (fun v => v.1 = M ∧ v.2.1 = n ∧ v.2.2.1 = i ∧ v.2.2.2.2.1 = z1 ∧ v.2.2.2.2.2.1 = y1 ∧ v.2.2.2.2.2.2.1 = y2 ∧ v.2.2.2.2.2.2.2.1 = y3 ∧ v.2.2.2.2.2.2.2.2.1 = z3 ∧ v.2.2.2.2.2.2.2.2.2.2.1 = B ∧ v.2.2.2.1 ≤ 2 ∧ 0 ≤ v.2.2.2.1 + (v.2.2.2.2.2.2.2.2.2.1.length : Int) ∧ G0 M i v.2.2.2.2.2.2.2.2.2.1 B ∧ List.length v.2.2.2.2.2.2.2.2.2.2.2.1 ≤ v.2.2.2.2.2.2.2.2.2.1.length ∧ SI v.2.2.2.2.2.2.2.2.2.2.2.2) (fun v => 20 - v.2.2.2.2.2.2.2.2.2.1.length) ?_ 60 _
    ⟨rfl, rfl, rfl, rfl, rfl, rfl, rfl, rfl, rfl, hk2, by simp only; omega, hg, hL, hs⟩ (by simp only; omega)
  rintro again ⟨x43, x44, x45, x46, x47, l48, l49, l50, x51, l52, l53, l54, x55, x56⟩ ⟨h1, h2, h3, h4, h5, h6, h7, h8, h9, h10, h11, h12, h13, h14⟩ ih
  simp only at h1 h2 h3 h4 h5 h6 h7 h8 h9 h10 h11 h12 h13 h14
  subst h1; subst h2; subst h3; subst h4; subst h5; subst h6; subst h7; subst h8; subst h9
  have hla2 := h12.la
  have hlb := h12.lb
  unfold f14_bl4
  dsimp only
  rw [show w64 (x45 + 1) = x45 + 1 from w64_eq (by omega), show w64 (x46 - 1) = x46 - 1 from w64_eq (by omega)]
  have r8 : roomFor (l54.length + 1) 8 = true := room (by omega)
  have r24 : roomFor (l52.length + 1) 24 = true := room (by omega)
  have r40 : roomFor (l53.length + 1) 40 = true := room (by omega)
  have add : (l52.length : Int) < x43 → Ok (chk (roomFor (l54.length + 1) 8) <| Option.bind (C46 (([97] : List UInt8), (l52.length : Int), ())) fun r71 => Option.bind (C47 ((x55, x56), ([1, 2, 2, 3] : List Int), ())) fun r72 => chk (roomFor (l52.length + 1) 24) <|
      again (x43, x44, x45, x46 - 1, x47, l48, l49, l50, x51, (l52 ++ ([(r71.1.1, r72.1.1)] : List (Str × Int))), l53, (l54 ++ ([(l52.length : Int)] : List Int)), r72.2.1.1, r72.2.1.2)) PostS := by
    intro hlt
    refine Ok.chk r8 (Ok.bind (name_ok names_a (Int.natCast_nonneg _) (by omega)) fun r1 hr1 => Ok.bind (pick_ok h14 (by simp) (by simp)) fun r2 hr2 => Ok.chk r24 (ih _ ⟨rfl, rfl, rfl, rfl, rfl, rfl, rfl, rfl, rfl, ?_, ?_, ⟨?_, ?_, hlb, h12.bn, fun _ => ?_⟩, ?_, hr2.2⟩ ?_))
    · simp only; omega
    · simp; omega
    · simp; omega
    · intro a ha
      rcases List.mem_append.1 ha with ha | ha
      · exact h12.an a ha
      · rw [List.mem_singleton] at ha; subst ha
        refine ⟨hr1, ?_⟩
        have := hr2.1
        simp at this
        simp only
        omega
    · simp
    · simp; omega
    · simp; omega
  have fin : ∀ Q : List Int, Q.length ≤ 20 → 1 ≤ l52.length → Ok (Option.bind (C46 (([114] : List UInt8), x45, ())) fun r73 => chk (roomFor (l53.length + 1) 40) <| J0 (x43, x44, x45 + 1, x47, l48, l49, l50, x51, l52, (l53 ++ ([(r73.1.1, Q)] : List (Str × List Int))), x55, x56)) PostS := by
    intro Q hQ h1
    refine Ok.bind (name_ok names_r hi0 (by omega)) fun r1 hr1 => Ok.chk r40 (hJ _ _ _ ⟨h12.la, h12.an, ?_, ?_, fun _ => h1⟩ h14)
    · simp; omega
    · intro b hb
      rcases List.mem_append.1 hb with hb | hb
      · exact h12.bn b hb
      · rw [List.mem_singleton] at hb; subst hb; exact ⟨hr1, hQ⟩
  have both : 1 ≤ l52.length → Ok (bif ((l54.length : Int) == 0) then (Option.bind (C46 (([114] : List UInt8), x45, ())) fun r73 => chk (roomFor (l53.length + 1) 40) <| J0 (x43, x44, x45 + 1, x47, l48, l49, l50, x51, l52, (l53 ++ ([(r73.1.1, ([0] : List Int))] : List (Str × List Int))), x55, x56))
      else (Option.bind (C46 (([114] : List UInt8), x45, ())) fun r73 => chk (roomFor (l53.length + 1) 40) <| J0 (x43, x44, x45 + 1, x47, l48, l49, l50, x51, l52, (l53 ++ ([(r73.1.1, l54)] : List (Str × List Int))), x55, x56))) PostS :=
    fun h1 => Ok.bif (fun _ => fin [0] (by simp) h1) (fun _ => fin l54 (by omega) h1)
  refine Ok.bif (fun hk => Ok.bif (fun hlt => add (of_decide_eq_true hlt)) (fun hlt => both (by have := of_decide_eq_false hlt; omega))) (fun hk => Ok.bif (fun hl0 => Ok.bif (fun hlt => add (of_decide_eq_true hlt)) (fun hlt => both (by have := of_decide_eq_false hlt; omega))) (fun hl0 => both ?_))
  have : ¬ (l54.length : Int) = 0 := by simpa using hl0
  omega
theorem olds_ok {M : Int} (hM1 : 1 ≤ M) (hM : M ≤ 10) (J0 : f14_Vl0 → Option ((Sch × Unit) × Src × Unit)) (n i z1 z3 : Int) (y1 : List (Str × Int)) (y2 : List (Str × List Int)) (y3 : List (Int × Int × Int)) (hi0 : 0 ≤ i) (hi3 : i ≤ 3) {A : List (Str × Int)} {B : List (Str × List Int)}
    (hJ : ∀ A' B' s', G0 M (i + 1) A' B' → SI s' → Ok (J0 (M, n, i + 1, z1, y1, y2, y3, z3, A', B', s')) PostS) (hg : G0 M i A B) {s : Src} (hs : SI s) :
    Ok (f14_Ll2 60 C43 C16 C46 C47 J0 (M, n, i, (A.length : Int), 0, z1, y1, y2, y3, z3, A, B, [], s)) PostS := by
  have hla := hg.la
  refine Ok.loop (fun v => v.1 = M ∧ v.2.1 = n ∧ v.2.2.1 = i ∧ v.2.2.2.1 = (A.length : Int) ∧ 0 ≤ v.2.2.2.2.1 ∧ v.2.2.2.2.1 ≤ (A.length : Int) ∧ (v.2.2.2.2.2.1, v.2.2.2.2.2.2.1, v.2.2.2.2.2.2.2.1, v.2.2.2.2.2.2.2.2.1, v.2.2.2.2.2.2.2.2.2.1, v.2.2.2.2.2.2.2.2.2.2.1, v.2.2.2.2.2.2.2.2.2.2.2.1) = (z1, y1, y2, y3, z3, A, B) ∧ (List.length v.2.2.2.2.2.2.2.2.2.2.2.2.1 : Int) ≤ v.2.2.2.2.1 ∧ SI v.2.2.2.2.2.2.2.2.2.2.2.2.2) (fun v => A.length - v.2.2.2.2.1.toNat) ?_ 60 _
    ⟨rfl, rfl, rfl, rfl, Int.le_refl _, Int.natCast_nonneg _, rfl, Int.le_refl _, hs⟩ (by simp only; omega)
  rintro again ⟨x14, x15, x16, x17, x18, x19, l20, l21, l22, x23, l24, l25, l26, x27, x28⟩ ⟨h1, h2, h3, h4, h5, h6, h7, h8, h9⟩ ih
  simp only [Prod.mk.injEq] at h1 h2 h3 h4 h5 h6 h7 h8 h9
  obtain ⟨e1, e2, e3, e4, e5, e6, e7⟩ := h7
  subst h1; subst h2; subst h3; subst e1; subst e2; subst e3; subst e4; subst e5; subst e6; subst e7; subst h4
  unfold f14_bl2
  refine Ok.bif (fun hc => ?_) (fun hc => ?_)
  · have hc := of_decide_eq_true hc
    rw [show w64 (x18 + 1) = x18 + 1 from w64_eq (by omega)]
    refine Ok.bind (n_ok h9 (n := 3) (by omega) (by omega)) fun r hr => Ok.bif (fun _ => Ok.chk (room (by omega)) (ih _ ⟨rfl, rfl, rfl, rfl, ?_, ?_, rfl, ?_, hr.2⟩ ?_)) (fun _ => ih _ ⟨rfl, rfl, rfl, rfl, ?_, ?_, rfl, ?_, hr.2⟩ ?_)
    all_goals first
      | (simp only; omega)
      | (simp; omega)
  · refine Ok.bind (n_ok h9 (n := 3) (by omega) (by omega)) fun r hr => ?_
    exact attrs_ok hM1 hM J0 _ _ _ _ _ _ _ hi0 hi3 hJ r.1.1 _ _ _ hg hr.2 hr.1.1 (by omega) (by omega)
theorem schema_ok {s : Src} (hs : SI s) {M : Int} (hM1 : 1 ≤ M) (hM : M ≤ 10) : Ok (C14 (s, M, ())) PostS := by
  show Ok (f14_b C43 C16 C46 C47 (loopI (fun J0 => f14_bl0 C43 C16 C46 C47 (f14_Ll2 60 C43 C16 C46 C47 J0) (f14_Ll6 60 C43 C16 C46 C47)) 60) s M) _
  unfold f14_b
  refine Ok.bind (range_ok hs (by omega) (by omega) (by omega)) fun r hr => ?_
  obtain ⟨⟨q1, q2⟩, q3⟩ := hr
  refine Ok.loop (fun v => v.1 = M ∧ v.2.1 = r.1.1 ∧ 0 ≤ v.2.2.1 ∧ v.2.2.1 ≤ r.1.1 ∧ G0 M v.2.2.1 v.2.2.2.2.2.2.2.2.1 v.2.2.2.2.2.2.2.2.2.1 ∧ SI v.2.2.2.2.2.2.2.2.2.2) (fun v => 10 - v.2.2.1.toNat) ?_ 60 _
    ⟨rfl, rfl, Int.le_refl _, by simp only; omega, ⟨(by simp; omega), fun a ha => (by cases ha), rfl, fun b hb => (by cases hb), fun h => absurd (show (1 : Int) ≤ 0 from h) (by omega)⟩, q3⟩ (by simp only; omega)
  rintro again ⟨x2, x3, x4, x5, l6, l7, l8, x9, l10, l11, x12, x13⟩ ⟨h1, h2, h3, h4, h5, h6⟩ ih
  simp only at h1 h2 h3 h4 h5 h6
  subst h1; subst h2
  unfold f14_bl0
  refine Ok.bif (fun hc => ?_) (fun hc => ?_)
  · have hc := of_decide_eq_true hc
    exact olds_ok hM1 hM again _ _ _ _ _ _ _ h3 (by omega) (fun A' B' s'' hg' hs'' => ih _ ⟨rfl, rfl, by simp only; omega, by simp only; omega, hg', hs''⟩ (by simp only; omega)) h5 h6
  · have hc := of_decide_eq_false hc
    exact feats_ok (by omega) h5 (by omega) (by omega) _ _ _ _ _ h6
end Go.JL
