/- EffectMany: fail, mark, then. -/
import Derived.Test.YtfpfmibcnldepaaE23
set_option maxRecDepth 100000
set_option linter.unusedVariables false
set_option linter.unusedSimpArgs false
namespace Ef
open Go TE Go.Proofs
abbrev EntB := List Sc × Bool × Nat
/-- A row that one of these entries names. -/
def AtV (D : List MR) (V : List EntB) (x : MR) : Prop := ∃ e ∈ V, ∃ i, e.1 = kI i ∧ D[i]? = some x
theorem atV_nil {D : List MR} {x : MR} : ¬ AtV D [] x := by rintro ⟨e, he, _⟩; simp at he
theorem atV_cons {D : List MR} {V : List EntB} {e : EntB} {i : Nat} {y x : MR} (h1 : e.1 = kI i) (h2 : D[i]? = some y) : AtV D (e :: V) x ↔ x = y ∨ AtV D V x := by
  constructor
  · rintro ⟨e', he, j, h3, h4⟩
    rcases List.mem_cons.1 he with rfl | he
    · have : j = i := kI_inj (by rw [← h3, h1])
      subst this
      rw [h2] at h4; cases h4
      exact .inl rfl
    · exact .inr ⟨e', he, j, h3, h4⟩
  · rintro (rfl | ⟨e', he, j, h3, h4⟩)
    · exact ⟨e, by simp, i, h1, h2⟩
    · exact ⟨e', List.mem_cons_of_mem _ he, j, h3, h4⟩
theorem atV_all {D : List MR} {V : List EntB} {s : SetL} {cl : Nat} {X : List MR} (h : SetIs D s cl X) (h1 : ∀ e ∈ s, e ∈ V) (h2 : ∀ v ∈ V, v ∈ s) {x : MR} : AtV D V x ↔ x ∈ X := by
  constructor
  · rintro ⟨e, he, i, h3, h4⟩
    obtain ⟨j, y, h5, h6, h7⟩ := h.ent (h2 e he)
    have : i = j := kI_inj (by rw [← h3, h5])
    subst this
    rw [h4] at h6; cases h6
    exact h7
  · intro hx
    obtain ⟨e, i, h3, h4, h5⟩ := h.of hx
    exact ⟨e, h1 e h3, i, h4, h5⟩
theorem atV_sub {D : List MR} {V : List EntB} {s : SetL} {cl : Nat} {X : List MR} (h : SetIs D s cl X) (h2 : ∀ v ∈ V, v ∈ s) {x : MR} (hx : AtV D V x) : x ∈ X := by
  obtain ⟨e, he, i, h3, h4⟩ := hx
  obtain ⟨j, y, h5, h6, h7⟩ := h.ent (h2 e he)
  have : i = j := kI_inj (by rw [← h3, h5])
  subst this
  rw [h4] at h6; cases h6
  exact h7
theorem V_lt {V s : List EntB} {e : EntB} (hs : ∀ v ∈ V, v ∈ s) (hn : V.Nodup) (he : e ∈ s) (hne : e ∉ V) : V.length + 1 ≤ s.length := by
  have := nodup_sub_len (X := e :: V) (Y := s) (List.nodup_cons.2 ⟨hne, hn⟩) fun v hv => by
    rcases List.mem_cons.1 hv with rfl | hv
    · exact he
    · exact hs v hv
  simpa using this
theorem SetIs.le {D s cl X} (h : SetIs D s cl X) (hD : D.Nodup) : X.length ≤ D.length := nodup_sub_len (h.nodup hD) h.sub
theorem scI_kI {i : Nat} : scI (kI i) = (i : Int) := rfl

theorem fail_ok {N : Nat} (hN : maxRow < N) {D l long kn t tcl X f fcl Y} (h : GD D l long kn) (ht : SetIs D t tcl X) (hf : SetIs D f fcl Y) {V P Tm : List (List UInt8)} {Nd : List Node} {many both : Bool} {kcl : Nat}
    (hm : many = false → small Y = true) (hb : both = true → ∀ x ∈ X, x ∈ Y) {k0 : Bool → Bool → SetL → Nat → Option Unit}
    (hk : ∀ f' fcl' Y', SetIs D f' fcl' Y' → (∀ x, x ∈ Y' ↔ x ∈ Y ∨ x ∈ X) → k0 (many || !small Y') true f' fcl' = some ()) :
    effect_rows_fail N V P Tm Nd many l long kn kcl both t tcl f fcl k0 = some () := by
  have hm' : many = (many || !small Y) := by
    cases many
    · rw [hm rfl]; rfl
    · rfl
  unfold effect_rows_fail
  cases both with
  | true =>
    rw [if_pos rfl]
    have := hk f fcl Y hf fun x => ⟨.inl, fun h => h.elim id (hb rfl x)⟩
    rwa [← hm'] at this
  | false =>
    rw [if_neg (by simp)]
    refine range_ok (σ := Bool × SetL × Nat) ht.st ht.lt
      (fun n s seen => effect_rows_fail_l0 N V P Tm Nd l long kn kcl false t tcl tcl (fun (y23 : Bool) (y24 : SetL) (y25 : Nat) => k0 y23 true y24 y25) n s.1 s.2.1 s.2.2 seen tcl)
      (fun s => k0 s.1 true s.2.1 s.2.2)
      (fun _ s n18 rec => if tcl = tcl then (match findB n18.2.2 t with
  | some en19 => (effect_rows_put N (scI en19.1) V P Tm Nd s.1 l long kn kcl s.2.1 s.2.2 (fun (r20 : Bool) (r21 : SetL) (r22 : Nat) =>
  rec (r20, r21, r22)))
  | none => none) else none)
      (fun n s seen => rfl)
      (fun W s => ∃ Y', SetIs D s.2.1 s.2.2 Y' ∧ s.1 = (many || !small Y') ∧ ∀ x, x ∈ Y' ↔ x ∈ Y ∨ AtV D W x) ?_ ?_ N [] (many, f, fcl) ⟨Y, hf, hm', fun x => ⟨.inl, fun h => h.elim id fun h => absurd h atV_nil⟩⟩ (by simp) List.nodup_nil ?_
    · rintro _ W ⟨a, b, c⟩ e rec ⟨Y', h1, h2, h3⟩ hW hWn he hne hrec
      rw [if_pos rfl]
      rw [findB_mem ht.st he]
      obtain ⟨i, x, h4, h5, h6⟩ := ht.ent he
      simp only []
      rw [h4, scI_kI]
      obtain ⟨s', cl', h7, h8⟩ := put_eq (N := N) h h1 h5 (V := V) (P := P) (T := Tm) (Nd := Nd) (many := a) (kcl := kcl) (k0 := fun (r20 : Bool) (r21 : SetL) (r22 : Nat) => rec (r20, r21, r22))
      rw [h8]
      refine hrec _ ⟨ins Y' x, h7, ?_, fun y => ?_⟩
      · simp only [] at h2 ⊢
        rw [h2, many_ins]
      · rw [mem_ins, h3, atV_cons h4 h5]
        constructor
        · rintro ((h | h) | h)
          · exact .inl h
          · exact .inr (.inr h)
          · exact .inr (.inl h)
        · rintro (h | h | h)
          · exact .inl (.inl h)
          · exact .inr h
          · exact .inl (.inr h)
    · rintro W ⟨a, b, c⟩ h1 h2 hWn ⟨Y', h3, h4, h5⟩
      simp only [] at h4 ⊢
      rw [h4]
      refine hk b c Y' h3 fun x => ?_
      rw [h5, atV_all ht h1 h2]
    · refine Nat.lt_of_le_of_lt (unseen_le _ _) ?_
      have := ht.le h.nd
      have := ht.len
      have := h.bnd
      omega

theorem mark_ok {N : Nat} (hN : maxRow < N) {D l long kn t tcl X f fcl} (h : GD D l long kn) (ht : SetIs D t tcl X) (hx : X.length ≤ 65) (hD : D.length + 65 ≤ maxRow) {m : Mark} {V P Tm : List (List UInt8)} {Nd : List Node} {many both : Bool} {kcl : Nat}
    {k0 : Bool → KnL → Nat → Bool → List Next → List Int → SetL → Nat → Option Unit}
    (hk : ∀ D' kn' kcl' l' long' t' tcl' X', D <+: D' → D'.length ≤ D.length + 65 → GD D' l' long' kn' → SetIs D' t' tcl' X' → (∀ x, x ∈ X' ↔ ∃ y ∈ X, x = y ++ [m]) → k0 (many || !small X') kn' kcl' false l' long' t' tcl' = some ()) :
    effect_rows_mark N m.Port m.Event V P Tm Nd many l long kn kcl both t tcl f fcl k0 = some () := by
  unfold effect_rows_mark
  refine range_ok (σ := Bool × KnL × Nat × List Next × List Int × SetL × Nat) ht.st ht.lt
    (fun n s seen => effect_rows_mark_l0 N V P Tm Nd l long both t tcl f fcl m.Port m.Event tcl (fun (y73 : Bool) (y74 : List (List Sc × Int × Nat)) (y75 : Nat) (y76 : List Next) (y77 : List Int) (y78 : List (List Sc × Bool × Nat)) (y79 : Nat) =>
  k0 y73 y74 y75 false y76 y77 y78 y79) n s.1 s.2.1 s.2.2.1 s.2.2.2.1 s.2.2.2.2.1 s.2.2.2.2.2.1 s.2.2.2.2.2.2 seen tcl)
    (fun s => k0 s.1 s.2.1 s.2.2.1 false s.2.2.2.1 s.2.2.2.2.1 s.2.2.2.2.2.1 s.2.2.2.2.2.2)
    (fun _ s n59 rec => if tcl = tcl then (match findB n59.2.2 t with
  | some en60 => (effect_rows_more N (scI en60.1) m.Port m.Event V P Tm Nd s.1 s.2.2.2.1 s.2.2.2.2.1 s.2.1 s.2.2.1 (fun (r61 : Int) =>
  effect_rows_put N r61 V P Tm Nd s.1 s.2.2.2.1 s.2.2.2.2.1 s.2.1 s.2.2.1 s.2.2.2.2.2.1 s.2.2.2.2.2.2 (fun (r62 : Bool) (r63 : List (List Sc × Bool × Nat)) (r64 : Nat) =>
  rec (r62, s.2.1, s.2.2.1, s.2.2.2.1, s.2.2.2.2.1, r63, r64))) (fun (r65 : Int) (r66 : List (List Sc × Int × Nat)) (r67 : Nat) (r68 : List Next) (r69 : List Int) =>
  effect_rows_put N r65 V P Tm Nd s.1 r68 r69 r66 r67 s.2.2.2.2.2.1 s.2.2.2.2.2.2 (fun (r70 : Bool) (r71 : List (List Sc × Bool × Nat)) (r72 : Nat) =>
  rec (r70, r66, r67, r68, r69, r71, r72))))
  | none => none) else none)
    (fun n s seen => rfl)
    (fun W s => ∃ D' X', D <+: D' ∧ D'.length ≤ D.length + W.length ∧ GD D' s.2.2.2.1 s.2.2.2.2.1 s.2.1 ∧ SetIs D' s.2.2.2.2.2.1 s.2.2.2.2.2.2 X' ∧ s.1 = (many || !small X') ∧ ∀ x, x ∈ X' ↔ ∃ y, AtV D W y ∧ x = y ++ [m]) ?_ ?_ N []
    (many, kn, kcl, l, long, ([] : SetL), 0) ⟨D, [], List.prefix_refl _, by simp, h, SetIs.nil _ _, by simp [small], fun x => ⟨fun h => by simp at h, fun ⟨y, h, _⟩ => absurd h atV_nil⟩⟩ (by simp) List.nodup_nil ?_
  · rintro _ W ⟨a, b, c, d, g, i, j⟩ e rec ⟨D', X', h1, h2, h3, h4, h5, h6⟩ hW hWn he hne hrec
    have hlen := V_lt hW hWn he hne
    rw [ht.len] at hlen
    simp only [] at h3 h4 h5
    rw [if_pos rfl]
    rw [findB_mem ht.st he]
    obtain ⟨p, x, h7, h8, h9⟩ := ht.ent he
    simp only []
    rw [h7, scI_kI]
    have h8' : D'[p]? = some x := by
      obtain ⟨E, rfl⟩ := h1
      rw [List.getElem?_append_left (get_lt h8)]; exact h8
    have fin : ∀ D2 i', D' <+: D2 → D2.length ≤ D'.length + 1 → D2[i']? = some (x ++ [m]) → ∀ l2 long2 kn2 kcl2, GD D2 l2 long2 kn2 →
        effect_rows_put N ((i' : Nat) : Int) V P Tm Nd a l2 long2 kn2 kcl2 i j (fun (r70 : Bool) (r71 : List (List Sc × Bool × Nat)) (r72 : Nat) => rec (r70, kn2, kcl2, l2, long2, r71, r72)) = some () := by
      intro D2 i' hd hl hi l2 long2 kn2 kcl2 hg
      obtain ⟨s', cl', h10, h11⟩ := put_eq (N := N) hg (h4.mono hd) hi (V := V) (P := P) (T := Tm) (Nd := Nd) (many := a) (kcl := kcl2) (k0 := fun (r70 : Bool) (r71 : List (List Sc × Bool × Nat)) (r72 : Nat) => rec (r70, kn2, kcl2, l2, long2, r71, r72))
      rw [h11]
      refine hrec _ ⟨D2, ins X' (x ++ [m]), h1.trans hd, by simp; omega, hg, h10, ?_, fun y => ?_⟩
      · simp only []
        rw [h5, many_ins]
      · rw [mem_ins, h6]
        constructor
        · rintro (⟨z, hz, rfl⟩ | rfl)
          · exact ⟨z, (atV_cons h7 h8).2 (.inr hz), rfl⟩
          · exact ⟨x, (atV_cons h7 h8).2 (.inl rfl), rfl⟩
        · rintro ⟨z, hz, rfl⟩
          rcases (atV_cons h7 h8).1 hz with rfl | hz
          · exact .inr rfl
          · exact .inl ⟨z, hz, rfl⟩
    refine more_ok h3 h8' (by omega) (fun i' hi' => fin D' i' (List.prefix_refl _) (by omega) hi' d g b c h3) fun kn2 kcl2 l2 long2 hnot hg => fin _ D'.length (List.prefix_append _ _) (by simp) (by rw [List.getElem?_append_right (Nat.le_refl _)]; simp) l2 long2 kn2 kcl2 hg
  · rintro W ⟨a, b, c, d, g, i, j⟩ h1 h2 hWn ⟨D', X', h3, h4, h5, h6, h7, h8⟩
    simp only [] at h5 h6 h7 ⊢
    have hl := nodup_sub_len hWn h2
    rw [ht.len] at hl
    rw [h7]
    refine hk D' b c d g i j X' h3 (by omega) h5 h6 fun x => ?_
    rw [h8]
    constructor
    · rintro ⟨y, hy, rfl⟩; exact ⟨y, (atV_all ht h1 h2).1 hy, rfl⟩
    · rintro ⟨y, hy, rfl⟩; exact ⟨y, (atV_all ht h1 h2).2 hy, rfl⟩
  · refine Nat.lt_of_le_of_lt (unseen_le _ _) ?_
    have := ht.len
    simp only [maxRow] at hN
    omega
end Ef
