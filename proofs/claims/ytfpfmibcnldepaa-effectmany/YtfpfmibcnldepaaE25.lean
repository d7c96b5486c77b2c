/- EffectMany: then. -/
import Derived.Test.YtfpfmibcnldepaaE24
set_option maxRecDepth 100000
set_option linter.unusedVariables false
set_option linter.unusedSimpArgs false
namespace Ef
open Go TE Go.Proofs
theorem then_l4_ok {N : Nat} {ms : List Mark} {V P Tm : List (List UInt8)} {Nd : List Node} {many : Bool} {q1 : List Next} {q2 : List Int} {out : SetL} {ocl : Nat} {ah : SetL} {acl : Nat} {bh : SetL} {bcl : Nat} {w1 : Nat} {w2 : List Nat} {w3 w4 : Nat} {w5 : List Nat} {w6 : Nat}
    {kp0 : Int → KnL → Nat → List Next → List Int → Option Unit} (hms : ms.length < 2 ^ 40) :
    ∀ (n i p : Nat) (x : MR) (D : List MR) (l : List Next) (long : List Int) (kn : KnL) (kcl : Nat), GD D l long kn → D[p]? = some x → i ≤ ms.length → ms.length - i < n → D.length + (ms.length - i) ≤ maxRow →
    (∀ D' p' kn' kcl' l' long', D <+: D' → D'.length ≤ D.length + (ms.length - i) → GD D' l' long' kn' → D'[p']? = some (x ++ ms.drop i) → kp0 ((p' : Nat) : Int) kn' kcl' l' long' = some ()) →
    effect_rows_then_l4 N ((ms.length : Nat) : Int) V P Tm Nd many q1 q2 out ocl ah acl bh bcl ms w1 w2 w3 w4 w5 w6 kp0 n (p : Int) (i : Int) kn kcl l long = some ()
  | 0, _, _, _, _, _, _, _, _, _, _, _, h, _, _ => by omega
  | n + 1, i, p, x, D, l, long, kn, kcl, h, hp, hi, hn, hb, hk => by
    show effect_rows_then_l4_b N _ V P Tm Nd many q1 q2 out ocl ah acl bh bcl ms w1 w2 w3 w4 w5 w6 kp0 (effect_rows_then_l4 N _ V P Tm Nd many q1 q2 out ocl ah acl bh bcl ms w1 w2 w3 w4 w5 w6 kp0 n) (p : Int) (i : Int) kn kcl l long = some ()
    unfold effect_rows_then_l4_b
    by_cases hlt : i < ms.length
    · rw [if_pos (by simpa using hlt), if_pos ⟨by omega, by omega⟩]
      obtain ⟨m, hm, hd⟩ := drop_cons hlt
      rw [Int.toNat_natCast, hm]
      simp only []
      have hw : IntKind.wrap .i64 ((i : Int) + 1) = ((i + 1 : Nat) : Int) := by rw [wr _ (by omega) (by omega)]; omega
      rw [hw]
      refine more_ok h hp (by omega) (fun j hj => ?_) fun kn2 kcl2 l2 long2 hnot hg => ?_
      · refine then_l4_ok hms n (i + 1) j (x ++ [m]) D l long kn kcl h hj (by omega) (by omega) (by omega) fun D' p' kn' kcl' l' long' h1 h2 h3 h4 => hk D' p' kn' kcl' l' long' h1 (by omega) h3 ?_
        rw [hd]; simpa using h4
      · refine then_l4_ok hms n (i + 1) D.length (x ++ [m]) _ l2 long2 kn2 kcl2 hg (by rw [List.getElem?_append_right (Nat.le_refl _)]; simp) (by omega) (by omega) (by simp; omega) fun D' p' kn' kcl' l' long' h1 h2 h3 h4 => hk D' p' kn' kcl' l' long' ((List.prefix_append _ _).trans h1) (by simp at h2; omega) h3 ?_
        rw [hd]; simpa using h4
    · rw [if_neg (by simpa using hlt)]
      refine hk D p kn kcl l long (List.prefix_refl _) (by omega) h ?_
      rw [List.drop_eq_nil_of_le (by omega)]; simpa using hp

/-- What then leaves. -/
structure ThenP (D : List MR) (O A B : List MR) (many : Bool) (D' : List MR) (many' : Bool) (O' : List MR) : Prop where
  ext : D <+: D'
  len : D'.length ≤ D.length + 262144
  up : ∀ x ∈ O, x ∈ O'
  lo : ∀ x ∈ O', x ∈ O ∨ x ∈ pr A B
  all : many' = false → ∀ x ∈ pr A B, x ∈ O'
  mny : many' = (many || !small O')
  same : many = true → O' = O
  le : O'.length ≤ max O.length 65

theorem then_l2_ok {N : Nat} (hN : maxRow < N) {D l long kn ah acl A out ocl O} (h : GD D l long kn) (ha : SetIs D ah acl A) (ho : SetIs D out ocl O) {ms : List Mark} {V P Tm : List (List UInt8)} {Nd : List Node} {mc : Bool} {kcl : Nat} {q1 : List Next} {q2 : List Int} {bh : SetL} {bcl : Nat} {w1 : Nat} {w2 : List Nat} {w3 : Nat}
    (hA : mc = false → A.length ≤ 64 ∧ ms.length ≤ 64) (hm : mc = false → small O = true) (hb : mc = false → D.length + 4096 ≤ maxRow)
    {kp0 kp1 : Bool → KnL → Nat → SetL → Nat → List Next → List Int → Option Unit}
    (hk0 : ∀ D' many' kn' kcl' out' ocl' O' l' long', D <+: D' → D'.length ≤ D.length + (if mc = true then 0 else 4096) → GD D' l' long' kn' → SetIs D' out' ocl' O' → many' = (mc || !small O') → (mc = true → O' = O) → O'.length ≤ max O.length 65 →
      (∀ x, x ∈ O' ↔ x ∈ O ∨ ∃ a ∈ A, x = a ++ ms) → kp0 many' kn' kcl' out' ocl' l' long' = some ())
    (hk1 : ∀ D' kn' kcl' out' ocl' O' l' long', D <+: D' → D'.length ≤ D.length + (if mc = true then 0 else 4096) → GD D' l' long' kn' → SetIs D' out' ocl' O' → true = (mc || !small O') → (mc = true → O' = O) → O'.length ≤ max O.length 65 →
      (∀ x ∈ O, x ∈ O') → (∀ x ∈ O', x ∈ O ∨ ∃ a ∈ A, x = a ++ ms) → kp1 true kn' kcl' out' ocl' l' long' = some ()) :
    effect_rows_then_l2 N V P Tm Nd q1 q2 ah acl bh bcl ms w1 w2 w3 acl kp0 kp1 N mc kn kcl out ocl l long [] acl = some () := by
  have hm' : mc = (mc || !small O) := by
    cases mc
    · rw [hm rfl]; rfl
    · rfl
  refine range_ok (σ := Bool × KnL × Nat × SetL × Nat × List Next × List Int) ha.st ha.lt
    (fun n s seen => effect_rows_then_l2 N V P Tm Nd q1 q2 ah acl bh bcl ms w1 w2 w3 acl kp0 kp1 n s.1 s.2.1 s.2.2.1 s.2.2.2.1 s.2.2.2.2.1 s.2.2.2.2.2.1 s.2.2.2.2.2.2 seen acl)
    (fun s => kp0 s.1 s.2.1 s.2.2.1 s.2.2.2.1 s.2.2.2.2.1 s.2.2.2.2.2.1 s.2.2.2.2.2.2)
    (fun seen s n144 rec => if acl = acl then (match findB n144.2.2 ah with
  | some en145 => (if s.1 = true then
    (kp1 s.1 s.2.1 s.2.2.1 s.2.2.2.1 s.2.2.2.2.1 s.2.2.2.2.2.1 s.2.2.2.2.2.2)
  else
    (effect_rows_then_l4 N ((ms.length : Nat) : Int) V P Tm Nd s.1 q1 q2 s.2.2.2.1 s.2.2.2.2.1 ah acl bh bcl ms w1 w2 w3 acl (n144.2.2 :: seen) acl (fun (y146 : Int) (y147 : List (List Sc × Int × Nat)) (y148 : Nat) (y149 : List Next) (y150 : List Int) =>
  effect_rows_put N y146 V P Tm Nd s.1 y149 y150 y147 y148 s.2.2.2.1 s.2.2.2.2.1 (fun (r151 : Bool) (r152 : List (List Sc × Bool × Nat)) (r153 : Nat) =>
  rec (r151, y147, y148, r152, r153, y149, y150))) N (scI en145.1) 0 s.2.1 s.2.2.1 s.2.2.2.2.2.1 s.2.2.2.2.2.2))
  | none => none) else none)
    (fun n s seen => rfl)
    (fun W s => ∃ D' O', D <+: D' ∧ D'.length ≤ D.length + (if mc = true then 0 else W.length * 64) ∧ GD D' s.2.2.2.2.2.1 s.2.2.2.2.2.2 s.2.1 ∧ SetIs D' s.2.2.2.1 s.2.2.2.2.1 O' ∧ s.1 = (mc || !small O') ∧ (mc = true → O' = O) ∧ O'.length ≤ max O.length 65 ∧ ∀ x, x ∈ O' ↔ x ∈ O ∨ ∃ y, AtV D W y ∧ x = y ++ ms) ?_ ?_ N []
    (mc, kn, kcl, out, ocl, l, long) ⟨D, O, List.prefix_refl _, by simp, h, ho, hm', fun _ => rfl, Nat.le_max_left _ _, fun x => ⟨.inl, fun h => h.elim id fun ⟨y, h, _⟩ => absurd h atV_nil⟩⟩ (by simp) List.nodup_nil ?_
  · rintro seen W ⟨a, b, c, d, e', g, i⟩ e rec ⟨D', O', h1, h2, h3, h4, h5, h6, hle, h7⟩ hW hWn he hne hrec
    have hlen := V_lt hW hWn he hne
    rw [ha.len] at hlen
    simp only [] at h3 h4 h5
    rw [if_pos rfl, findB_mem ha.st he]
    obtain ⟨p, x, h8, h9, h10⟩ := ha.ent he
    simp only []
    cases a with
    | true =>
      rw [if_pos rfl]
      refine hk1 D' b c d e' O' g i h1 ?_ h3 h4 h5 h6 hle (fun x hx => (h7 x).2 (.inl hx)) fun x hx => ?_
      · cases mc with
        | true => simpa using h2
        | false =>
          have := (hA rfl).1
          simp only [Bool.false_eq_true, if_false] at h2 ⊢
          omega
      · rcases (h7 x).1 hx with h | ⟨y, hy, rfl⟩
        · exact .inl h
        · exact .inr ⟨y, atV_sub ha hW hy, rfl⟩
    | false =>
      rw [if_neg (by simp), h8, scI_kI]
      have hmc : mc = false := by cases mc; rfl; simp at h5
      subst hmc
      simp only [Bool.false_eq_true, if_false] at h2
      have hA2 := hA rfl
      have hb2 := hb rfl
      have h9' : D'[p]? = some x := by
        obtain ⟨E, rfl⟩ := h1
        rw [List.getElem?_append_left (get_lt h9)]; exact h9
      refine then_l4_ok (by omega) N 0 p x D' g i b c h3 h9' (by omega) (by simp only [maxRow] at hN; omega) (by omega) fun D2 p' kn2 kcl2 l2 long2 k1 k2 k3 k4 => ?_
      rw [List.drop_zero] at k4
      obtain ⟨s', cl', h11, h12⟩ := put_eq (N := N) k3 (h4.mono k1) k4 (V := V) (P := P) (T := Tm) (Nd := Nd) (many := false) (kcl := kcl2) (k0 := fun (r151 : Bool) (r152 : List (List Sc × Bool × Nat)) (r153 : Nat) => rec (r151, kn2, kcl2, r152, r153, l2, long2))
      rw [h12]
      refine hrec _ ⟨D2, ins O' (x ++ ms), h1.trans k1, ?_, k3, h11, ?_, fun h => (by cases h), ?_, fun y => ?_⟩
      · simp only [Bool.false_eq_true, if_false, List.length_cons]
        omega
      · have hmi := @many_ins false O' (x ++ ms)
        rw [← h5] at hmi
        exact hmi
      · have hso : small O' = true := by simpa using h5
        simp only [small, Bool.and_eq_true, decide_eq_true_eq] at hso
        have : (ins O' (x ++ ms)).length ≤ O'.length + 1 := by unfold ins; split <;> simp
        omega
      · rw [mem_ins, h7]
        constructor
        · rintro ((h | ⟨z, hz, rfl⟩) | rfl)
          · exact .inl h
          · exact .inr ⟨z, (atV_cons h8 h9).2 (.inr hz), rfl⟩
          · exact .inr ⟨x, (atV_cons h8 h9).2 (.inl rfl), rfl⟩
        · rintro (h | ⟨z, hz, rfl⟩)
          · exact .inl (.inl h)
          · rcases (atV_cons h8 h9).1 hz with rfl | hz
            · exact .inr rfl
            · exact .inl (.inr ⟨z, hz, rfl⟩)
  · rintro W ⟨a, b, c, d, e', g, i⟩ h1 h2 hWn ⟨D', O', h3, h4, h5, h6, h7, h8, hle, h9⟩
    simp only [] at h5 h6 h7 ⊢
    have hl := nodup_sub_len hWn h2
    rw [ha.len] at hl
    refine hk0 D' a b c d e' O' g i h3 ?_ h5 h6 h7 h8 hle fun x => ?_
    · cases mc with
      | true => simpa using h4
      | false =>
        have := (hA rfl).1
        simp only [Bool.false_eq_true, if_false] at h4 ⊢
        omega
    · rw [h9]
      constructor
      · rintro (h | ⟨y, hy, rfl⟩)
        · exact .inl h
        · exact .inr ⟨y, (atV_all ha h1 h2).1 hy, rfl⟩
      · rintro (h | ⟨y, hy, rfl⟩)
        · exact .inl h
        · exact .inr ⟨y, (atV_all ha h1 h2).2 hy, rfl⟩
  · refine Nat.lt_of_le_of_lt (unseen_le _ _) ?_
    have := ha.le h.nd
    have := ha.len
    have := h.bnd
    omega

theorem then_ok {N : Nat} (hN : maxRow < N) {D l long kn ah acl A bh bcl B out ocl O} (h : GD D l long kn) (ha : SetIs D ah acl A) (hbh : SetIs D bh bcl B) (ho : SetIs D out ocl O) {V P Tm : List (List UInt8)} {Nd : List Node} {many : Bool} {kcl : Nat}
    (hA : many = false → small A = true ∧ small B = true) (hm : many = false → small O = true) (hb : D.length + 262144 ≤ maxRow)
    {k0 : Bool → KnL → Nat → SetL → Nat → List Next → List Int → Option Unit}
    (hk : ∀ D' many' kn' kcl' out' ocl' O' l' long', ThenP D O A B many D' many' O' → GD D' l' long' kn' → SetIs D' out' ocl' O' → k0 many' kn' kcl' out' ocl' l' long' = some ()) :
    effect_rows_then N V P Tm Nd many l long kn kcl out ocl ah acl bh bcl k0 = some () := by
  have hm' : many = (many || !small O) := by
    cases many
    · rw [hm rfl]; rfl
    · rfl
  have hA' : many = false → A.length ≤ 64 ∧ B.length ≤ 64 ∧ ∀ b ∈ B, b.length ≤ 64 := fun e => by
    obtain ⟨h1, h2⟩ := hA e
    simp only [small, Bool.and_eq_true, decide_eq_true_eq, List.all_eq_true] at h1 h2
    exact ⟨h1.1, h2⟩
  unfold effect_rows_then
  refine range_ok (σ := Bool × KnL × Nat × SetL × Nat × List Next × List Int) hbh.st hbh.lt
    (fun n s seen => effect_rows_then_l0 N V P Tm Nd l long ah acl bh bcl bcl (fun (y198 : Bool) (y199 : List (List Sc × Int × Nat)) (y200 : Nat) (y201 : List (List Sc × Bool × Nat)) (y202 : Nat) (y203 : List Next) (y204 : List Int) =>
  k0 y198 y199 y200 y201 y202 y203 y204)
    (fun (y205 : Bool) (y206 : List (List Sc × Int × Nat)) (y207 : Nat) (y208 : List (List Sc × Bool × Nat)) (y209 : Nat) (y210 : List Next) (y211 : List Int) =>
  k0 y205 y206 y207 y208 y209 y210 y211) n s.1 s.2.1 s.2.2.1 s.2.2.2.1 s.2.2.2.2.1 s.2.2.2.2.2.1 s.2.2.2.2.2.2 seen bcl)
    (fun s => k0 s.1 s.2.1 s.2.2.1 s.2.2.2.1 s.2.2.2.2.1 s.2.2.2.2.2.1 s.2.2.2.2.2.2)
    (fun seen s n181 rec => if bcl = bcl then (match findB n181.2.2 bh with
  | some en182 => (effect_rows_marks N (scI en182.1) V P Tm Nd s.1 s.2.2.2.2.2.1 s.2.2.2.2.2.2 s.2.1 s.2.2.1 (fun (r183 : List Mark) =>
  effect_rows_then_l2 N V P Tm Nd l long ah acl bh bcl r183 bcl (n181.2.2 :: seen) bcl acl (fun (y184 : Bool) (y185 : List (List Sc × Int × Nat)) (y186 : Nat) (y187 : List (List Sc × Bool × Nat)) (y188 : Nat) (y189 : List Next) (y190 : List Int) =>
  rec (y184, y185, y186, y187, y188, y189, y190))
    (fun (y191 : Bool) (y192 : List (List Sc × Int × Nat)) (y193 : Nat) (y194 : List (List Sc × Bool × Nat)) (y195 : Nat) (y196 : List Next) (y197 : List Int) =>
  k0 y191 y192 y193 y194 y195 y196 y197) N s.1 s.2.1 s.2.2.1 s.2.2.2.1 s.2.2.2.2.1 s.2.2.2.2.2.1 s.2.2.2.2.2.2 [] acl))
  | none => none) else none)
    (fun n s seen => rfl)
    (fun W s => ∃ D' O', D <+: D' ∧ D'.length ≤ D.length + (if many = true then 0 else W.length * 4096) ∧ GD D' s.2.2.2.2.2.1 s.2.2.2.2.2.2 s.2.1 ∧ SetIs D' s.2.2.2.1 s.2.2.2.2.1 O' ∧ s.1 = (many || !small O') ∧ (many = true → O' = O) ∧ O'.length ≤ max O.length 65 ∧ ∀ x, x ∈ O' ↔ x ∈ O ∨ ∃ y, AtV D W y ∧ ∃ a ∈ A, x = a ++ y) ?_ ?_ N []
    (many, kn, kcl, out, ocl, l, long) ⟨D, O, List.prefix_refl _, by simp, h, ho, hm', fun _ => rfl, Nat.le_max_left _ _, fun x => ⟨.inl, fun h => h.elim id fun ⟨y, h, _⟩ => absurd h atV_nil⟩⟩ (by simp) List.nodup_nil ?_
  · rintro seen W ⟨a, b, c, d, e', g, i⟩ e rec ⟨D', O', h1, h2, h3, h4, h5, h6, hle, h7⟩ hW hWn he hne hrec
    have hlen := V_lt hW hWn he hne
    rw [hbh.len] at hlen
    simp only [] at h3 h4 h5
    rw [if_pos rfl, findB_mem hbh.st he]
    obtain ⟨p, y, h8, h9, h10⟩ := hbh.ent he
    simp only []
    rw [h8, scI_kI]
    have h9' : D'[p]? = some y := by
      obtain ⟨E, rfl⟩ := h1
      rw [List.getElem?_append_left (get_lt h9)]; exact h9
    rw [rmarks_eq hN h3 h9']
    have hmf : a = false → many = false := fun e => by subst e; cases many; rfl; simp at h5
    have hsm : a = false → small O' = true := fun e => by
      subst e
      cases hq : small O'
      · rw [hq] at h5; simp at h5
      · rfl
    have hgrow : ∀ {D2 : List MR}, D2.length ≤ D'.length + (if a = true then 0 else 4096) → D2.length ≤ D.length + (if many = true then 0 else (W.length + 1) * 4096) := by
      intro D2 hd
      cases many with
      | true =>
        have : a = true := by simpa using h5
        subst this
        simp at h2 hd ⊢
        omega
      | false =>
        simp only [Bool.false_eq_true, if_false] at h2 ⊢
        split at hd <;> omega
    refine then_l2_ok hN h3 (ha.mono h1) h4 (fun e => ⟨(hA' (hmf e)).1, (hA' (hmf e)).2.2 y h10⟩) hsm (fun e => ?_) ?_ ?_
    · have := hmf e
      subst this
      have := hA' rfl
      simp only [Bool.false_eq_true, if_false] at h2
      omega
    · intro D2 m2 kn2 kcl2 out2 ocl2 O2 l2 long2 k1 k2 k3 k4 k5 k6 kle k7
      refine hrec _ ⟨D2, O2, h1.trans k1, hgrow k2, k3, k4, ?_, fun e => ?_, by omega, fun x => ?_⟩
      · simp only []
        rw [k5, h5]
        cases many with
        | true => rfl
        | false =>
          simp only [Bool.false_or] at h5 ⊢
          cases hq : small O2
          · simp
          · have : small O' = true := small_sub (h4.nodup h3.nd) (fun x hx => (k7 x).2 (.inl hx)) hq
            rw [this]; rfl
      · have : a = true := by rw [e] at h5; simpa using h5
        rw [k6 this, h6 e]
      · rw [k7, h7]
        constructor
        · rintro ((h | ⟨z, hz, hh⟩) | ⟨q, hq, rfl⟩)
          · exact .inl h
          · exact .inr ⟨z, (atV_cons h8 h9).2 (.inr hz), hh⟩
          · exact .inr ⟨y, (atV_cons h8 h9).2 (.inl rfl), q, hq, rfl⟩
        · rintro (h | ⟨z, hz, q, hq, rfl⟩)
          · exact .inl (.inl h)
          · rcases (atV_cons h8 h9).1 hz with rfl | hz
            · exact .inr ⟨q, hq, rfl⟩
            · exact .inl (.inr ⟨z, hz, q, hq, rfl⟩)
    · intro D2 kn2 kcl2 out2 ocl2 O2 l2 long2 k1 k2 k3 k4 k5 k6 kle k7 k8
      have hsame : many = true → O2 = O := fun e => by
        have : a = true := by rw [e] at h5; simpa using h5
        rw [k6 this, h6 e]
      refine hk D2 true kn2 kcl2 out2 ocl2 O2 l2 long2 ⟨h1.trans k1, ?_, fun x hx => k7 x ((h7 x).2 (.inl hx)), fun x hx => ?_, fun e => (by cases e), ?_, hsame, by omega⟩ k3 k4
      · have := hgrow k2
        split at this
        · omega
        · rename_i e
          have := hA' (by simpa using e)
          omega
      · rcases k8 x hx with h | ⟨q, hq, rfl⟩
        · rcases (h7 x).1 h with h | ⟨z, hz, q, hq, rfl⟩
          · exact .inl h
          · exact .inr (mem_pr.2 ⟨q, hq, z, atV_sub hbh hW hz, rfl⟩)
        · exact .inr (mem_pr.2 ⟨q, hq, y, h10, rfl⟩)
      · cases many with
        | true => rfl
        | false =>
          simp only [Bool.false_or] at h5 ⊢
          cases hq : small O2
          · rfl
          · have : small O' = true := small_sub (h4.nodup h3.nd) (fun x hx => k7 x hx) hq
            rw [this] at h5
            rw [hq, h5] at k5
            simp at k5
  · rintro W ⟨a, b, c, d, e', g, i⟩ h1 h2 hWn ⟨D', O', h3, h4, h5, h6, h7, h8, hle, h9⟩
    simp only [] at h5 h6 h7 ⊢
    have hl := nodup_sub_len hWn h2
    rw [hbh.len] at hl
    refine hk D' a b c d e' O' g i ⟨h3, ?_, fun x hx => (h9 x).2 (.inl hx), fun x hx => ?_, fun _ x hx => ?_, h7, h8, hle⟩ h5 h6
    · cases many with
      | true => simp at h4; omega
      | false =>
        have := hA' rfl
        simp only [Bool.false_eq_true, if_false] at h4
        omega
    · rcases (h9 x).1 hx with h | ⟨y, hy, q, hq, rfl⟩
      · exact .inl h
      · exact .inr (mem_pr.2 ⟨q, hq, y, (atV_all hbh h1 h2).1 hy, rfl⟩)
    · obtain ⟨q, hq, y, hy, rfl⟩ := mem_pr.1 hx
      exact (h9 _).2 (.inr ⟨y, (atV_all hbh h1 h2).2 hy, q, hq, rfl⟩)
  · refine Nat.lt_of_le_of_lt (unseen_le _ _) ?_
    have := hbh.le h.nd
    have := hbh.len
    have := h.bnd
    omega
end Ef
