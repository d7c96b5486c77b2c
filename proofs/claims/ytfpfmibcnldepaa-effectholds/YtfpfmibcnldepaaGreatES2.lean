/- Effect: the order of rows of marks as a number; the contract of slices.SortFunc at them. -/
import Derived.Test.YtfpfmibcnldepaaGreatES
import Derived.Test.YtfpfmibcnldepaaGreatE3
set_option linter.unusedVariables false
namespace Ef
open Go TE Go.Proofs Go.Sort
def cM (a b : List Mark) : Int := if lessM a b = true then -1 else if lessM b a = true then 1 else 0
theorem bl_total : ∀ s t : List UInt8, bytesLess s t = false → s ≠ t → bytesLess t s = true
  | [], [], _, h => absurd rfl h
  | [], _ :: _, h, _ => by simp [bytesLess] at h
  | _ :: _, [], _, _ => by simp [bytesLess]
  | x :: s, y :: t, h, hne => by
    simp only [bytesLess] at h ⊢
    by_cases h1 : x < y
    · simp [h1] at h
    · by_cases h2 : y < x
      · simp [h2]
      · have hxy : x = y := by
          apply UInt8.toNat_inj.1
          have a1 : ¬ x.toNat < y.toNat := h1
          have a2 : ¬ y.toNat < x.toNat := h2
          omega
        subst hxy
        have := bl_total s t (by simpa using h) (fun e => hne (by rw [e]))
        simpa using this
theorem ltM_total {x y : Mark} (h : ltM x y = false) (he : ¬ eqM x y = true) : ltM y x = true := by
  simp only [ltM, Bool.or_eq_false_iff, decide_eq_false_iff_not, Bool.and_eq_false_iff] at h
  simp only [ltM, Bool.or_eq_true, decide_eq_true_eq, Bool.and_eq_true, beq_iff_eq]
  obtain ⟨h1, h2⟩ := h
  by_cases hp : y.Port < x.Port
  · exact .inl hp
  · have hpe : x.Port = y.Port := by omega
    refine .inr ⟨hpe.symm, bl_total _ _ (h2.resolve_left (by simp [hpe])) fun e => he (by simp [eqM, hpe, e])⟩
theorem lpE_cM {R : Type} (k : Int → Option R) : ∀ a b : List Mark, lpE (if (decide ((a.length : Int) < b.length)) = true then k (-1) else k 0) k a b = k (cM a b)
  | [], [] => by simp [lpE, cM, lessM]
  | [], y :: b => by
    simp only [lpE, cM, lessM]
    rw [if_pos (by simp)]
    rfl
  | x :: a, [] => by simp [lpE, cM, lessM]
  | x :: a, y :: b => by
    by_cases e : eqM x y = true
    · have hxy := eqM_iff.1 e
      subst hxy
      have : cO x x = 0 := by unfold cO; rw [if_pos e]
      simp only [lpE, this]
      rw [if_neg (by simp)]
      have h := lpE_cM k a b
      have hc : cM (x :: a) (x :: b) = cM a b := by simp only [cM, lessM, if_pos e]
      rw [hc, ← h]
      congr 2
      simp
    · have e' : ¬ eqM y x = true := fun h => e (by rw [eqM_iff] at *; exact h.symm)
      cases hl : ltM x y with
      | true =>
        have : cO x y = -1 := by unfold cO; rw [if_neg e, if_pos hl]
        simp only [lpE, this]
        rw [if_pos (by simp)]
        simp only [cM, lessM, if_neg e, hl, if_true]
      | false =>
        have : cO x y = 1 := by unfold cO; rw [if_neg e, hl]; rfl
        simp only [lpE, this]
        rw [if_pos (by simp)]
        have hy : ltM y x = true := ltM_total hl e
        simp only [cM, lessM, if_neg e, if_neg e', hl, hy, if_true, Bool.false_eq_true, if_false]
theorem order_cM {R : Type} {N : Nat} (h3 : 3 < N) (a b : List Mark) (ha : a.length < N) (hN : a.length < big) (k : Int → Option R) : effect_order N a b k = k (cM a b) := by
  unfold effect_order f41
  have := f41_loop (N := N) h3 a b hN (if (decide ((a.length : Int) < b.length)) = true then k (-1) else k 0) (fun y => k y) N 0 (by omega) (by omega)
  rw [← lpE_cM k a b]
  exact this
theorem bl_trans : ∀ s t u : List UInt8, bytesLess s t = true → bytesLess t u = true → bytesLess s u = true
  | [], [], _, h, _ => by simp [bytesLess] at h
  | _ :: _, [], _, h, _ => by simp [bytesLess] at h
  | [], _ :: _, [], _, h => by cases h
  | [], _ :: _, _ :: _, _, _ => rfl
  | _ :: _, _ :: _, [], _, h => by cases h
  | x :: s, y :: t, z :: u, h, h' => by
    simp only [bytesLess, Bool.or_eq_true, decide_eq_true_eq, Bool.and_eq_true, beq_iff_eq] at h h' ⊢
    rcases h with h | ⟨h1, h2⟩ <;> rcases h' with h' | ⟨h3, h4⟩
    · exact .inl (UInt8.lt_trans h h')
    · exact .inl (h3 ▸ h)
    · exact .inl (h1 ▸ h')
    · exact .inr ⟨h1.trans h3, bl_trans s t u h2 h4⟩
theorem ltM_trans {x y z : Mark} (h : ltM x y = true) (h' : ltM y z = true) : ltM x z = true := by
  simp only [ltM, Bool.or_eq_true, decide_eq_true_eq, Bool.and_eq_true, beq_iff_eq] at *
  rcases h with h | ⟨h1, h2⟩ <;> rcases h' with h' | ⟨h3, h4⟩
  · exact .inl (by omega)
  · exact .inl (by omega)
  · exact .inl (by omega)
  · exact .inr ⟨by omega, bl_trans _ _ _ h2 h4⟩
theorem ltM_ne {x y : Mark} (h : ltM x y = true) : ¬ eqM x y = true := fun e => by
  rw [eqM_iff] at e; subst e
  have := ltM_asym h; rw [h] at this; cases this
theorem lessM_tot : ∀ a b : List Mark, lessM a b = false → lessM b a = false → a = b
  | [], [], _, _ => rfl
  | [], _ :: _, h, _ => by simp [lessM] at h
  | _ :: _, [], _, h => by simp [lessM] at h
  | x :: a, y :: b, h, h' => by
    simp only [lessM] at h h'
    by_cases e : eqM x y = true
    · have hxy := eqM_iff.1 e
      subst hxy
      rw [if_pos e] at h h'
      rw [lessM_tot a b h h']
    · have e' : ¬ eqM y x = true := fun h => e (by rw [eqM_iff] at *; exact h.symm)
      rw [if_neg e] at h
      rw [if_neg e', ltM_total h e] at h'
      cases h'
theorem lessM_trans : ∀ a b c : List Mark, lessM a b = true → lessM b c = true → lessM a c = true
  | a, [], _, h, _ => by cases a <;> simp [lessM] at h
  | [], _ :: _, [], _, h => by simp [lessM] at h
  | [], _ :: _, _ :: _, _, _ => by simp [lessM]
  | _ :: _, _ :: _, [], _, h => by simp [lessM] at h
  | x :: a, y :: b, z :: c, h, h' => by
    simp only [lessM] at h h' ⊢
    by_cases e : eqM x y = true
    · have hxy := eqM_iff.1 e
      subst hxy
      rw [if_pos e] at h
      by_cases e2 : eqM x z = true
      · rw [if_pos e2] at h' ⊢
        exact lessM_trans a b c h h'
      · rw [if_neg e2] at h' ⊢; exact h'
    · rw [if_neg e] at h
      by_cases e2 : eqM y z = true
      · have hyz := eqM_iff.1 e2
        subst hyz
        rw [if_neg e]; exact h
      · rw [if_neg e2] at h'
        have := ltM_trans h h'
        rw [if_neg (ltM_ne this)]; exact this
theorem lt_cM (a b : List Mark) : Go.Proofs.ltOf cM a b = lessM a b := by
  show decide (cM a b < 0) = _
  unfold cM
  cases h : lessM a b with
  | true => rfl
  | false => cases h2 : lessM b a <;> rfl
theorem swoM : SWO (Go.Proofs.ltOf cM) where
  irrefl x := by rw [lt_cM]; exact lessM_irr x
  trans x y z h1 h2 := by rw [lt_cM] at *; exact lessM_trans x y z h1 h2
  ntrans x y z h1 h2 := by
    rw [lt_cM] at *
    cases h : lessM x z with
    | false => rfl
    | true =>
      cases h3 : lessM y x with
      | true => have := lessM_trans y x z h3 h; rw [this] at h2; cases h2
      | false => rw [lessM_tot x y h1 h3] at h; rw [h] at h2; cases h2
end Ef

