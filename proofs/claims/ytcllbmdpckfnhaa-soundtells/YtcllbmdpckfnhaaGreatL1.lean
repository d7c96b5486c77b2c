/- SoundTells in plain words: the law's function answers true. -/
import Derived.Test.YtcllbmdpckfnhaaGreatPG
import Derived.Test.YtcllbmdpckfnhaaGreatT41
set_option maxRecDepth 1000000
set_option linter.unusedVariables false
namespace So
open Go TE Go.Proofs
theorem known_eq {R : Type} (k : Bool → Option R) : l12_known big k = k true := by kernel_rfl
theorem tells_eq {R : Type} {N : Nat} (hN : big ≤ N) (hkn : ∀ (R : Type) (k : Bool → Option R), l12_known N k = k true) (text : List UInt8) (k : Bool → Option R) (r : R) (hk : k true = some r) : l12_SoundTells N text k = some r := by
 have hb : big = 1000000000 := rfl
 have key : Ok (fun x => x = r) (l12_SoundTells N text k) := by
  dsimp only [l12_SoundTells, l12_SoundTells_g, tells]
  refine parse10 (by omega) text fun g cs is ch es c A hok => ⟨r, ?_, rfl⟩
  simp only [hkn, ifB_or, Option.bind_some]
  by_cases h : (c != 0 || decide (((text.length : Nat) : Int) > 4000)) = true
  ·rw [if_pos h]; exact hk
  ·rw [if_neg h]
   simp only [Bool.or_eq_true, not_or] at h
   have hc : c = 0 := by simpa using h.1
   have hs := hok hc
   have e1 := fun k' => check_eq (R := R) (N := N) ⟨g, cs, is, ch, es⟩ k' hN hs
   have e2 := fun k' => rcheck_eq (R := R) (N := N) ⟨g, cs, is, ch, es⟩ k' hN hs
   dsimp only at e1 e2
   rw [e1, kf_eq, e2, kf_eq]
   simp [ifB, hk]
 obtain ⟨x, h1, h2⟩ := key
 rw [h1, h2]
theorem soundTells_ok (text : List UInt8) (h0 : text.length ≤ maxLen) : CallOK (E noCalls) 3 [.str text] [] ⟨.bool true, some [], []⟩ := by
 obtain ⟨res, e, h⟩ := l12_SoundTells_ok big (Res S) ((text, ()), ()) some ⟨.bool true, some [], []⟩ (tells_eq (Nat.le_refl _) (fun R k => known_eq k) text _ _ rfl)
 cases e
 exact h
end So
