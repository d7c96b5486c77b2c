/- W5: a part of the proof of WheelPlays: lemmas on the evaluator and on the functions that the law reaches. -/
import Derived.Test.YtlagbbfgaanpcaaW4
import Derived.IntWalk
set_option maxRecDepth 100000
set_option linter.unusedVariables false
namespace Wh
open Go TE Go.Proofs
def cmpI (x y : Int) : Int := if x < y then -1 else if x > y then 1 else 0
theorem f30_eq {R : Type} (N : Nat) (x y : Int) (k : Int → Option R) : f30 N x y k = k (cmpI x y) := by
  unfold f30 cmpI
  simp only [bne_self_eq_false, Bool.false_eq_true, if_false, decide_eq_true_eq]
  split
  · rfl
  · split <;> rfl
theorem wr (n : Int) (h1 : -9223372036854775808 ≤ n) (h2 : n ≤ 9223372036854775807) : IntKind.wrap .i64 n = n := IntWalk.i64_in _ ⟨h1, h2⟩
theorem f29_eq {R : Type} (N : Nat) (a b : Int) (k : Int → Option R) : f29 (N + 3) [a, b] k = k (if a ≠ 0 then a else b) := by
  unfold f29
  simp only [f29_l0, f29_l0_b, List.length_cons, List.length_nil]
  have e1 : IntKind.wrap .i64 (0 + 1) = 1 := wr _ (by omega) (by omega)
  have e2 : IntKind.wrap .i64 (1 + 1) = 2 := wr _ (by omega) (by omega)
  have h0 : at? [a, b] 0 = some a := rfl
  have h1 : at? [a, b] 1 = some b := rfl
  simp only [e1, e2, h0, h1, Option.bind_some]
  by_cases ha : a = 0
  · subst ha
    by_cases hb : b = 0
    · subst hb; rfl
    · simp [hb]
  · simp [ha]
def cfF (x y : Fired) : Int := if cmpI x.inst y.inst ≠ 0 then cmpI x.inst y.inst else cmpI x.timer y.timer
theorem f26_eq {R : Type} (N : Nat) (a b c d : Int) (k : Int → Option R) : f26 (N + 3) a b c d k = k (cfF ⟨a, b⟩ ⟨c, d⟩) := by
  unfold f26
  rw [f30_eq, f30_eq, f29_eq]; rfl
theorem c26 (x y : Fired) : CallOK (E noCalls) 26 [.agg (enc .fired x), .agg (enc .fired y)] [] ⟨.int .i64 (cfF x y), some [], []⟩ := by
  obtain ⟨res, h1, h2⟩ := f26_call 3 x.inst x.timer y.inst y.timer (R := Res S) some ⟨.int .i64 (cfF x y), some [], []⟩ (by
    rw [f26_run]
    exact f26_eq 0 _ _ _ _ _)
  cases h1
  exact h2
def ltF (x y : Fired) : Bool := decide (cfF x y < 0)
theorem ltF_iff (x y : Fired) : ltF x y = true ↔ x.inst < y.inst ∨ x.inst = y.inst ∧ x.timer < y.timer := by
  unfold ltF cfF cmpI
  rw [decide_eq_true_iff]
  by_cases h1 : x.inst < y.inst
  · simp [h1]
  · by_cases h2 : x.inst > y.inst
    · have : ¬ x.inst = y.inst := by omega
      simp [h1, h2, this]
    · have h3 : x.inst = y.inst := by omega
      by_cases h4 : x.timer < y.timer
      · simp [h3, h4]
      · by_cases h5 : x.timer > y.timer
        · simp [h3, h4, h5]
        · simp [h3, h4, h5]
theorem ltF_false (x y : Fired) : ltF x y = false ↔ ¬ (x.inst < y.inst ∨ x.inst = y.inst ∧ x.timer < y.timer) := by
  rw [← ltF_iff]; simp
theorem fired_ext {x y : Fired} (h1 : x.inst = y.inst) (h2 : x.timer = y.timer) : x = y := by
  cases x; cases y; simp_all
theorem ltF_tie (x y : Fired) (h1 : ltF x y = false) (h2 : ltF y x = false) : x = y := by
  rw [ltF_false] at h1 h2
  exact fired_ext (by omega) (by omega)
noncomputable def srt (xs : List Fired) : List Fired := xs.mergeSort fun x y => !ltF y x
theorem srt_perm_self (xs : List Fired) : (srt xs).Perm xs := List.mergeSort_perm _ _
theorem srt_sorted (xs : List Fired) : (srt xs).Pairwise fun x y => (!ltF y x) = true := by
  refine List.pairwise_mergeSort (fun a b c h1 h2 => ?_) (fun a b => ?_) xs
  · simp only [Bool.not_eq_true', ltF_false] at *; omega
  · simp only [Bool.or_eq_true, Bool.not_eq_true', ltF_false]; omega
theorem srt_perm {xs ys : List Fired} (h : xs.Perm ys) : srt xs = srt ys := by
  refine List.Perm.eq_of_pairwise (le := fun x y => (!ltF y x) = true) (fun a b _ _ h1 h2 => ?_) (srt_sorted xs) (srt_sorted ys) (((srt_perm_self xs).trans h).trans (srt_perm_self ys).symm)
  simp only [Bool.not_eq_true'] at h1 h2
  exact ltF_tie a b h2 h1
theorem srt_len (xs : List Fired) : (srt xs).length = xs.length := (srt_perm_self xs).length_eq
end Wh
