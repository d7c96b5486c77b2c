/- W9: a part of the proof of WheelPlays: lemmas on the evaluator and on the functions that the law reaches. -/
import Derived.Test.YtlagbbfgaanpcaaW8
set_option maxRecDepth 100000
set_option linter.unusedVariables false
namespace Wh
open Go TE Go.Proofs
theorem f9_ok {R : Type} (N : Nat) (a b n : Int) (L : ML) (ex : Bool) (cl : Nat) (k : Int → ML → Nat → Option R) (h : 0 ≤ a ∧ 0 ≤ b ∧ 1 ≤ n ∧ n ≤ 65536) :
    f9 N a b n L ex cl k = k 0 (updM [.int .i64 a, .int .i64 b] n cl L) (if (findM [.int .i64 a, .int .i64 b] L).isSome = true then cl else cl + 1) := by
  obtain ⟨h1, h2, h3, h4⟩ := h
  have e1 : decide (a < 0) = false := by simpa using h1
  have e2 : decide (b < 0) = false := by simpa using h2
  have e3 : decide (n < 1) = false := by simp; omega
  have e4 : decide (n > 65536) = false := by simp; omega
  unfold f9
  simp only [e1, e2, e3, e4, ifB_ff, Bool.false_eq_true, if_false, Option.bind_some]
theorem f9_bad {R : Type} (N : Nat) (a b n : Int) (L : ML) (ex : Bool) (cl : Nat) (k : Int → ML → Nat → Option R) (h : ¬ (0 ≤ a ∧ 0 ≤ b ∧ 1 ≤ n ∧ n ≤ 65536)) :
    f9 N a b n L ex cl k = k 1 L cl := by
  unfold f9
  simp only [ifB_ff, decide_eq_true_eq, Bool.false_eq_true, if_false, Option.bind_some]
  by_cases e1 : a < 0
  · simp [e1]
  · by_cases e2 : b < 0
    · simp [e1, e2]
    · by_cases e3 : n < 1
      · simp [e1, e2, e3]
      · have e4 : n > 65536 := by omega
        simp [e1, e2, e3, e4]
theorem srt_of {xs ys : List Fired} (h : xs.Perm ys) (hs : ys.Pairwise fun x y => (!ltF y x) = true) : srt xs = ys := by
  refine List.Perm.eq_of_pairwise (le := fun x y => (!ltF y x) = true) (fun a b _ _ h1 h2 => ?_) (srt_sorted xs) hs ((srt_perm_self xs).trans h)
  simp only [Bool.not_eq_true'] at h1 h2
  exact ltF_tie a b h2 h1
theorem known_true {R : Type} (N : Nat) (k : Bool → Option R) : f12 N k = k true := by
  unfold f12
  rw [f9_ok _ _ _ _ _ _ _ _ (by omega), f9_ok _ _ _ _ _ _ _ _ (by omega)]
  have e1 : updM [Sc.int .i64 0, Sc.int .i64 0] (2 : Int) 1 (updM [Sc.int .i64 0, Sc.int .i64 1] (2 : Int) 0 []) = [([Sc.int .i64 0, Sc.int .i64 1], 2, 0), ([Sc.int .i64 0, Sc.int .i64 0], 2, 1)] := by
    simp [updM]
  have e0 : (if (findM [Sc.int .i64 0, Sc.int .i64 1] ([] : ML)).isSome = true then 0 else 0 + 1) = 1 := rfl
  rw [e0, e1]
  have w1 : IntKind.wrap .i64 1 = 1 := wr _ (by omega) (by omega)
  have t1 : tickL [([Sc.int .i64 0, Sc.int .i64 1], 2, 0), ([Sc.int .i64 0, Sc.int .i64 0], 2, 1)] = [([Sc.int .i64 0, Sc.int .i64 1], 1, 0), ([Sc.int .i64 0, Sc.int .i64 0], 1, 1)] := by
    simp [tickL, tk, dec1, w1]
  have t2 : tickL [([Sc.int .i64 0, Sc.int .i64 1], 1, 0), ([Sc.int .i64 0, Sc.int .i64 0], 1, 1)] = [] := by
    simp [tickL]
  have f1 : tickF [([Sc.int .i64 0, Sc.int .i64 1], 2, 0), ([Sc.int .i64 0, Sc.int .i64 0], 2, 1)] = [] := by
    unfold tickF
    exact srt_of (by simp) List.Pairwise.nil
  have f2 : tickF [([Sc.int .i64 0, Sc.int .i64 1], 1, 0), ([Sc.int .i64 0, Sc.int .i64 0], 1, 1)] = [⟨0, 0⟩, ⟨0, 1⟩] := by
    unfold tickF
    refine srt_of ?_ ?_
    · simp [firedOf, scI]
      exact List.Perm.swap _ _ _
    · simp [List.pairwise_cons, ltF_false]
  have l1 : least 65536 [([Sc.int .i64 0, Sc.int .i64 1], 2, 0), ([Sc.int .i64 0, Sc.int .i64 0], 2, 1)] = 2 := by
    simp [least]
  unfold next23
  simp only [t1, t2, f1, f2, l1, List.length_cons, List.length_nil]
  simp [ifB_tf, at?]
theorem f7_true {R : Type} (N : Nat) (a b n : Int) (k : Bool → Option R) : f7 N a b n k = k true := by
  unfold f7
  simp only [known_true]
  simp [ifB_tf]
  rfl
theorem wheelNone_ok (a0 a1 a2 : Int) (h0 : (Lit.int .i64 a0).wf = true) (h1 : (Lit.int .i64 a1).wf = true) (h2 : (Lit.int .i64 a2).wf = true) : CallOK (E noCalls) 7 [.agg [.int .i64 a0, .int .i64 a1], .int .i64 a2] [] ⟨.bool true, some [], []⟩ := by
  obtain ⟨res, e, h⟩ := f7_call 0 a0 a1 a2 (R := Res S) some ⟨.bool true, some [], []⟩ ((f7_run _ _ _ _ _).trans (f7_true _ _ _ _ _))
  cases e
  exact h
end Wh
