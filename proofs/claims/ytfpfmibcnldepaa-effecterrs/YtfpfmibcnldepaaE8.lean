/- The reference's code of an expression: its length; jumps go forward; no operation that errs. -/
import Derived.Test.YtfpfmibcnldepaaE7
set_option maxRecDepth 100000
set_option linter.unusedVariables false
set_option linter.unusedSimpArgs false
namespace Ef
open Go TE Go.Proofs
def opok (bd : Bool) (o : Int) : Prop := (1 ≤ o ∧ o ≤ 17 ∧ (bd = false → o ≠ 5 ∧ ¬ (7 ≤ o ∧ o ≤ 11))) ∨ o = 23 ∨ o = 24
theorem opok.mono {b1 b2 : Bool} {o : Int} (h : opok b1 o) (hb : b2 = false → b1 = false) : opok b2 o := by
  rcases h with ⟨h1, h2, h3⟩ | h
  · exact .inl ⟨h1, h2, fun e => h3 (hb e)⟩
  · exact .inr h
/-- The list l goes on from c: its own part has such operations, jumps forward but for those that are pending. -/
structure H (c l : List Ins) (bd : Bool) (p : Nat → Prop) : Prop where
  pre : l.take c.length = c
  le : c.length ≤ l.length
  own : ∀ (i : Nat) (x : Ins), c.length ≤ i → l[i]? = some x → opok bd x.Op ∧ ((x.Op = 23 ∨ x.Op = 24) → p i ∨ (i : Int) < x.A)
theorem H.refl (c : List Ins) (bd : Bool) (p : Nat → Prop) : H c c bd p :=
  ⟨List.take_length, Nat.le_refl _, fun i x h1 h2 => by have := (List.getElem?_eq_some_iff.1 h2).1; omega⟩
theorem H.app {c l : List Ins} {bd : Bool} {p p' : Nat → Prop} (h : H c l bd p) (xs : List Ins) (hp : ∀ i, p i → p' i)
    (hx : ∀ (j : Nat) (x : Ins), xs[j]? = some x → opok bd x.Op ∧ ((x.Op = 23 ∨ x.Op = 24) → p' (l.length + j))) : H c (l ++ xs) bd p' := by
  refine ⟨by rw [List.take_append_of_le_length h.le, h.pre], by have := h.le; rw [List.length_append]; omega, fun i x h1 h2 => ?_⟩
  by_cases hi : i < l.length
  · rw [List.getElem?_append_left hi] at h2
    obtain ⟨q1, q2⟩ := h.own i x h1 h2
    exact ⟨q1, fun q => (q2 q).imp (hp i) id⟩
  · rw [List.getElem?_append_right (by omega)] at h2
    obtain ⟨q1, q2⟩ := hx _ x h2
    refine ⟨q1, fun q => .inl ?_⟩
    have := q2 q
    rwa [show l.length + (i - l.length) = i by omega] at this
theorem H.set {c l : List Ins} {bd : Bool} {p p' : Nat → Prop} (h : H c l bd p) {i : Nat} {x : Ins} (hi : c.length ≤ i) (hx : l[i]? = some x) {A : Int} (hA : (i : Int) < A) (hp : ∀ j, p j → j ≠ i → p' j) : H c (l.set i ⟨x.Op, A, x.N, x.S⟩) bd p' := by
  refine ⟨by rw [List.take_set_of_le (by omega), h.pre], by rw [List.length_set]; exact h.le, fun j y h1 h2 => ?_⟩
  by_cases e : j = i
  · subst e
    rw [List.getElem?_set_self (List.getElem?_eq_some_iff.1 hx).1] at h2
    cases h2
    exact ⟨(h.own j x h1 hx).1, fun _ => .inr hA⟩
  · rw [List.getElem?_set_ne (Ne.symm e)] at h2
    obtain ⟨q1, q2⟩ := h.own j y h1 h2
    exact ⟨q1, fun q => (q2 q).imp (fun q => hp j q e) id⟩
theorem H.comp {c l l2 : List Ins} {b1 b2 bd : Bool} {p : Nat → Prop} (h : H c l b1 p) (h2 : H l l2 b2 (fun _ => False)) (e1 : bd = false → b1 = false) (e2 : bd = false → b2 = false) : H c l2 bd p := by
  have hle := h2.le
  refine ⟨?_, Nat.le_trans h.le h2.le, fun i x h3 h4 => ?_⟩
  · have : (l2.take l.length).take c.length = c := by rw [h2.pre, h.pre]
    rwa [List.take_take, Nat.min_eq_left h.le] at this
  · by_cases hi : i < l.length
    · have : l[i]? = some x := by rw [← h2.pre, List.getElem?_take, if_pos hi]; exact h4
      obtain ⟨q1, q2⟩ := h.own i x h3 this
      exact ⟨q1.mono e1, q2⟩
    · obtain ⟨q1, q2⟩ := h2.own i x (by omega) h4
      exact ⟨q1.mono e2, fun q => (q2 q).elim (fun q => q.elim) .inr⟩
theorem H.weak {c l : List Ins} {bd b2 : Bool} {p p' : Nat → Prop} (h : H c l bd p) (hp : ∀ i, p i → p' i) (hb : b2 = false → bd = false) : H c l b2 p' :=
  ⟨h.pre, h.le, fun i x h1 h2 => ⟨(h.own i x h1 h2).1.mono hb, fun q => ((h.own i x h1 h2).2 q).imp (hp i) id⟩⟩
section
variable {R : Type} {N : Nat}
theorem place16 (hN : big ≤ N) (l : List (List UInt8)) (hl : l.length ≤ 1000) (s : List UInt8) : ∃ x, ∀ k : Int → Option R, r16_place N l s k = k x := by
  have hb : big = 1000000000 := rfl
  have key : ∀ (n i : Nat), l.length < n + i → i ≤ l.length → ∃ x : Int, ∀ k : Int → Option R, r16_place_l0 N l s (k (-1)) k n (i : Int) = k x := by
    intro n
    induction n with
    | zero => intro i h1 h2; omega
    | succ n ih =>
      intro i h1 h2
      simp only [r16_place_l0, r16_place_l0_b]
      by_cases hi : i < l.length
      · obtain ⟨x, hx, _⟩ := drop_cons hi
        by_cases he : x = s
        · exact ⟨i, fun k => by rw [if_pos (by simpa using hi), at_nat, hx, Option.bind_some, if_pos (by simpa using he)]⟩
        · obtain ⟨y, hy⟩ := ih (i + 1) (by omega) (by omega)
          exact ⟨y, fun k => by rw [if_pos (by simpa using hi), at_nat, hx, Option.bind_some, if_neg (by simpa using he), wr _ (by omega) (by omega)]; exact hy k⟩
      · exact ⟨-1, fun k => by rw [if_neg (by simpa using hi)]⟩
  obtain ⟨x, hx⟩ := key N 0 (by omega) (by omega)
  exact ⟨x, fun k => hx k⟩
theorem op16 {kd : Int} (h1 : 5 ≤ kd) (h2 : kd ≤ 19) (k : Int → Option R) : r16_op N kd k = k kd := by
  unfold r16_op
  by_cases c5 : kd = 5
  · subst c5; simp
  by_cases c6 : kd = 6
  · subst c6; simp
  rw [if_neg (by simpa using c5), if_neg (by simpa using c6), wr (7 + kd) (by omega) (by omega), wr _ (by omega) (by omega), show 7 + kd - 7 = kd by omega]
end
end Ef

