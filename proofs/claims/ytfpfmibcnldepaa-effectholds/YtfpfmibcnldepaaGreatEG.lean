/- Codes with loops: how many instructions are done at most, both ways. -/
import Derived.Test.YtfpfmibcnldepaaGreatEA
import Derived.Test.YtfpfmibcnldepaaGreatED
set_option maxRecDepth 100000
set_option linter.unusedVariables false
set_option linter.unusedSimpArgs false
set_option linter.unusedSectionVars false
namespace Ef
open Go TE Go.Proofs
/-- What a code looks like: an instruction that is no loop; a loop. -/
inductive Sk | nil | one (r : Sk) | loop (n : Nat) (b r : Sk)
def Sk.len : Sk → Nat
  | .nil => 0
  | .one r => 1 + r.len
  | .loop _ b r => b.len + 2 + r.len
def Sk.most : Sk → Nat
  | .nil => 0
  | .one r => 1 + r.most
  | .loop n b r => 1 + n * (b.most + 1) + r.most
def Sk.app : Sk → Sk → Sk
  | .nil, s => s
  | .one r, s => .one (r.app s)
  | .loop n b r, s => .loop n b (r.app s)
theorem Sk.len_app : ∀ (a b : Sk), (a.app b).len = a.len + b.len
  | .nil, b => by simp [Sk.app, Sk.len]
  | .one r, b => by simp only [Sk.app, Sk.len, Sk.len_app r b]; omega
  | .loop n c r, b => by simp only [Sk.app, Sk.len, Sk.len_app r b]; omega
theorem Sk.most_app : ∀ (a b : Sk), (a.app b).most = a.most + b.most
  | .nil, b => by simp [Sk.app, Sk.most]
  | .one r, b => by simp only [Sk.app, Sk.most, Sk.most_app r b]; omega
  | .loop n c r, b => by simp only [Sk.app, Sk.most, Sk.most_app r b]; omega
def Sk.ones : Nat → Sk
  | 0 => .nil
  | n + 1 => .one (Sk.ones n)
theorem Sk.len_ones : ∀ n, (Sk.ones n).len = n
  | 0 => rfl
  | n + 1 => by simp only [Sk.ones, Sk.len, Sk.len_ones n]; omega
theorem Sk.most_ones : ∀ n, (Sk.ones n).most = n
  | 0 => rfl
  | n + 1 => by simp only [Sk.ones, Sk.most, Sk.most_ones n]; omega
def Is (c : List Ins) : Nat → Sk → Prop
  | _, .nil => True
  | p, .one r => (∃ x, c[p]? = some x ∧ x.Op ≠ 25) ∧ Is c (p + 1) r
  | p, .loop n b r => (∃ x, c[p]? = some x ∧ x.Op = 25 ∧ x.N = (n : Int) ∧ x.A = ((p + 2 + b.len : Nat) : Int)) ∧ 1 ≤ n ∧ Is c (p + 1) b ∧ (∃ y, c[p + 1 + b.len]? = some y ∧ y.Op ≠ 25) ∧ Is c (p + 2 + b.len) r
theorem Is.congr {c c' : List Ins} : ∀ {s : Sk} {p : Nat}, (∀ i, p ≤ i → i < p + s.len → c[i]? = c'[i]?) → Is c p s → Is c' p s
  | .nil, _, _, _ => trivial
  | .one r, p, h, hi => by
    simp only [Sk.len] at h
    obtain ⟨⟨x, hx, ho⟩, h2⟩ := hi
    exact ⟨⟨x, by rw [← h p (by omega) (by omega)]; exact hx, ho⟩, Is.congr (fun i h3 h4 => h i (by omega) (by omega)) h2⟩
  | .loop n b r, p, h, hi => by
    simp only [Sk.len] at h
    obtain ⟨⟨x, hx, ho⟩, hn, h2, ⟨y, hy, hyo⟩, h3⟩ := hi
    exact ⟨⟨x, by rw [← h p (by omega) (by omega)]; exact hx, ho⟩, hn, Is.congr (fun i h4 h5 => h i (by omega) (by omega)) h2, ⟨y, by rw [← h _ (by omega) (by omega)]; exact hy, hyo⟩, Is.congr (fun i h4 h5 => h i (by omega) (by omega)) h3⟩
theorem Is.app {c : List Ins} : ∀ {a b : Sk} {p : Nat}, Is c p a → Is c (p + a.len) b → Is c p (a.app b)
  | .nil, _, _, _, h => h
  | .one r, b, p, h, h2 => ⟨h.1, Is.app h.2 (by simp only [Sk.len] at h2; rwa [show p + 1 + r.len = p + (1 + r.len) by omega])⟩
  | .loop n d r, b, p, h, h2 => ⟨h.1, h.2.1, h.2.2.1, h.2.2.2.1, Is.app h.2.2.2.2 (by simp only [Sk.len] at h2; rwa [show p + 2 + d.len + r.len = p + (d.len + 2 + r.len) by omega])⟩
theorem Is.ones {c : List Ins} : ∀ {n p : Nat}, (∀ i, p ≤ i → i < p + n → ∃ x, c[i]? = some x ∧ x.Op ≠ 25) → Is c p (Sk.ones n)
  | 0, _, _ => trivial
  | n + 1, p, h => ⟨h p (by omega) (by omega), Is.ones fun i h1 h2 => h i (by omega) (by omega)⟩

/-! ### the program's -/
section
variable {R : Type} {N : Nat}
/-- What is behind some loops that are over. -/
def Over (p : Nat) (τ : Nat) (E W : List Int) (times : Int) (ends was : List Int) : Prop :=
  ∃ es ws : List Int, ends = E ++ es ∧ was = W ++ ws ∧ es.length = ws.length ∧ es.length ≤ p ∧ (∀ e ∈ es, e ≤ (p : Int)) ∧ (match ws with
    | [] => times = (τ : Int)
    | w :: _ => w = (τ : Int))
theorem pop_ok {sum : Int} {p τ : Nat} {c : List Ins} {v4 v5 o a n : Int} {s : List UInt8} {E W : List Int} (hE : E.getLast? = none ∨ ∃ e, E.getLast? = some e ∧ (p : Int) < e) (hEW : E.length = W.length) {kp0 : Int → List Int → List Int → Option R} :
    ∀ (f : Nat) (times : Int) (ends was : List Int), Over p τ E W times ends was → ends.length - E.length < f → ends.length ≤ 10000000 →
    code_Most_l2 N sum (p : Int) c v4 v5 o a n s kp0 f times ends was = kp0 (τ : Int) E W
  | 0, _, _, _, _, h, _ => by omega
  | f + 1, times, ends, was, ⟨es, ws, h1, h2, h3, h4, h5, h6⟩, hf, hb => by
    show code_Most_l2_b N sum (p : Int) c v4 v5 o a n s kp0 (code_Most_l2 N sum (p : Int) c v4 v5 o a n s kp0 f) times ends was = _
    unfold code_Most_l2_b
    rcases List.eq_nil_or_concat es with he | ⟨es', e, he⟩
    · subst he
      have : ws = [] := List.length_eq_zero_iff.1 (by simpa using h3.symm)
      subst this
      simp only [List.append_nil] at h1 h2
      subst h1 h2 h6
      rcases hE with hE | ⟨e, hE, hlt⟩
      · have : ends = [] := List.getLast?_eq_none_iff.1 hE
        subst this
        rfl
      · have hpos : 0 < ends.length := by cases ends with
          | nil => simp at hE
          | cons => simp
        have hw : IntKind.wrap .i64 (((ends.length : Nat) : Int) - 1) = ((ends.length - 1 : Nat) : Int) := by rw [wr _ (by omega) (by omega)]; omega
        rw [hw, show decide (((ends.length : Nat) : Int) > 0) = true by simp; omega]
        rw [if_pos ⟨by omega, by omega⟩, Int.toNat_natCast]
        rw [List.getLast?_eq_getElem?] at hE
        rw [hE]
        simp only []
        rw [show decide (e ≤ (p : Int)) = false by simp; omega]
        rfl
    · rw [List.concat_eq_append] at he
      subst he
      have hwl : ws ≠ [] := by intro h; subst h; simp at h3
      obtain ⟨ws', w, hw0⟩ : ∃ ws' w, ws = ws' ++ [w] := ⟨ws.dropLast, ws.getLast hwl, (List.dropLast_concat_getLast hwl).symm⟩
      subst hw0
      have hel : ends.length = E.length + es'.length + 1 := by rw [h1]; simp; omega
      have hwl2 : was.length = W.length + ws'.length + 1 := by rw [h2]; simp; omega
      have hl' : es'.length = ws'.length := by simpa using h3
      have hw : IntKind.wrap .i64 (((ends.length : Nat) : Int) - 1) = ((ends.length - 1 : Nat) : Int) := by rw [wr _ (by omega) (by omega)]; omega
      have hww : IntKind.wrap .i64 (((was.length : Nat) : Int) - 1) = ((was.length - 1 : Nat) : Int) := by rw [wr _ (by omega) (by omega)]; omega
      rw [hw, hww, show decide (((ends.length : Nat) : Int) > 0) = true by simp; omega]
      rw [if_pos ⟨by omega, by omega⟩, Int.toNat_natCast, Int.toNat_natCast]
      have e1 : ends[ends.length - 1]? = some e := by rw [h1, ← List.append_assoc]; simp
      have e2 : was[was.length - 1]? = some w := by rw [h2, ← List.append_assoc]; simp
      rw [e1]
      simp only []
      have hle : e ≤ (p : Int) := h5 e (by simp)
      rw [show decide (e ≤ (p : Int)) = true by simpa using hle]
      rw [show ifB true true (some true) (some false) = some true from rfl, Option.bind_some, if_pos rfl, if_pos ⟨by omega, by omega⟩, e2]
      simp only []
      rw [if_pos ⟨by omega, by omega, by omega⟩, if_pos ⟨by omega, by omega, by omega⟩]
      have t1 : ends.take (ends.length - 1 - Int.toNat 0) = E ++ es' := by
        rw [show Int.toNat 0 = 0 from rfl, Nat.sub_zero, show ends.length - 1 = (E ++ es').length by rw [hel]; simp, h1, ← List.append_assoc, List.take_left]
      have t2 : was.take (was.length - 1 - Int.toNat 0) = W ++ ws' := by
        rw [show Int.toNat 0 = 0 from rfl, Nat.sub_zero, show was.length - 1 = (W ++ ws').length by rw [hwl2]; simp, h2, ← List.append_assoc, List.take_left]
      rw [t1, t2]
      refine pop_ok hE hEW f w _ _ ⟨es', ws', rfl, rfl, hl', by simp at h4; omega, fun x hx => h5 x (by simp [hx]), ?_⟩ (by simp; omega) (by simp; omega)
      cases ws' with
      | nil => exact h6
      | cons a b => exact h6
theorem seg_ok (hN : 20000000 < N) {c : List Ins} (hc : c.length ≤ 1000000) {k : Int → Option R} {r : Option R} : ∀ (s : Sk) (p n sum : Nat) (times : Int) (ends was : List Int) (τ : Nat) (E W : List Int), Is c p s → p + s.len ≤ c.length → c.length < n + p →
    Over p τ E W times ends was → E.length = W.length → E.length + s.len ≤ 2000000 → (∀ e ∈ E, ((p + s.len : Nat) : Int) ≤ e) → sum + τ * s.most ≤ 2 ^ 60 → τ ≤ 2 ^ 60 →
    (∀ (n' : Nat) (times' : Int) (ends' was' : List Int), c.length < n' + (p + s.len) → Over (p + s.len) τ E W times' ends' was' → code_Most_l0 N c ((c.length : Nat) : Int) (fun (y42 : Int) => k y42) n' ((sum + τ * s.most : Nat) : Int) times' ((p + s.len : Nat) : Int) ends' was' = r) →
    code_Most_l0 N c ((c.length : Nat) : Int) (fun (y42 : Int) => k y42) n (sum : Int) times (p : Int) ends was = r
  | .nil, p, n, sum, times, ends, was, τ, E, W, _, _, hn, ho, _, _, _, _, _, hk => by
    have := hk n times ends was (by simpa [Sk.len] using hn) (by simpa [Sk.len] using ho)
    simpa [Sk.len, Sk.most] using this
  | .one s, p, n, sum, times, ends, was, τ, E, W, hi, hp, hn, ho, hEW, hEl, hE, hs, hτ, hk => by
    obtain ⟨⟨x, hx, hxo⟩, hi2⟩ := hi
    simp only [Sk.len, Sk.most] at hp hE hs hk hEl
    rw [Nat.mul_add, Nat.mul_one] at hs
    obtain ⟨n, rfl⟩ : ∃ m, n = m + 1 := ⟨n - 1, by omega⟩
    show code_Most_l0_b N c ((c.length : Nat) : Int) (fun (y42 : Int) => k y42) (code_Most_l0 N c ((c.length : Nat) : Int) (fun (y42 : Int) => k y42) n) (sum : Int) times (p : Int) ends was = r
    unfold code_Most_l0_b
    rw [if_pos (by simp; omega), at_nat, hx, Option.bind_some]
    have hlast : E.getLast? = none ∨ ∃ e, E.getLast? = some e ∧ (p : Int) < e := by
      cases hl : E.getLast? with
      | none => exact .inl rfl
      | some e => exact .inr ⟨e, rfl, by have := hE e (List.mem_of_getLast? hl); omega⟩
    have hel : ends.length ≤ 10000000 := by
      obtain ⟨es, ws, h1, _, _, h4, _⟩ := ho
      rw [h1]; simp; omega
    rw [pop_ok hlast hEW N times ends was ho (by omega) hel]
    rw [if_neg (by simpa using hxo)]
    rw [wr _ (by omega) (by omega), wr _ (by omega) (by omega), show ((sum : Int) + (τ : Int)) = ((sum + τ : Nat) : Int) by omega, show ((p : Int) + 1) = ((p + 1 : Nat) : Int) by omega]
    refine seg_ok hN hc s (p + 1) n (sum + τ) τ E W τ E W hi2 (by omega) (by omega) ⟨[], [], by simp, by simp, rfl, by simp, by simp, rfl⟩ hEW (by omega) (fun e he => by have := hE e he; omega) (by omega) hτ fun n' t' e' w' h1 h2 => ?_
    have := hk n' t' e' w' (by omega) (by rwa [show p + (1 + s.len) = p + 1 + s.len by omega])
    rw [Nat.mul_add, Nat.mul_one] at this
    rwa [show sum + τ + τ * s.most = sum + (τ + τ * s.most) by omega, show p + 1 + s.len = p + (1 + s.len) by omega]
  | .loop m b s, p, n, sum, times, ends, was, τ, E, W, hi, hp, hn, ho, hEW, hEl, hE, hs, hτ, hk => by
    obtain ⟨⟨x, hx, hxo, hxN, hxA⟩, hm1, hib, ⟨y, hy, hyo⟩, hi2⟩ := hi
    simp only [Sk.len, Sk.most] at hp hE hs hk hEl
    have hexp : τ * (1 + m * (b.most + 1) + s.most) = τ + (τ * m) * b.most + τ * m + τ * s.most := by
      rw [Nat.mul_add, Nat.mul_add, Nat.mul_one, Nat.mul_add, Nat.mul_one, Nat.mul_add, Nat.mul_assoc]; omega
    rw [hexp] at hs hk
    obtain ⟨n, rfl⟩ : ∃ m, n = m + 1 := ⟨n - 1, by omega⟩
    show code_Most_l0_b N c ((c.length : Nat) : Int) (fun (y42 : Int) => k y42) (code_Most_l0 N c ((c.length : Nat) : Int) (fun (y42 : Int) => k y42) n) (sum : Int) times (p : Int) ends was = r
    unfold code_Most_l0_b
    rw [if_pos (by simp; omega), at_nat, hx, Option.bind_some]
    have hlast : E.getLast? = none ∨ ∃ e, E.getLast? = some e ∧ (p : Int) < e := by
      cases hl : E.getLast? with
      | none => exact .inl rfl
      | some e => exact .inr ⟨e, rfl, by have := hE e (List.mem_of_getLast? hl); omega⟩
    have hel : ends.length ≤ 10000000 := by
      obtain ⟨es, ws, h1, _, _, h4, _⟩ := ho
      rw [h1]; simp; omega
    rw [pop_ok hlast hEW N times ends was ho (by omega) hel]
    rw [if_pos (by simpa using hxo), if_pos (by simp [maxRow]; omega), if_pos (by simp [maxRow]; omega), hxN, hxA]
    have hmul : (τ : Int) * (m : Int) = ((τ * m : Nat) : Int) := by simp
    rw [hmul]
    rw [wr _ (by omega) (by omega), wr _ (by omega) (by omega), wr _ (by omega) (by omega), show ((sum : Int) + (τ : Int)) = ((sum + τ : Nat) : Int) by omega, show ((p : Int) + 1) = ((p + 1 : Nat) : Int) by omega]
    refine seg_ok hN hc b (p + 1) n (sum + τ) ((τ * m : Nat) : Int) _ _ (τ * m) (E ++ [((p + 2 + b.len : Nat) : Int)]) (W ++ [(τ : Int)]) hib (by omega) (by omega) ⟨[], [], by simp, by simp, rfl, by simp, by simp, rfl⟩ (by simp [hEW]) (by simp; omega) (fun e he => by
      rcases List.mem_append.1 he with he | he
      · have := hE e he; omega
      · simp at he; omega) (by omega) (by omega) fun n1 t1 e1 w1 g1 g2 => ?_
    obtain ⟨n1, rfl⟩ : ∃ q, n1 = q + 1 := ⟨n1 - 1, by omega⟩
    show code_Most_l0_b N c ((c.length : Nat) : Int) (fun (y42 : Int) => k y42) (code_Most_l0 N c ((c.length : Nat) : Int) (fun (y42 : Int) => k y42) n1) ((sum + τ + τ * m * b.most : Nat) : Int) t1 ((p + 1 + b.len : Nat) : Int) e1 w1 = r
    unfold code_Most_l0_b
    rw [if_pos (by simp; omega), at_nat, hy, Option.bind_some]
    have hel1 : e1.length ≤ 10000000 := by
      obtain ⟨es, ws, h1, _, _, h4, _⟩ := g2
      rw [h1]; simp; omega
    rw [pop_ok (E := E ++ [((p + 2 + b.len : Nat) : Int)]) (.inr ⟨((p + 2 + b.len : Nat) : Int), by simp, by omega⟩) (by simp [hEW]) N t1 e1 w1 g2 (by omega) hel1]
    rw [if_neg (by simpa using hyo)]
    rw [wr _ (by omega) (by omega), wr _ (by omega) (by omega)]
    rw [show (((sum + τ + τ * m * b.most : Nat) : Int) + ((τ * m : Nat) : Int)) = ((sum + τ + τ * m * b.most + τ * m : Nat) : Int) by omega, show (((p + 1 + b.len : Nat) : Int) + 1) = ((p + 2 + b.len : Nat) : Int) by omega]
    refine seg_ok hN hc s (p + 2 + b.len) n1 (sum + τ + τ * m * b.most + τ * m) _ _ _ τ E W hi2 (by omega) (by omega) ⟨[((p + 2 + b.len : Nat) : Int)], [(τ : Int)], rfl, rfl, rfl, by simp; omega, by simp, rfl⟩ hEW (by omega) (fun e he => by have := hE e he; omega) (by omega) hτ fun n' t' e' w' h1 h2 => ?_
    have := hk n' t' e' w' (by omega) (by rwa [show p + (b.len + 2 + s.len) = p + 2 + b.len + s.len by omega])
    rwa [show sum + τ + τ * m * b.most + τ * m + τ * s.most = sum + (τ + τ * m * b.most + τ * m + τ * s.most) by omega, show p + 2 + b.len + s.len = p + (b.len + 2 + s.len) by omega]
theorem mostP (hN : 20000000 < N) {c : List Ins} {s : Sk} (h : Is c 0 s) (hl : c.length = s.len) (hc : c.length ≤ 1000000) (hm : s.most ≤ 2 ^ 59) (k : Int → Option R) : code_Most N c k = k (s.most : Int) := by
  unfold code_Most
  have := seg_ok (R := R) (N := N) hN (c := c) hc (k := k) (r := k (s.most : Int)) s 0 N 0 1 [] [] 1 [] [] h (by omega) (by omega) ⟨[], [], rfl, rfl, rfl, by simp, by simp, rfl⟩ rfl (by simp; omega) (by simp) (by omega) (by omega) fun n' t' e' w' h1 h2 => by
    obtain ⟨n', rfl⟩ : ∃ q, n' = q + 1 := ⟨n' - 1, by omega⟩
    show code_Most_l0_b N c ((c.length : Nat) : Int) (fun (y42 : Int) => k y42) (code_Most_l0 N c ((c.length : Nat) : Int) (fun (y42 : Int) => k y42) n') ((0 + 1 * s.most : Nat) : Int) t' ((0 + s.len : Nat) : Int) e' w' = _
    unfold code_Most_l0_b
    rw [if_neg (by simp; omega)]
    simp
  exact this
end
/-- The list l goes on from c without a loop. -/
structure G (c l : List Ins) : Prop where
  pre : l.take c.length = c
  le : c.length ≤ l.length
  own : ∀ (i : Nat) (x : Ins), c.length ≤ i → l[i]? = some x → x.Op ≠ 25
theorem G.refl (c : List Ins) : G c c := ⟨List.take_length, Nat.le_refl _, fun i x h1 h2 => by have := (List.getElem?_eq_some_iff.1 h2).1; omega⟩
theorem G.app {c l : List Ins} (h : G c l) {x : Ins} (hx : x.Op ≠ 25) : G c (l ++ [x]) := ⟨by rw [List.take_append_of_le_length h.le, h.pre], by rw [List.length_append]; have := h.le; omega, fun i y hi hy => by
  by_cases hl : i < l.length
  · rw [List.getElem?_append_left hl] at hy; exact h.own i y hi hy
  · rw [List.getElem?_append_right (by omega)] at hy
    generalize i - l.length = j at hy
    cases j with
    | zero => cases hy; exact hx
    | succ j => simp at hy⟩
section
variable {R : Type} {N : Nat} {V Po Ti : List (List UInt8)} {No : List Node}
theorem here2G {c0 l : List Ins} {i : Nat} (hi : i < l.length) (hb : c0.length ≤ i) (hn : G c0 l) : ∃ l', l'.length = l.length ∧ G c0 l' ∧ ∀ k : List Ins → Option R, code_writer_here N (i : Int) V Po Ti No l k = k l' := by
  have hx : l[(i : Int).toNat]? = some l[i] := List.getElem?_eq_getElem hi
  refine ⟨l.set i ⟨(l[i]).Op, (l.length : Nat), (l[i]).N, (l[i]).S⟩, by rw [List.length_set], ⟨by rw [List.take_set_of_le hb]; exact hn.pre, by rw [List.length_set]; exact hn.le, fun j y hj hy => ?_⟩, fun k => ?_⟩
  · by_cases e : j = i
    · subst e
      rw [List.getElem?_set_self hi] at hy
      cases hy
      exact (hn.own j (l[j]) hj (List.getElem?_eq_getElem hi) :)
    · rw [List.getElem?_set_ne (Ne.symm e)] at hy
      exact hn.own j y hj hy
  · unfold code_writer_here
    rw [if_pos ⟨by omega, by omega⟩, hx]
    rfl
theorem tail5G {F : Fam_code_writer_expr_2} {c0 l : List Ins} (hl : l.length ≤ 1000000) (hn : G c0 l) {i : Nat} (hi : i < l.length) (hb : c0.length ≤ i) : ∃ l', l'.length = l.length + 4 ∧ G c0 l' ∧ ∀ k : List Ins → Option R, code_writer_both_2_c5 F N (i : Int) V Po Ti No l k = k l' := by
  have n1 : G c0 (l ++ [(⟨24, 0, 0, []⟩ : Ins)]) := hn.app (by decide)
  have n2 : G c0 (l ++ [(⟨24, 0, 0, []⟩ : Ins)] ++ [(⟨1, 0, 1, []⟩ : Ins)]) := n1.app (by decide)
  have n3 : G c0 (l ++ [(⟨24, 0, 0, []⟩ : Ins)] ++ [(⟨1, 0, 1, []⟩ : Ins)] ++ [(⟨23, 0, 0, []⟩ : Ins)]) := n2.app (by decide)
  have e3 : (l ++ [(⟨24, 0, 0, []⟩ : Ins)] ++ [(⟨1, 0, 1, []⟩ : Ins)] ++ [(⟨23, 0, 0, []⟩ : Ins)]).length = l.length + 3 := by simp
  have e2 : (l ++ [(⟨24, 0, 0, []⟩ : Ins)] ++ [(⟨1, 0, 1, []⟩ : Ins)]).length = l.length + 2 := by simp
  have e1 : (l ++ [(⟨24, 0, 0, []⟩ : Ins)]).length = l.length + 1 := by simp
  obtain ⟨l4, a1, a2, a3⟩ := here2G (R := R) (N := N) (V := V) (Po := Po) (Ti := Ti) (No := No) (i := i) (by omega) hb n3
  obtain ⟨l5, b1, b2, b3⟩ := here2G (R := R) (N := N) (V := V) (Po := Po) (Ti := Ti) (No := No) (i := l.length) (by omega) hn.le a2
  have n6 : G c0 (l5 ++ [⟨1, 0, 0, []⟩]) := b2.app (by decide)
  have e6 : (l5 ++ [(⟨1, 0, 0, []⟩ : Ins)]).length = l.length + 4 := by rw [List.length_append, b1, a1, e3]; rfl
  obtain ⟨l7, c1, c2, c3⟩ := here2G (R := R) (N := N) (V := V) (Po := Po) (Ti := Ti) (No := No) (i := l.length + 2) (by omega) (by have := hn.le; omega) n6
  refine ⟨l7, by omega, c2, fun k => ?_⟩
  unfold code_writer_both_2_c5
  rw [put2 (by omega), push2 (by omega)]
  unfold code_writer_both_2_c7
  rw [put2 (by omega), e2, a3, b3, push2 (by omega), c3]
theorem tail16G {F : Fam_code_writer_expr_2} {c0 l : List Ins} (hl : l.length ≤ 1000000) (hn : G c0 l) {i : Nat} (hi : i < l.length) (hb : c0.length ≤ i) : ∃ l', l'.length = l.length + 4 ∧ G c0 l' ∧ ∀ k : List Ins → Option R, code_writer_both_2_c16 F N (i : Int) V Po Ti No l k = k l' := by
  have n1 : G c0 (l ++ [(⟨24, 0, 0, []⟩ : Ins)]) := hn.app (by decide)
  have n2 : G c0 (l ++ [(⟨24, 0, 0, []⟩ : Ins)] ++ [(⟨1, 0, 1, []⟩ : Ins)]) := n1.app (by decide)
  have n3 : G c0 (l ++ [(⟨24, 0, 0, []⟩ : Ins)] ++ [(⟨1, 0, 1, []⟩ : Ins)] ++ [(⟨23, 0, 0, []⟩ : Ins)]) := n2.app (by decide)
  have e3 : (l ++ [(⟨24, 0, 0, []⟩ : Ins)] ++ [(⟨1, 0, 1, []⟩ : Ins)] ++ [(⟨23, 0, 0, []⟩ : Ins)]).length = l.length + 3 := by simp
  have e2 : (l ++ [(⟨24, 0, 0, []⟩ : Ins)] ++ [(⟨1, 0, 1, []⟩ : Ins)]).length = l.length + 2 := by simp
  have e1 : (l ++ [(⟨24, 0, 0, []⟩ : Ins)]).length = l.length + 1 := by simp
  obtain ⟨l4, a1, a2, a3⟩ := here2G (R := R) (N := N) (V := V) (Po := Po) (Ti := Ti) (No := No) (i := l.length) (by omega) hn.le n3
  have n6 : G c0 (l4 ++ [⟨1, 0, 0, []⟩]) := a2.app (by decide)
  have e6 : (l4 ++ [(⟨1, 0, 0, []⟩ : Ins)]).length = l.length + 4 := by rw [List.length_append, a1, e3]; rfl
  obtain ⟨l7, c1, c2, c3⟩ := here2G (R := R) (N := N) (V := V) (Po := Po) (Ti := Ti) (No := No) (i := i) (by omega) hb n6
  obtain ⟨l8, d1, d2, d3⟩ := here2G (R := R) (N := N) (V := V) (Po := Po) (Ti := Ti) (No := No) (i := l.length + 2) (by omega) (by have := hn.le; omega) c2
  refine ⟨l8, by omega, d2, fun k => ?_⟩
  unfold code_writer_both_2_c16
  rw [put2 (by omega)]
  unfold code_writer_both_2_c17
  rw [push2 (by omega), put2 (by omega), e2, a3, push2 (by omega), c3, d3]
theorem cw_2G {c0 : List Ins} (hN : big ≤ N) (hV : V.length ≤ 1000) : ∀ (t : Tr) (m : Nat) (c : List Ins), t.ok → 2 * t.dep < m → c.length + t.len ≤ 1000000 → G c0 c →
    ∃ l, (∀ (k : List Ins → Option R) (k1 : Option R), (Fam_code_writer_expr_2_at N m).code_writer_expr_2 R t.e.Kind t.e.N t.e.Name t.e.Kids t.e.At V Po Ti [] c k k1 = k l) ∧ l.length = c.length + t.len ∧ G c0 l := by
  have hb : big = 1000000000 := rfl
  have hN3 : ∃ q, N = q + 3 := ⟨N - 3, by omega⟩
  intro t
  induction t with
  | leaf kd n s =>
    intro m c h1 h2 h3 hc
    obtain ⟨m, rfl⟩ : ∃ q, m = q + 1 := ⟨m - 1, by omega⟩
    simp only [Tr.len] at h3
    have h1 : kd = 1 ∨ kd = 2 ∨ kd = 3 := h1
    rcases h1 with rfl | rfl | rfl
    · refine ⟨c ++ [⟨1, 0, n, []⟩], fun k k1 => ?_, by simp [Tr.len], hc.app (by simp)⟩
      show code_writer_expr_2_d (Fam_code_writer_expr_2_at N m) N 1 n s [] 0 V Po Ti [] c k k1 = _
      unfold code_writer_expr_2_d
      rw [if_pos (by rfl), push2 (by omega)]
    · obtain ⟨x, hx⟩ := index2 (R := R) hN V hV s
      refine ⟨c ++ [⟨2, x, 0, []⟩], fun k k1 => ?_, by simp [Tr.len], hc.app (by simp)⟩
      show code_writer_expr_2_d (Fam_code_writer_expr_2_at N m) N 2 n s [] 0 V Po Ti [] c k k1 = _
      unfold code_writer_expr_2_d
      rw [if_neg (by decide), if_pos (by rfl), hx, put2 (by omega)]
    · refine ⟨c ++ [⟨3, 0, 0, []⟩], fun k k1 => ?_, by simp [Tr.len], hc.app (by simp)⟩
      show code_writer_expr_2_d (Fam_code_writer_expr_2_at N m) N 3 n s [] 0 V Po Ti [] c k k1 = _
      unfold code_writer_expr_2_d
      rw [if_neg (by decide), if_neg (by decide), if_pos (by rfl), put2 (by omega)]
  | one kd a iha =>
    intro m c h1 h2 h3 hc
    obtain ⟨m, rfl⟩ : ∃ q, m = q + 1 := ⟨m - 1, by omega⟩
    obtain ⟨h1, h4⟩ := h1
    simp only [Tr.len, Tr.dep] at h3 h2
    obtain ⟨l1, f1, n1, g1⟩ := iha m c h4 (by omega) (by omega) hc
    refine ⟨l1 ++ [⟨kd, 0, 0, []⟩], fun k k1 => ?_, by simp only [Tr.len, List.length_append, List.length_cons, List.length_nil]; omega, g1.app (by simp only; omega)⟩
    show code_writer_expr_2_d (Fam_code_writer_expr_2_at N m) N kd 0 [] [a.e] 0 V Po Ti [] c k k1 = _
    unfold code_writer_expr_2_d
    rw [if_neg (by simp; omega), if_neg (by simp; omega), if_neg (by simp; omega), if_neg (by simp; omega), if_neg (by simp; omega)]
    unfold code_writer_expr_2_c18
    rw [if_neg (by simp; omega)]
    obtain ⟨q, rfl⟩ := hN3
    simp only [code_writer_expr_2_l1, code_writer_expr_2_l1_b]
    rw [if_pos (by simp), show at? [a.e] 0 = some a.e from rfl, Option.bind_some, f1, show IntKind.wrap .i64 (0 + 1) = 1 from rfl, if_neg (by simp), cop (by omega) (by omega), put2 (by omega)]
  | two kd a b iha ihb =>
    intro m c h1 h2 h3 hc
    obtain ⟨⟨h1, h1'⟩, h4, h5⟩ := h1
    simp only [Tr.len, Tr.dep] at h3 h2
    obtain ⟨m, rfl⟩ : ∃ q, m = q + 2 := ⟨m - 2, by omega⟩
    have at0 : at? [a.e, b.e] 0 = some a.e := rfl
    have at1 : at? [a.e, b.e] 1 = some b.e := rfl
    have dsp : kd = 18 ∨ kd = 19 → ∀ (k : List Ins → Option R) (k1 : Option R), (Fam_code_writer_expr_2_at N (m + 2)).code_writer_expr_2 R kd 0 [] [a.e, b.e] 0 V Po Ti [] c k k1 = code_writer_both_2_d (Fam_code_writer_expr_2_at N m) N kd 0 [] [a.e, b.e] 0 V Po Ti [] c k := by
      intro hk k k1
      show code_writer_expr_2_d (Fam_code_writer_expr_2_at N (m + 1)) N kd 0 [] [a.e, b.e] 0 V Po Ti [] c k k1 = _
      unfold code_writer_expr_2_d
      rw [if_neg (by simp; omega), if_neg (by simp; omega), if_neg (by simp; omega), if_neg (by simp; omega)]
      have c18 : ∀ q : Bool, q = true → code_writer_expr_2_c18 (Fam_code_writer_expr_2_at N (m + 1)) N q V Po Ti [] c kd 0 [] [a.e, b.e] 0 (fun (y : List Ins) => k y) k1 = code_writer_both_2_d (Fam_code_writer_expr_2_at N m) N kd 0 [] [a.e, b.e] 0 V Po Ti [] c k := by
        intro q hq
        unfold code_writer_expr_2_c18
        rw [if_pos hq, if_pos (by rfl)]
        rfl
      rcases hk with rfl | rfl
      · rw [if_pos (by rfl)]; exact c18 _ rfl
      · rw [if_neg (by decide)]; exact c18 _ rfl
    by_cases c18 : kd = 18
    · subst c18
      rw [if_pos rfl] at h3
      obtain ⟨l1, f1, n1, g1⟩ := iha m c h4 (by omega) (by omega) hc
      have g2 : G c0 (l1 ++ [(⟨24, 0, 0, []⟩ : Ins)]) := g1.app (by decide)
      have e2 : (l1 ++ [(⟨24, 0, 0, []⟩ : Ins)]).length = l1.length + 1 := by simp
      obtain ⟨l3, f3, n3, g3⟩ := ihb m (l1 ++ [(⟨24, 0, 0, []⟩ : Ins)]) h5 (by omega) (by omega) g2
      obtain ⟨l4, n4, g4, f4⟩ := tail5G (R := R) (N := N) (V := V) (Po := Po) (Ti := Ti) (No := []) (F := Fam_code_writer_expr_2_at N m) (l := l3) (by omega) g3 (i := l1.length) (by omega) g1.le
      refine ⟨l4, fun k k1 => ?_, ?_, g4⟩
      · refine (dsp (.inl rfl) k k1).trans ?_
        unfold code_writer_both_2_d
        rw [at0, Option.bind_some, f1]
        unfold code_writer_both_2_c2
        rw [put2 (by omega), if_pos (by rfl), at1, Option.bind_some, f3]
        exact f4 _
      · show _ = _ + (a.len + b.len + (if (18 : Int) = 18 then 5 else _)); rw [if_pos rfl]; omega
    · rw [if_neg c18] at h3
      by_cases c19 : kd = 19
      · subst c19
        rw [if_pos rfl] at h3
        obtain ⟨l1, f1, n1, g1⟩ := iha m c h4 (by omega) (by omega) hc
        have g2 : G c0 (l1 ++ [(⟨24, 0, 0, []⟩ : Ins)]) := g1.app (by decide)
        have g22 : G c0 (l1 ++ [(⟨24, 0, 0, []⟩ : Ins)] ++ [(⟨1, 0, 1, []⟩ : Ins)]) := g2.app (by decide)
        have g23 : G c0 (l1 ++ [(⟨24, 0, 0, []⟩ : Ins)] ++ [(⟨1, 0, 1, []⟩ : Ins)] ++ [(⟨23, 0, 0, []⟩ : Ins)]) := g22.app (by decide)
        have e1 : (l1 ++ [(⟨24, 0, 0, []⟩ : Ins)]).length = l1.length + 1 := by simp
        have e2 : (l1 ++ [(⟨24, 0, 0, []⟩ : Ins)] ++ [(⟨1, 0, 1, []⟩ : Ins)]).length = l1.length + 2 := by simp
        have e3 : (l1 ++ [(⟨24, 0, 0, []⟩ : Ins)] ++ [(⟨1, 0, 1, []⟩ : Ins)] ++ [(⟨23, 0, 0, []⟩ : Ins)]).length = l1.length + 3 := by simp
        obtain ⟨l2, a1, a2, a3⟩ := here2G (R := R) (N := N) (V := V) (Po := Po) (Ti := Ti) (No := []) (i := l1.length) (by omega) g1.le g23
        obtain ⟨l3, f3, n3, g3⟩ := ihb m l2 h5 (by omega) (by omega) a2
        obtain ⟨l4, n4, g4, f4⟩ := tail16G (R := R) (N := N) (V := V) (Po := Po) (Ti := Ti) (No := []) (F := Fam_code_writer_expr_2_at N m) (l := l3) (by omega) g3 (i := l1.length + 2) (by omega) (by have := g1.le; omega)
        refine ⟨l4, fun k k1 => ?_, ?_, g4⟩
        · refine (dsp (.inr rfl) k k1).trans ?_
          unfold code_writer_both_2_d
          rw [at0, Option.bind_some, f1]
          unfold code_writer_both_2_c2
          rw [put2 (by omega), if_neg (by decide)]
          unfold code_writer_both_2_c12
          rw [push2 (by omega), put2 (by omega), e2, a3, at1, Option.bind_some, f3]
          exact f4 _
        · show _ = _ + (a.len + b.len + (if (19 : Int) = 18 then 5 else if (19 : Int) = 19 then 7 else 1)); rw [if_neg (by decide), if_pos rfl]; omega
      · rw [if_neg c19] at h3
        obtain ⟨l1, f1, n1, g1⟩ := iha (m + 1) c h4 (by omega) (by omega) hc
        obtain ⟨l3, f3, n3, g3⟩ := ihb (m + 1) l1 h5 (by omega) (by omega) g1
        refine ⟨l3 ++ [⟨kd, 0, 0, []⟩], fun k k1 => ?_, ?_, g3.app (by simp only; omega)⟩
        · show code_writer_expr_2_d (Fam_code_writer_expr_2_at N (m + 1)) N kd 0 [] [a.e, b.e] 0 V Po Ti [] c k k1 = _
          unfold code_writer_expr_2_d
          rw [if_neg (by simp; omega), if_neg (by simp; omega), if_neg (by simp; omega), if_neg (by simp; omega), if_neg (by simp; omega)]
          unfold code_writer_expr_2_c18
          rw [if_neg (by simp; omega)]
          obtain ⟨q, rfl⟩ := hN3
          simp only [code_writer_expr_2_l1, code_writer_expr_2_l1_b]
          rw [if_pos (by simp), at0, Option.bind_some, f1, show IntKind.wrap .i64 (0 + 1) = 1 from rfl, if_pos (by simp), at1, Option.bind_some, f3, show IntKind.wrap .i64 (1 + 1) = 2 from rfl, if_neg (by simp), cop (by omega) (by omega), put2 (by omega)]
        · rw [List.length_append]; show l3.length + 1 = _ + (a.len + b.len + (if kd = 18 then 5 else if kd = 19 then 7 else 1)); rw [if_neg c18, if_neg c19]; omega
end
noncomputable def flX (N : Nat) (X : List Expr) : Bool := (slices_ContainsFunc_Expr N X (fun b => some b)).getD false
theorem fl_nil {R : Type} {N : Nat} (hN : 10 < N) (k : Bool → Option R) : slices_ContainsFunc_Expr N [] k = k false := by
  obtain ⟨N, rfl⟩ : ∃ q, N = q + 3 := ⟨N - 3, by omega⟩
  rfl
theorem fl_one {R : Type} {N : Nat} (hN : 100 < N) {t : Tr} (h1 : t.ok) (h2 : t.dep ≤ 2) (k : Bool → Option R) : slices_ContainsFunc_Expr N [t.e] k = k t.bad := by
  obtain ⟨M, rfl⟩ : ∃ q, N = q + 3 := ⟨N - 3, by omega⟩
  show slices_IndexFunc_Expr_l0_b (Fam_effect_may_at (M + 3) (M + 1)) (M + 3) [t.e] ((([t.e].length : Nat) : Int)) (k (decide ((-1 : Int) ≥ 0))) (fun (y6 : Int) => k (decide (y6 ≥ 0))) (slices_IndexFunc_Expr_l0 (Fam_effect_may_at (M + 3) (M + 1)) (M + 3) [t.e] ((([t.e].length : Nat) : Int)) (k (decide ((-1 : Int) ≥ 0))) (fun (y6 : Int) => k (decide (y6 ≥ 0))) (M + 2)) 0 = k t.bad
  unfold slices_IndexFunc_Expr_l0_b
  rw [if_pos (by simp)]
  rw [show at? [t.e] 0 = some t.e from rfl, Option.bind_some, may30 (by omega) t (M + 1) _ h1 (by omega)]
  cases t.bad with
  | true => rfl
  | false =>
    rw [if_neg (by simp), wr _ (by omega) (by omega)]
    rfl
theorem flX_nil {N : Nat} (hN : 100 < N) : flX N [] = false := by unfold flX; rw [fl_nil (by omega)]; rfl
theorem flX_one {N : Nat} (hN : 100 < N) {t : Tr} (h1 : t.ok) (h2 : t.dep ≤ 2) : flX N [t.e] = t.bad := by unfold flX; rw [fl_one hN h1 h2]; rfl
theorem fl_spec {N : Nat} (hN : 100 < N) {X : List Expr} (h : xsOK X) : slices_ContainsFunc_Expr N X (fun b => some b) = some (flX N X) := by
  rcases h with rfl | ⟨t, rfl, h1, h2⟩
  · rw [fl_nil (by omega), flX_nil hN]
  · rw [fl_one hN h1 h2, flX_one hN h1 h2]
theorem dep_BOK {N : Nat} (hN : 100 < N) : ∀ {d : Nat} {l : List Act}, BOK d l → dep N (flX N) (d + 1) l := by
  intro d
  induction d with
  | zero =>
    intro l h
    obtain ⟨h1, h2⟩ := BOK_iff.1 h
    refine ⟨by simp only [maxRow]; omega, fun a ha => ?_⟩
    obtain ⟨x, _, y⟩ := h2 a ha
    refine ⟨fl_spec hN x, fun k => ?_, fun k => ?_⟩
    · rcases y with ⟨_, y, _⟩ | ⟨y, _⟩ <;> omega
    · rcases y with ⟨_, y, _⟩ | ⟨_, _, _, _, y⟩
      · omega
      · exact y.elim
  | succ d ih =>
    intro l h
    obtain ⟨h1, h2⟩ := BOK_iff.1 h
    refine ⟨by simp only [maxRow]; omega, fun a ha => ?_⟩
    obtain ⟨x, _, y⟩ := h2 a ha
    refine ⟨fl_spec hN x, fun k => ?_, fun k => ?_⟩
    · rcases y with ⟨_, y, _⟩ | ⟨y, _⟩ <;> omega
    · rcases y with ⟨_, y, _⟩ | ⟨_, _, _, _, y⟩
      · omega
      · exact ih y
def bst : Nat → Nat
  | 0 => 2200000
  | d + 1 => 2 * (1100000 + 5 * bst d)
theorem cst_nil : ∀ d, cst d [] = 0
  | 0 => rfl
  | _ + 1 => rfl
theorem cstL_le {g : Act → Nat} {B : Nat} : ∀ {l : List Act}, (∀ a ∈ l, g a ≤ B) → cstL g l ≤ l.length * B
  | [], _ => by simp [cstL]
  | a :: r, h => by
    have h1 := h a (by simp)
    have h2 := cstL_le (l := r) fun b hb => h b (List.mem_cons_of_mem _ hb)
    simp only [cstL, List.length_cons]
    rw [Nat.succ_mul]
    omega
theorem cst_BOK : ∀ {d : Nat} {l : List Act}, BOK d l → cst (d + 1) l ≤ bst d := by
  intro d
  induction d with
  | zero =>
    intro l h
    obtain ⟨h1, h2⟩ := BOK_iff.1 h
    have : cst 1 l ≤ l.length * 1100000 := cstL_le fun a ha => by simp [cst]
    have h3 : l.length * 1100000 ≤ 2 * 1100000 := Nat.mul_le_mul_right _ h1
    show cst 1 l ≤ bst 0
    simp only [bst]; omega
  | succ d ih =>
    intro l h
    obtain ⟨h1, h2⟩ := BOK_iff.1 h
    have : cst (d + 2) l ≤ l.length * (1100000 + 5 * bst d) := cstL_le fun a ha => by
      obtain ⟨x, y1, y⟩ := h2 a ha
      rw [y1, cst_nil]
      rcases y with ⟨_, _, y, _⟩ | ⟨_, _, y2, y3, y⟩
      · rw [y, cst_nil]; omega
      · have := ih y
        have hr : rnd a ≤ 4 := by unfold rnd; split <;> omega
        have h5 : rnd a * cst (d + 1) a.Then ≤ 4 * cst (d + 1) a.Then := Nat.mul_le_mul_right _ hr
        omega
    have h3 : l.length * (1100000 + 5 * bst d) ≤ 2 * (1100000 + 5 * bst d) := Nat.mul_le_mul_right _ h1
    show cst (d + 2) l ≤ bst (d + 1)
    simp only [bst]; omega
section
variable {R : Type} {N : Nat} {P : R → Prop}
theorem rput {row rounds Vars : List Int} {Ra : List Msg} {Fx : List Effc} {n v co cd ag at_ : Int} (h : row.length ≤ 1000000) (k : List Int → Option R) : r17_running_put_4 N n v co cd ag at_ Vars Ra Fx row rounds k = k (row ++ [n]) := by
  have hm : maxRow = 68719476736 := rfl
  unfold r17_running_put_4
  rw [if_pos (by simp only [List.length_nil]; omega), if_pos (by simp only [List.length_append, List.length_cons, List.length_nil]; omega)]
  rfl
theorem rtake {row rounds Vars : List Int} {Ra : List Msg} {Fx : List Effc} {v co cd ag at_ : Int} (h : row.length ≤ 1000000) : ∃ x row', row'.length ≤ row.length ∧ ∀ k : Int → List Int → Option R, r17_running_take_4 N v co cd ag at_ Vars Ra Fx row rounds k = k x row' := by
  unfold r17_running_take_4
  by_cases h0 : row.length = 0
  · exact ⟨0, row, Nat.le_refl _, fun k => by rw [if_pos (by simpa using h0)]⟩
  · have w : IntKind.wrap .i64 (((row.length : Nat) : Int) - 1) = ((row.length - 1 : Nat) : Int) := by rw [wr _ (by omega) (by omega)]; omega
    rw [w]
    have hx : row[((row.length - 1 : Nat) : Int).toNat]? = some (row[row.length - 1]'(by omega)) := List.getElem?_eq_getElem (by omega)
    refine ⟨row[row.length - 1]'(by omega), row.take (row.length - 1), by rw [List.length_take]; omega, fun k => ?_⟩
    rw [if_neg (by simpa using h0), if_pos ⟨by omega, by omega⟩, hx]
    dsimp only
    have c1 : (0 : Int) ≤ ((row.length - 1 : Nat) : Int) := by omega
    have c2 : ((row.length - 1 : Nat) : Int) ≤ ((row.length : Nat) : Int) := by omega
    rw [if_pos (And.intro (Int.le_refl 0) (And.intro c1 c2))]
    rfl
theorem ifB_some (q w x y : Bool) : ∃ b, ifB q w (some x) (some y) = some b := by
  unfold ifB
  split <;> exact ⟨_, rfl⟩
theorem rsub (a b : Int) : ∃ v c, ∀ k : Int → Int → Option R, r1_Sub N a b k = k v c := by
  unfold r1_Sub
  obtain ⟨b1, h1⟩ := ifB_some (decide (b < 0)) true (decide (a > (IntKind.wrap .i64 (9223372036854775807 + b)))) false
  obtain ⟨b2, h2⟩ := ifB_some (decide (b > 0)) true (decide (a < (IntKind.wrap .i64 ((-9223372036854775808) + b)))) false
  obtain ⟨b3, h3⟩ := ifB_some b1 false b2 true
  cases b3 with
  | true => exact ⟨0, 2, fun k => by rw [h1, Option.bind_some, h2, Option.bind_some, h3, Option.bind_some, if_pos rfl]⟩
  | false => exact ⟨_, 0, fun k => by rw [h1, Option.bind_some, h2, Option.bind_some, h3, Option.bind_some, if_neg (by simp)]⟩
theorem radd (a b : Int) : ∃ v c, ∀ k : Int → Int → Option R, r1_Add N a b k = k v c := by
  unfold r1_Add
  obtain ⟨b1, h1⟩ := ifB_some (decide (b > 0)) true (decide (a > (IntKind.wrap .i64 (9223372036854775807 - b)))) false
  obtain ⟨b2, h2⟩ := ifB_some (decide (b < 0)) true (decide (a < (IntKind.wrap .i64 ((-9223372036854775808) - b)))) false
  obtain ⟨b3, h3⟩ := ifB_some b1 false b2 true
  cases b3 with
  | true => exact ⟨0, 2, fun k => by rw [h1, Option.bind_some, h2, Option.bind_some, h3, Option.bind_some, if_pos rfl]⟩
  | false => exact ⟨_, 0, fun k => by rw [h1, Option.bind_some, h2, Option.bind_some, h3, Option.bind_some, if_neg (by simp)]⟩
theorem rmul (a b : Int) : ∃ v c, ∀ k : Int → Int → Option R, r1_Mul N a b k = k v c := by
  unfold r1_Mul
  obtain ⟨b1, h1⟩ := ifB_some (a == 0) false (b == 0) true
  simp only [h1, Option.bind_some]
  cases b1 with
  | true => exact ⟨0, 0, fun k => by rw [if_pos rfl]⟩
  | false =>
    have hb0 : b ≠ 0 := by
      rintro rfl
      unfold ifB at h1
      split at h1 <;> simp at h1
    obtain ⟨b2, h2⟩ := ifB_some (a == (-1)) true (b == (-9223372036854775808)) false
    obtain ⟨b3, h3⟩ := ifB_some (b == (-1)) true (a == (-9223372036854775808)) false
    obtain ⟨b4, h4⟩ := ifB_some b2 false b3 true
    simp only [h2, h3, h4, Option.bind_some]
    cases b4 with
    | true => exact ⟨0, 2, fun k => by rw [if_neg (by simp), if_pos rfl]⟩
    | false =>
      by_cases hq : ((IntKind.wrap .i64 (Int.tdiv (IntKind.wrap .i64 (a * b)) b)) != a) = true
      · exact ⟨0, 2, fun k => by rw [if_neg (by simp), if_neg (by simp), if_neg hb0, if_pos hq]⟩
      · exact ⟨_, 0, fun k => by rw [if_neg (by simp), if_neg (by simp), if_neg hb0, if_neg hq]⟩
theorem rdiv (a b : Int) : ∃ v c, ∀ k : Int → Int → Option R, r1_Div N a b k = k v c := by
  unfold r1_Div
  by_cases h0 : b = 0
  · exact ⟨0, 3, fun k => by rw [if_pos (by simpa using h0)]⟩
  · obtain ⟨b1, h1⟩ := ifB_some (b == (-1)) true (a == (-9223372036854775808)) false
    simp only [h1, Option.bind_some]
    cases b1 with
    | true => exact ⟨0, 2, fun k => by rw [if_neg (by simpa using h0), if_pos rfl]⟩
    | false => exact ⟨_, 0, fun k => by rw [if_neg (by simpa using h0), if_neg (by simp), if_neg h0]⟩
theorem rmod (a b : Int) : ∃ v c, ∀ k : Int → Int → Option R, r1_Mod N a b k = k v c := by
  unfold r1_Mod
  by_cases h0 : b = 0
  · exact ⟨0, 3, fun k => by rw [if_pos (by simpa using h0)]⟩
  · by_cases h1 : (b == (-1)) = true
    · exact ⟨0, 0, fun k => by rw [if_neg (by simpa using h0), if_pos h1]⟩
    · exact ⟨_, 0, fun k => by rw [if_neg (by simpa using h0), if_neg h1, if_neg h0]⟩
theorem rtruth (b : Bool) : ∃ v, ∀ k : Int → Option R, r17_truth N b k = k v := by
  unfold r17_truth
  cases b with
  | true => exact ⟨1, fun k => if_pos rfl⟩
  | false => exact ⟨0, fun k => if_neg (by simp)⟩
theorem rtwo (op a b : Int) : ∃ v c, (¬ (7 ≤ op ∧ op ≤ 11) → c = 0) ∧ ∀ k : Int → Int → Option R, r17_two N op a b k = k v c := by
  unfold r17_two
  by_cases c7 : op = 7
  · subst c7; obtain ⟨v, c, h⟩ := rmul (R := R) (N := N) a b; exact ⟨v, c, fun q => absurd q (by omega), fun k => by rw [if_pos (by rfl), h]⟩
  by_cases c8 : op = 8
  · subst c8; obtain ⟨v, c, h⟩ := rdiv (R := R) (N := N) a b; exact ⟨v, c, fun q => absurd q (by omega), fun k => by rw [if_neg (by decide), if_pos (by rfl), h]⟩
  by_cases c9 : op = 9
  · subst c9; obtain ⟨v, c, h⟩ := rmod (R := R) (N := N) a b; exact ⟨v, c, fun q => absurd q (by omega), fun k => by rw [if_neg (by decide), if_neg (by decide), if_pos (by rfl), h]⟩
  by_cases c10 : op = 10
  · subst c10; obtain ⟨v, c, h⟩ := radd (R := R) (N := N) a b; exact ⟨v, c, fun q => absurd q (by omega), fun k => by rw [if_neg (by decide), if_neg (by decide), if_neg (by decide), if_pos (by rfl), h]⟩
  by_cases c11 : op = 11
  · subst c11; obtain ⟨v, c, h⟩ := rsub (R := R) (N := N) a b; exact ⟨v, c, fun q => absurd q (by omega), fun k => by rw [if_neg (by decide), if_neg (by decide), if_neg (by decide), if_neg (by decide), if_pos (by rfl), h]⟩
  have pre : ∀ z w1 w2 w3 w4 w5 : Option R, (if (op == 7) = true then w1 else if (op == 8) = true then w2 else if (op == 9) = true then w3 else if (op == 10) = true then w4 else if (op == 11) = true then w5 else z) = z := fun z w1 w2 w3 w4 w5 => by
    rw [if_neg (by simpa using c7), if_neg (by simpa using c8), if_neg (by simpa using c9), if_neg (by simpa using c10), if_neg (by simpa using c11)]
  simp only [pre]
  by_cases c12 : op = 12
  · obtain ⟨v, h⟩ := rtruth (R := R) (N := N) (decide (a < b)); exact ⟨v, 0, fun _ => rfl, fun k => by rw [if_pos (by simpa using c12), h]⟩
  by_cases c13 : op = 13
  · obtain ⟨v, h⟩ := rtruth (R := R) (N := N) (decide (a ≤ b)); exact ⟨v, 0, fun _ => rfl, fun k => by rw [if_neg (by simpa using c12), if_pos (by simpa using c13), h]⟩
  by_cases c14 : op = 14
  · obtain ⟨v, h⟩ := rtruth (R := R) (N := N) (decide (a > b)); exact ⟨v, 0, fun _ => rfl, fun k => by rw [if_neg (by simpa using c12), if_neg (by simpa using c13), if_pos (by simpa using c14), h]⟩
  by_cases c15 : op = 15
  · obtain ⟨v, h⟩ := rtruth (R := R) (N := N) (decide (a ≥ b)); exact ⟨v, 0, fun _ => rfl, fun k => by rw [if_neg (by simpa using c12), if_neg (by simpa using c13), if_neg (by simpa using c14), if_pos (by simpa using c15), h]⟩
  by_cases c16 : op = 16
  · obtain ⟨v, h⟩ := rtruth (R := R) (N := N) (a == b); exact ⟨v, 0, fun _ => rfl, fun k => by rw [if_neg (by simpa using c12), if_neg (by simpa using c13), if_neg (by simpa using c14), if_neg (by simpa using c15), if_pos (by simpa using c16), h]⟩
  obtain ⟨v, h⟩ := rtruth (R := R) (N := N) (a != b)
  exact ⟨v, 0, fun _ => rfl, fun k => by rw [if_neg (by simpa using c12), if_neg (by simpa using c13), if_neg (by simpa using c14), if_neg (by simpa using c15), if_neg (by simpa using c16), h]⟩
theorem reckon_ok {row rounds Vars : List Int} {Ra : List Msg} {Fx : List Effc} {v co cd ag at_ Op A n : Int} {s : List UInt8} (hN : 1 ≤ N) (h : row.length + 1 ≤ 1000000) (h1 : 1 ≤ Op) (h2 : Op ≤ 17) (k0 k1 : Int → List Int → Option R)
    (hk0 : ∀ c row', row'.length ≤ row.length + 1 → (Op ≠ 5 → ¬ (7 ≤ Op ∧ Op ≤ 11) → c = 0) → Ok P (k0 c row')) (hk1 : ∀ c row', row'.length ≤ row.length + 1 → (Op ≠ 5 → ¬ (7 ≤ Op ∧ Op ≤ 11) → c = 0) → Ok P (k1 c row')) :
    Ok P (r17_running_reckon_4 N Op A n s v co cd ag at_ Vars Ra Fx row rounds k0 k1) := by
  have ap : ∀ (r : List Int) (x : Int), r.length ≤ row.length → (r ++ [x]).length ≤ row.length + 1 := fun r x h => by rw [List.length_append, List.length_cons, List.length_nil]; omega
  unfold r17_running_reckon_4
  by_cases c1 : Op = 1
  · rw [if_pos (by simpa using c1), rput (by omega)]; exact hk0 _ _ (ap _ _ (Nat.le_refl _)) fun _ _ => rfl
  rw [if_neg (by simpa using c1)]
  by_cases c2 : Op = 2
  · rw [if_pos (by simpa using c2)]
    by_cases hA : 0 ≤ A
    · by_cases hB : A < (Vars.length : Int)
      · have hx : Vars[A.toNat]? = some (Vars[A.toNat]'(by omega)) := List.getElem?_eq_getElem (by omega)
        rw [show decide (A ≥ 0) = true by simpa using hA, show decide (A < ((Vars.length : Nat) : Int)) = true by simpa using hB, ifB_tt, Option.bind_some, if_pos rfl, if_pos ⟨hA, hB⟩, hx]
        dsimp only
        unfold r17_running_reckon_4_c13
        rw [rput (by omega)]; exact hk0 _ _ (ap _ _ (Nat.le_refl _)) fun _ _ => rfl
      · rw [show decide (A ≥ 0) = true by simpa using hA, show decide (A < ((Vars.length : Nat) : Int)) = false by simpa using hB, ifB_tt, Option.bind_some, if_neg (by simp)]
        unfold r17_running_reckon_4_c13
        rw [rput (by omega)]; exact hk0 _ _ (ap _ _ (Nat.le_refl _)) fun _ _ => rfl
    · rw [show decide (A ≥ 0) = false by simpa using hA, ifB_ft, Option.bind_some, if_neg (by simp)]
      unfold r17_running_reckon_4_c13
      rw [rput (by omega)]; exact hk0 _ _ (ap _ _ (Nat.le_refl _)) fun _ _ => rfl
  rw [if_neg (by simpa using c2)]
  by_cases c3 : Op = 3
  · rw [if_pos (by simpa using c3), rput (by omega)]; exact hk0 _ _ (ap _ _ (Nat.le_refl _)) fun _ _ => rfl
  rw [if_neg (by simpa using c3)]
  by_cases c4 : Op = 4
  · rw [if_pos (by simpa using c4)]
    obtain ⟨q, rfl⟩ : ∃ q, N = q + 1 := ⟨N - 1, by omega⟩
    unfold r3_Has
    simp only [r3_Has_l0, r3_Has_l0_b]
    rw [if_neg (by decide)]
    obtain ⟨z, hz⟩ := rtruth (R := R) (N := q + 1) false
    rw [hz, rput (by omega)]; exact hk0 _ _ (ap _ _ (Nat.le_refl _)) fun _ _ => rfl
  rw [if_neg (by simpa using c4)]
  obtain ⟨x, r2, e2, f2⟩ := rtake (R := R) (N := N) (row := row) (rounds := rounds) (Vars := Vars) (Ra := Ra) (Fx := Fx) (v := v) (co := co) (cd := cd) (ag := ag) (at_ := at_) (by omega)
  by_cases c6 : Op = 6
  · rw [if_pos (by simpa using c6), f2]
    obtain ⟨z, hz⟩ := rtruth (R := R) (N := N) (x == 0)
    rw [hz, rput (by omega)]; exact hk1 _ _ (ap _ _ e2) fun _ _ => rfl
  rw [if_neg (by simpa using c6)]
  by_cases c5 : Op = 5
  · rw [if_pos (by simpa using c5), f2]
    obtain ⟨z, c, hz⟩ := rsub (R := R) (N := N) 0 x
    unfold r1_Neg
    rw [hz]
    dsimp only
    rw [rput (by omega)]; exact hk1 _ _ (ap _ _ e2) fun q => absurd c5 q
  rw [if_neg (by simpa using c5), f2]
  obtain ⟨y, r3, e3, f3⟩ := rtake (R := R) (N := N) (row := r2) (rounds := rounds) (Vars := Vars) (Ra := Ra) (Fx := Fx) (v := v) (co := co) (cd := cd) (ag := ag) (at_ := at_) (by omega)
  obtain ⟨z, c, hc, hz⟩ := rtwo (R := R) (N := N) Op y x
  rw [f3, hz, rput (by omega)]; exact hk1 _ _ (ap _ _ (by omega)) fun _ q => hc q
end
end Ef
