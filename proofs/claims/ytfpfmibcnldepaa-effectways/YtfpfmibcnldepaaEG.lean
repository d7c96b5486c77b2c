/- Codes with loops: how many instructions are done at most, both ways. -/
import Derived.Test.YtfpfmibcnldepaaEC
import Derived.Test.YtfpfmibcnldepaaED
set_option maxRecDepth 100000
set_option linter.unusedVariables false
set_option linter.unusedSimpArgs false
set_option linter.unusedSectionVars false
namespace Ef
open Go TE Go.Proofs
/-- What a code looks like: an instruction that is no loop; a loop. -/
inductive Sk | nil | one (r : Sk) | loop (n : Nat) (b r : Sk)
def Sk.len : Sk → Nat
  | .nil => 0
  | .one r => 1 + r.len
  | .loop _ b r => b.len + 2 + r.len
def Sk.most : Sk → Nat
  | .nil => 0
  | .one r => 1 + r.most
  | .loop n b r => 1 + n * (b.most + 1) + r.most
def Sk.app : Sk → Sk → Sk
  | .nil, s => s
  | .one r, s => .one (r.app s)
  | .loop n b r, s => .loop n b (r.app s)
theorem Sk.len_app : ∀ (a b : Sk), (a.app b).len = a.len + b.len
  | .nil, b => by simp [Sk.app, Sk.len]
  | .one r, b => by simp only [Sk.app, Sk.len, Sk.len_app r b]; omega
  | .loop n c r, b => by simp only [Sk.app, Sk.len, Sk.len_app r b]; omega
theorem Sk.most_app : ∀ (a b : Sk), (a.app b).most = a.most + b.most
  | .nil, b => by simp [Sk.app, Sk.most]
  | .one r, b => by simp only [Sk.app, Sk.most, Sk.most_app r b]; omega
  | .loop n c r, b => by simp only [Sk.app, Sk.most, Sk.most_app r b]; omega
def Sk.ones : Nat → Sk
  | 0 => .nil
  | n + 1 => .one (Sk.ones n)
theorem Sk.len_ones : ∀ n, (Sk.ones n).len = n
  | 0 => rfl
  | n + 1 => by simp only [Sk.ones, Sk.len, Sk.len_ones n]; omega
theorem Sk.most_ones : ∀ n, (Sk.ones n).most = n
  | 0 => rfl
  | n + 1 => by simp only [Sk.ones, Sk.most, Sk.most_ones n]; omega
def Is (c : List Ins) : Nat → Sk → Prop
  | _, .nil => True
  | p, .one r => (∃ x, c[p]? = some x ∧ x.Op ≠ 25) ∧ Is c (p + 1) r
  | p, .loop n b r => (∃ x, c[p]? = some x ∧ x.Op = 25 ∧ x.N = (n : Int) ∧ x.A = ((p + 2 + b.len : Nat) : Int)) ∧ 1 ≤ n ∧ Is c (p + 1) b ∧ (∃ y, c[p + 1 + b.len]? = some y ∧ y.Op ≠ 25) ∧ Is c (p + 2 + b.len) r
theorem Is.congr {c c' : List Ins} : ∀ {s : Sk} {p : Nat}, (∀ i, p ≤ i → i < p + s.len → c[i]? = c'[i]?) → Is c p s → Is c' p s
  | .nil, _, _, _ => trivial
  | .one r, p, h, hi => by
    simp only [Sk.len] at h
    obtain ⟨⟨x, hx, ho⟩, h2⟩ := hi
    exact ⟨⟨x, by rw [← h p (by omega) (by omega)]; exact hx, ho⟩, Is.congr (fun i h3 h4 => h i (by omega) (by omega)) h2⟩
  | .loop n b r, p, h, hi => by
    simp only [Sk.len] at h
    obtain ⟨⟨x, hx, ho⟩, hn, h2, ⟨y, hy, hyo⟩, h3⟩ := hi
    exact ⟨⟨x, by rw [← h p (by omega) (by omega)]; exact hx, ho⟩, hn, Is.congr (fun i h4 h5 => h i (by omega) (by omega)) h2, ⟨y, by rw [← h _ (by omega) (by omega)]; exact hy, hyo⟩, Is.congr (fun i h4 h5 => h i (by omega) (by omega)) h3⟩
theorem Is.app {c : List Ins} : ∀ {a b : Sk} {p : Nat}, Is c p a → Is c (p + a.len) b → Is c p (a.app b)
  | .nil, _, _, _, h => h
  | .one r, b, p, h, h2 => ⟨h.1, Is.app h.2 (by simp only [Sk.len] at h2; rwa [show p + 1 + r.len = p + (1 + r.len) by omega])⟩
  | .loop n d r, b, p, h, h2 => ⟨h.1, h.2.1, h.2.2.1, h.2.2.2.1, Is.app h.2.2.2.2 (by simp only [Sk.len] at h2; rwa [show p + 2 + d.len + r.len = p + (d.len + 2 + r.len) by omega])⟩
theorem Is.ones {c : List Ins} : ∀ {n p : Nat}, (∀ i, p ≤ i → i < p + n → ∃ x, c[i]? = some x ∧ x.Op ≠ 25) → Is c p (Sk.ones n)
  | 0, _, _ => trivial
  | n + 1, p, h => ⟨h p (by omega) (by omega), Is.ones fun i h1 h2 => h i (by omega) (by omega)⟩

/-! ### the program's -/
section
variable {R : Type} {N : Nat}
/-- What is behind some loops that are over. -/
def Over (p : Nat) (τ : Nat) (E W : List Int) (times : Int) (ends was : List Int) : Prop :=
  ∃ es ws : List Int, ends = E ++ es ∧ was = W ++ ws ∧ es.length = ws.length ∧ es.length ≤ p ∧ (∀ e ∈ es, e ≤ (p : Int)) ∧ (match ws with
    | [] => times = (τ : Int)
    | w :: _ => w = (τ : Int))
theorem pop_ok {sum : Int} {p τ : Nat} {c : List Ins} {v4 v5 o a n : Int} {s : List UInt8} {E W : List Int} (hE : E.getLast? = none ∨ ∃ e, E.getLast? = some e ∧ (p : Int) < e) (hEW : E.length = W.length) {kp0 : Int → List Int → List Int → Option R} :
    ∀ (f : Nat) (times : Int) (ends was : List Int), Over p τ E W times ends was → ends.length - E.length < f → ends.length ≤ 10000000 →
    code_Most_l2 N sum (p : Int) c v4 v5 o a n s kp0 f times ends was = kp0 (τ : Int) E W
  | 0, _, _, _, _, h, _ => by omega
  | f + 1, times, ends, was, ⟨es, ws, h1, h2, h3, h4, h5, h6⟩, hf, hb => by
    show code_Most_l2_b N sum (p : Int) c v4 v5 o a n s kp0 (code_Most_l2 N sum (p : Int) c v4 v5 o a n s kp0 f) times ends was = _
    unfold code_Most_l2_b
    rcases List.eq_nil_or_concat es with he | ⟨es', e, he⟩
    · subst he
      have : ws = [] := List.length_eq_zero_iff.1 (by simpa using h3.symm)
      subst this
      simp only [List.append_nil] at h1 h2
      subst h1 h2 h6
      rcases hE with hE | ⟨e, hE, hlt⟩
      · have : ends = [] := List.getLast?_eq_none_iff.1 hE
        subst this
        rfl
      · have hpos : 0 < ends.length := by cases ends with
          | nil => simp at hE
          | cons => simp
        have hw : IntKind.wrap .i64 (((ends.length : Nat) : Int) - 1) = ((ends.length - 1 : Nat) : Int) := by rw [wr _ (by omega) (by omega)]; omega
        rw [hw, show decide (((ends.length : Nat) : Int) > 0) = true by simp; omega]
        rw [if_pos ⟨by omega, by omega⟩, Int.toNat_natCast]
        rw [List.getLast?_eq_getElem?] at hE
        rw [hE]
        simp only []
        rw [show decide (e ≤ (p : Int)) = false by simp; omega]
        rfl
    · rw [List.concat_eq_append] at he
      subst he
      have hwl : ws ≠ [] := by intro h; subst h; simp at h3
      obtain ⟨ws', w, hw0⟩ : ∃ ws' w, ws = ws' ++ [w] := ⟨ws.dropLast, ws.getLast hwl, (List.dropLast_concat_getLast hwl).symm⟩
      subst hw0
      have hel : ends.length = E.length + es'.length + 1 := by rw [h1]; simp; omega
      have hwl2 : was.length = W.length + ws'.length + 1 := by rw [h2]; simp; omega
      have hl' : es'.length = ws'.length := by simpa using h3
      have hw : IntKind.wrap .i64 (((ends.length : Nat) : Int) - 1) = ((ends.length - 1 : Nat) : Int) := by rw [wr _ (by omega) (by omega)]; omega
      have hww : IntKind.wrap .i64 (((was.length : Nat) : Int) - 1) = ((was.length - 1 : Nat) : Int) := by rw [wr _ (by omega) (by omega)]; omega
      rw [hw, hww, show decide (((ends.length : Nat) : Int) > 0) = true by simp; omega]
      rw [if_pos ⟨by omega, by omega⟩, Int.toNat_natCast, Int.toNat_natCast]
      have e1 : ends[ends.length - 1]? = some e := by rw [h1, ← List.append_assoc]; simp
      have e2 : was[was.length - 1]? = some w := by rw [h2, ← List.append_assoc]; simp
      rw [e1]
      simp only []
      have hle : e ≤ (p : Int) := h5 e (by simp)
      rw [show decide (e ≤ (p : Int)) = true by simpa using hle]
      rw [show ifB true true (some true) (some false) = some true from rfl, Option.bind_some, if_pos rfl, if_pos ⟨by omega, by omega⟩, e2]
      simp only []
      rw [if_pos ⟨by omega, by omega, by omega⟩, if_pos ⟨by omega, by omega, by omega⟩]
      have t1 : ends.take (ends.length - 1 - Int.toNat 0) = E ++ es' := by
        rw [show Int.toNat 0 = 0 from rfl, Nat.sub_zero, show ends.length - 1 = (E ++ es').length by rw [hel]; simp, h1, ← List.append_assoc, List.take_left]
      have t2 : was.take (was.length - 1 - Int.toNat 0) = W ++ ws' := by
        rw [show Int.toNat 0 = 0 from rfl, Nat.sub_zero, show was.length - 1 = (W ++ ws').length by rw [hwl2]; simp, h2, ← List.append_assoc, List.take_left]
      rw [t1, t2]
      refine pop_ok hE hEW f w _ _ ⟨es', ws', rfl, rfl, hl', by simp at h4; omega, fun x hx => h5 x (by simp [hx]), ?_⟩ (by simp; omega) (by simp; omega)
      cases ws' with
      | nil => exact h6
      | cons a b => exact h6
theorem seg_ok (hN : 20000000 < N) {c : List Ins} (hc : c.length ≤ 1000000) {k : Int → Option R} {r : Option R} : ∀ (s : Sk) (p n sum : Nat) (times : Int) (ends was : List Int) (τ : Nat) (E W : List Int), Is c p s → p + s.len ≤ c.length → c.length < n + p →
    Over p τ E W times ends was → E.length = W.length → E.length + s.len ≤ 2000000 → (∀ e ∈ E, ((p + s.len : Nat) : Int) ≤ e) → sum + τ * s.most ≤ 2 ^ 60 → τ ≤ 2 ^ 60 →
    (∀ (n' : Nat) (times' : Int) (ends' was' : List Int), c.length < n' + (p + s.len) → Over (p + s.len) τ E W times' ends' was' → code_Most_l0 N c ((c.length : Nat) : Int) (fun (y42 : Int) => k y42) n' ((sum + τ * s.most : Nat) : Int) times' ((p + s.len : Nat) : Int) ends' was' = r) →
    code_Most_l0 N c ((c.length : Nat) : Int) (fun (y42 : Int) => k y42) n (sum : Int) times (p : Int) ends was = r
  | .nil, p, n, sum, times, ends, was, τ, E, W, _, _, hn, ho, _, _, _, _, _, hk => by
    have := hk n times ends was (by simpa [Sk.len] using hn) (by simpa [Sk.len] using ho)
    simpa [Sk.len, Sk.most] using this
  | .one s, p, n, sum, times, ends, was, τ, E, W, hi, hp, hn, ho, hEW, hEl, hE, hs, hτ, hk => by
    obtain ⟨⟨x, hx, hxo⟩, hi2⟩ := hi
    simp only [Sk.len, Sk.most] at hp hE hs hk hEl
    rw [Nat.mul_add, Nat.mul_one] at hs
    obtain ⟨n, rfl⟩ : ∃ m, n = m + 1 := ⟨n - 1, by omega⟩
    show code_Most_l0_b N c ((c.length : Nat) : Int) (fun (y42 : Int) => k y42) (code_Most_l0 N c ((c.length : Nat) : Int) (fun (y42 : Int) => k y42) n) (sum : Int) times (p : Int) ends was = r
    unfold code_Most_l0_b
    rw [if_pos (by simp; omega), at_nat, hx, Option.bind_some]
    have hlast : E.getLast? = none ∨ ∃ e, E.getLast? = some e ∧ (p : Int) < e := by
      cases hl : E.getLast? with
      | none => exact .inl rfl
      | some e => exact .inr ⟨e, rfl, by have := hE e (List.mem_of_getLast? hl); omega⟩
    have hel : ends.length ≤ 10000000 := by
      obtain ⟨es, ws, h1, _, _, h4, _⟩ := ho
      rw [h1]; simp; omega
    rw [pop_ok hlast hEW N times ends was ho (by omega) hel]
    rw [if_neg (by simpa using hxo)]
    rw [wr _ (by omega) (by omega), wr _ (by omega) (by omega), show ((sum : Int) + (τ : Int)) = ((sum + τ : Nat) : Int) by omega, show ((p : Int) + 1) = ((p + 1 : Nat) : Int) by omega]
    refine seg_ok hN hc s (p + 1) n (sum + τ) τ E W τ E W hi2 (by omega) (by omega) ⟨[], [], by simp, by simp, rfl, by simp, by simp, rfl⟩ hEW (by omega) (fun e he => by have := hE e he; omega) (by omega) hτ fun n' t' e' w' h1 h2 => ?_
    have := hk n' t' e' w' (by omega) (by rwa [show p + (1 + s.len) = p + 1 + s.len by omega])
    rw [Nat.mul_add, Nat.mul_one] at this
    rwa [show sum + τ + τ * s.most = sum + (τ + τ * s.most) by omega, show p + 1 + s.len = p + (1 + s.len) by omega]
  | .loop m b s, p, n, sum, times, ends, was, τ, E, W, hi, hp, hn, ho, hEW, hEl, hE, hs, hτ, hk => by
    obtain ⟨⟨x, hx, hxo, hxN, hxA⟩, hm1, hib, ⟨y, hy, hyo⟩, hi2⟩ := hi
    simp only [Sk.len, Sk.most] at hp hE hs hk hEl
    have hexp : τ * (1 + m * (b.most + 1) + s.most) = τ + (τ * m) * b.most + τ * m + τ * s.most := by
      rw [Nat.mul_add, Nat.mul_add, Nat.mul_one, Nat.mul_add, Nat.mul_one, Nat.mul_add, Nat.mul_assoc]; omega
    rw [hexp] at hs hk
    obtain ⟨n, rfl⟩ : ∃ m, n = m + 1 := ⟨n - 1, by omega⟩
    show code_Most_l0_b N c ((c.length : Nat) : Int) (fun (y42 : Int) => k y42) (code_Most_l0 N c ((c.length : Nat) : Int) (fun (y42 : Int) => k y42) n) (sum : Int) times (p : Int) ends was = r
    unfold code_Most_l0_b
    rw [if_pos (by simp; omega), at_nat, hx, Option.bind_some]
    have hlast : E.getLast? = none ∨ ∃ e, E.getLast? = some e ∧ (p : Int) < e := by
      cases hl : E.getLast? with
      | none => exact .inl rfl
      | some e => exact .inr ⟨e, rfl, by have := hE e (List.mem_of_getLast? hl); omega⟩
    have hel : ends.length ≤ 10000000 := by
      obtain ⟨es, ws, h1, _, _, h4, _⟩ := ho
      rw [h1]; simp; omega
    rw [pop_ok hlast hEW N times ends was ho (by omega) hel]
    rw [if_pos (by simpa using hxo), if_pos (by simp [maxRow]; omega), if_pos (by simp [maxRow]; omega), hxN, hxA]
    have hmul : (τ : Int) * (m : Int) = ((τ * m : Nat) : Int) := by simp
    rw [hmul]
    rw [wr _ (by omega) (by omega), wr _ (by omega) (by omega), wr _ (by omega) (by omega), show ((sum : Int) + (τ : Int)) = ((sum + τ : Nat) : Int) by omega, show ((p : Int) + 1) = ((p + 1 : Nat) : Int) by omega]
    refine seg_ok hN hc b (p + 1) n (sum + τ) ((τ * m : Nat) : Int) _ _ (τ * m) (E ++ [((p + 2 + b.len : Nat) : Int)]) (W ++ [(τ : Int)]) hib (by omega) (by omega) ⟨[], [], by simp, by simp, rfl, by simp, by simp, rfl⟩ (by simp [hEW]) (by simp; omega) (fun e he => by
      rcases List.mem_append.1 he with he | he
      · have := hE e he; omega
      · simp at he; omega) (by omega) (by omega) fun n1 t1 e1 w1 g1 g2 => ?_
    obtain ⟨n1, rfl⟩ : ∃ q, n1 = q + 1 := ⟨n1 - 1, by omega⟩
    show code_Most_l0_b N c ((c.length : Nat) : Int) (fun (y42 : Int) => k y42) (code_Most_l0 N c ((c.length : Nat) : Int) (fun (y42 : Int) => k y42) n1) ((sum + τ + τ * m * b.most : Nat) : Int) t1 ((p + 1 + b.len : Nat) : Int) e1 w1 = r
    unfold code_Most_l0_b
    rw [if_pos (by simp; omega), at_nat, hy, Option.bind_some]
    have hel1 : e1.length ≤ 10000000 := by
      obtain ⟨es, ws, h1, _, _, h4, _⟩ := g2
      rw [h1]; simp; omega
    rw [pop_ok (E := E ++ [((p + 2 + b.len : Nat) : Int)]) (.inr ⟨((p + 2 + b.len : Nat) : Int), by simp, by omega⟩) (by simp [hEW]) N t1 e1 w1 g2 (by omega) hel1]
    rw [if_neg (by simpa using hyo)]
    rw [wr _ (by omega) (by omega), wr _ (by omega) (by omega)]
    rw [show (((sum + τ + τ * m * b.most : Nat) : Int) + ((τ * m : Nat) : Int)) = ((sum + τ + τ * m * b.most + τ * m : Nat) : Int) by omega, show (((p + 1 + b.len : Nat) : Int) + 1) = ((p + 2 + b.len : Nat) : Int) by omega]
    refine seg_ok hN hc s (p + 2 + b.len) n1 (sum + τ + τ * m * b.most + τ * m) _ _ _ τ E W hi2 (by omega) (by omega) ⟨[((p + 2 + b.len : Nat) : Int)], [(τ : Int)], rfl, rfl, rfl, by simp; omega, by simp, rfl⟩ hEW (by omega) (fun e he => by have := hE e he; omega) (by omega) hτ fun n' t' e' w' h1 h2 => ?_
    have := hk n' t' e' w' (by omega) (by rwa [show p + (b.len + 2 + s.len) = p + 2 + b.len + s.len by omega])
    rwa [show sum + τ + τ * m * b.most + τ * m + τ * s.most = sum + (τ + τ * m * b.most + τ * m + τ * s.most) by omega, show p + 2 + b.len + s.len = p + (b.len + 2 + s.len) by omega]
theorem mostP (hN : 20000000 < N) {c : List Ins} {s : Sk} (h : Is c 0 s) (hl : c.length = s.len) (hc : c.length ≤ 1000000) (hm : s.most ≤ 2 ^ 59) (k : Int → Option R) : code_Most N c k = k (s.most : Int) := by
  unfold code_Most
  have := seg_ok (R := R) (N := N) hN (c := c) hc (k := k) (r := k (s.most : Int)) s 0 N 0 1 [] [] 1 [] [] h (by omega) (by omega) ⟨[], [], rfl, rfl, rfl, by simp, by simp, rfl⟩ rfl (by simp; omega) (by simp) (by omega) (by omega) fun n' t' e' w' h1 h2 => by
    obtain ⟨n', rfl⟩ : ∃ q, n' = q + 1 := ⟨n' - 1, by omega⟩
    show code_Most_l0_b N c ((c.length : Nat) : Int) (fun (y42 : Int) => k y42) (code_Most_l0 N c ((c.length : Nat) : Int) (fun (y42 : Int) => k y42) n') ((0 + 1 * s.most : Nat) : Int) t' ((0 + s.len : Nat) : Int) e' w' = _
    unfold code_Most_l0_b
    rw [if_neg (by simp; omega)]
    simp
  exact this

/-! ### the reference's -/
def fac (c : List Ins) (i j : Nat) : Nat :=
  match c[j]? with
  | some x => if x.Op = 25 ∧ (i : Int) < x.A then x.N.toNat else 1
  | none => 1
def tm (c : List Ins) (i : Nat) : Nat → Nat
  | 0 => 1
  | j + 1 => tm c i j * fac c i j
theorem fac_one {c : List Ins} {i p : Nat} (h : ∃ x, c[p]? = some x ∧ x.Op ≠ 25) : fac c i p = 1 := by
  obtain ⟨x, hx, ho⟩ := h
  unfold fac
  rw [hx]
  simp only []
  rw [if_neg fun h => ho h.1]
theorem fac_loop {c : List Ins} {i p n A : Nat} (h : ∃ x, c[p]? = some x ∧ x.Op = 25 ∧ x.N = (n : Int) ∧ x.A = ((A : Nat) : Int)) : fac c i p = if i < A then n else 1 := by
  obtain ⟨x, hx, ho, hn, hA⟩ := h
  unfold fac
  rw [hx]
  simp only [ho, hn, hA, true_and]
  by_cases hi : i < A
  · rw [if_pos (by omega), if_pos hi]; rfl
  · rw [if_neg (by omega), if_neg hi]
/-- Behind a part its loops are over. -/
theorem tm_past {c : List Ins} : ∀ {s : Sk} {p i : Nat}, Is c p s → p + s.len ≤ i → tm c i (p + s.len) = tm c i p
  | .nil, p, i, _, _ => rfl
  | .one s, p, i, h, hi => by
    simp only [Sk.len] at hi ⊢
    rw [show p + (1 + s.len) = p + 1 + s.len by omega, tm_past h.2 (by omega)]
    simp only [tm]
    rw [fac_one h.1, Nat.mul_one]
  | .loop n b s, p, i, ⟨h1, _, h2, h3, h4⟩, hi => by
    simp only [Sk.len] at hi ⊢
    rw [show p + (b.len + 2 + s.len) = p + 2 + b.len + s.len by omega, tm_past h4 (by omega)]
    rw [show p + 2 + b.len = (p + 1 + b.len) + 1 by omega]
    simp only [tm]
    rw [fac_one h3, Nat.mul_one, tm_past h2 (by omega)]
    simp only [tm]
    rw [fac_loop h1, if_neg (by omega), Nat.mul_one]
def tsum (c : List Ins) : Nat → Nat → Nat
  | _, 0 => 0
  | p, n + 1 => tm c p p + tsum c (p + 1) n
theorem tsum_add {c : List Ins} : ∀ (n m p : Nat), tsum c p (n + m) = tsum c p n + tsum c (p + n) m
  | 0, m, p => by simp [tsum]
  | n + 1, m, p => by
    rw [show n + 1 + m = (n + m) + 1 by omega]
    simp only [tsum]
    rw [tsum_add n m (p + 1), show p + 1 + n = p + (n + 1) by omega]
    omega
theorem tsum_seg {c : List Ins} : ∀ {s : Sk} {p τ : Nat}, Is c p s → (∀ i, p ≤ i → i < p + s.len → tm c i p = τ) → tsum c p s.len = τ * s.most
  | .nil, p, τ, _, _ => by simp [Sk.len, tsum, Sk.most]
  | .one s, p, τ, h, ht => by
    simp only [Sk.len, Sk.most] at ht ⊢
    rw [Nat.add_comm 1 s.len]
    simp only [tsum]
    rw [ht p (by omega) (by omega), tsum_seg (τ := τ) h.2 (fun i h1 h2 => by
      simp only [tm]
      rw [fac_one h.1, Nat.mul_one]
      exact ht i (by omega) (by omega))]
    rw [Nat.mul_add, Nat.mul_one]
  | .loop n b s, p, τ, ⟨h1, h0, h2, h3, h4⟩, ht => by
    simp only [Sk.len, Sk.most] at ht ⊢
    rw [show b.len + 2 + s.len = 1 + (b.len + (1 + s.len)) by omega, tsum_add, tsum_add, tsum_add]
    have e1 : ∀ q, tsum c q 1 = tm c q q := fun q => by simp [tsum]
    rw [e1, e1, ht p (by omega) (by omega)]
    rw [tsum_seg (τ := τ * n) h2 (fun i g1 g2 => by
      simp only [tm]
      rw [fac_loop h1, if_pos (by omega), ht i (by omega) (by omega)])]
    rw [tm_past h2 (by omega)]
    have e2 : tm c (p + 1 + b.len) (p + 1) = τ * n := by
      simp only [tm]
      rw [fac_loop h1, if_pos (by omega), ht _ (by omega) (by omega)]
    rw [e2, show p + 1 + b.len + 1 = p + 2 + b.len by omega]
    rw [tsum_seg (τ := τ) h4 (fun i g1 g2 => by
      rw [show p + 2 + b.len = (p + 1 + b.len) + 1 by omega]
      simp only [tm]
      rw [fac_one h3, Nat.mul_one, tm_past h2 (by omega)]
      simp only [tm]
      rw [fac_loop h1, if_neg (by omega), Nat.mul_one]
      exact ht i (by omega) (by omega))]
    rw [Nat.mul_add, Nat.mul_add, Nat.mul_one, Nat.mul_add, Nat.mul_one, Nat.mul_add, Nat.mul_assoc]
    omega
/-- Loops go round at least once. -/
theorem Is.pos {c : List Ins} : ∀ {s : Sk} {p : Nat}, Is c p s → ∀ j, p ≤ j → j < p + s.len → ∀ x, c[j]? = some x → x.Op = 25 → ∃ n : Nat, 1 ≤ n ∧ x.N = (n : Int)
  | .nil, p, _, j, h1, h2, _, _, _ => by simp only [Sk.len] at h2; omega
  | .one s, p, h, j, h1, h2, x, hx, ho => by
    simp only [Sk.len] at h2
    rcases Nat.eq_or_lt_of_le h1 with rfl | h1
    · obtain ⟨y, hy, hyo⟩ := h.1
      rw [hx] at hy; cases hy
      exact absurd ho hyo
    · exact Is.pos h.2 j (by omega) (by omega) x hx ho
  | .loop n b s, p, ⟨h3, h0, h4, h5, h6⟩, j, h1, h2, x, hx, ho => by
    simp only [Sk.len] at h2
    rcases Nat.eq_or_lt_of_le h1 with rfl | h1
    · obtain ⟨y, hy, _, hyn, _⟩ := h3
      rw [hx] at hy; cases hy
      exact ⟨n, h0, hyn⟩
    · by_cases h7 : j < p + 1 + b.len
      · exact Is.pos h4 j (by omega) (by omega) x hx ho
      · rcases Nat.eq_or_lt_of_le (Nat.le_of_not_lt h7) with h8 | h8
        · obtain ⟨y, hy, hyo⟩ := h5
          rw [h8, hx] at hy; cases hy
          exact absurd ho hyo
        · exact Is.pos h6 j (by omega) (by omega) x hx ho
theorem tm_mono {c : List Ins} (hp : ∀ (j : Nat) (x : Ins), c[j]? = some x → x.Op = 25 → ∃ n : Nat, 1 ≤ n ∧ x.N = (n : Int)) {i : Nat} : ∀ {j m : Nat}, tm c i j ≤ tm c i (j + m)
  | j, 0 => Nat.le_refl _
  | j, m + 1 => by
    refine Nat.le_trans (tm_mono hp (m := m)) ?_
    rw [← Nat.add_assoc]
    simp only [tm]
    refine Nat.le_mul_of_pos_right _ ?_
    unfold fac
    split
    · rename_i x hx
      split
      · rename_i h
        obtain ⟨n, h1, h2⟩ := hp _ x hx h.1
        rw [h2]; simp; omega
      · omega
    · omega
theorem times30 (hN : 20000000 < N) {c : List Ins} (hp : ∀ (j : Nat) (x : Ins), c[j]? = some x → x.Op = 25 → ∃ n : Nat, 1 ≤ n ∧ x.N = (n : Int)) (hc : c.length ≤ 1000000) {i : Nat} (hi : i < c.length) (hb : tm c i i ≤ 2 ^ 60) (k : Int → Option R) : r16_Times N c (i : Int) k = k (tm c i i : Int) := by
  have key : ∀ (n j : Nat), c.length < n + j → j ≤ i → r16_Times_l0 N c (i : Int) (fun (y10 : Int) => k y10) n (tm c i j : Int) (j : Int) = k (tm c i i : Int) := by
    intro n
    induction n with
    | zero => intro j h1 h2; omega
    | succ n ih =>
      intro j h1 h2
      show r16_Times_l0_b N c (i : Int) (fun (y10 : Int) => k y10) (r16_Times_l0 N c (i : Int) (fun (y10 : Int) => k y10) n) (tm c i j : Int) (j : Int) = _
      unfold r16_Times_l0_b
      by_cases hj : j < i
      · obtain ⟨x, hx, _⟩ := drop_cons (l := c) (i := j) (by omega)
        rw [if_pos (by simpa using hj), at_nat, hx]
        simp only [Option.bind_some]
        have hw : IntKind.wrap .i64 ((j : Int) + 1) = ((j + 1 : Nat) : Int) := by rw [wr _ (by omega) (by omega)]; omega
        rw [hw]
        have hle : tm c i (j + 1) ≤ 2 ^ 60 := by
          have := tm_mono hp (i := i) (j := j + 1) (m := i - (j + 1))
          rw [show j + 1 + (i - (j + 1)) = i by omega] at this
          omega
        have hfac : tm c i (j + 1) = tm c i j * fac c i j := rfl
        have e2 := ih (j + 1) (by omega) (by omega)
        by_cases h25 : x.Op = 25 ∧ (i : Int) < x.A
        · have : ifB (x.Op == 25) true (some (decide ((i : Int) < x.A))) (some false) = some true := by
            rw [show (x.Op == 25) = true by simpa using h25.1, show decide ((i : Int) < x.A) = true by simpa using h25.2]; rfl
          rw [this, Option.bind_some, if_pos rfl]
          obtain ⟨n', hn1, hn2⟩ := hp j x hx h25.1
          have hf : fac c i j = n' := by
            unfold fac
            rw [hx]
            simp only []
            rw [if_pos h25, hn2]; rfl
          rw [hf] at hfac
          rw [hn2, show (tm c i j : Int) * (n' : Int) = ((tm c i (j + 1) : Nat) : Int) by rw [hfac]; simp, wr _ (by omega) (by omega)]
          exact e2
        · have : ifB (x.Op == 25) true (some (decide ((i : Int) < x.A))) (some false) = some false := by
            by_cases ho : x.Op = 25
            · rw [show (x.Op == 25) = true by simpa using ho, show decide ((i : Int) < x.A) = false by simp; exact Int.not_lt.1 fun h => h25 ⟨ho, h⟩]; rfl
            · rw [show (x.Op == 25) = false by simpa using ho]; rfl
          rw [this, Option.bind_some, if_neg (by simp)]
          have hf : fac c i j = 1 := by
            unfold fac
            rw [hx]
            simp only []
            rw [if_neg h25]
          rw [hf, Nat.mul_one] at hfac
          rw [← hfac]
          exact e2
      · rw [if_neg (by simpa using hj)]
        have : j = i := by omega
        rw [this]
  unfold r16_Times
  rw [show decide ((i : Int) < 0) = false by simp, show decide ((i : Int) ≥ ((c.length : Nat) : Int)) = false by simp; omega, ifB_ff, Option.bind_some, if_neg (by simp)]
  exact key N 0 (by omega) (by omega)
theorem mostR (hN : 20000000 < N) {c : List Ins} {s : Sk} (h : Is c 0 s) (hl : c.length = s.len) (hc : c.length ≤ 1000000) (hm : s.most ≤ 2 ^ 59) (k : Int → Option R) : r16_Most N c k = k (s.most : Int) := by
  have hp : ∀ (j : Nat) (x : Ins), c[j]? = some x → x.Op = 25 → ∃ n : Nat, 1 ≤ n ∧ x.N = (n : Int) := fun j x hx => Is.pos h j (by omega) (by have := get_lt hx; omega) x hx
  have htot : tsum c 0 c.length = s.most := by rw [hl, tsum_seg (τ := 1) h (fun i _ _ => rfl), Nat.one_mul]
  have key : ∀ (n i : Nat), c.length < n + i → i ≤ c.length → r16_Most_l0 N c (fun (y5 : Int) => k y5) n (tsum c 0 i : Int) (i : Int) = k (s.most : Int) := by
    intro n
    induction n with
    | zero => intro i h1 h2; omega
    | succ n ih =>
      intro i h1 h2
      show r16_Most_l0_b N c (fun (y5 : Int) => k y5) (r16_Most_l0 N c (fun (y5 : Int) => k y5) n) (tsum c 0 i : Int) (i : Int) = _
      unfold r16_Most_l0_b
      by_cases hi : i < c.length
      · rw [if_pos (by simpa using hi)]
        have e1 : tsum c 0 (i + 1) = tsum c 0 i + tm c i i := by rw [tsum_add i 1 0]; simp [tsum]
        have e2 : tsum c 0 (i + 1) ≤ s.most := by
          have := tsum_add (c := c) (i + 1) (c.length - (i + 1)) 0
          rw [show i + 1 + (c.length - (i + 1)) = c.length by omega, htot] at this
          omega
        rw [times30 hN hp hc hi (by omega), wr _ (by omega) (by omega), wr _ (by omega) (by omega)]
        rw [show ((tsum c 0 i : Nat) : Int) + ((tm c i i : Nat) : Int) = ((tsum c 0 (i + 1) : Nat) : Int) by omega, show ((i : Int) + 1) = ((i + 1 : Nat) : Int) by omega]
        exact ih (i + 1) (by omega) (by omega)
      · rw [if_neg (by simpa using hi)]
        have : i = c.length := by omega
        rw [this, htot]
  unfold r16_Most
  exact key N 0 (by omega) (by omega)
end
/-- The list l goes on from c without a loop. -/
structure G (c l : List Ins) : Prop where
  pre : l.take c.length = c
  le : c.length ≤ l.length
  own : ∀ (i : Nat) (x : Ins), c.length ≤ i → l[i]? = some x → x.Op ≠ 25
theorem G.refl (c : List Ins) : G c c := ⟨List.take_length, Nat.le_refl _, fun i x h1 h2 => by have := (List.getElem?_eq_some_iff.1 h2).1; omega⟩
theorem G.app {c l : List Ins} (h : G c l) {x : Ins} (hx : x.Op ≠ 25) : G c (l ++ [x]) := ⟨by rw [List.take_append_of_le_length h.le, h.pre], by rw [List.length_append]; have := h.le; omega, fun i y hi hy => by
  by_cases hl : i < l.length
  · rw [List.getElem?_append_left hl] at hy; exact h.own i y hi hy
  · rw [List.getElem?_append_right (by omega)] at hy
    generalize i - l.length = j at hy
    cases j with
    | zero => cases hy; exact hx
    | succ j => simp at hy⟩
section
variable {R : Type} {N : Nat} {V Po Ti : List (List UInt8)} {No : List Node}
theorem here2G {c0 l : List Ins} {i : Nat} (hi : i < l.length) (hb : c0.length ≤ i) (hn : G c0 l) : ∃ l', l'.length = l.length ∧ G c0 l' ∧ ∀ k : List Ins → Option R, code_writer_here N (i : Int) V Po Ti No l k = k l' := by
  have hx : l[(i : Int).toNat]? = some l[i] := List.getElem?_eq_getElem hi
  refine ⟨l.set i ⟨(l[i]).Op, (l.length : Nat), (l[i]).N, (l[i]).S⟩, by rw [List.length_set], ⟨by rw [List.take_set_of_le hb]; exact hn.pre, by rw [List.length_set]; exact hn.le, fun j y hj hy => ?_⟩, fun k => ?_⟩
  · by_cases e : j = i
    · subst e
      rw [List.getElem?_set_self hi] at hy
      cases hy
      exact (hn.own j (l[j]) hj (List.getElem?_eq_getElem hi) :)
    · rw [List.getElem?_set_ne (Ne.symm e)] at hy
      exact hn.own j y hj hy
  · unfold code_writer_here
    rw [if_pos ⟨by omega, by omega⟩, hx]
    rfl
theorem tail5G {F : Fam_code_writer_expr_2} {c0 l : List Ins} (hl : l.length ≤ 1000000) (hn : G c0 l) {i : Nat} (hi : i < l.length) (hb : c0.length ≤ i) : ∃ l', l'.length = l.length + 4 ∧ G c0 l' ∧ ∀ k : List Ins → Option R, code_writer_both_2_c5 F N (i : Int) V Po Ti No l k = k l' := by
  have n1 : G c0 (l ++ [(⟨24, 0, 0, []⟩ : Ins)]) := hn.app (by decide)
  have n2 : G c0 (l ++ [(⟨24, 0, 0, []⟩ : Ins)] ++ [(⟨1, 0, 1, []⟩ : Ins)]) := n1.app (by decide)
  have n3 : G c0 (l ++ [(⟨24, 0, 0, []⟩ : Ins)] ++ [(⟨1, 0, 1, []⟩ : Ins)] ++ [(⟨23, 0, 0, []⟩ : Ins)]) := n2.app (by decide)
  have e3 : (l ++ [(⟨24, 0, 0, []⟩ : Ins)] ++ [(⟨1, 0, 1, []⟩ : Ins)] ++ [(⟨23, 0, 0, []⟩ : Ins)]).length = l.length + 3 := by simp
  have e2 : (l ++ [(⟨24, 0, 0, []⟩ : Ins)] ++ [(⟨1, 0, 1, []⟩ : Ins)]).length = l.length + 2 := by simp
  have e1 : (l ++ [(⟨24, 0, 0, []⟩ : Ins)]).length = l.length + 1 := by simp
  obtain ⟨l4, a1, a2, a3⟩ := here2G (R := R) (N := N) (V := V) (Po := Po) (Ti := Ti) (No := No) (i := i) (by omega) hb n3
  obtain ⟨l5, b1, b2, b3⟩ := here2G (R := R) (N := N) (V := V) (Po := Po) (Ti := Ti) (No := No) (i := l.length) (by omega) hn.le a2
  have n6 : G c0 (l5 ++ [⟨1, 0, 0, []⟩]) := b2.app (by decide)
  have e6 : (l5 ++ [(⟨1, 0, 0, []⟩ : Ins)]).length = l.length + 4 := by rw [List.length_append, b1, a1, e3]; rfl
  obtain ⟨l7, c1, c2, c3⟩ := here2G (R := R) (N := N) (V := V) (Po := Po) (Ti := Ti) (No := No) (i := l.length + 2) (by omega) (by have := hn.le; omega) n6
  refine ⟨l7, by omega, c2, fun k => ?_⟩
  unfold code_writer_both_2_c5
  rw [put2 (by omega), push2 (by omega)]
  unfold code_writer_both_2_c7
  rw [put2 (by omega), e2, a3, b3, push2 (by omega), c3]
theorem tail16G {F : Fam_code_writer_expr_2} {c0 l : List Ins} (hl : l.length ≤ 1000000) (hn : G c0 l) {i : Nat} (hi : i < l.length) (hb : c0.length ≤ i) : ∃ l', l'.length = l.length + 4 ∧ G c0 l' ∧ ∀ k : List Ins → Option R, code_writer_both_2_c16 F N (i : Int) V Po Ti No l k = k l' := by
  have n1 : G c0 (l ++ [(⟨24, 0, 0, []⟩ : Ins)]) := hn.app (by decide)
  have n2 : G c0 (l ++ [(⟨24, 0, 0, []⟩ : Ins)] ++ [(⟨1, 0, 1, []⟩ : Ins)]) := n1.app (by decide)
  have n3 : G c0 (l ++ [(⟨24, 0, 0, []⟩ : Ins)] ++ [(⟨1, 0, 1, []⟩ : Ins)] ++ [(⟨23, 0, 0, []⟩ : Ins)]) := n2.app (by decide)
  have e3 : (l ++ [(⟨24, 0, 0, []⟩ : Ins)] ++ [(⟨1, 0, 1, []⟩ : Ins)] ++ [(⟨23, 0, 0, []⟩ : Ins)]).length = l.length + 3 := by simp
  have e2 : (l ++ [(⟨24, 0, 0, []⟩ : Ins)] ++ [(⟨1, 0, 1, []⟩ : Ins)]).length = l.length + 2 := by simp
  have e1 : (l ++ [(⟨24, 0, 0, []⟩ : Ins)]).length = l.length + 1 := by simp
  obtain ⟨l4, a1, a2, a3⟩ := here2G (R := R) (N := N) (V := V) (Po := Po) (Ti := Ti) (No := No) (i := l.length) (by omega) hn.le n3
  have n6 : G c0 (l4 ++ [⟨1, 0, 0, []⟩]) := a2.app (by decide)
  have e6 : (l4 ++ [(⟨1, 0, 0, []⟩ : Ins)]).length = l.length + 4 := by rw [List.length_append, a1, e3]; rfl
  obtain ⟨l7, c1, c2, c3⟩ := here2G (R := R) (N := N) (V := V) (Po := Po) (Ti := Ti) (No := No) (i := i) (by omega) hb n6
  obtain ⟨l8, d1, d2, d3⟩ := here2G (R := R) (N := N) (V := V) (Po := Po) (Ti := Ti) (No := No) (i := l.length + 2) (by omega) (by have := hn.le; omega) c2
  refine ⟨l8, by omega, d2, fun k => ?_⟩
  unfold code_writer_both_2_c16
  rw [put2 (by omega)]
  unfold code_writer_both_2_c17
  rw [push2 (by omega), put2 (by omega), e2, a3, push2 (by omega), c3, d3]
theorem cw_2G {c0 : List Ins} (hN : big ≤ N) (hV : V.length ≤ 1000) : ∀ (t : Tr) (m : Nat) (c : List Ins), t.ok → 2 * t.dep < m → c.length + t.len ≤ 1000000 → G c0 c →
    ∃ l, (∀ (k : List Ins → Option R) (k1 : Option R), (Fam_code_writer_expr_2_at N m).code_writer_expr_2 R t.e.Kind t.e.N t.e.Name t.e.Kids t.e.At V Po Ti [] c k k1 = k l) ∧ l.length = c.length + t.len ∧ G c0 l := by
  have hb : big = 1000000000 := rfl
  have hN3 : ∃ q, N = q + 3 := ⟨N - 3, by omega⟩
  intro t
  induction t with
  | leaf kd n s =>
    intro m c h1 h2 h3 hc
    obtain ⟨m, rfl⟩ : ∃ q, m = q + 1 := ⟨m - 1, by omega⟩
    simp only [Tr.len] at h3
    have h1 : kd = 1 ∨ kd = 2 ∨ kd = 3 := h1
    rcases h1 with rfl | rfl | rfl
    · refine ⟨c ++ [⟨1, 0, n, []⟩], fun k k1 => ?_, by simp [Tr.len], hc.app (by simp)⟩
      show code_writer_expr_2_d (Fam_code_writer_expr_2_at N m) N 1 n s [] 0 V Po Ti [] c k k1 = _
      unfold code_writer_expr_2_d
      rw [if_pos (by rfl), push2 (by omega)]
    · obtain ⟨x, hx⟩ := index2 (R := R) hN V hV s
      refine ⟨c ++ [⟨2, x, 0, []⟩], fun k k1 => ?_, by simp [Tr.len], hc.app (by simp)⟩
      show code_writer_expr_2_d (Fam_code_writer_expr_2_at N m) N 2 n s [] 0 V Po Ti [] c k k1 = _
      unfold code_writer_expr_2_d
      rw [if_neg (by decide), if_pos (by rfl), hx, put2 (by omega)]
    · refine ⟨c ++ [⟨3, 0, 0, []⟩], fun k k1 => ?_, by simp [Tr.len], hc.app (by simp)⟩
      show code_writer_expr_2_d (Fam_code_writer_expr_2_at N m) N 3 n s [] 0 V Po Ti [] c k k1 = _
      unfold code_writer_expr_2_d
      rw [if_neg (by decide), if_neg (by decide), if_pos (by rfl), put2 (by omega)]
  | one kd a iha =>
    intro m c h1 h2 h3 hc
    obtain ⟨m, rfl⟩ : ∃ q, m = q + 1 := ⟨m - 1, by omega⟩
    obtain ⟨h1, h4⟩ := h1
    simp only [Tr.len, Tr.dep] at h3 h2
    obtain ⟨l1, f1, n1, g1⟩ := iha m c h4 (by omega) (by omega) hc
    refine ⟨l1 ++ [⟨kd, 0, 0, []⟩], fun k k1 => ?_, by simp only [Tr.len, List.length_append, List.length_cons, List.length_nil]; omega, g1.app (by simp only; omega)⟩
    show code_writer_expr_2_d (Fam_code_writer_expr_2_at N m) N kd 0 [] [a.e] 0 V Po Ti [] c k k1 = _
    unfold code_writer_expr_2_d
    rw [if_neg (by simp; omega), if_neg (by simp; omega), if_neg (by simp; omega), if_neg (by simp; omega), if_neg (by simp; omega)]
    unfold code_writer_expr_2_c18
    rw [if_neg (by simp; omega)]
    obtain ⟨q, rfl⟩ := hN3
    simp only [code_writer_expr_2_l1, code_writer_expr_2_l1_b]
    rw [if_pos (by simp), show at? [a.e] 0 = some a.e from rfl, Option.bind_some, f1, show IntKind.wrap .i64 (0 + 1) = 1 from rfl, if_neg (by simp), cop (by omega) (by omega), put2 (by omega)]
  | two kd a b iha ihb =>
    intro m c h1 h2 h3 hc
    obtain ⟨⟨h1, h1'⟩, h4, h5⟩ := h1
    simp only [Tr.len, Tr.dep] at h3 h2
    obtain ⟨m, rfl⟩ : ∃ q, m = q + 2 := ⟨m - 2, by omega⟩
    have at0 : at? [a.e, b.e] 0 = some a.e := rfl
    have at1 : at? [a.e, b.e] 1 = some b.e := rfl
    have dsp : kd = 18 ∨ kd = 19 → ∀ (k : List Ins → Option R) (k1 : Option R), (Fam_code_writer_expr_2_at N (m + 2)).code_writer_expr_2 R kd 0 [] [a.e, b.e] 0 V Po Ti [] c k k1 = code_writer_both_2_d (Fam_code_writer_expr_2_at N m) N kd 0 [] [a.e, b.e] 0 V Po Ti [] c k := by
      intro hk k k1
      show code_writer_expr_2_d (Fam_code_writer_expr_2_at N (m + 1)) N kd 0 [] [a.e, b.e] 0 V Po Ti [] c k k1 = _
      unfold code_writer_expr_2_d
      rw [if_neg (by simp; omega), if_neg (by simp; omega), if_neg (by simp; omega), if_neg (by simp; omega)]
      have c18 : ∀ q : Bool, q = true → code_writer_expr_2_c18 (Fam_code_writer_expr_2_at N (m + 1)) N q V Po Ti [] c kd 0 [] [a.e, b.e] 0 (fun (y : List Ins) => k y) k1 = code_writer_both_2_d (Fam_code_writer_expr_2_at N m) N kd 0 [] [a.e, b.e] 0 V Po Ti [] c k := by
        intro q hq
        unfold code_writer_expr_2_c18
        rw [if_pos hq, if_pos (by rfl)]
        rfl
      rcases hk with rfl | rfl
      · rw [if_pos (by rfl)]; exact c18 _ rfl
      · rw [if_neg (by decide)]; exact c18 _ rfl
    by_cases c18 : kd = 18
    · subst c18
      rw [if_pos rfl] at h3
      obtain ⟨l1, f1, n1, g1⟩ := iha m c h4 (by omega) (by omega) hc
      have g2 : G c0 (l1 ++ [(⟨24, 0, 0, []⟩ : Ins)]) := g1.app (by decide)
      have e2 : (l1 ++ [(⟨24, 0, 0, []⟩ : Ins)]).length = l1.length + 1 := by simp
      obtain ⟨l3, f3, n3, g3⟩ := ihb m (l1 ++ [(⟨24, 0, 0, []⟩ : Ins)]) h5 (by omega) (by omega) g2
      obtain ⟨l4, n4, g4, f4⟩ := tail5G (R := R) (N := N) (V := V) (Po := Po) (Ti := Ti) (No := []) (F := Fam_code_writer_expr_2_at N m) (l := l3) (by omega) g3 (i := l1.length) (by omega) g1.le
      refine ⟨l4, fun k k1 => ?_, ?_, g4⟩
      · refine (dsp (.inl rfl) k k1).trans ?_
        unfold code_writer_both_2_d
        rw [at0, Option.bind_some, f1]
        unfold code_writer_both_2_c2
        rw [put2 (by omega), if_pos (by rfl), at1, Option.bind_some, f3]
        exact f4 _
      · show _ = _ + (a.len + b.len + (if (18 : Int) = 18 then 5 else _)); rw [if_pos rfl]; omega
    · rw [if_neg c18] at h3
      by_cases c19 : kd = 19
      · subst c19
        rw [if_pos rfl] at h3
        obtain ⟨l1, f1, n1, g1⟩ := iha m c h4 (by omega) (by omega) hc
        have g2 : G c0 (l1 ++ [(⟨24, 0, 0, []⟩ : Ins)]) := g1.app (by decide)
        have g22 : G c0 (l1 ++ [(⟨24, 0, 0, []⟩ : Ins)] ++ [(⟨1, 0, 1, []⟩ : Ins)]) := g2.app (by decide)
        have g23 : G c0 (l1 ++ [(⟨24, 0, 0, []⟩ : Ins)] ++ [(⟨1, 0, 1, []⟩ : Ins)] ++ [(⟨23, 0, 0, []⟩ : Ins)]) := g22.app (by decide)
        have e1 : (l1 ++ [(⟨24, 0, 0, []⟩ : Ins)]).length = l1.length + 1 := by simp
        have e2 : (l1 ++ [(⟨24, 0, 0, []⟩ : Ins)] ++ [(⟨1, 0, 1, []⟩ : Ins)]).length = l1.length + 2 := by simp
        have e3 : (l1 ++ [(⟨24, 0, 0, []⟩ : Ins)] ++ [(⟨1, 0, 1, []⟩ : Ins)] ++ [(⟨23, 0, 0, []⟩ : Ins)]).length = l1.length + 3 := by simp
        obtain ⟨l2, a1, a2, a3⟩ := here2G (R := R) (N := N) (V := V) (Po := Po) (Ti := Ti) (No := []) (i := l1.length) (by omega) g1.le g23
        obtain ⟨l3, f3, n3, g3⟩ := ihb m l2 h5 (by omega) (by omega) a2
        obtain ⟨l4, n4, g4, f4⟩ := tail16G (R := R) (N := N) (V := V) (Po := Po) (Ti := Ti) (No := []) (F := Fam_code_writer_expr_2_at N m) (l := l3) (by omega) g3 (i := l1.length + 2) (by omega) (by have := g1.le; omega)
        refine ⟨l4, fun k k1 => ?_, ?_, g4⟩
        · refine (dsp (.inr rfl) k k1).trans ?_
          unfold code_writer_both_2_d
          rw [at0, Option.bind_some, f1]
          unfold code_writer_both_2_c2
          rw [put2 (by omega), if_neg (by decide)]
          unfold code_writer_both_2_c12
          rw [push2 (by omega), put2 (by omega), e2, a3, at1, Option.bind_some, f3]
          exact f4 _
        · show _ = _ + (a.len + b.len + (if (19 : Int) = 18 then 5 else if (19 : Int) = 19 then 7 else 1)); rw [if_neg (by decide), if_pos rfl]; omega
      · rw [if_neg c19] at h3
        obtain ⟨l1, f1, n1, g1⟩ := iha (m + 1) c h4 (by omega) (by omega) hc
        obtain ⟨l3, f3, n3, g3⟩ := ihb (m + 1) l1 h5 (by omega) (by omega) g1
        refine ⟨l3 ++ [⟨kd, 0, 0, []⟩], fun k k1 => ?_, ?_, g3.app (by simp only; omega)⟩
        · show code_writer_expr_2_d (Fam_code_writer_expr_2_at N (m + 1)) N kd 0 [] [a.e, b.e] 0 V Po Ti [] c k k1 = _
          unfold code_writer_expr_2_d
          rw [if_neg (by simp; omega), if_neg (by simp; omega), if_neg (by simp; omega), if_neg (by simp; omega), if_neg (by simp; omega)]
          unfold code_writer_expr_2_c18
          rw [if_neg (by simp; omega)]
          obtain ⟨q, rfl⟩ := hN3
          simp only [code_writer_expr_2_l1, code_writer_expr_2_l1_b]
          rw [if_pos (by simp), at0, Option.bind_some, f1, show IntKind.wrap .i64 (0 + 1) = 1 from rfl, if_pos (by simp), at1, Option.bind_some, f3, show IntKind.wrap .i64 (1 + 1) = 2 from rfl, if_neg (by simp), cop (by omega) (by omega), put2 (by omega)]
        · rw [List.length_append]; show l3.length + 1 = _ + (a.len + b.len + (if kd = 18 then 5 else if kd = 19 then 7 else 1)); rw [if_neg c18, if_neg c19]; omega
end
structure Ext (c l : List Ins) : Prop where
  pre : l.take c.length = c
  le : c.length ≤ l.length
theorem Ext.get {c l : List Ins} (h : Ext c l) {i : Nat} (hi : i < c.length) : l[i]? = c[i]? := by
  have := congrArg (fun x : List Ins => x[i]?) h.pre
  simp only [List.getElem?_take, hi, if_true] at this
  exact this
theorem Ext.trans {a b c : List Ins} (h : Ext a b) (h2 : Ext b c) : Ext a c := by
  refine ⟨?_, Nat.le_trans h.le h2.le⟩
  have : (c.take b.length).take a.length = a := by rw [h2.pre, h.pre]
  rwa [List.take_take, Nat.min_eq_left h.le] at this
theorem Ext.app (c : List Ins) (x : List Ins) : Ext c (c ++ x) := ⟨List.take_left, by simp⟩
theorem G.ext {c l : List Ins} (h : G c l) : Ext c l := ⟨h.pre, h.le⟩
theorem G.ones {c l : List Ins} (h : G c l) {n : Nat} (hn : l.length = c.length + n) : Is l c.length (Sk.ones n) :=
  Is.ones fun i h1 h2 => by
    obtain ⟨x, hx, _⟩ := drop_cons (l := l) (i := i) (by omega)
    exact ⟨x, hx, h.own i x h1 hx⟩
section
variable {R : Type} {N : Nat} (hN : big ≤ N) {V Po Ti : List (List UInt8)} (hV : V.length ≤ 1000) (hP : Po.length ≤ 1000) (hT : Ti.length ≤ 1000)
include hN hV hP hT
/-- The number of an act. -/
theorem num_ok {X : List Expr} (hX : xsOK X) : ∃ n, n ≤ 600 ∧
    (∀ (kd nn at_ : Int) (nm ev : List UInt8) (th el : List Act) (c : List Ins), c.length ≤ 900000 → ∃ l, (∀ k : List Ins → Option R, code_writer_number N kd nm ev X nn th el at_ V Po Ti [] c k = k l) ∧ l.length = c.length + n ∧ G c l) ∧
    (∀ (c : List Ins), c.length ≤ 900000 → ∃ l, (∀ k : List Ins → Option R, r16_arg_2 N X V Po Ti [] c k = k l) ∧ l.length = c.length + n ∧ G c l) := by
  have hb : big = 1000000000 := rfl
  have hm : maxRow = 68719476736 := rfl
  obtain ⟨N', hN'⟩ : ∃ q, N = q + 3 := ⟨N - 3, by omega⟩
  rcases hX with rfl | ⟨t, rfl, h1, h2⟩
  · refine ⟨1, by omega, fun kd nn at_ nm ev th el c hc => ⟨c ++ [⟨1, 0, 0, []⟩], fun k => ?_, by simp, (G.refl c).app (by simp)⟩, fun c hc => ⟨c ++ [⟨1, 0, 0, []⟩], fun k => ?_, by simp, (G.refl c).app (by simp)⟩⟩
    · unfold code_writer_number
      rw [hN']
      show code_writer_push_2 (N' + 3) 0 V Po Ti [] c (fun r38 => k r38) = _
      rw [push2 (by omega)]
    · unfold r16_arg_2
      rw [if_pos (by simp), if_pos (by simp; omega)]
  · have hlen : t.len ≤ 512 := by
      have a1 := t.len_le
      have a2 : 8 ^ (t.dep + 1) ≤ 8 ^ 3 := Nat.pow_le_pow_right (by omega) (by omega)
      have a3 : 8 ^ 3 = 512 := by decide
      omega
    refine ⟨t.len, by omega, fun kd nn at_ nm ev th el c hc => ?_, fun c hc => ?_⟩
    · obtain ⟨l, f, n, g⟩ := cw_2G (R := R) (N := N) (V := V) (Po := Po) (Ti := Ti) (c0 := c) hN hV t N c h1 (by omega) (by omega) (G.refl c)
      refine ⟨l, fun k => ?_, n, g⟩
      unfold code_writer_number
      have hN2 : N = (N' + 2) + 1 := hN'
      have e0 : ∀ kp0 : List Ins → Option R, code_writer_number_l0 N [t.e] (([t.e].length : Nat) : Int) V Po Ti [] kd nm ev [t.e] nn th el at_ kp0 N 0 c = kp0 l := by
        intro kp0
        have e1 : code_writer_number_l0 N [t.e] (([t.e].length : Nat) : Int) V Po Ti [] kd nm ev [t.e] nn th el at_ kp0 (N' + 2 + 1) 0 c = kp0 l := by
          show code_writer_number_l0_b N [t.e] (([t.e].length : Nat) : Int) V Po Ti [] kd nm ev [t.e] nn th el at_ kp0 (code_writer_number_l0 N [t.e] (([t.e].length : Nat) : Int) V Po Ti [] kd nm ev [t.e] nn th el at_ kp0 (N' + 2)) 0 c = kp0 l
          unfold code_writer_number_l0_b
          rw [if_pos (by simp), show at? [t.e] 0 = some t.e from rfl, Option.bind_some]
          unfold code_writer_expr_2
          rw [f, wr _ (by omega) (by omega)]
          show code_writer_number_l0_b N [t.e] (([t.e].length : Nat) : Int) V Po Ti [] kd nm ev [t.e] nn th el at_ kp0 (code_writer_number_l0 N [t.e] (([t.e].length : Nat) : Int) V Po Ti [] kd nm ev [t.e] nn th el at_ kp0 (N' + 1)) (0 + 1) l = kp0 l
          unfold code_writer_number_l0_b
          rw [if_neg (by simp)]
        rwa [← hN2] at e1
      rw [e0]
      rw [if_neg (by simp)]
    · obtain ⟨l, f, n, g⟩ := c16_2 (R := R) (N := N) hN (V := V) (Po := Po) (Ti := Ti) hV t N c h1 (by omega) (by omega)
      refine ⟨l, fun k => ?_, n, ⟨g.pre, g.le, fun i x hi hx => by
        have := (g.own i x hi hx).1
        rcases this with ⟨q1, q2, _⟩ | q | q <;> omega⟩⟩
      unfold r16_arg_2
      rw [if_neg (by simp), show at? [t.e] 0 = some t.e from rfl, Option.bind_some]
      exact f k
/-- What an act's step makes: both ways. -/
def ActC (R : Type) (N : Nat) (V Po Ti : List (List UInt8)) (Fw : Fam_code_writer_block_2) (Fr : Fam_r16_block_2) (a : Act) (s : Sk) : Prop :=
  (∀ c : List Ins, c.length + s.len ≤ 900000 → ∃ l, (∀ k : List Ins → Option R, (if (a.Kind == 7) = true then Fw.code_writer_loop_2 R a.Kind a.Name a.Event a.X a.N a.Then a.Else a.At V Po Ti [] c k
    else if (a.Kind == 6) = true then Fw.code_writer_choice R a.Kind a.Name a.Event a.X a.N a.Then a.Else a.At V Po Ti [] c k
    else code_writer_act N a.Kind a.Name a.Event a.X a.N a.Then a.Else a.At V Po Ti [] c k) = k l) ∧ l.length = c.length + s.len ∧ Ext c l ∧ Is l c.length s) ∧
  (∀ c : List Ins, c.length + s.len ≤ 900000 → ∃ l, (∀ k : List Ins → Option R, Fr.r16_act_2 R a.Kind a.Name a.Event a.X a.N a.Then a.Else a.At V Po Ti [] c k = k l) ∧ l.length = c.length + s.len ∧ Ext c l ∧ Is l c.length s)
/-- What a block makes: both ways. -/
def BlkC (R : Type) (N : Nat) (V Po Ti : List (List UInt8)) (Fw : Fam_code_writer_block_2) (Fr : Fam_r16_block_2) (l : List Act) (s : Sk) : Prop :=
  (∀ c : List Ins, c.length + s.len ≤ 900000 → ∃ l', (∀ k : List Ins → Option R, Fw.code_writer_block_2 R l V Po Ti [] c k = k l') ∧ l'.length = c.length + s.len ∧ Ext c l' ∧ Is l' c.length s) ∧
  (∀ c : List Ins, c.length + s.len ≤ 900000 → ∃ l', (∀ k : List Ins → Option R, Fr.r16_block_2 R l V Po Ti [] c k = k l') ∧ l'.length = c.length + s.len ∧ Ext c l' ∧ Is l' c.length s)

theorem act5 {a : Act} (hX : xsOK a.X) (h1 : 1 ≤ a.Kind) (h5 : a.Kind ≤ 5) (Fw : Fam_code_writer_block_2) (e : Nat) : ∃ s : Sk, s.len ≤ 700 ∧ s.most ≤ 700 ∧ ActC R N V Po Ti Fw (Fam_r16_block_2_at N (e + 1)) a s := by
  have hb : big = 1000000000 := rfl
  have hm : maxRow = 68719476736 := rfl
  obtain ⟨n, hn, hw, hr⟩ := num_ok (R := R) hN hV hP hT hX
  have k7 : ¬ (a.Kind == 7) = true := by simp; omega
  have k6 : ¬ (a.Kind == 6) = true := by simp; omega
  by_cases k5 : a.Kind = 5
  · refine ⟨.ones 1, by rw [Sk.len_ones]; omega, by rw [Sk.most_ones]; omega, fun c hc => ?_, fun c hc => ?_⟩
    · rw [Sk.len_ones] at hc ⊢
      obtain ⟨x, hx⟩ := index2 (R := R) hN Ti hT a.Name
      have g := (G.refl c).app (x := ⟨22, x, 0, []⟩) (by simp)
      refine ⟨c ++ [⟨22, x, 0, []⟩], fun k => ?_, by simp, g.ext, g.ones (by simp)⟩
      rw [if_neg k7, if_neg k6]
      unfold code_writer_act
      rw [if_neg (by simp [k5])]
      unfold code_writer_act_c3
      rw [if_neg (by simp [k5]), if_neg (by simp [k5]), if_neg (by simp [k5]), if_neg (by simp [k5]), if_pos (by simp [k5]), hx, put2 (by omega)]
    · rw [Sk.len_ones] at hc ⊢
      obtain ⟨x, hx⟩ := place16 (R := R) hN Ti hT a.Name
      have g := (G.refl c).app (x := ⟨22, x, 0, []⟩) (by simp)
      refine ⟨c ++ [⟨22, x, 0, []⟩], fun k => ?_, by simp, g.ext, g.ones (by simp)⟩
      show r16_act_2_d (Fam_r16_block_2_at N e) N a.Kind a.Name a.Event a.X a.N a.Then a.Else a.At V Po Ti [] c k = _
      unfold r16_act_2_d
      rw [if_neg (by simp [k5]), if_neg (by simp [k5]), if_neg (by simp [k5]), if_neg (by simp [k5]), if_pos (by simp [k5]), hx, if_pos (by simp; omega)]
  · refine ⟨.ones (n + 1), by rw [Sk.len_ones]; omega, by rw [Sk.most_ones]; omega, fun c hc => ?_, fun c hc => ?_⟩
    · rw [Sk.len_ones] at hc ⊢
      obtain ⟨l, f, hl, g⟩ := hw a.Kind a.N a.At a.Name a.Event a.Then a.Else c (by omega)
      obtain ⟨xV, hxV⟩ := index2 (R := R) hN V hV a.Name
      obtain ⟨xP, hxP⟩ := index2 (R := R) hN Po hP a.Name
      obtain ⟨xT, hxT⟩ := index2 (R := R) hN Ti hT a.Name
      have fin : ∀ x : Ins, x.Op ≠ 25 → (∀ k : List Ins → Option R, code_writer_act_c3 N V Po Ti [] l a.Kind a.Name a.Event a.X a.N a.Then a.Else a.At k = k (l ++ [x])) →
          ∃ l', (∀ k : List Ins → Option R, (if (a.Kind == 7) = true then Fw.code_writer_loop_2 R a.Kind a.Name a.Event a.X a.N a.Then a.Else a.At V Po Ti [] c k
    else if (a.Kind == 6) = true then Fw.code_writer_choice R a.Kind a.Name a.Event a.X a.N a.Then a.Else a.At V Po Ti [] c k
    else code_writer_act N a.Kind a.Name a.Event a.X a.N a.Then a.Else a.At V Po Ti [] c k) = k l') ∧ l'.length = c.length + (n + 1) ∧ Ext c l' ∧ Is l' c.length (.ones (n + 1)) := by
        intro x hx hk
        have g2 := g.app hx
        refine ⟨l ++ [x], fun k => ?_, by simp [hl]; omega, g2.ext, g2.ones (by simp [hl]; omega)⟩
        rw [if_neg k7, if_neg k6]
        unfold code_writer_act
        rw [if_pos (by simp [k5]), f]
        exact hk _
      by_cases k1 : a.Kind = 1
      · exact fin ⟨18, xV, 0, []⟩ (by simp) fun k => by unfold code_writer_act_c3; rw [if_pos (by simp [k1]), hxV, put2 (by omega)]
      by_cases k2 : a.Kind = 2
      · exact fin ⟨19, 0, 0, a.Event⟩ (by simp) fun k => by unfold code_writer_act_c3; rw [if_neg (by simp [k2]), if_pos (by simp [k2]), put2 (by omega)]
      by_cases k3 : a.Kind = 3
      · exact fin ⟨20, xP, 0, a.Event⟩ (by simp) fun k => by unfold code_writer_act_c3; rw [if_neg (by simp [k3]), if_neg (by simp [k3]), if_pos (by simp [k3]), hxP, put2 (by omega)]
      have k4 : a.Kind = 4 := by omega
      exact fin ⟨21, xT, 0, []⟩ (by simp) fun k => by unfold code_writer_act_c3; rw [if_neg (by simp [k4]), if_neg (by simp [k4]), if_neg (by simp [k4]), if_pos (by simp [k4]), hxT, put2 (by omega)]
    · rw [Sk.len_ones] at hc ⊢
      obtain ⟨l, f, hl, g⟩ := hr c (by omega)
      obtain ⟨xV, hxV⟩ := place16 (R := R) hN V hV a.Name
      obtain ⟨xP, hxP⟩ := place16 (R := R) hN Po hP a.Name
      obtain ⟨xT, hxT⟩ := place16 (R := R) hN Ti hT a.Name
      have fin : ∀ x : Ins, x.Op ≠ 25 → (∀ k : List Ins → Option R, r16_act_2_d (Fam_r16_block_2_at N e) N a.Kind a.Name a.Event a.X a.N a.Then a.Else a.At V Po Ti [] c k = k (l ++ [x])) →
          ∃ l', (∀ k : List Ins → Option R, (Fam_r16_block_2_at N (e + 1)).r16_act_2 R a.Kind a.Name a.Event a.X a.N a.Then a.Else a.At V Po Ti [] c k = k l') ∧ l'.length = c.length + (n + 1) ∧ Ext c l' ∧ Is l' c.length (.ones (n + 1)) := by
        intro x hx hk
        have g2 := g.app hx
        exact ⟨l ++ [x], fun k => hk k, by simp [hl]; omega, g2.ext, g2.ones (by simp [hl]; omega)⟩
      by_cases k1 : a.Kind = 1
      · exact fin ⟨18, xV, 0, []⟩ (by simp) fun k => by unfold r16_act_2_d; rw [if_pos (by simp [k1]), f, hxV, if_pos (by simp; omega)]
      by_cases k2 : a.Kind = 2
      · exact fin ⟨19, 0, 0, a.Event⟩ (by simp) fun k => by unfold r16_act_2_d; rw [if_neg (by simp [k2]), if_pos (by simp [k2]), f, if_pos (by simp; omega)]
      by_cases k3 : a.Kind = 3
      · exact fin ⟨20, xP, 0, a.Event⟩ (by simp) fun k => by unfold r16_act_2_d; rw [if_neg (by simp [k3]), if_neg (by simp [k3]), if_pos (by simp [k3]), f, hxP, if_pos (by simp; omega)]
      have k4 : a.Kind = 4 := by omega
      exact fin ⟨21, xT, 0, []⟩ (by simp) fun k => by unfold r16_act_2_d; rw [if_neg (by simp [k4]), if_neg (by simp [k4]), if_neg (by simp [k4]), if_pos (by simp [k4]), f, hxT, if_pos (by simp; omega)]
/-- A loop. -/
theorem act7 {a : Act} (k7 : a.Kind = 7) {n : Nat} (hn : a.N = (n : Int)) (h1 : 1 ≤ n) {b : Sk} {m e : Nat} (hB : BlkC R N V Po Ti (Fam_code_writer_block_2_at N m) (Fam_r16_block_2_at N e) a.Then b) :
    ActC R N V Po Ti (Fam_code_writer_block_2_at N (m + 1)) (Fam_r16_block_2_at N (e + 1)) a (.loop n b .nil) := by
  have hb : big = 1000000000 := rfl
  have hm : maxRow = 68719476736 := rfl
  have fin : ∀ (c l3 : List Ins), l3.length = c.length + 1 + b.len → Ext (c ++ [⟨25, 0, a.N, []⟩]) l3 → Is l3 (c.length + 1) b →
      l3[c.length]? = some ⟨25, 0, a.N, []⟩ ∧ ∃ l', l' = (l3 ++ [(⟨26, (c.length : Int), 0, []⟩ : Ins)]).set c.length ⟨25, (((l3 ++ [(⟨26, (c.length : Int), 0, []⟩ : Ins)]).length : Nat) : Int), a.N, []⟩ ∧ l'.length = c.length + (Sk.loop n b .nil).len ∧ Ext c l' ∧ Is l' c.length (.loop n b .nil) := by
    intro c l3 hl hx hi
    have e0 : l3[c.length]? = some ⟨25, 0, a.N, []⟩ := by rw [hx.get (by simp)]; simp
    refine ⟨e0, _, rfl, by simp [Sk.len, hl]; omega, ?_, ?_⟩
    · have h2 := (Ext.app c [(⟨25, 0, a.N, []⟩ : Ins)]).trans (hx.trans (Ext.app l3 [(⟨26, (c.length : Int), 0, []⟩ : Ins)]))
      exact ⟨by rw [List.take_set_of_le (Nat.le_refl _)]; exact h2.pre, by rw [List.length_set]; exact h2.le⟩
    · have hl4 : (l3 ++ [(⟨26, (c.length : Int), 0, []⟩ : Ins)]).length = c.length + 2 + b.len := by simp [hl]; omega
      refine ⟨⟨_, List.getElem?_set_self (by omega), rfl, hn, by rw [hl4]⟩, h1, ?_, ⟨⟨26, (c.length : Int), 0, []⟩, ?_, by simp⟩, trivial⟩
      · refine Is.congr (fun i h3 h4 => ?_) hi
        rw [List.getElem?_set_ne (by omega), List.getElem?_append_left (by omega)]
      · rw [List.getElem?_set_ne (by omega), List.getElem?_append_right (by omega), hl]
        simp
  refine ⟨fun c hc => ?_, fun c hc => ?_⟩
  · simp only [Sk.len] at hc
    obtain ⟨l3, f3, n3, x3, i3⟩ := hB.1 (c ++ [⟨25, 0, a.N, []⟩]) (by simp; omega)
    simp only [List.length_append, List.length_cons, List.length_nil, Nat.zero_add] at n3 i3
    obtain ⟨e0, l', el, nl, xl, il⟩ := fin c l3 n3 x3 i3
    refine ⟨l', fun k => ?_, nl, xl, il⟩
    rw [if_pos (by simp [k7])]
    show code_writer_loop_2_d (Fam_code_writer_block_2_at N m) N a.Kind a.Name a.Event a.X a.N a.Then a.Else a.At V Po Ti [] c k = _
    unfold code_writer_loop_2_d
    rw [put2 (by omega), f3, put2 (by omega)]
    unfold code_writer_here
    have hc4 : (l3 ++ [(⟨26, (c.length : Int), 0, []⟩ : Ins)]).length = l3.length + 1 := by simp
    rw [if_pos ⟨by omega, by rw [hc4]; omega⟩, Int.toNat_natCast, List.getElem?_append_left (by omega), e0, el]
  · simp only [Sk.len] at hc
    obtain ⟨l3, f3, n3, x3, i3⟩ := hB.2 (c ++ [⟨25, 0, a.N, []⟩]) (by simp; omega)
    simp only [List.length_append, List.length_cons, List.length_nil, Nat.zero_add] at n3 i3
    obtain ⟨e0, l', el, nl, xl, il⟩ := fin c l3 n3 x3 i3
    refine ⟨l', fun k => ?_, nl, xl, il⟩
    show r16_act_2_d (Fam_r16_block_2_at N e) N a.Kind a.Name a.Event a.X a.N a.Then a.Else a.At V Po Ti [] c k = _
    unfold r16_act_2_d
    rw [if_neg (by simp [k7]), if_neg (by simp [k7]), if_neg (by simp [k7]), if_neg (by simp [k7]), if_neg (by simp [k7]), if_pos (by simp [k7]), if_pos (by simp; omega), f3, if_pos (by simp; omega)]
    have hc4 : (l3 ++ [(⟨26, (c.length : Int), 0, []⟩ : Ins)]).length = l3.length + 1 := by simp
    rw [if_pos ⟨by omega, by rw [hc4]; omega⟩, Int.toNat_natCast, List.getElem?_append_left (by omega), e0, el]
/-- Acts one behind another. -/
theorem list_ok {Fw : Fam_code_writer_block_2} {Fr : Fam_r16_block_2} {B M : Nat} {l : List Act} (hl : l.length ≤ 2) (ha : ∀ a ∈ l, ∃ s : Sk, s.len ≤ B ∧ s.most ≤ M ∧ ActC R N V Po Ti Fw Fr a s) :
    ∀ (j i : Nat), i + j = l.length → ∃ s : Sk, s.len ≤ j * B ∧ s.most ≤ j * M ∧
      (∀ (n : Nat) (c : List Ins), j < n → c.length + s.len ≤ 900000 → ∃ l', (∀ k : List Ins → Option R, code_writer_block_2_l0 Fw N l ((l.length : Nat) : Int) V Po Ti [] k n (i : Int) c = k l') ∧ l'.length = c.length + s.len ∧ Ext c l' ∧ Is l' c.length s) ∧
      (∀ (n : Nat) (c : List Ins), j < n → c.length + s.len ≤ 900000 → ∃ l', (∀ k : List Ins → Option R, r16_block_2_l0 Fr N l V Po Ti [] k n (i : Int) c = k l') ∧ l'.length = c.length + s.len ∧ Ext c l' ∧ Is l' c.length s)
  | 0, i, h => by
    refine ⟨.nil, by simp [Sk.len], by simp [Sk.most], fun n c hn hc => ⟨c, fun k => ?_, by simp [Sk.len], ⟨List.take_length, Nat.le_refl _⟩, trivial⟩, fun n c hn hc => ⟨c, fun k => ?_, by simp [Sk.len], ⟨List.take_length, Nat.le_refl _⟩, trivial⟩⟩
    · obtain ⟨n, rfl⟩ : ∃ q, n = q + 1 := ⟨n - 1, by omega⟩
      show code_writer_block_2_l0_b Fw N l ((l.length : Nat) : Int) V Po Ti [] k (code_writer_block_2_l0 Fw N l ((l.length : Nat) : Int) V Po Ti [] k n) (i : Int) c = k c
      unfold code_writer_block_2_l0_b
      rw [if_neg (by simp; omega)]
    · obtain ⟨n, rfl⟩ : ∃ q, n = q + 1 := ⟨n - 1, by omega⟩
      show r16_block_2_l0_b Fr N l V Po Ti [] k (r16_block_2_l0 Fr N l V Po Ti [] k n) (i : Int) c = k c
      unfold r16_block_2_l0_b
      rw [if_neg (by simp; omega)]
  | j + 1, i, h => by
    obtain ⟨a, hai, _⟩ := drop_cons (l := l) (i := i) (by omega)
    obtain ⟨s1, b1, m1, w1, r1⟩ := ha a (get_mem hai)
    obtain ⟨s2, b2, m2, w2, r2⟩ := list_ok hl ha j (i + 1) (by omega)
    have hw : IntKind.wrap .i64 ((i : Int) + 1) = ((i + 1 : Nat) : Int) := by rw [wr _ (by omega) (by omega)]; omega
    have join : ∀ (c l1 l2 : List Ins), l1.length = c.length + s1.len → Ext c l1 → Is l1 c.length s1 → l2.length = l1.length + s2.len → Ext l1 l2 → Is l2 l1.length s2 →
        l2.length = c.length + (s1.app s2).len ∧ Ext c l2 ∧ Is l2 c.length (s1.app s2) := by
      intro c l1 l2 n1 x1 i1 n2 x2 i2
      refine ⟨by rw [Sk.len_app]; omega, x1.trans x2, Is.app (Is.congr (fun q h3 h4 => (x2.get (by omega)).symm) i1) (by rw [← n1]; exact i2)⟩
    refine ⟨s1.app s2, by rw [Sk.len_app, Nat.succ_mul]; omega, by rw [Sk.most_app, Nat.succ_mul]; omega, fun n c hn hc => ?_, fun n c hn hc => ?_⟩
    · rw [Sk.len_app] at hc
      obtain ⟨n, rfl⟩ : ∃ q, n = q + 1 := ⟨n - 1, by omega⟩
      obtain ⟨l1, f1, n1, x1, i1⟩ := w1 c (by omega)
      obtain ⟨l2, f2, n2, x2, i2⟩ := w2 n l1 (by omega) (by omega)
      obtain ⟨j1, j2, j3⟩ := join c l1 l2 n1 x1 i1 n2 x2 i2
      refine ⟨l2, fun k => ?_, j1, j2, j3⟩
      show code_writer_block_2_l0_b Fw N l ((l.length : Nat) : Int) V Po Ti [] k (code_writer_block_2_l0 Fw N l ((l.length : Nat) : Int) V Po Ti [] k n) (i : Int) c = k l2
      unfold code_writer_block_2_l0_b
      rw [if_pos (by simp; omega), at_nat, hai, Option.bind_some, hw]
      refine (f1 _).trans ?_
      exact f2 k
    · rw [Sk.len_app] at hc
      obtain ⟨n, rfl⟩ : ∃ q, n = q + 1 := ⟨n - 1, by omega⟩
      obtain ⟨l1, f1, n1, x1, i1⟩ := r1 c (by omega)
      obtain ⟨l2, f2, n2, x2, i2⟩ := r2 n l1 (by omega) (by omega)
      obtain ⟨j1, j2, j3⟩ := join c l1 l2 n1 x1 i1 n2 x2 i2
      refine ⟨l2, fun k => ?_, j1, j2, j3⟩
      show r16_block_2_l0_b Fr N l V Po Ti [] k (r16_block_2_l0 Fr N l V Po Ti [] k n) (i : Int) c = k l2
      unfold r16_block_2_l0_b
      rw [if_pos (by simp; omega), at_nat, hai, Option.bind_some, hw, f1]
      exact f2 k
def Bl : Nat → Nat
  | 0 => 1400
  | d + 1 => 2 * (Bl d + 702)
def Bm : Nat → Nat
  | 0 => 1400
  | d + 1 => 2 * (4 * (Bm d + 1) + 701)
theorem acts_list {d m e : Nat} (ih : ∀ d', d = d' + 1 → ∀ l, BOK d' l → ∃ s : Sk, s.len ≤ Bl d' ∧ s.most ≤ Bm d' ∧ BlkC R N V Po Ti (Fam_code_writer_block_2_at N m) (Fam_r16_block_2_at N e) l s) {l : List Act} (hl : BOK d l) :
    ∃ B M, 2 * B ≤ Bl d ∧ 2 * M ≤ Bm d ∧ ∀ a ∈ l, ∃ s : Sk, s.len ≤ B ∧ s.most ≤ M ∧ ActC R N V Po Ti (Fam_code_writer_block_2_at N (m + 1)) (Fam_r16_block_2_at N (e + 1)) a s := by
  obtain ⟨h1, h2⟩ := BOK_iff.1 hl
  cases d with
  | zero =>
    refine ⟨700, 700, by simp [Bl], by simp [Bm], fun a ha => ?_⟩
    obtain ⟨x, _, y⟩ := h2 a ha
    rcases y with ⟨y1, y2, _⟩ | ⟨_, _, _, _, y⟩
    · exact act5 hN hV hP hT x y1 y2 _ e
    · exact y.elim
  | succ d =>
    refine ⟨Bl d + 702, 4 * (Bm d + 1) + 701, by simp [Bl], by simp [Bm], fun a ha => ?_⟩
    obtain ⟨x, _, y⟩ := h2 a ha
    rcases y with ⟨y1, y2, _⟩ | ⟨k7, _, n1, n4, y⟩
    · obtain ⟨s, g1, g2, g3⟩ := act5 (R := R) hN hV hP hT x y1 y2 (Fam_code_writer_block_2_at N (m + 1)) e
      exact ⟨s, by omega, by omega, g3⟩
    · obtain ⟨s, g1, g2, g3⟩ := ih d rfl a.Then y
      obtain ⟨n, hn⟩ : ∃ n : Nat, a.N = (n : Int) := ⟨a.N.toNat, by omega⟩
      refine ⟨.loop n s .nil, by simp only [Sk.len]; omega, ?_, act7 hN hV hP hT k7 hn (by omega) g3⟩
      simp only [Sk.most]
      have : n * (s.most + 1) ≤ 4 * (Bm d + 1) := Nat.mul_le_mul (by omega) (by omega)
      omega
theorem blk_ok : ∀ (d m e : Nat), 2 * d + 2 ≤ m → 2 * d + 2 ≤ e → ∀ l, BOK d l → ∃ s : Sk, s.len ≤ Bl d ∧ s.most ≤ Bm d ∧ BlkC R N V Po Ti (Fam_code_writer_block_2_at N m) (Fam_r16_block_2_at N e) l s := by
  intro d
  have hb : big = 1000000000 := rfl
  induction d with
  | zero =>
    intro m e hm he l hl
    obtain ⟨m, rfl⟩ : ∃ q, m = q + 2 := ⟨m - 2, by omega⟩
    obtain ⟨e, rfl⟩ : ∃ q, e = q + 2 := ⟨e - 2, by omega⟩
    obtain ⟨B, M, hB, hM, ha⟩ := acts_list (R := R) hN hV hP hT (m := m) (e := e) (fun d' h => by omega) hl
    have h2 := (BOK_iff.1 hl).1
    obtain ⟨s, s1, s2, s3, s4⟩ := list_ok (R := R) hN hV hP hT h2 ha l.length 0 (by omega)
    have q1 : l.length * B ≤ 2 * B := Nat.mul_le_mul_right _ h2
    have q2 : l.length * M ≤ 2 * M := Nat.mul_le_mul_right _ h2
    refine ⟨s, by omega, by omega, fun c hc => ?_, fun c hc => ?_⟩
    · obtain ⟨l', f, r⟩ := s3 N c (by omega) hc
      exact ⟨l', fun k => f k, r⟩
    · obtain ⟨l', f, r⟩ := s4 N c (by omega) hc
      exact ⟨l', fun k => f k, r⟩
  | succ d ih =>
    intro m e hm he l hl
    obtain ⟨m, rfl⟩ : ∃ q, m = q + 2 := ⟨m - 2, by omega⟩
    obtain ⟨e, rfl⟩ : ∃ q, e = q + 2 := ⟨e - 2, by omega⟩
    obtain ⟨B, M, hB, hM, ha⟩ := acts_list (R := R) hN hV hP hT (m := m) (e := e) (fun d' h l hl => by cases h; exact ih m e (by omega) (by omega) l hl) hl
    have h2 := (BOK_iff.1 hl).1
    obtain ⟨s, s1, s2, s3, s4⟩ := list_ok (R := R) hN hV hP hT h2 ha l.length 0 (by omega)
    have q1 : l.length * B ≤ 2 * B := Nat.mul_le_mul_right _ h2
    have q2 : l.length * M ≤ 2 * M := Nat.mul_le_mul_right _ h2
    refine ⟨s, by omega, by omega, fun c hc => ?_, fun c hc => ?_⟩
    · obtain ⟨l', f, r⟩ := s3 N c (by omega) hc
      exact ⟨l', fun k => f k, r⟩
    · obtain ⟨l', f, r⟩ := s4 N c (by omega) hc
      exact ⟨l', fun k => f k, r⟩
end
end Ef
