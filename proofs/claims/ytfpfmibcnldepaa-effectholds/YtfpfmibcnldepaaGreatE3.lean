/- EffectOrder in plain words: both orders are the order by places. -/
import Derived.Test.YtfpfmibcnldepaaGreatE1x1
set_option maxRecDepth 100000
set_option linter.unusedVariables false
set_option linter.unusedSimpArgs false
namespace Ef
open Go TE Go.Proofs
def big : Nat := 1000000000
theorem wr (n : Int) (h1 : -9223372036854775808 ≤ n) (h2 : n ≤ 9223372036854775807) : IntKind.wrap .i64 n = n := IntWalk.i64_in _ ⟨h1, h2⟩
theorem at_nat {α : Type} (l : List α) (i : Nat) : at? l (i : Int) = l[i]? := by unfold at?; rw [if_neg (by omega)]; simp
theorem drop_cons {α : Type} {l : List α} {i : Nat} (h : i < l.length) : ∃ x, l[i]? = some x ∧ l.drop i = x :: l.drop (i + 1) :=
  ⟨l[i], List.getElem?_eq_getElem h, List.drop_eq_getElem_cons h⟩
theorem bl_irr : ∀ s : List UInt8, bytesLess s s = false
  | [] => rfl
  | a :: s => by simp [bytesLess, bl_irr s]
theorem bl_asym : ∀ s t : List UInt8, bytesLess s t = true → bytesLess t s = false
  | [], [], h => by cases h
  | [], _ :: _, _ => rfl
  | _ :: _, [], h => by cases h
  | a :: s, b :: t, h => by
    simp only [bytesLess, Bool.or_eq_true, decide_eq_true_eq, Bool.and_eq_true, beq_iff_eq] at h
    simp only [bytesLess, Bool.or_eq_false_iff, decide_eq_false_iff_not, Bool.and_eq_false_iff, beq_eq_false_iff_ne]
    rcases h with h | ⟨h1, h2⟩
    · exact ⟨fun h' => absurd (UInt8.lt_trans h h') (UInt8.lt_irrefl _), .inl fun e => by rw [e] at h; exact UInt8.lt_irrefl _ h⟩
    · exact ⟨fun h' => by rw [h1] at h'; exact UInt8.lt_irrefl _ h', .inr (bl_asym s t h2)⟩
/-- One mark ahead of another one. -/
def ltM (x y : Mark) : Bool := decide (x.Port < y.Port) || (x.Port == y.Port && bytesLess x.Event y.Event)
def eqM (x y : Mark) : Bool := x.Port == y.Port && x.Event == y.Event
theorem eqM_iff {x y : Mark} : eqM x y = true ↔ x = y := by
  obtain ⟨p, e⟩ := x
  obtain ⟨q, f⟩ := y
  simp [eqM]
theorem eqM_self (x : Mark) : eqM x x = true := eqM_iff.2 rfl
def lessM : List Mark → List Mark → Bool
  | _, [] => false
  | [], _ :: _ => true
  | x :: a, y :: b => if eqM x y = true then lessM a b else ltM x y
theorem ltM_asym {x y : Mark} (h : ltM x y = true) : ltM y x = false := by
  simp only [ltM, Bool.or_eq_true, decide_eq_true_eq, Bool.and_eq_true, beq_iff_eq] at h
  simp only [ltM, Bool.or_eq_false_iff, decide_eq_false_iff_not, Bool.and_eq_false_iff, beq_eq_false_iff_ne]
  rcases h with h | ⟨h1, h2⟩
  · exact ⟨by omega, .inl (by omega)⟩
  · exact ⟨by omega, .inr (bl_asym _ _ h2)⟩
theorem lessM_irr : ∀ a, lessM a a = false
  | [] => rfl
  | x :: a => by simp only [lessM]; rw [if_pos (eqM_self x)]; exact lessM_irr a
section
variable {R : Type} {N : Nat}
/-- the reference's loop -/
def lp (kp0 : Option R) (kp1 : Bool → Option R) : List Mark → List Mark → Option R
  | x :: a, y :: b => if eqM x y = true then lp kp0 kp1 a b else kp1 (ltM x y)
  | _, _ => kp0
theorem lp_less (k : Bool → Option R) : ∀ a b : List Mark, lp (k (decide ((a.length : Int) < b.length))) k a b = k (lessM a b)
  | [], [] => rfl
  | [], y :: b => by simp [lp, lessM]
  | x :: a, [] => by
    simp only [lp, lessM]
    rw [decide_eq_false (by simp only [List.length_cons, List.length_nil]; omega)]
  | x :: a, y :: b => by
    simp only [lp, lessM]
    by_cases e : eqM x y = true
    · rw [if_pos e, if_pos e, ← lp_less k a b]
      congr 2
      simp
    · rw [if_neg e, if_neg e]
theorem r30_loop (a b : List Mark) (ha : a.length < big) (kp0 : Option R) (kp1 : Bool → Option R) : ∀ (n i : Nat), a.length < n + i → i ≤ a.length → r30_Less_l0 N a b kp0 kp1 n (i : Int) = lp kp0 kp1 (a.drop i) (b.drop i) := by
  have hb : big = 1000000000 := rfl
  intro n
  induction n with
  | zero => intro i h1 h2; omega
  | succ n ih =>
    intro i h1 h2
    show r30_Less_l0_b N a b kp0 kp1 _ _ = _
    unfold r30_Less_l0_b
    by_cases hi : i < a.length
    · obtain ⟨x, hx, dx⟩ := drop_cons hi
      by_cases hj : i < b.length
      · obtain ⟨y, hy, dy⟩ := drop_cons hj
        rw [show decide ((i : Int) < (a.length : Nat)) = true by simpa using hi, show decide ((i : Int) < (b.length : Nat)) = true by simpa using hj]
        simp only [ifB, BEq.rfl, if_true, Option.bind_some, at_nat, hx, hy]
        rw [dx, dy]
        simp only [lp]
        have he : (x.Port == y.Port && (x.Event == y.Event && true)) = eqM x y := by simp [eqM]
        rw [he]
        by_cases e : eqM x y = true
        · rw [e]
          simp only [Bool.not_true, Bool.false_eq_true, if_false]
          rw [if_pos trivial, wr _ (by omega) (by omega)]
          exact ih (i + 1) (by omega) (by omega)
        · rw [if_pos (by simpa using e), if_neg e]
          unfold ltM
          cases h3 : decide (x.Port < y.Port) <;> cases h4 : (x.Port == y.Port) <;> simp
      · rw [show decide ((i : Int) < (a.length : Nat)) = true by simpa using hi, show decide ((i : Int) < (b.length : Nat)) = false by simpa using hj]
        simp only [ifB, BEq.rfl, if_true, Option.bind_some, Bool.false_eq_true, if_false]
        rw [dx, List.drop_eq_nil_of_le (show b.length ≤ i by omega)]
        rfl
    · rw [show decide ((i : Int) < (a.length : Nat)) = false by simpa using hi]
      simp only [ifB, Option.bind_some]
      rw [List.drop_eq_nil_of_le (show a.length ≤ i by omega)]
      rfl
theorem rless_eq (a b : List Mark) (ha : a.length < N) (hN : a.length < big) (k : Bool → Option R) : r30_Less N a b k = k (lessM a b) := by
  unfold r30_Less
  have := r30_loop (N := N) a b hN (k (decide ((a.length : Int) < b.length))) k N 0 (by omega) (by omega)
  rw [← lp_less k a b]
  exact this
/-- three ways -/
def cO (x y : Mark) : Int := if eqM x y = true then 0 else if ltM x y = true then -1 else 1
theorem order1_eq (hN : 3 < N) (x y : Mark) (k : Int → Option R) : effect_order_1 N x.Port x.Event y.Port y.Event k = k (cO x y) := by
  obtain ⟨N, rfl⟩ : ∃ m, N = m + 3 := ⟨N - 3, by omega⟩
  have hor : ∀ (p q : Int) (k : Int → Option R), cmp_Or_int (N + 3) [p, q] k = k (if p = 0 then q else p) := by
    intro p q k
    unfold cmp_Or_int
    simp only [cmp_Or_int_l0, cmp_Or_int_l0_b, List.length_cons, List.length_nil]
    rw [show at? [p, q] 0 = some p from rfl]
    simp only [Option.bind_some]
    by_cases hp : p = 0
    · subst hp
      simp only [bne_self_eq_false, Bool.false_eq_true, if_false, if_true]
      rw [show IntKind.wrap .i64 (0 + 1) = 1 from rfl, show IntKind.wrap .i64 (1 + 1) = 2 from rfl, show at? [(0 : Int), q] 1 = some q from rfl]
      simp only [Option.bind_some]
      by_cases hq : q = 0
      · subst hq; simp
      · simp [hq]
    · simp [hp]
  unfold effect_order_1 cmp_Compare_int cmp_Compare_string
  simp only [bne_self_eq_false, Bool.false_eq_true, if_false, BEq.rfl, Bool.not_true, hor]
  unfold cO eqM ltM
  rcases Int.lt_trichotomy x.Port y.Port with h | h | h
  · have h1 : ¬ x.Port = y.Port := by omega
    simp [h, h1, hor]
  · simp only [h, Int.lt_irrefl, decide_false, gt_iff_lt, Bool.false_eq_true, if_false, BEq.rfl, Bool.true_and, Bool.false_or]
    by_cases he : x.Event = y.Event
    · rw [he, bl_irr]; simp [hor]
    · cases hb : bytesLess x.Event y.Event <;> simp [hor, he]
  · have h1 : ¬ x.Port = y.Port := by omega
    have h2 : ¬ x.Port < y.Port := by omega
    simp [h, h1, h2, hor]
def lpE (kp0 : Option R) (kp1 : Int → Option R) : List Mark → List Mark → Option R
  | x :: a, y :: b => if cO x y ≠ 0 then kp1 (cO x y) else lpE kp0 kp1 a b
  | _ :: _, [] => kp1 1
  | [], _ => kp0
theorem f41_loop (hN : 3 < N) (a b : List Mark) (ha : a.length < big) (kp0 : Option R) (kp1 : Int → Option R) : ∀ (n i : Nat), a.length < n + i → i ≤ a.length → f41_l0 N a b a (a.length : Nat) kp0 kp1 n (i : Int) = lpE kp0 kp1 (a.drop i) (b.drop i) := by
  have hb : big = 1000000000 := rfl
  intro n
  induction n with
  | zero => intro i h1 h2; omega
  | succ n ih =>
    intro i h1 h2
    show f41_l0_b N a b a _ kp0 kp1 _ _ = _
    unfold f41_l0_b
    by_cases hi : i < a.length
    · obtain ⟨x, hx, dx⟩ := drop_cons hi
      rw [if_pos (by simpa using hi), at_nat, hx, Option.bind_some, dx]
      by_cases hj : i < b.length
      · obtain ⟨y, hy, dy⟩ := drop_cons hj
        rw [if_neg (by simpa using hj), at_nat, hy, Option.bind_some, order1_eq hN, dy]
        simp only [lpE]
        by_cases hc : cO x y = 0
        · rw [hc]
          simp only [bne_self_eq_false, Bool.false_eq_true, if_false, ne_eq, not_true_eq_false]
          rw [wr _ (by omega) (by omega)]
          exact ih (i + 1) (by omega) (by omega)
        · rw [if_pos (by simpa using hc), if_pos hc]
      · rw [if_pos (by simpa using hj), List.drop_eq_nil_of_le (show b.length ≤ i by omega)]
        rfl
    · rw [if_neg (by simpa using hi), List.drop_eq_nil_of_le (show a.length ≤ i by omega)]
      rfl
theorem marks_eq (l : List Mark) (h : l.length < N) (hN : l.length < big) (k : List Mark → Option R) : l30_marks N l k = k l := by
  have hb : big = 1000000000 := rfl
  have key : ∀ (n i : Nat) (out : List Mark), l.length < n + i → i ≤ l.length → out = l.take i → l30_marks_l0 N l k n (i : Int) out = k l := by
    intro n
    induction n with
    | zero => intro i out h1 h2; omega
    | succ n ih =>
      intro i out h1 h2 ho
      show l30_marks_l0_b N l k _ _ _ = _
      unfold l30_marks_l0_b
      have hol : out.length = i := by rw [ho]; simp; omega
      by_cases hi : i < l.length
      · obtain ⟨x, hx, dx⟩ := drop_cons hi
        rw [if_pos (by simpa using hi), at_nat, hx, Option.bind_some, Option.bind_some, if_pos (by simp [maxRow, hol]; omega), wr _ (by omega) (by omega)]
        refine ih (i + 1) _ (by omega) (by omega) ?_
        rw [List.take_add_one, hx, ho]
        rfl
      · rw [if_neg (by simpa using hi), ho, List.take_of_length_le (by omega)]
  exact key N 0 [] (by omega) (by omega) rfl
end
end Ef

